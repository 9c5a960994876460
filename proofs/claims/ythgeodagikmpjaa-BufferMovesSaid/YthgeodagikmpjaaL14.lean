/- The rules with the states in short words: each step names the state before it once. -/
import Derived.Test.YthgeodagikmpjaaL13
namespace Go.Proofs.Ythgeodagikmpjaa.L
open Go Go.Proofs.Ythgeodagikmpjaa.Pu
set_option linter.unusedVariables false

def St.cm (s : St) (c : Chunk) : St := { s with M := c :: s.M }
def St.cf (s : St) (f : Fact) : St := { s with F := s.F ++ [f] }
def St.cf2 (s : St) (f g : Fact) : St := { s with F := s.F ++ [f, g] }
def St.sm (s : St) (k : Nat) (c : Chunk) : St := { s with M := s.M.set k c }
def St.ca (s : St) (k : Nat) (c : Chunk) (f : Fact) : St := { s with M := s.M.set k c, F := s.F ++ [f] }
def St.cc (s : St) (M : List Chunk) (F : List Fact) : St := { s with M := M, F := s.F ++ F }
def St.c0 (s : St) (M : List Chunk) (F : List Fact) : St := { s with M := M ++ s.M, F := s.F ++ F }

section
variable {P : Program} {r : Option Nat} {e : Env} {o : Oper} {Kn : St → Prop} {s : St} {γ γ' : Gh} {w w' : World} {a : Act} {ops : Array Oper} {l : List Oper} {fl : Fl} {dn : List Nat}
theorem op_alloc' {d : Nat} {T : TypeId} {cs : List Value} (ho : o.dst = some d) (hN : d < e.N) (hop : o.op = .alloc T) (hz : zeroOf P T = some cs) (h : ∀ b, Kn ((s.cm (cells b cs T)).put d (.pointer (some ⟨b, 0, none⟩)))) : OpTr P r e o Kn s := op_alloc ho hN hop hz h
theorem op_box' {d : Nat} {T : TypeId} {x : Operand} {v : Value} {cs : List Value} (ho : o.dst = some d) (hN : d < e.N) (hop : o.op = .box T x) (hx : ev s.L x = some v) (hc : v.cells.toList = cs) (h : ∀ b, Kn ((s.cm (cells b cs T)).put d (.pointer (some ⟨b, 0, none⟩)))) : OpTr P r e o Kn s := by
  subst hc; exact op_box ho hN hop hx h
theorem op_store' {k b off n : Nat} {T Tb : TypeId} {x y : Operand} {ag : Bool} {c c' : List Value} {v : Value} (ho : o.dst = none) (hop : o.op = .store T x y) (hx : ev s.L x = some (.pointer (some ⟨b, off, none⟩))) (hy : ev s.L y = some v)
    (hk : s.M[k]? = some (cells b c Tb)) (ht : tyOf P T = some (ag, n)) (hl : v.cells.toList.length = n) (hfit : off + n ≤ c.length) (h1 : ∀ u ∈ v.cells.toList, u.oneCell' = true) (hc' : spl c off v.cells.toList = c')
    (h : Kn (s.sm k (cells b c' Tb))) : OpTr P r e o Kn s := op_store ho hop hx hy hk ht hl hfit h1 hc' h
theorem op_call0' {f d : Nat} {fo : Operand} {xs : List Operand} {tys : Array TypeId} {vs cap : List Value} {Fp : List Fact} {R : Value → List Chunk → List Fact → Prop} (js : List Nat) (hop : o.op = .call { callee := .value fo, args := xs.toArray, argTypes := tys }) (ho : o.dst = some d) (hN : d < e.N)
    (hf : ev s.L fo = some (.func (.func f) #[] cap.toArray)) (hxs : xs.map (ev s.L) = vs.map some) (hen : entersOf P f = true) (hc : Ctr P f (vs ++ cap) [] Fp R) (hF : js.map (s.F[·]?) = Fp.map some)
    (h : ∀ ret M' F', R ret M' F' → Kn ((s.c0 M' F').put d ret)) : OpTr P r e o Kn s := op_call0 js hop ho hN hf hxs hen hc hF h
/-- A call of any known function; its result has a slot. -/
theorem op_callg' {f d : Nat} {fo : Operand} {xs : List Operand} {tys : Array TypeId} {fs vs cap : List Value} {Mp Mr : List Chunk} {Fp : List Fact} {R : Value → List Chunk → List Fact → Prop} (ks rs js : List Nat) (hop : o.op = .call { callee := .value fo, args := xs.toArray, argTypes := tys })
    (hf : ev s.L fo = some (.func (.func f) fs.toArray cap.toArray)) (hxs : xs.map (ev s.L) = vs.map some) (hen : entersOf P f = true) (hc : Ctr P f (fs ++ vs ++ cap) Mp Fp R) (hn : (ks ++ rs).Nodup) (hM : (ks ++ rs).map (s.M[·]?) = (Mp ++ Mr).map some) (hF : js.map (s.F[·]?) = Fp.map some) (ho : o.dst = some d) (hN : d < e.N)
    (h : ∀ ret M' F', R ret M' F' → Kn ((s.cc (M' ++ Mr) F').put d ret)) : OpTr P r e o Kn s :=
  op_callg ks rs js hop hf hxs hen hc hn hM hF (fun q hq => by rw [ho] at hq; cases hq; exact hN) (fun ret M' F' hR => by rw [ho]; exact h ret M' F' hR)
/-- A call without a slot for its result. -/
theorem op_callv' {f : Nat} {fo : Operand} {xs : List Operand} {tys : Array TypeId} {fs vs cap : List Value} {Mp Mr : List Chunk} {Fp : List Fact} {R : Value → List Chunk → List Fact → Prop} (ks rs js : List Nat) (hop : o.op = .call { callee := .value fo, args := xs.toArray, argTypes := tys })
    (hf : ev s.L fo = some (.func (.func f) fs.toArray cap.toArray)) (hxs : xs.map (ev s.L) = vs.map some) (hen : entersOf P f = true) (hc : Ctr P f (fs ++ vs ++ cap) Mp Fp R) (hn : (ks ++ rs).Nodup) (hM : (ks ++ rs).map (s.M[·]?) = (Mp ++ Mr).map some) (hF : js.map (s.F[·]?) = Fp.map some) (ho : o.dst = none)
    (h : ∀ ret M' F', R ret M' F' → Kn (s.cc (M' ++ Mr) F')) : OpTr P r e o Kn s :=
  op_callg ks rs js hop hf hxs hen hc hn hM hF (fun q hq => by rw [ho] at hq; cases hq) (fun ret M' F' hR => by rw [ho]; exact h ret M' F' hR)
theorem op_append' {α : Type} {rp : Rep α} {d k kx ky by_ : Nat} {T E : TypeId} {x y : Operand} {ag : Bool} {xs ys : List α} {A B : Option Addr} {n m cx cy : Nat} {ob : Option Nat} {zc : List Value} (ho : o.dst = some d) (hN : d < e.N)
    (hop : o.op = .call { callee := .builtin .append, args := #[x, y], argTypes := #[T, T] }) (hT : sliceOf P T = some E) (ht : tyOf P E = some (ag, rp.sz)) (hz : zeroOf P E = some zc) (hzl : zc.length = rp.sz) (hby : bytesOf P E = some by_)
    (hx : ev s.L x = some (.slice A n cx)) (hn : n = xs.length) (hy : ev s.L y = some (.slice B m cy)) (hm : m = ys.length) (hk : s.M[k]? = some (grow E rp.sz (.slice A n cx) n ob)) (hfx : s.F[kx]? = some (slF rp A cx xs)) (hfy : s.F[ky]? = some (slF rp B cy ys))
    (hb : (xs.length + ys.length) * by_ ≤ big) (hb2 : xs.length + ys.length ≤ big)
    (h : ∀ A' c' ob', Kn ((s.ca k (grow E rp.sz (.slice A' (xs ++ ys).length c') (xs ++ ys).length ob') (slF rp A' c' (xs ++ ys))).put d (.slice A' (xs ++ ys).length c'))) : OpTr P r e o Kn s := op_append ho hN hop hT ht hz hzl hby hx hn hy hm hk hfx hfy hb hb2 h
theorem op_buildSlice' {α : Type} {rp : Rep α} {d len : Nat} {T E : TypeId} {ag : Bool} {ps : List (Nat × Operand)} {vs zc out : List Value} {xs : List α} (ho : o.dst = some d) (hN : d < e.N) (hop : o.op = .buildSlice T len ps.toArray) (hT : sliceOf P T = some E) (ht : tyOf P E = some (ag, rp.sz)) (hz : zeroOf P E = some zc)
    (hps : ps.map (fun p => ev s.L p.2) = vs.map some) (hout : fillL (fun i => some (i * rp.sz, rp.sz)) (if len * rp.sz = 0 then [] else zrow zc (len * rp.sz)) ((ps.map (·.1)).zip (vs.map fun v => v.cells.toList)) = some out) (hbig : len * rp.sz ≤ 16777216) (hbig2 : len ≤ big) (hlen : xs.length = len)
    (hrow : ∀ γ w, (∀ f ∈ s.F, f.p γ w) → Row rp γ w xs out) (h : ∀ A, Kn ((s.cf (slF rp A len xs)).put d (.slice A len len))) : OpTr P r e o Kn s := op_buildSlice ho hN hop hT ht hz hps hout hbig hbig2 hlen hrow h
theorem TrL.addF' (f : Fact) (hf : ∀ γ w, (∀ g ∈ s.F, g.p γ w) → (∀ c ∈ s.M, c.p γ w) → f.p γ w) (h : TrL P r e ops l Kn (s.cf f)) : TrL P r e ops l Kn s := TrL.addF f hf h
theorem TrAny.addF' (f : Fact) (hf : ∀ γ w, (∀ g ∈ s.F, g.p γ w) → (∀ c ∈ s.M, c.p γ w) → f.p γ w) (hok : FlOk ops fl s) (h : FlOk ops fl (s.cf f) → TrAny P r e ops fl dn Kn (s.cf f)) : TrAny P r e ops fl dn Kn s := TrAny.addF f hf hok h
theorem TrL.openS' {α : Type} {rp : Rep α} {k c : Nat} {i : Int} {A : Option Addr} {xs : List (List α)} {z : List α} (hk : s.F[k]? = some (slF (rSl rp) A c xs)) (hi : rdo xs i = some z)
    (h : ∀ B q, TrL P r e ops l Kn (s.cf2 (slF rp B q z) (cellF ⟨ablk A, aoff A + i.toNat * 1, none⟩ (.slice B z.length q)))) : TrL P r e ops l Kn s := TrL.openS hk hi h
theorem TrAny.openS' {α : Type} {rp : Rep α} {k c : Nat} {i : Int} {A : Option Addr} {xs : List (List α)} {z : List α} (hk : s.F[k]? = some (slF (rSl rp) A c xs)) (hi : rdo xs i = some z) (hok : FlOk ops fl s)
    (h : ∀ B q, FlOk ops fl (s.cf2 (slF rp B q z) (cellF ⟨ablk A, aoff A + i.toNat * 1, none⟩ (.slice B z.length q))) → TrAny P r e ops fl dn Kn (s.cf2 (slF rp B q z) (cellF ⟨ablk A, aoff A + i.toNat * 1, none⟩ (.slice B z.length q)))) : TrAny P r e ops fl dn Kn s := TrAny.openS hk hi hok h
theorem TrL.full' {E : TypeId} {sz : Nat} {A : Option Addr} {n : Nat} (h : TrL P r e ops l Kn (s.cm (grow E sz (.slice A n n) n none))) : TrL P r e ops l Kn s := TrL.full h
theorem TrAny.full' {E : TypeId} {sz : Nat} {A : Option Addr} {n : Nat} (hok : FlOk ops fl s) (h : FlOk ops fl (s.cm (grow E sz (.slice A n n) n none)) → TrAny P r e ops fl dn Kn (s.cm (grow E sz (.slice A n n) n none))) : TrAny P r e ops fl dn Kn s := TrAny.full hok h
theorem Imp.full' {t : St} {E : TypeId} {sz : Nat} {A : Option Addr} {n : Nat} (h : Imp e (s.cm (grow E sz (.slice A n n) n none)) t) : Imp e s t := Imp.full h
theorem Imp.addF' {t : St} (f : Fact) (hf : ∀ γ w, (∀ g ∈ s.F, g.p γ w) → (∀ c ∈ s.M, c.p γ w) → f.p γ w) (h : Imp e (s.cf f) t) : Imp e s t := Imp.addF f hf h

/-! ### What is kept by a step in a drawn order -/
theorem Holds.putBack {X : St} {d : Nat} {v : Value} (hL : X.L = s.L) (hd : s.L.lookup d = none) (hM : s.M.Sublist X.M) (hF : ∀ f ∈ s.F, f ∈ X.F) (hD : s.D = X.D) : Imp e (X.put d v) s := fun γ a w hh =>
  { size := hh.size
    slots := fun i u hi => hh.slots i u (by
      simp only [St.put, List.lookup_cons, hL]
      by_cases h : i = d
      · subst h; rw [hd] at hi; cases hi
      · rw [show (i == d) = false by simpa using h]; exact hi)
    defers := hh.defers.trans hD.symm
    hm := ⟨fun c hc => hh.hm.all c (hM.subset hc), hh.hm.sep.sublist hM⟩
    own := fun c hc => hh.own c (hM.subset hc)
    facts := fun f hf => hh.facts f (hF f hf)
    fr := hh.fr
    ok := hh.ok }
theorem kp_c0 {d : Nat} {v : Value} {M' : List Chunk} {F' : List Fact} (hd : s.L.lookup d = none) : Imp e ((s.c0 M' F').put d v) s := Holds.putBack rfl hd (List.sublist_append_right _ _) (fun _ hf => List.mem_append_left _ hf) rfl
theorem kp_cm {d : Nat} {v : Value} {c : Chunk} (hd : s.L.lookup d = none) : Imp e ((s.cm c).put d v) s := Holds.putBack rfl hd (List.sublist_cons_self _ _) (fun _ hf => hf) rfl
theorem kp_cf {d : Nat} {v : Value} {f : Fact} (hd : s.L.lookup d = none) : Imp e ((s.cf f).put d v) s := Holds.putBack rfl hd (List.Sublist.refl _) (fun _ hf => List.mem_append_left _ hf) rfl
theorem kp_put {d : Nat} {v : Value} (hd : s.L.lookup d = none) : Imp e (s.put d v) s := Holds.putBack rfl hd (List.Sublist.refl _) (fun _ hf => hf) rfl
theorem kp_imp {j : Nat} {s' : St} (hi : Imp e s' s) : Kp P e ops j fl s s' := fun p hp _ ⟨o, ho, hnd, hrun⟩ => ⟨o, ho, hnd, fun γ a w hh => hrun γ a w (hi γ a w hh)⟩
theorem kp_all {j : Nat} {s' : St} (h : AllV P e ops j s' fl) : Kp P e ops j fl s s' := fun p hp hw _ => h.spec p hp hw
def awB (ops : Array Oper) (j : Nat) (fl : List Nat) : Bool := fl.all fun i => waits ops j i
theorem kp_aw {j : Nat} {s' : St} (h : awB ops j (fl.map (·.1)) = true) : Kp P e ops j fl s s' := fun p hp hw _ => by
  have := List.all_eq_true.1 h p.1 (List.mem_map.2 ⟨p, hp, rfl⟩)
  rw [this] at hw
  cases hw
theorem FlOk.put {X : St} {d : Nat} {v : Value} (hok : FlOk ops fl s) (hL : X.L = s.L) (hd : allDB (some d) (fl.map (·.2.1)) = true) : FlOk ops fl (X.put d v) := ⟨hok.shaped, hok.nodup, fun p hp => by
  have hne := allDB_spec hd p hp
  simp only [St.put, List.lookup_cons, hL]
  rw [show (p.2.1 == d) = false by simpa using fun q : p.2.1 = d => hne (by rw [q])]
  exact hok.slot p hp⟩
theorem FlOk.same {s' : St} (hok : FlOk ops fl s) (hL : s'.L = s.L) : FlOk ops fl s' := ⟨hok.shaped, hok.nodup, fun p hp => by rw [hL]; exact hok.slot p hp⟩
/-- Behind a step that has a slot. -/
theorem nxp {X : St} {d j : Nat} {v : Value} (hok : FlOk ops fl s) (hk : Kp P e ops j fl s (X.put d v)) (hL : X.L = s.L) (hd : allDB (some d) (fl.map (·.2.1)) = true) (h : FlOk ops fl (X.put d v) → TrAny P r e ops fl (j :: dn) Kn (X.put d v)) :
    Kp P e ops j fl s (X.put d v) ∧ TrAny P r e ops fl (j :: dn) Kn (X.put d v) := ⟨hk, h (hok.put hL hd)⟩
/-- Behind a step without a slot. -/
theorem nxs {s' : St} {j : Nat} (hok : FlOk ops fl s) (hk : Kp P e ops j fl s s') (hL : s'.L = s.L) (h : FlOk ops fl s' → TrAny P r e ops fl (j :: dn) Kn s') :
    Kp P e ops j fl s s' ∧ TrAny P r e ops fl (j :: dn) Kn s' := ⟨hk, h (hok.same hL)⟩
end
end Go.Proofs.Ythgeodagikmpjaa.L
