/- Slices that are owned whole: made, stored into, copied into, cut, sealed; texts as bytes; pointers that are compared with nil. -/
import Derived.Test.YthgeodagikmpjaaL16
import Derived.Laws.MakeOwn
import Derived.Laws.CopyRow
import Derived.Laws.IdiomCopy
import Derived.Laws.IdiomStrings
namespace Go.Proofs.Ythgeodagikmpjaa.L
open Go Go.Proofs.Ythgeodagikmpjaa.Pu
set_option linter.unusedVariables false

/-- A slice that is owned, with the room behind it: nothing of its block is sealed. -/
def arr {α : Type} (rp : Rep α) (E : TypeId) (A : Option Addr) (n c : Nat) (ys : List α) : Chunk where
  fp b := ∃ off sp, A = some ⟨b, off, sp⟩
  p γ w := ys.length = n ∧ n ≤ c ∧ n ≤ top ∧ ((A = none ∧ n = 0 ∧ c = 0) ∨ ∃ b cur, A = some ⟨b, 0, none⟩ ∧ (cells b cur E).p γ w ∧ cur.length = c * rp.sz ∧ Row rp γ w ys (cur.take (n * rp.sz)))
  lt := fun {γ w b} h hb => by
    obtain ⟨off, sp, hA⟩ := hb
    rcases h.2.2.2 with ⟨h, _⟩ | ⟨b', cur, h, hc, _⟩
    · rw [h] at hA; cases hA
    · rw [h] at hA; cases hA; exact Chunk.lt _ hc rfl
  stable := fun {γ w γ' w'} hs hle h => by
    obtain ⟨h1, h2, h3, h4⟩ := h
    refine ⟨h1, h2, h3, ?_⟩
    rcases h4 with h | ⟨b', cur, h, hc, hl, hr⟩
    · exact .inl h
    · exact .inr ⟨b', cur, h, Chunk.stable _ (fun b hb => by cases hb; exact hs b' ⟨_, _, h⟩) hle hc, hl, hr.mono hle⟩

section
variable {P : Program} {r : Option Nat} {e : Env} {o : Oper} {Kn : St → Prop} {s : St} {γ γ' : Gh} {w w' : World} {a : Act}
variable {α : Type} {rp : Rep α} {E : TypeId} {A : Option Addr} {n c k : Nat} {ys : List α}

/-! ### Sealed -/
theorem Holds.shut (hh : Holds e s γ a w) (hk : s.M[k]? = some (arr rp E A n c ys)) : n = ys.length ∧ ∃ γ', Holds e { s with M := s.M.eraseIdx k, F := s.F ++ [slF rp A c ys] } γ' a w := by
  have hp := hh.perm (perm_front hk)
  obtain ⟨h1, h2, h3, h4⟩ := hp.hm.all _ List.mem_cons_self
  refine ⟨h1.symm, ?_⟩
  have hsep := List.pairwise_cons.1 hp.hm.sep
  rcases h4 with ⟨rfl, h0, _⟩ | ⟨b, cur, rfl, hc, hl, hr⟩
  · have hy : ys = [] := List.eq_nil_of_length_eq_zero (by omega)
    subst hy
    refine ⟨γ, Holds.addF (s := { s with M := s.M.eraseIdx k }) (f := slF rp none c []) ?_ ⟨by simp, by simp, fun _ => rfl, fun a ha => by cases ha⟩⟩
    exact { size := hp.size, slots := hp.slots, defers := hp.defers, facts := hp.facts, fr := hp.fr, ok := hp.ok, hm := ⟨fun d hd => hp.hm.all d (List.mem_cons_of_mem _ hd), hsep.2⟩, own := fun d hd => hp.own d (List.mem_cons_of_mem _ hd) }
  · have hblt : b < w.heap.size := Chunk.lt _ hc rfl
    have fr : Fr (· = b) γ w (upd γ b (n * rp.sz)) w := {
      le := ⟨Nat.le_refl _, fun x => by
        by_cases hx : x = b
        · subst hx; rw [hc.2]; exact Nat.zero_le _
        · rw [upd_other _ _ hx]; exact Nat.le_refl _, fun _ _ _ => rfl⟩
      os := rfl
      tape := rfl
      output := rfl
      block := fun _ _ _ => rfl
      gh := fun x _ hx => upd_other _ _ hx }
    have hm0 : HM γ w (s.M.eraseIdx k) := ⟨fun d hd => hp.hm.all d (List.mem_cons_of_mem _ hd), hsep.2⟩
    have hm1 := hm0.keep fr (fun d hd x hx hxb => by subst hxb; exact hsep.1 d hd x ⟨_, _, rfl⟩ hx)
    have hst := hp.step fr (fun x hx => by subst hx; exact hp.own _ List.mem_cons_self x ⟨_, _, rfl⟩) hm1 (fun d hd => hp.own d (List.mem_cons_of_mem _ hd)) (fun x hx => by rw [upd_other _ _ (by omega)]; exact hp.ok x hx)
    refine ⟨_, hst.addF (f := slF rp (some ⟨b, 0, none⟩) c ys) ⟨by omega, by omega, (fun q => by cases q), fun q hq => ?_⟩⟩
    cases hq
    refine ⟨fun _ => rfl, cur.take (n * rp.sz), hr.mono fr.le, fun j v hv => ?_⟩
    rw [List.getElem?_take] at hv
    split at hv
    · rename_i hj
      refine ⟨?_, by rw [upd_same]; simp only [Nat.zero_add]; exact hj⟩
      rw [Nat.zero_add, cell_of_cells hc]; exact hv
    · cases hv
/-- Sealed, but what comes behind may be written yet. -/
theorem Holds.shutG (hh : Holds e s γ a w) (hk : s.M[k]? = some (arr rp E A n c ys)) : n = ys.length ∧ ∃ γ', Holds e { s with M := s.M.set k (grow E rp.sz (.slice A n c) n (A.map (·.block))), F := s.F ++ [slF rp A c ys] } γ' a w := by
  obtain ⟨h1, h2, h3, h4⟩ := hh.hm.all _ (List.mem_of_getElem? hk)
  refine ⟨h1.symm, ?_⟩
  rcases h4 with ⟨rfl, h0, hc0⟩ | ⟨b, cur, rfl, hc, hl, hr⟩
  · have hy : ys = [] := List.eq_nil_of_length_eq_zero (by omega)
    subst hy
    subst h0
    subst hc0
    refine ⟨γ, Holds.addF (s := { s with M := s.M.set k (grow E rp.sz (.slice none 0 0) 0 none) }) (f := slF rp none 0 []) ?_ (SlP.empty rp γ w)⟩
    exact { size := hh.size, slots := hh.slots, defers := hh.defers, facts := hh.facts, fr := hh.fr, ok := hh.ok
            hm := hh.hm.set hk (Fr.refl _ γ w) (.inl ⟨rfl, none, rfl⟩) (fun b hb => by cases hb)
            own := fun d hd b hb => by
              rcases List.mem_or_eq_of_mem_set hd with t | t
              · exact hh.own d t b hb
              · subst t; cases hb }
  · have hblt : b < w.heap.size := Chunk.lt _ hc rfl
    have hfp : ∀ q, (arr rp E (some ⟨b, 0, none⟩) n c ys).fp q ↔ q = b := fun q => ⟨fun ⟨_, _, hA⟩ => by cases hA; rfl, fun hq => by subst hq; exact ⟨_, _, rfl⟩⟩
    have fr : Fr (arr rp E (some ⟨b, 0, none⟩) n c ys).fp γ w (upd γ b (n * rp.sz)) w := {
      le := ⟨Nat.le_refl _, fun x => by
        by_cases hx : x = b
        · subst hx; rw [hc.2]; exact Nat.zero_le _
        · rw [upd_other _ _ hx]; exact Nat.le_refl _, fun _ _ _ => rfl⟩
      os := rfl
      tape := rfl
      output := rfl
      block := fun _ _ _ => rfl
      gh := fun x _ hx => upd_other _ _ (fun q => hx ((hfp x).2 q)) }
    have hst := hh.step fr (fun x hx => hh.own _ (List.mem_of_getElem? hk) x hx) (hh.hm.set hk fr (c' := grow E rp.sz (.slice (some ⟨b, 0, none⟩) n c) n (some b)) (.inr ⟨b, c, cur.toArray, rfl, rfl, hc.1, h2, by simpa using hl, upd_same _ _ _⟩) (fun x hx => .inl ((hfp x).2 (by cases hx; rfl))))
      (fun d hd x hx => by
        rcases List.mem_or_eq_of_mem_set hd with t | t
        · exact hh.own d t x hx
        · subst t; exact hh.own _ (List.mem_of_getElem? hk) x ((hfp x).2 (by cases hx; rfl))) (fun x hx => by rw [upd_other _ _ (by omega)]; exact hh.ok x hx)
    refine ⟨_, hst.addF (f := slF rp (some ⟨b, 0, none⟩) c ys) ⟨by omega, by omega, (fun q => by cases q), fun q hq => ?_⟩⟩
    cases hq
    refine ⟨fun _ => rfl, cur.take (n * rp.sz), hr.mono fr.le, fun j v hv => ?_⟩
    rw [List.getElem?_take] at hv
    split at hv
    · rename_i hj
      refine ⟨?_, by rw [upd_same]; simp only [Nat.zero_add]; exact hj⟩
      rw [Nat.zero_add, cell_of_cells hc]; exact hv
    · cases hv
theorem Tr.shutG {cd : Code} {Q : SPost} (t : St) (k : Nat) (hk : s.M[k]? = some (arr rp E A n c ys)) (ht : n = ys.length → ({ s with M := s.M.set k (grow E rp.sz (.slice A n c) n (A.map (·.block))), F := s.F ++ [slF rp A c ys] } : St) = t) (h : Tr P r e cd Q t) : Tr P r e cd Q s := fun γ a w hh => by
  obtain ⟨hn, γ', h2⟩ := hh.shutG hk
  rw [ht hn] at h2
  exact h γ' a w h2
theorem Tr.shut {cd : Code} {Q : SPost} (t : St) (k : Nat) (hk : s.M[k]? = some (arr rp E A n c ys)) (ht : n = ys.length → ({ s with M := s.M.eraseIdx k, F := s.F ++ [slF rp A c ys] } : St) = t) (h : Tr P r e cd Q t) : Tr P r e cd Q s := fun γ a w hh => by
  obtain ⟨hn, γ', h2⟩ := hh.shut hk
  rw [ht hn] at h2
  exact h γ' a w h2
theorem TrL.shut {ops : Array Oper} {l : List Oper} (t : St) (k : Nat) (hk : s.M[k]? = some (arr rp E A n c ys)) (ht : n = ys.length → ({ s with M := s.M.eraseIdx k, F := s.F ++ [slF rp A c ys] } : St) = t) (h : TrL P r e ops l Kn t) : TrL P r e ops l Kn s := fun γ a w hh => by
  obtain ⟨hn, γ', h2⟩ := hh.shut hk
  rw [ht hn] at h2
  exact h γ' a w h2
theorem OpTr.shut (t : St) (k : Nat) (hk : s.M[k]? = some (arr rp E A n c ys)) (ht : n = ys.length → ({ s with M := s.M.eraseIdx k, F := s.F ++ [slF rp A c ys] } : St) = t) (h : OpTr P r e o Kn t) : OpTr P r e o Kn s := fun γ a w hh => by
  obtain ⟨hn, γ', h2⟩ := hh.shut hk
  rw [ht hn] at h2
  exact h γ' a w h2
/-- The number of elements, said anew. -/
theorem Tr.renorm {cd : Code} {Q : SPost} (t : St) (k : Nat) (hk : s.M[k]? = some (arr rp E A n c ys)) (ht : n = ys.length → s = t) (h : Tr P r e cd Q t) : Tr P r e cd Q s := fun γ a w hh => by
  have hn := (hh.hm.all _ (List.mem_of_getElem? hk)).1
  rw [← ht hn.symm] at h
  exact h γ a w hh
theorem TrL.renorm {ops : Array Oper} {l : List Oper} (t : St) (k : Nat) (hk : s.M[k]? = some (arr rp E A n c ys)) (ht : n = ys.length → s = t) (h : TrL P r e ops l Kn t) : TrL P r e ops l Kn s := fun γ a w hh => by
  have hn := (hh.hm.all _ (List.mem_of_getElem? hk)).1
  rw [← ht hn.symm] at h
  exact h γ a w hh
/-- None is owned of nobody's slice. -/
theorem Holds.arrNil (rp : Rep α) (E : TypeId) (hh : Holds e s γ a w) : Holds e { s with M := arr rp E none 0 0 [] :: s.M } γ a w :=
  { size := hh.size, slots := hh.slots, defers := hh.defers, facts := hh.facts, fr := hh.fr, ok := hh.ok
    hm := hh.hm.cons ⟨rfl, Nat.le_refl _, by simp, .inl ⟨rfl, rfl, rfl⟩⟩ (fun d hd b hb => by obtain ⟨_, _, hA⟩ := hb; cases hA)
    own := fun d hd b hb => by
      rcases List.mem_cons.1 hd with q | q
      · subst q; obtain ⟨_, _, hA⟩ := hb; cases hA
      · exact hh.own d q b hb }
theorem Tr.arrNil {cd : Code} {Q : SPost} (rp : Rep α) (E : TypeId) (h : Tr P r e cd Q { s with M := arr rp E none 0 0 [] :: s.M }) : Tr P r e cd Q s := fun γ a w hh => h γ a w (hh.arrNil rp E)
theorem Imp.arrNil {t : St} (rp : Rep α) (E : TypeId) (h : Imp e { s with M := arr rp E none 0 0 [] :: s.M } t) : Imp e s t := fun γ a w hh => h γ a w (hh.arrNil rp E)

/-! ### Made -/
theorem range_mul (zc : Array Value) (m : Nat) (hm : zc.size = m) : ∀ n, (List.range (n * m)).map (fun j => zc[j % zc.size]!) = (List.replicate n zc.toList).flatten := by
  intro n
  induction n with
  | zero => simp
  | succ n ih =>
    rw [Nat.add_mul, Nat.one_mul, List.range_add, List.map_append, ih, List.replicate_succ', List.flatten_append]
    congr 1
    simp only [List.flatten_cons, List.flatten_nil, List.append_nil, List.map_map]
    apply List.ext_getElem
    · simp [hm]
    · intro i h1 h2
      simp only [List.length_map, List.length_range] at h1
      simp only [List.getElem_map, List.getElem_range, Function.comp]
      rw [hm, Nat.mul_comm, Nat.mul_add_mod, Nat.mod_eq_of_lt h1, getElem!_pos zc i (by omega)]
      simp
theorem row_replicate {z : α} {cs : List Value} (hz : rp.R γ w z cs) : ∀ n, Row rp γ w (List.replicate n z) (List.replicate n cs).flatten := by
  intro n
  induction n with
  | zero => exact .nil
  | succ n ih => rw [List.replicate_succ, List.replicate_succ, List.flatten_cons]; exact .cons hz ih
theorem op_make {d by_ : Nat} {T : TypeId} {x y : Operand} {ag : Bool} {kl kc : IntKind} {l : Int} {zc : List Value} {z : α} (ho : o.dst = some d) (hN : d < e.N) (hop : o.op = .makeSlice T x y) (hT : sliceOf P T = some E) (ht : tyOf P E = some (ag, rp.sz)) (hz : zeroOf P E = some zc) (hzl : zc.length = rp.sz) (hby : bytesOf P E = some by_)
    (hx : ev s.L x = some (.int kl l)) (hy : ev s.L y = some (.int kc l)) (h0 : 0 ≤ l) (hb : l.toNat * by_ ≤ big) (hb2 : l.toNat ≤ big) (hR : ∀ γ w, rp.R γ w z zc)
    (h : ∀ A, Kn (({ s with M := arr rp E A l.toNat l.toNat (List.replicate l.toNat z) :: s.M } : St).put d (.slice A l.toNat l.toNat))) : OpTr P r e o Kn s := by
  intro γ a w hh K Q hK
  refine ⟨fun f _ => fen_fn r f, ?_⟩
  obtain ⟨i, hi, hsz⟩ := tyOf_info ht
  obtain ⟨i', zv, hi', hz', hzc⟩ := zeroOf_info hz
  obtain ⟨i'', hi'', hby'⟩ := bytesOf_info hby
  rw [hi] at hi' hi''
  cases hi'
  cases hi''
  have hb' : (i.bytes : Int) * l ≤ 281474976710656 := by
    have h1 : ((l.toNat * by_ : Nat) : Int) ≤ 140737488355328 := Int.ofNat_le.2 hb
    rw [Int.natCast_mul, Int.toNat_of_nonneg h0] at h1
    rw [hby', Int.mul_comm]
    omega
  have hr := run_make (P := P) w T E i zv (sliceOf_und hT) hi hz' kl kc l l h0 (Int.le_refl _) hb' (by simp only [big] at hb2; omega)
  have hcells : madeCells zv.cells (l.toNat * i.size) = ((List.replicate l.toNat zc).flatten).toArray := by
    apply Array.ext'
    rw [← hzc, ← range_mul zv.cells i.size (by rw [hsz, ← hzl, ← hzc]; simp) l.toNat]
    simp [madeCells]
  rw [hcells] at hr
  have hrun : (execOp a.eval o).run P w = .ok (.value (.slice (some ⟨w.heap.size, 0, none⟩) l.toNat l.toNat)) (w.alloc (.cells ((List.replicate l.toNat zc).flatten).toArray E)) := by
    simp only [execOp, hop, Sem.run_bind, hh.eval hx, hh.eval hy, hr, Result.andThen, Sem.run_pure]
  rw [semAt_eq _ _ _ (by rw [hop]; intro c; simp), hrun, Oper.uponIn_value, ho]
  have hn := hh.new (List.replicate l.toNat zc).flatten E
  have hlen : ((List.replicate l.toNat zc).flatten).length = l.toNat * rp.sz := (row_replicate (hR γ w) l.toNat).len.trans (by rw [List.length_replicate])
  refine hK _ γ _ _ (h (some ⟨w.heap.size, 0, none⟩)) (Holds.put ?_ d _ hN)
  have hc : (cells w.heap.size (List.replicate l.toNat zc).flatten E).p γ (w.alloc (.cells ((List.replicate l.toNat zc).flatten).toArray E)) := hn.hm.all _ List.mem_cons_self
  have hsep := List.pairwise_cons.1 hn.hm.sep
  exact { size := hn.size, slots := hn.slots, defers := hn.defers, facts := hn.facts, fr := hn.fr, ok := hn.ok
          hm := HM.cons ⟨fun d hd => hn.hm.all d (List.mem_cons_of_mem _ hd), hsep.2⟩ ⟨List.length_replicate .., Nat.le_refl _, by simp only [big] at hb2; simp only [top]; omega, .inr ⟨_, _, rfl, hc, hlen, by rw [← hlen, List.take_length]; exact row_replicate (hR _ _) _⟩⟩ (fun d hd b hb => by
            obtain ⟨off, sp, hA⟩ := hb
            cases hA
            exact hsep.1 d hd _ rfl)
          own := fun d hd b hb => by
            rcases List.mem_cons.1 hd with q | q
            · subst q
              obtain ⟨off, sp, hA⟩ := hb
              cases hA
              exact hn.own _ List.mem_cons_self _ rfl
            · exact hn.own d (List.mem_cons_of_mem _ q) b hb }

theorem op_make' {d by_ : Nat} {T : TypeId} {x y : Operand} {ag : Bool} {kl kc : IntKind} {l : Int} {zc : List Value} {z : α} (ho : o.dst = some d) (hN : d < e.N) (hop : o.op = .makeSlice T x y) (hT : sliceOf P T = some E) (ht : tyOf P E = some (ag, rp.sz)) (hz : zeroOf P E = some zc) (hzl : zc.length = rp.sz) (hby : bytesOf P E = some by_)
    (hx : ev s.L x = some (.int kl l)) (hy : ev s.L y = some (.int kc l)) (h0 : 0 ≤ l) (hn : l.toNat = n) (hb : n * by_ ≤ big ∧ n ≤ big) (hR : ∀ γ w, rp.R γ w z zc)
    (h : ∀ A, Kn (({ s with M := arr rp E A n n (List.replicate n z) :: s.M } : St).put d (.slice A n n))) : OpTr P r e o Kn s := by
  subst hn
  exact op_make ho hN hop hT ht hz hzl hby hx hy h0 hb.1 hb.2 hR h

/-! ### Elements -/
theorem arr_some (h : (arr rp E A n c ys).p γ w) {i : Int} {z : α} (hi : rdo ys i = some z) : ∃ b cur, A = some ⟨b, 0, none⟩ ∧ (cells b cur E).p γ w ∧ cur.length = c * rp.sz ∧ Row rp γ w ys (cur.take (n * rp.sz)) := by
  obtain ⟨h0, h1, h2⟩ := rdo_some hi
  rcases h.2.2.2 with ⟨_, q, _⟩ | q
  · have := h.1; omega
  · exact q
theorem v_indexA {m : Nat} {T : TypeId} {x y : Operand} {kd : IntKind} {i : Int} {ag : Bool} {z : α} (hop : o.op = .indexAddr T x y) (hT : sliceOf P T = some E) (ht : tyOf P E = some (ag, m)) (hx : ev s.L x = some (.slice A n c)) (hy : ev s.L y = some (.int kd i)) (hk : s.M[k]? = some (arr rp E A n c ys)) (hi : rdo ys i = some z) :
    OpV P e o s (.pointer (some ⟨ablk A, aoff A + i.toNat * m, none⟩)) :=
  ⟨(by rw [hop]; intro c; simp), (fun γ a w hh => by
    obtain ⟨h0, h1, h2⟩ := rdo_some hi
    have hc := hh.hm.all _ (List.mem_of_getElem? hk)
    obtain ⟨b, cur, rfl, _⟩ := arr_some hc hi
    have hn := hc.1
    have h1' : i < (n : Int) := by omega
    simp only [execOp, hop, hh.eval hx, hh.eval hy, Instr.indexAt, asIntOf, Sem.run_bind, Sem.run_pure, Result.andThen, run_und' (sliceOf_und hT)]
    simp [h0, h1', run_sizeOf' ht, add_off, ablk, aoff])⟩
theorem row_ground {g : α → List Value} {sz : Nat} {hl1 : ∀ x, (g x).length = sz} {h1 : ∀ x, ∀ v ∈ g x, v.oneCell' = true} {xs : List α} {ds : List Value} (h : Row (ground sz g hl1 h1) γ w xs ds) : Row (ground sz g hl1 h1) γ' w' xs ds := by
  induction h with
  | nil => exact .nil
  | cons hx _ ih => exact .cons hx ih
theorem v_loadA {g : α → List Value} {sz : Nat} {hl1 : ∀ x, (g x).length = sz} {h1 : ∀ x, ∀ v ∈ g x, v.oneCell' = true} {m j : Nat} {T : TypeId} {x : Operand} {i : Int} {ag : Bool} {z : α} {v : Value} (hop : o.op = .load T x)
    (ht : tyOf P T = some (ag, m)) (hm : ag = false → m = 1) (hx : ev s.L x = some (.pointer (some ⟨ablk A, aoff A + i.toNat * sz + j, none⟩))) (hk : s.M[k]? = some (arr (ground sz g hl1 h1) E A n c ys)) (hi : rdo ys i = some z)
    (hl : (((g z).drop j).take m).length = m) (hv : mkv ag (((g z).drop j).take m) = v) : OpV P e o s v :=
  ⟨(by rw [hop]; intro c; simp), (fun γ a w hh => by
    obtain ⟨h0, h1', h2⟩ := rdo_some hi
    obtain ⟨b, cur, rfl, hc, hcl, hr⟩ := arr_some (hh.hm.all _ (List.mem_of_getElem? hk)) hi
    obtain ⟨cs, hcs, hds⟩ := hr.get h2
    have hcs' : cs = g z := hcs
    subst hcs'
    have := run_loadVar' (w := w) ht hm ⟨b, 0 + i.toNat * sz + j, none⟩ (((g z).drop j).take m) hl (fun q u hu => by
      rw [add_off, cell_of_cells hc]
      rw [List.getElem?_take] at hu
      split at hu
      · rw [List.getElem?_drop] at hu
        rw [← hds, List.getElem?_take] at hu
        split at hu
        · rw [List.getElem?_drop, List.getElem?_take] at hu
          split at hu
          · simp only [ground] at hu
            rw [show 0 + i.toNat * sz + j + q = i.toNat * sz + (j + q) by omega]
            exact hu
          · cases hu
        · cases hu
      · cases hu)
    have hx' := hh.eval hx
    simp only [ablk, aoff, Option.map_some, Option.getD_some] at hx'
    simp only [execOp, hop, hx', Instr.loadAt, Instr.sureAddr, Sem.run_bind, Sem.run_pure, Result.andThen, this, hv])⟩
theorem row_flat {g : α → List Value} {sz : Nat} {hl1 : ∀ x, (g x).length = sz} {h1 : ∀ x, ∀ v ∈ g x, v.oneCell' = true} {xs : List α} {ds : List Value} : Row (ground sz g hl1 h1) γ w xs ds ↔ ds = (xs.map g).flatten := by
  constructor
  · intro h
    induction h with
    | nil => rfl
    | cons hx _ ih =>
      have hx' : _ = g _ := hx
      rw [hx', ih]; rfl
  · rintro rfl
    induction xs with
    | nil => exact .nil
    | cons x xs ih => exact Row.cons (r := ground sz g hl1 h1) (x := x) (cs := g x) rfl ih
theorem spl_flat {g : α → List Value} {sz : Nat} (hl1 : ∀ x, (g x).length = sz) : ∀ (xs : List α) (i j : Nat) (z z' : α) (vs : List Value) (rest : List Value), xs[i]? = some z → j + vs.length ≤ sz → spl (g z) j vs = g z' →
    spl ((xs.map g).flatten ++ rest) (i * sz + j) vs = ((xs.set i z').map g).flatten ++ rest := by
  intro xs
  induction xs with
  | nil => intro i j z z' vs rest h; simp at h
  | cons x xs ih =>
    intro i j z z' vs rest h hj hz
    have hgx := hl1 x
    cases i with
    | zero =>
      have hxz : x = z := by simpa using h
      subst hxz
      rw [List.set_cons_zero, List.map_cons, List.map_cons, List.flatten_cons, List.flatten_cons, ← hz, Nat.zero_mul, Nat.zero_add]
      unfold spl
      rw [List.append_assoc, List.append_assoc (g x), List.take_append_of_le_length (by omega), List.drop_append_of_le_length (by omega)]
      simp [List.append_assoc]
    | succ i =>
      rw [List.set_cons_succ, List.map_cons, List.map_cons, List.flatten_cons, List.flatten_cons, List.append_assoc, List.append_assoc, ← ih i j z z' vs rest (by simpa using h) hj hz]
      unfold spl
      have e : (i + 1) * sz + j = (g x).length + (i * sz + j) := by rw [hgx, Nat.add_mul]; omega
      rw [e, List.take_length_add_append, Nat.add_assoc, List.drop_length_add_append]
      simp [List.append_assoc]
theorem op_storeA {g : α → List Value} {sz : Nat} {hl1 : ∀ x, (g x).length = sz} {h1 : ∀ x, ∀ v ∈ g x, v.oneCell' = true} {m j : Nat} {T : TypeId} {x y : Operand} {i : Int} {ag : Bool} {z z' : α} {v : Value} (ho : o.dst = none) (hop : o.op = .store T x y)
    (hx : ev s.L x = some (.pointer (some ⟨ablk A, aoff A + i.toNat * sz + j, none⟩))) (hy : ev s.L y = some v) (hk : s.M[k]? = some (arr (ground sz g hl1 h1) E A n c ys)) (ht : tyOf P T = some (ag, m)) (hl : v.cells.toList.length = m) (hi : rdo ys i = some z) (hfit : j + m ≤ sz)
    (hone : ∀ u ∈ v.cells.toList, u.oneCell' = true) (hz : spl (g z) j v.cells.toList = g z') (h : Kn { s with M := s.M.set k (arr (ground sz g hl1 h1) E A n c (ys.set i.toNat z')) }) : OpTr P r e o Kn s := by
  intro γ a w hh K Q hK
  obtain ⟨h0, h1', h2⟩ := rdo_some hi
  have hA := hh.hm.all _ (List.mem_of_getElem? hk)
  obtain ⟨b, cur, rfl, hc, hcl, hr⟩ := arr_some hA hi
  obtain ⟨p1, p2, p3, _⟩ := hA
  have hlt : k < s.M.length := (List.getElem?_eq_some_iff.1 hk).1
  have hfp : ∀ q, (arr (ground sz g hl1 h1) E (some ⟨b, 0, none⟩) n c ys).fp q ↔ q = b := fun q => ⟨fun ⟨_, _, hA⟩ => by cases hA; rfl, fun hq => by subst hq; exact ⟨_, _, rfl⟩⟩
  -- the chunk as plain cells
  have hh1 : Holds e { s with M := s.M.set k (cells b cur E) } γ a w :=
    { size := hh.size, slots := hh.slots, defers := hh.defers, facts := hh.facts, fr := hh.fr, ok := hh.ok
      hm := hh.hm.set hk (Fr.refl _ γ w) hc (fun q hq => .inl ((hfp q).2 hq))
      own := fun d hd q hq => by
        rcases List.mem_or_eq_of_mem_set hd with t | t
        · exact hh.own d t q hq
        · subst t; exact hh.own _ (List.mem_of_getElem? hk) q ((hfp q).2 hq) }
  have hcl' : cur.length = c * sz := hcl
  have hi' : i.toNat < n := by rw [← p1]; exact (List.getElem?_eq_some_iff.1 h2).1
  have hin : i.toNat * sz + sz ≤ n * sz := by rw [← Nat.succ_mul]; exact Nat.mul_le_mul_right _ hi'
  have hnc : n * sz ≤ c * sz := Nat.mul_le_mul_right _ p2
  have hflat : cur.take (n * sz) = (ys.map g).flatten := row_flat.1 hr
  have hspl : spl cur (i.toNat * sz + j) v.cells.toList = ((ys.set i.toNat z').map g).flatten ++ cur.drop (n * sz) := by
    conv => lhs; rw [← List.take_append_drop (n * sz) cur, hflat]
    exact spl_flat hl1 ys i.toNat j z z' _ _ h2 (by rw [hl]; exact hfit) hz
  have hlf : (((ys.set i.toNat z').map g).flatten).length = n * sz := by
    have := (row_flat (γ := γ) (w := w) (hl1 := hl1) (h1 := h1)).2 (rfl : ((ys.set i.toNat z').map g).flatten = _)
    rw [this.len, List.length_set, p1]
    rfl
  refine op_store (s := { s with M := s.M.set k (cells b cur E) }) (k := k) (b := b) (off := i.toNat * sz + j) (c := cur) (Tb := E) (Kn := fun s' => s' = { s with M := (s.M.set k (cells b cur E)).set k (cells b (((ys.set i.toNat z').map g).flatten ++ cur.drop (n * sz)) E) }) ho hop ?_ hy (by rw [List.getElem?_set_self hlt]) ht hl (by omega) hone hspl rfl γ a w hh1 K Q ?_
  · rw [hx]; simp [ablk, aoff]
  · intro s' γ1 a1 w1 hs' hh2
    subst hs'
    rw [List.set_set] at hh2
    have hk2 : (s.M.set k (cells b (((ys.set i.toNat z').map g).flatten ++ cur.drop (n * sz)) E))[k]? = some (cells b (((ys.set i.toNat z').map g).flatten ++ cur.drop (n * sz)) E) := by rw [List.getElem?_set_self hlt]
    have hc2 := hh2.hm.all _ (List.mem_of_getElem? hk2)
    refine hK _ γ1 a1 w1 h ?_
    have hm3 := hh2.hm.set hk2 (Fr.refl _ γ1 w1) (c' := arr (ground sz g hl1 h1) E (some ⟨b, 0, none⟩) n c (ys.set i.toNat z')) ⟨by rw [List.length_set]; exact p1, p2, p3, .inr ⟨b, _, rfl, hc2, by rw [List.length_append, hlf, List.length_drop]; show _ = c * sz; omega, by
      show Row (ground sz g hl1 h1) γ1 w1 (ys.set i.toNat z') (List.take (n * sz) _)
      rw [List.take_append_of_le_length (by omega), List.take_of_length_le (by omega)]
      exact row_flat.2 rfl⟩⟩ (fun q hq => .inl (by obtain ⟨_, _, hA⟩ := hq; cases hA; rfl))
    rw [List.set_set] at hm3
    exact { size := hh2.size, slots := hh2.slots, defers := hh2.defers, facts := hh2.facts, fr := hh2.fr, ok := hh2.ok, hm := hm3
            own := fun d hd q hq => by
              rcases List.mem_or_eq_of_mem_set hd with t | t
              · exact hh.own d t q hq
              · subst t
                obtain ⟨_, _, hA⟩ := hq
                cases hA
                exact hh.own _ (List.mem_of_getElem? hk) _ ⟨_, _, rfl⟩ }

/-! ### Cut, copied, grown -/
theorem op_cutA {d m : Nat} {T : TypeId} {x y : Operand} {ag : Bool} {kd : IntKind} {i : Int} (ho : o.dst = some d) (hN : d < e.N) (hop : o.op = .slice T x none (some y) none) (hT : sliceOf P T = some E) (ht : tyOf P E = some (ag, m)) (hx : ev s.L x = some (.slice A n c)) (hy : ev s.L y = some (.int kd i)) (hk : s.M[k]? = some (arr rp E A n c ys)) (hi : 0 ≤ i ∧ i ≤ ys.length)
    (h : Kn (({ s with M := s.M.set k (arr rp E A i.toNat c (ys.take i.toNat)) } : St).put d (.slice A i.toNat c))) : OpTr P r e o Kn s := by
  intro γ a w hh K Q hK
  have hA := hh.hm.all _ (List.mem_of_getElem? hk)
  obtain ⟨p1, p2, p3, p4⟩ := hA
  have hA0 : slA A 0 c m = A := by
    unfold slA
    split
    · rfl
    · rcases p4 with ⟨rfl, _⟩ | ⟨b, cur, rfl, _⟩
      · rfl
      · simp [add_off]
  have hv := (v_slice (e := e) (s := s) (P := P) (l := 0) (h := i.toNat) (m := c) hop hT ht hx rfl ⟨kd, i, hy, hi.1, rfl⟩ rfl (by omega) (by omega) (Nat.le_refl _) (by simp) rfl rfl)
  rw [hA0] at hv
  refine OpTr.v (Kn := fun s' => s' = s.put d (.slice A i.toNat c)) hv ho hN rfl γ a w hh K Q ?_
  intro s' γ1 a1 w1 hs' hh2
  subst hs'
  refine hK _ γ1 a1 w1 h ?_
  have hk2 : (s.put d (.slice A i.toNat c)).M[k]? = some (arr rp E A n c ys) := hk
  obtain ⟨q1, q2, q3, q4⟩ := hh2.hm.all _ (List.mem_of_getElem? hk2)
  have hm3 := hh2.hm.set hk2 (Fr.refl _ γ1 w1) (c' := arr rp E A i.toNat c (ys.take i.toNat)) ⟨by rw [List.length_take]; omega, by omega, by omega, by
    rcases q4 with ⟨hA, hn, hc0⟩ | ⟨b, cur, hA, hc, hl, hr⟩
    · exact .inl ⟨hA, by omega, hc0⟩
    · refine .inr ⟨b, cur, hA, hc, hl, ?_⟩
      have := hr.take i.toNat
      rwa [List.take_take, Nat.min_eq_left (Nat.mul_le_mul_right _ (by omega))] at this⟩ (fun q hq => .inl hq)
  exact { size := hh2.size, slots := hh2.slots, defers := hh2.defers, facts := hh2.facts, fr := hh2.fr, ok := hh2.ok, hm := hm3
          own := fun d' hd q hq => by
            rcases List.mem_or_eq_of_mem_set hd with t | t
            · exact hh2.own d' t q hq
            · subst t; exact hh2.own _ (List.mem_of_getElem? hk2) q hq }
theorem op_cutA' {d m n' : Nat} {T : TypeId} {x y : Operand} {ag : Bool} {kd : IntKind} {i : Int} (ho : o.dst = some d) (hN : d < e.N) (hop : o.op = .slice T x none (some y) none) (hT : sliceOf P T = some E) (ht : tyOf P E = some (ag, m)) (hx : ev s.L x = some (.slice A n c)) (hy : ev s.L y = some (.int kd i)) (hk : s.M[k]? = some (arr rp E A n c ys)) (hi : 0 ≤ i ∧ i ≤ ys.length) (hn : i.toNat = n')
    (h : Kn (({ s with M := s.M.set k (arr rp E A n' c (ys.take n')) } : St).put d (.slice A n' c))) : OpTr P r e o Kn s := by
  subst hn
  exact op_cutA ho hN hop hT ht hx hy hk hi h
/-- append(none, y...), still owned. -/
theorem op_appendN {d ky by_ m cy : Nat} {T : TypeId} {x y : Operand} {ag : Bool} {zs : List α} {B : Option Addr} {zc : List Value} (ho : o.dst = some d) (hN : d < e.N)
    (hop : o.op = .call { callee := .builtin .append, args := #[x, y], argTypes := #[T, T] }) (hT : sliceOf P T = some E) (ht : tyOf P E = some (ag, rp.sz)) (hz : zeroOf P E = some zc) (hzl : zc.length = rp.sz) (hby : bytesOf P E = some by_)
    (hx : ev s.L x = some (.slice none 0 0)) (hy : ev s.L y = some (.slice B m cy)) (hm : m = zs.length) (hfy : s.F[ky]? = some (slF rp B cy zs)) (hb : (0 + zs.length) * by_ ≤ big) (hb2 : 0 + zs.length ≤ big)
    (h : ∀ A' c', Kn (({ s with M := arr rp E A' zs.length c' zs :: s.M } : St).put d (.slice A' zs.length c'))) : OpTr P r e o Kn s := by
  intro γ a w hh K Q hK
  refine ⟨fun f _ => fen_fn r f, ?_⟩
  subst hm
  obtain ⟨i, hi, hsz⟩ := tyOf_info ht
  obtain ⟨i', z, hi', hz', hzc⟩ := zeroOf_info hz
  obtain ⟨i'', hi'', hby'⟩ := bytesOf_info hby
  rw [hi] at hi' hi''
  cases hi'
  cases hi''
  have hy0 : SlP rp γ w B cy zs := hh.facts _ (List.mem_of_getElem? hfy)
  rw [semAt_eq _ _ _ (by rw [hop]; intro c; simp)]
  by_cases h0 : zs.length = 0
  · have hzs : zs = [] := List.eq_nil_of_length_eq_zero h0
    subst hzs
    have hr := run_append_same (P := P) (w := w) (ty := o.type) (sliceOf_und hT) hi none B 0 0 cy (Nat.le_refl _)
    have hrun : (execOp a.eval o).run P w = .ok (.value (.slice none 0 0)) w := by
      simp only [execOp, hop, resolve, invoke, builtin, Sem.run_bind, Sem.run_pure, Result.andThen_ok, List.map_toArray, List.map_cons, List.map_nil, hh.eval hx, hh.eval hy, List.length_nil, hr]
    rw [hrun, Oper.uponIn_value, ho]
    exact hK _ γ _ _ (h none 0) ((hh.arrNil rp E).put d _ hN)
  · obtain ⟨ad, hB⟩ : ∃ ad, B = some ad := by
      cases B with
      | none => exact absurd (by rw [hy0.nil rfl]; rfl) h0
      | some ad => exact ⟨ad, rfl⟩
    subst hB
    obtain ⟨hspot', dy, hry, hcy⟩ := hy0.row ad rfl
    have hspot : ad.spot = none := hspot' (fun q => h0 (by rw [q]; rfl))
    have hny : ∀ j v, dy[j]? = some v → w.cell? (ad.add j) = some v := fun j v hv => by
      obtain ⟨qb, qo, qs⟩ := ad
      simp at hspot
      subst hspot
      rw [add_off]
      exact (hcy j v hv).1
    simp only [big] at hb hb2
    have hr := run_append_nil (P := P) w T o.type E i z (sliceOf_und hT) hi hz' ad zs.length cy dy (by rw [hry.len, hsz]) hny (by omega) (by omega) (by rw [hby']; simp at hb; omega)
    have hge := grownCap_ge w zs.length 0 E
    generalize grownCap w zs.length 0 E = cap at hr hge
    have hcell : (Builtin.zeroCells z.cells (cap - zs.length)).toList.length = (cap - zs.length) * rp.sz := by
      have := size_zeroCells z.cells (cap - zs.length)
      rw [Array.length_toList, this, ← hzl, ← hzc]; simp
    have hrun : (execOp a.eval o).run P w = .ok (.value (.slice (some ⟨w.heap.size, 0, none⟩) zs.length cap)) (w.drew.alloc (.cells (dy ++ (Builtin.zeroCells z.cells (cap - zs.length)).toList).toArray E)) := by
      simp only [execOp, hop, resolve, invoke, builtin, Sem.run_bind, Sem.run_pure, Result.andThen_ok, List.map_toArray, List.map_cons, List.map_nil, hh.eval hx, hh.eval hy, hr]
      congr 3
      apply Array.ext'
      simp
    rw [hrun, Oper.uponIn_value, ho]
    have hd : Holds e s γ a w.drew := { size := hh.size, slots := hh.slots, defers := hh.defers, facts := fun f hf => Fact.mono f (⟨Nat.le_refl _, fun _ => Nat.le_refl _, fun _ _ _ => rfl⟩ : Le γ w γ w.drew) (hh.facts f hf), fr := ⟨⟨hh.fr.le.size, hh.fr.le.up, hh.fr.le.cell⟩, hh.fr.os, hh.fr.tape, hh.fr.output, hh.fr.block, hh.fr.gh⟩, ok := hh.ok, hm := ⟨fun d hd => Chunk.stable (γ := γ) (w := w) (γ' := γ) (w' := w.drew) d (fun _ _ => ⟨rfl, rfl⟩) ⟨Nat.le_refl _, fun _ => Nat.le_refl _, fun _ _ _ => rfl⟩ (hh.hm.all d hd), hh.hm.sep⟩, own := hh.own }
    have hn := hd.new (dy ++ (Builtin.zeroCells z.cells (cap - zs.length)).toList) E
    have hc := hn.hm.all _ List.mem_cons_self
    have hsep := List.pairwise_cons.1 hn.hm.sep
    refine hK _ γ _ _ (h (some ⟨w.heap.size, 0, none⟩) cap) (Holds.put ?_ d _ hN)
    exact { size := hn.size, slots := hn.slots, defers := hn.defers, facts := hn.facts, fr := hn.fr, ok := hn.ok
            hm := HM.cons ⟨fun d hd => hn.hm.all d (List.mem_cons_of_mem _ hd), hsep.2⟩ ⟨rfl, hge, hy0.bd, .inr ⟨_, _, rfl, hc, by rw [List.length_append, hcell, hry.len, ← Nat.add_mul]; congr 1; omega, by
              rw [← hry.len, List.take_append_of_le_length (Nat.le_refl _), List.take_length]
              have hlen0 := hry
              exact hry.mono (⟨by simp [World.alloc], fun _ => Nat.le_refl _, fun b j hj => by
                have hb : b < w.heap.size := by
                  rcases Nat.lt_or_ge b w.heap.size with q | q
                  · exact q
                  · have := hh.ok b q; omega
                exact World.cell?_of_block (heap_alloc_old w.drew _ _ hb)⟩ : Le γ w γ _)⟩⟩ (fun d hd b hb => by
              obtain ⟨off, sp, hA⟩ := hb
              cases hA
              exact hsep.1 d hd _ rfl)
            own := fun d hd b hb => by
              rcases List.mem_cons.1 hd with q | q
              · subst q
                obtain ⟨off, sp, hA⟩ := hb
                cases hA
                exact hn.own _ List.mem_cons_self _ rfl
              · exact hn.own d (List.mem_cons_of_mem _ q) b hb }
end
end Go.Proofs.Ythgeodagikmpjaa.L
