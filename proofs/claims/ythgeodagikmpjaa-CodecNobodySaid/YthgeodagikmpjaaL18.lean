/- Copies into owned slices; texts as bytes; pointers and nil; parts of slices with an end to their room. -/
import Derived.Test.YthgeodagikmpjaaL17
namespace Go.Proofs.Ythgeodagikmpjaa.L
open Go Go.Proofs.Ythgeodagikmpjaa.Pu
set_option linter.unusedVariables false

section
variable {P : Program} {r : Option Nat} {e : Env} {o : Oper} {Kn : St → Prop} {s : St} {γ γ' : Gh} {w w' : World} {a : Act}
variable {α : Type} {rp : Rep α} {E : TypeId} {A : Option Addr} {n c k : Nat} {ys : List α}

/-- copy(x, y), whose elements are of one cell. -/
theorem op_copy {g : α → List Value} {hl1 : ∀ x, (g x).length = 1} {h1 : ∀ x, ∀ v ∈ g x, v.oneCell' = true} {d ky m cy : Nat} {T T2 : TypeId} {x y : Operand} {ag : Bool} {zs : List α} {B : Option Addr} (ho : o.dst = some d) (hN : d < e.N)
    (hop : o.op = .call { callee := .builtin .copy, args := #[x, y], argTypes := #[T, T2] }) (hT : sliceOf P T = some E) (ht : tyOf P E = some (ag, 1))
    (hx : ev s.L x = some (.slice A n c)) (hy : ev s.L y = some (.slice B m cy)) (hm : m = zs.length) (hk : s.M[k]? = some (arr (ground 1 g hl1 h1) E A n c ys)) (hfy : s.F[ky]? = some (slF (ground 1 g hl1 h1) B cy zs))
    (h : Kn (({ s with M := s.M.set k (arr (ground 1 g hl1 h1) E A n c (zs.take ys.length ++ ys.drop zs.length)) } : St).put d (.int .i64 (min (zs.length : Int) (ys.length : Int))))) : OpTr P r e o Kn s := by
  intro γ a w hh K Q hK
  refine ⟨fun f _ => fen_fn r f, ?_⟩
  subst hm
  have hA := hh.hm.all _ (List.mem_of_getElem? hk)
  obtain ⟨p1, p2, p3, p4⟩ := hA
  have hlt : k < s.M.length := (List.getElem?_eq_some_iff.1 hk).1
  have hy0 : SlP (ground 1 g hl1 h1) γ w B cy zs := hh.facts _ (List.mem_of_getElem? hfy)
  obtain ⟨i, hi, hsz⟩ := tyOf_info ht
  have hs1 : (P.info? E).map (·.size) = some 1 := by rw [hi]; simp [hsz]
  have hgo : ∀ q : Nat, goInt (q : Int) = .int .i64 (q : Int) := fun q => rfl
  have hmin : ((min zs.length ys.length : Nat) : Int) = min (zs.length : Int) (ys.length : Int) := by omega
  rw [semAt_eq _ _ _ (by rw [hop]; intro c; simp)]
  by_cases h0 : min zs.length ys.length = 0
  · have hr := run_copy_none (P := P) w T T2 o.type E A B n c zs.length cy (sliceOf_und hT) hs1 (by rw [← p1]; exact h0)
    have hrun : (execOp a.eval o).run P w = .ok (.value (.int .i64 (min (zs.length : Int) (ys.length : Int)))) w := by
      have e0 : goInt 0 = .int .i64 (min (zs.length : Int) (ys.length : Int)) := by rw [← hmin, h0, ← hgo]; rfl
      rw [← e0]
      simp only [execOp, hop, resolve, invoke, builtin, Sem.run_bind, Sem.run_pure, Result.andThen_ok, List.map_toArray, List.map_cons, List.map_nil, hh.eval hx, hh.eval hy, hr]
    rw [hrun, Oper.uponIn_value, ho]
    have hys : zs.take ys.length ++ ys.drop zs.length = ys := by
      by_cases hz : zs.length = 0
      · have : zs = [] := List.eq_nil_of_length_eq_zero hz
        subst this; simp
      · have : ys = [] := List.eq_nil_of_length_eq_zero (by omega)
        subst this; simp
    rw [hys] at h
    have hset : s.M.set k (arr (ground 1 g hl1 h1) E A n c ys) = s.M := by
      apply List.ext_getElem?
      intro j
      rw [List.getElem?_set]
      split
      · rename_i hj; subst hj; exact hk.symm
      · rfl
    rw [hset] at h
    exact hK _ γ _ _ h (hh.put d _ hN)
  · rcases p4 with ⟨rfl, hn0⟩ | ⟨b, cur, rfl, hc, hcl, hrow⟩
    · omega
    · obtain ⟨ad, hB⟩ : ∃ ad, B = some ad := by
        cases B with
        | none => have := hy0.nil rfl; subst this; simp at h0
        | some ad => exact ⟨ad, rfl⟩
      subst hB
      obtain ⟨hspot', dz, hrz, hcz⟩ := hy0.row ad rfl
      have hspot : ad.spot = none := hspot' (fun q => by subst q; simp at h0)
      have hdz : dz = (zs.map g).flatten := row_flat.1 hrz
      have hdy : cur.take (n * 1) = (ys.map g).flatten := row_flat.1 hrow
      have hcl' : cur.length = c * 1 := hcl
      have hlz : dz.length = zs.length * 1 := hrz.len
      have hly : (cur.take (n * 1)).length = ys.length * 1 := hrow.len
      have hr := run_copy_row (P := P) w T T2 o.type E b 0 n c ad zs.length cy cur.toArray E (dz.take n) (sliceOf_und hT) hs1 hc.1 (by rw [List.length_take, hlz]; simp only [Nat.min_def]; split <;> split <;> omega) (fun j v hv => by
        rw [List.getElem?_take] at hv
        split at hv
        · obtain ⟨qb, qo, qs⟩ := ad
          simp at hspot
          subst hspot
          rw [add_off]
          exact (hcz j v hv).1
        · cases hv) (by rw [List.length_take, hlz]; simp only [List.size_toArray]; omega) (fun v hv => hrz.one v (List.mem_of_mem_take hv))
      have hq : (dz.take n).length = min zs.length ys.length := by rw [List.length_take, hlz, p1]; omega
      rw [hq] at hr
      -- the new cells
      have hnew : (cur.toArray.toList.take 0 ++ dz.take n ++ cur.toArray.toList.drop (0 + min zs.length ys.length)) = ((zs.take ys.length ++ ys.drop zs.length).map g).flatten ++ cur.drop n := by
        have e1 : ∀ (l : List α) (j : Nat), ((l.map g).flatten).take j = ((l.take j).map g).flatten := by
          intro l
          induction l with
          | nil => intro j; simp
          | cons x l ih =>
            intro j
            cases j with
            | zero => simp
            | succ j =>
              have hgx := hl1 x
              rw [List.map_cons, List.flatten_cons, List.take_succ_cons, List.map_cons, List.flatten_cons, ← ih j]
              match hg : g x, hgx with
              | [v], _ => simp
        have e2 : ∀ (l : List α) (j : Nat), ((l.map g).flatten).drop j = ((l.drop j).map g).flatten := by
          intro l
          induction l with
          | nil => intro j; simp
          | cons x l ih =>
            intro j
            cases j with
            | zero => simp
            | succ j =>
              have hgx := hl1 x
              rw [List.map_cons, List.flatten_cons, List.drop_succ_cons, ← ih j]
              match hg : g x, hgx with
              | [v], _ => simp
        rw [Nat.mul_one] at hdy
        have ec : cur = (ys.map g).flatten ++ cur.drop n := by rw [← hdy, List.take_append_drop]
        have hfl : ((ys.map g).flatten).length = n := by rw [← hdy, List.length_take]; omega
        rw [List.take_zero, List.nil_append, Nat.zero_add, List.map_append, List.flatten_append, hdz, e1, ← e2, p1, List.append_assoc]
        congr 1
        show cur.drop _ = _
        conv => lhs; rw [ec]
        by_cases hzy : zs.length ≤ n
        · rw [Nat.min_eq_left hzy, List.drop_append_of_le_length (by omega)]
        · have d1 : ((ys.map g).flatten).drop n = [] := List.drop_of_length_le (by omega)
          have d2 : ((ys.map g).flatten).drop zs.length = [] := List.drop_of_length_le (by omega)
          rw [Nat.min_eq_right (by omega), List.drop_append_of_le_length (by omega), d1, d2]
      rw [hnew] at hr
      have hrun : (execOp a.eval o).run P w = .ok (.value (.int .i64 (min (zs.length : Int) (ys.length : Int)))) (w.setRow b (((zs.take ys.length ++ ys.drop zs.length).map g).flatten ++ cur.drop n).toArray) := by
        rw [← hmin, ← hgo]
        simp only [execOp, hop, resolve, invoke, builtin, Sem.run_bind, Sem.run_pure, Result.andThen_ok, List.map_toArray, List.map_cons, List.map_nil, hh.eval hx, hh.eval hy, hr]
      rw [hrun, Oper.uponIn_value, ho]
      have fr := Fr.setRow hc (((zs.take ys.length ++ ys.drop zs.length).map g).flatten ++ cur.drop n)
      have hfp : ∀ q, (arr (ground 1 g hl1 h1) E (some ⟨b, 0, none⟩) n c ys).fp q ↔ q = b := fun q => ⟨fun ⟨_, _, hA⟩ => by cases hA; rfl, fun hq => by subst hq; exact ⟨_, _, rfl⟩⟩
      have fr' : Fr (arr (ground 1 g hl1 h1) E (some ⟨b, 0, none⟩) n c ys).fp γ w γ (w.setRow b (((zs.take ys.length ++ ys.drop zs.length).map g).flatten ++ cur.drop n).toArray) :=
        ⟨fr.le, fr.os, fr.tape, fr.output, fun x hx hn => fr.block x hx (fun q => hn ((hfp x).2 q)), fun x hx hn => fr.gh x hx (fun q => hn ((hfp x).2 q))⟩
      have hll : (zs.take ys.length ++ ys.drop zs.length).length = n := by rw [List.length_append, List.length_take, List.length_drop]; omega
      have hflen : (((zs.take ys.length ++ ys.drop zs.length).map g).flatten).length = n := by
        have := (row_flat (γ := γ) (w := w) (hl1 := hl1) (h1 := h1)).2 (rfl : ((zs.take ys.length ++ ys.drop zs.length).map g).flatten = _)
        rw [this.len, hll]
        exact Nat.mul_one _
      refine hK _ γ _ _ h (Holds.put ?_ d _ hN)
      refine hh.step fr' (fun x hx => hh.own _ (List.mem_of_getElem? hk) x hx) (hh.hm.set hk fr' ⟨hll, p2, p3, .inr ⟨b, _, rfl, ⟨setRow_heap w b cur.toArray _ E (0, 0) hc.1, hc.2⟩, ?_, ?_⟩⟩ (fun x hx => .inl hx)) ?_ (fun x hx => hh.ok x (by simpa using hx))
      · rw [List.length_append, hflen, List.length_drop]; show _ = c * 1; omega
      · show Row (ground 1 g hl1 h1) γ _ _ (List.take (n * 1) _)
        have t1 : (((zs.take ys.length ++ ys.drop zs.length).map g).flatten).take n = ((zs.take ys.length ++ ys.drop zs.length).map g).flatten := List.take_of_length_le (by omega)
        rw [Nat.mul_one, List.take_append_of_le_length (by omega), t1]
        exact row_flat.2 rfl
      · intro d' hd x hx'
        rcases List.mem_or_eq_of_mem_set hd with q | q
        · exact hh.own d' q x hx'
        · subst q; exact hh.own _ (List.mem_of_getElem? hk) x hx'

/-- A text's bytes. -/
theorem op_strb {d : Nat} {T T' e' : TypeId} {x : Operand} {u : ByteArray} (ho : o.dst = some d) (hN : d < e.N) (hop : o.op = .convert T T' x) (hT : P.underlying T = some .string) (hT' : P.underlying T' = some (.slice e')) (he : P.underlying e' = some (.int .u8))
    (hx : ev s.L x = some (.string u)) (hlen : u.size ≤ big) (h : ∀ A c, Kn (({ s with F := s.F ++ [slF (rInt .u8) A c (bytesL u)] } : St).put d (.slice A (bytesL u).length c))) : OpTr P r e o Kn s := by
  intro γ a w hh K Q hK
  refine ⟨fun f _ => fen_fn r f, ?_⟩
  have hbl : (bytesL u).length = u.size := by unfold bytesL; rw [List.length_map, Array.length_toList]; rfl
  have hr := run_bytes_of_string (P := P) w T T' e' u hT hT' he
  rw [hbl] at h
  have hge := grownCap_ge w u.size 0 e'
  generalize grownCap w u.size 0 e' = cap at hr hge
  have hrun : (execOp a.eval o).run P w = .ok (.value (.slice (some ⟨w.heap.size, 0, none⟩) u.size cap)) (w.drew.alloc (.cells (bytesRow u cap) e' ((bytesRow u cap).size, (bytesRow u cap).size + 1))) := by
    simp only [execOp, hop, Sem.run_bind, hh.eval hx, hr, Result.andThen, Sem.run_pure]
  rw [semAt_eq _ _ _ (by rw [hop]; intro c; simp), hrun, Oper.uponIn_value, ho]
  generalize hob : (Obj.cells (bytesRow u cap) e' ((bytesRow u cap).size, (bytesRow u cap).size + 1)) = ob
  have hnew : (w.drew.alloc ob).heap[w.heap.size]? = some ob := heap_alloc_new w.drew ob
  have fr : Fr (fun _ => False) γ w (upd γ w.heap.size u.size) (w.drew.alloc ob) := {
    le := ⟨by simp [World.alloc], fun x => by
      by_cases hx : x = w.heap.size
      · subst hx; rw [hh.ok _ (Nat.le_refl _)]; exact Nat.zero_le _
      · rw [upd_other _ _ hx]; exact Nat.le_refl _, fun x j hj => by
      have hb : x < w.heap.size := by
        rcases Nat.lt_or_ge x w.heap.size with q | q
        · exact q
        · have := hh.ok x q; omega
      exact World.cell?_of_block (heap_alloc_old w.drew _ _ hb)⟩
    os := rfl
    tape := rfl
    output := rfl
    block := fun x hx _ => heap_alloc_old w.drew ob _ hx
    gh := fun x hx _ => upd_other _ _ (by omega) }
  have hst := hh.step fr (fun b hb => hb.elim) (hh.hm.keep fr (fun _ _ _ _ q => q)) hh.own (fun x hx => by
    rw [upd_other _ _ (by simp [World.alloc] at hx; omega)]
    exact hh.ok x (by simp [World.alloc] at hx; omega))
  refine hK _ _ _ _ (h (some ⟨w.heap.size, 0, none⟩) cap) ((hst.addF (f := slF (rInt .u8) (some ⟨w.heap.size, 0, none⟩) cap (bytesL u)) ⟨by omega, by simp only [big] at hlen; simp only [top]; omega, (fun q => by cases q), fun q hq => ?_⟩).put d _ hN)
  cases hq
  refine ⟨fun _ => rfl, (bytesL u).map (fun x => Value.int .u8 x), ?_, fun j v hv => ?_⟩
  · generalize bytesL u = l
    induction l with
    | nil => exact .nil
    | cons x l ih => exact Row.cons (r := rInt .u8) (x := x) (cs := [.int .u8 x]) rfl ih
  · have hj : j < u.size := by rw [← hbl]; simpa using (List.getElem?_eq_some_iff.1 hv).1
    refine ⟨?_, by rw [upd_same]; simp only [Nat.zero_add]; exact hj⟩
    rw [Nat.zero_add]
    have : (w.drew.alloc ob).cell? ⟨w.heap.size, j, none⟩ = (bytesRow u cap)[j]? := by
      unfold World.cell?
      simp only []
      rw [hnew, ← hob]
      rfl
    rw [this, ← hv]
    have hj' : j < (u.data.map (fun b => Value.int .u8 (b.toNat : Int))).size := by rw [Array.size_map]; exact hj
    unfold bytesRow bytesL
    rw [Array.getElem?_append_left hj']
    simp
    rfl

theorem run_equal_pnil {T E' : TypeId} (hT : P.underlying T = some (.pointer E')) (p : Option Addr) (w : World) : (Op.equal T (.pointer p) (.pointer none)).run P w = .ok p.isNone w := by
  have : ∀ d, (Op.equalIn (d + 1) T (.pointer p) (.pointer none)).run P w = .ok p.isNone w := by
    intro d
    cases p <;> simp only [Op.equalIn, Sem.run_bind, run_und' hT, Result.andThen, Sem.run_pure, Option.isNone]
  exact this 9999
/-- Pointers and nil. -/
theorem v_pnil {T T' E' : TypeId} {x y : Operand} {p : Option Addr} {b : Bool} (hop : o.op = .binOp .eql T x y T') (hT : P.underlying T = some (.pointer E')) (hx : ev s.L x = some (.pointer p)) (hy : ev s.L y = some (.pointer none)) (hb : p.isNone = b) : OpV P e o s (.bool b) :=
  ⟨(by rw [hop]; intro c; simp), (fun γ a w hh => by
    subst hb
    simp only [execOp, hop, hh.eval hx, hh.eval hy]
    simp [eqGuard, binOp, run_equal_pnil hT])⟩
theorem v_pnilne {T T' E' : TypeId} {x y : Operand} {p : Option Addr} {b : Bool} (hop : o.op = .binOp .neq T x y T') (hT : P.underlying T = some (.pointer E')) (hx : ev s.L x = some (.pointer p)) (hy : ev s.L y = some (.pointer none)) (hb : (!p.isNone) = b) : OpV P e o s (.bool b) :=
  ⟨(by rw [hop]; intro c; simp), (fun γ a w hh => by
    subst hb
    simp only [execOp, hop, hh.eval hx, hh.eval hy]
    simp [eqGuard, binOp, run_equal_pnil hT])⟩

/-- s[:i:m] -/
theorem slx5_v {T : TypeId} {x y z : Operand} {ag : Bool} {sz : Nat} {kd kd2 : IntKind} {i m : Int} {xs : List α} (hop : o.op = .slice T x none (some y) (some z)) (hT : sliceOf P T = some E) (ht : tyOf P E = some (ag, sz)) (hx : ev s.L x = some (.slice A n c)) (hn : n = xs.length) (hy : ev s.L y = some (.int kd i)) (hz : ev s.L z = some (.int kd2 m)) (h : 0 ≤ i ∧ i ≤ m ∧ m ≤ xs.length) (hk : s.F[k]? = some (slF rp A c xs)) :
    OpV P e o s (.slice (slA A 0 m.toNat sz) (xs.take i.toNat).length m.toNat) :=
  ⟨by rw [hop]; intro c; simp, fun γ a w hh => by
    have hc := slF_lec hk hh.facts
    subst hn
    exact (v_slice (l := 0) (h := i.toNat) (m := m.toNat) hop hT ht hx rfl ⟨kd, i, hy, h.1, rfl⟩ ⟨kd2, m, hz, by omega, rfl⟩ (by omega) (by omega) (by omega) (by simp) (by rw [List.length_take]; omega) rfl).run γ a w hh⟩
theorem slx5_f {i m : Int} {xs : List α} (hk : s.F[k]? = some (slF rp A c xs)) (h : 0 ≤ i ∧ i ≤ m ∧ m ≤ xs.length) : ∀ γ w, (∀ g ∈ s.F, g.p γ w) → (∀ c ∈ s.M, c.p γ w) → (slF rp (slA A 0 m.toNat rp.sz) m.toNat (xs.take i.toNat)).p γ w := fun γ w hF hM => by
  have hc := slF_lec hk hF
  exact slF_part (l := 0) (h := i.toNat) (m := m.toNat) hk (by omega) (by omega) (by omega) (by omega) rfl rfl γ w hF hM
theorem Tr.renormF {cd : Code} {Q : SPost} (f : Nat → St) (k : Nat) (hi : Imp e s (f n)) (hk : (f n).M[k]? = some (arr rp E A n c ys)) (h : Tr P r e cd Q (f ys.length)) : Tr P r e cd Q s := fun γ a w hh => by
  have h2 := hi γ a w hh
  have hn := (h2.hm.all _ (List.mem_of_getElem? hk)).1
  rw [← hn] at h2
  exact h γ a w h2
theorem TrL.renormF {ops : Array Oper} {l : List Oper} (f : Nat → St) (k : Nat) (hi : Imp e s (f n)) (hk : (f n).M[k]? = some (arr rp E A n c ys)) (h : TrL P r e ops l Kn (f ys.length)) : TrL P r e ops l Kn s := fun γ a w hh => by
  have h2 := hi γ a w hh
  have hn := (h2.hm.all _ (List.mem_of_getElem? hk)).1
  rw [← hn] at h2
  exact h γ a w h2
theorem TrL.shut' {ops : Array Oper} {l : List Oper} (k : Nat) (hk : s.M[k]? = some (arr rp E A n c ys)) (h : TrL P r e ops l Kn { s with M := s.M.eraseIdx k, F := s.F ++ [slF rp A c ys] }) : TrL P r e ops l Kn s := TrL.shut _ k hk (fun _ => rfl) h
theorem Tr.shut' {cd : Code} {Q : SPost} (k : Nat) (hk : s.M[k]? = some (arr rp E A n c ys)) (h : Tr P r e cd Q { s with M := s.M.eraseIdx k, F := s.F ++ [slF rp A c ys] }) : Tr P r e cd Q s := Tr.shut _ k hk (fun _ => rfl) h
theorem Tr.shutG' {cd : Code} {Q : SPost} (k : Nat) (hk : s.M[k]? = some (arr rp E A n c ys)) (h : Tr P r e cd Q { s with M := s.M.set k (grow E rp.sz (.slice A n c) n (A.map (·.block))), F := s.F ++ [slF rp A c ys] }) : Tr P r e cd Q s := Tr.shutG _ k hk (fun _ => rfl) h

/-! ### In short words -/
theorem op_makeS {d by_ : Nat} {T : TypeId} {x y : Operand} {ag : Bool} {kl kc : IntKind} {l : Int} {zc : List Value} {z : α} (ho : o.dst = some d) (hN : d < e.N) (hop : o.op = .makeSlice T x y) (hT : sliceOf P T = some E) (ht : tyOf P E = some (ag, rp.sz)) (hz : zeroOf P E = some zc) (hzl : zc.length = rp.sz) (hby : bytesOf P E = some by_)
    (hx : ev s.L x = some (.int kl l)) (hy : ev s.L y = some (.int kc l)) (h0 : 0 ≤ l) (hn : l.toNat = n) (hb : n * by_ ≤ 140737488355328 ∧ n ≤ 140737488355328) (hR : ∀ γ w, rp.R γ w z zc)
    (h : ∀ A, Kn ((s.cm (arr rp E A n n (List.replicate n z))).put d (.slice A n n))) : OpTr P r e o Kn s := op_make' ho hN hop hT ht hz hzl hby hx hy h0 hn hb hR h
theorem op_storeAS {g : α → List Value} {sz : Nat} {hl1 : ∀ x, (g x).length = sz} {h1 : ∀ x, ∀ v ∈ g x, v.oneCell' = true} {m j : Nat} {T : TypeId} {x y : Operand} {i : Int} {ag : Bool} {z z' : α} {v : Value} (ho : o.dst = none) (hop : o.op = .store T x y)
    (hx : ev s.L x = some (.pointer (some ⟨ablk A, aoff A + i.toNat * sz + j, none⟩))) (hy : ev s.L y = some v) (hk : s.M[k]? = some (arr (ground sz g hl1 h1) E A n c ys)) (ht : tyOf P T = some (ag, m)) (hl : v.cells.toList.length = m) (hi : rdo ys i = some z) (hfit : j + m ≤ sz)
    (hone : ∀ u ∈ v.cells.toList, u.oneCell' = true) (hz : spl (g z) j v.cells.toList = g z') (h : Kn (s.sm k (arr (ground sz g hl1 h1) E A n c (ys.set i.toNat z')))) : OpTr P r e o Kn s := op_storeA ho hop hx hy hk ht hl hi hfit hone hz h
theorem op_cutAS {d m n' : Nat} {T : TypeId} {x y : Operand} {ag : Bool} {kd : IntKind} {i : Int} (ho : o.dst = some d) (hN : d < e.N) (hop : o.op = .slice T x none (some y) none) (hT : sliceOf P T = some E) (ht : tyOf P E = some (ag, m)) (hx : ev s.L x = some (.slice A n c)) (hy : ev s.L y = some (.int kd i)) (hk : s.M[k]? = some (arr rp E A n c ys)) (hi : 0 ≤ i ∧ i ≤ ys.length) (hn : i.toNat = n')
    (h : Kn ((s.sm k (arr rp E A n' c (ys.take n'))).put d (.slice A n' c))) : OpTr P r e o Kn s := op_cutA' ho hN hop hT ht hx hy hk hi hn h
theorem op_appendNS {d ky by_ m cy : Nat} {T : TypeId} {x y : Operand} {ag : Bool} {zs : List α} {B : Option Addr} {zc : List Value} (ho : o.dst = some d) (hN : d < e.N)
    (hop : o.op = .call { callee := .builtin .append, args := #[x, y], argTypes := #[T, T] }) (hT : sliceOf P T = some E) (ht : tyOf P E = some (ag, rp.sz)) (hz : zeroOf P E = some zc) (hzl : zc.length = rp.sz) (hby : bytesOf P E = some by_)
    (hx : ev s.L x = some (.slice none 0 0)) (hy : ev s.L y = some (.slice B m cy)) (hm : m = zs.length) (hfy : s.F[ky]? = some (slF rp B cy zs)) (hb : (0 + zs.length) * by_ ≤ big ∧ 0 + zs.length ≤ big)
    (h : ∀ A' c', Kn ((s.cm (arr rp E A' zs.length c' zs)).put d (.slice A' zs.length c'))) : OpTr P r e o Kn s := op_appendN ho hN hop hT ht hz hzl hby hx hy hm hfy hb.1 hb.2 h
theorem op_copyS {g : α → List Value} {hl1 : ∀ x, (g x).length = 1} {h1 : ∀ x, ∀ v ∈ g x, v.oneCell' = true} {d ky m cy : Nat} {T T2 : TypeId} {x y : Operand} {ag : Bool} {zs : List α} {B : Option Addr} (ho : o.dst = some d) (hN : d < e.N)
    (hop : o.op = .call { callee := .builtin .copy, args := #[x, y], argTypes := #[T, T2] }) (hT : sliceOf P T = some E) (ht : tyOf P E = some (ag, 1))
    (hx : ev s.L x = some (.slice A n c)) (hy : ev s.L y = some (.slice B m cy)) (hm : m = zs.length) (hk : s.M[k]? = some (arr (ground 1 g hl1 h1) E A n c ys)) (hfy : s.F[ky]? = some (slF (ground 1 g hl1 h1) B cy zs))
    (h : Kn ((s.sm k (arr (ground 1 g hl1 h1) E A n c (zs.take ys.length ++ ys.drop zs.length))).put d (.int .i64 (min (zs.length : Int) (ys.length : Int))))) : OpTr P r e o Kn s := op_copy ho hN hop hT ht hx hy hm hk hfy h
theorem op_strbS {d : Nat} {T T' e' : TypeId} {x : Operand} {u : ByteArray} (ho : o.dst = some d) (hN : d < e.N) (hop : o.op = .convert T T' x) (hT : P.underlying T = some .string) (hT' : P.underlying T' = some (.slice e')) (he : P.underlying e' = some (.int .u8))
    (hx : ev s.L x = some (.string u)) (hlen : u.size ≤ 140737488355328) (h : ∀ A c, Kn ((s.cf (slF (rInt .u8) A c (bytesL u))).put d (.slice A (bytesL u).length c))) : OpTr P r e o Kn s := op_strb ho hN hop hT hT' he hx hlen h
theorem Imp.arrNil' {t : St} (rp : Rep α) (E : TypeId) (h : Imp e (s.cm (arr rp E none 0 0 [])) t) : Imp e s t := Imp.arrNil rp E h
end
end Go.Proofs.Ythgeodagikmpjaa.L
