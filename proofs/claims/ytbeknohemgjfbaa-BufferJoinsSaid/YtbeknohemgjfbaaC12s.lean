/- The library's stable sort: what comes of it stands in turn, and of one tick as it stood. -/
import Derived.Test.YtbeknohemgjfbaaC12b
namespace Go.Proofs.Ytbeknohemgjfbaa.Pu
set_option linter.unusedVariables false

/-! ## In turn, and of one tick as it stood -/
/-- Of each tick the same, in the same turn. -/
def Eqt (a b : List Ev) : Prop := ∀ t : Int, a.filter (fun e => decide (e.1 = t)) = b.filter (fun e => decide (e.1 = t))
theorem Eqt.refl (a : List Ev) : Eqt a a := fun _ => rfl
theorem Eqt.symm {a b : List Ev} (h : Eqt a b) : Eqt b a := fun t => (h t).symm
theorem Eqt.trans {a b c : List Ev} (h : Eqt a b) (k : Eqt b c) : Eqt a c := fun t => (h t).trans (k t)
theorem Eqt.app {a b c d : List Ev} (h : Eqt a b) (k : Eqt c d) : Eqt (a ++ c) (b ++ d) := fun t => by rw [List.filter_append, List.filter_append, h t, k t]
theorem Eqt.cons {x : Ev} {a b : List Ev} (h : Eqt a b) : Eqt (x :: a) (x :: b) := Eqt.app (Eqt.refl [x]) h
/-- Two lists none of whose ticks is in both may change places. -/
theorem Eqt.swap {a b : List Ev} (h : ∀ x ∈ a, ∀ y ∈ b, x.1 ≠ y.1) : Eqt (a ++ b) (b ++ a) := fun t => by
  rw [List.filter_append, List.filter_append]
  by_cases c : a.filter (fun e => decide (e.1 = t)) = []
  · rw [c, List.append_nil, List.nil_append]
  · have hb : b.filter (fun e => decide (e.1 = t)) = [] := by
      rw [List.filter_eq_nil_iff]
      intro y hy
      rw [decide_eq_true_eq]
      intro e
      obtain ⟨x, hx⟩ := List.exists_mem_of_ne_nil _ c
      have hm := List.mem_filter.1 hx
      rw [decide_eq_true_eq] at hm
      exact h x hm.1 y hy (by rw [hm.2, e])
    rw [hb, List.append_nil, List.nil_append]
theorem Eqt.mem {a b : List Ev} (h : Eqt a b) {x : Ev} (hx : x ∈ a) : x ∈ b := by
  have h1 : x ∈ a.filter (fun e => decide (e.1 = x.1)) := List.mem_filter.2 ⟨hx, by simp⟩
  rw [h x.1] at h1
  exact (List.mem_filter.1 h1).1
/-- There is but one such list. -/
theorem Eqt.uniq {a : List Ev} : ∀ {b : List Ev}, Srt a → Srt b → Eqt a b → a = b := by
  induction a with
  | nil =>
    intro b _ _ h
    cases b with
    | nil => rfl
    | cons y b => have := h.symm.mem (List.mem_cons_self (a := y)); cases this
  | cons x a ih =>
    intro b ha hb h
    cases b with
    | nil => have := h.mem (List.mem_cons_self (a := x)); cases this
    | cons y b =>
      have hxy : x.1 = y.1 := by
        have h1 := h.mem (List.mem_cons_self (a := x))
        have h2 := h.symm.mem (List.mem_cons_self (a := y))
        have h3 : y.1 ≤ x.1 := by
          rcases List.mem_cons.1 h1 with q | q
          · rw [q]; exact Int.le_refl _
          · exact (List.pairwise_cons.1 hb).1 x q
        have h4 : x.1 ≤ y.1 := by
          rcases List.mem_cons.1 h2 with q | q
          · rw [q]; exact Int.le_refl _
          · exact (List.pairwise_cons.1 ha).1 y q
        omega
      have h0 := h x.1
      rw [List.filter_cons_of_pos (by simp), List.filter_cons_of_pos (by simp [hxy])] at h0
      obtain ⟨e1, e2⟩ := List.cons.inj h0
      subst e1
      rw [ih (List.pairwise_cons.1 ha).2 (List.pairwise_cons.1 hb).2 (fun t => ?_)]
      by_cases c : x.1 = t
      · rw [← c]; exact e2
      · have := h t
        rwa [List.filter_cons_of_neg (by simpa using c), List.filter_cons_of_neg (by simpa using c)] at this
theorem srt_app {a b : List Ev} : Srt (a ++ b) ↔ Srt a ∧ Srt b ∧ ∀ x ∈ a, ∀ y ∈ b, x.1 ≤ y.1 := List.pairwise_append
theorem srt_last {a : List Ev} {z : Ev} (h : Srt (a ++ [z])) : ∀ x ∈ a ++ [z], x.1 ≤ z.1 := by
  intro x hx
  rcases List.mem_append.1 hx with q | q
  · exact (srt_app.1 h).2.2 x q z (List.mem_singleton.2 rfl)
  · rw [List.mem_singleton.1 q]; exact Int.le_refl _
theorem srt_head {a : List Ev} {z : Ev} (h : Srt (z :: a)) : ∀ x ∈ z :: a, z.1 ≤ x.1 := by
  intro x hx
  rcases List.mem_cons.1 hx with q | q
  · rw [q]; exact Int.le_refl _
  · exact (List.pairwise_cons.1 h).1 x q

/-! ## Elements in the middle -/
section
variable {α : Type}
theorem rdo_mid (P T : List α) (x : α) : rdo (P ++ x :: T) (P.length : Int) = some x := by
  rw [rdo_nat, List.getElem?_append_right (Nat.le_refl _), Nat.sub_self]; rfl
theorem set_mid (P T : List α) (x y : α) : (P ++ x :: T).set P.length y = P ++ y :: T := by
  rw [List.set_append_right _ _ (Nat.le_refl _), Nat.sub_self]; rfl
theorem rdo_mid' {P T : List α} {x : α} {i : Int} (h : i = P.length) : rdo (P ++ x :: T) i = some x := by rw [h]; exact rdo_mid P T x
theorem set_mid' {P T : List α} {x y : α} {i : Nat} (h : i = P.length) : (P ++ x :: T).set i y = P ++ y :: T := by rw [h]; exact set_mid P T x y
end
theorem cmp_eq (x y : Ev) : ∃ c, buffer_Join_1 x y = some c ∧ (c < 0 ↔ x.1 < y.1) := by
  unfold buffer_Join_1 cmp_Compare_uint64 cmp_isNaN_uint64
  rw [Option.bind_some, Option.bind_some, if_neg (by simp), if_neg (by simp)]
  by_cases c1 : x.1 < y.1
  · rw [if_pos c1]; exact ⟨-1, rfl, by omega⟩
  · rw [if_neg c1]
    by_cases c2 : y.1 < x.1
    · rw [if_pos c2]; exact ⟨1, rfl, by omega⟩
    · rw [if_neg c2]; exact ⟨0, rfl, by omega⟩

/-! ## Insertion -/
theorem insert_loop {a : Nat} : ∀ (A B P S : List Ev) (e : Ev), P.length = a → (P ++ A ++ e :: (B ++ S)).length ≤ 1000000000 → Srt A → (∀ y ∈ B, e.1 < y.1) →
    ∃ Z, loopO (slices_insertionSortCmpFunc_Event_s1 (a : Int)) (P ++ A ++ e :: (B ++ S), ((a + A.length : Nat) : Int)) = some (P ++ Z ++ S) ∧ Z.length = A.length + 1 + B.length ∧ (Srt (A ++ B) → Srt Z) ∧ Eqt Z (A ++ e :: B) := by
  intro A
  induction hn : A.length using Nat.strongRecOn generalizing A with
  | ind n ih =>
    intro B P S e hP hlen hA hB
    subst hn
    rcases List.eq_nil_or_concat A with h0 | ⟨A', z, h0⟩
    · subst h0
      refine ⟨e :: B, loopO_done ?_, by simp; omega, fun hs => ?_, Eqt.refl _⟩
      · unfold slices_insertionSortCmpFunc_Event_s1
        simp only
        rw [if_neg (by simp)]
        simp
      · refine List.pairwise_cons.2 ⟨fun y hy => ?_, by simpa using hs⟩
        have := hB y hy; omega
    · rw [List.concat_eq_append] at h0
      subst h0
      rw [List.length_append, List.length_singleton] at *
      have hl2 := hlen
      simp only [List.length_append, List.length_cons, List.length_nil] at hl2
      obtain ⟨c, hc, hc2⟩ := cmp_eq e z
      have i1 : ((a + (A'.length + 1) : Nat) : Int) = ((P ++ (A' ++ [z])).length : Int) := by simp; omega
      have i2 : wi64 (((a + (A'.length + 1) : Nat) : Int) - 1) = ((P ++ A').length : Int) := by rw [wi64_of (by omega) (by omega)]; simp; omega
      have r1 : rdo (P ++ (A' ++ [z]) ++ e :: (B ++ S)) ((a + (A'.length + 1) : Nat) : Int) = some e := rdo_mid' i1
      have sh : P ++ (A' ++ [z]) ++ e :: (B ++ S) = (P ++ A') ++ z :: (e :: (B ++ S)) := by simp
      have r2 : rdo (P ++ (A' ++ [z]) ++ e :: (B ++ S)) (wi64 (((a + (A'.length + 1) : Nat) : Int) - 1)) = some z := by rw [sh]; exact rdo_mid' i2
      by_cases c1 : e.1 < z.1
      · have s1 : (P ++ (A' ++ [z]) ++ e :: (B ++ S)).set ((a + (A'.length + 1) : Nat) : Int).toNat z = P ++ (A' ++ [z]) ++ z :: (B ++ S) := set_mid' (by rw [i1, Int.toNat_natCast])
        have sh2 : P ++ (A' ++ [z]) ++ z :: (B ++ S) = (P ++ A') ++ z :: (z :: (B ++ S)) := by simp
        have r3 : rdo (P ++ (A' ++ [z]) ++ z :: (B ++ S)) (wi64 (((a + (A'.length + 1) : Nat) : Int) - 1)) = some z := by rw [sh2]; exact rdo_mid' i2
        have s2 : (P ++ (A' ++ [z]) ++ z :: (B ++ S)).set (wi64 (((a + (A'.length + 1) : Nat) : Int) - 1)).toNat e = (P ++ A') ++ e :: (z :: (B ++ S)) := by rw [sh2]; exact set_mid' (by rw [i2, Int.toNat_natCast])
        have hstep : slices_insertionSortCmpFunc_Event_s1 (a : Int) (P ++ (A' ++ [z]) ++ e :: (B ++ S), ((a + (A'.length + 1) : Nat) : Int)) = some (.inl (P ++ A' ++ e :: ((z :: B) ++ S), ((a + A'.length : Nat) : Int))) := by
          unfold slices_insertionSortCmpFunc_Event_s1
          simp only
          rw [if_pos (by omega), r1, Option.bind_some, r2, Option.bind_some, hc, Option.bind_some, if_pos (hc2.2 c1), s1, r3, Option.bind_some, s2, i2]
          simp only [List.cons_append, List.length_append]
          rw [hP]
        obtain ⟨Z, z1, z2, z3, z4⟩ := ih A'.length (by omega) A' rfl (z :: B) P S e hP (by simp only [List.length_append, List.length_cons]; omega) (srt_app.1 hA).1 (fun y hy => by
          rcases List.mem_cons.1 hy with q | q
          · rw [q]; exact c1
          · exact hB y q)
        refine ⟨Z, by rw [loopO_next hstep]; exact z1, by rw [z2, List.length_cons]; omega, fun hs => z3 (by simpa using hs), z4.trans ?_⟩
        rw [List.append_assoc]
        refine Eqt.app (Eqt.refl _) ?_
        exact Eqt.app (Eqt.swap (a := [e]) (b := [z]) (fun x hx y hy => by rw [List.mem_singleton.1 hx, List.mem_singleton.1 hy]; omega)) (Eqt.refl B)
      · refine ⟨(A' ++ [z]) ++ e :: B, loopO_done ?_, by simp; omega, fun hs => ?_, Eqt.refl _⟩
        · unfold slices_insertionSortCmpFunc_Event_s1
          simp only
          rw [if_pos (by omega), r1, Option.bind_some, r2, Option.bind_some, hc, Option.bind_some, if_neg (fun q => c1 (hc2.1 q))]
          simp
        · obtain ⟨h1, h2, h3⟩ := srt_app.1 hs
          refine srt_app.2 ⟨h1, List.pairwise_cons.2 ⟨fun y hy => by have := hB y hy; omega, h2⟩, fun x hx y hy => ?_⟩
          rcases List.mem_cons.1 hy with q | q
          · have := srt_last hA x hx
            rw [q]; omega
          · exact h3 x hx y q
theorem insertion_loop {a b : Nat} : ∀ (R Z P S : List Ev), P.length = a → a + Z.length + R.length = b → (P ++ Z ++ (R ++ S)).length ≤ 1000000000 → Srt Z →
    ∃ Z', loopO (slices_insertionSortCmpFunc_Event_s0 (a : Int) (b : Int)) (P ++ Z ++ (R ++ S), ((a + Z.length : Nat) : Int)) = some (P ++ Z' ++ S) ∧ Z'.length = Z.length + R.length ∧ Srt Z' ∧ Eqt Z' (Z ++ R) := by
  intro R
  induction R with
  | nil =>
    intro Z P S hP hb hlen hZ
    rw [List.length_nil] at hb
    refine ⟨Z, loopO_done ?_, by simp, hZ, by rw [List.append_nil]; exact Eqt.refl _⟩
    unfold slices_insertionSortCmpFunc_Event_s0
    simp only
    rw [if_neg (by omega)]
    simp
  | cons e R ih =>
    intro Z P S hP hb hlen hZ
    rw [List.length_cons] at hb
    have hl2 := hlen
    simp only [List.length_append, List.length_cons] at hl2
    obtain ⟨Z1, z1, z2, z3, z4⟩ := insert_loop (a := a) Z [] P (R ++ S) e hP (by simpa using hlen) hZ (fun y hy => by cases hy)
    simp only [List.nil_append, List.append_nil, List.length_nil, Nat.add_zero] at z1 z2 z3 z4
    obtain ⟨Z2, y1, y2, y3, y4⟩ := ih Z1 P S hP (by omega) (by simp only [List.length_append]; omega) (z3 hZ)
    have hstep : slices_insertionSortCmpFunc_Event_s0 (a : Int) (b : Int) (P ++ Z ++ (e :: R ++ S), ((a + Z.length : Nat) : Int)) = some (.inl (P ++ Z1 ++ (R ++ S), ((a + Z1.length : Nat) : Int))) := by
      unfold slices_insertionSortCmpFunc_Event_s0
      simp only
      have z1' : loopO (slices_insertionSortCmpFunc_Event_s1 (a : Int)) (P ++ Z ++ (e :: R ++ S), ((a + Z.length : Nat) : Int)) = some (P ++ Z1 ++ (R ++ S)) := z1
      rw [if_pos (by omega), z1', Option.bind_some, wi64_of (by omega) (by omega), z2]
      rfl
    refine ⟨Z2, by rw [loopO_next hstep]; exact y1, by rw [y2, z2, List.length_cons]; omega, y3, y4.trans ?_⟩
    have := Eqt.app z4 (Eqt.refl R)
    simpa using this
theorem insertion_eq {P W S : List Ev} (hW : W ≠ []) (hlen : (P ++ W ++ S).length ≤ 1000000000) :
    ∃ Z, slices_insertionSortCmpFunc_Event (P ++ W ++ S) (P.length : Int) ((P.length + W.length : Nat) : Int) = some (P ++ Z ++ S) ∧ Z.length = W.length ∧ Srt Z ∧ Eqt Z W := by
  cases W with
  | nil => exact absurd rfl hW
  | cons e R =>
    have hl2 := hlen
    simp only [List.length_append, List.length_cons] at hl2
    obtain ⟨Z, z1, z2, z3, z4⟩ := insertion_loop (a := P.length) (b := P.length + (e :: R).length) R [e] P S rfl (by simp; omega) (by simpa using hlen) (List.pairwise_singleton _ _)
    refine ⟨Z, ?_, by rw [z2]; simp; omega, z3, z4⟩
    unfold slices_insertionSortCmpFunc_Event
    have z1' : loopO (slices_insertionSortCmpFunc_Event_s0 (P.length : Int) ((P.length + (e :: R).length : Nat) : Int)) (P ++ e :: R ++ S, wi64 ((P.length : Int) + 1)) = some (P ++ Z ++ S) := by
      rw [wi64_of (by omega) (by omega)]
      have : P ++ [e] ++ (R ++ S) = P ++ e :: R ++ S := by simp
      rw [this] at z1
      exact z1
    rw [z1']
    rfl

/-! ## Swaps and turns -/
theorem swap_loop {p2 p3 p4 : Nat} : ∀ (A B P M S : List Ev) (i : Nat), A.length = B.length → p2 + i = P.length → p3 + i = P.length + A.length + M.length → i + A.length = p4 → (P ++ A ++ M ++ B ++ S).length ≤ 1000000000 →
    loopO (slices_swapRangeCmpFunc_Event_s0 (p2 : Int) (p3 : Int) (p4 : Int)) (P ++ A ++ M ++ B ++ S, (i : Int)) = some (P ++ B ++ M ++ A ++ S) := by
  intro A
  induction A with
  | nil =>
    intro B P M S i hAB h2 h3 h4 _
    have hB : B = [] := List.eq_nil_of_length_eq_zero hAB.symm
    subst hB
    refine loopO_done ?_
    unfold slices_swapRangeCmpFunc_Event_s0
    simp only
    rw [List.length_nil] at h4
    rw [if_neg (by omega)]
  | cons x A ih =>
    intro B P M S i hAB h2 h3 h4 hlen
    cases B with
    | nil => simp at hAB
    | cons y B =>
      have hAB' : A.length = B.length := by simpa using hAB
      rw [List.length_cons] at h3 h4
      have hl2 := hlen
      simp only [List.length_append, List.length_cons] at hl2
      have i2 : wi64 ((p2 : Int) + (i : Int)) = (P.length : Int) := by rw [wi64_of (by omega) (by omega)]; omega
      have i3 : wi64 ((p3 : Int) + (i : Int)) = ((P ++ x :: A ++ M).length : Int) := by
        rw [wi64_of (by omega) (by omega)]; simp only [List.length_append, List.length_cons]; omega
      have i3' : wi64 ((p3 : Int) + (i : Int)) = ((P ++ y :: A ++ M).length : Int) := by rw [i3]; simp
      have sh : P ++ x :: A ++ M ++ y :: B ++ S = (P ++ x :: A ++ M) ++ y :: (B ++ S) := by simp
      have sh1 : (P ++ x :: A ++ M) ++ y :: (B ++ S) = P ++ x :: (A ++ M ++ y :: (B ++ S)) := by simp
      have sh2 : P ++ y :: (A ++ M ++ y :: (B ++ S)) = (P ++ y :: A ++ M) ++ y :: (B ++ S) := by simp
      have hstep : slices_swapRangeCmpFunc_Event_s0 (p2 : Int) (p3 : Int) (p4 : Int) (P ++ x :: A ++ M ++ y :: B ++ S, (i : Int)) = some (.inl ((P ++ [y]) ++ A ++ (M ++ [x]) ++ B ++ S, ((i + 1 : Nat) : Int))) := by
        unfold slices_swapRangeCmpFunc_Event_s0
        simp only
        rw [if_pos (by omega), sh, rdo_mid' i3, Option.bind_some, sh1, rdo_mid' i2, Option.bind_some, set_mid' (by rw [i2, Int.toNat_natCast]), sh2, rdo_mid' i3', Option.bind_some, set_mid' (by rw [i3', Int.toNat_natCast]), wi64_of (by omega) (by omega)]
        simp
      rw [loopO_next hstep, ih B (P ++ [y]) (M ++ [x]) S (i + 1) hAB' (by simp; omega) (by simp; omega) (by omega) (by simp only [List.length_append, List.length_cons, List.length_nil]; omega)]
      simp
theorem swap_eq {A B P M S : List Ev} (hAB : A.length = B.length) (hlen : (P ++ A ++ M ++ B ++ S).length ≤ 1000000000) :
    slices_swapRangeCmpFunc_Event (P ++ A ++ M ++ B ++ S) (P.length : Int) ((P.length + A.length + M.length : Nat) : Int) (A.length : Int) = some (P ++ B ++ M ++ A ++ S) := by
  unfold slices_swapRangeCmpFunc_Event
  have := swap_loop (p2 := P.length) (p3 := P.length + A.length + M.length) (p4 := A.length) A B P M S 0 hAB (by omega) (by omega) (by omega) hlen
  rw [show ((0 : Int)) = ((0 : Nat) : Int) from rfl, this]
  rfl
theorem rotate_loop {m : Nat} : ∀ (n : Nat) (L U V R : List Ev), U.length + V.length = n → U ≠ [] → V ≠ [] → L.length + U.length = m → (L ++ U ++ V ++ R).length ≤ 1000000000 →
    ∃ L' U' V' R', loopO (slices_rotateCmpFunc_Event_s0 (m : Int)) (L ++ U ++ V ++ R, (U.length : Int), (V.length : Int)) = some (L' ++ U' ++ V' ++ R', (U'.length : Int)) ∧ U'.length = V'.length ∧ L'.length + U'.length = m ∧ L' ++ V' ++ U' ++ R' = L ++ V ++ U ++ R := by
  intro n
  induction n using Nat.strongRecOn with
  | ind n ih =>
    intro L U V R hn hU hV hm hlen
    have hU0 : 0 < U.length := List.length_pos_iff.2 hU
    have hV0 : 0 < V.length := List.length_pos_iff.2 hV
    have hl2 := hlen
    simp only [List.length_append] at hl2
    by_cases c1 : U.length = V.length
    · refine ⟨L, U, V, R, loopO_done ?_, c1, hm, rfl⟩
      unfold slices_rotateCmpFunc_Event_s0
      simp only
      rw [if_neg (by simp [c1])]
    · by_cases c2 : V.length < U.length
      · -- U = A ++ B, A as long as V
        obtain ⟨A, B, hAB, hA⟩ : ∃ A B, U = A ++ B ∧ A.length = V.length := ⟨U.take V.length, U.drop V.length, (List.take_append_drop _ _).symm, by rw [List.length_take]; omega⟩
        subst hAB
        rw [List.length_append] at *
        have hs := swap_eq (A := A) (B := V) (P := L) (M := B) (S := R) hA (by simp only [List.length_append]; omega)
        have hstep : slices_rotateCmpFunc_Event_s0 (m : Int) (L ++ (A ++ B) ++ V ++ R, ((A.length + B.length : Nat) : Int), (V.length : Int)) = some (.inl ((L ++ V) ++ B ++ A ++ R, (B.length : Int), (A.length : Int))) := by
          unfold slices_rotateCmpFunc_Event_s0
          simp only
          rw [if_pos (by omega), if_pos (by omega), wi64_of (x := (m : Int) - ((A.length + B.length : Nat) : Int)) (by omega) (by omega)]
          rw [show (m : Int) - ((A.length + B.length : Nat) : Int) = (L.length : Int) by omega, show (m : Int) = ((L.length + A.length + B.length : Nat) : Int) by omega, ← hA, show L ++ (A ++ B) ++ V ++ R = L ++ A ++ B ++ V ++ R by simp, hs, Option.bind_some, wi64_of (by omega) (by omega)]
          rw [show ((A.length + B.length : Nat) : Int) - (A.length : Int) = (B.length : Int) by omega]
        obtain ⟨L', U', V', R', h1, h2, h3, h4⟩ := ih (B.length + A.length) (by omega) (L ++ V) B A R rfl (fun q => by subst q; simp at c2; omega) (fun q => by subst q; simp at hA; omega) (by rw [List.length_append]; omega) (by simp only [List.length_append]; omega)
        refine ⟨L', U', V', R', by rw [loopO_next hstep]; exact h1, h2, h3, by rw [h4]; simp⟩
      · -- V = A ++ B, B as long as U
        obtain ⟨A, B, hAB, hB⟩ : ∃ A B, V = A ++ B ∧ B.length = U.length := ⟨V.take (V.length - U.length), V.drop (V.length - U.length), (List.take_append_drop _ _).symm, by rw [List.length_drop]; omega⟩
        subst hAB
        rw [List.length_append] at *
        have hs := swap_eq (A := U) (B := B) (P := L) (M := A) (S := R) hB.symm (by simp only [List.length_append]; omega)
        have hstep : slices_rotateCmpFunc_Event_s0 (m : Int) (L ++ U ++ (A ++ B) ++ R, (U.length : Int), ((A.length + B.length : Nat) : Int)) = some (.inl (L ++ B ++ A ++ (U ++ R), (B.length : Int), (A.length : Int))) := by
          unfold slices_rotateCmpFunc_Event_s0
          simp only
          rw [if_pos (by omega), if_neg (by omega), wi64_of (x := (m : Int) - (U.length : Int)) (by omega) (by omega), wi64_of (x := (m : Int) + ((A.length + B.length : Nat) : Int)) (by omega) (by omega), wi64_of (x := (m : Int) + ((A.length + B.length : Nat) : Int) - (U.length : Int)) (by omega) (by omega)]
          rw [show (m : Int) - (U.length : Int) = (L.length : Int) by omega, show (m : Int) + ((A.length + B.length : Nat) : Int) - (U.length : Int) = ((L.length + U.length + A.length : Nat) : Int) by omega, show L ++ U ++ (A ++ B) ++ R = L ++ U ++ A ++ B ++ R by simp, hs, Option.bind_some, wi64_of (by omega) (by omega)]
          rw [show ((A.length + B.length : Nat) : Int) - (U.length : Int) = (A.length : Int) by omega, hB]
          simp
        obtain ⟨L', U', V', R', h1, h2, h3, h4⟩ := ih (B.length + A.length) (by omega) L B A (U ++ R) rfl (fun q => by subst q; simp at hB; omega) (fun q => by subst q; simp at c1 c2; omega) (by omega) (by simp only [List.length_append]; omega)
        refine ⟨L', U', V', R', by rw [loopO_next hstep]; exact h1, h2, h3, by rw [h4]; simp⟩
theorem rotate_eq {L U V R : List Ev} (hU : U ≠ []) (hV : V ≠ []) (hlen : (L ++ U ++ V ++ R).length ≤ 1000000000) :
    slices_rotateCmpFunc_Event (L ++ U ++ V ++ R) (L.length : Int) ((L.length + U.length : Nat) : Int) ((L.length + U.length + V.length : Nat) : Int) = some (L ++ V ++ U ++ R) := by
  have hl2 := hlen
  simp only [List.length_append] at hl2
  obtain ⟨L', U', V', R', h1, h2, h3, h4⟩ := rotate_loop (m := L.length + U.length) (U.length + V.length) L U V R rfl hU hV rfl hlen
  have h5 := congrArg List.length h4
  simp only [List.length_append] at h5
  unfold slices_rotateCmpFunc_Event
  rw [wi64_of (x := ((L.length + U.length : Nat) : Int) - (L.length : Int)) (by omega) (by omega), wi64_of (x := ((L.length + U.length + V.length : Nat) : Int) - ((L.length + U.length : Nat) : Int)) (by omega) (by omega)]
  rw [show ((L.length + U.length : Nat) : Int) - (L.length : Int) = (U.length : Int) by omega, show ((L.length + U.length + V.length : Nat) : Int) - ((L.length + U.length : Nat) : Int) = (V.length : Int) by omega, h1, Option.bind_some]
  simp only
  have hs := swap_eq (A := U') (B := V') (P := L') (M := []) (S := R') h2 (by simp only [List.length_append, List.length_nil]; omega)
  simp only [List.append_nil, List.length_nil, Nat.add_zero] at hs
  rw [wi64_of (by omega) (by omega), show ((L.length + U.length : Nat) : Int) - (U'.length : Int) = (L'.length : Int) by omega, show ((L.length + U.length : Nat) : Int) = ((L'.length + U'.length : Nat) : Int) by omega, hs, Option.bind_some, h4]
end Go.Proofs.Ytbeknohemgjfbaa.Pu
