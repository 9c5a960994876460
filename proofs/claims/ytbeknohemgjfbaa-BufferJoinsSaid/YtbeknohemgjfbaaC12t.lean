/- The library's stable sort: two parts in turn, merged where they stand. -/
import Derived.Test.YtbeknohemgjfbaaC12s
namespace Go.Proofs.Ytbeknohemgjfbaa.Pu
set_option linter.unusedVariables false

theorem shrk1 (n : Nat) : shrk 64 (n : Int) 1 = ((n / 2 : Nat) : Int) := by
  unfold shrk
  rw [show (min (1 : Int).toNat 64) = 1 from rfl, Int.fdiv_eq_ediv_of_nonneg _ (by decide)]
  omega
theorem mid_eq {i j : Nat} (h : i + j ≤ 9223372036854775807) : wi64 (shrk 64 (wu64 (wi64 ((i : Int) + (j : Int)))) 1) = (((i + j) / 2 : Nat) : Int) := by
  rw [wi64_of (x := (i : Int) + (j : Int)) (by omega) (by omega), wu64_of (x := (i : Int) + (j : Int)) (by omega) (by omega), show (i : Int) + (j : Int) = ((i + j : Nat) : Int) by omega, shrk1, wi64_of (by omega) (by omega)]
/-- A search by halves, for the first place at which something isn't so. -/
theorem halves {step : Int × Int → Option ((Int × Int) ⊕ Int)} {q : Nat → Prop} {lo hi : Nat}
    (h1 : ∀ i j : Nat, lo ≤ i → i < j → j ≤ hi → step ((i : Int), (j : Int)) = some (.inl ((((i + j) / 2 + 1 : Nat) : Int), (j : Int))) ∧ q ((i + j) / 2) ∨ step ((i : Int), (j : Int)) = some (.inl ((i : Int), (((i + j) / 2 : Nat) : Int))) ∧ ¬ q ((i + j) / 2))
    (h2 : ∀ i : Nat, step ((i : Int), (i : Int)) = some (.inr (i : Int))) (hm : ∀ i j, lo ≤ i → i ≤ j → j < hi → q j → q i) (hlh : lo ≤ hi) :
    ∃ r : Nat, loopO step ((lo : Int), (hi : Int)) = some (r : Int) ∧ lo ≤ r ∧ r ≤ hi ∧ (∀ i, lo ≤ i → i < r → q i) ∧ (∀ i, r ≤ i → i < hi → ¬ q i) := by
  have key : ∀ n i j : Nat, j - i = n → lo ≤ i → i ≤ j → j ≤ hi → (∀ k, lo ≤ k → k < i → q k) → (∀ k, j ≤ k → k < hi → ¬ q k) →
      ∃ r : Nat, loopO step ((i : Int), (j : Int)) = some (r : Int) ∧ lo ≤ r ∧ r ≤ hi ∧ (∀ i, lo ≤ i → i < r → q i) ∧ (∀ i, r ≤ i → i < hi → ¬ q i) := by
    intro n
    induction n using Nat.strongRecOn with
    | ind n ih =>
      intro i j hn hi1 hij hj1 hA hB
      by_cases c : i = j
      · subst c
        exact ⟨i, loopO_done (h2 i), hi1, hj1, hA, hB⟩
      · have hlt : i < j := by omega
        rcases h1 i j hi1 hlt hj1 with ⟨e, hq⟩ | ⟨e, hq⟩
        · rw [loopO_next e]
          exact ih (j - ((i + j) / 2 + 1)) (by omega) ((i + j) / 2 + 1) j rfl (by omega) (by omega) hj1 (fun k hk1 hk2 => hm k ((i + j) / 2) hk1 (by omega) (by omega) hq) hB
        · rw [loopO_next e]
          exact ih ((i + j) / 2 - i) (by omega) i ((i + j) / 2) rfl hi1 (by omega) (by omega) hA (fun k hk1 hk2 hqk => hq (hm ((i + j) / 2) k (by omega) hk1 hk2 hqk))
  exact key (hi - lo) lo hi rfl (Nat.le_refl _) hlh (Nat.le_refl _) (fun k hk1 hk2 => by omega) (fun k hk1 hk2 => by omega)
section
variable {α : Type}
theorem rdo_in {P X S : List α} {i : Nat} (h1 : P.length ≤ i) (h2 : i < P.length + X.length) : rdo (P ++ X ++ S) (i : Int) = some (X[i - P.length]'(by omega)) := by
  rw [rdo_nat, List.append_assoc, List.getElem?_append_right h1, List.getElem?_append_left (by omega), List.getElem?_eq_getElem (by omega)]
end
/-- An element goes to the right, over so many. -/
theorem right_loop : ∀ (Y P S : List Ev) (x : Ev) (x6 : Int), x6 = ((P.length + Y.length + 1 : Nat) : Int) → (P ++ x :: Y ++ S).length ≤ 1000000000 →
    loopO (slices_symMergeCmpFunc_Event_s1 x6) (P ++ x :: Y ++ S, (P.length : Int)) = some (P ++ Y ++ x :: S) := by
  intro Y
  induction Y with
  | nil =>
    intro P S x x6 h6 hlen
    have hl2 := hlen
    simp only [List.length_append, List.length_cons, List.length_nil] at hl2 h6
    have hs : slices_symMergeCmpFunc_Event_s1 x6 (P ++ [x] ++ S, (P.length : Int)) = some (.inr (P ++ [x] ++ S)) := by
      unfold slices_symMergeCmpFunc_Event_s1
      simp only
      rw [wi64_of (by omega) (by omega), if_neg (by omega)]
    rw [loopO_done hs]
    simp
  | cons y Y ih =>
    intro P S x x6 h6 hlen
    have hl2 := hlen
    simp only [List.length_append, List.length_cons] at hl2 h6
    have i1 : wi64 ((P.length : Int) + 1) = ((P ++ [x]).length : Int) := by rw [wi64_of (by omega) (by omega)]; simp
    have i1' : wi64 ((P.length : Int) + 1) = ((P ++ [y]).length : Int) := by rw [i1]; simp
    have sh : P ++ x :: (y :: Y) ++ S = (P ++ [x]) ++ y :: (Y ++ S) := by simp
    have sh0 : P ++ x :: (y :: Y) ++ S = P ++ x :: (y :: (Y ++ S)) := by simp
    have sh1 : P ++ y :: (y :: (Y ++ S)) = (P ++ [y]) ++ y :: (Y ++ S) := by simp
    have hstep : slices_symMergeCmpFunc_Event_s1 x6 (P ++ x :: (y :: Y) ++ S, (P.length : Int)) = some (.inl ((P ++ [y]) ++ x :: Y ++ S, ((P ++ [y]).length : Int))) := by
      unfold slices_symMergeCmpFunc_Event_s1
      simp only
      have r1 : rdo (P ++ x :: (y :: Y) ++ S) (wi64 ((P.length : Int) + 1)) = some y := by rw [sh]; exact rdo_mid' i1
      have r2 : rdo (P ++ x :: (y :: Y) ++ S) (P.length : Int) = some x := by rw [sh0]; exact rdo_mid _ _ _
      have s1 : (P ++ x :: (y :: Y) ++ S).set (P.length : Int).toNat y = P ++ y :: (y :: (Y ++ S)) := by rw [sh0]; exact set_mid' (by rw [Int.toNat_natCast])
      have r3 : rdo (P ++ y :: (y :: (Y ++ S))) (wi64 ((P.length : Int) + 1)) = some y := by rw [sh1]; exact rdo_mid' i1'
      have s2 : (P ++ y :: (y :: (Y ++ S))).set (wi64 ((P.length : Int) + 1)).toNat x = (P ++ [y]) ++ x :: (Y ++ S) := by rw [sh1]; exact set_mid' (by rw [i1', Int.toNat_natCast])
      rw [wi64_of (x := x6 - 1) (by omega) (by omega), if_pos (by omega), r1, Option.bind_some, r2, Option.bind_some, s1, r3, Option.bind_some, s2, i1']
      simp
    rw [loopO_next hstep, ih (P ++ [y]) S x x6 (by simp; omega) (by simp; omega)]
    simp
/-- An element goes to the left, over so many. -/
theorem left_loop : ∀ (X P S : List Ev) (y : Ev) (x8 : Int), x8 = (P.length : Int) → (P ++ X ++ y :: S).length ≤ 1000000000 →
    loopO (slices_symMergeCmpFunc_Event_s3 x8) (P ++ X ++ y :: S, ((P.length + X.length : Nat) : Int)) = some (P ++ y :: X ++ S) := by
  intro X
  induction hn : X.length using Nat.strongRecOn generalizing X with
  | ind n ih =>
    intro P S y x8 h8 hlen
    subst hn
    rcases List.eq_nil_or_concat X with h0 | ⟨X', z, h0⟩
    · subst h0
      have hs : slices_symMergeCmpFunc_Event_s3 x8 (P ++ [] ++ y :: S, ((P.length + ([] : List Ev).length : Nat) : Int)) = some (.inr (P ++ [] ++ y :: S)) := by
        unfold slices_symMergeCmpFunc_Event_s3
        simp only
        rw [if_neg (by simp; omega)]
      rw [loopO_done hs]
      simp
    · rw [List.concat_eq_append] at h0
      subst h0
      rw [List.length_append, List.length_singleton] at *
      have hl2 := hlen
      simp only [List.length_append, List.length_cons, List.length_nil] at hl2
      have i1 : ((P.length + (X'.length + 1) : Nat) : Int) = ((P ++ (X' ++ [z])).length : Int) := by simp
      have i1' : ((P.length + (X'.length + 1) : Nat) : Int) = ((P ++ X' ++ [z]).length : Int) := by simp
      have i2 : wi64 (((P.length + (X'.length + 1) : Nat) : Int) - 1) = ((P ++ X').length : Int) := by rw [wi64_of (by omega) (by omega)]; simp; omega
      have sh : P ++ (X' ++ [z]) ++ y :: S = (P ++ X') ++ z :: (y :: S) := by simp
      have sh2 : P ++ (X' ++ [z]) ++ z :: S = (P ++ X') ++ z :: (z :: S) := by simp
      have hstep : slices_symMergeCmpFunc_Event_s3 x8 (P ++ (X' ++ [z]) ++ y :: S, ((P.length + (X'.length + 1) : Nat) : Int)) = some (.inl (P ++ X' ++ y :: (z :: S), ((P.length + X'.length : Nat) : Int))) := by
        unfold slices_symMergeCmpFunc_Event_s3
        simp only
        have r1 : rdo (P ++ (X' ++ [z]) ++ y :: S) (wi64 (((P.length + (X'.length + 1) : Nat) : Int) - 1)) = some z := by rw [sh]; exact rdo_mid' i2
        have r2 : rdo (P ++ (X' ++ [z]) ++ y :: S) ((P.length + (X'.length + 1) : Nat) : Int) = some y := rdo_mid' i1
        have s1 : (P ++ (X' ++ [z]) ++ y :: S).set ((P.length + (X'.length + 1) : Nat) : Int).toNat z = P ++ (X' ++ [z]) ++ z :: S := set_mid' (by rw [i1, Int.toNat_natCast])
        have r3 : rdo (P ++ (X' ++ [z]) ++ z :: S) (wi64 (((P.length + (X'.length + 1) : Nat) : Int) - 1)) = some z := by rw [sh2]; exact rdo_mid' i2
        have s2 : (P ++ (X' ++ [z]) ++ z :: S).set (wi64 (((P.length + (X'.length + 1) : Nat) : Int) - 1)).toNat y = (P ++ X') ++ y :: (z :: S) := by rw [sh2]; exact set_mid' (by rw [i2, Int.toNat_natCast])
        rw [if_pos (by omega), r1, Option.bind_some, r2, Option.bind_some, s1, r3, Option.bind_some, s2, i2]
        simp
      rw [loopO_next hstep, ih X'.length (by omega) X' rfl P (z :: S) y x8 h8 (by simp only [List.length_append, List.length_cons]; omega)]
      simp
/-- A part of a sorted list. -/
theorem srt_get {l : List Ev} (h : Srt l) {i j : Nat} (hi : i < l.length) (hj : j < l.length) (hij : i ≤ j) : l[i].1 ≤ l[j].1 := srt_le h hi hj hij
theorem srt_take {l : List Ev} (h : Srt l) (k : Nat) : Srt (l.take k) := h.sublist (List.take_sublist _ _)
theorem srt_drop {l : List Ev} (h : Srt l) (k : Nat) : Srt (l.drop k) := h.sublist (List.drop_sublist _ _)
/-- What the merge comes to. -/
def MergeOk (f : List Ev → Int → Int → Int → Option (List Ev)) (n : Nat) : Prop :=
  ∀ (P X Y S : List Ev), X ≠ [] → Y ≠ [] → X.length + Y.length ≤ n → Srt X → Srt Y → (P ++ X ++ Y ++ S).length ≤ 1000000000 →
    ∃ Z, f (P ++ X ++ Y ++ S) (P.length : Int) ((P.length + X.length : Nat) : Int) ((P.length + X.length + Y.length : Nat) : Int) = some (P ++ Z ++ S) ∧ Z.length = X.length + Y.length ∧ Srt Z ∧ Eqt Z (X ++ Y)
theorem merge_left {f : List Ev → Int → Int → Int → Option (List Ev)} {P Y S : List Ev} {x : Ev} (hY : Srt Y) (hlen : (P ++ [x] ++ Y ++ S).length ≤ 1000000000) :
    ∃ Z, slices_symMergeCmpFunc_Event_F f (P ++ [x] ++ Y ++ S) (P.length : Int) ((P.length + 1 : Nat) : Int) ((P.length + 1 + Y.length : Nat) : Int) = some (P ++ Z ++ S) ∧ Z.length = 1 + Y.length ∧ Srt Z ∧ Eqt Z ([x] ++ Y) := by
  have hl2 := hlen
  simp only [List.length_append, List.length_cons, List.length_nil] at hl2
  have hget : ∀ i : Nat, P.length + 1 ≤ i → i < P.length + 1 + Y.length → rdo (P ++ [x] ++ Y ++ S) (i : Int) = Y[i - (P.length + 1)]? := by
    intro i h1 h2
    have := rdo_in (P := P ++ [x]) (X := Y) (S := S) (i := i) (by simp; omega) (by simp; omega)
    rw [this, List.getElem?_eq_getElem (by omega)]
    congr 2
    simp
  have hx : rdo (P ++ [x] ++ Y ++ S) (P.length : Int) = some x := by
    have : P ++ [x] ++ Y ++ S = P ++ x :: (Y ++ S) := by simp
    rw [this]; exact rdo_mid _ _ _
  obtain ⟨r, r1, r2, r3, r4, r5⟩ := halves (step := slices_symMergeCmpFunc_Event_s0 (P ++ [x] ++ Y ++ S) (P.length : Int)) (q := fun i => (Y.getD (i - (P.length + 1)) (0, 0, 0)).1 < x.1) (lo := P.length + 1) (hi := P.length + 1 + Y.length) (fun i j hi hij hj => by
      have hm : (i + j) / 2 - (P.length + 1) < Y.length := by omega
      obtain ⟨c, hc, hc2⟩ := cmp_eq Y[(i + j) / 2 - (P.length + 1)] x
      have e0 : slices_symMergeCmpFunc_Event_s0 (P ++ [x] ++ Y ++ S) (P.length : Int) ((i : Int), (j : Int)) = if c < 0 then some (.inl ((((i + j) / 2 + 1 : Nat) : Int), (j : Int))) else some (.inl ((i : Int), (((i + j) / 2 : Nat) : Int))) := by
        unfold slices_symMergeCmpFunc_Event_s0
        simp only
        rw [if_pos (by omega), mid_eq (by omega), hget _ (by omega) (by omega), List.getElem?_eq_getElem hm, Option.bind_some, hx, Option.bind_some, hc, Option.bind_some, wi64_of (by omega) (by omega)]
        rfl
      rw [List.getD_eq_getElem?_getD, List.getElem?_eq_getElem hm, Option.getD_some]
      by_cases cc : c < 0
      · exact .inl ⟨by rw [e0, if_pos cc], hc2.1 cc⟩
      · exact .inr ⟨by rw [e0, if_neg cc], fun q => cc (hc2.2 q)⟩) (fun i => by
      unfold slices_symMergeCmpFunc_Event_s0
      simp only
      rw [if_neg (by omega)]) (fun i j hi hij hj hq => by
      rw [List.getD_eq_getElem?_getD, List.getElem?_eq_getElem (by omega), Option.getD_some] at hq ⊢
      have := srt_get hY (i := i - (P.length + 1)) (j := j - (P.length + 1)) (by omega) (by omega) (by omega)
      omega) (by omega)
  have hk : r - (P.length + 1) ≤ Y.length := by omega
  generalize hkk : r - (P.length + 1) = k at hk
  have hsplit : Y = Y.take k ++ Y.drop k := (List.take_append_drop k Y).symm
  have hlt : ∀ y ∈ Y.take k, y.1 < x.1 := by
    intro y hy
    obtain ⟨i, hi, rfl⟩ := List.getElem_of_mem hy
    rw [List.length_take] at hi
    have := r4 (i + (P.length + 1)) (by omega) (by omega)
    rw [List.getD_eq_getElem?_getD, Nat.add_sub_cancel, List.getElem?_eq_getElem (by omega), Option.getD_some] at this
    rw [List.getElem_take]
    exact this
  have hge : ∀ y ∈ Y.drop k, x.1 ≤ y.1 := by
    intro y hy
    obtain ⟨i, hi, rfl⟩ := List.getElem_of_mem hy
    rw [List.length_drop] at hi
    have := r5 (k + i + (P.length + 1)) (by omega) (by omega)
    rw [List.getD_eq_getElem?_getD, Nat.add_sub_cancel, List.getElem?_eq_getElem (by omega), Option.getD_some] at this
    rw [List.getElem_drop]
    omega
  have hmove := right_loop (Y.take k) P (Y.drop k ++ S) x (r : Int) (by rw [List.length_take]; omega) (by simp only [List.length_append, List.length_cons, List.length_take, List.length_drop]; omega)
  refine ⟨Y.take k ++ x :: Y.drop k, ?_, by simp only [List.length_append, List.length_cons, List.length_take, List.length_drop]; omega, ?_, ?_⟩
  · unfold slices_symMergeCmpFunc_Event_F
    rw [wi64_of (by omega) (by omega), if_pos (by omega), r1, Option.bind_some]
    have sh : P ++ [x] ++ Y ++ S = P ++ x :: Y.take k ++ (Y.drop k ++ S) := by
      have : Y ++ S = Y.take k ++ (Y.drop k ++ S) := by rw [← List.append_assoc, List.take_append_drop]
      simp [this]
    rw [sh, hmove, Option.bind_some]
    simp
  · refine srt_app.2 ⟨srt_take hY k, List.pairwise_cons.2 ⟨hge, srt_drop hY k⟩, fun a ha b hb => ?_⟩
    have h1 := hlt a ha
    rcases List.mem_cons.1 hb with q | q
    · rw [q]; omega
    · have := hge b q; omega
  · have h1 : Eqt (Y.take k ++ [x]) ([x] ++ Y.take k) := Eqt.swap (fun a ha b hb => by rw [List.mem_singleton.1 hb]; have := hlt a ha; omega)
    have h2 := Eqt.app h1 (Eqt.refl (Y.drop k))
    rw [List.append_assoc, List.append_assoc, List.take_append_drop] at h2
    exact h2
theorem merge_right {f : List Ev → Int → Int → Int → Option (List Ev)} {P X S : List Ev} {y : Ev} (h2X : X.length ≠ 1) (hX : Srt X) (hlen : (P ++ X ++ [y] ++ S).length ≤ 1000000000) :
    ∃ Z, slices_symMergeCmpFunc_Event_F f (P ++ X ++ [y] ++ S) (P.length : Int) ((P.length + X.length : Nat) : Int) ((P.length + X.length + 1 : Nat) : Int) = some (P ++ Z ++ S) ∧ Z.length = X.length + 1 ∧ Srt Z ∧ Eqt Z (X ++ [y]) := by
  have hl2 := hlen
  simp only [List.length_append, List.length_cons, List.length_nil] at hl2
  have hget : ∀ i : Nat, P.length ≤ i → i < P.length + X.length → rdo (P ++ X ++ [y] ++ S) (i : Int) = X[i - P.length]? := by
    intro i h1 h2
    have := rdo_in (P := P) (X := X) (S := [y] ++ S) (i := i) h1 h2
    rw [List.append_assoc (P ++ X), this, List.getElem?_eq_getElem (by omega)]
  have hy : rdo (P ++ X ++ [y] ++ S) ((P.length + X.length : Nat) : Int) = some y := by
    have : P ++ X ++ [y] ++ S = (P ++ X) ++ y :: S := by simp
    rw [this]; exact rdo_mid' (by simp)
  obtain ⟨r, r1, r2, r3, r4, r5⟩ := halves (step := slices_symMergeCmpFunc_Event_s2 (P ++ X ++ [y] ++ S) ((P.length + X.length : Nat) : Int)) (q := fun i => ¬ y.1 < (X.getD (i - P.length) (0, 0, 0)).1) (lo := P.length) (hi := P.length + X.length) (fun i j hi hij hj => by
      have hm : (i + j) / 2 - P.length < X.length := by omega
      obtain ⟨c, hc, hc2⟩ := cmp_eq y X[(i + j) / 2 - P.length]
      have e0 : slices_symMergeCmpFunc_Event_s2 (P ++ X ++ [y] ++ S) ((P.length + X.length : Nat) : Int) ((i : Int), (j : Int)) = if ¬ (c < 0) then some (.inl ((((i + j) / 2 + 1 : Nat) : Int), (j : Int))) else some (.inl ((i : Int), (((i + j) / 2 : Nat) : Int))) := by
        unfold slices_symMergeCmpFunc_Event_s2
        simp only
        rw [if_pos (by omega), hy, Option.bind_some, mid_eq (by omega), hget _ (by omega) (by omega), List.getElem?_eq_getElem hm, Option.bind_some, hc, Option.bind_some, wi64_of (by omega) (by omega)]
        rfl
      rw [List.getD_eq_getElem?_getD, List.getElem?_eq_getElem hm, Option.getD_some]
      by_cases cc : c < 0
      · exact .inr ⟨by rw [e0, if_neg (fun q => q cc)], fun q => q (hc2.1 cc)⟩
      · exact .inl ⟨by rw [e0, if_pos cc], fun q => cc (hc2.2 q)⟩) (fun i => by
      unfold slices_symMergeCmpFunc_Event_s2
      simp only
      rw [if_neg (by omega)]) (fun i j hi hij hj hq => by
      rw [List.getD_eq_getElem?_getD, List.getElem?_eq_getElem (by omega), Option.getD_some] at hq ⊢
      have := srt_get hX (i := i - P.length) (j := j - P.length) (by omega) (by omega) (by omega)
      omega) (by omega)
  have hk : r - P.length ≤ X.length := by omega
  generalize hkk : r - P.length = k at hk
  have hle : ∀ x ∈ X.take k, x.1 ≤ y.1 := by
    intro x hx
    obtain ⟨i, hi, rfl⟩ := List.getElem_of_mem hx
    rw [List.length_take] at hi
    have := r4 (i + P.length) (by omega) (by omega)
    rw [List.getD_eq_getElem?_getD, Nat.add_sub_cancel, List.getElem?_eq_getElem (by omega), Option.getD_some] at this
    rw [List.getElem_take]
    omega
  have hgt : ∀ x ∈ X.drop k, y.1 < x.1 := by
    intro x hx
    obtain ⟨i, hi, rfl⟩ := List.getElem_of_mem hx
    rw [List.length_drop] at hi
    have := r5 (k + i + P.length) (by omega) (by omega)
    rw [List.getD_eq_getElem?_getD, Nat.add_sub_cancel, List.getElem?_eq_getElem (by omega), Option.getD_some] at this
    rw [List.getElem_drop]
    omega
  have hmove := left_loop (X.drop k) (P ++ X.take k) S y (r : Int) (by rw [List.length_append, List.length_take]; omega) (by simp only [List.length_append, List.length_cons, List.length_take, List.length_drop]; omega)
  refine ⟨X.take k ++ y :: X.drop k, ?_, by simp only [List.length_append, List.length_cons, List.length_take, List.length_drop]; omega, ?_, ?_⟩
  · unfold slices_symMergeCmpFunc_Event_F
    rw [wi64_of (x := ((P.length + X.length : Nat) : Int) - (P.length : Int)) (by omega) (by omega), if_neg (by omega), wi64_of (x := ((P.length + X.length + 1 : Nat) : Int) - ((P.length + X.length : Nat) : Int)) (by omega) (by omega), if_pos (by omega), r1, Option.bind_some]
    have sh : P ++ X ++ [y] ++ S = P ++ X.take k ++ X.drop k ++ y :: S := by
      have e : X.take k ++ X.drop k = X := List.take_append_drop k X
      rw [List.append_assoc P (X.take k), e]; simp
    have hi : ((P.length + X.length : Nat) : Int) = (((P ++ X.take k).length + (X.drop k).length : Nat) : Int) := by rw [List.length_append, List.length_take, List.length_drop]; omega
    rw [sh, hi, hmove, Option.bind_some]
    simp
  · refine srt_app.2 ⟨srt_take hX k, List.pairwise_cons.2 ⟨fun b hb => by have := hgt b hb; omega, srt_drop hX k⟩, fun a ha b hb => ?_⟩
    have h1 := hle a ha
    rcases List.mem_cons.1 hb with q | q
    · rw [q]; exact h1
    · have := hgt b q; omega
  · have h1 : Eqt ([y] ++ X.drop k) (X.drop k ++ [y]) := Eqt.swap (fun a ha b hb => by rw [List.mem_singleton.1 ha]; have := hgt b hb; omega)
    have h2 := Eqt.app (Eqt.refl (X.take k)) h1
    rw [← List.append_assoc, ← List.append_assoc, List.take_append_drop] at h2
    simpa using h2
end Go.Proofs.Ytbeknohemgjfbaa.Pu
