/- The library's stable sort, whole. -/
import Derived.Test.YtbeknohemgjfbaaC12t
namespace Go.Proofs.Ytbeknohemgjfbaa.Pu
set_option linter.unusedVariables false

theorem getD_lt2 {l : List Ev} {i : Nat} (h : i < l.length) : l.getD i (0, 0, 0) = l[i] := by rw [List.getD_eq_getElem?_getD, List.getElem?_eq_getElem h]; rfl
set_option maxHeartbeats 1000000 in
theorem merge_step {f : List Ev → Int → Int → Int → Option (List Ev)} {n' : Nat} (hf : MergeOk f n') {P X Y S : List Ev} (hx2 : 2 ≤ X.length) (hy2 : 2 ≤ Y.length) (hn : (X.length + Y.length + 1) / 2 ≤ n') (hX : Srt X) (hY : Srt Y) (hlen : (P ++ X ++ Y ++ S).length ≤ 1000000000) :
    ∃ Z, slices_symMergeCmpFunc_Event_F f (P ++ X ++ Y ++ S) (P.length : Int) ((P.length + X.length : Nat) : Int) ((P.length + X.length + Y.length : Nat) : Int) = some (P ++ Z ++ S) ∧ Z.length = X.length + Y.length ∧ Srt Z ∧ Eqt Z (X ++ Y) := by
  have hl2 := hlen
  simp only [List.length_append] at hl2
  obtain ⟨a, ha⟩ : ∃ a, a = P.length := ⟨_, rfl⟩
  obtain ⟨m, hm⟩ : ∃ m, m = P.length + X.length := ⟨_, rfl⟩
  obtain ⟨b, hb⟩ : ∃ b, b = P.length + X.length + Y.length := ⟨_, rfl⟩
  obtain ⟨mid, hmid⟩ : ∃ mid, mid = (a + b) / 2 := ⟨_, rfl⟩
  have hmida : mid - a = (X.length + Y.length) / 2 := by omega
  have eMid : wi64 (shrk 64 (wu64 (wi64 ((P.length : Int) + ((P.length + X.length + Y.length : Nat) : Int)))) 1) = (mid : Int) := by rw [mid_eq (by omega), hmid, ha, hb]
  have hgX : ∀ i : Nat, a ≤ i → i < m → rdo (P ++ X ++ Y ++ S) (i : Int) = X[i - a]? := by
    intro i h1 h2
    have := rdo_in (P := P) (X := X) (S := Y ++ S) (i := i) (by omega) (by omega)
    rw [List.append_assoc (P ++ X), this, List.getElem?_eq_getElem (by omega)]
    congr 2
    omega
  have hgY : ∀ i : Nat, m ≤ i → i < b → rdo (P ++ X ++ Y ++ S) (i : Int) = Y[i - m]? := by
    intro i h1 h2
    have := rdo_in (P := P ++ X) (X := Y) (S := S) (i := i) (by rw [List.length_append]; omega) (by rw [List.length_append]; omega)
    rw [this, List.getElem?_eq_getElem (by omega)]
    congr 2
    rw [List.length_append]
    omega
  obtain ⟨lo, hi, hj6, hlo, hhi, hlh, hloA⟩ : ∃ lo hi : Nat, (if (mid : Int) < ((P.length + X.length : Nat) : Int) then (some ((wi64 ((wi64 ((mid : Int) + ((P.length + X.length : Nat) : Int))) - ((P.length + X.length + Y.length : Nat) : Int)), (mid : Int)) : Int × Int))
      else (some (((P.length : Int), ((P.length + X.length : Nat) : Int))))) = some ((lo : Int), (hi : Int)) ∧ a ≤ lo ∧ hi ≤ m ∧ lo ≤ hi ∧ hi ≤ mid ∧ (m ≤ hi ∨ mid ≤ hi) ∧ (lo ≤ a ∨ lo + b ≤ mid + m) ∧ mid + m ≤ lo + b ∧ (∀ c, lo ≤ c → c < hi → m + c + 1 ≤ mid + m) := by
    by_cases c : (mid : Int) < ((P.length + X.length : Nat) : Int)
    · refine ⟨mid + m - b, mid, ?_, by omega, by omega, by omega, by omega, by omega, by omega, by omega, fun c _ _ => by omega⟩
      rw [if_pos c, wi64_of (x := (mid : Int) + ((P.length + X.length : Nat) : Int)) (by omega) (by omega), wi64_of (by omega) (by omega)]
      congr 2
      omega
    · refine ⟨a, m, ?_, by omega, by omega, by omega, by omega, by omega, by omega, by omega, fun c _ _ => by omega⟩
      rw [if_neg c, ha, hm]
  obtain ⟨hhm, hend1, hlo2, hlob, hcc⟩ := hloA
  obtain ⟨r, r1, r2, r3, r4, r5⟩ := halves (step := slices_symMergeCmpFunc_Event_s4 (P ++ X ++ Y ++ S) (P.length : Int) ((P.length + X.length : Nat) : Int) ((P.length + X.length + Y.length : Nat) : Int)) (q := fun c => ¬ (Y.getD (mid - 1 - c) (0, 0, 0)).1 < (X.getD (c - a) (0, 0, 0)).1) (lo := lo) (hi := hi) (fun i j hi1 hij hj => by
      have hcx : (i + j) / 2 - a < X.length := by omega
      have hcy : mid - 1 - (i + j) / 2 < Y.length := by omega
      obtain ⟨c, hc, hc2⟩ := cmp_eq Y[mid - 1 - (i + j) / 2] X[(i + j) / 2 - a]
      have hidx : wi64 ((wi64 ((wi64 ((mid : Int) + ((P.length + X.length : Nat) : Int))) - 1)) - (((i + j) / 2 : Nat) : Int)) = ((m + (mid - 1 - (i + j) / 2) : Nat) : Int) := by
        rw [wi64_of (x := (mid : Int) + ((P.length + X.length : Nat) : Int)) (by omega) (by omega), wi64_of (x := (mid : Int) + ((P.length + X.length : Nat) : Int) - 1) (by omega) (by omega), wi64_of (by omega) (by omega)]
        omega
      have e0 : slices_symMergeCmpFunc_Event_s4 (P ++ X ++ Y ++ S) (P.length : Int) ((P.length + X.length : Nat) : Int) ((P.length + X.length + Y.length : Nat) : Int) ((i : Int), (j : Int)) = if ¬ (c < 0) then some (.inl ((((i + j) / 2 + 1 : Nat) : Int), (j : Int))) else some (.inl ((i : Int), (((i + j) / 2 : Nat) : Int))) := by
        unfold slices_symMergeCmpFunc_Event_s4
        simp only
        rw [if_pos (by omega), eMid, mid_eq (i := i) (j := j) (by omega), hidx, hgY _ (by omega) (by omega), Nat.add_sub_cancel_left, List.getElem?_eq_getElem hcy, Option.bind_some, hgX _ (by omega) (by omega), List.getElem?_eq_getElem hcx, Option.bind_some, hc, Option.bind_some, wi64_of (by omega) (by omega)]
        rfl
      rw [getD_lt2 hcy, getD_lt2 hcx]
      by_cases cc : c < 0
      · exact .inr ⟨by rw [e0, if_neg (fun q => q cc)], fun q => q (hc2.1 cc)⟩
      · exact .inl ⟨by rw [e0, if_pos cc], fun q => cc (hc2.2 q)⟩) (fun i => by
      unfold slices_symMergeCmpFunc_Event_s4
      simp only
      rw [if_neg (by omega)]) (fun i j hi1 hij hj hq => by
      rw [getD_lt2 (show mid - 1 - j < Y.length by omega), getD_lt2 (show j - a < X.length by omega)] at hq
      rw [getD_lt2 (show mid - 1 - i < Y.length by omega), getD_lt2 (show i - a < X.length by omega)]
      have h1 := srt_get hX (i := i - a) (j := j - a) (by omega) (by omega) (by omega)
      have h2 := srt_get hY (i := mid - 1 - j) (j := mid - 1 - i) (by omega) (by omega) (by omega)
      omega) hlh
  obtain ⟨s, hs⟩ : ∃ s, s = r - a := ⟨_, rfl⟩
  obtain ⟨t, ht⟩ : ∃ t, t = mid - r := ⟨_, rfl⟩
  have hsX : s ≤ X.length := by omega
  have htY : t ≤ Y.length := by omega
  have hst : s + t = (X.length + Y.length) / 2 := by omega
  have eX : X.take s ++ X.drop s = X := List.take_append_drop s X
  have eY : Y.take t ++ Y.drop t = Y := List.take_append_drop t Y
  have F1 : ∀ y ∈ Y.take t, ∀ x ∈ X.drop s, y.1 < x.1 := by
    intro y hy x hx
    obtain ⟨i, hi0, rfl⟩ := List.getElem_of_mem hy
    obtain ⟨j, hj0, rfl⟩ := List.getElem_of_mem hx
    rw [List.length_take] at hi0
    rw [List.length_drop] at hj0
    have := r5 r (Nat.le_refl _) (by omega)
    rw [getD_lt2 (show mid - 1 - r < Y.length by omega), getD_lt2 (show r - a < X.length by omega)] at this
    have h1 := srt_get hY (i := i) (j := mid - 1 - r) (by omega) (by omega) (by omega)
    have h2 := srt_get hX (i := r - a) (j := s + j) (by omega) (by omega) (by omega)
    rw [List.getElem_take, List.getElem_drop]
    omega
  have F2 : ∀ x ∈ X.take s, ∀ y ∈ Y.drop t, x.1 ≤ y.1 := by
    intro x hx y hy
    obtain ⟨i, hi0, rfl⟩ := List.getElem_of_mem hx
    obtain ⟨j, hj0, rfl⟩ := List.getElem_of_mem hy
    rw [List.length_take] at hi0
    rw [List.length_drop] at hj0
    have := r4 (r - 1) (by omega) (by omega)
    rw [getD_lt2 (show mid - 1 - (r - 1) < Y.length by omega), getD_lt2 (show r - 1 - a < X.length by omega)] at this
    have h1 := srt_get hX (i := i) (j := r - 1 - a) (by omega) (by omega) (by omega)
    have h2 := srt_get hY (i := mid - 1 - (r - 1)) (j := t + j) (by omega) (by omega) (by omega)
    rw [List.getElem_take, List.getElem_drop]
    omega
  have eEnd : wi64 ((wi64 ((mid : Int) + ((P.length + X.length : Nat) : Int))) - (r : Int)) = ((m + t : Nat) : Int) := by
    rw [wi64_of (x := (mid : Int) + ((P.length + X.length : Nat) : Int)) (by omega) (by omega), wi64_of (by omega) (by omega)]; omega
  -- the turn
  have hturn : ((if (r : Int) < ((P.length + X.length : Nat) : Int) then (some (decide (((P.length + X.length : Nat) : Int) < ((m + t : Nat) : Int)))) else (some false)) : Option Bool).bind (fun (j7 : Bool) =>
      (if j7 = true then ((slices_rotateCmpFunc_Event (P ++ X ++ Y ++ S) (r : Int) ((P.length + X.length : Nat) : Int) ((m + t : Nat) : Int)).bind fun (r43 : List Ev) => some r43) else (some (P ++ X ++ Y ++ S)))) = some (P ++ X.take s ++ Y.take t ++ (X.drop s ++ Y.drop t ++ S)) := by
    have sh : P ++ X ++ Y ++ S = (P ++ X.take s) ++ X.drop s ++ Y.take t ++ (Y.drop t ++ S) := by
      rw [List.append_assoc P (X.take s), eX, List.append_assoc (P ++ X) (Y.take t), ← List.append_assoc (Y.take t), eY, List.append_assoc]
    by_cases c1 : (r : Int) < ((P.length + X.length : Nat) : Int)
    · rw [if_pos c1, Option.bind_some]
      by_cases c2 : ((P.length + X.length : Nat) : Int) < ((m + t : Nat) : Int)
      · rw [decide_eq_true c2, if_pos rfl]
        have hrot := rotate_eq (L := P ++ X.take s) (U := X.drop s) (V := Y.take t) (R := Y.drop t ++ S) (fun q => by have := congrArg List.length q; rw [List.length_drop, List.length_nil] at this; omega) (fun q => by have := congrArg List.length q; rw [List.length_take, List.length_nil] at this; omega) (by rw [← sh]; exact hlen)
        have l1 : (P ++ X.take s).length = r := by rw [List.length_append, List.length_take]; omega
        have l2 : (P ++ X.take s).length + (X.drop s).length = P.length + X.length := by rw [l1, List.length_drop]; omega
        have l3 : (P ++ X.take s).length + (X.drop s).length + (Y.take t).length = m + t := by rw [l2, List.length_take]; omega
        rw [l3, l2, l1] at hrot
        rw [sh, hrot]
        simp
      · rw [decide_eq_false c2, if_neg (by simp), sh]
        have : t = 0 := by omega
        rw [this]
        simp only [List.take_zero, List.drop_zero, List.append_nil, List.append_assoc]
    · rw [if_neg c1, Option.bind_some, if_neg (by simp), sh]
      have : X.drop s = [] := List.drop_of_length_le (by omega)
      rw [this]
      simp
  -- the left part
  have hXY1 : ∃ Z1, (((if (P.length : Int) < (r : Int) then (some (decide ((r : Int) < (mid : Int)))) else (some false)) : Option Bool).bind (fun (j9 : Bool) =>
      (if j9 = true then ((f (P ++ X.take s ++ Y.take t ++ (X.drop s ++ Y.drop t ++ S)) (P.length : Int) (r : Int) (mid : Int)).bind fun (r45 : List Ev) => some r45) else (some (P ++ X.take s ++ Y.take t ++ (X.drop s ++ Y.drop t ++ S)))))) = some (P ++ Z1 ++ (X.drop s ++ Y.drop t ++ S)) ∧ Z1.length = s + t ∧ Srt Z1 ∧ Eqt Z1 (X.take s ++ Y.take t) := by
    by_cases c1 : (P.length : Int) < (r : Int)
    · rw [if_pos c1, Option.bind_some]
      by_cases c2 : (r : Int) < (mid : Int)
      · rw [decide_eq_true c2, if_pos rfl]
        obtain ⟨Z1, z1, z2, z3, z4⟩ := hf P (X.take s) (Y.take t) (X.drop s ++ Y.drop t ++ S) (fun q => by have := congrArg List.length q; rw [List.length_take, List.length_nil] at this; omega) (fun q => by have := congrArg List.length q; rw [List.length_take, List.length_nil] at this; omega) (by rw [List.length_take, List.length_take]; omega) (srt_take hX s) (srt_take hY t) (by simp only [List.length_append, List.length_take, List.length_drop]; omega)
        have l1 : P.length + (X.take s).length = r := by rw [List.length_take]; omega
        have l2 : P.length + (X.take s).length + (Y.take t).length = mid := by rw [l1, List.length_take]; omega
        rw [l2, l1] at z1
        exact ⟨Z1, by rw [z1]; rfl, by rw [z2, List.length_take, List.length_take]; omega, z3, z4⟩
      · rw [decide_eq_false c2, if_neg (by simp)]
        have h0 : Y.take t = [] := by have : t = 0 := by omega
                                      rw [this]; rfl
        exact ⟨X.take s, by rw [h0]; simp, by rw [List.length_take]; omega, srt_take hX s, by rw [h0, List.append_nil]; exact Eqt.refl _⟩
    · rw [if_neg c1, Option.bind_some, if_neg (by simp)]
      have h0 : X.take s = [] := by have : s = 0 := by omega
                                    rw [this]; rfl
      exact ⟨Y.take t, by rw [h0]; simp, by rw [List.length_take]; omega, srt_take hY t, by rw [h0]; exact Eqt.refl _⟩
  obtain ⟨Z1, z1, z2, z3, z4⟩ := hXY1
  have hXY2 : ∃ Z2, ((if (mid : Int) < ((m + t : Nat) : Int) then (if ((m + t : Nat) : Int) < ((P.length + X.length + Y.length : Nat) : Int) then ((f (P ++ Z1 ++ (X.drop s ++ Y.drop t ++ S)) (mid : Int) ((m + t : Nat) : Int) ((P.length + X.length + Y.length : Nat) : Int)).bind fun (r46 : List Ev) => some r46) else (some (P ++ Z1 ++ (X.drop s ++ Y.drop t ++ S)))) else (some (P ++ Z1 ++ (X.drop s ++ Y.drop t ++ S)))) : Option (List Ev)) = some (P ++ Z1 ++ (Z2 ++ S)) ∧ Z2.length = X.length - s + (Y.length - t) ∧ Srt Z2 ∧ Eqt Z2 (X.drop s ++ Y.drop t) := by
    by_cases c1 : (mid : Int) < ((m + t : Nat) : Int)
    · rw [if_pos c1]
      by_cases c2 : ((m + t : Nat) : Int) < ((P.length + X.length + Y.length : Nat) : Int)
      · rw [if_pos c2]
        obtain ⟨Z2, y1, y2, y3, y4⟩ := hf (P ++ Z1) (X.drop s) (Y.drop t) S (fun q => by have := congrArg List.length q; rw [List.length_drop, List.length_nil] at this; omega) (fun q => by have := congrArg List.length q; rw [List.length_drop, List.length_nil] at this; omega) (by rw [List.length_drop, List.length_drop]; omega) (srt_drop hX s) (srt_drop hY t) (by simp only [List.length_append, List.length_drop]; omega)
        have l0 : (P ++ Z1).length = mid := by rw [List.length_append]; omega
        have l1 : (P ++ Z1).length + (X.drop s).length = m + t := by rw [l0, List.length_drop]; omega
        have l2 : (P ++ Z1).length + (X.drop s).length + (Y.drop t).length = P.length + X.length + Y.length := by rw [l1, List.length_drop]; omega
        rw [l2, l1, l0] at y1
        have sh : P ++ Z1 ++ (X.drop s ++ Y.drop t ++ S) = P ++ Z1 ++ X.drop s ++ Y.drop t ++ S := by simp
        exact ⟨Z2, by rw [sh, y1]; simp, by rw [y2, List.length_drop, List.length_drop], y3, y4⟩
      · rw [if_neg c2]
        have h0 : Y.drop t = [] := List.drop_of_length_le (by omega)
        exact ⟨X.drop s, by rw [h0]; simp, by rw [List.length_drop]; omega, srt_drop hX s, by rw [h0, List.append_nil]; exact Eqt.refl _⟩
    · rw [if_neg c1]
      have h0 : X.drop s = [] := List.drop_of_length_le (by omega)
      exact ⟨Y.drop t, by rw [h0]; simp, by rw [List.length_drop]; omega, srt_drop hY t, by rw [h0]; exact Eqt.refl _⟩
  obtain ⟨Z2, y1, y2, y3, y4⟩ := hXY2
  refine ⟨Z1 ++ Z2, ?_, by rw [List.length_append, z2, y2]; omega, ?_, ?_⟩
  · unfold slices_symMergeCmpFunc_Event_F
    rw [wi64_of (x := ((P.length + X.length : Nat) : Int) - (P.length : Int)) (by omega) (by omega), if_neg (by omega), wi64_of (x := ((P.length + X.length + Y.length : Nat) : Int) - ((P.length + X.length : Nat) : Int)) (by omega) (by omega), if_neg (by omega)]
    simp only [eMid]
    rw [hj6, Option.bind_some]
    simp only
    rw [r1, Option.bind_some]
    simp only [eEnd]
    have hc : ∀ {g : List Ev → Option (List Ev)} {u v : List Ev}, ((if (r : Int) < ((P.length + X.length : Nat) : Int) then (some (decide (((P.length + X.length : Nat) : Int) < ((m + t : Nat) : Int)))) else (some false)) : Option Bool).bind (fun (j7 : Bool) =>
      (if j7 = true then ((slices_rotateCmpFunc_Event (P ++ X ++ Y ++ S) (r : Int) ((P.length + X.length : Nat) : Int) ((m + t : Nat) : Int)).bind fun (r43 : List Ev) => some r43) else (some (P ++ X ++ Y ++ S)))) = some u → g u = some v → ((if (r : Int) < ((P.length + X.length : Nat) : Int) then (some (decide (((P.length + X.length : Nat) : Int) < ((m + t : Nat) : Int)))) else (some false)) : Option Bool).bind (fun (j7 : Bool) =>
      ((if j7 = true then ((slices_rotateCmpFunc_Event (P ++ X ++ Y ++ S) (r : Int) ((P.length + X.length : Nat) : Int) ((m + t : Nat) : Int)).bind fun (r43 : List Ev) => some r43) else (some (P ++ X ++ Y ++ S))) : Option (List Ev)).bind g) = some v := by
      intro g u v h1 h2
      rw [← Option.bind_assoc, h1, Option.bind_some, h2]
    refine hc hturn ?_
    rw [← Option.bind_assoc, z1, Option.bind_some, y1]
    simp
  · refine srt_app.2 ⟨z3, y3, fun p hp q hq => ?_⟩
    have hp' := z4.mem hp
    have hq' := y4.mem hq
    rcases List.mem_append.1 hp' with p1 | p1 <;> rcases List.mem_append.1 hq' with q1 | q1
    · have : Srt (X.take s ++ X.drop s) := by rw [eX]; exact hX
      exact (srt_app.1 this).2.2 p p1 q q1
    · exact F2 p p1 q q1
    · have := F1 p p1 q q1; omega
    · have : Srt (Y.take t ++ Y.drop t) := by rw [eY]; exact hY
      exact (srt_app.1 this).2.2 p p1 q q1
  · refine (Eqt.app z4 y4).trans ?_
    have h1 : Eqt (Y.take t ++ X.drop s) (X.drop s ++ Y.take t) := Eqt.swap (fun y hy x hx => by have := F1 y hy x hx; omega)
    have h2 := Eqt.app (Eqt.app (Eqt.refl (X.take s)) h1) (Eqt.refl (Y.drop t))
    have e1 : X.take s ++ Y.take t ++ (X.drop s ++ Y.drop t) = X.take s ++ (Y.take t ++ X.drop s) ++ Y.drop t := by simp
    have e2 : X.take s ++ (X.drop s ++ Y.take t) ++ Y.drop t = X ++ Y := by
      rw [← List.append_assoc (X.take s), eX, List.append_assoc, eY]
    rw [e1, ← e2]
    exact h2
theorem merge_ok : ∀ k, MergeOk (fun p1 p2 p3 p4 => itR (fun rec q => slices_symMergeCmpFunc_Event_F (fun p1 p2 p3 p4 => rec (p1, p2, p3, p4)) q.1 q.2.1 q.2.2.1 q.2.2.2) k (p1, p2, p3, p4)) (2 ^ k) := by
  intro k
  induction k with
  | zero =>
    intro P X Y S hX hY hn
    have := List.length_pos_iff.2 hX
    have := List.length_pos_iff.2 hY
    rw [Nat.pow_zero] at hn
    omega
  | succ k ih =>
    intro P X Y S hX hY hn sX sY hlen
    have hX0 := List.length_pos_iff.2 hX
    have hY0 := List.length_pos_iff.2 hY
    rw [Nat.pow_succ] at hn
    simp only [itR]
    by_cases c1 : X.length = 1
    · obtain ⟨x, hx⟩ : ∃ x, X = [x] := by
        match X, c1 with
        | [x], _ => exact ⟨x, rfl⟩
      subst hx
      exact merge_left sY hlen
    · by_cases c2 : Y.length = 1
      · obtain ⟨y, hy⟩ : ∃ y, Y = [y] := by
          match Y, c2 with
          | [y], _ => exact ⟨y, rfl⟩
        subst hy
        exact merge_right c1 sX hlen
      · exact merge_step ih (by omega) (by omega) (by omega) sX sY hlen
theorem merge_eq {P X Y S : List Ev} (hX : X ≠ []) (hY : Y ≠ []) (sX : Srt X) (sY : Srt Y) (hlen : (P ++ X ++ Y ++ S).length ≤ 1000000000) :
    ∃ Z, slices_symMergeCmpFunc_Event (P ++ X ++ Y ++ S) (P.length : Int) ((P.length + X.length : Nat) : Int) ((P.length + X.length + Y.length : Nat) : Int) = some (P ++ Z ++ S) ∧ Z.length = X.length + Y.length ∧ Srt Z ∧ Eqt Z (X ++ Y) := by
  have hl2 := hlen
  simp only [List.length_append] at hl2
  obtain ⟨k, hk⟩ : ∃ k : Nat, k = 1000 := ⟨_, rfl⟩
  have h30 : X.length + Y.length ≤ 2 ^ k := by
    have h1 : X.length + Y.length ≤ 2 ^ 30 := by rw [show 2 ^ 30 = 1073741824 from rfl]; omega
    exact Nat.le_trans h1 (Nat.pow_le_pow_right (by decide) (by omega))
  have h := merge_ok k P X Y S hX hY h30 sX sY hlen
  rw [hk] at h
  exact h

/-! ## Blocks -/
inductive Blks (b : Nat) : List Ev → Prop
  | last {L : List Ev} (h : L.length ≤ b) (s : Srt L) : Blks b L
  | cons {X L : List Ev} (h : X.length = b) (s : Srt X) (t : Blks b L) : Blks b (X ++ L)
theorem Blks.head {b : Nat} {L : List Ev} (h : Blks b L) (hb : b ≤ L.length) : ∃ X R, L = X ++ R ∧ X.length = b ∧ Srt X ∧ Blks b R := by
  cases h with
  | last h s => exact ⟨L, [], by simp, by omega, s, .last (by simp) .nil⟩
  | cons h s t => exact ⟨_, _, rfl, h, s, t⟩
theorem Blks.short {b : Nat} (hb : 0 < b) {L : List Ev} (h : Blks b L) (hl : L.length ≤ b) : Srt L := by
  cases h with
  | last h s => exact s
  | cons h s t =>
    rename_i X R
    rw [List.length_append] at hl
    have : R = [] := List.eq_nil_of_length_eq_zero (by omega)
    subst this
    simpa using s
/-- Full blocks. -/
inductive Full (b : Nat) : List Ev → Prop
  | nil : Full b []
  | snoc {D X : List Ev} (t : Full b D) (h : X.length = b) (s : Srt X) : Full b (D ++ X)
theorem Full.blks {b : Nat} {D : List Ev} (h : Full b D) : ∀ {R : List Ev}, Blks b R → Blks b (D ++ R) := by
  induction h with
  | nil => intro R hR; simpa using hR
  | snoc t h s ih =>
    intro R hR
    rw [List.append_assoc]
    exact ih (.cons h s hR)
theorem blocks_loop {n : Nat} : ∀ (k : Nat) (D W W0 : List Ev), W.length = k → (D ++ W).length = n → n ≤ 1000000000 → Full 20 D → Eqt D W0 →
    ∃ D' W' W1, loopO (slices_stableCmpFunc_Event_s0 (n : Int)) (D ++ W, (D.length : Int), ((D.length + 20 : Nat) : Int)) = some (D' ++ W', (D'.length : Int)) ∧ W'.length < 20 ∧ (D' ++ W').length = n ∧ Full 20 D' ∧ Eqt D' W1 ∧ W0 ++ W = W1 ++ W' := by
  intro k
  induction k using Nat.strongRecOn with
  | ind k ih =>
    intro D W W0 hk hn hn1 hD hE
    have hl := hn
    rw [List.length_append] at hl
    by_cases c : 20 ≤ W.length
    · obtain ⟨Z, z1, z2, z3, z4⟩ := insertion_eq (P := D) (W := W.take 20) (S := W.drop 20) (fun q => by have := congrArg List.length q; rw [List.length_take, List.length_nil] at this; omega) (by rw [List.append_assoc, List.take_append_drop]; omega)
      rw [List.append_assoc D (W.take 20), List.take_append_drop, List.length_take, Nat.min_eq_left c] at z1
      rw [List.length_take, Nat.min_eq_left c] at z2
      have hstep : slices_stableCmpFunc_Event_s0 (n : Int) (D ++ W, (D.length : Int), ((D.length + 20 : Nat) : Int)) = some (.inl ((D ++ Z) ++ W.drop 20, ((D ++ Z).length : Int), (((D ++ Z).length + 20 : Nat) : Int))) := by
        unfold slices_stableCmpFunc_Event_s0
        simp only
        rw [if_pos (by omega), z1, Option.bind_some, wi64_of (by omega) (by omega), List.length_append, z2]
        congr 3
      obtain ⟨D', W', W1, h1, h2, h3, h4, h5, h6⟩ := ih (W.drop 20).length (by rw [List.length_drop]; omega) (D ++ Z) (W.drop 20) (W0 ++ W.take 20) rfl (by rw [List.length_append, List.length_append, List.length_drop]; omega) hn1 (hD.snoc z2 z3) (hE.app z4)
      refine ⟨D', W', W1, by rw [loopO_next hstep]; exact h1, h2, h3, h4, h5, ?_⟩
      rw [← h6, List.append_assoc, List.take_append_drop]
    · refine ⟨D, W, W0, loopO_done ?_, by omega, hn, hD, hE, rfl⟩
      unfold slices_stableCmpFunc_Event_s0
      simp only
      rw [if_neg (by omega)]
theorem merges_loop {n bs : Nat} {r20 : List Ev} (hbs : 0 < bs) (hn1 : n ≤ 1000000000) (hb1 : bs ≤ 1000000000) : ∀ (k : Nat) (D W W0 : List Ev), W.length = k → (D ++ W).length = n → Full (2 * bs) D → Blks bs W → Eqt D W0 →
    ∃ D' W' W1, loopO (slices_stableCmpFunc_Event_s2 (n : Int) (r20, (bs : Int))) (D ++ W, (D.length : Int), ((D.length + 2 * bs : Nat) : Int)) = some (D' ++ W', (D'.length : Int)) ∧ W'.length < 2 * bs ∧ (D' ++ W').length = n ∧ Full (2 * bs) D' ∧ Blks bs W' ∧ Eqt D' W1 ∧ W0 ++ W = W1 ++ W' := by
  intro k
  induction k using Nat.strongRecOn with
  | ind k ih =>
    intro D W W0 hk hn hD hW hE
    have hl := hn
    rw [List.length_append] at hl
    by_cases c : 2 * bs ≤ W.length
    · obtain ⟨X, R, rfl, hX, sX, hR⟩ := hW.head (by omega)
      rw [List.length_append] at *
      obtain ⟨Y, R', rfl, hY, sY, hR'⟩ := hR.head (by omega)
      rw [List.length_append] at *
      obtain ⟨Z, z1, z2, z3, z4⟩ := merge_eq (P := D) (X := X) (Y := Y) (S := R') (fun q => by subst q; simp at hX; omega) (fun q => by subst q; simp at hY; omega) sX sY (by simp only [List.length_append]; omega)
      have hstep : slices_stableCmpFunc_Event_s2 (n : Int) (r20, (bs : Int)) (D ++ (X ++ (Y ++ R')), (D.length : Int), ((D.length + 2 * bs : Nat) : Int)) = some (.inl ((D ++ Z) ++ R', ((D ++ Z).length : Int), (((D ++ Z).length + 2 * bs : Nat) : Int))) := by
        unfold slices_stableCmpFunc_Event_s2
        simp only
        have sh : D ++ (X ++ (Y ++ R')) = D ++ X ++ Y ++ R' := by simp
        rw [if_pos (by omega), wi64_of (x := (D.length : Int) + (bs : Int)) (by omega) (by omega), sh, show (D.length : Int) + (bs : Int) = ((D.length + X.length : Nat) : Int) by omega, show ((D.length + 2 * bs : Nat) : Int) = ((D.length + X.length + Y.length : Nat) : Int) by omega, z1, Option.bind_some, wi64_of (x := 2 * (bs : Int)) (by omega) (by omega), wi64_of (by omega) (by omega)]
        have e1 : (D ++ Z).length = D.length + X.length + Y.length := by rw [List.length_append]; omega
        rw [e1]
        refine congrArg some (congrArg Sum.inl (Prod.ext rfl (Prod.ext rfl ?_)))
        simp only
        omega
      obtain ⟨D', W', W1, h1, h2, h3, h4, h5, h6, h7⟩ := ih R'.length (by omega) (D ++ Z) R' (W0 ++ (X ++ Y)) rfl (by rw [List.length_append, List.length_append]; have hYR : (Y ++ R').length = Y.length + R'.length := List.length_append; omega) (hD.snoc (by omega) z3) hR' (hE.app z4)
      refine ⟨D', W', W1, by rw [loopO_next hstep]; exact h1, h2, h3, h4, h5, h6, ?_⟩
      rw [← h7]
      simp
    · refine ⟨D, W, W0, loopO_done ?_, by omega, hn, hD, hW, hE, rfl⟩
      unfold slices_stableCmpFunc_Event_s2
      simp only
      rw [if_neg (by omega)]
theorem rounds_loop {n : Nat} (hn1 : n ≤ 1000000000) : ∀ (k bs : Nat) (L : List Ev), n - bs = k → 0 < bs → bs ≤ 1000000000 ∨ n ≤ bs → L.length = n → Blks bs L →
    ∃ Z, loopO (slices_stableCmpFunc_Event_s1 (n : Int)) (L, (bs : Int)) = some Z ∧ Srt Z ∧ Eqt Z L ∧ Z.length = L.length := by
  intro k
  induction k using Nat.strongRecOn with
  | ind k ih =>
    intro bs L hk hbs hb1 hL hB
    by_cases c : bs < n
    · have hb2 : bs ≤ 1000000000 := by omega
      obtain ⟨D', W', W1, h1, h2, h3, h4, h5, h6, h7⟩ := merges_loop (n := n) (bs := bs) (r20 := L) hbs hn1 hb2 L.length [] L [] rfl (by simpa using hL) .nil hB (Eqt.refl _)
      simp only [List.nil_append, List.length_nil, Nat.zero_add] at h1 h7
      have hl := h3
      rw [List.length_append] at hl
      by_cases c2 : bs < W'.length
      · obtain ⟨X, R, rfl, hX, sX, hR⟩ := h5.head (by omega)
        rw [List.length_append] at *
        have sR := hR.short hbs (by omega)
        obtain ⟨Z, z1, z2, z3, z4⟩ := merge_eq (P := D') (X := X) (Y := R) (S := []) (fun q => by subst q; simp at hX; omega) (fun q => by subst q; simp at c2; omega) sX sR (by simp only [List.length_append, List.length_nil]; omega)
        simp only [List.append_nil] at z1
        have hstep : slices_stableCmpFunc_Event_s1 (n : Int) (L, (bs : Int)) = some (.inl (D' ++ Z, ((2 * bs : Nat) : Int))) := by
          unfold slices_stableCmpFunc_Event_s1
          simp only
          have h1' : loopO (slices_stableCmpFunc_Event_s2 (n : Int) (L, (bs : Int))) (L, (0 : Int), wi64 (2 * (bs : Int))) = some (D' ++ (X ++ R), (D'.length : Int)) := by
            rw [wi64_of (by omega) (by omega), show 2 * (bs : Int) = ((2 * bs : Nat) : Int) by omega]; exact h1
          have sh : D' ++ (X ++ R) = D' ++ X ++ R := by simp
          rw [if_pos (by omega), h1', Option.bind_some]
          simp only
          rw [wi64_of (x := (D'.length : Int) + (bs : Int)) (by omega) (by omega), if_pos (by omega), sh, show (D'.length : Int) + (bs : Int) = ((D'.length + X.length : Nat) : Int) by omega, show (n : Int) = ((D'.length + X.length + R.length : Nat) : Int) by omega, z1, Option.bind_some, wi64_of (by omega) (by omega)]
          congr 3
          omega
        obtain ⟨Z', y1, y2, y3, y4⟩ := ih (n - 2 * bs) (by omega) (2 * bs) (D' ++ Z) rfl (by omega) (by omega) (by rw [List.length_append]; omega) (h4.blks (.last (by omega) z3))
        refine ⟨Z', by rw [loopO_next hstep]; exact y1, y2, y3.trans ?_, by rw [y4, List.length_append]; omega⟩
        rw [h7]
        exact h6.app z4
      · have sW := h5.short hbs (by omega)
        have hstep : slices_stableCmpFunc_Event_s1 (n : Int) (L, (bs : Int)) = some (.inl (D' ++ W', ((2 * bs : Nat) : Int))) := by
          unfold slices_stableCmpFunc_Event_s1
          simp only
          have h1' : loopO (slices_stableCmpFunc_Event_s2 (n : Int) (L, (bs : Int))) (L, (0 : Int), wi64 (2 * (bs : Int))) = some (D' ++ W', (D'.length : Int)) := by
            rw [wi64_of (by omega) (by omega), show 2 * (bs : Int) = ((2 * bs : Nat) : Int) by omega]; exact h1
          rw [if_pos (by omega), h1', Option.bind_some]
          simp only
          rw [wi64_of (x := (D'.length : Int) + (bs : Int)) (by omega) (by omega), if_neg (by omega), wi64_of (by omega) (by omega)]
          congr 3
          omega
        obtain ⟨Z', y1, y2, y3, y4⟩ := ih (n - 2 * bs) (by omega) (2 * bs) (D' ++ W') rfl (by omega) (by omega) h3 (h4.blks (.last (by omega) sW))
        refine ⟨Z', by rw [loopO_next hstep]; exact y1, y2, y3.trans ?_, by rw [y4, h3, hL]⟩
        rw [h7]
        exact h6.app (Eqt.refl _)
    · refine ⟨L, loopO_done ?_, hB.short hbs (by omega), Eqt.refl _, rfl⟩
      unfold slices_stableCmpFunc_Event_s1
      simp only
      rw [if_neg (by omega)]
/-- What the library's stable sort comes to. -/
theorem stable_eq (l : List Ev) (hl : l.length ≤ 1000000000) : ∃ Z, slices_SortStableFunc_Event l = some Z ∧ Srt Z ∧ Eqt Z l ∧ Z.length = l.length := by
  obtain ⟨D', W', W1, h1, h2, h3, h4, h5, h6⟩ := blocks_loop (n := l.length) l.length [] l [] rfl rfl hl .nil (Eqt.refl _)
  simp only [List.nil_append, List.length_nil, Nat.zero_add] at h1 h6
  have hll := h3
  rw [List.length_append] at hll
  have hins : ∃ Z, slices_insertionSortCmpFunc_Event (D' ++ W') (D'.length : Int) (l.length : Int) = some (D' ++ Z) ∧ Z.length = W'.length ∧ Srt Z ∧ Eqt Z W' := by
    by_cases c : W' = []
    · subst c
      refine ⟨[], ?_, rfl, .nil, Eqt.refl _⟩
      unfold slices_insertionSortCmpFunc_Event
      rw [List.length_nil] at hll
      have : loopO (slices_insertionSortCmpFunc_Event_s0 (D'.length : Int) (l.length : Int)) (D' ++ [], wi64 ((D'.length : Int) + 1)) = some (D' ++ []) := by
        refine loopO_done ?_
        unfold slices_insertionSortCmpFunc_Event_s0
        simp only
        rw [wi64_of (by omega) (by omega), if_neg (by omega)]
      rw [this]
      rfl
    · obtain ⟨Z, z1, z2, z3, z4⟩ := insertion_eq (P := D') (W := W') (S := []) c (by simp only [List.append_nil]; omega)
      simp only [List.append_nil] at z1
      exact ⟨Z, by rw [show (l.length : Int) = ((D'.length + W'.length : Nat) : Int) by omega]; exact z1, z2, z3, z4⟩
  obtain ⟨Z, z1, z2, z3, z4⟩ := hins
  obtain ⟨Z', y1, y2, y3, y4⟩ := rounds_loop (n := l.length) hl (l.length - 20) 20 (D' ++ Z) rfl (by decide) (.inl (by decide)) (by rw [List.length_append]; omega) (h4.blks (.last (by omega) z3))
  refine ⟨Z', ?_, y2, y3.trans ?_, by rw [y4, List.length_append]; omega⟩
  · unfold slices_SortStableFunc_Event slices_stableCmpFunc_Event
    have h1' : loopO (slices_stableCmpFunc_Event_s0 (l.length : Int)) (l, (0 : Int), (20 : Int)) = some (D' ++ W', (D'.length : Int)) := h1
    have y1' : loopO (slices_stableCmpFunc_Event_s1 (l.length : Int)) (D' ++ Z, (20 : Int)) = some Z' := y1
    rw [h1', Option.bind_some]
    simp only
    rw [z1, Option.bind_some, y1']
    rfl
  · rw [h6]
    exact h5.app z4
end Go.Proofs.Ytbeknohemgjfbaa.Pu
