/- Histograms as bytes: what is written, and what is read. -/
import Derived.Test.YtbeknohemgjfbaaC02
import Derived.Test.YtbeknohemgjfbaaC06
namespace Go.Proofs.Ytbeknohemgjfbaa.Pu
set_option linter.unusedVariables false

/-! ## Numbers that are read -/
theorem numM_dg {n : Nat} {m : Int} (h : n < 18446744073709551616) (hm : (n : Int) ≤ m) (t : List Int) : numM (dg n ++ t, 0) m = ((n : Int), t, 0) := by
  unfold numM
  simp only [tkM_dg h]
  rw [if_neg (by simp), if_neg (by simp), if_neg (by omega), Int.toNat_natCast, List.drop_left]
theorem numM_cut {n j : Nat} {m : Int} (h : n < 18446744073709551616) (hj : j < (dg n).length) : numM ((dg n).take j, 0) m = (0, (dg n).take j, 3) := by
  unfold numM
  simp only [tkM_cut h hj]
  rw [if_neg (by simp), if_pos (by simp)]
theorem numM_err {r : Rd8} {m : Int} (h : r.2 ≠ 0) : numM r m = (0, r) := by
  unfold numM; rw [if_pos h]
theorem numM_dec {r : Rd8} {m : Int} (hr : RdOk r) (h : (numM r m).2.2 = 0) : r.2 = 0 ∧ r.1 = dg (numM r m).1.toNat ++ (numM r m).2.1 ∧ 0 ≤ (numM r m).1 ∧ (numM r m).1 ≤ m := by
  unfold numM at h ⊢
  by_cases c0 : r.2 ≠ 0
  · rw [if_pos c0] at h; exact absurd h c0
  · rw [if_neg c0] at h ⊢
    by_cases c1 : (tkM r.1).2.2 ≠ 0
    · rw [if_pos c1] at h; exact absurd h c1
    · rw [if_neg c1] at h ⊢
      by_cases c2 : m < (tkM r.1).1
      · rw [if_pos c2] at h; cases h
      · rw [if_neg c2] at h ⊢
        have hk := tkM_ok hr.2 (by omega)
        refine ⟨by omega, ?_, hk.1, by simp only; omega⟩
        simp only
        rw [hk.2.2.2.2, List.take_append_drop]
theorem numM_le {r : Rd8} {m : Int} (hr : RdOk r) (hm : 0 ≤ m) : 0 ≤ (numM r m).1 ∧ (numM r m).1 ≤ m := by
  by_cases h : (numM r m).2.2 = 0
  · exact (numM_dec hr h).2.2
  · unfold numM at h ⊢
    split
    · exact ⟨Int.le_refl 0, hm⟩
    · split
      · exact ⟨Int.le_refl 0, hm⟩
      · split
        · exact ⟨Int.le_refl 0, hm⟩
        · rename_i a b c; rw [if_neg a, if_neg b, if_neg c] at h; exact absurd rfl h
theorem numM_rd {r : Rd8} {m : Int} (hr : RdOk r) : RdOk (numM r m).2 := (numM_ok hr m).1

/-! ## What is written -/
/-- A level's buckets, behind a tick. -/
def encS : Int → List Sp → List Int
  | _, [] => []
  | x, s :: l => dg (s.1 - x).toNat ++ (dg (s.2 - s.1).toNat ++ encS s.2 l)
/-- The tick behind buckets. -/
def lastS : Int → List Sp → Int
  | x, [] => x
  | _, s :: l => lastS s.2 l
/-- Levels, the oldest one first. -/
def encL : Int → List (List Sp) → List Int
  | _, [] => []
  | x, l :: ls => dg l.length ++ (encS x l ++ encL (lastS x l) ls)
def encH (K g : Int) (ls : List (List Sp)) : List Int := dg K.toNat ++ (dg g.toNat ++ (dg ls.length ++ encL 0 ls.reverse))
def okS : Int → List Sp → Prop
  | _, [] => True
  | x, s :: l => x ≤ s.1 ∧ s.1 ≤ s.2 ∧ s.2 ≤ 9223372036854775807 ∧ okS s.2 l
def okLs : Int → List (List Sp) → Prop
  | _, [] => True
  | x, l :: ls => l.length ≤ 1025 ∧ okS x l ∧ okLs (lastS x l) ls
theorem okS_last {x : Int} {l : List Sp} (h : okS x l) (hx : x ≤ 9223372036854775807) : x ≤ lastS x l ∧ lastS x l ≤ 9223372036854775807 := by
  induction l generalizing x with
  | nil => exact ⟨Int.le_refl _, hx⟩
  | cons s l ih =>
    obtain ⟨h1, h2, h3, h4⟩ := h
    have := ih h4 h3
    rw [lastS]
    exact ⟨by omega, this.2⟩

/-- Buckets in turn may be written. -/
theorem ahd_last (x : Int) (l : List Sp) : ahd x l l.length = lastS x l := by
  induction l generalizing x with
  | nil => rfl
  | cons s l ih =>
    rw [lastS, ← ih, List.length_cons]
    cases l with
    | nil => rfl
    | cons s' l' =>
      rw [List.length_cons]
      show ((s :: s' :: l').getD (l'.length + 1) (0, 0)).2 = ((s' :: l').getD l'.length (0, 0)).2
      rfl
theorem lev_okS {u : Bool} {l : List Sp} : ∀ {x : Int}, levOk u x l = true → okS x l := by
  induction l with
  | nil => intro x _; trivial
  | cons s l ih =>
    intro x h
    unfold levOk at h
    rw [List.all_eq_true] at h
    have h0 := h 0 (List.mem_range.2 (by simp))
    have hg : goodB u x s = true := h0
    have hg2 : x ≤ s.1 ∧ s.1 ≤ s.2 ∧ s.2 ≤ 9223372036854775807 := by
      unfold goodB at hg
      by_cases c1 : s.2 < s.1
      · rw [if_pos c1] at hg; cases hg
      · rw [if_neg c1] at hg
        by_cases c2 : s.1 < x
        · rw [if_pos c2] at hg; cases hg
        · rw [if_neg c2] at hg
          by_cases c3 : 9223372036854775807 < s.2
          · rw [if_pos c3] at hg; cases hg
          · omega
    refine ⟨hg2.1, hg2.2.1, hg2.2.2, ih ?_⟩
    unfold levOk
    rw [List.all_eq_true]
    intro j hj
    have hj' := List.mem_range.1 hj
    have := h (j + 1) (List.mem_range.2 (by simpa using hj'))
    have e1 : ahd x (s :: l) (j + 1) = ahd s.2 l j := by
      cases j with
      | zero => rfl
      | succ j => rfl
    rw [e1] at this
    exact this
theorem turn_okLs {ls : List (List Sp)} (h : turnB ls = true) (hl : ∀ l ∈ ls, l.length ≤ 1025) : okLs 0 ls.reverse := by
  have key : ∀ n m, n + m = ls.length → okLs (topA ls m) (ls.reverse.drop m) := by
    intro n
    induction n with
    | zero =>
      intro m hm
      rw [List.drop_of_length_le (by rw [List.length_reverse]; omega)]
      trivial
    | succ n ih =>
      intro m hm
      have hlt : m < ls.reverse.length := by rw [List.length_reverse]; omega
      rw [List.drop_eq_getElem_cons hlt]
      have e1 : ls.reverse[m] = ls.getD (ls.length - 1 - m) [] := by
        rw [List.getElem_reverse, List.getD_eq_getElem?_getD, List.getElem?_eq_getElem (by omega)]; rfl
      unfold turnB at h
      rw [List.all_eq_true] at h
      have hm' := h m (List.mem_range.2 (by omega))
      unfold turnP at hm'
      refine ⟨hl _ (List.mem_reverse.1 (List.getElem_mem hlt)), ?_, ?_⟩
      · rw [e1]; exact lev_okS hm'
      · have := ih (m + 1) (by omega)
        rw [topA, ahd_last, ← e1] at this
        exact this
  exact key ls.length 0 (by omega)
theorem histC_zero {K g : Int} {ls : List (List Sp)} (h : histC K g ls = 0) : (2 ≤ K ∧ K ≤ 1024 ∧ 0 ≤ g ∧ g ≤ 4) ∧ shB K.toNat ls = true ∧ turnB ls = true ∧ wt ls ≤ 4503599627370496 := by
  unfold histC at h
  by_cases c1 : confB K g = true
  · rw [if_neg (by simp [c1])] at h
    by_cases c2 : shB K.toNat ls = true
    · rw [if_neg (by simp [c2])] at h
      by_cases c3 : turnB ls = true
      · rw [if_neg (by simp [c3])] at h
        by_cases c4 : wt ls ≤ 4503599627370496
        · exact ⟨confB_spec.1 c1, c2, c3, c4⟩
        · rw [if_pos c4] at h; cases h
      · rw [if_pos c3] at h; cases h
    · rw [if_pos c2] at h; cases h
  · rw [if_pos c1] at h; cases h
theorem shB_lens {k : Nat} {ls : List (List Sp)} (h : shB k ls = true) (hk : k ≤ 1024) : ∀ l ∈ ls, 1 ≤ l.length ∧ l.length ≤ 1025 := by
  intro l hl
  obtain ⟨i, hi, rfl⟩ := List.getElem_of_mem hl
  unfold shB at h
  rw [Bool.and_eq_true, List.all_eq_true] at h
  have := h.1 i (List.mem_range.2 hi)
  unfold shP at this
  rw [getD_lt hi, decide_eq_true_eq] at this
  have hm := mostN_le k i
  omega

/-! ## Put -/
theorem dg10 {n : Nat} (h : n < 18446744073709551616) : (dg n).length ≤ 10 := dg_ten h
theorem encS_len {l : List Sp} : ∀ {x : Int}, 0 ≤ x → okS x l → (encS x l).length ≤ 20 * l.length := by
  induction l with
  | nil => intro x _ _; simp [encS]
  | cons s l ih =>
    intro x h0 ⟨h1, h2, h3, h4⟩
    have := ih (by omega) h4
    have a1 := dg10 (n := (s.1 - x).toNat) (by omega)
    have a2 := dg10 (n := (s.2 - s.1).toNat) (by omega)
    rw [encS, List.length_append, List.length_append, List.length_cons]
    omega
theorem encL_len {ls : List (List Sp)} : ∀ {x : Int}, 0 ≤ x → x ≤ 9223372036854775807 → okLs x ls → (encL x ls).length ≤ 20510 * ls.length := by
  induction ls with
  | nil => intro x _ _ _; simp [encL]
  | cons l ls ih =>
    intro x h0 hx ⟨h1, h2, h3⟩
    have hl := okS_last h2 hx
    have := ih (by omega) hl.2 h3
    have a1 := dg10 (n := l.length) (by omega)
    have a2 := encS_len h0 h2
    rw [encL, List.length_append, List.length_append, List.length_cons]
    omega
theorem rm1 {n : Nat} (h : n ≤ 140737488355328) : room n 1 = some () := room_of (by omega) h
theorem tick_eq {x y : Int} (h : y ≤ x) (hx : x ≤ 9223372036854775807) (hy : 0 ≤ y) : record_ticks_1 x y = some (dg (x - y).toNat) := by
  unfold record_ticks_1
  rw [wu64_of (by omega) (by omega)]
  have := cnum (n := (x - y).toNat) (by omega)
  rw [Int.toNat_of_nonneg (by omega)] at this
  rw [this]; rfl
theorem rtick_eq {x y : Int} (h : y ≤ x) (hx : x ≤ 9223372036854775807) (hy : 0 ≤ y) : ref02_Num (wu64 (x - y)) = some (dg (x - y).toNat) := by
  rw [wu64_of (by omega) (by omega)]
  have := rnum (n := (x - y).toNat) (by omega)
  rwa [Int.toNat_of_nonneg (by omega)] at this
theorem put_level {z : List Sp} (hz : z.length ≤ 2000) : ∀ (l : List Sp) (i : Nat) (acc : List Int) (x : Int), l = z.drop i → 0 ≤ x → okS x l → acc.length + 20 * l.length ≤ 1000000000 →
    loopO (record_Put_s1 z) (acc, (i : Int), x) = some (acc ++ encS x l, lastS x l) := by
  intro l
  induction l with
  | nil =>
    intro i acc x hl h0 _ _
    have hi : z.length ≤ i := by
      have := congrArg List.length hl
      rw [List.length_drop, List.length_nil] at this
      omega
    rw [encS, lastS, List.append_nil]
    refine loopO_done ?_
    unfold record_Put_s1
    simp only
    rw [if_neg (by omega)]
  | cons s l ih =>
    intro i acc x hl h0 ⟨h1, h2, h3, h4⟩ hacc
    rw [List.length_cons] at hacc
    have hi : i < z.length := by
      rcases Nat.lt_or_ge i z.length with q | q
      · exact q
      · rw [List.drop_of_length_le q] at hl; cases hl
    rw [List.drop_eq_getElem_cons hi] at hl
    obtain ⟨hs, hl⟩ := List.cons.inj hl
    have a1 := dg10 (n := (s.1 - x).toNat) (by omega)
    have a2 := dg10 (n := (s.2 - s.1).toNat) (by omega)
    have hstep : record_Put_s1 z (acc, (i : Int), x) = some (.inl ((acc ++ dg (s.1 - x).toNat) ++ dg (s.2 - s.1).toNat, ((i + 1 : Nat) : Int), s.2)) := by
      unfold record_Put_s1
      simp only
      rw [if_pos (by omega), rdo_get hi, ← hs, Option.bind_some, tick_eq h1 (by omega) h0, Option.bind_some, rm1 (by omega), Option.bind_some, tick_eq h2 h3 (by omega), Option.bind_some, rm1 (by rw [List.length_append]; omega), Option.bind_some, wi64_of (by omega) (by omega)]
      rfl
    rw [loopO_next hstep, ih (i + 1) _ s.2 hl (by omega) h4 (by rw [List.length_append, List.length_append]; omega), encS, lastS]
    simp only [List.append_assoc]
theorem rput_level {z : List Sp} (hz : z.length ≤ 2000) : ∀ (l : List Sp) (i : Nat) (acc : List Int) (x : Int), l = z.drop i → 0 ≤ x → okS x l → acc.length + 20 * l.length ≤ 1000000000 →
    loopO (ref11_Put_s1 z) (acc, x, (i : Int)) = some (acc ++ encS x l, lastS x l) := by
  intro l
  induction l with
  | nil =>
    intro i acc x hl h0 _ _
    have hi : z.length ≤ i := by
      have := congrArg List.length hl
      rw [List.length_drop, List.length_nil] at this
      omega
    rw [encS, lastS, List.append_nil]
    refine loopO_done ?_
    unfold ref11_Put_s1
    simp only
    rw [if_neg (by omega)]
  | cons s l ih =>
    intro i acc x hl h0 ⟨h1, h2, h3, h4⟩ hacc
    rw [List.length_cons] at hacc
    have hi : i < z.length := by
      rcases Nat.lt_or_ge i z.length with q | q
      · exact q
      · rw [List.drop_of_length_le q] at hl; cases hl
    rw [List.drop_eq_getElem_cons hi] at hl
    obtain ⟨hs, hl⟩ := List.cons.inj hl
    have a1 := dg10 (n := (s.1 - x).toNat) (by omega)
    have a2 := dg10 (n := (s.2 - s.1).toNat) (by omega)
    have hstep : ref11_Put_s1 z (acc, x, (i : Int)) = some (.inl ((acc ++ dg (s.1 - x).toNat) ++ dg (s.2 - s.1).toNat, s.2, ((i + 1 : Nat) : Int))) := by
      unfold ref11_Put_s1
      simp only
      rw [if_pos (by omega), rdo_get hi, ← hs, Option.bind_some, rtick_eq h1 (by omega) h0, Option.bind_some, rm1 (by omega), Option.bind_some, rtick_eq h2 h3 (by omega), Option.bind_some, rm1 (by rw [List.length_append]; omega), Option.bind_some, wi64_of (by omega) (by omega)]
      rfl
    rw [loopO_next hstep, ih (i + 1) _ s.2 hl (by omega) h4 (by rw [List.length_append, List.length_append]; omega), encS, lastS]
    simp only [List.append_assoc]
section
variable {K g : Int} {ls : List (List Sp)}
theorem rev_get {m : Nat} (hm : m < ls.length) : ∃ h : ls.length - 1 - m < ls.length, ls.reverse.drop m = ls[ls.length - 1 - m] :: ls.reverse.drop (m + 1) := by
  refine ⟨by omega, ?_⟩
  rw [List.drop_eq_getElem_cons (by rw [List.length_reverse]; exact hm), List.getElem_reverse]
theorem put_levels (hn : ls.length ≤ 100) (hl : ∀ l ∈ ls, l.length ≤ 1025) : ∀ (n m : Nat) (acc : List Int) (x : Int), n + m = ls.length → 0 ≤ x → x ≤ 9223372036854775807 → okLs x (ls.reverse.drop m) → acc.length + 20510 * n ≤ 100000000 →
    loopO (record_Put_s0 (K, g, ls)) (acc, (m : Int), x) = some (acc ++ encL x (ls.reverse.drop m)) := by
  intro n
  induction n with
  | zero =>
    intro m acc x hm _ _ _ _
    rw [List.drop_of_length_le (by rw [List.length_reverse]; omega), encL, List.append_nil]
    refine loopO_done ?_
    unfold record_Put_s0
    simp only
    rw [if_neg (by omega)]
  | succ n ih =>
    intro m acc x hm h0 hx hok hacc
    obtain ⟨hlt, hd⟩ := rev_get (ls := ls) (m := m) (by omega)
    rw [hd] at hok ⊢
    obtain ⟨h1, h2, h3⟩ := hok
    have hlast := okS_last h2 hx
    have a1 := dg10 (n := ls[ls.length - 1 - m].length) (by omega)
    have a2 := encS_len h0 h2
    have e1 : wi64 (wi64 ((ls.length : Int) - 1) - (m : Int)) = ((ls.length - 1 - m : Nat) : Int) := by
      rw [wi64_of (x := (ls.length : Int) - 1) (by omega) (by omega), wi64_of (by omega) (by omega)]; omega
    have hstep : record_Put_s0 (K, g, ls) (acc, (m : Int), x) = some (.inl ((acc ++ dg ls[ls.length - 1 - m].length) ++ encS x ls[ls.length - 1 - m], ((m + 1 : Nat) : Int), lastS x ls[ls.length - 1 - m])) := by
      unfold record_Put_s0
      simp only
      have hp := put_level (z := ls[ls.length - 1 - m]) (by omega) ls[ls.length - 1 - m] 0 (acc ++ dg ls[ls.length - 1 - m].length) x rfl h0 h2 (by rw [List.length_append]; omega)
      rw [if_pos (by omega), e1, rdo_get hlt, Option.bind_some, wu64_of (by omega) (by omega), cnum (by omega), Option.bind_some, rm1 (by omega), Option.bind_some]
      rw [show ((0 : Int)) = ((0 : Nat) : Int) from rfl, hp, Option.bind_some, wi64_of (by omega) (by omega)]
      rfl
    rw [loopO_next hstep, ih (m + 1) _ _ (by omega) (by omega) hlast.2 h3 (by rw [List.length_append, List.length_append]; omega), encL]
    simp only [List.append_assoc]
theorem rput_levels (hn : ls.length ≤ 100) (hl : ∀ l ∈ ls, l.length ≤ 1025) : ∀ (n m : Nat) (acc : List Int) (x : Int), n + m = ls.length → 0 ≤ x → x ≤ 9223372036854775807 → okLs x (ls.reverse.drop m) → acc.length + 20510 * n ≤ 100000000 →
    loopO (ref11_Put_s0 (K, g, ls)) (acc, x, (ls.length : Int) - 1 - m) = some (acc ++ encL x (ls.reverse.drop m)) := by
  intro n
  induction n with
  | zero =>
    intro m acc x hm _ _ _ _
    rw [List.drop_of_length_le (by rw [List.length_reverse]; omega), encL, List.append_nil]
    refine loopO_done ?_
    unfold ref11_Put_s0
    simp only
    rw [if_neg (by omega)]
  | succ n ih =>
    intro m acc x hm h0 hx hok hacc
    obtain ⟨hlt, hd⟩ := rev_get (ls := ls) (m := m) (by omega)
    rw [hd] at hok ⊢
    obtain ⟨h1, h2, h3⟩ := hok
    have hlast := okS_last h2 hx
    have a1 := dg10 (n := ls[ls.length - 1 - m].length) (by omega)
    have a2 := encS_len h0 h2
    have e1 : (ls.length : Int) - 1 - (m : Int) = ((ls.length - 1 - m : Nat) : Int) := by omega
    have hstep : ref11_Put_s0 (K, g, ls) (acc, x, (ls.length : Int) - 1 - m) = some (.inl ((acc ++ dg ls[ls.length - 1 - m].length) ++ encS x ls[ls.length - 1 - m], lastS x ls[ls.length - 1 - m], (ls.length : Int) - 1 - ((m + 1 : Nat) : Int))) := by
      unfold ref11_Put_s0
      simp only
      have hp := rput_level (z := ls[ls.length - 1 - m]) (by omega) ls[ls.length - 1 - m] 0 (acc ++ dg ls[ls.length - 1 - m].length) x rfl h0 h2 (by rw [List.length_append]; omega)
      rw [if_pos (by omega), e1, rdo_get hlt, Option.bind_some, wu64_of (by omega) (by omega), rnum (by omega), Option.bind_some, rm1 (by omega), Option.bind_some]
      rw [show ((0 : Int)) = ((0 : Nat) : Int) from rfl, hp, Option.bind_some, wi64_of (by omega) (by omega)]
      rw [show ((ls.length - 1 - m : Nat) : Int) - 1 = (ls.length : Int) - 1 - ((m + 1 : Nat) : Int) by omega]
    rw [loopO_next hstep, ih (m + 1) _ _ (by omega) (by omega) hlast.2 h3 (by rw [List.length_append, List.length_append]; omega), encL]
    simp only [List.append_assoc]

/-- Three pieces as one. -/
theorem concat3 {a b c : List Int} (ha : a.length ≤ 10) (hb : b.length ≤ 10) (hc : c.length ≤ 10) : slices_Concat_byte [a, b, c] = some (a ++ b ++ c) := by
  have s0 : loopO (slices_Concat_byte_s0 [a, b, c]) ((0 : Int), (0 : Int)) = some ((a.length + b.length + c.length : Nat) : Int) := by
    have e : ∀ (t : Int) (i : Nat) (z : List Int), [a, b, c][i]? = some z → 0 ≤ t → t ≤ 100 → z.length ≤ 10 → slices_Concat_byte_s0 [a, b, c] (t, (i : Int)) = some (.inl (t + z.length, ((i + 1 : Nat) : Int))) := by
      intro t i z hz h0 h1 h2
      have hi := (List.getElem?_eq_some_iff.1 hz).1
      unfold slices_Concat_byte_s0
      simp only
      rw [if_pos (by simp at hi ⊢; omega), rdo_nat, hz, Option.bind_some, wi64_of (by omega) (by omega), if_neg (by omega), wi64_of (by simp at hi; omega) (by simp at hi; omega)]
      rfl
    have e0 := e 0 0 a rfl (by omega) (by omega) ha
    have e1 := e (0 + a.length) 1 b rfl (by omega) (by omega) hb
    have e2 := e (0 + a.length + b.length) 2 c rfl (by omega) (by omega) hc
    rw [show ((0 : Int), (0 : Int)) = ((0 : Int), ((0 : Nat) : Int)) from rfl, loopO_next e0, loopO_next e1, loopO_next e2]
    refine loopO_done ?_
    unfold slices_Concat_byte_s0
    simp only
    rw [if_neg (by simp)]
    congr 2
    omega
  have s1 : loopO (slices_Concat_byte_s1 [a, b, c]) (([] : List Int), (0 : Int)) = some (a ++ b ++ c) := by
    have e : ∀ (t : List Int) (i : Nat) (z : List Int), [a, b, c][i]? = some z → t.length ≤ 100 → z.length ≤ 10 → slices_Concat_byte_s1 [a, b, c] (t, (i : Int)) = some (.inl (t ++ z, ((i + 1 : Nat) : Int))) := by
      intro t i z hz h1 h2
      have hi := (List.getElem?_eq_some_iff.1 hz).1
      unfold slices_Concat_byte_s1
      simp only
      rw [if_pos (by simp at hi ⊢; omega), rdo_nat, hz, Option.bind_some, rm1 (by omega), Option.bind_some, wi64_of (by simp at hi; omega) (by simp at hi; omega)]
      rfl
    have e0 := e [] 0 a rfl (by simp) ha
    have e1 := e ([] ++ a) 1 b rfl (by simp; omega) hb
    have e2 := e ([] ++ a ++ b) 2 c rfl (by simp; omega) hc
    rw [show (([] : List Int), (0 : Int)) = (([] : List Int), ((0 : Nat) : Int)) from rfl, loopO_next e0, loopO_next e1, loopO_next e2]
    refine loopO_done ?_
    unfold slices_Concat_byte_s1
    simp only
    rw [if_neg (by simp)]
    simp
  have hg : slices_Grow_byte ((a.length + b.length + c.length : Nat) : Int) = some [] := by
    unfold slices_Grow_byte
    rw [if_neg (by omega), Option.bind_some, wi64_of (by omega) (by omega)]
    split
    · rw [must_of ⟨Int.le_refl 0, by simp⟩, Option.bind_some, rm1 (by omega), Option.bind_some, must_of ⟨Int.le_refl 0, Int.natCast_nonneg _⟩]; rfl
    · rfl
  unfold slices_Concat_byte
  rw [s0, Option.bind_some, hg, Option.bind_some, s1]
  rfl
theorem rput_eq (hl : ls.length ≤ 100) (hll : ∀ l ∈ ls, l.length ≤ 2000) : ref11_Put (K, g, ls) = some (if histC K g ls = 0 then encH K g ls else []) := by
  unfold ref11_Put
  rw [rhist_eq hl hll, Option.bind_some]
  by_cases hc : histC K g ls = 0
  · rw [if_neg (by simpa using hc), if_pos hc]
    obtain ⟨hk, hs, ht, hw⟩ := histC_zero hc
    have hlen := shB_lens hs (by omega)
    have hok := turn_okLs ht (fun l h => (hlen l h).2)
    simp only
    rw [wu64_of (x := K) (by omega) (by omega), wu64_of (x := g) (by omega) (by omega), wu64_of (x := (ls.length : Int)) (by omega) (by omega)]
    have e1 := rnum (n := K.toNat) (by omega)
    have e2 := rnum (n := g.toNat) (by omega)
    rw [Int.toNat_of_nonneg (by omega)] at e1 e2
    have a1 := dg10 (n := K.toNat) (by omega)
    have a2 := dg10 (n := g.toNat) (by omega)
    have a3 := dg10 (n := ls.length) (by omega)
    rw [e1, Option.bind_some, rm1 (by simp; omega), Option.bind_some, e2, Option.bind_some, rm1 (by omega), Option.bind_some, rnum (by omega), Option.bind_some, rm1 (by rw [List.length_append]; omega), Option.bind_some]
    have hp := rput_levels (K := K) (g := g) hl (fun l h => (hlen l h).2) ls.length 0 ((dg K.toNat ++ dg g.toNat) ++ dg ls.length) 0 (by omega) (by omega) (by omega) hok (by rw [List.length_append, List.length_append]; omega)
    rw [show (ls.length : Int) - 1 - ((0 : Nat) : Int) = (ls.length : Int) - 1 by omega, List.drop_zero] at hp
    rw [wi64_of (by omega) (by omega), hp, Option.bind_some, encH]
    simp only [List.append_assoc]
  · rw [if_pos (by simpa using hc), if_neg hc]
theorem cput_eq (hl : ls.length ≤ 100) (hll : ∀ l ∈ ls, l.length ≤ 2000) : record_Put (K, g, ls) = some (if histC K g ls = 0 then encH K g ls else []) := by
  unfold record_Put
  rw [chist_eq hl hll, Option.bind_some]
  by_cases hc : histC K g ls = 0
  · rw [if_neg (by simpa using hc), if_pos hc]
    obtain ⟨hk, hs, ht, hw⟩ := histC_zero hc
    have hlen := shB_lens hs (by omega)
    have hok := turn_okLs ht (fun l h => (hlen l h).2)
    simp only
    rw [wu64_of (x := K) (by omega) (by omega), wu64_of (x := g) (by omega) (by omega), wu64_of (x := (ls.length : Int)) (by omega) (by omega)]
    have e1 := cnum (n := K.toNat) (by omega)
    have e2 := cnum (n := g.toNat) (by omega)
    rw [Int.toNat_of_nonneg (by omega)] at e1 e2
    have a1 := dg10 (n := K.toNat) (by omega)
    have a2 := dg10 (n := g.toNat) (by omega)
    have a3 := dg10 (n := ls.length) (by omega)
    rw [e1, Option.bind_some, e2, Option.bind_some, cnum (by omega), Option.bind_some, concat3 a1 a2 a3, Option.bind_some]
    unfold record_ticks
    rw [Option.bind_some]
    have hp := put_levels (K := K) (g := g) hl (fun l h => (hlen l h).2) ls.length 0 (dg K.toNat ++ dg g.toNat ++ dg ls.length) 0 (by omega) (by omega) (by omega) hok (by rw [List.length_append, List.length_append]; omega)
    rw [List.drop_zero] at hp
    rw [show ((0 : Int), (0 : Int)) = (((0 : Nat) : Int), (0 : Int)) from rfl, hp, Option.bind_some, encH]
    simp only [List.append_assoc]
  · rw [if_pos (by simpa using hc), if_neg hc]
end
end Go.Proofs.Ytbeknohemgjfbaa.Pu
