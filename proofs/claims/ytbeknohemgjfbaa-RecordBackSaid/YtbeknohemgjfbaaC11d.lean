/- Histograms as bytes: there and back. -/
import Derived.Test.YtbeknohemgjfbaaC11c
namespace Go.Proofs.Ytbeknohemgjfbaa.Pu
set_option linter.unusedVariables false

/-! ## What was written is read -/
theorem nx_enc {x y : Int} (h0 : 0 ≤ x) (h : x ≤ y) (hy : y ≤ 9223372036854775807) (t : List Int) : nxM (dg (y - x).toNat ++ t, 0) x = (y, t, 0) := by
  unfold nxM MT
  rw [numM_dg (by omega) (by omega)]
  simp only
  congr 1
  omega
theorem spn_enc : ∀ (l : List Sp) {x : Int} (t : List Int), 0 ≤ x → okS x l → spnM l.length (encS x l ++ t, 0) x = (l, lastS x l, t, 0) := by
  intro l
  induction l with
  | nil => intro x t _ _; rfl
  | cons s l ih =>
    intro x t h0 ⟨h1, h2, h3, h4⟩
    rw [encS, List.length_cons, spnM, lastS]
    simp only [List.append_assoc]
    rw [nx_enc h0 h1 (by omega)]
    simp only
    rw [nx_enc (by omega) h2 h3]
    simp only
    rw [if_neg (by simp), ih t (by omega) h4]
theorem lvl_enc {l : List Sp} {x : Int} (t : List Int) (h0 : 0 ≤ x) (hl : l.length ≤ 1025) (h : okS x l) : lvl1 (dg l.length ++ (encS x l ++ t), 0) x = (l, lastS x l, t, 0) := by
  unfold lvl1
  rw [numM_dg (by omega) (by omega)]
  simp only [Int.toNat_natCast]
  exact spn_enc l t h0 h
theorem lv_enc : ∀ (ls : List (List Sp)) {x : Int} (t : List Int), 0 ≤ x → x ≤ 9223372036854775807 → okLs x ls → lvM ls.length (encL x ls ++ t, 0) x = (ls, t, 0) := by
  intro ls
  induction ls with
  | nil => intro x t _ _ _; rfl
  | cons l ls ih =>
    intro x t h0 hx ⟨h1, h2, h3⟩
    have hlast := okS_last h2 hx
    rw [encL, List.length_cons, lvM]
    simp only [List.append_assoc]
    rw [lvl_enc _ h0 h1 h2]
    simp only
    rw [ih t (by omega) hlast.2 h3]
theorem hist_oks {K g : Int} {ls : List (List Sp)} (h : histC K g ls = 0) : (2 ≤ K ∧ K ≤ 1024 ∧ 0 ≤ g ∧ g ≤ 4) ∧ ls.length ≤ 52 ∧ okLs 0 ls.reverse := by
  obtain ⟨hk, hs, ht, hw⟩ := histC_zero h
  have hlen := shB_lens hs (by omega)
  exact ⟨hk, shB_len hs, turn_okLs ht (fun l h => (hlen l h).2)⟩
theorem raw_enc {K g : Int} {ls : List (List Sp)} (h : histC K g ls = 0) (t : List Int) : rawM (encH K g ls ++ t, 0) = (K, g, ls, t, 0) := by
  obtain ⟨hk, hl, hok⟩ := hist_oks h
  unfold rawM encH
  simp only [List.append_assoc]
  rw [numM_dg (by omega) (by omega)]
  simp only
  rw [numM_dg (by omega) (by omega)]
  simp only
  rw [numM_dg (by omega) (by omega)]
  simp only [Int.toNat_natCast]
  have := lv_enc ls.reverse t (Int.le_refl 0) (by decide) hok
  rw [List.length_reverse] at this
  rw [this]
  simp only [List.reverse_reverse]
  rw [Int.toNat_of_nonneg (by omega), Int.toNat_of_nonneg (by omega)]
theorem take_enc {K g : Int} {ls : List (List Sp)} (h : histC K g ls = 0) (t : List Int) : takeM (encH K g ls ++ t, 0) = (K, g, ls, t, 0) := by
  unfold takeM
  rw [raw_enc h]
  simp only
  rw [if_neg (by simp), if_neg (nn h)]

/-! ## What is cut off is too short -/
theorem nx_cut {n j : Nat} {x : Int} (h : n < 18446744073709551616) (hj : j < (dg n).length) : (nxM ((dg n).take j, 0) x).2 = ((dg n).take j, 3) := by
  unfold nxM
  rw [numM_cut h hj]
theorem spn_cut : ∀ (l : List Sp) {x : Int} {j : Nat}, 0 ≤ x → okS x l → j < (encS x l).length → (spnM l.length ((encS x l).take j, 0) x).2.2.2 = 3 := by
  intro l
  induction l with
  | nil => intro x j _ _ h; simp [encS] at h
  | cons s l ih =>
    intro x j h0 ⟨h1, h2, h3, h4⟩ hj
    rw [encS] at hj ⊢
    rw [List.length_cons, spnM]
    simp only
    by_cases c1 : j < (dg (s.1 - x).toNat).length
    · have e1 : ((dg (s.1 - x).toNat ++ (dg (s.2 - s.1).toNat ++ encS s.2 l)).take j) = (dg (s.1 - x).toNat).take j := List.take_append_of_le_length (by omega)
      rw [e1]
      have e2 := nx_cut (x := x) (n := (s.1 - x).toNat) (by omega) c1
      rw [e2]
      have e3 : (nxM ((dg (s.1 - x).toNat).take j, 3) (nxM ((dg (s.1 - x).toNat).take j, 0) x).1).2 = ((dg (s.1 - x).toNat).take j, 3) := nxM_err (by simp)
      rw [e3, if_pos (by simp)]
    · have e1 : ((dg (s.1 - x).toNat ++ (dg (s.2 - s.1).toNat ++ encS s.2 l)).take j) = dg (s.1 - x).toNat ++ (dg (s.2 - s.1).toNat ++ encS s.2 l).take (j - (dg (s.1 - x).toNat).length) := by rw [List.take_append, List.take_of_length_le (by omega)]
      rw [e1, nx_enc h0 h1 (by omega)]
      simp only
      by_cases c2 : j - (dg (s.1 - x).toNat).length < (dg (s.2 - s.1).toNat).length
      · rw [List.take_append_of_le_length (by omega), nx_cut (by omega) c2]
        rw [if_pos (by simp)]
      · rw [List.take_append, List.take_of_length_le (l := dg (s.2 - s.1).toNat) (by omega), nx_enc (by omega) h2 h3]
        simp only
        rw [if_neg (by simp)]
        simp only
        exact ih (by omega) h4 (by simp only [List.length_append] at hj; omega)
theorem lvl_cut {l : List Sp} {x : Int} {j : Nat} (h0 : 0 ≤ x) (hl : l.length ≤ 1025) (h : okS x l) (hj : j < (dg l.length ++ encS x l).length) : (lvl1 ((dg l.length ++ encS x l).take j, 0) x).2.2.2 = 3 := by
  unfold lvl1
  by_cases c1 : j < (dg l.length).length
  · rw [List.take_append_of_le_length (by omega), numM_cut (by omega) c1]
    rfl
  · rw [List.take_append, List.take_of_length_le (l := dg l.length) (by omega), numM_dg (by omega) (by omega)]
    simp only [Int.toNat_natCast]
    exact spn_cut l h0 h (by rw [List.length_append] at hj; omega)
theorem lv_cut : ∀ (ls : List (List Sp)) {x : Int} {j : Nat}, 0 ≤ x → x ≤ 9223372036854775807 → okLs x ls → j < (encL x ls).length → (lvM ls.length ((encL x ls).take j, 0) x).2.2 = 3 := by
  intro ls
  induction ls with
  | nil => intro x j _ _ _ h; simp [encL] at h
  | cons l ls ih =>
    intro x j h0 hx ⟨h1, h2, h3⟩ hj
    have hlast := okS_last h2 hx
    rw [encL] at hj ⊢
    rw [← List.append_assoc] at hj ⊢
    rw [List.length_cons, lvM]
    by_cases c1 : j < (dg l.length ++ encS x l).length
    · rw [List.take_append_of_le_length (by omega)]
      have e := lvl_cut h0 h1 h2 c1
      rw [lvM_err (by rw [e]; decide)]
      exact e
    · rw [List.take_append, List.take_of_length_le (l := dg l.length ++ encS x l) (by omega), List.append_assoc, lvl_enc _ h0 h1 h2]
      simp only
      exact ih (by omega) hlast.2 h3 (by rw [List.length_append] at hj; omega)
theorem raw_cut {K g : Int} {ls : List (List Sp)} (h : histC K g ls = 0) {j : Nat} (hj : j < (encH K g ls).length) : (rawM ((encH K g ls).take j, 0)).2.2.2.2 = 3 := by
  obtain ⟨hk, hl, hok⟩ := hist_oks h
  have err : ∀ {r : Rd8}, r.2 = 3 → (lvM (numM r 52).1.toNat (numM r 52).2 0).2.2 = 3 := by
    intro r hr
    rw [numM_err (by rw [hr]; decide), lvM_err (by rw [hr]; decide)]
    exact hr
  unfold rawM encH at *
  simp only
  by_cases c1 : j < (dg K.toNat).length
  · rw [List.take_append_of_le_length (by omega), numM_cut (by omega) c1]
    simp only
    rw [numM_err (r := ((dg K.toNat).take j, 3)) (by simp)]
    exact err rfl
  · rw [List.take_append, List.take_of_length_le (l := dg K.toNat) (by omega), numM_dg (by omega) (by omega)]
    simp only
    rw [List.length_append] at hj
    by_cases c2 : j - (dg K.toNat).length < (dg g.toNat).length
    · rw [List.take_append_of_le_length (by omega), numM_cut (by omega) c2]
      exact err rfl
    · rw [List.take_append, List.take_of_length_le (l := dg g.toNat) (by omega), numM_dg (by omega) (by omega)]
      simp only
      rw [List.length_append] at hj
      by_cases c3 : j - (dg K.toNat).length - (dg g.toNat).length < (dg ls.length).length
      · rw [List.take_append_of_le_length (by omega), numM_cut (by omega) c3]
        rfl
      · rw [List.take_append, List.take_of_length_le (l := dg ls.length) (by omega), numM_dg (by omega) (by omega)]
        simp only [Int.toNat_natCast]
        rw [List.length_append] at hj
        have := lv_cut ls.reverse (j := j - (dg K.toNat).length - (dg g.toNat).length - (dg ls.length).length) (Int.le_refl 0) (by decide) hok (by omega)
        rw [List.length_reverse] at this
        exact this
theorem take_cut {K g : Int} {ls : List (List Sp)} (h : histC K g ls = 0) {j : Nat} (hj : j < (encH K g ls).length) : (takeM ((encH K g ls).take j, 0)).2.2.2.2 = 3 := by
  have e := raw_cut h hj
  unfold takeM
  rw [if_pos (by rw [e]; decide)]
  exact e

/-! ## Bytes that are read are the only form -/
theorem nx_dec {r : Rd8} {x : Int} (hr : RdOk r) (h0 : 0 ≤ x) (h : (nxM r x).2.2 = 0) (hm : (nxM r x).1 ≤ 9223372036854775807) : r.2 = 0 ∧ x ≤ (nxM r x).1 ∧ r.1 = dg ((nxM r x).1 - x).toNat ++ (nxM r x).2.1 := by
  unfold nxM at h hm ⊢
  simp only at h hm ⊢
  obtain ⟨d1, d2, d3, d4⟩ := numM_dec hr h
  have e : min (x + (numM r MT).1) 9223372036854775808 = x + (numM r MT).1 := by omega
  rw [e, show x + (numM r MT).1 - x = (numM r MT).1 by omega]
  exact ⟨d1, by omega, d2⟩
theorem spn_dec : ∀ (n : Nat) {r : Rd8} {x : Int}, RdOk r → 0 ≤ x → x ≤ 9223372036854775808 → (spnM n r x).2.2.2 = 0 → (∀ s ∈ (spnM n r x).1, ¬ badS s) →
    r.2 = 0 ∧ (spnM n r x).1.length = n ∧ (spnM n r x).2.1 = lastS x (spnM n r x).1 ∧ r.1 = encS x (spnM n r x).1 ++ (spnM n r x).2.2.1 := by
  intro n
  induction n with
  | zero => intro r x _ _ _ h _; exact ⟨h, rfl, rfl, rfl⟩
  | succ n ih =>
    intro r x hr h0 hx h hb
    obtain ⟨a1, a2, a3, a4⟩ := nxM_ok hr h0 hx
    obtain ⟨b1, b2, b3, b4⟩ := nxM_ok a1 a2 a3
    rw [spnM] at h hb ⊢
    simp only at h hb ⊢
    by_cases c : (nxM (nxM r x).2 (nxM r x).1).2.2 ≠ 0
    · rw [if_pos c] at h; exact absurd h c
    · rw [if_neg c] at h hb ⊢
      simp only at h hb ⊢
      obtain ⟨i1, i2, i3, i4⟩ := ih b1 b2 b3 h (fun s hs => hb s (List.mem_cons_of_mem _ hs))
      have hs := hb _ List.mem_cons_self
      unfold badS at hs
      simp only at hs
      obtain ⟨d1, d2, d3⟩ := nx_dec a1 a2 (by omega) (show (nxM (nxM r x).2 (nxM r x).1).1 ≤ 9223372036854775807 by omega)
      obtain ⟨e1, e2, e3⟩ := nx_dec hr h0 d1 (show (nxM r x).1 ≤ 9223372036854775807 by omega)
      refine ⟨e1, by simp only [List.length_cons, i2], by rw [lastS]; exact i3, ?_⟩
      rw [encS, List.append_assoc, List.append_assoc, ← i4, ← d3]
      exact e3
theorem lv_dec : ∀ (n : Nat) {r : Rd8} {x : Int}, RdOk r → 0 ≤ x → x ≤ 9223372036854775808 → (lvM n r x).2.2 = 0 → (∀ l ∈ (lvM n r x).1, ∀ s ∈ l, ¬ badS s) →
    r.2 = 0 ∧ r.1 = encL x (lvM n r x).1 ++ (lvM n r x).2.1 := by
  intro n
  induction n with
  | zero => intro r x _ _ _ h _; exact ⟨h, rfl⟩
  | succ n ih =>
    intro r x hr h0 hx h hb
    obtain ⟨a1, a2, a3, a4⟩ := lvl1_ok hr h0 hx
    rw [lvM] at h hb ⊢
    simp only at h hb ⊢
    obtain ⟨i1, i2⟩ := ih a1 a2 a3 h (fun l hl => hb l (List.mem_cons_of_mem _ hl))
    have hn := numM_le hr (m := 1025) (by decide)
    obtain ⟨s1, s2, s3, s4⟩ := spn_dec (numM r 1025).1.toNat (numM_rd (m := 1025) hr) h0 hx i1 (hb _ List.mem_cons_self)
    obtain ⟨d1, d2, d3⟩ := numM_dec hr s1
    refine ⟨d1, ?_⟩
    have e1 : (lvl1 r x).1.length = (numM r 1025).1.toNat := s2
    have e2 : (lvl1 r x).2.1 = lastS x (lvl1 r x).1 := s3
    have e3 : (numM r 1025).2.1 = encS x (lvl1 r x).1 ++ (lvl1 r x).2.2.1 := s4
    rw [encL, List.append_assoc, List.append_assoc, e1, ← e2, ← i2, ← e3]
    exact d2
theorem take_dec {r : Rd8} (hr : RdOk r) (h : (takeM r).2.2.2.2 = 0) : histC (takeM r).1 (takeM r).2.1 (takeM r).2.2.1 = 0 ∧ r.2 = 0 ∧ r.1 = encH (takeM r).1 (takeM r).2.1 (takeM r).2.2.1 ++ (takeM r).2.2.2.1 := by
  have h1 := numM_rd (m := 1024) hr
  have h2 := numM_rd (m := 4) h1
  have h3 := numM_rd (m := 52) h2
  unfold takeM at h ⊢
  by_cases c0 : (rawM r).2.2.2.2 ≠ 0
  · rw [if_pos c0] at h; exact absurd h c0
  · rw [if_neg c0] at h ⊢
    by_cases c1 : histC (rawM r).1 (rawM r).2.1 (rawM r).2.2.1 ≠ 0
    · rw [if_pos c1] at h; cases h
    · rw [if_neg c1] at h ⊢
      have hc : histC (rawM r).1 (rawM r).2.1 (rawM r).2.2.1 = 0 := by omega
      refine ⟨hc, ?_⟩
      have hb := hist_nobad hc
      have n3 := numM_le h2 (m := 52) (by decide)
      obtain ⟨l1, l2⟩ := lv_dec (numM (numM (numM r 1024).2 4).2 52).1.toNat h3 (Int.le_refl 0) (by decide) h (fun l hl => hb l (List.mem_reverse.2 hl))
      obtain ⟨d1, d2, d3⟩ := numM_dec h2 l1
      obtain ⟨e1, e2, e3⟩ := numM_dec h1 d1
      obtain ⟨f1, f2, f3⟩ := numM_dec hr e1
      refine ⟨f1, ?_⟩
      have hlen := (lvM_ok (numM (numM (numM r 1024).2 4).2 52).1.toNat h3 (x := 0) (Int.le_refl 0) (by decide)).2.1
      show r.1 = (dg (numM r 1024).1.toNat ++ (dg (numM (numM r 1024).2 4).1.toNat ++ (dg ((lvM (numM (numM (numM r 1024).2 4).2 52).1.toNat (numM (numM (numM r 1024).2 4).2 52).2 0).1.reverse).length ++ encL 0 ((lvM (numM (numM (numM r 1024).2 4).2 52).1.toNat (numM (numM (numM r 1024).2 4).2 52).2 0).1.reverse).reverse))) ++ (lvM (numM (numM (numM r 1024).2 4).2 52).1.toNat (numM (numM (numM r 1024).2 4).2 52).2 0).2.1
      rw [List.reverse_reverse, List.length_reverse, hlen]
      simp only [List.append_assoc]
      rw [← l2, ← d2, ← e2]
      exact f2

/-! ## One -/
def oneM (b : List Int) : Int × Int × List (List Sp) × Int :=
  if endM (takeM (b, 0)).2.2.2 ≠ 0 then (0, 0, [], endM (takeM (b, 0)).2.2.2) else ((takeM (b, 0)).1, (takeM (b, 0)).2.1, (takeM (b, 0)).2.2.1, 0)
theorem cone_eq {b : List Int} (hl : b.length ≤ 1099511627776) (hb : Byt b) : record_One b = some (oneM b) := by
  unfold record_One oneM
  rw [cnew, Option.bind_some, take_all, ctake_eq ⟨hl, hb⟩, Option.bind_some, crend, Option.bind_some]
  split <;> rfl
theorem rone_eq {b : List Int} (hl : b.length ≤ 1099511627776) (hb : Byt b) : ref11_One b = some (oneM b) := by
  unfold ref11_One oneM
  rw [rtake11_eq ⟨hl, hb⟩, Option.bind_some, rrend, Option.bind_some]
  split <;> rfl
theorem one_enc {K g : Int} {ls : List (List Sp)} (h : histC K g ls = 0) : oneM (encH K g ls) = (K, g, ls, 0) := by
  have e := take_enc h []
  rw [List.append_nil] at e
  unfold oneM
  rw [e]
  rfl
theorem one_more {K g : Int} {ls : List (List Sp)} (h : histC K g ls = 0) (x : Int) : (oneM (encH K g ls ++ [x])).2.2.2 = 2 := by
  unfold oneM
  rw [take_enc h [x]]
  rfl
theorem one_cut {K g : Int} {ls : List (List Sp)} (h : histC K g ls = 0) {j : Nat} (hj : j < (encH K g ls).length) : (oneM ((encH K g ls).take j)).2.2.2 = 3 := by
  have e := take_cut h hj
  have e2 : endM (takeM ((encH K g ls).take j, 0)).2.2.2 = 3 := by unfold endM; rw [if_pos (by rw [e]; decide)]; exact e
  unfold oneM
  rw [if_pos (by rw [e2]; decide)]
  exact e2
theorem one_dec {b : List Int} (hl : b.length ≤ 1099511627776) (hb : Byt b) (h : (oneM b).2.2.2 = 0) : histC (oneM b).1 (oneM b).2.1 (oneM b).2.2.1 = 0 ∧ b = encH (oneM b).1 (oneM b).2.1 (oneM b).2.2.1 := by
  unfold oneM at h ⊢
  by_cases c : endM (takeM (b, 0)).2.2.2 ≠ 0
  · rw [if_pos c] at h; exact absurd h c
  · rw [if_neg c] at h ⊢
    have c' : endM (takeM (b, 0)).2.2.2 = 0 := by omega
    unfold endM at c'
    by_cases c1 : (takeM (b, 0)).2.2.2.2 ≠ 0
    · rw [if_pos c1] at c'; exact absurd c' c1
    · rw [if_neg c1] at c'
      have c2 : (takeM (b, 0)).2.2.2.1 = [] := by
        rcases Nat.eq_zero_or_pos (takeM (b, 0)).2.2.2.1.length with q | q
        · exact List.eq_nil_of_length_eq_zero q
        · rw [if_pos q] at c'; cases c'
      obtain ⟨t1, t2, t3⟩ := take_dec (r := (b, 0)) ⟨hl, hb⟩ (by omega)
      rw [c2, List.append_nil] at t3
      exact ⟨t1, t3⟩
theorem one_bad {b : List Int} (h : (oneM b).2.2.2 ≠ 0) : (oneM b).1 = 0 ∧ (oneM b).2.1 = 0 ∧ (oneM b).2.2.1 = [] := by
  unfold oneM at h ⊢
  by_cases c : endM (takeM (b, 0)).2.2.2 ≠ 0
  · rw [if_pos c]; exact ⟨rfl, rfl, rfl⟩
  · rw [if_neg c] at h; exact absurd rfl h
end Go.Proofs.Ytbeknohemgjfbaa.Pu
