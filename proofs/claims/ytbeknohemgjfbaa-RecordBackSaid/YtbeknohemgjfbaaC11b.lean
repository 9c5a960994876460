/- Histograms as bytes: what is read, by the program and by the reference. -/
import Derived.Test.YtbeknohemgjfbaaC11
namespace Go.Proofs.Ytbeknohemgjfbaa.Pu
set_option linter.unusedVariables false

abbrev MT : Int := 9223372036854775807
/-- The next tick. -/
def nxM (r : Rd8) (x : Int) : Int × Rd8 := (min (x + (numM r MT).1) 9223372036854775808, (numM r MT).2)
theorem nxM_ok {r : Rd8} (hr : RdOk r) {x : Int} (h0 : 0 ≤ x) (hx : x ≤ 9223372036854775808) : RdOk (nxM r x).2 ∧ 0 ≤ (nxM r x).1 ∧ (nxM r x).1 ≤ 9223372036854775808 ∧ x ≤ (nxM r x).1 := by
  have h1 : 0 ≤ (numM r MT).1 ∧ (numM r MT).1 ≤ 9223372036854775807 := numM_le hr (m := MT) (by decide)
  refine ⟨numM_rd hr, ?_⟩
  unfold nxM
  simp only
  omega
theorem next_eq {r : Rd8} (hr : RdOk r) {x : Int} (h0 : 0 ≤ x) (hx : x ≤ 9223372036854775808) : record_clock_next (r.1, r.2, x) = some ((nxM r x).1, (nxM r x).2) := by
  have h1 : 0 ≤ (numM r 9223372036854775807).1 ∧ (numM r 9223372036854775807).1 ≤ 9223372036854775807 := numM_le hr (by decide)
  unfold record_clock_next
  simp only
  rw [show ((r.1, r.2) : Rd8) = r from rfl, crnum hr, Option.bind_some, wu64_of (by omega) (by omega)]
  rfl
/-- So many buckets, behind a tick; up to where something is wrong. -/
def spnM : Nat → Rd8 → Int → List Sp × Int × Rd8
  | 0, r, x => ([], x, r)
  | n + 1, r, x =>
    let a := nxM r x
    let b := nxM a.2 a.1
    if b.2.2 ≠ 0 then ([], b.1, b.2) else
    let q := spnM n b.2 b.1
    ((a.1, b.1) :: q.1, q.2)
theorem spnM_ok : ∀ (n : Nat) {r : Rd8} {x : Int}, RdOk r → 0 ≤ x → x ≤ 9223372036854775808 → RdOk (spnM n r x).2.2 ∧ 0 ≤ (spnM n r x).2.1 ∧ (spnM n r x).2.1 ≤ 9223372036854775808 ∧ (spnM n r x).1.length ≤ n := by
  intro n
  induction n with
  | zero => intro r x hr h0 hx; exact ⟨hr, h0, hx, Nat.le_refl 0⟩
  | succ n ih =>
    intro r x hr h0 hx
    obtain ⟨a1, a2, a3, _⟩ := nxM_ok hr h0 hx
    obtain ⟨b1, b2, b3, _⟩ := nxM_ok a1 a2 a3
    rw [spnM]
    simp only
    split
    · exact ⟨b1, b2, b3, by simp⟩
    · obtain ⟨c1, c2, c3, c4⟩ := ih b1 b2 b3
      exact ⟨c1, c2, c3, by simp only [List.length_cons]; omega⟩
theorem spans_loop {r17 : Int × List Int × Int} (hr17 : r17.1 ≤ 1025) : ∀ (n : Nat) (i : Nat) (acc : List Sp) (r : Rd8) (x : Int), (i : Int) + n = r17.1 → RdOk r → 0 ≤ x → x ≤ 9223372036854775808 → acc.length ≤ i →
    loopO (record_clock_spans_s0 r17) (acc, (i : Int), x, r.1, r.2) = some (acc ++ (spnM n r x).1, (spnM n r x).2.1, (spnM n r x).2.2.1, (spnM n r x).2.2.2) := by
  intro n
  induction n with
  | zero =>
    intro i acc r x hi hr h0 hx _
    refine loopO_done ?_
    unfold record_clock_spans_s0
    simp only
    rw [if_neg (by omega), spnM]
    simp
  | succ n ih =>
    intro i acc r x hi hr h0 hx hacc
    obtain ⟨a1, a2, a3, _⟩ := nxM_ok hr h0 hx
    obtain ⟨b1, b2, b3, _⟩ := nxM_ok a1 a2 a3
    have e1 := next_eq hr h0 hx
    have e2 := next_eq a1 a2 a3
    by_cases c : (nxM (nxM r x).2 (nxM r x).1).2.2 ≠ 0
    · refine loopO_done ?_
      unfold record_clock_spans_s0 codec_Reader_Err
      simp only
      rw [if_pos (by omega), e1, Option.bind_some]
      simp only
      rw [e2, Option.bind_some]
      simp only [Option.bind_some]
      rw [if_pos c, spnM]
      simp only
      rw [if_pos c, List.append_nil]
    · have hstep : record_clock_spans_s0 r17 (acc, (i : Int), x, r.1, r.2) = some (.inl (acc ++ [((nxM r x).1, (nxM (nxM r x).2 (nxM r x).1).1)], ((i + 1 : Nat) : Int), (nxM (nxM r x).2 (nxM r x).1).1, (nxM (nxM r x).2 (nxM r x).1).2.1, (nxM (nxM r x).2 (nxM r x).1).2.2)) := by
        unfold record_clock_spans_s0 codec_Reader_Err
        simp only
        rw [if_pos (by omega), e1, Option.bind_some]
        simp only
        rw [e2, Option.bind_some]
        simp only [Option.bind_some]
        rw [if_neg c, room_of (by simp; omega) (by simp; omega), Option.bind_some, wu64_of (by omega) (by omega)]
        rfl
      rw [loopO_next hstep, ih (i + 1) _ _ _ (by omega) b1 b2 b3 (by simp; omega), spnM]
      simp only
      rw [if_neg c]
      simp
/-- A level. -/
def lvl1 (r : Rd8) (x : Int) : List Sp × Int × Rd8 := spnM (numM r 1025).1.toNat (numM r 1025).2 x
theorem lvl1_ok {r : Rd8} {x : Int} (hr : RdOk r) (h0 : 0 ≤ x) (hx : x ≤ 9223372036854775808) : RdOk (lvl1 r x).2.2 ∧ 0 ≤ (lvl1 r x).2.1 ∧ (lvl1 r x).2.1 ≤ 9223372036854775808 ∧ (lvl1 r x).1.length ≤ 1025 := by
  have h := spnM_ok (numM r 1025).1.toNat (numM_rd (m := 1025) hr) h0 hx
  have := numM_le hr (m := 1025) (by decide)
  exact ⟨h.1, h.2.1, h.2.2.1, by have := h.2.2.2; unfold lvl1; omega⟩
theorem spans_eq {r : Rd8} (hr : RdOk r) {x : Int} (h0 : 0 ≤ x) (hx : x ≤ 9223372036854775808) : record_clock_spans (r.1, r.2, x) = some ((lvl1 r x).1, (lvl1 r x).2.2.1, (lvl1 r x).2.2.2, (lvl1 r x).2.1) := by
  have hn := numM_le hr (m := 1025) (by decide)
  unfold record_clock_spans
  simp only
  have hm : level_Most (1024 : Int) (0 : Int) = some 1025 := by
    have := most_same (k := 1024) 0 (by decide)
    exact this
  rw [hm, Option.bind_some, show wu64 1025 = 1025 by decide, show ((r.1, r.2) : Rd8) = r from rfl, crnum hr, Option.bind_some]
  have hl := spans_loop (r17 := numM r 1025) hn.2 (numM r 1025).1.toNat 0 [] (numM r 1025).2 x (by omega) (numM_rd hr) h0 hx (by simp)
  rw [show ((0 : Int)) = ((0 : Nat) : Int) from rfl, hl, Option.bind_some]
  rfl
/-- So many levels. -/
def lvM : Nat → Rd8 → Int → List (List Sp) × Rd8
  | 0, r, _ => ([], r)
  | n + 1, r, x => ((lvl1 r x).1 :: (lvM n (lvl1 r x).2.2 (lvl1 r x).2.1).1, (lvM n (lvl1 r x).2.2 (lvl1 r x).2.1).2)
theorem lvM_ok : ∀ (n : Nat) {r : Rd8} {x : Int}, RdOk r → 0 ≤ x → x ≤ 9223372036854775808 → RdOk (lvM n r x).2 ∧ (lvM n r x).1.length = n ∧ ∀ l ∈ (lvM n r x).1, l.length ≤ 1025 := by
  intro n
  induction n with
  | zero => intro r x hr _ _; exact ⟨hr, rfl, fun l hl => by cases hl⟩
  | succ n ih =>
    intro r x hr h0 hx
    obtain ⟨a1, a2, a3, a4⟩ := lvl1_ok hr h0 hx
    obtain ⟨b1, b2, b3⟩ := ih a1 a2 a3
    rw [lvM]
    refine ⟨b1, by simp only [List.length_cons, b2], fun l hl => ?_⟩
    rcases List.mem_cons.1 hl with q | q
    · rw [q]; exact a4
    · exact b3 l q
theorem take_loop {r21 : Int × List Int × Int} (h21 : r21.1 ≤ 52) : ∀ (n : Nat) (i : Nat) (acc : List (List Sp)) (r : Rd8) (x : Int), (i : Int) + n = r21.1 → RdOk r → 0 ≤ x → x ≤ 9223372036854775808 → acc.length = i →
    loopO (record_Take_s0 r21) ((i : Int), r.1, r.2, acc, x) = some ((lvM n r x).2.1, (lvM n r x).2.2, acc ++ (lvM n r x).1) := by
  intro n
  induction n with
  | zero =>
    intro i acc r x hi hr h0 hx _
    refine loopO_done ?_
    unfold record_Take_s0
    simp only
    rw [if_neg (by omega), lvM]
    simp
  | succ n ih =>
    intro i acc r x hi hr h0 hx hacc
    obtain ⟨a1, a2, a3, a4⟩ := lvl1_ok hr h0 hx
    have hstep : record_Take_s0 r21 ((i : Int), r.1, r.2, acc, x) = some (.inl (((i + 1 : Nat) : Int), (lvl1 r x).2.2.1, (lvl1 r x).2.2.2, acc ++ [(lvl1 r x).1], (lvl1 r x).2.1)) := by
      unfold record_Take_s0
      simp only
      rw [if_pos (by omega), spans_eq hr h0 hx, Option.bind_some]
      simp only
      rw [room_of (by simp; omega) (by simp; omega), Option.bind_some, wu64_of (by omega) (by omega)]
      rfl
    rw [loopO_next hstep, ih (i + 1) _ _ _ (by omega) a1 a2 a3 (by simp; omega), lvM]
    simp
/-- The other way round. -/
theorem reverse_eq (p : List (List Sp)) (hp : p.length ≤ 1000000) : slices_Reverse_Spans p = some p.reverse := by
  unfold slices_Reverse_Spans
  have key : ∀ (n i : Nat) (xs : List (List Sp)), p.length - 2 * i = n → xs.length = p.length → (∀ k, k < p.length → xs[k]? = if k < i ∨ p.length ≤ k + i then p.reverse[k]? else p[k]?) →
      loopO slices_Reverse_Spans_s0 (xs, (i : Int), (p.length : Int) - 1 - i) = some p.reverse := by
    intro n
    induction n using Nat.strongRecOn with
    | ind n ih =>
      intro i xs hn hxl hxs
      by_cases hi : 2 * i + 1 < p.length
      · have hj : (p.length : Int) - 1 - i = ((p.length - 1 - i : Nat) : Int) := by omega
        have h1 : (p.length - 1 - i) < xs.length := by omega
        have h2 : i < xs.length := by omega
        have hstep : slices_Reverse_Spans_s0 (xs, (i : Int), (p.length : Int) - 1 - i) = some (.inl (((xs.set i xs[p.length - 1 - i]).set (p.length - 1 - i) xs[i]), ((i + 1 : Nat) : Int), (p.length : Int) - 1 - ((i + 1 : Nat) : Int))) := by
          unfold slices_Reverse_Spans_s0
          simp only
          rw [if_pos (by omega), hj, rdo_get h1, Option.bind_some, rdo_get h2, Option.bind_some, Int.toNat_natCast, Int.toNat_natCast, rdo_get (by rw [List.length_set]; exact h1), Option.bind_some, wi64_of (by omega) (by omega), wi64_of (by omega) (by omega)]
          rw [show ((p.length - 1 - i : Nat) : Int) - 1 = (p.length : Int) - 1 - ((i + 1 : Nat) : Int) by omega]
          rfl
        rw [loopO_next hstep]
        refine ih (p.length - 2 * (i + 1)) (by omega) (i + 1) _ rfl (by simp [hxl]) (fun k hk => ?_)
        rw [List.getElem?_set, List.length_set]
        have e1 : xs[p.length - 1 - i] = p[p.length - 1 - i]'(by omega) := by
          have := hxs (p.length - 1 - i) (by omega)
          rw [if_neg (by omega), List.getElem?_eq_getElem h1, List.getElem?_eq_getElem (by omega)] at this
          exact Option.some.inj this
        have e2 : xs[i] = p[i]'(by omega) := by
          have := hxs i (by omega)
          rw [if_neg (by omega), List.getElem?_eq_getElem h2, List.getElem?_eq_getElem (by omega)] at this
          exact Option.some.inj this
        by_cases c1 : p.length - 1 - i = k
        · rw [if_pos c1, if_pos h1, if_pos (by omega), List.getElem?_eq_getElem (by rw [List.length_reverse]; omega), List.getElem_reverse, e2]
          congr 2
          omega
        · rw [if_neg c1, List.getElem?_set]
          by_cases c2 : i = k
          · rw [if_pos c2, if_pos h2, if_pos (by omega), List.getElem?_eq_getElem (by rw [List.length_reverse]; omega), List.getElem_reverse, e1]
            congr 2
            omega
          · rw [if_neg c2, hxs k hk]
            by_cases c3 : k < i ∨ p.length ≤ k + i
            · rw [if_pos c3, if_pos (by omega)]
            · rw [if_neg c3, if_neg (by omega)]
      · refine loopO_done ?_
        unfold slices_Reverse_Spans_s0
        simp only
        rw [if_neg (by omega)]
        congr 2
        apply List.ext_getElem?
        intro k
        by_cases hk : k < p.length
        · rw [hxs k hk]
          by_cases c3 : k < i ∨ p.length ≤ k + i
          · rw [if_pos c3]
          · rw [if_neg c3, List.getElem?_reverse hk]
            congr 1
            omega
        · rw [List.getElem?_eq_none (by omega), List.getElem?_eq_none (by rw [List.length_reverse]; omega)]
  have h0 := key p.length 0 p (by omega) rfl (fun k hk => by rw [if_neg (by omega)])
  rw [wi64_of (by omega) (by omega)]
  rw [show (p.length : Int) - 1 - ((0 : Nat) : Int) = (p.length : Int) - 1 by omega] at h0
  rw [show ((0 : Int)) = ((0 : Nat) : Int) from rfl, h0]
  rfl
/-- What is read. -/
def rawM (r : Rd8) : Int × Int × List (List Sp) × Rd8 :=
  let a := numM r 1024
  let b := numM a.2 4
  let c := numM b.2 52
  let d := lvM c.1.toNat c.2 0
  (a.1, b.1, d.1.reverse, d.2)
def takeM (r : Rd8) : Int × Int × List (List Sp) × Rd8 :=
  if (rawM r).2.2.2.2 ≠ 0 then (0, 0, [], (rawM r).2.2.2) else
  if histC (rawM r).1 (rawM r).2.1 (rawM r).2.2.1 ≠ 0 then (0, 0, [], (rawM r).2.2.2.1, 2) else rawM r
theorem rawM_ok {r : Rd8} (hr : RdOk r) : RdOk (rawM r).2.2.2 ∧ (0 ≤ (rawM r).1 ∧ (rawM r).1 ≤ 1024) ∧ (0 ≤ (rawM r).2.1 ∧ (rawM r).2.1 ≤ 4) ∧ (rawM r).2.2.1.length ≤ 52 ∧ ∀ l ∈ (rawM r).2.2.1, l.length ≤ 1025 := by
  have h1 := numM_rd (m := 1024) hr
  have h2 := numM_rd (m := 4) h1
  have h3 := numM_rd (m := 52) h2
  have hn := numM_le h2 (m := 52) (by decide)
  obtain ⟨a1, a2, a3⟩ := lvM_ok (numM (numM (numM r 1024).2 4).2 52).1.toNat h3 (Int.le_refl 0) (by decide)
  refine ⟨a1, numM_le hr (by decide), numM_le h1 (by decide), ?_, fun l hl => a3 l (List.mem_reverse.1 hl)⟩
  show ((lvM _ _ _).1.reverse).length ≤ 52
  rw [List.length_reverse, a2]
  omega
theorem takeM_ok {r : Rd8} (hr : RdOk r) : RdOk (takeM r).2.2.2 := by
  have h := rawM_ok hr
  unfold takeM
  split
  · exact h.1
  · split
    · exact ⟨h.1.1, h.1.2⟩
    · exact h.1
theorem ctake_eq {r : Rd8} (hr : RdOk r) : record_Take r = some (takeM r) := by
  have h1 := numM_rd (m := 1024) hr
  have h2 := numM_rd (m := 4) h1
  have h3 := numM_rd (m := 52) h2
  have n1 := numM_le hr (m := 1024) (by decide)
  have n2 := numM_le h1 (m := 4) (by decide)
  have n3 := numM_le h2 (m := 52) (by decide)
  obtain ⟨k1, k2, k3, k4, k5⟩ := rawM_ok hr
  unfold record_Take codec_Reader_Err codec_Reader_Fail codec_Reader_on
  rw [crnum hr, Option.bind_some, crnum h1, Option.bind_some, crnum h2, Option.bind_some]
  have hl := take_loop (r21 := numM (numM (numM r 1024).2 4).2 52) n3.2 (numM (numM (numM r 1024).2 4).2 52).1.toNat 0 [] (numM (numM (numM r 1024).2 4).2 52).2 0 (by omega) h3 (Int.le_refl 0) (by decide) rfl
  rw [List.nil_append] at hl
  rw [show ((0 : Int), (numM (numM (numM r 1024).2 4).2 52).2.1, (numM (numM (numM r 1024).2 4).2 52).2.2, ([] : List (List Sp)), (0 : Int)) = (((0 : Nat) : Int), (numM (numM (numM r 1024).2 4).2 52).2.1, (numM (numM (numM r 1024).2 4).2 52).2.2, ([] : List (List Sp)), (0 : Int)) from rfl, hl, Option.bind_some]
  simp only
  have k4' : (lvM (numM (numM (numM r 1024).2 4).2 52).1.toNat (numM (numM (numM r 1024).2 4).2 52).2 0).1.length ≤ 52 := by
    have : ((lvM (numM (numM (numM r 1024).2 4).2 52).1.toNat (numM (numM (numM r 1024).2 4).2 52).2 0).1.reverse).length ≤ 52 := k4
    rwa [List.length_reverse] at this
  rw [reverse_eq _ (by omega), Option.bind_some, Option.bind_some]
  rw [wi64_of (x := (numM r 1024).1) (by omega) (by omega), wi64_of (x := (numM (numM r 1024).2 4).1) (by omega) (by omega)]
  have hc := chist_eq (g := (numM (numM r 1024).2 4).1) (K := (numM r 1024).1) (ls := (lvM (numM (numM (numM r 1024).2 4).2 52).1.toNat (numM (numM (numM r 1024).2 4).2 52).2 0).1.reverse) (by rw [List.length_reverse]; omega) (fun l hl => by have := k5 l hl; omega)
  rw [hc]
  show _ = some (takeM r)
  unfold takeM
  have er : rawM r = ((numM r 1024).1, (numM (numM r 1024).2 4).1, (lvM (numM (numM (numM r 1024).2 4).2 52).1.toNat (numM (numM (numM r 1024).2 4).2 52).2 0).1.reverse, (lvM (numM (numM (numM r 1024).2 4).2 52).1.toNat (numM (numM (numM r 1024).2 4).2 52).2 0).2) := rfl
  rw [er]
  simp only
  generalize hE : (lvM (numM (numM (numM r 1024).2 4).2 52).1.toNat (numM (numM (numM r 1024).2 4).2 52).2 0) = E
  by_cases c0 : E.2.2 = 0
  · rw [if_pos c0, if_neg (nn c0), Option.bind_some]
    by_cases c1 : histC (numM r 1024).1 (numM (numM r 1024).2 4).1 E.1.reverse = 0
    · rw [if_neg (nn c1), if_neg (nn c1), Option.bind_some, if_neg (nn c0)]
    · rw [if_pos c1, if_pos c1, Option.bind_some, if_pos c0, Option.bind_some, Option.bind_some, if_pos (by decide), if_neg (nn c0)]
  · rw [if_neg c0, if_pos c0, Option.bind_some, if_pos c0]
end Go.Proofs.Ytbeknohemgjfbaa.Pu
