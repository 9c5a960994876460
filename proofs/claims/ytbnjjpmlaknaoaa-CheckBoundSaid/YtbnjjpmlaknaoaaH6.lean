/- The program's level and histogram: they come to what the document's come to. -/
import Derived.Test.YtbnjjpmlaknaoaaH5
namespace Go.Proofs.Ytbnjjpmlaknaoaa.Pu
set_option linter.unusedVariables false

/-! ### The same -/
theorem ssame_eq {a b : List Sp} (ha : a.length ≤ 1099511627776) : slices_Equal_Span a b = some (decide (a = b)) := same5_eq ha
theorem hsame_eq {K K' g g' : Int} {a b : List (List Sp)} (ha : a.length ≤ 1099511627776) (hal : ∀ l ∈ a, l.length ≤ 1099511627776) : hist_Same (K, g, a) (K', g', b) = some (decide (K = K' ∧ g = g' ∧ a = b)) := by
  unfold hist_Same hist_Hist_equal slices_EqualFunc_Spans
  simp only
  by_cases h1 : K = K'
  · rw [if_pos h1]
    by_cases h2 : g = g'
    · rw [if_pos h2]
      by_cases hl : a.length = b.length
      · rw [if_neg (by omega)]
        have h3 : ∀ (i : Nat) (h : i < a.length), slices_EqualFunc_Spans_s0 a b (i : Int) = some (if a[i] = b[i] then .inl ((i + 1 : Nat) : Int) else .inr (.inl ())) := fun i h => by
          unfold slices_EqualFunc_Spans_s0
          rw [if_pos (by omega), rdo_get h, Option.bind_some, rdo_get (by omega), Option.bind_some, ssame_eq (hal _ (List.getElem_mem h)), Option.bind_some, wi64_of (by omega) (by omega)]
          by_cases he : a[i] = b[i]
          · rw [if_neg (by simp [he]), if_pos he]; rfl
          · rw [if_pos (by simp [he]), if_neg he]
        have h4 : slices_EqualFunc_Spans_s0 a b (a.length : Int) = some (.inr (.inr ())) := by
          unfold slices_EqualFunc_Spans_s0
          rw [if_neg (by omega)]
        rw [loop_eq hl h3 h4, Option.bind_some]
        by_cases he : a = b <;> simp [he, h1, h2]
      · rw [if_pos (by omega), decide_eq_false (fun e => hl (congrArg List.length e.2.2))]; rfl
    · rw [if_neg h2, decide_eq_false (fun e => h2 e.2.1)]
  · rw [if_neg h1, decide_eq_false (fun e => h1 e.1)]

/-! ### A level -/
theorem bounded_eq (a b : Int) : level_bounded_uint64 a b = some (max a b) := by
  unfold level_bounded_uint64
  by_cases h : a < b
  · rw [if_pos h]; congr 1; omega
  · rw [if_neg h]; congr 1; omega
theorem boundedi_eq (a b : Int) : level_bounded_int a b = some (max a b) := bounded_eq a b
/-- How many are too many. -/
theorem over_eq {X : List Sp} {m room : Nat} {t : Int} (h : X.length + m < 9223372036854775808) (hr : room < 9223372036854775808) : level_Push_1 (X, (m : Int), t) (room : Int) = some ((X.length + m - room : Nat) : Int) := by
  unfold level_Push_1 level_line_long
  simp only [Option.bind_some]
  rw [bounded_eq, Option.bind_some, wu64_of (x := (X.length : Int)) (by omega) (by omega), wu64_of (x := (X.length : Int) + (m : Int)) (by omega) (by omega), wu64_of (by omega) (by omega)]
  congr 1; omega
theorem next_cons {a : Sp} {X : List Sp} {m t : Int} : level_line_next (a :: X, m, t) = some (a.1, a.2, X, m) := by
  unfold level_line_next
  simp only
  rw [if_pos (by simp only [List.length_cons]; omega)]
  have e : rdo (a :: X) 0 = some a := rdo_get (xs := a :: X) (i := 0) (by simp)
  rw [e, Option.bind_some, must_of (by simp only [List.length_cons]; omega), Option.bind_some]
  rfl
theorem next_nil {m : Nat} {t : Int} (hm : 0 < m) (hm2 : m < 9223372036854775808) : level_line_next ([], (m : Int), t) = some (t, t, [], ((m - 1 : Nat) : Int)) := by
  unfold level_line_next
  simp only
  rw [if_neg (by simp), wu64_of (by omega) (by omega)]
  congr 4; omega
/-- What waits, one by one. -/
theorem stay_loop {t : Int} : ∀ (X : List Sp) (m : Nat) (acc : List Sp), m < 9007199254740993 → X.length + m + acc.length ≤ 1099511627776 → loopO (level_Push_s1) (acc, X, (m : Int), t) = some (acc ++ (X ++ List.replicate m (t, t))) := by
  intro X
  induction X with
  | nil =>
    intro m
    induction m with
    | zero =>
      intro acc _ _
      apply loopO_done
      unfold level_Push_s1 level_line_long
      simp only [Option.bind_some, List.length_nil]
      rw [if_neg (by decide)]; simp
    | succ m ih =>
      intro acc hm hl
      simp only [List.length_nil] at hl
      have hs : level_Push_s1 (acc, [], ((m + 1 : Nat) : Int), t) = some (.inl (acc ++ [(t, t)], [], (m : Int), t)) := by
        unfold level_Push_s1 level_line_long
        simp only [Option.bind_some, List.length_nil]
        rw [if_pos (by rw [wu64_of (x := ((0 : Nat) : Int)) (by omega) (by omega), wu64_of (by omega) (by omega)]; omega), next_nil (by omega) (by omega), Option.bind_some, room_of (by simp; omega) (by simp; omega), Option.bind_some]
        rfl
      rw [loopO_next hs, ih _ (by omega) (by simp; omega), List.append_assoc]; rfl
  | cons a X ih =>
    intro m acc hm hl
    simp only [List.length_cons] at hl
    have hs : level_Push_s1 (acc, a :: X, (m : Int), t) = some (.inl (acc ++ [a], X, (m : Int), t)) := by
      unfold level_Push_s1 level_line_long
      simp only [Option.bind_some, List.length_cons]
      rw [if_pos (by rw [wu64_of (x := ((X.length + 1 : Nat) : Int)) (by omega) (by omega), wu64_of (by omega) (by omega)]; omega), next_cons, Option.bind_some, room_of (by simp; omega) (by simp; omega), Option.bind_some]
    rw [loopO_next hs, ih m _ hm (by simp; omega), List.append_assoc]; rfl
theorem drop_two {α : Type} {l : List α} {j : Nat} (h : 2 * j + 1 < l.length) : l.drop (2 * j) = l[2 * j] :: l[2 * j + 1] :: l.drop (2 * (j + 1)) := by
  rw [show 2 * (j + 1) = 2 * j + 1 + 1 by omega, List.drop_eq_getElem_cons (by omega), List.drop_eq_getElem_cons (by omega)]
theorem push_same {l come : List Sp} {most many : Nat} {t mo : Int} (hmo : max mo 1 = (most : Int)) (hm : 1 ≤ most) (hm2 : most ≤ 1099511627776) (hn : l.length + come.length ≤ 1000000) (hmany : many ≤ 9007199254740992)
    (hst : (stays most (allM l come many t)).length ≤ 1000000) :
    level_Push l mo come (many : Int) t = some (stays most (allM l come many t), (goes most (allM l come many t)).take (outN (l.length + come.length) (npr (l.length + come.length + many) most)),
      ((npr (l.length + come.length + many) most - outN (l.length + come.length) (npr (l.length + come.length + many) most) : Nat) : Int)) := by
  have hA := allM_len l come many t
  obtain ⟨n, hn0⟩ : ∃ n, n = l.length + come.length := ⟨_, rfl⟩
  obtain ⟨p, hp0⟩ : ∃ p, p = npr (n + many) most := ⟨_, rfl⟩
  have hlen : (l ++ come).length = n := by simp [hn0]
  have hpn : 2 * p ≤ n + many := hp0 ▸ npr_le hm
  rw [← hn0] at hn hA ⊢
  rw [← hp0]
  obtain ⟨q, hq0⟩ : ∃ q, q = outN n p := ⟨_, rfl⟩
  rw [← hq0]
  have hq1 : q ≤ p := by rw [hq0]; unfold outN; omega
  have hq2 : q = p ∨ n ≤ 2 * q := by rw [hq0]; unfold outN; omega
  have hq3 : ∀ k, k < q → 2 * k < n := by intro k hk; rw [hq0] at hk; unfold outN at hk; omega
  have hS := stays_len hm (allM l come many t)
  rw [hA, ← hp0] at hS
  have hG := goes_len hm (allM l come many t)
  rw [hA, ← hp0] at hG
  have hpo : ∀ j, j < p ↔ most < n + many - 2 * j := by intro j; rw [hp0]; unfold npr; omega
  obtain ⟨A, hA0⟩ : ∃ A, A = allM l come many t := ⟨_, rfl⟩
  unfold level_Push
  rw [room_of (by simp; omega) (by simp; omega), Option.bind_some, room_of (by omega) (by omega), Option.bind_some, boundedi_eq, Option.bind_some, hmo, wu64_of (by omega) (by omega)]
  have hov : ∀ j, j ≤ q → level_Push_1 ((l ++ come).drop (2 * j), ((many - (2 * j - n) : Nat) : Int), t) (most : Int) = some ((n + many - 2 * j - most : Nat) : Int) := by
    intro j hj
    rw [over_eq (by rw [List.length_drop, hlen]; omega) (by omega), List.length_drop, hlen]
    congr 2
    rcases Nat.lt_or_ge j q with h | h
    · have := hq3 j h; omega
    · omega
  have L1 : loopO level_Push_s0 (([] : List Sp), (most : Int), l ++ come, (many : Int), t) = some ((goes most A).take q, (most : Int), (l ++ come).drop (2 * q), ((many - (2 * q - n) : Nat) : Int), t) := by
    have := loopO_run (step := level_Push_s0) (r := ((goes most A).take q, (most : Int), (l ++ come).drop (2 * q), ((many - (2 * q - n) : Nat) : Int), t)) (fun j => ((goes most A).take j, (most : Int), (l ++ come).drop (2 * j), ((many - (2 * j - n) : Nat) : Int), t)) q (fun j hj => ?_) ?_
    · simpa using this
    · have hjn := hq3 j hj
      have hjp : j < npr A.length most := by rw [hA0, hA, ← hp0]; omega
      have hlG : ((goes most A).take j).length = j := by rw [List.length_take, hA0, hG]; omega
      unfold level_Push_s0 level_both
      simp only
      rw [hov j (by omega), Option.bind_some, if_pos (by have := (hpo j).1 (by omega); omega), if_pos (by rw [List.length_drop, hlen]; omega)]
      by_cases h : 2 * j + 1 < n
      · rw [drop_two (by omega), next_cons, Option.bind_some]
        simp only
        rw [next_cons, Option.bind_some]
        simp only [Option.bind_some]
        rw [room_of (by simp; omega) (by simp; omega), Option.bind_some]
        rw [take_get (goes_get hm hjp (hA0 ▸ allM_lt (by omega)) (hA0 ▸ allM_lt (by omega)))]
        rw [show many - (2 * j - n) = many - (2 * (j + 1) - n) by omega]
      · have e1 : (l ++ come).drop (2 * j) = [(l ++ come)[2 * j]] := by
          rw [List.drop_eq_getElem_cons (by omega), List.drop_of_length_le (by omega)]
        have e2 : (l ++ come).drop (2 * (j + 1)) = [] := List.drop_of_length_le (by omega)
        have hm0 : 0 < many := by have := (hpo j).1 (by omega); omega
        rw [e1, next_cons, Option.bind_some]
        simp only
        rw [show many - (2 * j - n) = many by omega, next_nil hm0 (by omega), Option.bind_some]
        simp only [Option.bind_some]
        rw [room_of (by simp; omega) (by simp; omega), Option.bind_some, e2]
        rw [take_get (goes_get hm hjp (hA0 ▸ allM_lt (by omega)) (hA0 ▸ allM_ge (by omega) (by omega)))]
        rw [show many - 1 = many - (2 * (j + 1) - n) by omega]
    · unfold level_Push_s0
      simp only
      rw [hov q (Nat.le_refl _), Option.bind_some]
      rcases hq2 with h | h
      · have h5 : ¬ most < n + many - 2 * q := fun z => by have := (hpo q).2 z; omega
        rw [if_neg (by omega)]
      · rw [if_neg (c := 0 < (((l ++ come).drop (2 * q)).length : Int)) (by rw [List.length_drop, hlen]; omega), ite_self]
  rw [L1, Option.bind_some]
  simp only
  rw [hov q (Nat.le_refl _), Option.bind_some]
  have ep : (wu64 ((n + many - 2 * q - most : Nat) + 1)).tdiv 2 = ((p - q : Nat) : Int) := by
    rw [wu64_of (by omega) (by omega)]
    have : (((n + many - 2 * q - most : Nat) : Int) + 1) = ((n + many - 2 * q - most + 1 : Nat) : Int) := by omega
    rw [this]
    have := tdiv_n (n + many - 2 * q - most + 1) 2
    rw [show ((2 : Nat) : Int) = 2 from rfl] at this
    rw [this]
    congr 1
    rw [hp0]; unfold npr; omega
  rw [ep, wu64_of (x := ((p - q : Nat) : Int)) (by omega) (by omega), wu64_of (x := 2 * ((p - q : Nat) : Int)) (by omega) (by omega)]
  have hmm : 2 * (p - q) ≤ many - (2 * q - n) := by omega
  rw [wu64_of (by omega) (by omega)]
  have e3 : ((many - (2 * q - n) : Nat) : Int) - 2 * ((p - q : Nat) : Int) = ((many - (2 * q - n) - 2 * (p - q) : Nat) : Int) := by omega
  rw [e3]
  have e4 : (l ++ come).drop (2 * q) ++ List.replicate (many - (2 * q - n) - 2 * (p - q)) (t, t) = stays most A := by
    unfold stays
    rw [hA0, hA, ← hp0, allM]
    have e5 : ((l ++ come) ++ List.replicate many (t, t)).drop (2 * p) = (l ++ come).drop (2 * p) ++ List.replicate (many - (2 * p - n)) (t, t) := by
      rw [List.drop_append (l₁ := l ++ come), List.drop_replicate, hlen]
    rw [e5]
    rcases hq2 with h | h
    · subst h
      congr 2; omega
    · rw [List.drop_of_length_le (by omega), List.drop_of_length_le (by omega)]
      congr 2; omega
  have hS2 : (stays most A).length = ((l ++ come).drop (2 * q)).length + (many - (2 * q - n) - 2 * (p - q)) := by rw [← e4]; simp
  rw [stay_loop _ _ _ (by omega) (by rw [hA0] at hS2; simp only [List.length_nil]; omega), e4, Option.bind_some, List.nil_append]
  simp only [hA0]

theorem most_same {k : Nat} (i : Nat) (hk : k ≤ 1099511627776) : level_Most (k : Int) (i : Int) = some ((mostN k i : Nat) : Int) := by
  unfold level_Most mostN
  have e0 : max (k : Int) 0 = (k : Int) := by omega
  have e1 : (((k : Int) + 1)).tdiv 2 = (((k + 1) / 2 : Nat) : Int) := by have := tdiv_n (k + 1) 2; simpa using this
  rw [e0]
  by_cases hi : i = 0
  · subst hi
    rw [if_pos (by simp), if_pos rfl, wi64_of (by omega) (by omega)]; rfl
  · rw [if_neg (by omega), if_neg hi, wi64_of (x := (k : Int) + 1) (by omega) (by omega), e1, wi64_of (x := (((k + 1) / 2 : Nat) : Int)) (by omega) (by omega), wi64_of (by omega) (by omega)]; rfl
end Go.Proofs.Ytbnjjpmlaknaoaa.Pu
