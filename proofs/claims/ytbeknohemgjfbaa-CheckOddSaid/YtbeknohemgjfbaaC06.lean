/- Two histograms that are the same; weight that comes, reckoned. (Out of the texts of round a.) -/
import Derived.Test.YtbeknohemgjfbaaC09
namespace Go.Proofs.Ytbeknohemgjfbaa.Pu
set_option linter.unusedVariables false

theorem loop_eq {α : Type} [DecidableEq α] {a b : List α} (hl : a.length = b.length) {step : Int → Option (Int ⊕ (Unit ⊕ Unit))} (h1 : ∀ (i : Nat) (h : i < a.length), step (i : Int) = some (if a[i] = b[i] then .inl ((i + 1 : Nat) : Int) else .inr (.inl ())))
    (h2 : step (a.length : Int) = some (.inr (.inr ()))) : loopO step 0 = some (if a = b then .inr () else .inl ()) := by
  have aux : ∀ m i, i + m = a.length → loopO step (i : Int) = some (if a.drop i = b.drop i then .inr () else .inl ()) := by
    intro m
    induction m with
    | zero =>
      intro i hi
      obtain rfl : i = a.length := by omega
      rw [loopO_done h2, if_pos (by rw [List.drop_length, hl, List.drop_length])]
    | succ m ih =>
      intro i hi
      have hia : i < a.length := by omega
      have hib : i < b.length := by omega
      have hs := h1 i hia
      rw [List.drop_eq_getElem_cons hia, List.drop_eq_getElem_cons hib]
      by_cases he : a[i] = b[i]
      · rw [if_pos he] at hs
        rw [loopO_next hs, ih (i + 1) (by omega)]
        simp only [he, List.cons.injEq, true_and]
      · rw [if_neg he] at hs
        rw [loopO_done hs, if_neg (fun q => he (List.cons.inj q).1)]
  have := aux a.length 0 (by omega)
  simpa using this
theorem same5_eq {a b : List Sp} (ha : a.length ≤ 1099511627776) : ref05_Same a b = some (decide (a = b)) := by
  unfold ref05_Same
  by_cases hl : a.length = b.length
  · rw [if_neg (by omega)]
    have h1 : ∀ (i : Nat) (h : i < a.length), ref05_Same_s0 a b (i : Int) = some (if a[i] = b[i] then .inl ((i + 1 : Nat) : Int) else .inr (.inl ())) := fun i h => by
      unfold ref05_Same_s0
      rw [if_pos (by omega), rdo_get h, Option.bind_some, rdo_get (by omega), Option.bind_some, wi64_of (by omega) (by omega)]
      by_cases he : a[i] = b[i]
      · rw [if_neg (by rw [he]; simp), if_pos he]; rfl
      · rw [if_pos (fun q => he (Prod.ext q.1 q.2.1)), if_neg he]
    have h2 : ref05_Same_s0 a b (a.length : Int) = some (.inr (.inr ())) := by
      unfold ref05_Same_s0
      rw [if_neg (by omega)]
    rw [loop_eq hl h1 h2, Option.bind_some]
    by_cases he : a = b <;> simp [he]
  · rw [if_pos (by omega), decide_eq_false (fun e => hl (congrArg List.length e))]
theorem same6_eq {K K' g g' : Int} {a b : List (List Sp)} (ha : a.length ≤ 1099511627776) (hal : ∀ l ∈ a, l.length ≤ 1099511627776) : ref06_Same (K, g, a) (K', g', b) = some (decide (K = K' ∧ g = g' ∧ a = b)) := by
  unfold ref06_Same
  simp only
  by_cases h1 : K = K'
  · rw [if_neg (by simpa using h1)]
    by_cases h2 : g = g'
    · rw [if_neg (by simpa using h2)]
      by_cases hl : a.length = b.length
      · rw [if_neg (by omega)]
        have h3 : ∀ (i : Nat) (h : i < a.length), ref06_Same_s0 (K, g, a) (K', g', b) (i : Int) = some (if a[i] = b[i] then .inl ((i + 1 : Nat) : Int) else .inr (.inl ())) := fun i h => by
          unfold ref06_Same_s0
          simp only
          rw [if_pos (by omega), rdo_get h, Option.bind_some, rdo_get (by omega), Option.bind_some, same5_eq (hal _ (List.getElem_mem h)), Option.bind_some, wi64_of (by omega) (by omega)]
          by_cases he : a[i] = b[i]
          · rw [if_neg (by simp [he]), if_pos he]; rfl
          · rw [if_pos (by simp [he]), if_neg he]
        have h4 : ref06_Same_s0 (K, g, a) (K', g', b) (a.length : Int) = some (.inr (.inr ())) := by
          unfold ref06_Same_s0
          simp only
          rw [if_neg (by omega)]
        rw [loop_eq hl h3 h4, Option.bind_some]
        by_cases he : a = b <;> simp [he, h1, h2]
      · rw [if_pos (by omega), decide_eq_false (fun e => hl (congrArg List.length e.2.2))]
    · rw [if_pos h2, decide_eq_false (fun e => h2 e.2.1)]
  · rw [if_pos h1, decide_eq_false (fun e => h1 e.1)]
def flowF : Nat → Nat → Nat → List (List Sp) → List Sp → Option (List (List Sp))
  | 0, _, _, _, _ => none
  | n + 1, k, i, ls, F => if ls.isEmpty && F.isEmpty then some [] else (flowF n k (i + 1) ls.tail (goes (mostN k i) (ls.headD [] ++ F))).map (stays (mostN k i) (ls.headD [] ++ F) :: ·)
theorem flow_of {n k : Nat} : ∀ {i : Nat} {ls : List (List Sp)} {F : List Sp} {r : List (List Sp)}, flowF n k i ls F = some r → flow k i ls F = r := by
  induction n with
  | zero => intro i ls F r h; cases h
  | succ n ih =>
    intro i ls F r h
    rw [flowF] at h
    by_cases hc : ls = [] ∧ F = []
    · obtain ⟨rfl, rfl⟩ := hc
      simp at h
      rw [flow_nil, ← h]
    · rw [if_neg (by simpa using hc)] at h
      obtain ⟨x, h1, rfl⟩ := Option.map_eq_some_iff.1 h
      rw [flow_step _ _ _ _ hc, ih h1]
theorem ssame_eq {a b : List Sp} (ha : a.length ≤ 1099511627776) : slices_Equal_Span a b = some (decide (a = b)) := same5_eq ha
theorem hsame_eq {K K' g g' : Int} {a b : List (List Sp)} (ha : a.length ≤ 1099511627776) (hal : ∀ l ∈ a, l.length ≤ 1099511627776) : hist_Same (K, g, a) (K', g', b) = some (decide (K = K' ∧ g = g' ∧ a = b)) := by
  unfold hist_Same hist_Hist_equal slices_EqualFunc_Spans
  simp only
  by_cases h1 : K = K'
  · rw [if_pos h1]
    by_cases h2 : g = g'
    · rw [if_pos h2]
      by_cases hl : a.length = b.length
      · rw [if_neg (by omega)]
        have h3 : ∀ (i : Nat) (h : i < a.length), slices_EqualFunc_Spans_s0 a b (i : Int) = some (if a[i] = b[i] then .inl ((i + 1 : Nat) : Int) else .inr (.inl ())) := fun i h => by
          unfold slices_EqualFunc_Spans_s0
          rw [if_pos (by omega), rdo_get h, Option.bind_some, rdo_get (by omega), Option.bind_some, ssame_eq (hal _ (List.getElem_mem h)), Option.bind_some, wi64_of (by omega) (by omega)]
          by_cases he : a[i] = b[i]
          · rw [if_neg (by simp [he]), if_pos he]; rfl
          · rw [if_pos (by simp [he]), if_neg he]
        have h4 : slices_EqualFunc_Spans_s0 a b (a.length : Int) = some (.inr (.inr ())) := by
          unfold slices_EqualFunc_Spans_s0
          rw [if_neg (by omega)]
        rw [loop_eq hl h3 h4, Option.bind_some]
        by_cases he : a = b <;> simp [he, h1, h2]
      · rw [if_pos (by omega), decide_eq_false (fun e => hl (congrArg List.length e.2.2))]; rfl
    · rw [if_neg h2, decide_eq_false (fun e => h2 e.2.1)]
  · rw [if_neg h1, decide_eq_false (fun e => h1 e.1)]
theorem kM_zero : kM 0 = 2 := by decide
end Go.Proofs.Ytbeknohemgjfbaa.Pu
