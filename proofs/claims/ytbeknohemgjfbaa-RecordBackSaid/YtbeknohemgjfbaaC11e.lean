/- Few levels, of few buckets. (Out of the texts of round a.) -/
import Derived.Test.YtbeknohemgjfbaaC11d
namespace Go.Proofs.Ytbeknohemgjfbaa.Pu
set_option linter.unusedVariables false

theorem few_eq {K g : Int} {ls : List (List Sp)} (hl : ls.length ≤ 9223372036854775807) (hll : ∀ l ∈ ls, l.length ≤ 9223372036854775807) : ∃ b, ref09_Few (K, g, ls) = some b ∧ (b = true → ls.length ≤ 60 ∧ ∀ l ∈ ls, l.length ≤ 40) := by
  have := loop_allS (step := ref09_Few_s0 (K, g, ls)) (r0 := .inl ()) (r1 := .inr ()) (fun i => (i : Int)) (min ls.length 61) (fun i => decide ((ls.getD i []).length ≤ 40)) (fun i hi => ?_) ?_
  · have h' : loopO (ref09_Few_s0 (K, g, ls)) (0 : Int) = some (if (List.range (min ls.length 61)).all (fun i => decide ((ls.getD i []).length ≤ 40)) then .inr () else .inl ()) := this
    unfold ref09_Few
    rw [h', Option.bind_some]
    cases hc : (List.range (min ls.length 61)).all (fun i => decide ((ls.getD i []).length ≤ 40)) with
    | false => exact ⟨false, rfl, fun q => by cases q⟩
    | true =>
      refine ⟨decide ((ls.length : Int) ≤ 60), rfl, fun q => ?_⟩
      rw [decide_eq_true_eq] at q
      refine ⟨by omega, fun l hl' => ?_⟩
      obtain ⟨i, hi, rfl⟩ := List.getElem_of_mem hl'
      have := List.all_eq_true.1 hc i (List.mem_range.2 (by omega))
      rw [decide_eq_true_eq, getD_lt hi] at this
      exact this
  · have hi2 : i < ls.length := by omega
    unfold ref09_Few_s0
    simp only
    rw [if_pos (by omega), if_pos (by omega), rdo_get hi2, Option.bind_some, getD_lt hi2, wi64_of (by omega) (by omega)]
    by_cases c : 40 < ls[i].length
    · rw [if_pos (by omega), decide_eq_false (by omega), if_neg (by simp)]
    · rw [if_neg (by omega), decide_eq_true (by omega), if_pos rfl]; rfl
  · unfold ref09_Few_s0
    simp only
    by_cases c : ls.length ≤ 61
    · rw [if_neg (by omega)]
    · rw [if_neg (c := ((min ls.length 61 : Nat) : Int) < 61) (by omega), ite_self]
end Go.Proofs.Ytbeknohemgjfbaa.Pu
