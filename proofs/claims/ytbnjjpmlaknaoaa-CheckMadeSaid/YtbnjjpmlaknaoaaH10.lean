/- Whether levels of buckets may be a histogram; how many there are; the bound. -/
import Derived.Test.YtbnjjpmlaknaoaaT06b
namespace Go.Proofs.Ytbnjjpmlaknaoaa.Pu
set_option linter.unusedVariables false

/-- A loop that tests, round by round, and stops where a test fails. -/
theorem loop_allS {S R : Type} {step : S → Option (S ⊕ R)} (f : Nat → S) (n : Nat) (p : Nat → Bool) {r0 r1 : R} (h1 : ∀ j, j < n → step (f j) = some (if p j then .inl (f (j + 1)) else .inr r0)) (h2 : step (f n) = some (.inr r1)) :
    loopO step (f 0) = some (if (List.range n).all p then r1 else r0) := by
  have aux : ∀ m j, j + m = n → loopO step (f j) = some (if (List.range' j m).all p then r1 else r0) := by
    intro m
    induction m with
    | zero => intro j hj; obtain rfl : j = n := by omega
              exact loopO_done h2
    | succ m ih =>
      intro j hj
      have hs := h1 j (by omega)
      rw [List.range'_succ, List.all_cons]
      cases hp : p j with
      | true => rw [hp, if_pos rfl] at hs; rw [loopO_next hs, ih (j + 1) (by omega), Bool.true_and]
      | false => rw [hp, if_neg (by simp)] at hs; rw [loopO_done hs, Bool.false_and, if_neg (by simp)]
  rw [List.range_eq_range']
  exact aux n 0 (by omega)

/-! ### Shaped -/
def confB (K g : Int) : Bool := decide (2 ≤ K ∧ K ≤ 1024 ∧ 0 ≤ g ∧ g ≤ 4)
theorem conf_eq (K g : Int) : check_conf K g = some (confB K g) := by
  unfold check_conf confB
  by_cases h1 : 2 ≤ K
  · rw [if_pos h1]
    by_cases h2 : K ≤ 1024
    · rw [if_pos h2]
      by_cases h3 : 0 ≤ g
      · rw [if_pos h3]; simp [h1, h2, h3]
      · rw [if_neg h3]; simp [h1, h2, h3]
    · rw [if_neg h2]; simp [h1, h2]
  · rw [if_neg h1]; simp [h1]
def shP (k : Nat) (ls : List (List Sp)) (i : Nat) : Bool := decide (1 ≤ (ls.getD i []).length ∧ (ls.getD i []).length ≤ mostN k i ∧ (i + 1 < ls.length → mostN k i ≤ (ls.getD i []).length + 1))
def shB (k : Nat) (ls : List (List Sp)) : Bool := (List.range ls.length).all (shP k ls) && decide (ls.length ≤ 52)
theorem getD_lt {α : Type} {l : List α} {i : Nat} {d : α} (h : i < l.length) : l.getD i d = l[i] := by rw [List.getD_eq_getElem?_getD, List.getElem?_eq_getElem h]; rfl
section
variable {k : Nat} {g : Int} {ls : List (List Sp)}
theorem cshaped_eq (hk1 : 1 ≤ k) (hk : k ≤ 1024) (hl : ls.length ≤ 100) (hll : ∀ l ∈ ls, l.length ≤ 2000) : check_shaped ((k : Int), g, ls) = some (shB k ls) := by
  unfold check_shaped shB
  have := loop_allS (step := check_shaped_s0 ((k : Int), g, ls)) (r0 := .inl ()) (r1 := .inr ()) (fun i => (i : Int)) ls.length (shP k ls) (fun i hi => ?_) ?_
  · have h' : loopO (check_shaped_s0 ((k : Int), g, ls)) (0 : Int) = some (if (List.range ls.length).all (shP k ls) then .inr () else .inl ()) := this
    rw [h', Option.bind_some]
    by_cases hc : (List.range ls.length).all (shP k ls) = true
    · rw [if_pos hc, hc]; simp; omega
    · rw [if_neg hc]
      have : (List.range ls.length).all (shP k ls) = false := by simpa using hc
      rw [this]; simp
  · have h1 := mostN_two hk1 i
    have h2 := mostN_le k i
    have h3 := hll _ (List.getElem_mem hi)
    unfold check_shaped_s0 level_Least
    simp only
    rw [if_pos (by omega), rdo_get hi, Option.bind_some, most_same i (by omega), Option.bind_some, wi64_of (x := ((mostN k i : Nat) : Int) - 1) (by omega) (by omega), wi64_of (x := (ls.length : Int) - 1) (by omega) (by omega)]
    have e : shP k ls i = decide (1 ≤ ls[i].length ∧ ls[i].length ≤ mostN k i ∧ (i + 1 < ls.length → mostN k i ≤ ls[i].length + 1)) := by unfold shP; rw [getD_lt hi]
    rw [e, Option.bind_some]
    by_cases hlast : i + 1 = ls.length
    · rw [if_pos (by omega), Option.bind_some]
      by_cases c1 : (ls[i].length : Int) < max 1 1
      · rw [if_pos c1, decide_eq_false (by omega), if_neg (by simp)]
      · rw [if_neg c1, Option.bind_some]
        by_cases c2 : ((mostN k i : Nat) : Int) < (ls[i].length : Int)
        · rw [if_pos c2, decide_eq_false (by omega), if_neg (by simp)]
        · rw [if_neg c2, decide_eq_true (by omega), if_pos rfl, wi64_of (by omega) (by omega)]; rfl
    · rw [if_neg (by omega), Option.bind_some]
      by_cases c1 : (ls[i].length : Int) < max (((mostN k i : Nat) : Int) - 1) 1
      · rw [if_pos c1, decide_eq_false (by omega), if_neg (by simp)]
      · rw [if_neg c1, Option.bind_some]
        by_cases c2 : ((mostN k i : Nat) : Int) < (ls[i].length : Int)
        · rw [if_pos c2, decide_eq_false (by omega), if_neg (by simp)]
        · rw [if_neg c2, decide_eq_true (by omega), if_pos rfl, wi64_of (by omega) (by omega)]; rfl
  · unfold check_shaped_s0
    simp only
    rw [if_neg (by omega)]
theorem rshaped_eq (hk1 : 1 ≤ k) (hk : k ≤ 1024) (hl : ls.length ≤ 100) (hll : ∀ l ∈ ls, l.length ≤ 2000) : ref09_shaped ((k : Int), g, ls) = some (shB k ls) := by
  unfold ref09_shaped shB
  have := loop_allS (step := ref09_shaped_s0 ((k : Int), g, ls)) (r0 := .inl ()) (r1 := .inr ()) (fun i => (i : Int)) ls.length (shP k ls) (fun i hi => ?_) ?_
  · have h' : loopO (ref09_shaped_s0 ((k : Int), g, ls)) (0 : Int) = some (if (List.range ls.length).all (shP k ls) then .inr () else .inl ()) := this
    rw [h', Option.bind_some]
    by_cases hc : (List.range ls.length).all (shP k ls) = true
    · rw [if_pos hc, hc]; simp; omega
    · rw [if_neg hc]
      have : (List.range ls.length).all (shP k ls) = false := by simpa using hc
      rw [this]; simp
  · have h1 := mostN_two hk1 i
    have h2 := mostN_le k i
    have h3 := hll _ (List.getElem_mem hi)
    unfold ref09_shaped_s0
    simp only
    have e : shP k ls i = decide (1 ≤ ls[i].length ∧ ls[i].length ≤ mostN k i ∧ (i + 1 < ls.length → mostN k i ≤ ls[i].length + 1)) := by unfold shP; rw [getD_lt hi]
    rw [e, if_pos (by omega), rdo_get hi, Option.bind_some, wi64_of (x := (ls.length : Int) - 1) (by omega) (by omega), wi64_of (x := (i : Int) + 1) (by omega) (by omega)]
    by_cases c1 : (ls[i].length : Int) < 1
    · rw [if_pos c1, decide_eq_false (by omega), if_neg (by simp)]
    · rw [if_neg c1, most_eq i (by omega), Option.bind_some]
      by_cases c2 : ((mostN k i : Nat) : Int) < (ls[i].length : Int)
      · rw [if_pos c2, decide_eq_false (by omega), if_neg (by simp)]
      · rw [if_neg c2]
        by_cases hlast : i + 1 = ls.length
        · rw [if_neg (by omega), decide_eq_true (by omega), if_pos rfl]; rfl
        · rw [if_pos (by omega), least_eq i (by omega), Option.bind_some]
          by_cases c3 : (ls[i].length : Int) < ((mostN k i - 1 : Nat) : Int)
          · rw [if_pos c3, decide_eq_false (by omega), if_neg (by simp)]
          · rw [if_neg c3, decide_eq_true (by omega), if_pos rfl]; rfl
  · unfold ref09_shaped_s0
    simp only
    rw [if_neg (by omega)]

/-! ### In turn -/
def goodB (u : Bool) (x : Int) (s : Sp) : Bool := if s.2 < s.1 then false else if s.1 < x then false else if 9223372036854775807 < s.2 then false else if u = true then decide (s.1 = s.2) else true
def levOk (u : Bool) (x : Int) (l : List Sp) : Bool := (List.range l.length).all fun j => goodB u (ahd x l j) (l.getD j (0, 0))
/-- The tick behind the levels from the last one down. -/
def topA (ls : List (List Sp)) : Nat → Int
  | 0 => 0
  | m + 1 => ahd (topA ls m) (ls.getD (ls.length - 1 - m) []) (ls.getD (ls.length - 1 - m) []).length
def turnP (ls : List (List Sp)) (m : Nat) : Bool := levOk (decide (ls.length - 1 - m = 0)) (topA ls m) (ls.getD (ls.length - 1 - m) [])
def turnB (ls : List (List Sp)) : Bool := (List.range ls.length).all (turnP ls)
theorem step_eq (x : Int) (ok u : Bool) (s : Sp) : check_walk_step (x, ok) s u = some (ok && goodB u x s) := by
  unfold check_walk_step goodB
  simp only
  by_cases c1 : s.2 < s.1
  · rw [if_pos c1, Option.bind_some, if_pos c1]; cases ok <;> rfl
  · rw [if_neg c1, if_neg c1]
    by_cases c2 : s.1 < x
    · rw [if_pos c2, Option.bind_some, if_pos c2]; cases ok <;> rfl
    · rw [if_neg c2, if_neg c2]
      by_cases c3 : 9223372036854775807 < s.2
      · rw [if_pos c3, Option.bind_some, if_pos c3]; cases ok <;> rfl
      · rw [if_neg c3, if_neg c3]
        cases u with
        | true =>
          rw [if_pos rfl, Option.bind_some, if_pos rfl]
          by_cases c4 : s.1 = s.2 <;> cases ok <;> simp [c4]
        | false =>
          simp only [Bool.false_eq_true, if_false, Option.bind_some]
          cases ok <;> simp
theorem all_range_succ (p : Nat → Bool) (n : Nat) : (List.range (n + 1)).all p = ((List.range n).all p && p n) := by rw [List.range_succ, List.all_append]; simp
theorem clevel {l : List Sp} (hl : l.length ≤ 2000) (i : Nat) (x : Int) (ok : Bool) : loopO (check_turned_s1 ((i : Int), x, ok) l) ((0 : Int), x, ok) = some (ahd x l l.length, ok && levOk (decide (i = 0)) x l) := by
  have := loopO_run (step := check_turned_s1 ((i : Int), x, ok) l) (r := (ahd x l l.length, ok && levOk (decide (i = 0)) x l)) (fun j => ((j : Int), ahd x l j, ok && (List.range j).all fun m => goodB (decide (i = 0)) (ahd x l m) (l.getD m (0, 0)))) l.length (fun j hj => ?_) ?_
  · simpa [ahd] using this
  · unfold check_turned_s1
    simp only
    have e0 : decide ((i : Int) = 0) = decide (i = 0) := decide_eq_decide.2 (by omega)
    rw [if_pos (by omega), rdo_get hj, Option.bind_some, e0, step_eq, Option.bind_some, wi64_of (by omega) (by omega), ahd_succ hj, all_range_succ, getD_lt hj, Bool.and_assoc]
    rfl
  · unfold check_turned_s1
    simp only
    rw [if_neg (by omega)]; rfl
theorem cturned_eq {K : Int} (hl : ls.length ≤ 100) (hll : ∀ l ∈ ls, l.length ≤ 2000) : check_turned (K, g, ls) = some (turnB ls) := by
  unfold check_turned
  simp only
  have e0 : wi64 ((ls.length : Int) - 1) = (ls.length : Int) - 1 := wi64_of (by omega) (by omega)
  have := loopO_run (step := check_turned_s0 (K, g, ls)) (r := (topA ls ls.length, turnB ls)) (fun m => ((ls.length : Int) - 1 - (m : Int), topA ls m, (List.range m).all (turnP ls))) ls.length (fun m hm => ?_) ?_
  · have h' : loopO (check_turned_s0 (K, g, ls)) ((ls.length : Int) - 1, (0 : Int), true) = some (topA ls ls.length, turnB ls) := by simpa [topA] using this
    rw [e0, h', Option.bind_some]
  · have hi : ls.length - 1 - m < ls.length := by omega
    unfold check_turned_s0
    simp only
    have ei : (ls.length : Int) - 1 - (m : Int) = ((ls.length - 1 - m : Nat) : Int) := by omega
    rw [ei, if_pos (by omega), rdo_get hi, Option.bind_some, clevel (hll _ (List.getElem_mem hi)), Option.bind_some, wi64_of (by omega) (by omega), all_range_succ]
    refine congrArg some (congrArg Sum.inl (Prod.ext ?_ (Prod.ext ?_ ?_)))
    · simp only; omega
    · simp only [topA]; rw [getD_lt hi]
    · simp only [turnP]; rw [getD_lt hi]
  · unfold check_turned_s0
    simp only
    rw [if_neg (by omega)]; rfl
theorem rlevel {K : Int} {i : Nat} (hi : i < ls.length) (hl : ls[i].length ≤ 2000) (x : Int) : loopO (ref09_turned_s1 (K, g, ls) (x, (i : Int))) (x, (0 : Int)) = some (if levOk (decide (i = 0)) x ls[i] then .inr (ahd x ls[i] ls[i].length) else .inl ()) := by
  have := loop_allS (step := ref09_turned_s1 (K, g, ls) (x, (i : Int))) (r0 := .inl ()) (r1 := .inr (ahd x ls[i] ls[i].length)) (fun j => (ahd x ls[i] j, (j : Int))) ls[i].length (fun j => goodB (decide (i = 0)) (ahd x ls[i] j) (ls[i].getD j (0, 0))) (fun j hj => ?_) ?_
  · exact this
  · unfold ref09_turned_s1
    simp only
    rw [rdo_get hi, Option.bind_some, if_pos (by omega), rdo_get hj, Option.bind_some, getD_lt hj, ahd_succ hj, wi64_of (by omega) (by omega)]
    unfold goodB
    by_cases c1 : ls[i][j].2 < ls[i][j].1
    · rw [if_pos c1, if_pos c1, if_neg (by simp)]
    · rw [if_neg c1, if_neg c1]
      by_cases c2 : ls[i][j].1 < ahd x ls[i] j
      · rw [if_pos c2, if_pos c2, if_neg (by simp)]
      · rw [if_neg c2, if_neg c2]
        by_cases c3 : 9223372036854775807 < ls[i][j].2
        · rw [if_pos c3, if_pos c3, if_neg (by simp)]
        · rw [if_neg c3, if_neg c3]
          by_cases c4 : i = 0
          · rw [if_pos (by omega), if_pos (decide_eq_true c4)]
            by_cases c5 : ls[i][j].1 = ls[i][j].2
            · rw [if_neg (by simpa using c5), decide_eq_true c5, if_pos rfl]; rfl
            · rw [if_pos c5, decide_eq_false c5, if_neg (by simp)]
          · rw [if_neg (by omega), decide_eq_false c4]
            simp only [Bool.false_eq_true, if_false, if_true]
            rfl
  · unfold ref09_turned_s1
    simp only
    rw [rdo_get hi, Option.bind_some, if_neg (by omega)]
theorem rturned_eq {K : Int} (hl : ls.length ≤ 100) (hll : ∀ l ∈ ls, l.length ≤ 2000) : ref09_turned (K, g, ls) = some (turnB ls) := by
  unfold ref09_turned
  simp only
  have e0 : wi64 ((ls.length : Int) - 1) = (ls.length : Int) - 1 := wi64_of (by omega) (by omega)
  have := loop_allS (step := ref09_turned_s0 (K, g, ls)) (r0 := .inl ()) (r1 := .inr ()) (fun m => (topA ls m, (ls.length : Int) - 1 - (m : Int))) ls.length (turnP ls) (fun m hm => ?_) ?_
  · have h' : loopO (ref09_turned_s0 (K, g, ls)) ((0 : Int), (ls.length : Int) - 1) = some (if (List.range ls.length).all (turnP ls) then .inr () else .inl ()) := by simpa [topA] using this
    rw [e0, h', Option.bind_some]
    unfold turnB
    cases (List.range ls.length).all (turnP ls) <;> rfl
  · have hi : ls.length - 1 - m < ls.length := by omega
    unfold ref09_turned_s0
    simp only
    have ei : (ls.length : Int) - 1 - (m : Int) = ((ls.length - 1 - m : Nat) : Int) := by omega
    rw [ei, if_pos (by omega), rlevel hi (hll _ (List.getElem_mem hi)), Option.bind_some]
    have ep : turnP ls m = levOk (decide (ls.length - 1 - m = 0)) (topA ls m) ls[ls.length - 1 - m] := by unfold turnP; rw [getD_lt hi]
    rw [ep]
    cases hq : levOk (decide (ls.length - 1 - m = 0)) (topA ls m) ls[ls.length - 1 - m] with
    | true =>
      rw [if_pos rfl, if_pos rfl]
      simp only [Sum.elim_inr]
      rw [wi64_of (by omega) (by omega)]
      refine congrArg some (congrArg Sum.inl (Prod.ext ?_ ?_))
      · simp only [topA]; rw [getD_lt hi]
      · simp only; omega
    | false => rw [if_neg (by simp), if_neg (by simp)]; rfl
  · unfold ref09_turned_s0
    simp only
    rw [if_neg (by omega)]

/-! ### All of it -/
theorem wt_lt {B : Nat} (h : ∀ l ∈ ls, l.length ≤ B) : wt ls + B ≤ B * 2 ^ ls.length := by
  induction ls with
  | nil => simp [wt]
  | cons l ls ih =>
    have h1 := ih (fun m hm => h m (List.mem_cons_of_mem _ hm))
    have h2 := h l List.mem_cons_self
    rw [wt, List.length_cons, Nat.pow_succ, ← Nat.mul_assoc]
    omega
def histC (K g : Int) (ls : List (List Sp)) : Int :=
  if ¬ confB K g = true then 9 else if ¬ shB K.toNat ls = true then 2 else if ¬ turnB ls = true then 2 else if ¬ wt ls ≤ 4503599627370496 then 2 else 0
theorem shB_len {n : Nat} (h : shB n ls = true) : ls.length ≤ 52 := by
  unfold shB at h
  simp only [Bool.and_eq_true, decide_eq_true_eq] at h
  exact h.2
theorem wt_small (hll : ∀ l ∈ ls, l.length ≤ 2000) (hl : ls.length ≤ 52) : wt ls < 18446744073709551616 := by
  have h1 := wt_lt hll
  have h2 : 2 ^ ls.length ≤ 2 ^ 52 := Nat.pow_le_pow_right (by decide) hl
  have h3 : 2000 * 2 ^ ls.length ≤ 2000 * 2 ^ 52 := Nat.mul_le_mul_left _ h2
  omega
theorem chist_eq {K : Int} (hl : ls.length ≤ 100) (hll : ∀ l ∈ ls, l.length ≤ 2000) : check_Hist (K, g, ls) = some (histC K g ls) := by
  unfold check_Hist histC check_light
  simp only
  rw [conf_eq, Option.bind_some]
  cases hc : confB K g with
  | false => rw [if_pos (by simp), if_pos (by simp)]
  | true =>
    rw [if_neg (by simp), if_neg (by simp)]
    unfold confB at hc
    rw [decide_eq_true_eq] at hc
    obtain ⟨k, rfl⟩ : ∃ k : Nat, K = (k : Int) := ⟨K.toNat, by omega⟩
    rw [cshaped_eq (by omega) (by omega) hl hll, Option.bind_some, Int.toNat_natCast]
    cases hs : shB k ls with
    | false => rw [if_pos (by simp), if_pos (by simp)]
    | true =>
      rw [if_neg (by simp), if_neg (by simp), cturned_eq hl hll, Option.bind_some]
      cases ht : turnB ls with
      | false => rw [if_pos (by simp), if_pos (by simp)]
      | true =>
        have hn := shB_len hs
        rw [if_neg (by simp), if_neg (by simp), htotal_eq (by omega) (wt_small hll hn) (fun l hl' => by have := hll l hl'; omega), Option.bind_some, Option.bind_some]
        by_cases hw : wt ls ≤ 4503599627370496
        · rw [decide_eq_true (by omega), if_neg (by simp), if_neg (by simpa using hw)]
        · rw [decide_eq_false (by omega), if_pos (by simp), if_pos hw]
theorem rhist_eq {K : Int} (hl : ls.length ≤ 100) (hll : ∀ l ∈ ls, l.length ≤ 2000) : ref09_Hist (K, g, ls) = some (histC K g ls) := by
  unfold ref09_Hist histC ref06_May
  simp only
  have hm : (if 2 ≤ K then (some (decide (K ≤ 1024))) else (some false) : Option Bool) = some (decide (2 ≤ K ∧ K ≤ 1024)) := by
    by_cases h : 2 ≤ K <;> simp [h]
  rw [hm, Option.bind_some]
  by_cases h1 : 2 ≤ K ∧ K ≤ 1024
  · rw [decide_eq_true h1, if_neg (by simp)]
    by_cases h2 : g < 0
    · rw [if_pos h2, if_pos (by unfold confB; simp; omega)]
    · rw [if_neg h2]
      by_cases h3 : 4 < g
      · rw [if_pos h3, if_pos (by unfold confB; simp; omega)]
      · rw [if_neg h3, if_neg (c := ¬ confB K g = true) (by unfold confB; simp; omega)]
        obtain ⟨k, rfl⟩ : ∃ k : Nat, K = (k : Int) := ⟨K.toNat, by omega⟩
        rw [rshaped_eq (by omega) (by omega) hl hll, Option.bind_some, Int.toNat_natCast]
        cases hs : shB k ls with
        | false => rw [if_pos (by simp), if_pos (by simp)]
        | true =>
          rw [if_neg (by simp), if_neg (by simp), rturned_eq hl hll, Option.bind_some]
          cases ht : turnB ls with
          | false => rw [if_pos (by simp), if_pos (by simp)]
          | true =>
            have hn := shB_len hs
            rw [if_neg (by simp), if_neg (by simp), total_eq (by omega) (wt_small hll hn) (fun l hl' => by have := hll l hl'; omega), Option.bind_some]
            by_cases hw : wt ls ≤ 4503599627370496
            · rw [if_neg (by omega), if_neg (by simpa using hw)]
            · rw [if_pos (by omega), if_pos hw]
  · rw [decide_eq_false h1, if_pos (by simp), if_pos (by unfold confB; simp; omega)]

/-! ### Buckets -/
def cnt : List (List Sp) → Nat
  | [] => 0
  | l :: ls => l.length + cnt ls
theorem cnt_append (a b : List (List Sp)) : cnt (a ++ b) = cnt a + cnt b := by
  induction a with
  | nil => simp [cnt]
  | cons l a ih => rw [List.cons_append, cnt, cnt, ih]; omega
theorem cnt_le {B : Nat} (h : ∀ l ∈ ls, l.length ≤ B) : cnt ls ≤ ls.length * B := by
  induction ls with
  | nil => simp [cnt]
  | cons l ls ih =>
    have h1 := ih (fun m hm => h m (List.mem_cons_of_mem _ hm))
    have h2 := h l List.mem_cons_self
    rw [cnt, List.length_cons, Nat.add_mul]
    omega
theorem buckets_eq {K : Int} (hl : ls.length ≤ 100) (hll : ∀ l ∈ ls, l.length ≤ 2000) : check_Buckets (K, g, ls) = some (cnt ls : Int) := by
  unfold check_Buckets
  have := loopO_run (step := check_Buckets_s0 (K, g, ls)) (r := (cnt ls : Int)) (fun i => ((cnt (ls.take i) : Int), (i : Int))) ls.length (fun i hi => ?_) ?_
  · have h' : loopO (check_Buckets_s0 (K, g, ls)) ((0 : Int), (0 : Int)) = some (cnt ls : Int) := by simpa [cnt] using this
    rw [h', Option.bind_some]
  · have h1 := hll _ (List.getElem_mem hi)
    have h2 := cnt_le (ls := ls.take i) (B := 2000) (fun l hl' => hll l (List.mem_of_mem_take hl'))
    rw [List.length_take] at h2
    have h3 : min i ls.length * 2000 ≤ 100 * 2000 := Nat.mul_le_mul_right _ (by omega)
    unfold check_Buckets_s0
    simp only
    rw [if_pos (by omega), rdo_get hi, Option.bind_some, wi64_of (by omega) (by omega), wi64_of (by omega) (by omega), take_get (List.getElem?_eq_getElem hi), cnt_append]
    refine congrArg some (congrArg Sum.inl (Prod.ext ?_ ?_))
    · simp only [cnt]; omega
    · simp only; omega
  · unfold check_Buckets_s0
    simp only
    rw [if_neg (by omega), List.take_length]
theorem rbuckets_eq {K : Int} (hl : ls.length ≤ 100) (hll : ∀ l ∈ ls, l.length ≤ 2000) : ref09_Buckets (K, g, ls) = some (cnt ls : Int) := buckets_eq hl hll
end

/-! ### Binary digits -/
def dg (n : Nat) : Nat := if h : n = 0 then 0 else 1 + dg (n / 2)
  termination_by n
  decreasing_by omega
theorem dg_zero : dg 0 = 0 := by rw [dg]; rfl
theorem dg_pos {n : Nat} (h : n ≠ 0) : dg n = 1 + dg (n / 2) := by rw [dg, dif_neg h]
def dgf : Nat → Nat → Nat
  | 0, _ => 0
  | f + 1, n => if n = 0 then 0 else 1 + dgf f (n / 2)
theorem dg_f : ∀ (f n : Nat), n < 2 ^ f → dg n = dgf f n := by
  intro f
  induction f with
  | zero => intro n h; have : n = 0 := by simpa using h
            rw [this, dg_zero]; rfl
  | succ f ih =>
    intro n h
    by_cases h0 : n = 0
    · rw [h0, dg_zero]; rfl
    · rw [dg_pos h0, ih _ (by rw [Nat.pow_succ] at h; omega), dgf, if_neg h0]
theorem dg_shift : ∀ (m n : Nat), 2 ^ m ≤ n → dg n = m + dg (n / 2 ^ m) := by
  intro m
  induction m with
  | zero => intro n _; simp
  | succ m ih =>
    intro n h
    rw [Nat.pow_succ] at h
    have hp : 0 < 2 ^ m := Nat.two_pow_pos m
    rw [dg_pos (by omega), ih (n / 2) (by omega), Nat.pow_succ, Nat.mul_comm (2 ^ m) 2, ← Nat.div_div_eq_div_mul]
    omega
theorem dg_le : ∀ (f n : Nat), n < 2 ^ f → dg n ≤ f := by
  intro f
  induction f with
  | zero => intro n h; have : n = 0 := by simpa using h
            rw [this, dg_zero]; exact Nat.le_refl _
  | succ f ih =>
    intro n h
    by_cases h0 : n = 0
    · rw [h0, dg_zero]; exact Nat.zero_le _
    · have := ih (n / 2) (by rw [Nat.pow_succ] at h; omega)
      rw [dg_pos h0]; omega
theorem dg_mono : ∀ (n m : Nat), n ≤ m → dg n ≤ dg m := by
  intro n
  induction n using Nat.strongRecOn with
  | _ n ih =>
    intro m h
    by_cases h0 : n = 0
    · rw [h0, dg_zero]; exact Nat.zero_le _
    · rw [dg_pos h0, dg_pos (n := m) (by omega)]
      have := ih (n / 2) (by omega) (m / 2) (by omega)
      omega
theorem dg_ge {n m : Nat} (h : 2 ^ m ≤ n) : m + 1 ≤ dg n := by
  have hp : 0 < 2 ^ m := Nat.two_pow_pos m
  rw [dg_shift m n h, dg_pos (by have := Nat.div_pos h hp; omega)]
  omega
theorem digits_fuel : ∀ (f n : Nat), n < 2 ^ f → n < 18446744073709551616 → f ≤ 999 → itR ref09_digits_F (f + 1) (n : Int) = some (dg n : Int) := by
  intro f
  induction f with
  | zero => intro n h _ _; have : n = 0 := by simpa using h
            subst this; rw [dg_zero]; rfl
  | succ f ih =>
    intro n h h64 hf
    rw [itR, ref09_digits_F]
    by_cases h0 : n = 0
    · subst h0; rw [dg_zero]; rfl
    · have e : ((n : Int)).tdiv 2 = ((n / 2 : Nat) : Int) := tdiv_n n 2
      have hlt : n / 2 < 2 ^ f := by rw [Nat.pow_succ] at h; omega
      have hd := dg_le f (n / 2) hlt
      rw [if_neg (by omega), e, wu64_of (by omega) (by omega), ih (n / 2) hlt (by omega) (by omega), Option.bind_some, wi64_of (by omega) (by omega), dg_pos h0]
      rfl
set_option exponentiation.threshold 1000 in
theorem digits_eq {n : Nat} (h : n < 18446744073709551616) : ref09_digits (n : Int) = some (dg n : Int) := by
  unfold ref09_digits
  have h2 : (2 : Nat) ^ 64 ≤ 2 ^ 999 := Nat.pow_le_pow_right (by decide) (by decide)
  exact digits_fuel 999 n (by omega) h (Nat.le_refl _)
theorem tab_all : ∀ x : Fin 256, rdb bs0 (x.val : Int) = some ((dgf 8 x.val : Nat) : Int) := by decide +kernel
theorem tab {x : Nat} (h : x < 256) : rdb bs0 (x : Int) = some (dg x : Int) := by
  rw [dg_f 8 x h]
  exact tab_all ⟨x, h⟩
theorem shrk_n (n b : Nat) (h : b ≤ 64) : shrk 64 (n : Int) (b : Int) = ((n / 2 ^ b : Nat) : Int) := by
  unfold shrk
  rw [Int.toNat_natCast, Nat.min_eq_left h, Int.fdiv_eq_ediv_of_nonneg _ (by exact Int.le_of_lt (Int.pow_pos (by decide)))]
  simp
theorem len64_eq {n : Nat} (h : n < 18446744073709551616) : bits_Len64 (n : Int) = some (dg n : Int) := by
  have hd := dg_le 64 n h
  unfold bits_Len64
  obtain ⟨a, b, ha, hb, hab, e3⟩ : ∃ a b : Nat, a < 4294967296 ∧ (b = 0 ∨ b = 32) ∧ dg n = b + dg a ∧ (if 4294967296 ≤ (n : Int) then (some ((shrk 64 (n : Int) 32, (32 : Int)))) else (some (((n : Int), (0 : Int)))) : Option (Int × Int)) = some ((a : Int), (b : Int)) := by
    by_cases c : 4294967296 ≤ n
    · refine ⟨n / 2 ^ 32, 32, by omega, .inr rfl, dg_shift 32 n (by omega), ?_⟩
      rw [if_pos (by omega)]
      have := shrk_n n 32 (by decide)
      rw [show ((32 : Nat) : Int) = 32 from rfl] at this
      rw [this]; rfl
    · exact ⟨n, 0, by omega, .inl rfl, by omega, by rw [if_neg (by omega)]; rfl⟩
  rw [e3, Option.bind_some]
  simp only
  obtain ⟨a', b', ha', hb', hab', e4⟩ : ∃ a' b' : Nat, a' < 65536 ∧ b' ≤ 48 ∧ dg n = b' + dg a' ∧ (if 65536 ≤ (a : Int) then (some ((shrk 64 (a : Int) 16, wi64 ((b : Int) + 16)))) else (some (((a : Int), (b : Int)))) : Option (Int × Int)) = some ((a' : Int), (b' : Int)) := by
    by_cases c : 65536 ≤ a
    · refine ⟨a / 2 ^ 16, b + 16, by omega, by omega, by have := dg_shift 16 a (by omega); omega, ?_⟩
      rw [if_pos (by omega)]
      have := shrk_n a 16 (by decide)
      rw [show ((16 : Nat) : Int) = 16 from rfl] at this
      rw [this, wi64_of (by omega) (by omega)]; rfl
    · exact ⟨a, b, by omega, by omega, hab, by rw [if_neg (by omega)]⟩
  rw [e4, Option.bind_some]
  simp only
  by_cases c : 256 ≤ a'
  · have e8 := shrk_n a' 8 (by decide)
    rw [show ((8 : Nat) : Int) = 8 from rfl] at e8
    have h8 := dg_shift 8 a' (by omega)
    have hlt : a' / 2 ^ 8 < 256 := by omega
    rw [if_pos (by omega), e8, wu8_of (by omega) (by omega), tab hlt, Option.bind_some, wi64_of (x := (b' : Int) + 8) (by omega) (by omega), wi64_of (x := ((dg (a' / 2 ^ 8) : Nat) : Int)) (by omega) (by omega), wi64_of (by omega) (by omega)]
    congr 1; omega
  · rw [if_neg (by omega), wu8_of (by omega) (by omega), tab (by omega), Option.bind_some, wi64_of (x := ((dg a' : Nat) : Int)) (by omega) (by omega), wi64_of (by omega) (by omega)]
    congr 1; omega
/-- How many buckets there are at most. -/
def boundC (K g : Int) (n : Nat) : Int := if n = 0 then 0 else if ¬ confB K g = true then 0 else (K + 1) * ((dg n : Int) + g)
theorem confB_spec {K g : Int} : confB K g = true ↔ 2 ≤ K ∧ K ≤ 1024 ∧ 0 ≤ g ∧ g ≤ 4 := by unfold confB; rw [decide_eq_true_eq]
theorem bound_small {K g : Int} {n : Nat} (h : n < 18446744073709551616) (hc : confB K g = true) : 0 ≤ (K + 1) * ((dg n : Int) + g) ∧ (K + 1) * ((dg n : Int) + g) ≤ 1025 * 68 := by
  obtain ⟨h1, h2, h3, h4⟩ := confB_spec.1 hc
  have hd := dg_le 64 n h
  exact ⟨Int.mul_nonneg (by omega) (by omega), Int.mul_le_mul (by omega) (by omega) (by omega) (by omega)⟩
theorem cbound_eq {K g : Int} {n : Nat} (h : n < 18446744073709551616) : check_Bound K g (n : Int) = some (boundC K g n) := by
  unfold check_Bound boundC
  by_cases h0 : n = 0
  · rw [if_pos (by omega), if_pos h0]
  · rw [if_neg (by omega), if_neg h0, conf_eq, Option.bind_some]
    cases hc : confB K g with
    | false => rw [if_pos (by simp), if_pos (by simp)]
    | true =>
      have hb := bound_small h hc
      obtain ⟨h1, h2, h3, h4⟩ := confB_spec.1 hc
      have hd := dg_le 64 n h
      rw [if_neg (by simp), if_neg (by simp), len64_eq h, Option.bind_some, wi64_of (x := K + 1) (by omega) (by omega), wi64_of (x := (dg n : Int) + g) (by omega) (by omega), wi64_of (by omega) (by omega)]
theorem rbound_eq {K g : Int} {n : Nat} (h : n < 18446744073709551616) : ref09_Bound K g (n : Int) = some (boundC K g n) := by
  unfold ref09_Bound boundC ref06_May
  have hm : (if 2 ≤ K then (some (decide (K ≤ 1024))) else (some false) : Option Bool) = some (decide (2 ≤ K ∧ K ≤ 1024)) := by
    by_cases h : 2 ≤ K <;> simp [h]
  by_cases h0 : n = 0
  · rw [if_pos (by omega), if_pos h0]
  · rw [if_neg (by omega), if_neg h0, hm, Option.bind_some]
    by_cases h1 : 2 ≤ K ∧ K ≤ 1024
    · rw [decide_eq_true h1, if_neg (by simp)]
      by_cases h2 : g < 0
      · rw [if_pos h2, if_pos (fun q => by have := confB_spec.1 q; omega)]
      · rw [if_neg h2]
        by_cases h3 : 4 < g
        · rw [if_pos h3, if_pos (fun q => by have := confB_spec.1 q; omega)]
        · have hc : confB K g = true := confB_spec.2 (by omega)
          have hb := bound_small h hc
          have hd := dg_le 64 n h
          rw [if_neg h3, if_neg (c := ¬ confB K g = true) (by simp [hc]), digits_eq h, Option.bind_some, wi64_of (x := K + 1) (by omega) (by omega), wi64_of (x := (dg n : Int) + g) (by omega) (by omega), wi64_of (by omega) (by omega)]
    · rw [decide_eq_false h1, if_pos (by simp), if_pos (fun q => by have := confB_spec.1 q; omega)]

/-! ### One that was made may be -/
theorem good_shaped {k : Nat} {ls : List (List Sp)} {t : Int} (h : Good k ls t) : shB k ls = true := by
  unfold shB
  rw [Bool.and_eq_true, decide_eq_true_eq, List.all_eq_true]
  refine ⟨fun i hi => ?_, h.levels⟩
  have hi' := List.mem_range.1 hi
  obtain ⟨s1, s2, s3⟩ := shape_get h.shape i hi'
  rw [Nat.zero_add] at s2 s3
  unfold shP
  rw [getD_lt hi', decide_eq_true_eq]
  exact ⟨s1, s2, s3⟩
theorem topA_le {k : Nat} {ls : List (List Sp)} {t : Int} (h : Good k ls t) : ∀ m, m ≤ ls.length → ∀ j (hj : j < ls.length), j + m < ls.length → ∀ a ∈ ls[j], topA ls m ≤ a.1 := by
  intro m
  cases m with
  | zero => intro _ j hj _ a ha; exact (h.pos _ (List.getElem_mem hj) a ha).1
  | succ m =>
    intro hm j hj hjm a ha
    have hi : ls.length - 1 - m < ls.length := by omega
    have hne := shape_ne h.shape _ (List.getElem_mem hi)
    rw [topA, getD_lt hi]
    rcases ahd_end (x := topA ls m) (l := ls[ls.length - 1 - m]) with ⟨q, _⟩ | ⟨b, hb, hq⟩
    · exact absurd q hne
    · rw [hq]; exact turn_levels h.turn (by omega) hi b hb a ha
theorem good_turned {k : Nat} {ls : List (List Sp)} {t : Int} (h : Good k ls t) (hu : Units ls) (ht : t ≤ 9223372036854775807) : turnB ls = true := by
  unfold turnB
  rw [List.all_eq_true]
  intro m hm
  have hm' := List.mem_range.1 hm
  have hi : ls.length - 1 - m < ls.length := by omega
  unfold turnP levOk
  rw [getD_lt hi, List.all_eq_true]
  intro j hj
  have hj' := List.mem_range.1 hj
  have hin := turn_level h.turn _ (List.getElem_mem hi)
  rw [getD_lt hj']
  unfold goodB
  have h1 := ahd_le hin (topA_le h m (by omega) _ hi (by omega)) hj'
  have h2 := hin.2 _ (List.getElem_mem hj')
  have h3 := (h.pos _ (List.getElem_mem hi) _ (List.getElem_mem hj')).2
  rw [if_neg (by omega), if_neg (by omega), if_neg (by omega)]
  split
  · rename_i q
    rw [decide_eq_true_eq] at q ⊢
    refine hu ls[ls.length - 1 - m] ?_ _ (List.getElem_mem hj')
    rw [← List.getElem?_eq_getElem hi, q]
  · rfl
theorem good_may {k : Nat} {ls : List (List Sp)} {t : Int} (hk2 : 2 ≤ k) (hk : k ≤ 1024) (h : Good k ls t) (hu : Units ls) (ht : t ≤ 9223372036854775807) : check_Hist ((k : Int), 0, ls) = some 0 := by
  have hl := h.levels
  rw [chist_eq (by omega) (fun l hl' => by have := shape_len h.shape l hl'; omega)]
  unfold histC
  rw [if_neg (by simp [confB_spec.2 (show 2 ≤ (k : Int) ∧ (k : Int) ≤ 1024 ∧ (0 : Int) ≤ 0 ∧ (0 : Int) ≤ 4 by omega)]), Int.toNat_natCast, if_neg (by simp [good_shaped h]), if_neg (by simp [good_turned h hu ht]), if_neg (by simpa using h.wt)]
end Go.Proofs.Ytbnjjpmlaknaoaa.Pu
