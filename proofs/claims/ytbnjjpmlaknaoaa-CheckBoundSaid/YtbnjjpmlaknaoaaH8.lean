/- About how much came: what is within, counted level by level. -/
import Derived.Test.YtbnjjpmlaknaoaaH7
namespace Go.Proofs.Ytbnjjpmlaknaoaa.Pu
set_option linter.unusedVariables false

def wiT (tick span t : Int) : Bool := decide (tick < span ∨ tick - span < t)
theorem within_eq {t tick span : Int} (h0 : 0 ≤ span) (h1 : tick < 18446744073709551616) : ref08_Within t tick span = some (wiT tick span t) := by
  unfold ref08_Within wiT
  by_cases h : tick < span
  · rw [if_pos h]; simp [h]
  · rw [if_neg h, wu64_of (by omega) (by omega)]; simp [h]
theorem ewithin_eq {t tick span : Int} (h0 : 0 ≤ span) (h1 : tick < 18446744073709551616) : estimate_Parts_1 t span tick = some (wiT tick span t) := within_eq h0 h1
theorem wiT_up {tick span t u : Int} (h : t ≤ u) (ht : wiT tick span t = true) : wiT tick span u = true := by
  unfold wiT at *
  rw [decide_eq_true_eq] at *
  omega

/-- Units of the buckets that are so. -/
def wtP (p : Sp → Bool) : List (List Sp) → Nat
  | [] => 0
  | l :: ls => l.countP p + 2 * wtP p ls
theorem wtP_append (p : Sp → Bool) (l m : List (List Sp)) : wtP p (l ++ m) = wtP p l + 2 ^ l.length * wtP p m := by
  induction l with
  | nil => simp [wtP]
  | cons a l ih => rw [List.cons_append, wtP, wtP, ih, List.length_cons, Nat.pow_succ, Nat.mul_add, ← Nat.mul_assoc, Nat.mul_comm 2 (2 ^ l.length)]; omega
theorem wtP_take_succ (p : Sp → Bool) (ls : List (List Sp)) {i : Nat} (h : i < ls.length) : wtP p (ls.take (i + 1)) = wtP p (ls.take i) + 2 ^ i * ls[i].countP p := by
  rw [take_get (List.getElem?_eq_getElem h), wtP_append]
  simp only [wtP, Nat.mul_zero, Nat.add_zero, List.length_take]
  rw [Nat.min_eq_left (by omega)]
theorem wtP_le (p : Sp → Bool) (ls : List (List Sp)) : wtP p ls ≤ wt ls := by
  induction ls with
  | nil => exact Nat.le_refl _
  | cons l ls ih => rw [wtP, wt]; have := List.countP_le_length (p := p) (l := l); omega
theorem wtP_take_le (p : Sp → Bool) (ls : List (List Sp)) (i : Nat) : wtP p (ls.take i) ≤ wtP p ls := by
  have h := wtP_append p (ls.take i) (ls.drop i)
  rw [List.take_append_drop] at h
  omega
theorem wtP_mono {p q : Sp → Bool} {ls : List (List Sp)} (h : ∀ l ∈ ls, ∀ a ∈ l, p a = true → q a = true) : wtP p ls ≤ wtP q ls := by
  induction ls with
  | nil => exact Nat.le_refl _
  | cons l ls ih =>
    rw [wtP, wtP]
    have h1 := ih (fun m hm => h m (List.mem_cons_of_mem _ hm))
    have h2 := List.countP_mono_left (h l List.mem_cons_self)
    omega
theorem wtP_all {p : Sp → Bool} {ls : List (List Sp)} (h : ∀ l ∈ ls, ∀ a ∈ l, p a = true) : wtP p ls = wt ls := by
  induction ls with
  | nil => rfl
  | cons l ls ih =>
    rw [wtP, wt, ih (fun m hm => h m (List.mem_cons_of_mem _ hm)), List.countP_eq_length.2 (h l List.mem_cons_self)]
/-- Sure, and cut. -/
def sureP (tick span : Int) (s : Sp) : Bool := wiT tick span s.1
def cutP (tick span : Int) (s : Sp) : Bool := !wiT tick span s.1 && wiT tick span s.2
theorem countP_take_succ (p : Sp → Bool) (l : List Sp) {j : Nat} (h : j < l.length) : (l.take (j + 1)).countP p = (l.take j).countP p + (if p l[j] then 1 else 0) := by
  rw [take_get (List.getElem?_eq_getElem h), List.countP_append, List.countP_singleton]
theorem one_shl {i : Nat} (h : i < 64) : wu64 (shlk 64 1 (i : Int)) = ((2 ^ i : Nat) : Int) := by
  have := shlk_n 1 i (by omega)
  have hp : 2 ^ i ≤ 2 ^ 63 := Nat.pow_le_pow_right (by decide) (by omega)
  rw [show (1 : Int) = ((1 : Nat) : Int) from rfl, this, Nat.mul_one, wu64_of (by omega) (by omega)]

section
variable {tick span : Int} {K g : Int} {ls : List (List Sp)}
theorem parts_bound {i j : Nat} (hw : wt ls ≤ 4503599627370496) (h : i < ls.length) (p : Sp → Bool) (hj : j ≤ ls[i].length) : wtP p (ls.take i) + 2 ^ i * (ls[i].take j).countP p ≤ 4503599627370496 := by
  have h1 := wtP_take_succ p ls h
  have h2 := wtP_take_le p ls (i + 1)
  have h3 := wtP_le p ls
  have h4 : (ls[i].take j).countP p ≤ ls[i].countP p := (List.take_sublist j ls[i]).countP_le
  have h5 : 2 ^ i * (ls[i].take j).countP p ≤ 2 ^ i * ls[i].countP p := Nat.mul_le_mul_left _ h4
  omega
theorem parts_eq (h0 : 0 ≤ span) (h1 : tick < 18446744073709551616) (hl : ls.length ≤ 52) (hll : ∀ l ∈ ls, l.length ≤ 1099511627776) (hw : wt ls ≤ 4503599627370496) : ref08_Parts (K, g, ls) tick span = some ((wtP (sureP tick span) ls : Int), (wtP (cutP tick span) ls : Int)) := by
  unfold ref08_Parts
  have : loopO (ref08_Parts_s0 (K, g, ls) tick span) ((0 : Int), (0 : Int), (0 : Int)) = some ((wtP (sureP tick span) ls : Int), (wtP (cutP tick span) ls : Int)) := by
    refine loopO_run (fun i => ((wtP (sureP tick span) (ls.take i) : Int), (wtP (cutP tick span) (ls.take i) : Int), (i : Int))) ls.length (fun i hi => ?_) ?_
    · have hlen := hll _ (List.getElem_mem hi)
      have hin : loopO (ref08_Parts_s1 (K, g, ls) tick span ((wtP (sureP tick span) (ls.take i) : Int), (wtP (cutP tick span) (ls.take i) : Int), (i : Int))) ((wtP (sureP tick span) (ls.take i) : Int), (wtP (cutP tick span) (ls.take i) : Int), (0 : Int)) = some ((wtP (sureP tick span) (ls.take (i + 1)) : Int), (wtP (cutP tick span) (ls.take (i + 1)) : Int)) := by
        have := loopO_run (step := ref08_Parts_s1 (K, g, ls) tick span ((wtP (sureP tick span) (ls.take i) : Int), (wtP (cutP tick span) (ls.take i) : Int), (i : Int))) (r := ((wtP (sureP tick span) (ls.take (i + 1)) : Int), (wtP (cutP tick span) (ls.take (i + 1)) : Int)))
          (fun j => (((wtP (sureP tick span) (ls.take i) + 2 ^ i * (ls[i].take j).countP (sureP tick span) : Nat) : Int), ((wtP (cutP tick span) (ls.take i) + 2 ^ i * (ls[i].take j).countP (cutP tick span) : Nat) : Int), (j : Int))) ls[i].length (fun j hj => ?_) ?_
        · simpa using this
        · unfold ref08_Parts_s1
          simp only
          have b1 := parts_bound hw hi (sureP tick span) (j := j + 1) (by omega)
          have b2 := parts_bound hw hi (cutP tick span) (j := j + 1) (by omega)
          rw [countP_take_succ _ _ hj] at b1 b2 ⊢
          rw [countP_take_succ _ _ hj]
          rw [rdo_get hi, Option.bind_some, if_pos (by omega), rdo_get hj, Option.bind_some, within_eq h0 h1, Option.bind_some]
          by_cases hs : wiT tick span (ls[i][j]).1 = true
          · have e1 : sureP tick span ls[i][j] = true := hs
            have e2 : cutP tick span ls[i][j] = false := by unfold cutP; rw [hs]; rfl
            rw [e1] at b1 ⊢
            rw [e2] at b2 ⊢
            simp only [if_true, Bool.false_eq_true, if_false, Nat.add_zero, Nat.mul_add, Nat.mul_one] at b1 b2 ⊢
            rw [if_pos hs, must_of (by omega), Option.bind_some, one_shl (by omega)]
            generalize 2 ^ i * List.countP (sureP tick span) (List.take j ls[i]) = X at *
            generalize 2 ^ i * List.countP (cutP tick span) (List.take j ls[i]) = Y at *
            generalize (2 : Nat) ^ i = Z at *
            rw [wu64_of (by omega) (by omega), wi64_of (by omega) (by omega)]
            refine congrArg some (congrArg Sum.inl (Prod.ext ?_ (Prod.ext ?_ ?_))) <;> (try simp only) <;> omega
          · have e1 : sureP tick span ls[i][j] = false := by unfold sureP; simpa using hs
            rw [if_neg hs, within_eq h0 h1, Option.bind_some]
            by_cases hc : wiT tick span (ls[i][j]).2 = true
            · have e2 : cutP tick span ls[i][j] = true := by unfold cutP; rw [hc]; simpa using hs
              rw [e1] at b1 ⊢
              rw [e2] at b2 ⊢
              simp only [if_true, Bool.false_eq_true, if_false, Nat.add_zero, Nat.mul_add, Nat.mul_one] at b1 b2 ⊢
              rw [if_pos hc, must_of (by omega), Option.bind_some, one_shl (by omega)]
              generalize 2 ^ i * List.countP (sureP tick span) (List.take j ls[i]) = X at *
              generalize 2 ^ i * List.countP (cutP tick span) (List.take j ls[i]) = Y at *
              generalize (2 : Nat) ^ i = Z at *
              rw [wu64_of (by omega) (by omega), wi64_of (by omega) (by omega)]
              refine congrArg some (congrArg Sum.inl (Prod.ext ?_ (Prod.ext ?_ ?_))) <;> (try simp only) <;> omega
            · have e2 : cutP tick span ls[i][j] = false := by unfold cutP; simp [hc]
              rw [e1] at b1 ⊢
              rw [e2] at b2 ⊢
              simp only [Bool.false_eq_true, if_false, Nat.add_zero] at b1 b2 ⊢
              rw [if_neg hc, wi64_of (by omega) (by omega)]
              rfl
        · unfold ref08_Parts_s1
          simp only
          rw [rdo_get hi, Option.bind_some, if_neg (by omega), List.take_length, wtP_take_succ _ _ hi, wtP_take_succ _ _ hi]
      unfold ref08_Parts_s0
      simp only
      rw [if_pos (by omega), hin, Option.bind_some, wi64_of (by omega) (by omega)]
      rfl
    · unfold ref08_Parts_s0
      simp only
      rw [if_neg (by omega), List.take_length]
  rw [this, Option.bind_some]
theorem eparts_eq (h0 : 0 ≤ span) (h1 : tick < 18446744073709551616) (hl : ls.length ≤ 52) (hll : ∀ l ∈ ls, l.length ≤ 1099511627776) (hw : wt ls ≤ 4503599627370496) : estimate_Parts (K, g, ls) tick span = some ((wtP (sureP tick span) ls : Int), (wtP (cutP tick span) ls : Int)) := by
  unfold estimate_Parts estimate_buckets estimate_buckets_1
  have : loopO (estimate_buckets_1_s0 (yl (estimate_Parts_r0 tick span)) (K, g, ls)) ((0 : Int), .inl ((0 : Int), (0 : Int))) = some (.inr (.inl ((wtP (sureP tick span) ls : Int), (wtP (cutP tick span) ls : Int)))) := by
    refine loopO_run (fun i => ((i : Int), (Sum.inl ((wtP (sureP tick span) (ls.take i) : Int), (wtP (cutP tick span) (ls.take i) : Int)) : (Int × Int) ⊕ Empty))) ls.length (fun i hi => ?_) ?_
    · have hlen := hll _ (List.getElem_mem hi)
      have hin : loopO (estimate_buckets_1_s1 (yl (estimate_Parts_r0 tick span)) ((i : Int), .inl ((wtP (sureP tick span) (ls.take i) : Int), (wtP (cutP tick span) (ls.take i) : Int))) ls[i]) ((0 : Int), .inl ((wtP (sureP tick span) (ls.take i) : Int), (wtP (cutP tick span) (ls.take i) : Int))) = some (.inr (.inl ((wtP (sureP tick span) (ls.take (i + 1)) : Int), (wtP (cutP tick span) (ls.take (i + 1)) : Int)))) := by
        have := loopO_run (step := estimate_buckets_1_s1 (yl (estimate_Parts_r0 tick span)) ((i : Int), .inl ((wtP (sureP tick span) (ls.take i) : Int), (wtP (cutP tick span) (ls.take i) : Int))) ls[i]) (r := .inr (.inl ((wtP (sureP tick span) (ls.take (i + 1)) : Int), (wtP (cutP tick span) (ls.take (i + 1)) : Int))))
          (fun j => ((j : Int), (Sum.inl (((wtP (sureP tick span) (ls.take i) + 2 ^ i * (ls[i].take j).countP (sureP tick span) : Nat) : Int), ((wtP (cutP tick span) (ls.take i) + 2 ^ i * (ls[i].take j).countP (cutP tick span) : Nat) : Int)) : (Int × Int) ⊕ Empty))) ls[i].length (fun j hj => ?_) ?_
        · simpa using this
        · unfold estimate_buckets_1_s1
          simp only [yl, estimate_Parts_r0]
          have b1 := parts_bound hw hi (sureP tick span) (j := j + 1) (by omega)
          have b2 := parts_bound hw hi (cutP tick span) (j := j + 1) (by omega)
          rw [countP_take_succ _ _ hj] at b1 b2 ⊢
          rw [countP_take_succ _ _ hj]
          rw [if_pos (by omega), rdo_get hj, Option.bind_some, must_of (by omega), Option.bind_some, ewithin_eq h0 h1, Option.bind_some]
          by_cases hs : wiT tick span (ls[i][j]).1 = true
          · have e1 : sureP tick span ls[i][j] = true := hs
            have e2 : cutP tick span ls[i][j] = false := by unfold cutP; rw [hs]; rfl
            rw [e1] at b1 ⊢
            rw [e2] at b2 ⊢
            simp only [if_true, Bool.false_eq_true, if_false, Nat.add_zero, Nat.mul_add, Nat.mul_one] at b1 b2 ⊢
            rw [if_pos hs, one_shl (by omega)]
            generalize 2 ^ i * List.countP (sureP tick span) (List.take j ls[i]) = X at *
            generalize 2 ^ i * List.countP (cutP tick span) (List.take j ls[i]) = Y at *
            generalize (2 : Nat) ^ i = Z at *
            rw [wu64_of (by omega) (by omega), wi64_of (by omega) (by omega)]
            simp only [Option.map_some, Option.bind_some, not_true_eq_false, if_false]
            refine congrArg some (congrArg Sum.inl (Prod.ext ?_ (congrArg Sum.inl (Prod.ext ?_ ?_)))) <;> (try simp only) <;> omega
          · have e1 : sureP tick span ls[i][j] = false := by unfold sureP; simpa using hs
            rw [if_neg hs, ewithin_eq h0 h1, Option.bind_some]
            by_cases hc : wiT tick span (ls[i][j]).2 = true
            · have e2 : cutP tick span ls[i][j] = true := by unfold cutP; rw [hc]; simpa using hs
              rw [e1] at b1 ⊢
              rw [e2] at b2 ⊢
              simp only [if_true, Bool.false_eq_true, if_false, Nat.add_zero, Nat.mul_add, Nat.mul_one] at b1 b2 ⊢
              rw [if_pos hc, one_shl (by omega)]
              generalize 2 ^ i * List.countP (sureP tick span) (List.take j ls[i]) = X at *
              generalize 2 ^ i * List.countP (cutP tick span) (List.take j ls[i]) = Y at *
              generalize (2 : Nat) ^ i = Z at *
              rw [wu64_of (by omega) (by omega), wi64_of (by omega) (by omega)]
              simp only [Option.map_some, Option.bind_some, not_true_eq_false, if_false]
              refine congrArg some (congrArg Sum.inl (Prod.ext ?_ (congrArg Sum.inl (Prod.ext ?_ ?_)))) <;> (try simp only) <;> omega
            · have e2 : cutP tick span ls[i][j] = false := by unfold cutP; simp [hc]
              rw [e1] at b1 ⊢
              rw [e2] at b2 ⊢
              simp only [Bool.false_eq_true, if_false, Nat.add_zero] at b1 b2 ⊢
              rw [if_neg hc, wi64_of (by omega) (by omega)]
              rfl
        · unfold estimate_buckets_1_s1
          simp only
          rw [if_neg (by omega), List.take_length, wtP_take_succ _ _ hi, wtP_take_succ _ _ hi]
      unfold estimate_buckets_1_s0
      simp only
      rw [if_pos (by omega), rdo_get hi, Option.bind_some, hin, Option.bind_some]
      simp only [Sum.elim_inr, Sum.elim_inl]
      rw [wi64_of (by omega) (by omega)]
      rfl
    · unfold estimate_buckets_1_s0
      simp only
      rw [if_neg (by omega), List.take_length]
  rw [Option.bind_some, this]
  rfl
theorem shrk_one (n : Nat) : shrk 64 (n : Int) 1 = ((n / 2 : Nat) : Int) := by
  unfold shrk
  rw [show min (1 : Int).toNat 64 = 1 from rfl, Int.pow_succ]
  rw [Int.fdiv_eq_ediv_of_nonneg _ (by decide)]
  simp
/-- What is told. -/
def ofM (tick span : Int) (ls : List (List Sp)) : Nat := wtP (sureP tick span) ls + wtP (cutP tick span) ls / 2
theorem eof_eq (h0 : 0 ≤ span) (h1 : tick < 18446744073709551616) (hl : ls.length ≤ 52) (hll : ∀ l ∈ ls, l.length ≤ 1099511627776) (hw : wt ls ≤ 4503599627370496) : estimate_Of (K, g, ls) tick span = some (ofM tick span ls : Int) := by
  unfold estimate_Of ofM
  have b1 := wtP_le (sureP tick span) ls
  have b2 := wtP_le (cutP tick span) ls
  rw [eparts_eq h0 h1 hl hll hw, Option.bind_some]
  simp only
  rw [shrk_one, wu64_of (by omega) (by omega)]
  rfl
theorem rof_eq (h0 : 0 ≤ span) (h1 : tick < 18446744073709551616) (hl : ls.length ≤ 52) (hll : ∀ l ∈ ls, l.length ≤ 1099511627776) (hw : wt ls ≤ 4503599627370496) : ref08_Of (K, g, ls) tick span = some (ofM tick span ls : Int) := by
  unfold ref08_Of ofM
  have b1 := wtP_le (sureP tick span) ls
  have b2 := wtP_le (cutP tick span) ls
  have e := tdiv_n (wtP (cutP tick span) ls) 2
  rw [parts_eq h0 h1 hl hll hw, Option.bind_some]
  simp only
  rw [show ((2 : Nat) : Int) = 2 from rfl] at e
  rw [e, wu64_of (x := ((wtP (cutP tick span) ls / 2 : Nat) : Int)) (by omega) (by omega), wu64_of (by omega) (by omega)]
  rfl
/-- Twice what is sure, and what is cut, are what begins within, and what ends within. -/
theorem two_parts (h : ∀ l ∈ ls, ∀ a ∈ l, a.1 ≤ a.2) : 2 * wtP (sureP tick span) ls + wtP (cutP tick span) ls = wtP (fun s => wiT tick span s.1) ls + wtP (fun s => wiT tick span s.2) ls := by
  have hc : ∀ (l : List Sp), (∀ a ∈ l, a.1 ≤ a.2) → 2 * l.countP (sureP tick span) + l.countP (cutP tick span) = l.countP (fun s => wiT tick span s.1) + l.countP (fun s => wiT tick span s.2) := by
    intro l
    induction l with
    | nil => intro _; rfl
    | cons a t ih =>
      intro hl
      have h1 := ih (fun b hb => hl b (List.mem_cons_of_mem _ hb))
      have h2 := hl a List.mem_cons_self
      simp only [List.countP_cons, sureP, cutP] at h1 ⊢
      by_cases hs : wiT tick span a.1 = true
      · have hs2 := wiT_up h2 hs
        simp only [hs, hs2, Bool.not_true, Bool.false_and, Bool.false_eq_true, if_true, if_false]
        omega
      · by_cases hs2 : wiT tick span a.2 = true
        · simp only [hs, hs2, Bool.not_false, Bool.true_and, if_true, if_false, Bool.false_eq_true]
          omega
        · simp only [hs, hs2, Bool.and_false, if_false, Bool.false_eq_true]
          omega
  induction ls with
  | nil => rfl
  | cons l ls ih =>
    have h1 := ih (fun m hm => h m (List.mem_cons_of_mem _ hm))
    have h2 := hc l (h l List.mem_cons_self)
    simp only [wtP]
    omega
end
end Go.Proofs.Ytbnjjpmlaknaoaa.Pu
