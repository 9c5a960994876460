/- Numbers by digits of seven bits: how the program's functions and the reference's answer. No Go and no memory. -/
import Derived.Test.YtbeknohemgjfbaaH0
import Derived.Test.YtbeknohemgjfbaaQc
namespace Go.Proofs.Ytbeknohemgjfbaa.Pu
set_option linter.unusedVariables false

section bits
theorem ofInt_nat {n a : Nat} (h : a < 2 ^ n) : (BitVec.ofInt n (a : Int)).toNat = a := by
  rw [BitVec.toNat_ofInt]
  have e : ((2 ^ n : Nat) : Int) = (2 : Int) ^ n := by simp
  rw [← Int.natCast_emod, Int.toNat_natCast, Nat.mod_eq_of_lt h]
theorem andk_nat {n a b : Nat} (ha : a < 2 ^ n) (hb : b < 2 ^ n) : andk n (a : Int) (b : Int) = ((a &&& b : Nat) : Int) := by
  unfold andk
  rw [BitVec.toNat_and, ofInt_nat ha, ofInt_nat hb]
theorem ork_nat {n a b : Nat} (ha : a < 2 ^ n) (hb : b < 2 ^ n) : ork n (a : Int) (b : Int) = ((a ||| b : Nat) : Int) := by
  unfold ork
  rw [BitVec.toNat_or, ofInt_nat ha, ofInt_nat hb]
theorem and127 (m : Nat) : m &&& 127 = m % 128 := Nat.and_two_pow_sub_one_eq_mod m 7
theorem and127_64 {m : Nat} (h : m < 2 ^ 64) : andk 64 (m : Int) 127 = ((m % 128 : Nat) : Int) := by
  rw [show (127 : Int) = ((127 : Nat) : Int) from rfl, andk_nat h (by decide), and127]
theorem and127_8 {m : Nat} (h : m < 256) : andk 8 (m : Int) 127 = ((m % 128 : Nat) : Int) := by
  rw [show (127 : Int) = ((127 : Nat) : Int) from rfl, andk_nat h (by decide), and127]
theorem or128_8 {m : Nat} (h : m < 128) : ork 8 (m : Int) 128 = ((m + 128 : Nat) : Int) := by
  rw [show (128 : Int) = ((128 : Nat) : Int) from rfl, ork_nat (by omega) (by decide)]
  congr 1
  have := Nat.two_pow_add_eq_or_of_lt (i := 7) (b := m) (by omega) 1
  rw [Nat.or_comm]
  simp at this
  omega
theorem shr7 (m : Nat) : shrk 64 (m : Int) 7 = ((m / 128 : Nat) : Int) := by
  unfold shrk
  show Int.fdiv (m : Int) (2 ^ 7) = _
  rw [Int.fdiv_eq_ediv_of_nonneg _ (by decide)]
  norm_cast
/-- A digit is set on. -/
theorem set7 {a z i : Nat} (ha : a < 2 ^ (7 * i)) (hz : z < 256) (hi : i ≤ 9) (ht : a + z % 128 * 2 ^ (7 * i) < 2 ^ 64) :
    wu64 (ork 64 (a : Int) (wu64 (shlk 64 (wu64 (wu8 (andk 8 (z : Int) 127))) (wi64 (7 * (i : Int)))))) = ((a + z % 128 * 2 ^ (7 * i) : Nat) : Int) := by
  rw [and127_8 hz, wu8_of (x := ((z % 128 : Nat) : Int)) (by omega) (by omega), wu64_of (x := ((z % 128 : Nat) : Int)) (by omega) (by omega), wi64_of (by omega) (by omega)]
  have e1 : shlk 64 ((z % 128 : Nat) : Int) (7 * (i : Int)) = ((z % 128 * 2 ^ (7 * i) : Nat) : Int) := by
    unfold shlk
    have : min (7 * (i : Int)).toNat 64 = 7 * i := by omega
    rw [this]
    push_cast
    rfl
  have e2 : 2 ^ (7 * i) ≤ 2 ^ 63 := Nat.pow_le_pow_right (by decide) (by omega)
  rw [e1, wu64_of (x := ((z % 128 * 2 ^ (7 * i) : Nat) : Int)) (by omega) (by omega), ork_nat (by omega) (by omega)]
  have e3 : a ||| z % 128 * 2 ^ (7 * i) = a + z % 128 * 2 ^ (7 * i) := by
    rw [Nat.or_comm, Nat.mul_comm, ← Nat.two_pow_add_eq_or_of_lt ha]; omega
  rw [e3, wu64_of (by omega) (by omega)]
end bits

/-- A number's digits. -/
def dg (n : Nat) : List Int := if n < 128 then [(n : Int)] else ((n % 128 + 128 : Nat) : Int) :: dg (n / 128)
termination_by n
decreasing_by omega
theorem dg_lo {n : Nat} (h : n < 128) : dg n = [(n : Int)] := by rw [dg, if_pos h]
theorem dg_hi {n : Nat} (h : ¬ n < 128) : dg n = ((n % 128 + 128 : Nat) : Int) :: dg (n / 128) := by rw [dg, if_neg h]
theorem dg_pos (n : Nat) : 0 < (dg n).length := by
  by_cases h : n < 128
  · rw [dg_lo h]; simp
  · rw [dg_hi h]; simp
theorem dg_le (k : Nat) : ∀ n, (dg n).length ≤ k + 1 ↔ n < 128 ^ (k + 1) := by
  induction k with
  | zero =>
    intro n
    by_cases h : n < 128
    · rw [dg_lo h]; simpa using h
    · rw [dg_hi h]
      have := dg_pos (n / 128)
      simp only [List.length_cons, Nat.zero_add, Nat.pow_one]
      omega
  | succ k ih =>
    intro n
    have hp : 128 ^ (k + 1 + 1) = 128 ^ (k + 1) * 128 := Nat.pow_succ ..
    have hp2 : 1 ≤ 128 ^ (k + 1) := Nat.pow_pos (by decide)
    by_cases h : n < 128
    · rw [dg_lo h]; simp only [List.length_cons, List.length_nil]; omega
    · rw [dg_hi h, List.length_cons]
      have := ih (n / 128)
      rw [Nat.add_le_add_iff_right, this, hp, Nat.div_lt_iff_lt_mul (by decide)]
theorem dg_ten {n : Nat} (h : n < 18446744073709551616) : (dg n).length ≤ 10 := (dg_le 9 n).2 (by omega)
theorem dg_u8 : ∀ n, ∀ x ∈ dg n, U8 x := by
  intro n
  induction n using Nat.strongRecOn with
  | _ n ih =>
    by_cases h : n < 128
    · rw [dg_lo h]; intro x hx; rw [List.mem_singleton] at hx; subst hx; omega
    · rw [dg_hi h]
      intro x hx
      rcases List.mem_cons.1 hx with rfl | hx
      · omega
      · exact ih _ (by omega) x hx
/-- What digits come to. -/
def vl : List Int → Int
  | [] => 0
  | x :: xs => x % 128 + 128 * vl xs
theorem vl_pos (xs : List Int) : 0 ≤ vl xs := by
  induction xs with
  | nil => exact Int.le_refl _
  | cons x xs ih => rw [vl]; omega
theorem vl_dg : ∀ n : Nat, vl (dg n) = n := by
  intro n
  induction n using Nat.strongRecOn with
  | _ n ih =>
    by_cases h : n < 128
    · rw [dg_lo h, vl, vl]; omega
    · rw [dg_hi h, vl, ih _ (by omega)]; omega
theorem dg_inj {m n : Nat} (h : dg m = dg n) : m = n := by
  have := vl_dg m
  rw [h, vl_dg] at this
  omega
theorem vl_lt (xs : List Int) : vl xs < 128 ^ xs.length := by
  induction xs with
  | nil => decide
  | cons x xs ih => rw [vl, List.length_cons, Int.pow_succ]; omega
theorem vl_app (xs : List Int) (z : Int) : vl (xs ++ [z]) = vl xs + z % 128 * 128 ^ xs.length := by
  induction xs with
  | nil => simp [vl]
  | cons x xs ih =>
    rw [List.cons_append, vl, vl, ih, List.length_cons, Int.pow_succ]
    have e : 128 * (z % 128 * 128 ^ xs.length) = z % 128 * (128 ^ xs.length * 128) := by ac_rfl
    rw [Int.mul_add, e]; omega

/-! ## Put -/
theorem vput_loop : ∀ (n : Nat) (d : List Int), n < 18446744073709551616 → d.length + (dg n).length ≤ 1000 →
    ∃ q, loopO (varint_digits_1_s0 (yl varint_Put_r0)) (((n : Int), .inl d) : Int × (List Int ⊕ Empty)) = some (q, .inl (d ++ dg n)) := by
  intro n
  induction n using Nat.strongRecOn with
  | _ n ih =>
    intro d hn hd
    have hr : ∀ k, k ≤ 1000 → room k 1 = some () := fun k hk => room_of (by omega) (by omega)
    have hp := dg_pos n
    have e0 : wu8 (wu64 (andk 64 (n : Int) 127)) = ((n % 128 : Nat) : Int) := by
      rw [and127_64 hn, wu64_of (by omega) (by omega), wu8_of (by omega) (by omega)]
    by_cases h : n < 128
    · have c1 : ¬ ((127 : Int) < (n : Int)) := by omega
      refine ⟨(n : Int), loopO_done ?_⟩
      unfold varint_digits_1_s0 yl varint_Put_r0
      simp only [e0, c1, decide_false, Bool.false_eq_true, if_false, Option.map, Option.bind, hr _ (show d.length + [((n % 128 : Nat) : Int)].length ≤ 1000 by simp only [List.length_cons, List.length_nil]; omega), not_true, not_false_iff, if_true]
      rw [dg_lo h, Nat.mod_eq_of_lt h]
    · have c1 : (127 : Int) < (n : Int) := by omega
      rw [dg_hi h] at hd
      rw [List.length_cons] at hd
      have e1 : wu8 (ork 8 ((n % 128 : Nat) : Int) 128) = ((n % 128 + 128 : Nat) : Int) := by
        rw [or128_8 (by omega), wu8_of (by omega) (by omega)]
      have hs : varint_digits_1_s0 (yl varint_Put_r0) (((n : Int), .inl d) : Int × (List Int ⊕ Empty)) = some (.inl (((n / 128 : Nat) : Int), .inl (d ++ [((n % 128 + 128 : Nat) : Int)]))) := by
        unfold varint_digits_1_s0 yl varint_Put_r0
        simp only [e0, c1, decide_true, if_true, e1, Option.map, Option.bind, hr _ (show d.length + [((n % 128 + 128 : Nat) : Int)].length ≤ 1000 by simp only [List.length_cons, List.length_nil]; omega), not_true, if_false, shr7]
      obtain ⟨q, hq⟩ := ih (n / 128) (by omega) (d ++ [((n % 128 + 128 : Nat) : Int)]) (by omega) (by simp only [List.length_append, List.length_cons, List.length_nil]; omega)
      refine ⟨q, ?_⟩
      rw [loopO_next hs, hq, dg_hi h, List.append_assoc]
      rfl
theorem vput {n : Nat} (h : n < 18446744073709551616) : varint_Put (n : Int) = some (dg n) := by
  obtain ⟨q, hq⟩ := vput_loop n [] h (by have := dg_ten h; simp only [List.length_nil]; omega)
  unfold varint_Put varint_digits varint_digits_1
  simp only [Option.bind_some]
  rw [hq]
  rfl
theorem rput_rec : ∀ (k n : Nat), n < 18446744073709551616 → (dg n).length ≤ k → k ≤ 1000 → itR ref01_Put_F k (n : Int) = some (dg n) := by
  intro k
  induction k with
  | zero => intro n _ h; have := dg_pos n; omega
  | succ k ih =>
    intro n hn hk hk2
    rw [itR]
    by_cases h : n < 128
    · unfold ref01_Put_F
      rw [if_pos (by omega), dg_lo h, wu8_of (by omega) (by omega)]
    · rw [dg_hi h, List.length_cons] at hk
      have e1 : wu64 ((n : Int).tdiv 128) = ((n / 128 : Nat) : Int) := by
        rw [Int.tdiv_eq_ediv_of_nonneg (by omega), wu64_of (by omega) (by omega)]; omega
      have e2 : wu8 (wu64 (128 + (n : Int).tmod 128)) = ((n % 128 + 128 : Nat) : Int) := by
        rw [Int.tmod_eq_emod_of_nonneg (by omega), wu64_of (by omega) (by omega), wu8_of (by omega) (by omega)]; omega
      have e3 : ref01_Put_F (itR ref01_Put_F k) (n : Int) = ((itR ref01_Put_F k (wu64 ((n : Int).tdiv 128))).bind fun r2 => (room ([wu8 (wu64 (128 + ((n : Int).tmod 128)))].length + r2.length) 1).bind fun _ => some ([wu8 (wu64 (128 + ((n : Int).tmod 128)))] ++ r2)) := by
        show (if (n : Int) < 128 then _ else _) = _
        rw [if_neg (by omega)]
      rw [e3, e1, ih _ (by omega) (by omega) (by omega), Option.bind_some, e2, room_of (by simp only [List.length_cons, List.length_nil]; omega) (by simp only [List.length_cons, List.length_nil]; omega), Option.bind_some, dg_hi h]
      rfl
theorem rput {n : Nat} (h : n < 18446744073709551616) : ref01_Put (n : Int) = some (dg n) := by
  have := dg_ten h
  exact rput_rec 1000 n h (by omega) (Nat.le_refl _)

/-! ## Take -/
/-- How many bytes with more behind them come first. -/
def ld : List Int → Nat
  | [] => 0
  | x :: xs => if 128 ≤ x then ld xs + 1 else 0
theorem ld_le (b : List Int) : ld b ≤ b.length := by
  induction b with
  | nil => exact Nat.le_refl _
  | cons x xs ih => rw [ld]; split <;> simp only [List.length_cons] <;> omega
theorem ld_hi {b : List Int} : ∀ {i : Nat} (h : i < b.length), i < ld b → 128 ≤ b[i] := by
  induction b with
  | nil => intro i h; simp at h
  | cons x xs ih =>
    intro i h hi
    rw [ld] at hi
    split at hi
    · cases i with
      | zero => assumption
      | succ i => exact ih (by simpa using h) (by omega)
    · omega
theorem ld_lo {b : List Int} : ∀ (h : ld b < b.length), b[ld b] < 128 := by
  induction b with
  | nil => intro h; simp at h
  | cons x xs ih =>
    by_cases hx : 128 ≤ x
    · have e : ld (x :: xs) = ld xs + 1 := by rw [ld, if_pos hx]
      simp only [e, List.length_cons, List.getElem_cons_succ]
      intro h
      exact ih (by omega)
    · have e : ld (x :: xs) = 0 := by rw [ld, if_neg hx]
      simp only [e, List.getElem_cons_zero]
      intro _; omega
def tkM (b : List Int) : Int × Int × Int :=
  if ld b < 10 ∧ ld b < b.length then (if (b.getD (ld b) 0 = 0 ∧ 0 < ld b) ∨ (ld b = 9 ∧ 1 < b.getD (ld b) 0) then (0, 0, 2) else (vl (b.take (ld b + 1)), ld b + 1, 0)) else if 10 ≤ b.length then (0, 0, 2) else (0, 0, 3)
/-- The form's test. -/
theorem tst (z i : Int) : ((if z = 0 then (if 0 < i then (some true) else (if i = 9 then (some (decide (1 < z))) else (some false))) else (if i = 9 then (some (decide (1 < z))) else (some false))) : Option Bool) = some (decide ((z = 0 ∧ 0 < i) ∨ (i = 9 ∧ 1 < z))) := by
  by_cases d1 : z = 0
  · rw [if_pos d1]
    by_cases d3 : 0 < i
    · rw [if_pos d3, decide_eq_true (.inl ⟨d1, d3⟩)]
    · rw [if_neg d3, if_neg (by omega), decide_eq_false (by omega)]
  · rw [if_neg d1]
    by_cases d2 : i = 9
    · rw [if_pos d2]; congr 1; rw [decide_eq_decide]; omega
    · rw [if_neg d2, decide_eq_false (by omega)]
theorem vl_take {b : List Int} {i : Nat} (h : i < b.length) : vl (b.take (i + 1)) = vl (b.take i) + b[i] % 128 * 128 ^ i := by
  rw [List.take_succ_eq_append_getElem h, vl_app, List.length_take, Nat.min_eq_left (by omega)]
theorem pow128 (i : Nat) : (128 : Int) ^ i = 2 ^ (7 * i) := by
  rw [show (128 : Int) = 2 ^ 7 from rfl, ← Int.pow_mul]
theorem vl_take_lt (b : List Int) (i : Nat) : vl (b.take i) < 128 ^ i := by
  refine Int.lt_of_lt_of_le (vl_lt _) ?_
  have h : (b.take i).length ≤ i := by rw [List.length_take]; omega
  have := Nat.pow_le_pow_right (n := 128) (by decide) h
  exact_mod_cast this
theorem set7I {b : List Int} {i : Nat} (h : i < b.length) (hz : U8 b[i]) (hi : i ≤ 8 ∨ (i = 9 ∧ b[i] ≤ 1)) :
    wu64 (ork 64 (vl (b.take i)) (wu64 (shlk 64 (wu64 (wu8 (andk 8 b[i] 127))) (wi64 (7 * (i : Int)))))) = vl (b.take (i + 1)) := by
  have ha := vl_pos (b.take i)
  have hl := vl_take_lt b i
  rw [vl_take h]
  obtain ⟨z, hz'⟩ : ∃ z : Nat, b[i] = z := ⟨b[i].toNat, by omega⟩
  obtain ⟨a, ha'⟩ : ∃ a : Nat, vl (b.take i) = a := ⟨(vl (b.take i)).toNat, by omega⟩
  rw [ha'] at hl
  rw [hz'] at hi hz
  rw [hz', ha']
  rw [pow128] at hl ⊢
  have hl' : a < 2 ^ (7 * i) := by exact_mod_cast hl
  have hb : a + z % 128 * 2 ^ (7 * i) < 2 ^ 64 := by
    rcases hi with hi | ⟨rfl, hi⟩
    · have e2 : 2 ^ (7 * i) ≤ 2 ^ 56 := Nat.pow_le_pow_right (by decide) (by omega)
      have e3 : z % 128 * 2 ^ (7 * i) ≤ 127 * 2 ^ 56 := Nat.mul_le_mul (by omega) e2
      omega
    · have : z % 128 = z := by omega
      rw [this]
      have : z ≤ 1 := by omega
      have e3 : z * 2 ^ (7 * 9) ≤ 1 * 2 ^ 63 := Nat.mul_le_mul this (Nat.le_refl _)
      omega
  rw [set7 hl' (by omega) (by omega) hb]
  push_cast
  rfl
theorem vtake {b : List Int} (hl : b.length ≤ 1099511627776) (hb : ∀ x ∈ b, U8 x) : varint_Take b = some (tkM b) := by
  unfold varint_Take
  have hmin : (min (b.length : Int) 10) = ((min b.length 10 : Nat) : Int) := by omega
  have hlh := ld_le b
  have step : ∀ i : Nat, i < ld b → i < 9 → varint_Take_s0 b (vl (b.take i), (i : Int)) = some (.inl (vl (b.take (i + 1)), ((i + 1 : Nat) : Int))) := by
    intro i h h9
    have hi : i < b.length := by omega
    have hz := hb _ (List.getElem_mem hi)
    have h2 := ld_hi hi h
    unfold varint_Take_s0
    simp only []
    rw [if_pos (by omega), rdo_get hi, Option.bind_some, must_of (by rw [wi64_of (by omega) (by omega)]; omega), Option.bind_some, if_pos h2, set7I hi hz (.inl (by omega)), wi64_of (by omega) (by omega)]
    rfl
  have run : ∀ n, n ≤ ld b → n ≤ 9 → loopO (varint_Take_s0 b) (0, 0) = loopO (varint_Take_s0 b) (vl (b.take n), (n : Int)) := by
    intro n
    induction n with
    | zero => intro _ _; rfl
    | succ n ih => intro h1 h2; rw [ih (by omega) (by omega), loopO_next (step n (by omega) (by omega))]
  by_cases h10 : ld b < 10
  · by_cases hlt : ld b < b.length
    · have hz := hb _ (List.getElem_mem hlt)
      have hlo := ld_lo hlt
      have hm : b.getD (ld b) 0 = b[ld b] := by rw [List.getD_eq_getElem?_getD, List.getElem?_eq_getElem hlt]; rfl
      rw [run (ld b) (Nat.le_refl _) (by omega)]
      have hs : varint_Take_s0 b (vl (b.take (ld b)), ((ld b : Nat) : Int)) = some (.inr (.inl (tkM b))) := by
        have ht : tkM b = if (b[ld b] = 0 ∧ 0 < ld b) ∨ (ld b = 9 ∧ 1 < b[ld b]) then (0, 0, 2) else (vl (b.take (ld b + 1)), ((ld b : Nat) : Int) + 1, 0) := by unfold tkM; rw [if_pos ⟨h10, hlt⟩, hm]
        unfold varint_Take_s0
        simp only []
        have hlo' : ¬ (128 : Int) ≤ b[ld b] := by omega
        have hlt' : ((ld b : Nat) : Int) < min (b.length : Int) 10 := by omega
        rw [if_pos hlt', rdo_get hlt, Option.bind_some, must_of (by rw [wi64_of (by omega) (by omega)]; omega), Option.bind_some, if_neg hlo', tst, Option.bind_some, ht]
        by_cases c1 : (b[ld b] = 0 ∧ 0 < ld b) ∨ (ld b = 9 ∧ 1 < b[ld b])
        · rw [if_pos c1, if_pos (decide_eq_true (by omega))]
        · rw [if_neg c1, if_neg (by rw [decide_eq_false (by omega)]; decide), set7I hlt hz (by omega), wi64_of (by omega) (by omega)]
      rw [loopO_done hs]
      rfl
    · rw [run (ld b) (Nat.le_refl _) (by omega)]
      have hs : varint_Take_s0 b (vl (b.take (ld b)), ((ld b : Nat) : Int)) = some (.inr (.inr ())) := by
        unfold varint_Take_s0
        simp only []
        rw [if_neg (by omega)]
      rw [loopO_done hs]
      show (if 10 ≤ (b.length : Int) then _ else _) = _
      unfold tkM
      rw [if_neg (by omega), if_neg (by omega), if_neg (by omega)]
  · rw [run 9 (by omega) (Nat.le_refl _)]
    have hi : 9 < b.length := by omega
    have h2 := ld_hi hi (by omega)
    have hz := hb _ (List.getElem_mem hi)
    have hs : ∃ q, varint_Take_s0 b (vl (b.take 9), ((9 : Nat) : Int)) = some (.inl (q, 10)) := by
      unfold varint_Take_s0
      simp only []
      rw [if_pos (by omega), rdo_get hi, Option.bind_some, must_of (by decide), Option.bind_some, if_pos h2]
      exact ⟨_, rfl⟩
    obtain ⟨q, hs⟩ := hs
    have hs2 : varint_Take_s0 b (q, 10) = some (.inr (.inr ())) := by
      unfold varint_Take_s0
      simp only []
      rw [if_neg (by omega)]
    rw [loopO_next hs, loopO_done hs2]
    show (if 10 ≤ (b.length : Int) then _ else _) = _
    unfold tkM
    rw [if_pos (by omega), if_neg (by omega), if_pos (by omega)]
theorem rend {b : List Int} (hl : b.length ≤ 1099511627776) : ref01_end b = some (if ld b < 10 ∧ ld b < b.length then ((ld b : Nat) : Int) else -1) := by
  unfold ref01_end
  have hlh := ld_le b
  have step : ∀ i : Nat, i < ld b → i < 10 → ref01_end_s0 b (i : Int) = some (.inl ((i + 1 : Nat) : Int)) := by
    intro i h h9
    have hi : i < b.length := by omega
    have h2 := ld_hi hi h
    unfold ref01_end_s0
    rw [if_pos (by omega), if_pos (by omega), rdo_get hi, Option.bind_some, if_neg (by omega), wi64_of (by omega) (by omega)]
    rfl
  have run : ∀ n, n ≤ ld b → n ≤ 10 → loopO (ref01_end_s0 b) 0 = loopO (ref01_end_s0 b) (n : Int) := by
    intro n
    induction n with
    | zero => intro _ _; rfl
    | succ n ih => intro h1 h2; rw [ih (by omega) (by omega), loopO_next (step n (by omega) (by omega))]
  by_cases c : ld b < 10 ∧ ld b < b.length
  · have hlo := ld_lo c.2
    rw [run (ld b) (Nat.le_refl _) (by omega), if_pos c]
    have hs : ref01_end_s0 b ((ld b : Nat) : Int) = some (.inr (.inl ((ld b : Nat) : Int))) := by
      unfold ref01_end_s0
      rw [if_pos (by omega), if_pos (by omega), rdo_get c.2, Option.bind_some, if_pos hlo]
    rw [loopO_done hs]
    rfl
  · rw [run (min (ld b) 10) (by omega) (by omega), if_neg c]
    have hs : ref01_end_s0 b ((min (ld b) 10 : Nat) : Int) = some (.inr (.inr ())) := by
      unfold ref01_end_s0
      by_cases d : ((min (ld b) 10 : Nat) : Int) < (b.length : Int)
      · rw [if_pos d, if_neg (by omega)]
      · rw [if_neg d]
    rw [loopO_done hs]
    rfl
theorem vl_drop (l : List Int) (k : Nat) : vl (l.drop k) ≤ vl l := by
  induction k generalizing l with
  | zero => exact Int.le_refl _
  | succ k ih =>
    cases l with
    | nil => exact Int.le_refl _
    | cons x xs =>
      have := ih xs
      have := vl_pos xs
      rw [List.drop_succ_cons, vl]
      omega
theorem vl_form {b : List Int} (h : ld b < 10 ∧ ld b < b.length) (hc : ¬ ((b.getD (ld b) 0 = 0 ∧ 0 < ld b) ∨ (ld b = 9 ∧ 1 < b.getD (ld b) 0))) (hb : ∀ x ∈ b, U8 x) : vl (b.take (ld b + 1)) < 18446744073709551616 := by
  have hz := hb _ (List.getElem_mem h.2)
  have hm : b.getD (ld b) 0 = b[ld b] := by rw [List.getD_eq_getElem?_getD, List.getElem?_eq_getElem h.2]; rfl
  rw [hm] at hc
  by_cases c : ld b = 9
  · have h1 := vl_take_lt b 9
    have h2 := vl_take h.2
    rw [h2]
    have : b[ld b] ≤ 1 := by omega
    have : b[ld b] % 128 = b[ld b] := by omega
    rw [this]
    generalize b[ld b] = z at *
    rw [c]
    have e : (128 : Int) ^ 9 = 9223372036854775808 := by decide
    rw [e] at h1 ⊢
    omega
  · have h1 := vl_take_lt b (ld b + 1)
    have : (128 : Int) ^ (ld b + 1) ≤ 128 ^ 9 := by
      have := Nat.pow_le_pow_right (n := 128) (by decide) (show ld b + 1 ≤ 9 by omega)
      exact_mod_cast this
    have e : (128 : Int) ^ 9 = 9223372036854775808 := by decide
    omega
theorem rtake {b : List Int} (hl : b.length ≤ 1099511627776) (hb : ∀ x ∈ b, U8 x) : ref01_Take b = some (tkM b) := by
  unfold ref01_Take tkM
  rw [rend hl, Option.bind_some]
  by_cases c : ld b < 10 ∧ ld b < b.length
  · have hz := hb _ (List.getElem_mem c.2)
    have hm : b.getD (ld b) 0 = b[ld b] := by rw [List.getD_eq_getElem?_getD, List.getElem?_eq_getElem c.2]; rfl
    have hn : ¬ ((ld b : Nat) : Int) < 0 := by omega
    rw [if_pos c, if_neg hn, Option.bind_some, if_neg (by decide), if_neg hn, rdo_get c.2, Option.bind_some, tst, Option.bind_some, if_pos c]
    by_cases c1 : (b.getD (ld b) 0 = 0 ∧ 0 < ld b) ∨ (ld b = 9 ∧ 1 < b.getD (ld b) 0)
    · rw [if_pos c1]
      rw [hm] at c1
      rw [decide_eq_true (by omega), if_pos rfl]
    · rw [if_neg c1]
      have hf := vl_form c c1 hb
      rw [hm] at c1
      rw [decide_eq_false (by omega), if_neg (by decide)]
      have run : ∀ j : Nat, j ≤ ld b + 1 → loopO (ref01_Take_s0 b) (vl ((b.take (ld b + 1)).drop j), (j : Int) - 1) = some (vl (b.take (ld b + 1))) := by
        intro j
        induction j with
        | zero =>
          intro _
          refine loopO_done ?_
          unfold ref01_Take_s0
          simp only []
          rw [if_neg (by omega)]
          rfl
        | succ j ih =>
          intro hj
          have hjl : j < b.length := by omega
          have hz2 := hb _ (List.getElem_mem hjl)
          have hd : (b.take (ld b + 1)).drop j = b[j] :: (b.take (ld b + 1)).drop (j + 1) := by
            rw [List.drop_eq_getElem_cons (by rw [List.length_take]; omega), List.getElem_take]
          have h1 : vl ((b.take (ld b + 1)).drop j) = b[j] % 128 + 128 * vl ((b.take (ld b + 1)).drop (j + 1)) := by rw [hd, vl]
          have h2 := vl_drop (b.take (ld b + 1)) j
          have h3 := vl_pos ((b.take (ld b + 1)).drop (j + 1))
          refine (loopO_next ?_).trans (ih (by omega))
          unfold ref01_Take_s0
          simp only []
          rw [if_pos (by omega), show ((j + 1 : Nat) : Int) - 1 = (j : Int) by omega, rdo_get hjl, Option.bind_some, h1, Int.tmod_eq_emod_of_nonneg (by omega), wu64_of (x := 128 * _) (by omega) (by omega), wu64_of (x := b[j] % 128) (by omega) (by omega), wu64_of (by omega) (by omega), wi64_of (by omega) (by omega), Int.add_comm]
      have := run (ld b + 1) (Nat.le_refl _)
      rw [List.drop_of_length_le (by rw [List.length_take]; omega)] at this
      have e : ((ld b + 1 : Nat) : Int) - 1 = ((ld b : Nat) : Int) := by omega
      rw [e] at this
      have e0 : vl [] = 0 := rfl
      rw [e0] at this
      rw [this, Option.bind_some, wi64_of (by omega) (by omega)]
  · rw [if_neg c, if_pos (by decide), Option.bind_some, if_neg c]
    by_cases d : 10 ≤ (b.length : Int)
    · rw [decide_eq_true d, if_pos rfl, if_pos (by omega)]
    · rw [decide_eq_false d, if_neg (by decide), if_pos (by decide), if_neg (by omega)]
theorem tkM_err (b : List Int) : (tkM b).2.2 ≠ 0 → (tkM b).1 = 0 ∧ (tkM b).2.1 = 0 := by
  unfold tkM
  split
  · split
    · exact fun _ => ⟨rfl, rfl⟩
    · exact fun h => absurd rfl h
  · split <;> exact fun _ => ⟨rfl, rfl⟩
end Go.Proofs.Ytbeknohemgjfbaa.Pu
