import Derived.Test.YtbeknohemgjfbaaP1v
import Derived.Test.YtbeknohemgjfbaaQcv
namespace Go.Proofs.Ytbeknohemgjfbaa.Pu
set_option linter.unusedVariables false

section loops
variable {S R : Type} {step : S → Option (S ⊕ R)}
theorem loopO_run (f : Nat → S) (n : Nat) {r : R} (h1 : ∀ k, k < n → step (f k) = some (.inl (f (k + 1)))) (h2 : step (f n) = some (.inr r)) : loopO step (f 0) = some r := by
  have aux : ∀ m k, k + m = n → loopO step (f k) = some r := by
    intro m
    induction m with
    | zero => intro k hk; obtain rfl : k = n := by omega
              exact loopO_done h2
    | succ m ih => intro k hk; rw [loopO_next (h1 k (by omega))]; exact ih (k + 1) (by omega)
  exact aux n 0 (by omega)
theorem loopO_to (Inv : Nat → S → Prop) (Post : R → Prop) (h : ∀ n s, Inv n s → (∃ s', step s = some (.inl s') ∧ ∃ m, m < n ∧ Inv m s') ∨ (∃ r, step s = some (.inr r) ∧ Post r)) : ∀ n s, Inv n s → ∃ r, loopO step s = some r ∧ Post r := by
  intro n
  induction n using Nat.strongRecOn with
  | _ n ih =>
    intro s hs
    rcases h n s hs with ⟨s', h1, m, hm, hi⟩ | ⟨r, h1, hp⟩
    · rw [loopO_next h1]; exact ih m hm s' hi
    · exact ⟨r, loopO_done h1, hp⟩
end loops

theorem rdo_get {α : Type} {xs : List α} {i : Nat} (h : i < xs.length) : rdo xs (i : Int) = some xs[i] := by rw [rdo_nat]; exact List.getElem?_eq_getElem h
abbrev Sp := Int × Int
abbrev I64 (x : Int) : Prop := -9223372036854775808 ≤ x ∧ x < 9223372036854775808
abbrev U64 (x : Int) : Prop := 0 ≤ x ∧ x < 18446744073709551616
abbrev U8 (x : Int) : Prop := 0 ≤ x ∧ x < 256

def prs : List Sp → List Sp
  | a :: b :: t => (a.1, b.2) :: prs t
  | _ => []
def npr (n most : Nat) : Nat := (n - most + 1) / 2
def goes (most : Nat) (A : List Sp) : List Sp := prs (A.take (2 * npr A.length most))
def mostN (k i : Nat) : Nat := if i = 0 then k + 1 else (k + 1) / 2 + 1
def shape (k : Nat) : Nat → List (List Sp) → Prop
  | _, [] => True
  | i, l :: ls => 1 ≤ l.length ∧ l.length ≤ mostN k i ∧ (ls ≠ [] → mostN k i ≤ l.length + 1) ∧ shape k (i + 1) ls
def InTurn (l : List Sp) : Prop := l.Pairwise (fun a b => a.2 ≤ b.1) ∧ ∀ a ∈ l, a.1 ≤ a.2
theorem InTurn.app {l m : List Sp} : InTurn (l ++ m) ↔ InTurn l ∧ InTurn m ∧ ∀ a ∈ l, ∀ b ∈ m, a.2 ≤ b.1 := by
  unfold InTurn
  rw [List.pairwise_append]
  constructor
  · rintro ⟨⟨h1, h2, h3⟩, h4⟩
    exact ⟨⟨h1, fun a ha => h4 a (List.mem_append_left _ ha)⟩, ⟨h2, fun a ha => h4 a (List.mem_append_right _ ha)⟩, h3⟩
  · rintro ⟨⟨h1, h2⟩, ⟨h3, h4⟩, h5⟩
    exact ⟨⟨h1, h3, h5⟩, fun a ha => (List.mem_append.1 ha).elim (h2 a) (h4 a)⟩
theorem InTurn.cons {a : Sp} {l : List Sp} : InTurn (a :: l) ↔ a.1 ≤ a.2 ∧ InTurn l ∧ ∀ b ∈ l, a.2 ≤ b.1 := by
  have := @InTurn.app [a] l
  simp only [List.singleton_append, List.mem_singleton, forall_eq] at this
  rw [this]
  simp [InTurn]
theorem InTurn.nil : InTurn [] := ⟨List.Pairwise.nil, fun a h => by cases h⟩
end Go.Proofs.Ytbeknohemgjfbaa.Pu
namespace Go.Proofs.Ytbeknohemgjfbaa.Pu
set_option linter.unusedVariables false

section bits
theorem ofInt_nat {n a : Nat} (h : a < 2 ^ n) : (BitVec.ofInt n (a : Int)).toNat = a := by
  rw [BitVec.toNat_ofInt]
  have e : ((2 ^ n : Nat) : Int) = (2 : Int) ^ n := by simp
  rw [← Int.natCast_emod, Int.toNat_natCast, Nat.mod_eq_of_lt h]
theorem andk_nat {n a b : Nat} (ha : a < 2 ^ n) (hb : b < 2 ^ n) : andk n (a : Int) (b : Int) = ((a &&& b : Nat) : Int) := by
  unfold andk
  rw [BitVec.toNat_and, ofInt_nat ha, ofInt_nat hb]
theorem ork_nat {n a b : Nat} (ha : a < 2 ^ n) (hb : b < 2 ^ n) : ork n (a : Int) (b : Int) = ((a ||| b : Nat) : Int) := by
  unfold ork
  rw [BitVec.toNat_or, ofInt_nat ha, ofInt_nat hb]
theorem and127 (m : Nat) : m &&& 127 = m % 128 := Nat.and_two_pow_sub_one_eq_mod m 7
theorem and127_64 {m : Nat} (h : m < 2 ^ 64) : andk 64 (m : Int) 127 = ((m % 128 : Nat) : Int) := by
  rw [show (127 : Int) = ((127 : Nat) : Int) from rfl, andk_nat h (by decide), and127]
theorem and127_8 {m : Nat} (h : m < 256) : andk 8 (m : Int) 127 = ((m % 128 : Nat) : Int) := by
  rw [show (127 : Int) = ((127 : Nat) : Int) from rfl, andk_nat h (by decide), and127]
theorem or128_8 {m : Nat} (h : m < 128) : ork 8 (m : Int) 128 = ((m + 128 : Nat) : Int) := by
  rw [show (128 : Int) = ((128 : Nat) : Int) from rfl, ork_nat (by omega) (by decide)]
  congr 1
  have := Nat.two_pow_add_eq_or_of_lt (i := 7) (b := m) (by omega) 1
  rw [Nat.or_comm]
  simp at this
  omega
theorem shr7 (m : Nat) : shrk 64 (m : Int) 7 = ((m / 128 : Nat) : Int) := by
  unfold shrk
  show Int.fdiv (m : Int) (2 ^ 7) = _
  rw [Int.fdiv_eq_ediv_of_nonneg _ (by decide)]
  norm_cast
theorem set7 {a z i : Nat} (ha : a < 2 ^ (7 * i)) (hz : z < 256) (hi : i ≤ 9) (ht : a + z % 128 * 2 ^ (7 * i) < 2 ^ 64) :
    wu64 (ork 64 (a : Int) (wu64 (shlk 64 (wu64 (wu8 (andk 8 (z : Int) 127))) (wi64 (7 * (i : Int)))))) = ((a + z % 128 * 2 ^ (7 * i) : Nat) : Int) := by
  rw [and127_8 hz, wu8_of (x := ((z % 128 : Nat) : Int)) (by omega) (by omega), wu64_of (x := ((z % 128 : Nat) : Int)) (by omega) (by omega), wi64_of (by omega) (by omega)]
  have e1 : shlk 64 ((z % 128 : Nat) : Int) (7 * (i : Int)) = ((z % 128 * 2 ^ (7 * i) : Nat) : Int) := by
    unfold shlk
    have : min (7 * (i : Int)).toNat 64 = 7 * i := by omega
    rw [this]
    push_cast
    rfl
  have e2 : 2 ^ (7 * i) ≤ 2 ^ 63 := Nat.pow_le_pow_right (by decide) (by omega)
  rw [e1, wu64_of (x := ((z % 128 * 2 ^ (7 * i) : Nat) : Int)) (by omega) (by omega), ork_nat (by omega) (by omega)]
  have e3 : a ||| z % 128 * 2 ^ (7 * i) = a + z % 128 * 2 ^ (7 * i) := by
    rw [Nat.or_comm, Nat.mul_comm, ← Nat.two_pow_add_eq_or_of_lt ha]; omega
  rw [e3, wu64_of (by omega) (by omega)]
end bits

def dg (n : Nat) : List Int := if n < 128 then [(n : Int)] else ((n % 128 + 128 : Nat) : Int) :: dg (n / 128)
termination_by n
decreasing_by omega
theorem dg_lo {n : Nat} (h : n < 128) : dg n = [(n : Int)] := by rw [dg, if_pos h]
theorem dg_hi {n : Nat} (h : ¬ n < 128) : dg n = ((n % 128 + 128 : Nat) : Int) :: dg (n / 128) := by rw [dg, if_neg h]
theorem dg_pos (n : Nat) : 0 < (dg n).length := by
  by_cases h : n < 128
  · rw [dg_lo h]; simp
  · rw [dg_hi h]; simp
theorem dg_le (k : Nat) : ∀ n, (dg n).length ≤ k + 1 ↔ n < 128 ^ (k + 1) := by
  induction k with
  | zero =>
    intro n
    by_cases h : n < 128
    · rw [dg_lo h]; simpa using h
    · rw [dg_hi h]
      have := dg_pos (n / 128)
      simp only [List.length_cons, Nat.zero_add, Nat.pow_one]
      omega
  | succ k ih =>
    intro n
    have hp : 128 ^ (k + 1 + 1) = 128 ^ (k + 1) * 128 := Nat.pow_succ ..
    have hp2 : 1 ≤ 128 ^ (k + 1) := Nat.pow_pos (by decide)
    by_cases h : n < 128
    · rw [dg_lo h]; simp only [List.length_cons, List.length_nil]; omega
    · rw [dg_hi h, List.length_cons]
      have := ih (n / 128)
      rw [Nat.add_le_add_iff_right, this, hp, Nat.div_lt_iff_lt_mul (by decide)]
theorem dg_ten {n : Nat} (h : n < 18446744073709551616) : (dg n).length ≤ 10 := (dg_le 9 n).2 (by omega)
theorem dg_u8 : ∀ n, ∀ x ∈ dg n, U8 x := by
  intro n
  induction n using Nat.strongRecOn with
  | _ n ih =>
    by_cases h : n < 128
    · rw [dg_lo h]; intro x hx; rw [List.mem_singleton] at hx; subst hx; omega
    · rw [dg_hi h]
      intro x hx
      rcases List.mem_cons.1 hx with rfl | hx
      · omega
      · exact ih _ (by omega) x hx
def vl : List Int → Int
  | [] => 0
  | x :: xs => x % 128 + 128 * vl xs
theorem vl_pos (xs : List Int) : 0 ≤ vl xs := by
  induction xs with
  | nil => exact Int.le_refl _
  | cons x xs ih => rw [vl]; omega
theorem vl_dg : ∀ n : Nat, vl (dg n) = n := by
  intro n
  induction n using Nat.strongRecOn with
  | _ n ih =>
    by_cases h : n < 128
    · rw [dg_lo h, vl, vl]; omega
    · rw [dg_hi h, vl, ih _ (by omega)]; omega
theorem vl_lt (xs : List Int) : vl xs < 128 ^ xs.length := by
  induction xs with
  | nil => decide
  | cons x xs ih => rw [vl, List.length_cons, Int.pow_succ]; omega
theorem vl_app (xs : List Int) (z : Int) : vl (xs ++ [z]) = vl xs + z % 128 * 128 ^ xs.length := by
  induction xs with
  | nil => simp [vl]
  | cons x xs ih =>
    rw [List.cons_append, vl, vl, ih, List.length_cons, Int.pow_succ]
    have e : 128 * (z % 128 * 128 ^ xs.length) = z % 128 * (128 ^ xs.length * 128) := by ac_rfl
    rw [Int.mul_add, e]; omega

theorem vput_loop : ∀ (n : Nat) (d : List Int), n < 18446744073709551616 → d.length + (dg n).length ≤ 1000 →
    ∃ q, loopO (varint_digits_1_s0 (yl varint_Put_r0)) (((n : Int), .inl d) : Int × (List Int ⊕ Empty)) = some (q, .inl (d ++ dg n)) := by
  intro n
  induction n using Nat.strongRecOn with
  | _ n ih =>
    intro d hn hd
    have hr : ∀ k, k ≤ 1000 → room k 1 = some () := fun k hk => room_of (by omega) (by omega)
    have hp := dg_pos n
    have e0 : wu8 (wu64 (andk 64 (n : Int) 127)) = ((n % 128 : Nat) : Int) := by
      rw [and127_64 hn, wu64_of (by omega) (by omega), wu8_of (by omega) (by omega)]
    by_cases h : n < 128
    · have c1 : ¬ ((127 : Int) < (n : Int)) := by omega
      refine ⟨(n : Int), loopO_done ?_⟩
      unfold varint_digits_1_s0 yl varint_Put_r0
      simp only [e0, c1, decide_false, Bool.false_eq_true, if_false, Option.map, Option.bind, hr _ (show d.length + [((n % 128 : Nat) : Int)].length ≤ 1000 by simp only [List.length_cons, List.length_nil]; omega), not_true, not_false_iff, if_true]
      rw [dg_lo h, Nat.mod_eq_of_lt h]
    · have c1 : (127 : Int) < (n : Int) := by omega
      rw [dg_hi h] at hd
      rw [List.length_cons] at hd
      have e1 : wu8 (ork 8 ((n % 128 : Nat) : Int) 128) = ((n % 128 + 128 : Nat) : Int) := by
        rw [or128_8 (by omega), wu8_of (by omega) (by omega)]
      have hs : varint_digits_1_s0 (yl varint_Put_r0) (((n : Int), .inl d) : Int × (List Int ⊕ Empty)) = some (.inl (((n / 128 : Nat) : Int), .inl (d ++ [((n % 128 + 128 : Nat) : Int)]))) := by
        unfold varint_digits_1_s0 yl varint_Put_r0
        simp only [e0, c1, decide_true, if_true, e1, Option.map, Option.bind, hr _ (show d.length + [((n % 128 + 128 : Nat) : Int)].length ≤ 1000 by simp only [List.length_cons, List.length_nil]; omega), not_true, if_false, shr7]
      obtain ⟨q, hq⟩ := ih (n / 128) (by omega) (d ++ [((n % 128 + 128 : Nat) : Int)]) (by omega) (by simp only [List.length_append, List.length_cons, List.length_nil]; omega)
      refine ⟨q, ?_⟩
      rw [loopO_next hs, hq, dg_hi h, List.append_assoc]
      rfl
theorem vput {n : Nat} (h : n < 18446744073709551616) : varint_Put (n : Int) = some (dg n) := by
  obtain ⟨q, hq⟩ := vput_loop n [] h (by have := dg_ten h; simp only [List.length_nil]; omega)
  unfold varint_Put varint_digits varint_digits_1
  simp only [Option.bind_some]
  rw [hq]
  rfl
theorem rput_rec : ∀ (k n : Nat), n < 18446744073709551616 → (dg n).length ≤ k → k ≤ 1000 → itR ref01_Put_F k (n : Int) = some (dg n) := by
  intro k
  induction k with
  | zero => intro n _ h; have := dg_pos n; omega
  | succ k ih =>
    intro n hn hk hk2
    rw [itR]
    by_cases h : n < 128
    · unfold ref01_Put_F
      rw [if_pos (by omega), dg_lo h, wu8_of (by omega) (by omega)]
    · rw [dg_hi h, List.length_cons] at hk
      have e1 : wu64 ((n : Int).tdiv 128) = ((n / 128 : Nat) : Int) := by
        rw [Int.tdiv_eq_ediv_of_nonneg (by omega), wu64_of (by omega) (by omega)]; omega
      have e2 : wu8 (wu64 (128 + (n : Int).tmod 128)) = ((n % 128 + 128 : Nat) : Int) := by
        rw [Int.tmod_eq_emod_of_nonneg (by omega), wu64_of (by omega) (by omega), wu8_of (by omega) (by omega)]; omega
      have e3 : ref01_Put_F (itR ref01_Put_F k) (n : Int) = ((itR ref01_Put_F k (wu64 ((n : Int).tdiv 128))).bind fun r2 => (room ([wu8 (wu64 (128 + ((n : Int).tmod 128)))].length + r2.length) 1).bind fun _ => some ([wu8 (wu64 (128 + ((n : Int).tmod 128)))] ++ r2)) := by
        show (if (n : Int) < 128 then _ else _) = _
        rw [if_neg (by omega)]
      rw [e3, e1, ih _ (by omega) (by omega) (by omega), Option.bind_some, e2, room_of (by simp only [List.length_cons, List.length_nil]; omega) (by simp only [List.length_cons, List.length_nil]; omega), Option.bind_some, dg_hi h]
      rfl
theorem rput {n : Nat} (h : n < 18446744073709551616) : ref01_Put (n : Int) = some (dg n) := by
  have := dg_ten h
  exact rput_rec 1000 n h (by omega) (Nat.le_refl _)

def ld : List Int → Nat
  | [] => 0
  | x :: xs => if 128 ≤ x then ld xs + 1 else 0
theorem ld_le (b : List Int) : ld b ≤ b.length := by
  induction b with
  | nil => exact Nat.le_refl _
  | cons x xs ih => rw [ld]; split <;> simp only [List.length_cons] <;> omega
theorem ld_hi {b : List Int} : ∀ {i : Nat} (h : i < b.length), i < ld b → 128 ≤ b[i] := by
  induction b with
  | nil => intro i h; simp at h
  | cons x xs ih =>
    intro i h hi
    rw [ld] at hi
    split at hi
    · cases i with
      | zero => assumption
      | succ i => exact ih (by simpa using h) (by omega)
    · omega
theorem ld_lo {b : List Int} : ∀ (h : ld b < b.length), b[ld b] < 128 := by
  induction b with
  | nil => intro h; simp at h
  | cons x xs ih =>
    by_cases hx : 128 ≤ x
    · have e : ld (x :: xs) = ld xs + 1 := by rw [ld, if_pos hx]
      simp only [e, List.length_cons, List.getElem_cons_succ]
      intro h
      exact ih (by omega)
    · have e : ld (x :: xs) = 0 := by rw [ld, if_neg hx]
      simp only [e, List.getElem_cons_zero]
      intro _; omega
def tkM (b : List Int) : Int × Int × Int :=
  if ld b < 10 ∧ ld b < b.length then (if (b.getD (ld b) 0 = 0 ∧ 0 < ld b) ∨ (ld b = 9 ∧ 1 < b.getD (ld b) 0) then (0, 0, 2) else (vl (b.take (ld b + 1)), ld b + 1, 0)) else if 10 ≤ b.length then (0, 0, 2) else (0, 0, 3)
theorem tst (z i : Int) : ((if z = 0 then (if 0 < i then (some true) else (if i = 9 then (some (decide (1 < z))) else (some false))) else (if i = 9 then (some (decide (1 < z))) else (some false))) : Option Bool) = some (decide ((z = 0 ∧ 0 < i) ∨ (i = 9 ∧ 1 < z))) := by
  by_cases d1 : z = 0
  · rw [if_pos d1]
    by_cases d3 : 0 < i
    · rw [if_pos d3, decide_eq_true (.inl ⟨d1, d3⟩)]
    · rw [if_neg d3, if_neg (by omega), decide_eq_false (by omega)]
  · rw [if_neg d1]
    by_cases d2 : i = 9
    · rw [if_pos d2]; congr 1; rw [decide_eq_decide]; omega
    · rw [if_neg d2, decide_eq_false (by omega)]
theorem vl_take {b : List Int} {i : Nat} (h : i < b.length) : vl (b.take (i + 1)) = vl (b.take i) + b[i] % 128 * 128 ^ i := by
  rw [List.take_succ_eq_append_getElem h, vl_app, List.length_take, Nat.min_eq_left (by omega)]
theorem pow128 (i : Nat) : (128 : Int) ^ i = 2 ^ (7 * i) := by
  rw [show (128 : Int) = 2 ^ 7 from rfl, ← Int.pow_mul]
theorem vl_take_lt (b : List Int) (i : Nat) : vl (b.take i) < 128 ^ i := by
  refine Int.lt_of_lt_of_le (vl_lt _) ?_
  have h : (b.take i).length ≤ i := by rw [List.length_take]; omega
  have := Nat.pow_le_pow_right (n := 128) (by decide) h
  exact_mod_cast this
theorem set7I {b : List Int} {i : Nat} (h : i < b.length) (hz : U8 b[i]) (hi : i ≤ 8 ∨ (i = 9 ∧ b[i] ≤ 1)) :
    wu64 (ork 64 (vl (b.take i)) (wu64 (shlk 64 (wu64 (wu8 (andk 8 b[i] 127))) (wi64 (7 * (i : Int)))))) = vl (b.take (i + 1)) := by
  have ha := vl_pos (b.take i)
  have hl := vl_take_lt b i
  rw [vl_take h]
  obtain ⟨z, hz'⟩ : ∃ z : Nat, b[i] = z := ⟨b[i].toNat, by omega⟩
  obtain ⟨a, ha'⟩ : ∃ a : Nat, vl (b.take i) = a := ⟨(vl (b.take i)).toNat, by omega⟩
  rw [ha'] at hl
  rw [hz'] at hi hz
  rw [hz', ha']
  rw [pow128] at hl ⊢
  have hl' : a < 2 ^ (7 * i) := by exact_mod_cast hl
  have hb : a + z % 128 * 2 ^ (7 * i) < 2 ^ 64 := by
    rcases hi with hi | ⟨rfl, hi⟩
    · have e2 : 2 ^ (7 * i) ≤ 2 ^ 56 := Nat.pow_le_pow_right (by decide) (by omega)
      have e3 : z % 128 * 2 ^ (7 * i) ≤ 127 * 2 ^ 56 := Nat.mul_le_mul (by omega) e2
      omega
    · have : z % 128 = z := by omega
      rw [this]
      have : z ≤ 1 := by omega
      have e3 : z * 2 ^ (7 * 9) ≤ 1 * 2 ^ 63 := Nat.mul_le_mul this (Nat.le_refl _)
      omega
  rw [set7 hl' (by omega) (by omega) hb]
  push_cast
  rfl
theorem vtake {b : List Int} (hl : b.length ≤ 1099511627776) (hb : ∀ x ∈ b, U8 x) : varint_Take b = some (tkM b) := by
  unfold varint_Take
  have hmin : (min (b.length : Int) 10) = ((min b.length 10 : Nat) : Int) := by omega
  have hlh := ld_le b
  have step : ∀ i : Nat, i < ld b → i < 9 → varint_Take_s0 b (vl (b.take i), (i : Int)) = some (.inl (vl (b.take (i + 1)), ((i + 1 : Nat) : Int))) := by
    intro i h h9
    have hi : i < b.length := by omega
    have hz := hb _ (List.getElem_mem hi)
    have h2 := ld_hi hi h
    unfold varint_Take_s0
    simp only []
    rw [if_pos (by omega), rdo_get hi, Option.bind_some, must_of (by rw [wi64_of (by omega) (by omega)]; omega), Option.bind_some, if_pos h2, set7I hi hz (.inl (by omega)), wi64_of (by omega) (by omega)]
    rfl
  have run : ∀ n, n ≤ ld b → n ≤ 9 → loopO (varint_Take_s0 b) (0, 0) = loopO (varint_Take_s0 b) (vl (b.take n), (n : Int)) := by
    intro n
    induction n with
    | zero => intro _ _; rfl
    | succ n ih => intro h1 h2; rw [ih (by omega) (by omega), loopO_next (step n (by omega) (by omega))]
  by_cases h10 : ld b < 10
  · by_cases hlt : ld b < b.length
    · have hz := hb _ (List.getElem_mem hlt)
      have hlo := ld_lo hlt
      have hm : b.getD (ld b) 0 = b[ld b] := by rw [List.getD_eq_getElem?_getD, List.getElem?_eq_getElem hlt]; rfl
      rw [run (ld b) (Nat.le_refl _) (by omega)]
      have hs : varint_Take_s0 b (vl (b.take (ld b)), ((ld b : Nat) : Int)) = some (.inr (.inl (tkM b))) := by
        have ht : tkM b = if (b[ld b] = 0 ∧ 0 < ld b) ∨ (ld b = 9 ∧ 1 < b[ld b]) then (0, 0, 2) else (vl (b.take (ld b + 1)), ((ld b : Nat) : Int) + 1, 0) := by unfold tkM; rw [if_pos ⟨h10, hlt⟩, hm]
        unfold varint_Take_s0
        simp only []
        have hlo' : ¬ (128 : Int) ≤ b[ld b] := by omega
        have hlt' : ((ld b : Nat) : Int) < min (b.length : Int) 10 := by omega
        rw [if_pos hlt', rdo_get hlt, Option.bind_some, must_of (by rw [wi64_of (by omega) (by omega)]; omega), Option.bind_some, if_neg hlo', tst, Option.bind_some, ht]
        by_cases c1 : (b[ld b] = 0 ∧ 0 < ld b) ∨ (ld b = 9 ∧ 1 < b[ld b])
        · rw [if_pos c1, if_pos (decide_eq_true (by omega))]
        · rw [if_neg c1, if_neg (by rw [decide_eq_false (by omega)]; decide), set7I hlt hz (by omega), wi64_of (by omega) (by omega)]
      rw [loopO_done hs]
      rfl
    · rw [run (ld b) (Nat.le_refl _) (by omega)]
      have hs : varint_Take_s0 b (vl (b.take (ld b)), ((ld b : Nat) : Int)) = some (.inr (.inr ())) := by
        unfold varint_Take_s0
        simp only []
        rw [if_neg (by omega)]
      rw [loopO_done hs]
      show (if 10 ≤ (b.length : Int) then _ else _) = _
      unfold tkM
      rw [if_neg (by omega), if_neg (by omega), if_neg (by omega)]
  · rw [run 9 (by omega) (Nat.le_refl _)]
    have hi : 9 < b.length := by omega
    have h2 := ld_hi hi (by omega)
    have hz := hb _ (List.getElem_mem hi)
    have hs : ∃ q, varint_Take_s0 b (vl (b.take 9), ((9 : Nat) : Int)) = some (.inl (q, 10)) := by
      unfold varint_Take_s0
      simp only []
      rw [if_pos (by omega), rdo_get hi, Option.bind_some, must_of (by decide), Option.bind_some, if_pos h2]
      exact ⟨_, rfl⟩
    obtain ⟨q, hs⟩ := hs
    have hs2 : varint_Take_s0 b (q, 10) = some (.inr (.inr ())) := by
      unfold varint_Take_s0
      simp only []
      rw [if_neg (by omega)]
    rw [loopO_next hs, loopO_done hs2]
    show (if 10 ≤ (b.length : Int) then _ else _) = _
    unfold tkM
    rw [if_pos (by omega), if_neg (by omega), if_pos (by omega)]
theorem rend {b : List Int} (hl : b.length ≤ 1099511627776) : ref01_end b = some (if ld b < 10 ∧ ld b < b.length then ((ld b : Nat) : Int) else -1) := by
  unfold ref01_end
  have hlh := ld_le b
  have step : ∀ i : Nat, i < ld b → i < 10 → ref01_end_s0 b (i : Int) = some (.inl ((i + 1 : Nat) : Int)) := by
    intro i h h9
    have hi : i < b.length := by omega
    have h2 := ld_hi hi h
    unfold ref01_end_s0
    rw [if_pos (by omega), if_pos (by omega), rdo_get hi, Option.bind_some, if_neg (by omega), wi64_of (by omega) (by omega)]
    rfl
  have run : ∀ n, n ≤ ld b → n ≤ 10 → loopO (ref01_end_s0 b) 0 = loopO (ref01_end_s0 b) (n : Int) := by
    intro n
    induction n with
    | zero => intro _ _; rfl
    | succ n ih => intro h1 h2; rw [ih (by omega) (by omega), loopO_next (step n (by omega) (by omega))]
  by_cases c : ld b < 10 ∧ ld b < b.length
  · have hlo := ld_lo c.2
    rw [run (ld b) (Nat.le_refl _) (by omega), if_pos c]
    have hs : ref01_end_s0 b ((ld b : Nat) : Int) = some (.inr (.inl ((ld b : Nat) : Int))) := by
      unfold ref01_end_s0
      rw [if_pos (by omega), if_pos (by omega), rdo_get c.2, Option.bind_some, if_pos hlo]
    rw [loopO_done hs]
    rfl
  · rw [run (min (ld b) 10) (by omega) (by omega), if_neg c]
    have hs : ref01_end_s0 b ((min (ld b) 10 : Nat) : Int) = some (.inr (.inr ())) := by
      unfold ref01_end_s0
      by_cases d : ((min (ld b) 10 : Nat) : Int) < (b.length : Int)
      · rw [if_pos d, if_neg (by omega)]
      · rw [if_neg d]
    rw [loopO_done hs]
    rfl
theorem vl_drop (l : List Int) (k : Nat) : vl (l.drop k) ≤ vl l := by
  induction k generalizing l with
  | zero => exact Int.le_refl _
  | succ k ih =>
    cases l with
    | nil => exact Int.le_refl _
    | cons x xs =>
      have := ih xs
      have := vl_pos xs
      rw [List.drop_succ_cons, vl]
      omega
theorem vl_form {b : List Int} (h : ld b < 10 ∧ ld b < b.length) (hc : ¬ ((b.getD (ld b) 0 = 0 ∧ 0 < ld b) ∨ (ld b = 9 ∧ 1 < b.getD (ld b) 0))) (hb : ∀ x ∈ b, U8 x) : vl (b.take (ld b + 1)) < 18446744073709551616 := by
  have hz := hb _ (List.getElem_mem h.2)
  have hm : b.getD (ld b) 0 = b[ld b] := by rw [List.getD_eq_getElem?_getD, List.getElem?_eq_getElem h.2]; rfl
  rw [hm] at hc
  by_cases c : ld b = 9
  · have h1 := vl_take_lt b 9
    have h2 := vl_take h.2
    rw [h2]
    have : b[ld b] ≤ 1 := by omega
    have : b[ld b] % 128 = b[ld b] := by omega
    rw [this]
    generalize b[ld b] = z at *
    rw [c]
    have e : (128 : Int) ^ 9 = 9223372036854775808 := by decide
    rw [e] at h1 ⊢
    omega
  · have h1 := vl_take_lt b (ld b + 1)
    have : (128 : Int) ^ (ld b + 1) ≤ 128 ^ 9 := by
      have := Nat.pow_le_pow_right (n := 128) (by decide) (show ld b + 1 ≤ 9 by omega)
      exact_mod_cast this
    have e : (128 : Int) ^ 9 = 9223372036854775808 := by decide
    omega
theorem rtake {b : List Int} (hl : b.length ≤ 1099511627776) (hb : ∀ x ∈ b, U8 x) : ref01_Take b = some (tkM b) := by
  unfold ref01_Take tkM
  rw [rend hl, Option.bind_some]
  by_cases c : ld b < 10 ∧ ld b < b.length
  · have hz := hb _ (List.getElem_mem c.2)
    have hm : b.getD (ld b) 0 = b[ld b] := by rw [List.getD_eq_getElem?_getD, List.getElem?_eq_getElem c.2]; rfl
    have hn : ¬ ((ld b : Nat) : Int) < 0 := by omega
    rw [if_pos c, if_neg hn, Option.bind_some, if_neg (by decide), if_neg hn, rdo_get c.2, Option.bind_some, tst, Option.bind_some, if_pos c]
    by_cases c1 : (b.getD (ld b) 0 = 0 ∧ 0 < ld b) ∨ (ld b = 9 ∧ 1 < b.getD (ld b) 0)
    · rw [if_pos c1]
      rw [hm] at c1
      rw [decide_eq_true (by omega), if_pos rfl]
    · rw [if_neg c1]
      have hf := vl_form c c1 hb
      rw [hm] at c1
      rw [decide_eq_false (by omega), if_neg (by decide)]
      have run : ∀ j : Nat, j ≤ ld b + 1 → loopO (ref01_Take_s0 b) (vl ((b.take (ld b + 1)).drop j), (j : Int) - 1) = some (vl (b.take (ld b + 1))) := by
        intro j
        induction j with
        | zero =>
          intro _
          refine loopO_done ?_
          unfold ref01_Take_s0
          simp only []
          rw [if_neg (by omega)]
          rfl
        | succ j ih =>
          intro hj
          have hjl : j < b.length := by omega
          have hz2 := hb _ (List.getElem_mem hjl)
          have hd : (b.take (ld b + 1)).drop j = b[j] :: (b.take (ld b + 1)).drop (j + 1) := by
            rw [List.drop_eq_getElem_cons (by rw [List.length_take]; omega), List.getElem_take]
          have h1 : vl ((b.take (ld b + 1)).drop j) = b[j] % 128 + 128 * vl ((b.take (ld b + 1)).drop (j + 1)) := by rw [hd, vl]
          have h2 := vl_drop (b.take (ld b + 1)) j
          have h3 := vl_pos ((b.take (ld b + 1)).drop (j + 1))
          refine (loopO_next ?_).trans (ih (by omega))
          unfold ref01_Take_s0
          simp only []
          rw [if_pos (by omega), show ((j + 1 : Nat) : Int) - 1 = (j : Int) by omega, rdo_get hjl, Option.bind_some, h1, Int.tmod_eq_emod_of_nonneg (by omega), wu64_of (x := 128 * _) (by omega) (by omega), wu64_of (x := b[j] % 128) (by omega) (by omega), wu64_of (by omega) (by omega), wi64_of (by omega) (by omega), Int.add_comm]
      have := run (ld b + 1) (Nat.le_refl _)
      rw [List.drop_of_length_le (by rw [List.length_take]; omega)] at this
      have e : ((ld b + 1 : Nat) : Int) - 1 = ((ld b : Nat) : Int) := by omega
      rw [e] at this
      have e0 : vl [] = 0 := rfl
      rw [e0] at this
      rw [this, Option.bind_some, wi64_of (by omega) (by omega)]
  · rw [if_neg c, if_pos (by decide), Option.bind_some, if_neg c]
    by_cases d : 10 ≤ (b.length : Int)
    · rw [decide_eq_true d, if_pos rfl, if_pos (by omega)]
    · rw [decide_eq_false d, if_neg (by decide), if_pos (by decide), if_neg (by omega)]
end Go.Proofs.Ytbeknohemgjfbaa.Pu
namespace Go.Proofs.Ytbeknohemgjfbaa.Pu
set_option linter.unusedVariables false

theorem bstr_inj {xs ys : List Int} (hx : ∀ x ∈ xs, U8 x) (hy : ∀ y ∈ ys, U8 y) : bstr xs = bstr ys ↔ xs = ys := by
  constructor
  · intro h0
    have h : xs.map (fun n => UInt8.ofNat n.toNat) = ys.map (fun n => UInt8.ofNat n.toNat) := congrArg (fun b : ByteArray => b.data.toList) h0
    clear h0
    induction xs generalizing ys with
    | nil => cases ys with
      | nil => rfl
      | cons y ys => simp at h
    | cons x xs ih => cases ys with
      | nil => simp at h
      | cons y ys =>
        simp only [List.map_cons, List.cons.injEq] at h
        have h1 := hx x List.mem_cons_self
        have h2 := hy y List.mem_cons_self
        have h3 := congrArg UInt8.toNat h.1
        simp only [UInt8.toNat_ofNat'] at h3
        rw [Nat.mod_eq_of_lt (by omega), Nat.mod_eq_of_lt (by omega)] at h3
        rw [ih (fun z hz => hx z (List.mem_cons_of_mem _ hz)) (fun z hz => hy z (List.mem_cons_of_mem _ hz)) h.2, show x = y by omega]
  · intro h; rw [h]
theorem u64_nat {p : Int} (h : U64 p) : ∃ n : Nat, p = n ∧ n < 18446744073709551616 := ⟨p.toNat, by omega, by omega⟩
theorem ld_dg : ∀ (n : Nat) (t : List Int), ld (dg n ++ t) + 1 = (dg n).length := by
  intro n
  induction n using Nat.strongRecOn with
  | _ n ih =>
    intro t
    by_cases h : n < 128
    · rw [dg_lo h]
      simp only [List.cons_append, List.nil_append, List.length_cons, List.length_nil]
      rw [ld, if_neg (by omega)]
    · rw [dg_hi h, List.cons_append, ld, if_pos (by omega), ih _ (by omega), List.length_cons]
theorem ld_cut : ∀ (n j : Nat), j < (dg n).length → ld ((dg n).take j) = j := by
  intro n
  induction n using Nat.strongRecOn with
  | _ n ih =>
    intro j hj
    cases j with
    | zero => rfl
    | succ j =>
      by_cases h : n < 128
      · rw [dg_lo h] at hj; simp at hj
      · rw [dg_hi h, List.length_cons] at hj
        rw [dg_hi h, List.take_succ_cons, ld, if_pos (by omega), ih _ (by omega) j (by omega)]
theorem dg_last : ∀ (n k : Nat), k + 1 = (dg n).length → (0 < k → (dg n).getD k 0 ≠ 0) ∧ (dg n).getD k 0 = ((n / 128 ^ k : Nat) : Int) := by
  intro n
  induction n using Nat.strongRecOn with
  | _ n ih =>
    intro k hk
    by_cases h : n < 128
    · rw [dg_lo h] at hk ⊢
      have : k = 0 := by simpa using hk
      subst this
      exact ⟨by omega, by simp⟩
    · rw [dg_hi h, List.length_cons] at hk
      rw [dg_hi h]
      cases k with
      | zero => have := dg_pos (n / 128); omega
      | succ k =>
        obtain ⟨h1, h2⟩ := ih (n / 128) (by omega) k (by omega)
        rw [List.getD_cons_succ]
        refine ⟨fun _ => ?_, ?_⟩
        · cases k with
          | zero =>
            rw [h2]
            simp only [Nat.pow_zero, Nat.div_one]
            omega
          | succ k => exact h1 (by omega)
        · rw [h2, Nat.div_div_eq_div_mul, Nat.pow_succ, Nat.mul_comm]
theorem getD_app {xs ys : List Int} {k : Nat} (h : k < xs.length) : (xs ++ ys).getD k 0 = xs.getD k 0 := by
  rw [List.getD_eq_getElem?_getD, List.getD_eq_getElem?_getD, List.getElem?_append_left h]
theorem tkM_dg {n : Nat} (hn : n < 18446744073709551616) (t : List Int) : tkM (dg n ++ t) = ((n : Int), ((dg n).length : Int), 0) := by
  have h1 := ld_dg n t
  have h2 := dg_ten hn
  obtain ⟨h3, h4⟩ := dg_last n (ld (dg n ++ t)) h1
  have h5 : (dg n ++ t).getD (ld (dg n ++ t)) 0 = (dg n).getD (ld (dg n ++ t)) 0 := getD_app (by omega)
  unfold tkM
  rw [if_pos ⟨by omega, by rw [List.length_append]; omega⟩, h5]
  have c : ¬ (((dg n).getD (ld (dg n ++ t)) 0 = 0 ∧ 0 < ld (dg n ++ t)) ∨ (ld (dg n ++ t) = 9 ∧ 1 < (dg n).getD (ld (dg n ++ t)) 0)) := by
    rintro (⟨c1, c2⟩ | ⟨c1, c2⟩)
    · exact h3 c2 c1
    · rw [h4, c1] at c2
      have : n / 128 ^ 9 < 2 := by omega
      omega
  rw [if_neg c, h1]
  have e : (dg n ++ t).take (dg n).length = dg n := by simp
  rw [e, vl_dg, show ((ld (dg n ++ t) : Nat) : Int) + 1 = ((dg n).length : Int) by omega]
theorem tkM_cut {n j : Nat} (hn : n < 18446744073709551616) (hj : j < (dg n).length) : tkM ((dg n).take j) = (0, 0, 3) := by
  have h2 := dg_ten hn
  have h3 : ((dg n).take j).length = j := by rw [List.length_take]; omega
  unfold tkM
  rw [ld_cut n j hj, h3, if_neg (by omega), if_neg (by omega)]
theorem form_one : ∀ (l : List Int), (∀ x ∈ l, U8 x) → ld l + 1 = l.length → (0 < ld l → l.getD (ld l) 0 ≠ 0) → dg (vl l).toNat = l := by
  intro l
  induction l with
  | nil => intro _ h; simp [ld] at h
  | cons x xs ih =>
    intro hb hl h0
    have hx := hb x List.mem_cons_self
    have hv := vl_pos xs
    by_cases c : 128 ≤ x
    · have e : ld (x :: xs) = ld xs + 1 := by rw [ld, if_pos c]
      rw [e] at hl h0
      rw [List.length_cons] at hl
      rw [List.getD_cons_succ] at h0
      have h1 := ih (fun z hz => hb z (List.mem_cons_of_mem _ hz)) (by omega) (fun _ => h0 (by omega))
      have hv1 : 0 < vl xs := by
        rcases Int.lt_or_eq_of_le hv with h | h
        · exact h
        · exfalso
          rw [← h] at h1
          have h2 : xs = [0] := by rw [← h1]; rw [show (0 : Int).toNat = 0 from rfl, dg_lo (by decide)]; rfl
          rw [h2] at h0
          exact h0 (by omega) (by decide)
      have e2 : (vl (x :: xs)).toNat / 128 = (vl xs).toNat := by rw [vl]; omega
      have e3 : ((((vl (x :: xs)).toNat % 128 + 128 : Nat)) : Int) = x := by rw [vl]; omega
      rw [dg_hi (by rw [vl]; omega), e2, h1, e3]
    · have e : ld (x :: xs) = 0 := by rw [ld, if_neg c]
      rw [e, List.length_cons] at hl
      have : xs = [] := List.eq_nil_of_length_eq_zero (by omega)
      subst this
      rw [vl, vl, dg_lo (by omega)]
      congr 1
      omega
theorem ld_take {b : List Int} : ld b < b.length → ld (b.take (ld b + 1)) = ld b := by
  induction b with
  | nil => intro h; simp at h
  | cons x xs ih =>
    intro h
    by_cases hx : 128 ≤ x
    · have e : ld (x :: xs) = ld xs + 1 := by rw [ld, if_pos hx]
      rw [e, List.length_cons] at h
      rw [e, List.take_succ_cons, ld, if_pos hx, ih (by omega)]
    · have e : ld (x :: xs) = 0 := by rw [ld, if_neg hx]
      rw [e]
      simp only [Nat.zero_add, List.take_succ_cons, List.take_zero]
      rw [ld, if_neg hx]
theorem tkM_ok {b : List Int} (hb : ∀ x ∈ b, U8 x) (h : (tkM b).2.2 = 0) : 0 ≤ (tkM b).1 ∧ (tkM b).1 < 18446744073709551616 ∧ 0 ≤ (tkM b).2.1 ∧ (tkM b).2.1 ≤ b.length ∧ dg (tkM b).1.toNat = b.take (tkM b).2.1.toNat := by
  have he : ∀ q, tkM b = q → q.2.2 = 0 → 0 ≤ q.1 ∧ q.1 < 18446744073709551616 ∧ 0 ≤ q.2.1 ∧ q.2.1 ≤ b.length ∧ dg q.1.toNat = b.take q.2.1.toNat := by
    intro q hq hz
    unfold tkM at hq
    split at hq
    · rename_i c
      split at hq
      · subst hq; simp at hz
      · rename_i c1
        subst hq
        have hf := vl_form c c1 hb
        refine ⟨vl_pos _, hf, by simp only []; omega, by simp only []; omega, ?_⟩
        have e : (((ld b : Nat) : Int) + 1).toNat = ld b + 1 := by omega
        simp only [e]
        refine form_one _ (fun x hx => hb x (List.mem_of_mem_take hx)) ?_ ?_
        · rw [ld_take c.2, List.length_take]; omega
        · rw [ld_take c.2]
          intro h0 h1
          have e5 : (b.take (ld b + 1)).getD (ld b) 0 = b.getD (ld b) 0 := by rw [List.getD_eq_getElem?_getD, List.getD_eq_getElem?_getD, List.getElem?_take, if_pos (by omega)]
          exact c1 (.inl ⟨e5 ▸ h1, h0⟩)
    · split at hq <;> subst hq <;> simp at hz
  exact he _ rfl h
end Go.Proofs.Ytbeknohemgjfbaa.Pu
namespace Go.Proofs.Ytbeknohemgjfbaa.Pu
set_option linter.unusedVariables false

theorem nn {a : Prop} (h : a) : ¬ ¬ a := fun q => q h
abbrev Byt (l : List Int) : Prop := ∀ x ∈ l, U8 x
theorem cnum {n : Nat} (h : n < 18446744073709551616) : codec_Num (n : Int) = some (dg n) := by
  unfold codec_Num
  rw [vput h]; rfl
theorem rnum {n : Nat} (h : n < 18446744073709551616) : ref02_Num (n : Int) = some (dg n) := by
  unfold ref02_Num
  rw [rput h]; rfl
def bt (n : Int) (k : Nat) : Int := wu8 (shrk 64 n (8 * (k : Int)))
def fx (n : Int) : List Int := [bt n 7, bt n 6, bt n 5, bt n 4, bt n 3, bt n 2, bt n 1, bt n 0]
def fxs (n : Int) : Nat → List Int
  | 0 => List.replicate 8 (0 : Int)
  | k + 1 => (fxs n k).set (7 - k) (bt n k)
theorem fxs_len (n : Int) : ∀ k, (fxs n k).length = 8 := by
  intro k
  induction k with
  | zero => rfl
  | succ k ih => rw [fxs, List.length_set, ih]
def rfs (n : Int) : Nat → List Int
  | 0 => []
  | k + 1 => rfs n k ++ [bt n (7 - k)]
theorem rfs_len (n : Int) : ∀ k, (rfs n k).length = k := by
  intro k
  induction k with
  | zero => rfl
  | succ k ih => rw [rfs, List.length_append, ih]; rfl
theorem fx_byt (n : Int) : Byt (fx n) := by
  have : ∀ k, U8 (bt n k) := fun k => by unfold bt wu8; omega
  intro x hx
  simp only [fx, List.mem_cons, List.not_mem_nil, or_false] at hx
  rcases hx with rfl | rfl | rfl | rfl | rfl | rfl | rfl | rfl <;> exact this _
def v8 (l : List Int) : Int := l.foldl (fun a c => a * 256 + c) 0
theorem v8_app (l : List Int) (c : Int) : v8 (l ++ [c]) = v8 l * 256 + c := by unfold v8; rw [List.foldl_append]; rfl
theorem v8_bd : ∀ (k : Nat) (l : List Int), Byt l → l.length = k → 0 ≤ v8 l ∧ v8 l < 256 ^ k := by
  intro k
  induction k with
  | zero => intro l hb hl; have : l = [] := List.eq_nil_of_length_eq_zero hl; subst this; decide
  | succ k ih =>
    intro l hb hl
    have hne : l ≠ [] := fun q => by subst q; simp at hl
    rw [← List.dropLast_concat_getLast hne] at hb ⊢
    have h1 := ih l.dropLast (fun x hx => hb x (List.mem_append_left _ hx)) (by rw [List.length_dropLast]; omega)
    have h2 := hb (l.getLast hne) (List.mem_append_right _ (List.mem_singleton.2 rfl))
    rw [v8_app, Int.pow_succ]
    omega
theorem v8_take {b : List Int} {i : Nat} (h : i < b.length) : v8 (b.take (i + 1)) = v8 (b.take i) * 256 + b[i] := by rw [List.take_succ_eq_append_getElem h, v8_app]
theorem v8_step {b : List Int} (hb : Byt b) {i : Nat} (h : i < b.length) (hi : i < 8) : 0 ≤ v8 (b.take i) ∧ v8 (b.take i) * 256 + b[i] < 18446744073709551616 ∧ v8 (b.take i) < 72057594037927936 := by
  have h1 := v8_bd i (b.take i) (fun x hx => hb x (List.mem_of_mem_take hx)) (by rw [List.length_take]; omega)
  have h2 := hb _ (List.getElem_mem h)
  have h3 : (256 : Int) ^ i ≤ 256 ^ 7 := by
    have := Nat.pow_le_pow_right (n := 256) (by decide) (show i ≤ 7 by omega)
    have h4 := Int.ofNat_le.2 this
    rwa [Int.natCast_pow, Int.natCast_pow] at h4
  have e : (256 : Int) ^ 7 = 72057594037927936 := by decide
  omega
theorem shlor {a c : Int} (ha : 0 ≤ a) (ha2 : a < 72057594037927936) (hc : U8 c) : wu64 (ork 64 (wu64 (shlk 64 a 8)) (wu64 c)) = a * 256 + c := by
  obtain ⟨m, rfl⟩ : ∃ m : Nat, a = m := ⟨a.toNat, by omega⟩
  obtain ⟨q, rfl⟩ : ∃ q : Nat, c = q := ⟨c.toNat, by omega⟩
  have e1 : shlk 64 (m : Int) 8 = ((m * 256 : Nat) : Int) := by
    unfold shlk
    show (m : Int) * 2 ^ 8 = _
    rw [Int.natCast_mul]
    rfl
  rw [e1, wu64_of (x := ((m * 256 : Nat) : Int)) (by omega) (by omega), wu64_of (x := (q : Int)) (by omega) (by omega), ork_nat (by omega) (by omega)]
  have e2 : m * 256 ||| q = m * 256 + q := by
    have := Nat.two_pow_add_eq_or_of_lt (i := 8) (b := q) (by omega) m
    rw [Nat.mul_comm] at this
    exact this.symm
  rw [e2, wu64_of (by omega) (by omega), Int.natCast_add, Int.natCast_mul]
  rfl

abbrev Rd8 := List Int × Int
abbrev RdOk (r : Rd8) : Prop := r.1.length ≤ 1099511627776 ∧ Byt r.1
def numM (r : Rd8) (most : Int) : Int × Rd8 :=
  if r.2 ≠ 0 then (0, r.1, r.2) else if (tkM r.1).2.2 ≠ 0 then (0, r.1, (tkM r.1).2.2) else if most < (tkM r.1).1 then (0, r.1, 2) else ((tkM r.1).1, r.1.drop (tkM r.1).2.1.toNat, 0)
def fixM (r : Rd8) : Int × Rd8 := if r.2 ≠ 0 then (0, r.1, r.2) else if r.1.length < 8 then (0, r.1, 3) else (v8 (r.1.take 8), r.1.drop 8, 0)
theorem numM_ok {r : Rd8} (h : RdOk r) (m : Int) : RdOk (numM r m).2 ∧ 0 ≤ (numM r m).1 ∧ (numM r m).1 < 18446744073709551616 := by
  unfold numM
  split
  · exact ⟨h, Int.le_refl 0, (by decide : (0 : Int) < 18446744073709551616)⟩
  · split
    · exact ⟨h, Int.le_refl 0, (by decide : (0 : Int) < 18446744073709551616)⟩
    · rename_i h1 h2
      split
      · exact ⟨h, Int.le_refl 0, (by decide : (0 : Int) < 18446744073709551616)⟩
      · have := tkM_ok h.2 (by omega)
        exact ⟨⟨by simp only [List.length_drop]; have := h.1; omega, fun x hx => h.2 x (List.mem_of_mem_drop hx)⟩, this.1, this.2.1⟩
theorem fixM_ok {r : Rd8} (h : RdOk r) : RdOk (fixM r).2 := by
  unfold fixM
  split
  · exact h
  · split
    · exact h
    · exact ⟨by simp only [List.length_drop]; have := h.1; omega, fun x hx => h.2 x (List.mem_of_mem_drop hx)⟩
theorem cnumber {r : Rd8} (h : RdOk r) (m : Int) (h0 : r.2 = 0) : codec_Reader_number r m = some (if (tkM r.1).2.2 ≠ 0 then (0, 0, (tkM r.1).2.2) else if m < (tkM r.1).1 then (0, 0, 2) else ((tkM r.1).1, (tkM r.1).2.1, 0)) := by
  unfold codec_Reader_number
  rw [vtake h.1 h.2, Option.bind_some]
  by_cases c1 : (tkM r.1).2.2 = 0
  · rw [if_pos c1, Option.bind_some, if_neg (nn c1)]
    by_cases c2 : m < (tkM r.1).1
    · rw [decide_eq_true c2, if_pos rfl, if_neg (nn c1), if_pos c2]
    · rw [decide_eq_false c2, if_neg (by decide), if_neg (nn c1), if_neg c2, h0]
  · rw [if_neg c1, Option.bind_some, if_neg (by decide), if_pos c1, if_pos c1]
theorem crnum {r : Rd8} (h : RdOk r) (m : Int) : codec_Reader_Num r m = some (numM r m) := by
  unfold codec_Reader_Num codec_Reader_on numM
  rw [Option.bind_some]
  by_cases c0 : r.2 = 0
  · rw [if_neg (nn c0), cnumber h m c0, Option.bind_some, if_neg (nn c0)]
    by_cases c1 : (tkM r.1).2.2 = 0
    · have hk := tkM_ok h.2 c1
      rw [if_neg (nn c1), if_neg (nn c1)]
      by_cases c2 : m < (tkM r.1).1
      · rw [if_pos c2, if_pos c2, must_of ⟨Int.le_refl 0, Int.natCast_nonneg _⟩]; rfl
      · rw [if_neg c2, if_neg c2, must_of ⟨hk.2.2.1, hk.2.2.2.1⟩]; rfl
    · rw [if_pos c1, if_pos c1, must_of ⟨Int.le_refl 0, Int.natCast_nonneg _⟩]; rfl
  · rw [if_pos c0, if_pos c0]
theorem rrnum {r : Rd8} (h : RdOk r) (m : Int) : ref02_Read r m = some ((numM r m).2.1, (numM r m).2.2, (numM r m).1) := by
  unfold ref02_Read numM ref02_fail
  by_cases c0 : r.2 = 0
  · rw [if_neg (nn c0), rtake h.1 h.2, Option.bind_some, if_neg (nn c0)]
    by_cases c1 : (tkM r.1).2.2 = 0
    · have hk := tkM_ok h.2 c1
      rw [if_neg (nn c1), if_neg (nn c1)]
      by_cases c2 : m < (tkM r.1).1
      · rw [if_pos c2, if_pos c2, if_pos c0]; rfl
      · rw [if_neg c2, if_neg c2, must_of ⟨hk.2.2.1, hk.2.2.2.1⟩, c0]; rfl
    · rw [if_pos c1, if_pos c1, if_pos c0]; rfl
  · rw [if_pos c0, if_pos c0]
def endM (r : Rd8) : Int := if r.2 ≠ 0 then r.2 else if 0 < r.1.length then 2 else 0
theorem crend (r : Rd8) : codec_Reader_End r = some (endM r) := by
  unfold codec_Reader_End codec_Reader_Err codec_Reader_Left endM
  rw [Option.bind_some, Option.bind_some]
  by_cases c0 : r.2 = 0
  · rw [if_neg (nn c0), if_neg (nn c0)]
    by_cases c1 : 0 < r.1.length
    · rw [if_pos (by omega), if_pos c1]
    · rw [if_neg (by omega), if_neg c1]
  · rw [if_pos c0, if_pos c0]
theorem cnew (b : List Int) : codec_New b = some () := by
  unfold codec_New
  rw [must_of ⟨by omega, by omega, by omega⟩]; rfl
theorem take_all (b : List Int) : b.take ((b.length : Int)).toNat = b := by rw [Int.toNat_natCast, List.take_length]
end Go.Proofs.Ytbeknohemgjfbaa.Pu
namespace Go.Proofs.Ytbeknohemgjfbaa.Pu
set_option linter.unusedVariables false

theorem numM_dg {n : Nat} {m : Int} (h : n < 18446744073709551616) (hm : (n : Int) ≤ m) (t : List Int) : numM (dg n ++ t, 0) m = ((n : Int), t, 0) := by
  unfold numM
  simp only [tkM_dg h]
  rw [if_neg (by simp), if_neg (by simp), if_neg (by omega), Int.toNat_natCast, List.drop_left]
theorem numM_cut {n j : Nat} {m : Int} (h : n < 18446744073709551616) (hj : j < (dg n).length) : numM ((dg n).take j, 0) m = (0, (dg n).take j, 3) := by
  unfold numM
  simp only [tkM_cut h hj]
  rw [if_neg (by simp), if_pos (by simp)]
theorem numM_err {r : Rd8} {m : Int} (h : r.2 ≠ 0) : numM r m = (0, r) := by
  unfold numM; rw [if_pos h]
theorem numM_dec {r : Rd8} {m : Int} (hr : RdOk r) (h : (numM r m).2.2 = 0) : r.2 = 0 ∧ r.1 = dg (numM r m).1.toNat ++ (numM r m).2.1 ∧ 0 ≤ (numM r m).1 ∧ (numM r m).1 ≤ m := by
  unfold numM at h ⊢
  by_cases c0 : r.2 ≠ 0
  · rw [if_pos c0] at h; exact absurd h c0
  · rw [if_neg c0] at h ⊢
    by_cases c1 : (tkM r.1).2.2 ≠ 0
    · rw [if_pos c1] at h; exact absurd h c1
    · rw [if_neg c1] at h ⊢
      by_cases c2 : m < (tkM r.1).1
      · rw [if_pos c2] at h; cases h
      · rw [if_neg c2] at h ⊢
        have hk := tkM_ok hr.2 (by omega)
        refine ⟨by omega, ?_, hk.1, by simp only; omega⟩
        simp only
        rw [hk.2.2.2.2, List.take_append_drop]
theorem numM_le {r : Rd8} {m : Int} (hr : RdOk r) (hm : 0 ≤ m) : 0 ≤ (numM r m).1 ∧ (numM r m).1 ≤ m := by
  by_cases h : (numM r m).2.2 = 0
  · exact (numM_dec hr h).2.2
  · unfold numM at h ⊢
    split
    · exact ⟨Int.le_refl 0, hm⟩
    · split
      · exact ⟨Int.le_refl 0, hm⟩
      · split
        · exact ⟨Int.le_refl 0, hm⟩
        · rename_i a b c; rw [if_neg a, if_neg b, if_neg c] at h; exact absurd rfl h
theorem numM_rd {r : Rd8} {m : Int} (hr : RdOk r) : RdOk (numM r m).2 := (numM_ok hr m).1

theorem dg10 {n : Nat} (h : n < 18446744073709551616) : (dg n).length ≤ 10 := dg_ten h
theorem rm1 {n : Nat} (h : n ≤ 140737488355328) : room n 1 = some () := room_of (by omega) h
theorem loop_eq {α : Type} [DecidableEq α] {a b : List α} (hl : a.length = b.length) {step : Int → Option (Int ⊕ (Unit ⊕ Unit))} (h1 : ∀ (i : Nat) (h : i < a.length), step (i : Int) = some (if a[i] = b[i] then .inl ((i + 1 : Nat) : Int) else .inr (.inl ())))
    (h2 : step (a.length : Int) = some (.inr (.inr ()))) : loopO step 0 = some (if a = b then .inr () else .inl ()) := by
  have aux : ∀ m i, i + m = a.length → loopO step (i : Int) = some (if a.drop i = b.drop i then .inr () else .inl ()) := by
    intro m
    induction m with
    | zero =>
      intro i hi
      obtain rfl : i = a.length := by omega
      rw [loopO_done h2, if_pos (by rw [List.drop_length, hl, List.drop_length])]
    | succ m ih =>
      intro i hi
      have hia : i < a.length := by omega
      have hib : i < b.length := by omega
      have hs := h1 i hia
      rw [List.drop_eq_getElem_cons hia, List.drop_eq_getElem_cons hib]
      by_cases he : a[i] = b[i]
      · rw [if_pos he] at hs
        rw [loopO_next hs, ih (i + 1) (by omega)]
        simp only [he, List.cons.injEq, true_and]
      · rw [if_neg he] at hs
        rw [loopO_done hs, if_neg (fun q => he (List.cons.inj q).1)]
  have := aux a.length 0 (by omega)
  simpa using this
end Go.Proofs.Ytbeknohemgjfbaa.Pu
namespace Go.Proofs.Ytbeknohemgjfbaa.Pu
set_option linter.unusedVariables false

theorem cfixed (n : Int) : codec_Fixed n = some (fx n) := by
  unfold codec_Fixed
  have h1 : ∀ k : Nat, k < 8 → codec_Fixed_s0 n (fxs n k, (k : Int)) = some (.inl (fxs n (k + 1), ((k + 1 : Nat) : Int))) := by
    intro k hk
    unfold codec_Fixed_s0
    simp only []
    have hl := fxs_len n k
    have e1 : wi64 (7 - (k : Int)) = ((7 - k : Nat) : Int) := by rw [wi64_of (by omega) (by omega)]; omega
    rw [if_pos (by omega), must_of (by rw [wi64_of (by omega) (by omega)]; omega), Option.bind_some, e1, rdo_get (by omega), Option.bind_some, wi64_of (x := 8 * (k : Int)) (by omega) (by omega), wi64_of (by omega) (by omega)]
    rfl
  have h2 : codec_Fixed_s0 n (fxs n 8, ((8 : Nat) : Int)) = some (.inr (fxs n 8)) := by
    unfold codec_Fixed_s0
    simp only []
    rw [if_neg (by decide)]
  have := loopO_run (step := codec_Fixed_s0 n) (fun k => (fxs n k, (k : Int))) 8 h1 h2
  have h0 : loopO (codec_Fixed_s0 n) (List.replicate 8 ((0 : Int) : Int), (0 : Int)) = some (fxs n 8) := this
  rw [h0]
  rfl
theorem rfixed (n : Int) : ref02_Fixed n = some (fx n) := by
  unfold ref02_Fixed
  have h1 : ∀ k : Nat, k < 8 → ref02_Fixed_s0 n (rfs n k, (k : Int)) = some (.inl (rfs n (k + 1), ((k + 1 : Nat) : Int))) := by
    intro k hk
    unfold ref02_Fixed_s0
    simp only []
    have hl := rfs_len n k
    have e1 : wi64 (56 - wi64 (8 * (k : Int))) = 8 * ((7 - k : Nat) : Int) := by rw [wi64_of (x := 8 * (k : Int)) (by omega) (by omega), wi64_of (by omega) (by omega)]; omega
    rw [if_pos (by omega), e1, must_of (by omega), Option.bind_some, room_of (by simp only [List.length_cons, List.length_nil]; omega) (by simp only [List.length_cons, List.length_nil]; omega), Option.bind_some, wi64_of (by omega) (by omega)]
    rfl
  have h2 : ref02_Fixed_s0 n (rfs n 8, ((8 : Nat) : Int)) = some (.inr (rfs n 8)) := by
    unfold ref02_Fixed_s0
    simp only []
    rw [if_neg (by decide)]
  have := loopO_run (step := ref02_Fixed_s0 n) (fun k => (rfs n k, (k : Int))) 8 h1 h2
  have h0 : loopO (ref02_Fixed_s0 n) (([] : List Int), (0 : Int)) = some (rfs n 8) := this
  rw [h0]
  rfl
theorem crfix {r : Rd8} (h : RdOk r) : codec_Reader_Fixed r = some (fixM r) := by
  unfold codec_Reader_Fixed codec_Reader_on fixM
  rw [Option.bind_some]
  by_cases c0 : r.2 = 0
  · rw [if_neg (nn c0), if_neg (nn c0)]
    by_cases c1 : r.1.length < 8
    · rw [if_pos (by omega), if_pos c1]
    · rw [if_neg (by omega), if_neg c1, must_of ⟨by decide, by omega⟩, Option.bind_some]
      have e8 : ((8 : Int)).toNat = 8 := rfl
      have hb8 : Byt (r.1.take 8) := fun x hx => h.2 x (List.mem_of_mem_take hx)
      have hl8 : (r.1.take 8).length = 8 := by rw [List.length_take]; omega
      have h1 : ∀ k : Nat, k < 8 → codec_Reader_Fixed_s0 r (v8 ((r.1.take 8).take k), (k : Int)) = some (.inl (v8 ((r.1.take 8).take (k + 1)), ((k + 1 : Nat) : Int))) := by
        intro k hk
        have hs := v8_step hb8 (by omega : k < (r.1.take 8).length) hk
        have hu := hb8 _ (List.getElem_mem (by omega : k < (r.1.take 8).length))
        unfold codec_Reader_Fixed_s0
        simp only [e8]
        rw [if_pos (by omega), rdo_get (by omega), Option.bind_some, shlor hs.1 hs.2.2 hu, wi64_of (by omega) (by omega), v8_take (by omega)]
        rfl
      have h2 : codec_Reader_Fixed_s0 r (v8 ((r.1.take 8).take 8), ((8 : Nat) : Int)) = some (.inr (v8 (r.1.take 8))) := by
        unfold codec_Reader_Fixed_s0
        simp only [e8]
        rw [if_neg (by omega), List.take_take]
        rfl
      have := loopO_run (step := codec_Reader_Fixed_s0 r) (fun k => (v8 ((r.1.take 8).take k), (k : Int))) 8 h1 h2
      have h0 : loopO (codec_Reader_Fixed_s0 r) ((0 : Int), (0 : Int)) = some (v8 (r.1.take 8)) := this
      rw [h0, Option.bind_some, c0]
      rfl
  · rw [if_pos c0, if_pos c0]
theorem rrfix {r : Rd8} (h : RdOk r) : ref02_ReadFixed r = some ((fixM r).2.1, (fixM r).2.2, (fixM r).1) := by
  unfold ref02_ReadFixed fixM ref02_fail
  by_cases c0 : r.2 = 0
  · rw [if_neg (nn c0), if_neg (nn c0)]
    by_cases c1 : r.1.length < 8
    · rw [if_pos (by omega), if_pos c1, if_pos c0]; rfl
    · rw [if_neg (by omega), if_neg c1]
      have h1 : ∀ k : Nat, k < 8 → ref02_ReadFixed_s0 r (v8 (r.1.take k), (k : Int)) = some (.inl (v8 (r.1.take (k + 1)), ((k + 1 : Nat) : Int))) := by
        intro k hk
        have hs := v8_step h.2 (by omega : k < r.1.length) hk
        have hu := h.2 _ (List.getElem_mem (by omega : k < r.1.length))
        unfold ref02_ReadFixed_s0
        simp only []
        rw [if_pos (by omega), rdo_get (by omega), Option.bind_some, wu64_of (x := 256 * _) (by omega) (by omega), wu64_of (x := r.1[k]) (by omega) (by omega), wu64_of (by omega) (by omega), wi64_of (by omega) (by omega), v8_take (by omega), Int.mul_comm]
        rfl
      have h2 : ref02_ReadFixed_s0 r (v8 (r.1.take 8), ((8 : Nat) : Int)) = some (.inr (v8 (r.1.take 8))) := by
        unfold ref02_ReadFixed_s0
        simp only []
        rw [if_neg (by omega)]
      have := loopO_run (step := ref02_ReadFixed_s0 r) (fun k => (v8 (r.1.take k), (k : Int))) 8 h1 h2
      have h0 : loopO (ref02_ReadFixed_s0 r) ((0 : Int), (0 : Int)) = some (v8 (r.1.take 8)) := this
      rw [h0, Option.bind_some, must_of ⟨by decide, by omega⟩, Option.bind_some, c0]
      rfl
  · rw [if_pos c0, if_pos c0]
theorem bt_eq {n : Nat} (k : Nat) (hk : k ≤ 7) : bt (n : Int) k = ((n / 256 ^ k % 256 : Nat) : Int) := by
  unfold bt shrk
  have e1 : min (8 * (k : Int)).toNat 64 = 8 * k := by omega
  have e2 : (2 : Int) ^ (8 * k) = ((256 ^ k : Nat) : Int) := by
    rw [Int.pow_mul, Int.natCast_pow]; rfl
  rw [e1, e2, Int.fdiv_eq_ediv_of_nonneg _ (Int.natCast_nonneg _)]
  unfold wu8
  rw [← Int.natCast_ediv]
  omega
theorem v8_fx {n : Nat} (hn : n < 18446744073709551616) : v8 (fx (n : Int)) = n := by
  unfold fx v8
  simp only [List.foldl_cons, List.foldl_nil, bt_eq _ (show 7 ≤ 7 by omega), bt_eq _ (show 6 ≤ 7 by omega), bt_eq _ (show 5 ≤ 7 by omega), bt_eq _ (show 4 ≤ 7 by omega), bt_eq _ (show 3 ≤ 7 by omega), bt_eq _ (show 2 ≤ 7 by omega), bt_eq _ (show 1 ≤ 7 by omega), bt_eq _ (show 0 ≤ 7 by omega)]
  simp only [show 256 ^ 7 = 72057594037927936 from rfl, show 256 ^ 6 = 281474976710656 from rfl, show 256 ^ 5 = 1099511627776 from rfl, show 256 ^ 4 = 4294967296 from rfl, show 256 ^ 3 = 16777216 from rfl, show 256 ^ 2 = 65536 from rfl, show 256 ^ 1 = 256 from rfl, show 256 ^ 0 = 1 from rfl]
  omega
theorem fix_back {n : Nat} (hn : n < 18446744073709551616) (t : List Int) : fixM (fx (n : Int) ++ t, 0) = ((n : Int), t, 0) := by
  have hl : (fx (n : Int)).length = 8 := rfl
  unfold fixM
  simp only []
  rw [if_neg (fun q => q rfl), if_neg (by rw [List.length_append]; omega), ← hl, List.take_left, List.drop_left, v8_fx hn]
theorem fx_v8 {l : List Int} (h : Byt l) (hl : l.length = 8) : fx (v8 l) = l := by
  match l, hl with
  | [a, b, c, d, e, f, g, i], _ =>
    have ha := h a (by simp)
    have hb := h b (by simp)
    have hc := h c (by simp)
    have hd := h d (by simp)
    have he := h e (by simp)
    have hf := h f (by simp)
    have hg := h g (by simp)
    have hi := h i (by simp)
    have hv := v8_bd 8 [a, b, c, d, e, f, g, i] h rfl
    obtain ⟨n, hn⟩ : ∃ n : Nat, v8 [a, b, c, d, e, f, g, i] = (n : Int) := ⟨(v8 [a, b, c, d, e, f, g, i]).toNat, by omega⟩
    rw [hn]
    unfold v8 at hn
    simp only [List.foldl_cons, List.foldl_nil] at hn
    unfold fx
    rw [bt_eq _ (show 7 ≤ 7 by omega), bt_eq _ (show 6 ≤ 7 by omega), bt_eq _ (show 5 ≤ 7 by omega), bt_eq _ (show 4 ≤ 7 by omega), bt_eq _ (show 3 ≤ 7 by omega), bt_eq _ (show 2 ≤ 7 by omega), bt_eq _ (show 1 ≤ 7 by omega), bt_eq _ (show 0 ≤ 7 by omega)]
    simp only [show 256 ^ 7 = 72057594037927936 from rfl, show 256 ^ 6 = 281474976710656 from rfl, show 256 ^ 5 = 1099511627776 from rfl, show 256 ^ 4 = 4294967296 from rfl, show 256 ^ 3 = 16777216 from rfl, show 256 ^ 2 = 65536 from rfl, show 256 ^ 1 = 256 from rfl, show 256 ^ 0 = 1 from rfl]
    simp only [List.cons.injEq]
    refine ⟨?_, ?_, ?_, ?_, ?_, ?_, ?_, ?_, trivial⟩ <;> omega
theorem fix_dec {r : Rd8} (hr : RdOk r) (h : (fixM r).2.2 = 0) : r.2 = 0 ∧ r.1 = fx (fixM r).1 ++ (fixM r).2.1 ∧ U64 (fixM r).1 := by
  unfold fixM at h ⊢
  by_cases c0 : r.2 = 0
  · rw [if_neg (nn c0)] at h ⊢
    by_cases c1 : r.1.length < 8
    · rw [if_pos c1] at h
      simp at h
    · rw [if_neg c1] at h ⊢
      simp only
      have hb : Byt (r.1.take 8) := fun x hx => hr.2 x (List.mem_of_mem_take hx)
      have hl : (r.1.take 8).length = 8 := by rw [List.length_take]; omega
      have hv := v8_bd 8 _ hb hl
      refine ⟨c0, ?_, ?_⟩
      · rw [fx_v8 hb hl, List.take_append_drop]
      · have e : (256 : Int) ^ 8 = 18446744073709551616 := by decide
        omega
  · rw [if_pos c0] at h
    exact absurd h c0
theorem fix_cut {n : Int} {j : Nat} (hj : j < 8) : fixM ((fx n).take j, 0) = (0, (fx n).take j, 3) := by
  have hl : (fx n).length = 8 := rfl
  unfold fixM
  simp only
  rw [if_neg (fun q => q rfl), if_pos (by rw [List.length_take]; omega)]
theorem fixM_err {r : Rd8} (h : r.2 ≠ 0) : fixM r = (0, r) := by unfold fixM; rw [if_pos h]
theorem fixM_u {r : Rd8} (hr : RdOk r) : U64 (fixM r).1 := by
  by_cases c : (fixM r).2.2 = 0
  · exact (fix_dec hr c).2.2
  · unfold fixM at c ⊢
    split
    · exact ⟨Int.le_refl 0, (by decide : (0 : Int) < 18446744073709551616)⟩
    · split
      · exact ⟨Int.le_refl 0, (by decide : (0 : Int) < 18446744073709551616)⟩
      · rename_i h1 h2
        rw [if_neg h1, if_neg h2] at c
        exact absurd rfl c
end Go.Proofs.Ytbeknohemgjfbaa.Pu
namespace Go.Proofs.Ytbeknohemgjfbaa.Pu
set_option linter.unusedVariables false

abbrev Cf := Int × Int × Int × Int × Int × Int × (List (Int × Int)) × Int × Int
def okK (k : Int) : Prop := 2 ≤ k ∧ k ≤ 1024
instance (k : Int) : Decidable (okK k) := by unfold okK; infer_instance
def okB (late room : Int) : Prop := late ≤ 4611686018427387904 ∧ 1 ≤ room ∧ room ≤ 1024
instance (a b : Int) : Decidable (okB a b) := by unfold okB; infer_instance
def okW (w : Int) : Prop := 1 ≤ w ∧ w ≤ 4611686018427387904
instance (a : Int) : Decidable (okW a) := by unfold okW; infer_instance
def okG (cols : Int) (n : Int) : Prop := 1 ≤ cols ∧ cols ≤ 256 ∧ 1 ≤ n ∧ n ≤ 8
instance (a b : Int) : Decidable (okG a b) := by unfold okG; infer_instance
def okR (cap n w : Int) : Prop := (1 ≤ cap ∧ cap ≤ 256) ∧ (1 ≤ n ∧ n ≤ 64) ∧ okW w ∧ w % n = 0
instance (a b c : Int) : Decidable (okR a b c) := by unfold okR; infer_instance
def sdBad (s : Int × Int) : Bool := decide (¬ (1 ≤ s.1 ∧ s.1 < 2305843009213693951 ∧ s.2 < 2305843009213693951))
def chk (c : Cf) : Int :=
  if c.1 = 1 then (if (c.2.2.2.2.2.1 = 0 ∧ c.2.2.2.2.2.2.2.1 = 0 ∧ c.2.2.2.2.2.2.2.2 = 0 ∧ c.2.2.2.2.2.2.1.length = 0) ∧ okB c.2.2.2.1 c.2.2.2.2.1 ∧ okK c.2.1 ∧ okW c.2.2.1 then 0 else 9)
  else if c.1 = 2 then (if (c.2.2.2.2.2.2.2.1 = 0 ∧ c.2.2.2.2.2.2.2.2 = 0) ∧ okB c.2.2.2.1 c.2.2.2.2.1 ∧ okK c.2.1 ∧ okW c.2.2.1 ∧ okG c.2.2.2.2.2.1 c.2.2.2.2.2.2.1.length then (if c.2.2.2.2.2.2.1.any sdBad = true then 1 else 0) else 9)
  else if c.1 = 3 then (if (c.2.1 = 0 ∧ c.2.2.2.2.2.1 = 0 ∧ c.2.2.2.2.2.2.1.length = 0) ∧ okB c.2.2.2.1 c.2.2.2.2.1 ∧ okR c.2.2.2.2.2.2.2.1 c.2.2.2.2.2.2.2.2 c.2.2.1 then 0 else 9)
  else 14
structure CfOk (c : Cf) : Prop where
  kind : I64 c.1
  k : I64 c.2.1
  w : U64 c.2.2.1
  late : U64 c.2.2.2.1
  room : I64 c.2.2.2.2.1
  cols : I64 c.2.2.2.2.2.1
  len : c.2.2.2.2.2.2.1.length ≤ 20
  sds : ∀ s ∈ c.2.2.2.2.2.2.1, U64 s.1 ∧ U64 s.2
  cap : I64 c.2.2.2.2.2.2.2.1
  n : I64 c.2.2.2.2.2.2.2.2
theorem find_loop {α A : Type} {l : List α} {step : Int → Option (Int ⊕ (A ⊕ Unit))} (P : α → Bool) (f : Nat → A) (h1 : ∀ (i : Nat) (h : i < l.length), step (i : Int) = some (if P l[i] = true then .inr (.inl (f i)) else .inl ((i + 1 : Nat) : Int))) (h2 : step (l.length : Int) = some (.inr (.inr ()))) :
    (l.any P = true ∧ ∃ i : Nat, loopO step (0 : Int) = some (.inl (f i))) ∨ (l.any P = false ∧ loopO step (0 : Int) = some (.inr ())) := by
  have aux : ∀ (n i : Nat), i + n = l.length → ((l.drop i).any P = true ∧ ∃ j : Nat, loopO step (i : Int) = some (.inl (f j))) ∨ ((l.drop i).any P = false ∧ loopO step (i : Int) = some (.inr ())) := by
    intro n
    induction n with
    | zero =>
      intro i hi
      obtain rfl : i = l.length := by omega
      exact .inr ⟨by rw [List.drop_length]; rfl, loopO_done h2⟩
    | succ n ih =>
      intro i hi
      have hk : i < l.length := by omega
      have h3 := h1 i hk
      rw [List.drop_eq_getElem_cons hk, List.any_cons]
      by_cases c : P l[i] = true
      · rw [if_pos c] at h3
        exact .inl ⟨by rw [c]; rfl, i, loopO_done h3⟩
      · rw [if_neg c] at h3
        rw [loopO_next h3, Bool.eq_false_iff.2 c, Bool.false_or]
        exact ih (i + 1) (by omega)
  exact aux l.length 0 (by omega)
theorem bare_eq {l : List Int} (hl : l.length ≤ 1000) : conf_bare l = some (!l.any (fun x => decide (x ≠ 0))) := by
  have h := find_loop (l := l) (step := slices_IndexFunc_int_s0 l) (fun x => decide (x ≠ 0)) (fun i => (i : Int)) (by
    intro i hi
    unfold slices_IndexFunc_int_s0 conf_bare_1
    rw [if_pos (by omega), rdo_get hi, Option.bind_some, Option.bind_some, wi64_of (by omega) (by omega)]
    by_cases c : l[i] = 0
    · rw [if_neg (nn c), if_neg (by simpa using c)]; rfl
    · rw [if_pos c, if_pos (by simpa using c)]) (by
    unfold slices_IndexFunc_int_s0
    rw [if_neg (by omega)])
  unfold conf_bare slices_ContainsFunc_int slices_IndexFunc_int
  rcases h with ⟨h1, i, h2⟩ | ⟨h1, h2⟩
  · rw [h2, h1]
    simp only [Option.bind_some, Sum.elim_inl]
    rw [decide_eq_true (show (0 : Int) ≤ (i : Int) by omega)]
    rfl
  · rw [h2, h1]
    rfl
theorem histnew_eq (k : Int) : hist_New k = some (if okK k then (k, 0) else (0, 9)) := by
  unfold hist_New
  by_cases c1 : k < 2
  · rw [if_pos c1, if_neg (by unfold okK; omega)]
  · rw [if_neg c1]
    by_cases c2 : 1024 < k
    · rw [if_pos c2, if_neg (by unfold okK; omega)]
    · rw [if_neg c2, if_pos (by unfold okK; omega)]
theorem bufnew_eq (late room : Int) : buffer_New late room = some (if okB late room then (late, room, 0) else (0, 0, 9)) := by
  unfold buffer_New
  by_cases c1 : 4611686018427387904 < late
  · rw [if_pos c1, if_neg (by unfold okB; omega)]
  · rw [if_neg c1]
    by_cases c2 : room < 1
    · rw [if_pos c2, if_neg (by unfold okB; omega)]
    · rw [if_neg c2]
      by_cases c3 : 1024 < room
      · rw [if_pos c3, if_neg (by unfold okB; omega)]
      · rw [if_neg c3, if_pos (by unfold okB; omega)]
theorem countnew_eq (k w late room : Int) : count_New k w late room = some (if okB late room ∧ okK k ∧ okW w then (w, late, room, k, 0) else (0, 0, 0, 0, 9)) := by
  unfold count_New
  rw [histnew_eq, Option.bind_some, bufnew_eq, Option.bind_some]
  by_cases c1 : okK k
  · rw [if_pos c1]
    simp only
    rw [if_neg (by decide)]
    by_cases c2 : okB late room
    · rw [if_pos c2]
      simp only
      rw [if_neg (by decide)]
      by_cases c3 : w < 1
      · rw [if_pos c3, if_neg (by unfold okW; omega)]
      · rw [if_neg c3]
        by_cases c4 : 4611686018427387904 < w
        · rw [if_pos c4, if_neg (by unfold okW; omega)]
        · rw [if_neg c4, if_pos ⟨c2, c1, by unfold okW; omega⟩]
    · rw [if_neg c2, if_neg (c := okB late room ∧ okK k ∧ okW w) (fun q => c2 q.1)]
      rfl
  · rw [if_neg c1, if_neg (c := okB late room ∧ okK k ∧ okW w) (fun q => c1 q.2.1)]
    rfl
theorem gridbad_eq {s : Int × Int} (h : U64 s.1 ∧ U64 s.2) : grid_New_1 s = some (sdBad s) := by
  unfold grid_New_1 hash_May sdBad
  rw [Int.tmod_eq_emod_of_nonneg h.1.1, Int.tmod_eq_emod_of_nonneg h.2.1]
  by_cases c : s.1 = s.1 % 2305843009213693951 ∧ s.2 = s.2 % 2305843009213693951 ∧ True
  · rw [if_pos c, Option.bind_some]
    obtain ⟨c1, c2, _⟩ := c
    by_cases d : 0 < s.1
    · rw [decide_eq_true d]
      exact congrArg some (decide_eq_decide.2 ⟨fun q => absurd rfl q, fun q => absurd ⟨by omega, by omega, by omega⟩ q⟩)
    · rw [decide_eq_false d]
      exact congrArg some (decide_eq_decide.2 ⟨fun _ q => by omega, fun _ => by decide⟩)
  · rw [if_neg c, Option.bind_some]
    exact congrArg some (decide_eq_decide.2 ⟨fun _ q => c ⟨by omega, by omega, trivial⟩, fun _ => by decide⟩)
theorem seeds_eq {l : List (Int × Int)} (hl : l.length ≤ 1000) (hs : ∀ s ∈ l, U64 s.1 ∧ U64 s.2) : slices_ContainsFunc_Seed l = some (l.any sdBad) := by
  have h := find_loop (l := l) (step := slices_IndexFunc_Seed_s0 l) sdBad (fun i => (i : Int)) (by
    intro i hi
    unfold slices_IndexFunc_Seed_s0
    rw [if_pos (by omega), rdo_get hi, Option.bind_some, gridbad_eq (hs _ (List.getElem_mem hi)), Option.bind_some, wi64_of (by omega) (by omega)]
    split <;> rfl) (by
    unfold slices_IndexFunc_Seed_s0
    rw [if_neg (by omega)])
  unfold slices_ContainsFunc_Seed slices_IndexFunc_Seed
  rcases h with ⟨h1, i, h2⟩ | ⟨h1, h2⟩
  · rw [h2, h1]
    simp only [Option.bind_some, Sum.elim_inl]
    rw [decide_eq_true (show (0 : Int) ≤ (i : Int) by omega)]
  · rw [h2, h1]
    rfl
theorem hi_zero : ∀ n : Fin 257, ¬ (0 < (wu64 ((wu64 ((wu64 ((shrk 64 (wu64 (1 : Int)) 32) * (shrk 64 (wu64 ((n.val : Nat) : Int)) 32))) + (shrk 64 (wu64 ((wu64 ((shrk 64 (wu64 (1 : Int)) 32) * (wu64 (andk 64 (wu64 ((n.val : Nat) : Int)) 4294967295)))) + (shrk 64 (wu64 ((wu64 (andk 64 (wu64 (1 : Int)) 4294967295)) * (wu64 (andk 64 (wu64 ((n.val : Nat) : Int)) 4294967295)))) 32))) 32))) + (shrk 64 (wu64 ((wu64 (andk 64 (wu64 ((wu64 ((shrk 64 (wu64 (1 : Int)) 32) * (wu64 (andk 64 (wu64 ((n.val : Nat) : Int)) 4294967295)))) + (shrk 64 (wu64 ((wu64 (andk 64 (wu64 (1 : Int)) 4294967295)) * (wu64 (andk 64 (wu64 ((n.val : Nat) : Int)) 4294967295)))) 32))) 4294967295)) + (wu64 ((wu64 (andk 64 (wu64 (1 : Int)) 4294967295)) * (shrk 64 (wu64 ((n.val : Nat) : Int)) 32))))) 32)))) := by decide +kernel
theorem repeat_eq (h : Int × Int × List (List (Int × Int))) {n : Nat} (h1 : 1 ≤ n) (h2 : n ≤ 256) : ∃ L, slices_Repeat_Hist [h] (n : Int) = some L := by
  have hz := hi_zero ⟨n, by omega⟩
  have hm : wi64 (wu64 (wu64 (1 : Int) * wu64 (n : Int))) = (n : Int) := by rw [wu64_of (x := (1 : Int)) (by omega) (by omega), wu64_of (x := (n : Int)) (by omega) (by omega), wu64_of (by omega) (by omega), wi64_of (by omega) (by omega), Int.one_mul]
  have hm2 : wu64 (wu64 (1 : Int) * wu64 (n : Int)) = (n : Int) := by rw [wu64_of (x := (1 : Int)) (by omega) (by omega), wu64_of (x := (n : Int)) (by omega) (by omega), wu64_of (by omega) (by omega), Int.one_mul]
  unfold slices_Repeat_Hist bits_Mul bits_Mul64
  rw [if_neg (by omega), Option.bind_some, Option.bind_some, Option.bind_some]
  simp only [List.length_cons, List.length_nil, Nat.zero_add, Int.natCast_one]
  rw [if_neg hz, Option.bind_some, hm2, decide_eq_false (by omega), if_neg (by decide), Option.bind_some, wi64_of (by omega) (by omega), must_of (by omega), Option.bind_some, Int.toNat_natCast, room_of (by omega) (by omega), Option.bind_some]
  have := loopO_to (step := slices_Repeat_Hist_s0 [h] (n : Int)) (fun m s => s.1.length = n ∧ ∃ d : Nat, s.2 = (d : Int) ∧ 1 ≤ d ∧ d ≤ n ∧ m = n - d) (fun _ => True) (by
    rintro m ⟨L, d'⟩ ⟨hL, d, rfl, hd1, hd2, hm3⟩
    simp only at hL
    unfold slices_Repeat_Hist_s0
    simp only [List.length_cons, List.length_nil, Nat.zero_add, Int.natCast_one]
    by_cases c : d < n
    · left
      rw [if_pos (by omega), must_of (by omega), Option.bind_some, hm, Int.toNat_natCast, Int.toNat_natCast]
      refine ⟨_, rfl, n - (d + min (n - d) d), by omega, ?_, d + min (n - d) d, ?_, by omega, by omega, rfl⟩
      · simp only [List.length_append, List.length_take, List.length_drop]
        omega
      · simp only [List.length_take]
        rw [wi64_of (by omega) (by omega)]
        omega
    · right
      rw [if_neg (by omega)]
      exact ⟨_, rfl, trivial⟩) (n - 1) (((List.replicate n (((0 : Int), (0 : Int), ([] : List (List (Int × Int)))) : Int × Int × List (List (Int × Int)))).take 0 ++ [h].take n ++ (List.replicate n (((0 : Int), (0 : Int), ([] : List (List (Int × Int)))) : Int × Int × List (List (Int × Int)))).drop (0 + ([h].take n).length), (([h].take n).length : Int))) (by
    refine ⟨?_, 1, ?_, Nat.le_refl 1, h1, rfl⟩
    · simp only [List.length_append, List.length_take, List.length_drop, List.length_replicate, List.length_cons, List.length_nil]
      omega
    · simp only [List.length_take, List.length_cons, List.length_nil]
      omega)
  obtain ⟨r, hr, _⟩ := this
  rw [Nat.zero_add] at hr
  exact ⟨r, by rw [hr]; rfl⟩
theorem gridnew_eq {k cols : Int} {l : List (Int × Int)} (hl : l.length ≤ 1000) (hs : ∀ s ∈ l, U64 s.1 ∧ U64 s.2) : ∃ a b c d, grid_New k cols l = some (a, b, c, d, if okK k ∧ okG cols l.length then (if l.any sdBad = true then 1 else 0) else 9) := by
  unfold grid_New
  rw [histnew_eq, Option.bind_some]
  have hj : ((if 1 ≤ cols then (if cols ≤ 256 then (if 1 ≤ ((l.length : Int)) then (some (decide (((l.length : Int)) ≤ 8))) else (some false)) else (some false)) else (some false)) : Option Bool) = some (decide (okG cols l.length)) := by
    by_cases c1 : 1 ≤ cols
    · rw [if_pos c1]
      by_cases c2 : cols ≤ 256
      · rw [if_pos c2]
        by_cases c3 : 1 ≤ (l.length : Int)
        · rw [if_pos c3]
          exact congrArg some (decide_eq_decide.2 ⟨fun h => ⟨c1, c2, c3, h⟩, fun h => h.2.2.2⟩)
        · rw [if_neg c3, decide_eq_false (fun h => c3 h.2.2.1)]
      · rw [if_neg c2, decide_eq_false (fun h => c2 h.2.1)]
    · rw [if_neg c1, decide_eq_false (fun h => c1 h.1)]
  rw [hj, Option.bind_some]
  by_cases c1 : okK k
  · rw [if_pos c1]
    simp only
    rw [if_neg (by decide)]
    by_cases c2 : okG cols l.length
    · rw [decide_eq_true c2, if_neg (by decide), seeds_eq hl hs, Option.bind_some, if_pos (c := okK k ∧ okG cols l.length) ⟨c1, c2⟩]
      by_cases c3 : l.any sdBad = true
      · simp only [c3, if_true]
        exact ⟨_, _, _, _, rfl⟩
      · rw [if_neg c3, Bool.eq_false_iff.2 c3, if_neg (by decide)]
        have hc : slices_Clone_Seed l = some l := by
          unfold slices_Clone_Seed
          rw [room_of (by simp only [List.length_nil]; omega) (by simp only [List.length_nil]; omega)]; rfl
        rw [hc, Option.bind_some]
        obtain ⟨g1, g2, g3, g4⟩ := c2
        obtain ⟨n, rfl⟩ : ∃ n : Nat, cols = n := ⟨cols.toNat, by omega⟩
        have := loopO_to (step := grid_New_s0 (n : Int) l (k, 0)) (fun m s => ∃ i : Nat, s.1 = (i : Int) ∧ i ≤ l.length ∧ s.2.length = i ∧ m = l.length - i) (fun _ => True) (by
          rintro m ⟨i', L⟩ ⟨i, rfl, hi, hL, hm⟩
          simp only at hL
          unfold grid_New_s0
          simp only
          by_cases c : i < l.length
          · left
            obtain ⟨R, hR⟩ := repeat_eq (k, 0, []) (n := n) (by omega) (by omega)
            rw [if_pos (by omega), hR, Option.bind_some, room_of (by simp only [List.length_cons, List.length_nil]; omega) (by simp only [List.length_cons, List.length_nil]; omega), Option.bind_some, wi64_of (by omega) (by omega)]
            exact ⟨_, rfl, l.length - (i + 1), by omega, i + 1, rfl, by omega, by simp only [List.length_append, List.length_cons, List.length_nil]; omega, rfl⟩
          · right
            rw [if_neg (by omega)]
            exact ⟨_, rfl, trivial⟩) l.length ((0 : Int), ([] : List (List (Int × Int × List (List (Int × Int)))))) ⟨0, rfl, by omega, rfl, rfl⟩
        obtain ⟨r, hr, _⟩ := this
        rw [hr]
        exact ⟨_, _, _, _, rfl⟩
    · rw [decide_eq_false c2, if_pos (by decide), if_neg (fun q => c2 q.2)]
      exact ⟨_, _, _, _, rfl⟩
  · rw [if_neg c1, if_neg (c := okK k ∧ okG cols l.length) (fun q => c1 q.1)]
    exact ⟨_, _, _, _, rfl⟩
theorem ecmnew_eq {c : Cf} (h : CfOk c) : ∃ r, ecm_New c = some r ∧ r.2.2.2.2.2.2.2 = (if okB c.2.2.2.1 c.2.2.2.2.1 ∧ okK c.2.1 ∧ okW c.2.2.1 ∧ okG c.2.2.2.2.2.1 c.2.2.2.2.2.2.1.length then (if c.2.2.2.2.2.2.1.any sdBad = true then 1 else 0) else 9) := by
  obtain ⟨E, hE⟩ : ∃ E : Int, (if okB c.2.2.2.1 c.2.2.2.2.1 ∧ okK c.2.1 ∧ okW c.2.2.1 ∧ okG c.2.2.2.2.2.1 c.2.2.2.2.2.2.1.length then (if c.2.2.2.2.2.2.1.any sdBad = true then 1 else 0) else 9) = E := ⟨_, rfl⟩
  rw [hE]
  have hlen := h.len
  obtain ⟨a, b, d, e, hg⟩ := gridnew_eq (k := c.2.1) (cols := c.2.2.2.2.2.1) (by omega) h.sds
  unfold ecm_New
  rw [bufnew_eq, Option.bind_some]
  by_cases c1 : okB c.2.2.2.1 c.2.2.2.2.1
  · rw [if_pos c1]
    simp only
    rw [if_neg (by decide)]
    by_cases c3 : c.2.2.1 < 1
    · rw [if_pos c3]; rw [if_neg (by unfold okW; omega)] at hE; subst hE; exact ⟨_, rfl, rfl⟩
    · rw [if_neg c3]
      by_cases c4 : 4611686018427387904 < c.2.2.1
      · rw [if_pos c4]; rw [if_neg (by unfold okW; omega)] at hE; subst hE; exact ⟨_, rfl, rfl⟩
      · rw [if_neg c4, hg, Option.bind_some]
        have cw : okW c.2.2.1 := by unfold okW; omega
        by_cases c5 : okK c.2.1 ∧ okG c.2.2.2.2.2.1 c.2.2.2.2.2.2.1.length
        · rw [if_pos c5]
          rw [if_pos ⟨c1, c5.1, cw, c5.2⟩] at hE
          by_cases c6 : c.2.2.2.2.2.2.1.any sdBad = true
          · rw [if_pos c6] at hE ⊢; subst hE; exact ⟨_, rfl, rfl⟩
          · rw [if_neg c6] at hE ⊢; subst hE; exact ⟨_, rfl, rfl⟩
        · rw [if_neg c5]; rw [if_neg (fun q => c5 ⟨q.2.1, q.2.2.2⟩)] at hE; subst hE; exact ⟨_, rfl, rfl⟩
  · rw [if_neg c1]; rw [if_neg (fun q => c1 q.1)] at hE; subst hE; exact ⟨_, rfl, rfl⟩
theorem ringnew_eq {cap n w : Int} (hn : I64 n) (hw : U64 w) : ∃ r, ring_New cap n w = some r ∧ r.2.2.2 = (if okR cap n w then 0 else 9) := by
  obtain ⟨E, hE⟩ : ∃ E : Int, (if okR cap n w then 0 else 9) = E := ⟨_, rfl⟩
  rw [hE]
  unfold ring_New heavy_New
  by_cases c1 : cap < 1
  · rw [if_pos c1]; rw [if_neg (by unfold okR; omega)] at hE; subst hE; exact ⟨_, rfl, rfl⟩
  · rw [if_neg c1]
    by_cases c2 : 256 < cap
    · rw [if_pos c2]; rw [if_neg (by unfold okR; omega)] at hE; subst hE; exact ⟨_, rfl, rfl⟩
    · rw [if_neg c2, Option.bind_some]
      simp only
      rw [if_neg (by decide)]
      by_cases c3 : n < 1
      · rw [if_pos c3]; rw [if_neg (by unfold okR; omega)] at hE; subst hE; exact ⟨_, rfl, rfl⟩
      · rw [if_neg c3]
        by_cases c4 : 64 < n
        · rw [if_pos c4]; rw [if_neg (by unfold okR; omega)] at hE; subst hE; exact ⟨_, rfl, rfl⟩
        · rw [if_neg c4]
          by_cases c5 : w < 1
          · rw [if_pos c5]; rw [if_neg (by unfold okR okW; omega)] at hE; subst hE; exact ⟨_, rfl, rfl⟩
          · rw [if_neg c5]
            by_cases c6 : 4611686018427387904 < w
            · rw [if_pos c6]; rw [if_neg (by unfold okR okW; omega)] at hE; subst hE; exact ⟨_, rfl, rfl⟩
            · rw [if_neg c6, wu64_of (by omega) (by omega), must_of (by omega), Option.bind_some, Int.tmod_eq_emod_of_nonneg hw.1]
              by_cases c7 : w % n = 0
              · rw [if_neg (nn c7)]; rw [if_pos (by unfold okR okW; omega)] at hE; subst hE; exact ⟨_, rfl, rfl⟩
              · rw [if_pos c7]; rw [if_neg (fun q => c7 q.2.2.2)] at hE; subst hE; exact ⟨_, rfl, rfl⟩
theorem topnew_eq {c : Cf} (h : CfOk c) : ∃ r, top_New c = some r ∧ r.2.2.2.2.2 = (if okB c.2.2.2.1 c.2.2.2.2.1 ∧ okR c.2.2.2.2.2.2.2.1 c.2.2.2.2.2.2.2.2 c.2.2.1 then 0 else 9) := by
  obtain ⟨E, hE⟩ : ∃ E : Int, (if okB c.2.2.2.1 c.2.2.2.2.1 ∧ okR c.2.2.2.2.2.2.2.1 c.2.2.2.2.2.2.2.2 c.2.2.1 then 0 else 9) = E := ⟨_, rfl⟩
  rw [hE]
  obtain ⟨r, hr1, hr2⟩ := ringnew_eq (cap := c.2.2.2.2.2.2.2.1) h.n h.w
  unfold top_New
  rw [bufnew_eq, Option.bind_some]
  by_cases c1 : okB c.2.2.2.1 c.2.2.2.2.1
  · rw [if_pos c1]
    simp only
    rw [if_neg (by decide), hr1, Option.bind_some]
    by_cases c2 : okR c.2.2.2.2.2.2.2.1 c.2.2.2.2.2.2.2.2 c.2.2.1
    · rw [if_pos c2] at hr2
      rw [if_pos ⟨c1, c2⟩] at hE
      rw [if_neg (nn hr2)]; subst hE; exact ⟨_, rfl, rfl⟩
    · rw [if_neg c2] at hr2
      rw [if_neg (fun q => c2 q.2)] at hE
      rw [if_pos (by omega)]; subst hE; exact ⟨_, rfl, hr2⟩
  · rw [if_neg c1]; rw [if_neg (fun q => c1 q.1)] at hE; subst hE; exact ⟨_, rfl, rfl⟩
theorem ccheck {c : Cf} (h : CfOk c) : conf_Check c = some (chk c) := by
  unfold conf_Check chk
  by_cases k1 : c.1 = 1
  · rw [if_pos k1, if_pos k1]
    unfold conf_Check_1
    rw [bare_eq (by simp), Option.bind_some, countnew_eq]
    simp only [Option.bind_some]
    by_cases c1 : c.2.2.2.2.2.1 = 0 ∧ c.2.2.2.2.2.2.2.1 = 0 ∧ c.2.2.2.2.2.2.2.2 = 0 ∧ c.2.2.2.2.2.2.1.length = 0
    · have hb : ([c.2.2.2.2.2.1, (c.2.2.2.2.2.2.1.length : Int), c.2.2.2.2.2.2.2.1, c.2.2.2.2.2.2.2.2].any (fun x => decide (x ≠ 0))) = false := by
        rw [c1.1, c1.2.1, c1.2.2.1, c1.2.2.2]; rfl
      rw [hb, if_neg (by decide)]
      by_cases c2 : okB c.2.2.2.1 c.2.2.2.2.1 ∧ okK c.2.1 ∧ okW c.2.2.1
      · rw [if_pos c2, if_pos ⟨c1, c2⟩]; rfl
      · rw [if_neg c2, if_neg (fun q => c2 q.2)]; rfl
    · have hb : ([c.2.2.2.2.2.1, (c.2.2.2.2.2.2.1.length : Int), c.2.2.2.2.2.2.2.1, c.2.2.2.2.2.2.2.2].any (fun x => decide (x ≠ 0))) = true := by
        rw [List.any_eq_true]
        simp only [List.mem_cons, List.not_mem_nil, or_false, decide_eq_true_eq]
        by_cases d1 : c.2.2.2.2.2.1 = 0
        · by_cases d2 : (c.2.2.2.2.2.2.1.length : Int) = 0
          · by_cases d3 : c.2.2.2.2.2.2.2.1 = 0
            · exact ⟨_, .inr (.inr (.inr rfl)), fun d4 => c1 ⟨d1, d3, d4, by omega⟩⟩
            · exact ⟨_, .inr (.inr (.inl rfl)), d3⟩
          · exact ⟨_, .inr (.inl rfl), d2⟩
        · exact ⟨_, .inl rfl, d1⟩
      rw [hb, if_pos (by decide), if_neg (fun q => c1 q.1)]; rfl
  · rw [if_neg k1, if_neg k1]
    by_cases k2 : c.1 = 2
    · rw [if_pos k2, if_pos k2]
      obtain ⟨r, hr1, hr2⟩ := ecmnew_eq h
      unfold conf_Check_2
      rw [bare_eq (by simp), Option.bind_some, hr1]
      simp only [Option.bind_some]
      rw [hr2]
      by_cases c1 : c.2.2.2.2.2.2.2.1 = 0 ∧ c.2.2.2.2.2.2.2.2 = 0
      · have hb : ([c.2.2.2.2.2.2.2.1, c.2.2.2.2.2.2.2.2].any (fun x => decide (x ≠ 0))) = false := by
          rw [c1.1, c1.2]; rfl
        rw [hb, if_neg (by decide)]
        by_cases c2 : okB c.2.2.2.1 c.2.2.2.2.1 ∧ okK c.2.1 ∧ okW c.2.2.1 ∧ okG c.2.2.2.2.2.1 c.2.2.2.2.2.2.1.length
        · rw [if_pos c2, if_pos (c := (_ ∧ _) ∧ _) ⟨c1, c2⟩]; rfl
        · rw [if_neg c2, if_neg (fun q => c2 q.2)]; rfl
      · have hb : ([c.2.2.2.2.2.2.2.1, c.2.2.2.2.2.2.2.2].any (fun x => decide (x ≠ 0))) = true := by
          rw [List.any_eq_true]
          simp only [List.mem_cons, List.not_mem_nil, or_false, decide_eq_true_eq]
          by_cases d1 : c.2.2.2.2.2.2.2.1 = 0
          · exact ⟨_, .inr rfl, fun d4 => c1 ⟨d1, d4⟩⟩
          · exact ⟨_, .inl rfl, d1⟩
        rw [hb, if_pos (by decide), if_neg (fun q => c1 q.1)]; rfl
    · rw [if_neg k2, if_neg k2]
      by_cases k3 : c.1 = 3
      · rw [if_pos k3, if_pos k3]
        obtain ⟨r, hr1, hr2⟩ := topnew_eq h
        unfold conf_Check_3
        rw [bare_eq (by simp), Option.bind_some, hr1]
        simp only [Option.bind_some]
        rw [hr2]
        by_cases c1 : c.2.1 = 0 ∧ c.2.2.2.2.2.1 = 0 ∧ c.2.2.2.2.2.2.1.length = 0
        · have hb : ([c.2.1, c.2.2.2.2.2.1, (c.2.2.2.2.2.2.1.length : Int)].any (fun x => decide (x ≠ 0))) = false := by
            rw [c1.1, c1.2.1, c1.2.2]; rfl
          rw [hb, if_neg (by decide)]
          by_cases c2 : okB c.2.2.2.1 c.2.2.2.2.1 ∧ okR c.2.2.2.2.2.2.2.1 c.2.2.2.2.2.2.2.2 c.2.2.1
          · rw [if_pos c2, if_pos ⟨c1, c2⟩]; rfl
          · rw [if_neg c2, if_neg (fun q => c2 q.2)]; rfl
        · have hb : ([c.2.1, c.2.2.2.2.2.1, (c.2.2.2.2.2.2.1.length : Int)].any (fun x => decide (x ≠ 0))) = true := by
            rw [List.any_eq_true]
            simp only [List.mem_cons, List.not_mem_nil, or_false, decide_eq_true_eq]
            by_cases d1 : c.2.1 = 0
            · by_cases d2 : c.2.2.2.2.2.1 = 0
              · exact ⟨_, .inr (.inr rfl), fun d4 => c1 ⟨d1, d2, by omega⟩⟩
              · exact ⟨_, .inr (.inl rfl), d2⟩
            · exact ⟨_, .inl rfl, d1⟩
          rw [hb, if_pos (by decide), if_neg (fun q => c1 q.1)]; rfl
      · rw [if_neg k3, if_neg k3]
theorem r12_eq (late room : Int) : ref12_Conf late room = some (decide (okB late room)) := by
  unfold ref12_Conf
  by_cases c1 : late ≤ 4611686018427387904
  · rw [if_pos c1]
    by_cases c2 : 1 ≤ room
    · rw [if_pos c2]
      exact congrArg some (decide_eq_decide.2 ⟨fun q => ⟨c1, c2, q⟩, fun q => q.2.2⟩)
    · rw [if_neg c2, decide_eq_false (fun q => c2 q.2.1)]
  · rw [if_neg c1, decide_eq_false (fun q => c1 q.1)]
theorem r06_eq (k : Int) : ref06_May k = some (decide (okK k)) := by
  unfold ref06_May
  by_cases c1 : 2 ≤ k
  · rw [if_pos c1]
    exact congrArg some (decide_eq_decide.2 ⟨fun q => ⟨c1, q⟩, fun q => q.2⟩)
  · rw [if_neg c1, decide_eq_false (fun q => c1 q.1)]
theorem r14_eq (k w late room : Int) : ref14_Conf k w late room = some (decide (okB late room ∧ okK k ∧ okW w)) := by
  unfold ref14_Conf
  by_cases c1 : 1 ≤ w
  · rw [if_pos c1]
    by_cases c2 : w ≤ 4611686018427387904
    · rw [if_pos c2, r06_eq, Option.bind_some]
      by_cases c3 : okK k
      · rw [decide_eq_true c3, if_pos rfl, r12_eq, Option.bind_some]
        exact congrArg some (decide_eq_decide.2 ⟨fun q => ⟨q, c3, c1, c2⟩, fun q => q.1⟩)
      · rw [decide_eq_false c3, if_neg (by decide), decide_eq_false (fun q => c3 q.2.1)]
    · rw [if_neg c2, decide_eq_false (by unfold okW; omega)]
  · rw [if_neg c1, decide_eq_false (by unfold okW; omega)]
theorem r15_eq {k cols : Int} {l : List (Int × Int)} (hl : l.length ≤ 1000) : ref15_Conf k cols l = some (if okK k ∧ okG cols l.length then (if l.any sdBad = true then 1 else 0) else 9) := by
  unfold ref15_Conf
  rw [r06_eq, Option.bind_some]
  by_cases c1 : okK k
  · rw [decide_eq_true c1, if_neg (by decide)]
    by_cases d1 : cols < 1
    · rw [if_pos d1, if_neg (by unfold okG; omega)]
    · rw [if_neg d1]
      by_cases d2 : 256 < cols
      · rw [if_pos d2, if_neg (by unfold okG; omega)]
      · rw [if_neg d2]
        by_cases d3 : (l.length : Int) < 1
        · rw [if_pos d3, if_neg (by unfold okG; omega)]
        · rw [if_neg d3]
          by_cases d4 : 8 < (l.length : Int)
          · rw [if_pos d4, if_neg (by unfold okG; omega)]
          · rw [if_neg d4, if_pos ⟨c1, by unfold okG; omega⟩]
            have h := find_loop (l := l) (step := ref15_Conf_s0 l) sdBad (fun _ => ()) (by
              intro i hi
              unfold ref15_Conf_s0
              have hm : ref04_May l[i] = some (!sdBad l[i]) := by
                unfold ref04_May sdBad
                by_cases e1 : 1 ≤ l[i].1
                · rw [if_pos e1]
                  by_cases e2 : l[i].1 < 2305843009213693951
                  · rw [if_pos e2]
                    refine congrArg some ?_
                    rw [← decide_not]
                    exact decide_eq_decide.2 ⟨fun q w => w ⟨e1, e2, q⟩, fun q => (Decidable.not_not.1 q).2.2⟩
                  · rw [if_neg e2, decide_eq_true (p := ¬ (1 ≤ l[i].1 ∧ l[i].1 < 2305843009213693951 ∧ l[i].2 < 2305843009213693951)) (fun q => e2 q.2.1)]; rfl
                · rw [if_neg e1, decide_eq_true (p := ¬ (1 ≤ l[i].1 ∧ l[i].1 < 2305843009213693951 ∧ l[i].2 < 2305843009213693951)) (fun q => e1 q.1)]; rfl
              rw [if_pos (by omega), rdo_get hi, Option.bind_some, hm, Option.bind_some, wi64_of (by omega) (by omega)]
              cases sdBad l[i] <;> rfl) (by
              unfold ref15_Conf_s0
              rw [if_neg (by omega)])
            rcases h with ⟨h1, i, h2⟩ | ⟨h1, h2⟩
            · rw [h2, h1]; rfl
            · rw [h2, h1]; rfl
  · rw [decide_eq_false c1, if_pos (by decide), if_neg (fun q => c1 q.1)]
theorem r16_eq {c : Cf} (h : CfOk c) : ref16_Conf c = some (if okB c.2.2.2.1 c.2.2.2.2.1 ∧ okK c.2.1 ∧ okW c.2.2.1 ∧ okG c.2.2.2.2.2.1 c.2.2.2.2.2.2.1.length then (if c.2.2.2.2.2.2.1.any sdBad = true then 1 else 0) else 9) := by
  have hlen := h.len
  have hw := h.w
  unfold ref16_Conf
  by_cases c3 : c.2.2.1 = 0
  · rw [if_pos c3, if_neg (by unfold okW; omega)]
  · rw [if_neg c3]
    by_cases c4 : 4611686018427387904 < c.2.2.1
    · rw [if_pos c4, if_neg (by unfold okW; omega)]
    · have cw : okW c.2.2.1 := by unfold okW; omega
      rw [if_neg c4, r12_eq, Option.bind_some]
      by_cases c1 : okB c.2.2.2.1 c.2.2.2.2.1
      · rw [decide_eq_true c1, if_neg (by decide), r15_eq (by omega), Option.bind_some]
        by_cases c5 : okK c.2.1 ∧ okG c.2.2.2.2.2.1 c.2.2.2.2.2.2.1.length
        · rw [if_pos c5, if_pos (c := _ ∧ _) ⟨c1, c5.1, cw, c5.2⟩]
        · rw [if_neg c5, if_neg (fun q => c5 ⟨q.2.1, q.2.2.2⟩)]
      · rw [decide_eq_false c1, if_pos (by decide), if_neg (fun q => c1 q.1)]
theorem r19_eq {cap n w : Int} (hw : U64 w) : ref19_Conf cap n w = some (decide (okR cap n w)) := by
  unfold ref19_Conf ref17_Conf
  by_cases c1 : 1 ≤ cap
  · rw [if_pos c1, Option.bind_some]
    by_cases c2 : cap ≤ 256
    · rw [decide_eq_true c2, if_pos rfl]
      by_cases c3 : 1 ≤ n
      · rw [if_pos c3]
        by_cases c4 : n ≤ 64
        · rw [if_pos c4]
          by_cases c5 : 1 ≤ w
          · rw [if_pos c5]
            by_cases c6 : w ≤ 4611686018427387904
            · rw [if_pos c6, wu64_of (by omega) (by omega), must_of (by omega), Option.bind_some, Int.tmod_eq_emod_of_nonneg hw.1]
              exact congrArg some (decide_eq_decide.2 ⟨fun q => ⟨⟨c1, c2⟩, ⟨c3, c4⟩, ⟨c5, c6⟩, q⟩, fun q => q.2.2.2⟩)
            · rw [if_neg c6, decide_eq_false (fun q => c6 q.2.2.1.2)]
          · rw [if_neg c5, decide_eq_false (fun q => c5 q.2.2.1.1)]
        · rw [if_neg c4, decide_eq_false (fun q => c4 q.2.1.2)]
      · rw [if_neg c3, decide_eq_false (fun q => c3 q.2.1.1)]
    · rw [decide_eq_false c2, if_neg (by decide), decide_eq_false (fun q => c2 q.1.2)]
  · rw [if_neg c1, Option.bind_some, if_neg (by decide), decide_eq_false (fun q => c1 q.1.1)]
theorem r20_eq {c : Cf} (h : CfOk c) : ref20_Conf c = some (decide (okB c.2.2.2.1 c.2.2.2.2.1 ∧ okR c.2.2.2.2.2.2.2.1 c.2.2.2.2.2.2.2.2 c.2.2.1)) := by
  unfold ref20_Conf
  rw [r12_eq, Option.bind_some]
  by_cases c1 : okB c.2.2.2.1 c.2.2.2.2.1
  · rw [decide_eq_true c1, if_pos rfl, r19_eq h.w, Option.bind_some]
    exact congrArg some (decide_eq_decide.2 ⟨fun q => ⟨c1, q⟩, fun q => q.2⟩)
  · rw [decide_eq_false c1, if_neg (by decide), decide_eq_false (fun q => c1 q.1)]
theorem rcheck {c : Cf} (h : CfOk c) : ref21_Check c = some (chk c) := by
  unfold ref21_Check chk
  by_cases k1 : c.1 = 1
  · rw [if_pos k1, if_pos k1]
    by_cases d1 : c.2.2.2.2.2.1 = 0
    · rw [if_neg (nn d1)]
      by_cases d2 : c.2.2.2.2.2.2.2.1 = 0
      · rw [if_neg (nn d2)]
        by_cases d3 : c.2.2.2.2.2.2.2.2 = 0
        · rw [if_neg (nn d3)]
          by_cases d4 : c.2.2.2.2.2.2.1.length = 0
          · rw [if_neg (by omega), r14_eq, Option.bind_some]
            by_cases c2 : okB c.2.2.2.1 c.2.2.2.2.1 ∧ okK c.2.1 ∧ okW c.2.2.1
            · rw [decide_eq_true c2, if_neg (by decide), if_pos ⟨⟨d1, d2, d3, d4⟩, c2⟩]
            · rw [decide_eq_false c2, if_pos (by decide), if_neg (fun q => c2 q.2)]
          · rw [if_pos (by omega), if_neg (fun q => d4 q.1.2.2.2)]
        · rw [if_pos d3, if_neg (fun q => d3 q.1.2.2.1)]
      · rw [if_pos d2, if_neg (fun q => d2 q.1.2.1)]
    · rw [if_pos d1, if_neg (fun q => d1 q.1.1)]
  · rw [if_neg k1, if_neg k1]
    by_cases k2 : c.1 = 2
    · rw [if_pos k2, if_pos k2]
      by_cases d2 : c.2.2.2.2.2.2.2.1 = 0
      · rw [if_neg (nn d2)]
        by_cases d3 : c.2.2.2.2.2.2.2.2 = 0
        · rw [if_neg (nn d3), r16_eq h, Option.bind_some]
          by_cases c2 : okB c.2.2.2.1 c.2.2.2.2.1 ∧ okK c.2.1 ∧ okW c.2.2.1 ∧ okG c.2.2.2.2.2.1 c.2.2.2.2.2.2.1.length
          · rw [if_pos c2, if_pos (c := (_ ∧ _) ∧ _) ⟨⟨d2, d3⟩, c2⟩]
          · rw [if_neg c2, if_neg (fun q => c2 q.2)]
        · rw [if_pos d3, if_neg (fun q => d3 q.1.2)]
      · rw [if_pos d2, if_neg (fun q => d2 q.1.1)]
    · rw [if_neg k2, if_neg k2]
      by_cases k3 : c.1 = 3
      · rw [if_pos k3, if_pos k3]
        by_cases d1 : c.2.1 = 0
        · rw [if_neg (nn d1)]
          by_cases d2 : c.2.2.2.2.2.1 = 0
          · rw [if_neg (nn d2)]
            by_cases d4 : c.2.2.2.2.2.2.1.length = 0
            · rw [if_neg (by omega), r20_eq h, Option.bind_some]
              by_cases c2 : okB c.2.2.2.1 c.2.2.2.2.1 ∧ okR c.2.2.2.2.2.2.2.1 c.2.2.2.2.2.2.2.2 c.2.2.1
              · rw [decide_eq_true c2, if_neg (by decide), if_pos ⟨⟨d1, d2, d4⟩, c2⟩]
              · rw [decide_eq_false c2, if_pos (by decide), if_neg (fun q => c2 q.2)]
            · rw [if_pos (by omega), if_neg (fun q => d4 q.1.2.2)]
          · rw [if_pos d2, if_neg (fun q => d2 q.1.2.1)]
        · rw [if_pos d1, if_neg (fun q => d1 q.1.1)]
      · rw [if_neg k3, if_neg k3]
end Go.Proofs.Ytbeknohemgjfbaa.Pu
namespace Go.Proofs.Ytbeknohemgjfbaa.Pu
set_option linter.unusedVariables false

def nz (l : List Int) : List Int := (l.map (fun x => dg x.toNat)).flatten
theorem nz_snoc {l : List Int} {i : Nat} (h : i < l.length) : nz (l.take (i + 1)) = nz (l.take i) ++ dg l[i].toNat := by
  rw [List.take_succ_eq_append_getElem h]
  simp only [nz, List.map_append, List.flatten_append, List.map_cons, List.map_nil, List.flatten_cons, List.flatten_nil, List.append_nil]
theorem nz_len : ∀ {l : List Int}, (∀ x ∈ l, U64 x) → (nz l).length ≤ 10 * l.length := by
  intro l
  induction l with
  | nil => intro _; exact Nat.le_refl _
  | cons x l ih =>
    intro h
    have h1 := ih (fun y hy => h y (List.mem_cons_of_mem _ hy))
    have h2 := h x List.mem_cons_self
    have h3 := dg10 (n := x.toNat) (by omega)
    show (dg x.toNat ++ nz l).length ≤ 10 * (l.length + 1)
    rw [List.length_append]
    omega
theorem codec_num {x : Int} (h : U64 x) : codec_Num x = some (dg x.toNat) := by
  obtain ⟨n, rfl, hn⟩ := u64_nat h
  rw [cnum hn, Int.toNat_natCast]
theorem ref_num {x : Int} (h : U64 x) : ref02_Num x = some (dg x.toNat) := by
  obtain ⟨n, rfl, hn⟩ := u64_nat h
  rw [rnum hn, Int.toNat_natCast]
theorem cnums {l : List Int} (hl : l.length ≤ 20) (h : ∀ x ∈ l, U64 x) : conf_nums l = some (nz l) := by
  have h1 : ∀ i : Nat, i < l.length → conf_nums_s0 l (nz (l.take i), (i : Int)) = some (.inl (nz (l.take (i + 1)), ((i + 1 : Nat) : Int))) := by
    intro i hi
    have hx := h _ (List.getElem_mem hi)
    have hL := nz_len (l := l.take i) (fun x hx => h x (List.mem_of_mem_take hx))
    have hd := dg10 (n := l[i].toNat) (by omega)
    rw [List.length_take] at hL
    unfold conf_nums_s0
    simp only
    rw [if_pos (by omega), rdo_get hi, Option.bind_some, wu64_of hx.1 hx.2, codec_num hx, Option.bind_some, rm1 (by omega), Option.bind_some, wi64_of (by omega) (by omega), nz_snoc hi]
    rfl
  have h2 : conf_nums_s0 l (nz (l.take l.length), (l.length : Int)) = some (.inr (nz l)) := by
    unfold conf_nums_s0
    simp only
    rw [if_neg (by omega), List.take_length]
  have := loopO_run (fun i : Nat => (nz (l.take i), (i : Int))) _ h1 h2
  have h0 : loopO (conf_nums_s0 l) (([] : List Int), (0 : Int)) = some (nz l) := this
  unfold conf_nums
  rw [h0]
  rfl
theorem rnums {l : List Int} (hl : l.length ≤ 20) (h : ∀ x ∈ l, U64 x) : ref21_nums l = some (nz l) := by
  have h1 : ∀ i : Nat, i < l.length → ref21_nums_s0 l (nz (l.take i), (i : Int)) = some (.inl (nz (l.take (i + 1)), ((i + 1 : Nat) : Int))) := by
    intro i hi
    have hx := h _ (List.getElem_mem hi)
    have hL := nz_len (l := l.take i) (fun x hx => h x (List.mem_of_mem_take hx))
    have hd := dg10 (n := l[i].toNat) (by omega)
    rw [List.length_take] at hL
    unfold ref21_nums_s0
    simp only
    rw [if_pos (by omega), rdo_get hi, Option.bind_some, ref_num hx, Option.bind_some, rm1 (by omega), Option.bind_some, wi64_of (by omega) (by omega), nz_snoc hi]
    rfl
  have h2 : ref21_nums_s0 l (nz (l.take l.length), (l.length : Int)) = some (.inr (nz l)) := by
    unfold ref21_nums_s0
    simp only
    rw [if_neg (by omega), List.take_length]
  have := loopO_run (fun i : Nat => (nz (l.take i), (i : Int))) _ h1 h2
  have h0 : loopO (ref21_nums_s0 l) (([] : List Int), (0 : Int)) = some (nz l) := this
  unfold ref21_nums
  rw [h0]
  rfl
theorem flat_takeB {l : List (List Int)} {k : Nat} (h : k < l.length) : (l.take (k + 1)).flatten = (l.take k).flatten ++ l[k] := by
  rw [List.take_succ_eq_append_getElem h, List.flatten_append]; simp
theorem flat_leB (l : List (List Int)) (k : Nat) : ((l.take k).flatten).length ≤ l.flatten.length := by
  have := congrArg List.flatten (List.take_append_drop k l)
  rw [List.flatten_append] at this
  rw [← this, List.length_append]
  omega
theorem growB {n : Nat} (h : n ≤ 100000) : slices_Grow_byte (n : Int) = some [] := by
  unfold slices_Grow_byte
  rw [if_neg (by omega), Option.bind_some, wi64_of (by omega) (by omega)]
  by_cases c : (0 : Int) < (n : Int) - 0
  · rw [if_pos c, must_of ⟨by decide, by decide⟩, Option.bind_some, room_of (by omega) (by omega), Option.bind_some, must_of ⟨by decide, by omega⟩, Option.bind_some]
    rfl
  · rw [if_neg c]
theorem concatB {l : List (List Int)} (h : l.length ≤ 100000) (h2 : l.flatten.length ≤ 100000) : slices_Concat_byte l = some l.flatten := by
  unfold slices_Concat_byte
  have h1 : ∀ k : Nat, k < l.length → slices_Concat_byte_s0 l (((l.take k).flatten.length : Int), (k : Int)) = some (.inl (((l.take (k + 1)).flatten.length : Int), ((k + 1 : Nat) : Int))) := by
    intro k hk
    have e := flat_takeB hk
    have e2 := flat_leB l (k + 1)
    have e3 := congrArg List.length e
    rw [List.length_append] at e3
    unfold slices_Concat_byte_s0
    simp only []
    rw [if_pos (by omega), rdo_get hk, Option.bind_some, wi64_of (by omega) (by omega), if_neg (by omega), wi64_of (by omega) (by omega), e3]
    push_cast
    rfl
  have g1 : slices_Concat_byte_s0 l (((l.take l.length).flatten.length : Int), (l.length : Int)) = some (.inr (l.flatten.length : Int)) := by
    unfold slices_Concat_byte_s0
    simp only []
    rw [if_neg (by omega), List.take_length]
  have := loopO_run (fun k : Nat => (((l.take k).flatten.length : Int), (k : Int))) _ h1 g1
  have h0 : loopO (slices_Concat_byte_s0 l) ((0 : Int), (0 : Int)) = some (l.flatten.length : Int) := this
  have h3 : ∀ k : Nat, k < l.length → slices_Concat_byte_s1 l ((l.take k).flatten, (k : Int)) = some (.inl ((l.take (k + 1)).flatten, ((k + 1 : Nat) : Int))) := by
    intro k hk
    have e := flat_takeB hk
    have e2 := flat_leB l (k + 1)
    have e3 := congrArg List.length e
    rw [List.length_append] at e3
    unfold slices_Concat_byte_s1
    simp only []
    rw [if_pos (by omega), rdo_get hk, Option.bind_some, room_of (by omega) (by omega), Option.bind_some, wi64_of (by omega) (by omega), e]
    rfl
  have g3 : slices_Concat_byte_s1 l ((l.take l.length).flatten, (l.length : Int)) = some (.inr l.flatten) := by
    unfold slices_Concat_byte_s1
    simp only []
    rw [if_neg (by omega), List.take_length]
  have := loopO_run (fun k : Nat => ((l.take k).flatten, (k : Int))) _ h3 g3
  have h4 : loopO (slices_Concat_byte_s1 l) (([] : List Int), (0 : Int)) = some l.flatten := this
  rw [h0, Option.bind_some, growB h2, Option.bind_some, h4]
  rfl
def encSd (l : List (Int × Int)) : List Int := (l.map (fun s => fx s.1 ++ fx s.2)).flatten
theorem encSd_snoc {l : List (Int × Int)} {i : Nat} (h : i < l.length) : encSd (l.take (i + 1)) = encSd (l.take i) ++ (fx l[i].1 ++ fx l[i].2) := by
  rw [List.take_succ_eq_append_getElem h]
  simp only [encSd, List.map_append, List.flatten_append, List.map_cons, List.map_nil, List.flatten_cons, List.flatten_nil, List.append_nil]
theorem encSd_len : ∀ (l : List (Int × Int)), (encSd l).length = 16 * l.length := by
  intro l
  induction l with
  | nil => rfl
  | cons s l ih =>
    show (fx s.1 ++ fx s.2 ++ encSd l).length = 16 * (l.length + 1)
    rw [List.length_append, List.length_append, ih, show (fx s.1).length = 8 from rfl, show (fx s.2).length = 8 from rfl]
    omega
theorem cseeds {l : List (Int × Int)} (hl : l.length ≤ 20) {acc : List Int} (ha : acc.length ≤ 1000) : conf_seeds_1 (yl conf_Put_r0) l (.inl acc) = some (.inl (acc ++ encSd l)) := by
  have hy : ∀ (x d : List Int), d.length ≤ 10000 → x.length = 8 → yl conf_Put_r0 x (.inl d) = some (true, .inl (d ++ x)) := by
    intro x d h1 h2
    unfold yl conf_Put_r0
    simp only
    rw [rm1 (by omega)]
    rfl
  have h1 : ∀ i : Nat, i < l.length → conf_seeds_1_s0 (yl conf_Put_r0) l ((i : Int), .inl (acc ++ encSd (l.take i))) = some (.inl (((i + 1 : Nat) : Int), .inl (acc ++ encSd (l.take (i + 1))))) := by
    intro i hi
    have hL := encSd_len (l.take i)
    rw [List.length_take] at hL
    unfold conf_seeds_1_s0
    simp only
    rw [if_pos (by omega), rdo_get hi, Option.bind_some, cfixed, Option.bind_some, hy _ _ (by rw [List.length_append]; omega) rfl, Option.bind_some]
    simp only
    rw [if_neg (by decide), cfixed, Option.bind_some, hy _ _ (by rw [List.length_append, List.length_append, show (fx l[i].1).length = 8 from rfl]; omega) rfl, Option.bind_some]
    simp only
    rw [if_neg (by decide), wi64_of (by omega) (by omega), encSd_snoc hi]
    simp only [List.append_assoc]
    rfl
  have h2 : conf_seeds_1_s0 (yl conf_Put_r0) l ((l.length : Int), .inl (acc ++ encSd (l.take l.length))) = some (.inr (.inr (.inl (acc ++ encSd l)))) := by
    unfold conf_seeds_1_s0
    simp only
    rw [if_neg (by omega), List.take_length]
  have := loopO_run (fun i : Nat => ((i : Int), ((.inl (acc ++ encSd (l.take i))) : List Int ⊕ Empty))) _ h1 h2
  have e0 : acc ++ encSd (l.take 0) = acc := by rw [List.take_zero]; show acc ++ [] = acc; rw [List.append_nil]
  rw [e0] at this
  unfold conf_seeds_1
  have h0 : loopO (conf_seeds_1_s0 (yl conf_Put_r0) l) ((0 : Int), ((.inl acc) : List Int ⊕ Empty)) = some (.inr (.inl (acc ++ encSd l))) := this
  rw [h0]
  rfl
theorem rseeds {c : Cf} (hl : c.2.2.2.2.2.2.1.length ≤ 20) {acc : List Int} (ha : acc.length ≤ 1000) : loopO (ref21_Put_s0 c) (acc, (0 : Int)) = some (acc ++ encSd c.2.2.2.2.2.2.1) := by
  have h1 : ∀ i : Nat, i < c.2.2.2.2.2.2.1.length → ref21_Put_s0 c (acc ++ encSd (c.2.2.2.2.2.2.1.take i), (i : Int)) = some (.inl (acc ++ encSd (c.2.2.2.2.2.2.1.take (i + 1)), ((i + 1 : Nat) : Int))) := by
    intro i hi
    have hL := encSd_len (c.2.2.2.2.2.2.1.take i)
    rw [List.length_take] at hL
    unfold ref21_Put_s0
    simp only
    rw [if_pos (by omega), rdo_get hi, Option.bind_some, rfixed, Option.bind_some, rm1 (by rw [List.length_append, show (fx c.2.2.2.2.2.2.1[i].1).length = 8 from rfl]; omega), Option.bind_some, rfixed, Option.bind_some, rm1 (by rw [List.length_append, List.length_append, show (fx c.2.2.2.2.2.2.1[i].1).length = 8 from rfl, show (fx c.2.2.2.2.2.2.1[i].2).length = 8 from rfl]; omega), Option.bind_some, wi64_of (by omega) (by omega), encSd_snoc hi]
    simp only [List.append_assoc]
    rfl
  have h2 : ref21_Put_s0 c (acc ++ encSd (c.2.2.2.2.2.2.1.take c.2.2.2.2.2.2.1.length), (c.2.2.2.2.2.2.1.length : Int)) = some (.inr (acc ++ encSd c.2.2.2.2.2.2.1)) := by
    unfold ref21_Put_s0
    simp only
    rw [if_neg (by omega), List.take_length]
  have := loopO_run (fun i : Nat => (acc ++ encSd (c.2.2.2.2.2.2.1.take i), (i : Int))) _ h1 h2
  have e0 : acc ++ encSd (c.2.2.2.2.2.2.1.take 0) = acc := by rw [List.take_zero]; show acc ++ [] = acc; rw [List.append_nil]
  rw [e0] at this
  exact this
def encT (c : Cf) : List Int :=
  if c.1 = 1 then dg c.2.1.toNat
  else if c.1 = 2 then dg c.2.1.toNat ++ (dg c.2.2.2.2.2.1.toNat ++ (dg c.2.2.2.2.2.2.1.length ++ encSd c.2.2.2.2.2.2.1))
  else dg c.2.2.2.2.2.2.2.1.toNat ++ dg c.2.2.2.2.2.2.2.2.toNat
def encC (c : Cf) : List Int := dg c.1.toNat ++ (dg c.2.2.1.toNat ++ (dg c.2.2.2.1.toNat ++ (dg c.2.2.2.2.1.toNat ++ encT c)))
inductive ChkP (c : Cf) : Prop
  | one (k : c.1 = 1) (h0 : c.2.2.2.2.2.1 = 0 ∧ c.2.2.2.2.2.2.2.1 = 0 ∧ c.2.2.2.2.2.2.2.2 = 0 ∧ c.2.2.2.2.2.2.1.length = 0) (b : okB c.2.2.2.1 c.2.2.2.2.1) (kk : okK c.2.1) (w : okW c.2.2.1)
  | two (k : c.1 = 2) (h0 : c.2.2.2.2.2.2.2.1 = 0 ∧ c.2.2.2.2.2.2.2.2 = 0) (b : okB c.2.2.2.1 c.2.2.2.2.1) (kk : okK c.2.1) (w : okW c.2.2.1) (g : okG c.2.2.2.2.2.1 c.2.2.2.2.2.2.1.length) (s : c.2.2.2.2.2.2.1.any sdBad = false)
  | three (k : c.1 = 3) (h0 : c.2.1 = 0 ∧ c.2.2.2.2.2.1 = 0 ∧ c.2.2.2.2.2.2.1.length = 0) (b : okB c.2.2.2.1 c.2.2.2.2.1) (r : okR c.2.2.2.2.2.2.2.1 c.2.2.2.2.2.2.2.2 c.2.2.1)
theorem chk_zero {c : Cf} (h : chk c = 0) : ChkP c := by
  unfold chk at h
  by_cases k1 : c.1 = 1
  · rw [if_pos k1] at h
    split at h
    · rename_i q
      exact .one k1 q.1 q.2.1 q.2.2.1 q.2.2.2
    · exact absurd h (by decide)
  · rw [if_neg k1] at h
    by_cases k2 : c.1 = 2
    · rw [if_pos k2] at h
      split at h
      · rename_i q
        split at h
        · exact absurd h (by decide)
        · rename_i q2
          exact .two k2 q.1 q.2.1 q.2.2.1 q.2.2.2.1 q.2.2.2.2 (Bool.eq_false_iff.2 q2)
      · exact absurd h (by decide)
    · rw [if_neg k2] at h
      by_cases k3 : c.1 = 3
      · rw [if_pos k3] at h
        split at h
        · rename_i q
          exact .three k3 q.1 q.2.1 q.2.2
        · exact absurd h (by decide)
      · rw [if_neg k3] at h
        exact absurd h (by decide)
theorem ChkP.b {c : Cf} (h : ChkP c) : okB c.2.2.2.1 c.2.2.2.2.1 := by cases h <;> assumption
theorem ChkP.w {c : Cf} (h : ChkP c) : okW c.2.2.1 := by
  cases h with
  | one _ _ _ _ w => exact w
  | two _ _ _ _ w => exact w
  | three _ _ _ r => exact r.2.2.1
theorem ChkP.kd {c : Cf} (h : ChkP c) : 1 ≤ c.1 ∧ c.1 ≤ 3 := by cases h <;> omega
theorem nz1 (a : Int) : nz [a] = dg a.toNat := by simp [nz]
theorem nz2 (a b : Int) : nz [a, b] = dg a.toNat ++ dg b.toNat := by simp [nz]
theorem nz3 (a b c : Int) : nz [a, b, c] = dg a.toNat ++ (dg b.toNat ++ dg c.toNat) := by simp [nz]
theorem nz4 (a b c d : Int) : nz [a, b, c, d] = dg a.toNat ++ (dg b.toNat ++ (dg c.toNat ++ dg d.toNat)) := by simp [nz]
theorem all1 {a : Int} (h : U64 a) : ∀ x ∈ [a], U64 x := by
  intro x hx; rw [List.mem_singleton.1 hx]; exact h
theorem all2 {a b : Int} (ha : U64 a) (hb : U64 b) : ∀ x ∈ [a, b], U64 x := by
  intro x hx; rcases List.mem_cons.1 hx with rfl | hx
  · exact ha
  · exact all1 hb x hx
theorem all3 {a b c : Int} (ha : U64 a) (hb : U64 b) (hc : U64 c) : ∀ x ∈ [a, b, c], U64 x := by
  intro x hx; rcases List.mem_cons.1 hx with rfl | hx
  · exact ha
  · exact all2 hb hc x hx
theorem all4 {a b c d : Int} (ha : U64 a) (hb : U64 b) (hc : U64 c) (hd : U64 d) : ∀ x ∈ [a, b, c, d], U64 x := by
  intro x hx; rcases List.mem_cons.1 hx with rfl | hx
  · exact ha
  · exact all3 hb hc hd x hx
theorem cput {c : Cf} (h : CfOk c) : conf_Put c = some (if chk c = 0 then encC c else []) := by
  unfold conf_Put
  rw [ccheck h, Option.bind_some]
  by_cases hc : chk c = 0
  · have hp := chk_zero hc
    have hlen := h.len
    obtain ⟨b1, b2, b3⟩ := hp.b
    obtain ⟨w1, w2⟩ := hp.w
    obtain ⟨k1, k2⟩ := hp.kd
    have ul := h.late
    have uw := h.w
    have d1 := dg10 (n := c.1.toNat) (by omega)
    have d2 := dg10 (n := c.2.2.1.toNat) (by omega)
    have d3 := dg10 (n := c.2.2.2.1.toNat) (by omega)
    have d4 := dg10 (n := c.2.2.2.2.1.toNat) (by omega)
    have hfl : [dg c.1.toNat, dg c.2.2.1.toNat, dg c.2.2.2.1.toNat, dg c.2.2.2.2.1.toNat].flatten = dg c.1.toNat ++ (dg c.2.2.1.toNat ++ (dg c.2.2.2.1.toNat ++ dg c.2.2.2.2.1.toNat)) := by simp
    have hfe : ∀ T, encT c = T → dg c.1.toNat ++ (dg c.2.2.1.toNat ++ (dg c.2.2.2.1.toNat ++ dg c.2.2.2.2.1.toNat)) ++ T = encC c := by
      intro T hT
      unfold encC
      rw [hT]
      simp only [List.append_assoc]
    have hfll : (dg c.1.toNat ++ (dg c.2.2.1.toNat ++ (dg c.2.2.2.1.toNat ++ dg c.2.2.2.2.1.toNat))).length ≤ 40 := by simp only [List.length_append]; omega
    rw [if_neg (nn hc), if_pos hc, cnums (by simp) (all1 (by omega)), Option.bind_some, codec_num h.w, Option.bind_some, codec_num h.late, Option.bind_some, cnums (by simp) (all1 (by omega)), Option.bind_some, nz1, nz1, concatB (by simp) (by rw [hfl]; omega), Option.bind_some, hfl]
    generalize dg c.1.toNat ++ (dg c.2.2.1.toNat ++ (dg c.2.2.2.1.toNat ++ dg c.2.2.2.2.1.toNat)) = F at hfe hfll ⊢
    cases hp with
    | one k h0 b kk w =>
      obtain ⟨q1, q2⟩ := kk
      have d5 := dg10 (n := c.2.1.toNat) (by omega)
      rw [if_pos k, cnums (by simp) (all1 (by omega)), Option.bind_some, nz1, rm1 (by omega), Option.bind_some, hfe _ (by unfold encT; rw [if_pos k])]
    | two k h0 b kk w g s =>
      obtain ⟨q1, q2⟩ := kk
      obtain ⟨g1, g2, g3, g4⟩ := g
      have d5 := dg10 (n := c.2.1.toNat) (by omega)
      have d6 := dg10 (n := c.2.2.2.2.2.1.toNat) (by omega)
      have d7 := dg10 (n := c.2.2.2.2.2.2.1.length) (by omega)
      rw [if_neg (by omega), if_pos k, cnums (by simp) (all3 (by omega) (by omega) (by omega)), Option.bind_some, nz3, Int.toNat_natCast, rm1 (by simp only [List.length_append]; omega), Option.bind_some]
      unfold conf_seeds
      rw [Option.bind_some, cseeds (by omega) (by simp only [List.length_append]; omega), Option.bind_some]
      simp only [Sum.elim_inl]
      rw [List.append_assoc, hfe _ (by unfold encT; rw [if_neg (by omega), if_pos k]; simp only [List.append_assoc])]
    | three k h0 b r =>
      obtain ⟨⟨r1, r2⟩, ⟨r3, r4⟩, _⟩ := r
      have d5 := dg10 (n := c.2.2.2.2.2.2.2.1.toNat) (by omega)
      have d6 := dg10 (n := c.2.2.2.2.2.2.2.2.toNat) (by omega)
      rw [if_neg (by omega), if_neg (by omega), cnums (by simp) (all2 (by omega) (by omega)), Option.bind_some, nz2, rm1 (by simp only [List.length_append]; omega), Option.bind_some, hfe _ (by unfold encT; rw [if_neg (by omega), if_neg (by omega)])]
  · rw [if_pos hc, if_neg hc]
theorem rput21 {c : Cf} (h : CfOk c) : ref21_Put c = some (if chk c = 0 then encC c else []) := by
  unfold ref21_Put
  rw [rcheck h, Option.bind_some]
  by_cases hc : chk c = 0
  · have hp := chk_zero hc
    have hlen := h.len
    obtain ⟨b1, b2, b3⟩ := hp.b
    obtain ⟨w1, w2⟩ := hp.w
    obtain ⟨k1, k2⟩ := hp.kd
    have ul := h.late
    have uw := h.w
    have d1 := dg10 (n := c.1.toNat) (by omega)
    have d2 := dg10 (n := c.2.2.1.toNat) (by omega)
    have d3 := dg10 (n := c.2.2.2.1.toNat) (by omega)
    have d4 := dg10 (n := c.2.2.2.2.1.toNat) (by omega)
    have hfe : ∀ T, encT c = T → dg c.1.toNat ++ (dg c.2.2.1.toNat ++ (dg c.2.2.2.1.toNat ++ dg c.2.2.2.2.1.toNat)) ++ T = encC c := by
      intro T hT
      unfold encC
      rw [hT]
      simp only [List.append_assoc]
    have hfll : (dg c.1.toNat ++ (dg c.2.2.1.toNat ++ (dg c.2.2.2.1.toNat ++ dg c.2.2.2.2.1.toNat))).length ≤ 40 := by simp only [List.length_append]; omega
    rw [if_neg (nn hc), if_pos hc, wu64_of (x := c.1) (by omega) (by omega), wu64_of (x := c.2.2.2.2.1) (by omega) (by omega), rnums (by simp) (all4 (by omega) h.w h.late (by omega)), Option.bind_some, nz4]
    generalize dg c.1.toNat ++ (dg c.2.2.1.toNat ++ (dg c.2.2.2.1.toNat ++ dg c.2.2.2.2.1.toNat)) = F at hfe hfll ⊢
    cases hp with
    | one k h0 b kk w =>
      obtain ⟨q1, q2⟩ := kk
      have d5 := dg10 (n := c.2.1.toNat) (by omega)
      rw [if_pos k, wu64_of (x := c.2.1) (by omega) (by omega), rnums (by simp) (all1 (by omega)), Option.bind_some, nz1, rm1 (by omega), Option.bind_some, hfe _ (by unfold encT; rw [if_pos k])]
    | two k h0 b kk w g s =>
      obtain ⟨q1, q2⟩ := kk
      obtain ⟨g1, g2, g3, g4⟩ := g
      have d5 := dg10 (n := c.2.1.toNat) (by omega)
      have d6 := dg10 (n := c.2.2.2.2.2.1.toNat) (by omega)
      have d7 := dg10 (n := c.2.2.2.2.2.2.1.length) (by omega)
      rw [if_neg (by omega), if_pos k, wu64_of (x := c.2.1) (by omega) (by omega), wu64_of (x := c.2.2.2.2.2.1) (by omega) (by omega), wu64_of (x := (c.2.2.2.2.2.2.1.length : Int)) (by omega) (by omega), rnums (by simp) (all3 (by omega) (by omega) (by omega)), Option.bind_some, nz3, Int.toNat_natCast, rm1 (by simp only [List.length_append]; omega), Option.bind_some]
      rw [rseeds (by omega) (by simp only [List.length_append]; omega), Option.bind_some, List.append_assoc, hfe _ (by unfold encT; rw [if_neg (by omega), if_pos k]; simp only [List.append_assoc])]
    | three k h0 b r =>
      obtain ⟨⟨r1, r2⟩, ⟨r3, r4⟩, _⟩ := r
      have d5 := dg10 (n := c.2.2.2.2.2.2.2.1.toNat) (by omega)
      have d6 := dg10 (n := c.2.2.2.2.2.2.2.2.toNat) (by omega)
      rw [if_neg (by omega), if_neg (by omega), wu64_of (x := c.2.2.2.2.2.2.2.1) (by omega) (by omega), wu64_of (x := c.2.2.2.2.2.2.2.2) (by omega) (by omega), rnums (by simp) (all2 (by omega) (by omega)), Option.bind_some, nz2, rm1 (by simp only [List.length_append]; omega), Option.bind_some, hfe _ (by unfold encT; rw [if_neg (by omega), if_neg (by omega)])]
  · rw [if_pos hc, if_neg hc]
theorem byt_app {a b : List Int} (ha : Byt a) (hb : Byt b) : Byt (a ++ b) := fun x hx => (List.mem_append.1 hx).elim (ha x) (hb x)
theorem dg_byt (n : Nat) : Byt (dg n) := dg_u8 n
theorem encSd_byt : ∀ (l : List (Int × Int)), Byt (encSd l) := by
  intro l
  induction l with
  | nil => intro x hx; cases hx
  | cons s l ih => exact byt_app (byt_app (fx_byt _) (fx_byt _)) ih
theorem encT_byt (c : Cf) : Byt (encT c) := by
  unfold encT
  split
  · exact dg_byt _
  · split
    · exact byt_app (dg_byt _) (byt_app (dg_byt _) (byt_app (dg_byt _) (encSd_byt _)))
    · exact byt_app (dg_byt _) (dg_byt _)
theorem encC_byt (c : Cf) : Byt (encC c) := byt_app (dg_byt _) (byt_app (dg_byt _) (byt_app (dg_byt _) (byt_app (dg_byt _) (encT_byt c))))
end Go.Proofs.Ytbeknohemgjfbaa.Pu
namespace Go.Proofs.Ytbeknohemgjfbaa.Pu
set_option linter.unusedVariables false

def seedsM : Nat → Rd8 → List (Int × Int) × Rd8
  | 0, r => ([], r)
  | n + 1, r => (((fixM r).1, (fixM (fixM r).2).1) :: (seedsM n (fixM (fixM r).2).2).1, (seedsM n (fixM (fixM r).2).2).2)
theorem seedsM_ok : ∀ (n : Nat) {r : Rd8}, RdOk r → RdOk (seedsM n r).2 ∧ (seedsM n r).1.length = n ∧ ∀ s ∈ (seedsM n r).1, U64 s.1 ∧ U64 s.2 := by
  intro n
  induction n with
  | zero => intro r hr; exact ⟨hr, rfl, fun s hs => by cases hs⟩
  | succ n ih =>
    intro r hr
    have h1 := fixM_ok hr
    have h2 := fixM_ok h1
    obtain ⟨g1, g2, g3⟩ := ih h2
    refine ⟨g1, by show (_ :: _).length = _; rw [List.length_cons, g2], fun s hs => ?_⟩
    rcases List.mem_cons.1 hs with rfl | hs
    · exact ⟨fixM_u hr, fixM_u h1⟩
    · exact g3 s hs
theorem ctake_seeds {r112 : Int × List Int × Int} (h : r112.1 ≤ 8) : ∀ (n i : Nat) (acc : List (Int × Int)) (r : Rd8), (i : Int) + n = r112.1 → RdOk r → acc.length = i →
    loopO (conf_Take_s0 r112) ((i : Int), r.1, r.2, acc) = some ((seedsM n r).2.1, (seedsM n r).2.2, acc ++ (seedsM n r).1) := by
  intro n
  induction n with
  | zero =>
    intro i acc r hi hr ha
    refine loopO_done ?_
    unfold conf_Take_s0
    simp only
    rw [if_neg (by omega)]
    show _ = some (Sum.inr (r.1, r.2, acc ++ []))
    rw [List.append_nil]
  | succ n ih =>
    intro i acc r hi hr ha
    have h1 := fixM_ok hr
    have h2 := fixM_ok h1
    have := ih (i + 1) (acc ++ [((fixM r).1, (fixM (fixM r).2).1)]) (fixM (fixM r).2).2 (by omega) h2 (by rw [List.length_append, ha]; rfl)
    rw [List.append_assoc] at this
    refine (loopO_next ?_).trans this
    unfold conf_Take_s0
    simp only
    rw [if_pos (by omega), crfix hr, Option.bind_some, crfix h1, Option.bind_some, room_of (by simp only [List.length_cons, List.length_nil]; omega) (by simp only [List.length_cons, List.length_nil]; omega), Option.bind_some, wu64_of (by omega) (by omega)]
    rfl
theorem rtake_seeds {r11 : List Int × Int × List Int} {m : Int} (hz : rdo r11.2.2 2 = some m) (h : m ≤ 8) : ∀ (n i : Nat) (acc : List (Int × Int)) (r : Rd8), (i : Int) + n = m → RdOk r → acc.length = i →
    loopO (ref21_rest_s0 r11) ((i : Int), acc, r.1, r.2) = some (acc ++ (seedsM n r).1, (seedsM n r).2.1, (seedsM n r).2.2) := by
  intro n
  induction n with
  | zero =>
    intro i acc r hi hr ha
    refine loopO_done ?_
    unfold ref21_rest_s0
    simp only
    rw [hz, Option.bind_some, if_neg (by omega)]
    show _ = some (Sum.inr (acc ++ [], r.1, r.2))
    rw [List.append_nil]
  | succ n ih =>
    intro i acc r hi hr ha
    have h1 := fixM_ok hr
    have h2 := fixM_ok h1
    have := ih (i + 1) (acc ++ [((fixM r).1, (fixM (fixM r).2).1)]) (fixM (fixM r).2).2 (by omega) h2 (by rw [List.length_append, ha]; rfl)
    rw [List.append_assoc] at this
    refine (loopO_next ?_).trans this
    unfold ref21_rest_s0
    simp only
    rw [hz, Option.bind_some, if_pos (by omega), rrfix hr, Option.bind_some]
    simp only
    rw [rrfix h1, Option.bind_some, room_of (by simp only [List.length_cons, List.length_nil]; omega) (by simp only [List.length_cons, List.length_nil]; omega), Option.bind_some, wu64_of (by omega) (by omega)]
    rfl
def readsM : Rd8 → List Int → List Int × Rd8
  | r, [] => ([], r)
  | r, m :: l => ((numM r m).1 :: (readsM (numM r m).2 l).1, (readsM (numM r m).2 l).2)
theorem read_eq {r : Rd8} (hr : RdOk r) {l : List Int} (hl : l.length ≤ 100) : ref21_read r l = some ((readsM r l).2.1, (readsM r l).2.2, (readsM r l).1) := by
  have aux : ∀ (n i : Nat) (acc : List Int) (r : Rd8), i + n = l.length → RdOk r → acc.length = i →
      loopO (ref21_read_s0 l) (acc, (i : Int), r.1, r.2) = some (acc ++ (readsM r (l.drop i)).1, (readsM r (l.drop i)).2.1, (readsM r (l.drop i)).2.2) := by
    intro n
    induction n with
    | zero =>
      intro i acc r hi hr ha
      obtain rfl : i = l.length := by omega
      refine loopO_done ?_
      unfold ref21_read_s0
      simp only
      rw [if_neg (by omega), List.drop_length]
      show _ = some (Sum.inr (acc ++ [], r.1, r.2))
      rw [List.append_nil]
    | succ n ih =>
      intro i acc r hi hr ha
      have hk : i < l.length := by omega
      have := ih (i + 1) (acc ++ [(numM r l[i]).1]) (numM r l[i]).2 (by omega) (numM_rd hr) (by rw [List.length_append, ha]; rfl)
      rw [List.append_assoc] at this
      rw [List.drop_eq_getElem_cons hk]
      refine (loopO_next ?_).trans this
      unfold ref21_read_s0
      simp only
      rw [if_pos (by omega), rdo_get hk, Option.bind_some, rrnum hr, Option.bind_some, room_of (by simp only [List.length_cons, List.length_nil]; omega) (by simp only [List.length_cons, List.length_nil]; omega), Option.bind_some, wi64_of (by omega) (by omega)]
      rfl
  have h := aux l.length 0 [] r (by omega) hr rfl
  rw [List.drop_zero] at h
  have h0 : loopO (ref21_read_s0 l) (([] : List Int), (0 : Int), r.1, r.2) = some ((readsM r l).1, (readsM r l).2.1, (readsM r l).2.2) := h
  unfold ref21_read
  rw [h0]
  rfl
def tailC (kd w l m : Int) (r : Rd8) : Cf × Rd8 :=
  if kd = 1 then ((kd, (numM r 1024).1, w, l, m, 0, [], 0, 0), (numM r 1024).2)
  else if kd = 2 then ((kd, (numM r 1024).1, w, l, m, (numM (numM r 1024).2 256).1, (seedsM (numM (numM (numM r 1024).2 256).2 8).1.toNat (numM (numM (numM r 1024).2 256).2 8).2).1, 0, 0), (seedsM (numM (numM (numM r 1024).2 256).2 8).1.toNat (numM (numM (numM r 1024).2 256).2 8).2).2)
  else if kd = 3 then ((kd, 0, w, l, m, 0, [], (numM r 256).1, (numM (numM r 256).2 64).1), (numM (numM r 256).2 64).2)
  else ((kd, 0, w, l, m, 0, [], 0, 0), r)
def rawC (r : Rd8) : Cf × Rd8 := tailC (numM r 3).1 (numM (numM r 3).2 4611686018427387904).1 (numM (numM (numM r 3).2 4611686018427387904).2 4611686018427387904).1 (numM (numM (numM (numM r 3).2 4611686018427387904).2 4611686018427387904).2 1024).1 (numM (numM (numM (numM r 3).2 4611686018427387904).2 4611686018427387904).2 1024).2
def zeroC : Cf := (0, 0, 0, 0, 0, 0, [], 0, 0)
def takeC (r : Rd8) : Cf × Rd8 := if (rawC r).2.2 ≠ 0 then (zeroC, (rawC r).2) else if chk (rawC r).1 ≠ 0 then (zeroC, (rawC r).2.1, 2) else rawC r
theorem tail_err {kd w l m : Int} {r : Rd8} (h : r.2 ≠ 0) : (tailC kd w l m r).2 = r := by
  unfold tailC
  simp only [numM_err h]
  split
  · rfl
  · split
    · rfl
    · split <;> rfl
theorem tail_ok {kd w l m : Int} {r : Rd8} (hr : RdOk r) (hk : 0 ≤ kd ∧ kd ≤ 3) (hw : U64 w) (hl : U64 l) (hm : 0 ≤ m ∧ m ≤ 1024) : RdOk (tailC kd w l m r).2 ∧ CfOk (tailC kd w l m r).1 := by
  have a1 := numM_rd (m := 1024) hr
  have a2 := numM_rd (m := 256) a1
  have a3 := numM_rd (m := 8) a2
  have b1 := numM_le (m := 1024) hr (by omega)
  have b2 := numM_le (m := 256) a1 (by omega)
  have b3 := numM_le (m := 8) a2 (by omega)
  have c1 := numM_rd (m := 256) hr
  have c2 := numM_rd (m := 64) c1
  have d1 := numM_le (m := 256) hr (by omega)
  have d2 := numM_le (m := 64) c1 (by omega)
  obtain ⟨s1, s2, s3⟩ := seedsM_ok (numM (numM (numM r 1024).2 256).2 8).1.toNat a3
  have z : I64 0 := by decide
  have zl : ([] : List (Int × Int)).length ≤ 20 := by decide
  unfold tailC
  split
  · exact ⟨a1, ⟨by simp only; omega, by simp only; omega, hw, hl, by simp only; omega, z, zl, (fun s hs => by cases hs), z, z⟩⟩
  · split
    · exact ⟨s1, ⟨by simp only; omega, by simp only; omega, hw, hl, by simp only; omega, by simp only; omega, by simp only; omega, s3, z, z⟩⟩
    · split
      · exact ⟨c2, ⟨by simp only; omega, z, hw, hl, by simp only; omega, z, zl, (fun s hs => by cases hs), by simp only; omega, by simp only; omega⟩⟩
      · exact ⟨hr, ⟨by simp only; omega, z, hw, hl, by simp only; omega, z, zl, (fun s hs => by cases hs), z, z⟩⟩
structure HeadOk (r : Rd8) : Prop where
  r1 : RdOk (numM r 3).2
  r2 : RdOk (numM (numM r 3).2 4611686018427387904).2
  r3 : RdOk (numM (numM (numM r 3).2 4611686018427387904).2 4611686018427387904).2
  r4 : RdOk (numM (numM (numM (numM r 3).2 4611686018427387904).2 4611686018427387904).2 1024).2
  v1 : 0 ≤ (numM r 3).1 ∧ (numM r 3).1 ≤ 3
  v2 : U64 (numM (numM r 3).2 4611686018427387904).1
  v3 : U64 (numM (numM (numM r 3).2 4611686018427387904).2 4611686018427387904).1
  v4 : 0 ≤ (numM (numM (numM (numM r 3).2 4611686018427387904).2 4611686018427387904).2 1024).1 ∧ (numM (numM (numM (numM r 3).2 4611686018427387904).2 4611686018427387904).2 1024).1 ≤ 1024
theorem head_ok {r : Rd8} (hr : RdOk r) : HeadOk r := by
  have r1 := numM_rd (m := 3) hr
  have r2 := numM_rd (m := 4611686018427387904) r1
  have r3 := numM_rd (m := 4611686018427387904) r2
  have r4 := numM_rd (m := 1024) r3
  have v2 := numM_le (m := 4611686018427387904) r1 (by omega)
  have v3 := numM_le (m := 4611686018427387904) r2 (by omega)
  exact ⟨r1, r2, r3, r4, numM_le hr (by omega), by omega, by omega, numM_le r3 (by omega)⟩
theorem rawC_ok {r : Rd8} (hr : RdOk r) : RdOk (rawC r).2 ∧ CfOk (rawC r).1 := by
  have h := head_ok hr
  exact tail_ok h.r4 h.v1 h.v2 h.v3 h.v4
theorem zero_ok : CfOk zeroC := ⟨by decide, by decide, by decide, by decide, by decide, by decide, by decide, (fun s hs => by cases hs), by decide, by decide⟩
theorem takeC_ok {r : Rd8} (hr : RdOk r) : RdOk (takeC r).2 ∧ CfOk (takeC r).1 := by
  have h := rawC_ok hr
  unfold takeC
  split
  · exact ⟨h.1, zero_ok⟩
  · split
    · exact ⟨h.1, zero_ok⟩
    · exact h
abbrev flC (x : Cf × Rd8) : Int × Int × Int × Int × Int × Int × (List (Int × Int)) × Int × Int × List Int × Int :=
  (x.1.1, x.1.2.1, x.1.2.2.1, x.1.2.2.2.1, x.1.2.2.2.2.1, x.1.2.2.2.2.2.1, x.1.2.2.2.2.2.2.1, x.1.2.2.2.2.2.2.2.1, x.1.2.2.2.2.2.2.2.2, x.2.1, x.2.2)
theorem ctake21 {r : Rd8} (hr : RdOk r) : conf_Take r = some (flC (takeC r)) := by
  have h := head_ok hr
  have hok := rawC_ok hr
  unfold conf_Take
  rw [crnum hr, Option.bind_some, crnum h.r1, Option.bind_some, crnum h.r2, Option.bind_some, crnum h.r3, Option.bind_some]
  unfold takeC
  unfold rawC at hok ⊢
  obtain ⟨h1, h2, h3, h4, v1, v2, v3, v4⟩ := h
  generalize numM (numM (numM (numM r 3).2 4611686018427387904).2 4611686018427387904).2 1024 = M at *
  generalize (numM (numM (numM r 3).2 4611686018427387904).2 4611686018427387904).1 = L at *
  generalize (numM (numM r 3).2 4611686018427387904).1 = W at *
  generalize (numM r 3).1 = K at *
  rw [wi64_of (x := K) (by omega) (by omega), wi64_of (x := M.1) (by omega) (by omega)]
  have hmid : ((if K = 1 then ((codec_Reader_Num M.2 ((1024 : Int))).bind fun (r109 : Int × List Int × Int) =>
  some ((r109.2.1, r109.2.2, wi64 r109.1, (0 : Int), ([] : List (Int × Int)), (0 : Int), (0 : Int))))
  else (if K = 2 then ((codec_Reader_Num M.2 ((1024 : Int))).bind fun (r110 : Int × List Int × Int) =>
  (codec_Reader_Num r110.2 ((256 : Int))).bind fun (r111 : Int × List Int × Int) =>
  (codec_Reader_Num r111.2 ((8 : Int))).bind fun (r112 : Int × List Int × Int) =>
  ((loopO (conf_Take_s0 r112) (((0 : Int), r112.2.1, r112.2.2, ([] : List (Int × Int))))) : Option ((List Int × Int × List (Int × Int)))).bind (fun (x6 : (List Int × Int × List (Int × Int))) =>
  some ((x6.1, x6.2.1, wi64 r110.1, wi64 r111.1, x6.2.2, (0 : Int), (0 : Int)))))
  else (if K = 3 then ((codec_Reader_Num M.2 ((256 : Int))).bind fun (r125 : Int × List Int × Int) =>
  (codec_Reader_Num r125.2 ((64 : Int))).bind fun (r126 : Int × List Int × Int) =>
  some ((r126.2.1, r126.2.2, (0 : Int), (0 : Int), ([] : List (Int × Int)), wi64 r125.1, wi64 r126.1)))
  else (some ((M.2.1, M.2.2, (0 : Int), (0 : Int), ([] : List (Int × Int)), (0 : Int), (0 : Int))))))) : Option ((List Int × Int × Int × Int × (List (Int × Int)) × Int × Int)))
    = some ((tailC K W L M.1 M.2).2.1, (tailC K W L M.1 M.2).2.2, (tailC K W L M.1 M.2).1.2.1, (tailC K W L M.1 M.2).1.2.2.2.2.2.1, (tailC K W L M.1 M.2).1.2.2.2.2.2.2.1, (tailC K W L M.1 M.2).1.2.2.2.2.2.2.2.1, (tailC K W L M.1 M.2).1.2.2.2.2.2.2.2.2) := by
    have a1 := numM_rd (m := 1024) h4
    have a2 := numM_rd (m := 256) a1
    have a3 := numM_rd (m := 8) a2
    have b1 := numM_le (m := 1024) h4 (by omega)
    have b2 := numM_le (m := 256) a1 (by omega)
    have b3 := numM_le (m := 8) a2 (by omega)
    have c1 := numM_rd (m := 256) h4
    have c2 := numM_rd (m := 64) c1
    have d1 := numM_le (m := 256) h4 (by omega)
    have d2 := numM_le (m := 64) c1 (by omega)
    unfold tailC
    by_cases k1 : K = 1
    · rw [if_pos k1, if_pos k1, crnum h4, Option.bind_some, wi64_of (by omega) (by omega)]
    · rw [if_neg k1, if_neg k1]
      by_cases k2 : K = 2
      · have hs := ctake_seeds (r112 := numM (numM (numM M.2 1024).2 256).2 8) (by omega) (numM (numM (numM M.2 1024).2 256).2 8).1.toNat 0 [] (numM (numM (numM M.2 1024).2 256).2 8).2 (by omega) a3 rfl
        rw [List.nil_append] at hs
        have hs' : loopO (conf_Take_s0 (numM (numM (numM M.2 1024).2 256).2 8)) ((0 : Int), (numM (numM (numM M.2 1024).2 256).2 8).2.1, (numM (numM (numM M.2 1024).2 256).2 8).2.2, ([] : List (Int × Int))) = _ := hs
        rw [if_pos k2, if_pos k2, crnum h4, Option.bind_some, crnum a1, Option.bind_some, crnum a2, Option.bind_some, hs', Option.bind_some, wi64_of (by omega) (by omega), wi64_of (by omega) (by omega)]
      · rw [if_neg k2, if_neg k2]
        by_cases k3 : K = 3
        · rw [if_pos k3, if_pos k3, crnum h4, Option.bind_some, crnum c1, Option.bind_some, wi64_of (by omega) (by omega), wi64_of (by omega) (by omega)]
        · rw [if_neg k3, if_neg k3]
  have he : (tailC K W L M.1 M.2).1 = (K, (tailC K W L M.1 M.2).1.2.1, W, L, M.1, (tailC K W L M.1 M.2).1.2.2.2.2.2.1, (tailC K W L M.1 M.2).1.2.2.2.2.2.2.1, (tailC K W L M.1 M.2).1.2.2.2.2.2.2.2.1, (tailC K W L M.1 M.2).1.2.2.2.2.2.2.2.2) := by
    unfold tailC
    split
    · rfl
    · split
      · rfl
      · split <;> rfl
  rw [hmid, Option.bind_some]
  simp only
  rw [← he]
  have hcc := ccheck hok.2
  generalize tailC K W L M.1 M.2 = T at hcc he ⊢
  unfold codec_Reader_Err codec_Reader_Fail codec_Reader_on
  simp only [Option.bind_some]
  have e1 : K = T.1.1 := by rw [he]
  have e2 : W = T.1.2.2.1 := by rw [he]
  have e3 : L = T.1.2.2.2.1 := by rw [he]
  have e4 : M.1 = T.1.2.2.2.2.1 := by rw [he]
  rw [e1, e2, e3, e4]
  by_cases c0 : T.2.2 = 0
  · rw [if_pos c0, if_neg (nn c0), hcc, Option.bind_some]
    by_cases c1 : chk T.1 = 0
    · rw [if_neg (nn c1), if_neg (nn c1), if_neg (nn c0)]
    · rw [if_pos c1, if_pos c1, if_pos c0, Option.bind_some, if_pos (by decide), if_neg (nn c0)]
      rfl
  · rw [if_neg c0, if_pos c0, if_pos c0]
    rfl
theorem rest_eq {kd w l m : Int} {r : Rd8} (hr : RdOk r) : ref21_rest r (kd, 0, w, l, m, 0, 0, 0) = some ((tailC kd w l m r).2.1, (tailC kd w l m r).2.2, (tailC kd w l m r).1.2.1, (tailC kd w l m r).1.2.2.2.2.2.1, (tailC kd w l m r).1.2.2.2.2.2.2.1, (tailC kd w l m r).1.2.2.2.2.2.2.2.1, (tailC kd w l m r).1.2.2.2.2.2.2.2.2) := by
  have a1 := numM_rd (m := 1024) hr
  have a2 := numM_rd (m := 256) a1
  have a3 := numM_rd (m := 8) a2
  have b1 := numM_le (m := 1024) hr (by omega)
  have b2 := numM_le (m := 256) a1 (by omega)
  have b3 := numM_le (m := 8) a2 (by omega)
  have c1 := numM_rd (m := 256) hr
  have d1 := numM_le (m := 256) hr (by omega)
  have d2 := numM_le (m := 64) c1 (by omega)
  unfold ref21_rest tailC
  simp only
  by_cases k1 : kd = 1
  · rw [if_pos k1, if_pos k1, read_eq hr (by simp), Option.bind_some]
    have e0 : rdo (readsM r [1024]).1 0 = some (numM r 1024).1 := rfl
    rw [e0, Option.bind_some, wi64_of (by omega) (by omega)]
    rfl
  · rw [if_neg k1, if_neg k1]
    by_cases k2 : kd = 2
    · rw [if_pos k2, if_pos k2, read_eq hr (by simp), Option.bind_some]
      have e0 : rdo (readsM r [1024, 256, 8]).1 0 = some (numM r 1024).1 := rfl
      have e1 : rdo (readsM r [1024, 256, 8]).1 1 = some (numM (numM r 1024).2 256).1 := rfl
      have e2 : rdo (readsM r [1024, 256, 8]).1 2 = some (numM (numM (numM r 1024).2 256).2 8).1 := rfl
      have hs := rtake_seeds (r11 := ((readsM r [1024, 256, 8]).2.1, (readsM r [1024, 256, 8]).2.2, (readsM r [1024, 256, 8]).1)) e2 (by omega) (numM (numM (numM r 1024).2 256).2 8).1.toNat 0 [] (numM (numM (numM r 1024).2 256).2 8).2 (by omega) a3 rfl
      rw [List.nil_append] at hs
      have hs' : loopO (ref21_rest_s0 ((readsM r [1024, 256, 8]).2.1, (readsM r [1024, 256, 8]).2.2, (readsM r [1024, 256, 8]).1)) ((0 : Int), ([] : List (Int × Int)), (readsM r [1024, 256, 8]).2.1, (readsM r [1024, 256, 8]).2.2) = _ := hs
      simp only
      rw [e0, Option.bind_some, e1, Option.bind_some, hs', Option.bind_some, wi64_of (by omega) (by omega), wi64_of (by omega) (by omega)]
    · rw [if_neg k2, if_neg k2]
      by_cases k3 : kd = 3
      · rw [if_pos k3, if_pos k3, read_eq hr (by simp), Option.bind_some]
        have e0 : rdo (readsM r [256, 64]).1 0 = some (numM r 256).1 := rfl
        have e1 : rdo (readsM r [256, 64]).1 1 = some (numM (numM r 256).2 64).1 := rfl
        simp only
        rw [e0, Option.bind_some, e1, Option.bind_some, wi64_of (by omega) (by omega), wi64_of (by omega) (by omega)]
        rfl
      · rw [if_neg k3, if_neg k3]
theorem rtake21 {r : Rd8} (hr : RdOk r) : ref21_Take r = some ((takeC r).2.1, (takeC r).2.2, (takeC r).1) := by
  have h := head_ok hr
  have hok := rawC_ok hr
  have e0 : rdo (readsM r [3, 4611686018427387904, 4611686018427387904, 1024]).1 0 = some (numM r 3).1 := rfl
  have e1 : rdo (readsM r [3, 4611686018427387904, 4611686018427387904, 1024]).1 1 = some (numM (numM r 3).2 4611686018427387904).1 := rfl
  have e2 : rdo (readsM r [3, 4611686018427387904, 4611686018427387904, 1024]).1 2 = some (numM (numM (numM r 3).2 4611686018427387904).2 4611686018427387904).1 := rfl
  have e3 : rdo (readsM r [3, 4611686018427387904, 4611686018427387904, 1024]).1 3 = some (numM (numM (numM (numM r 3).2 4611686018427387904).2 4611686018427387904).2 1024).1 := rfl
  have e4 : (readsM r [3, 4611686018427387904, 4611686018427387904, 1024]).2 = (numM (numM (numM (numM r 3).2 4611686018427387904).2 4611686018427387904).2 1024).2 := rfl
  unfold ref21_Take
  rw [read_eq hr (by simp), Option.bind_some]
  simp only
  rw [e0, Option.bind_some, e1, Option.bind_some, e2, Option.bind_some, e3, Option.bind_some, e4]
  unfold takeC
  unfold rawC at hok ⊢
  obtain ⟨h1, h2, h3, h4, v1, v2, v3, v4⟩ := h
  clear e0 e1 e2 e3 e4
  generalize numM (numM (numM (numM r 3).2 4611686018427387904).2 4611686018427387904).2 1024 = M at *
  generalize (numM (numM (numM r 3).2 4611686018427387904).2 4611686018427387904).1 = L at *
  generalize (numM (numM r 3).2 4611686018427387904).1 = W at *
  generalize (numM r 3).1 = K at *
  rw [wi64_of (x := K) (by omega) (by omega), wi64_of (x := M.1) (by omega) (by omega)]
  have he : (tailC K W L M.1 M.2).1 = (K, (tailC K W L M.1 M.2).1.2.1, W, L, M.1, (tailC K W L M.1 M.2).1.2.2.2.2.2.1, (tailC K W L M.1 M.2).1.2.2.2.2.2.2.1, (tailC K W L M.1 M.2).1.2.2.2.2.2.2.2.1, (tailC K W L M.1 M.2).1.2.2.2.2.2.2.2.2) := by
    unfold tailC
    split
    · rfl
    · split
      · rfl
      · split <;> rfl
  by_cases c0 : M.2.2 = 0
  · have hM : ((M.2.1, M.2.2) : Rd8) = M.2 := rfl
    rw [if_pos c0, hM, rest_eq (w := W) (l := L) (m := M.1) h4, Option.bind_some, Option.bind_some]
    simp only
    rw [← he]
    have hcc := rcheck hok.2
    generalize tailC K W L M.1 M.2 = T at hcc he ⊢
    by_cases c1 : T.2.2 = 0
    · rw [if_pos c1, hcc, Option.bind_some, Option.bind_some, if_neg (nn c1)]
      by_cases c2 : chk T.1 = 0
      · rw [decide_eq_false (nn c2), if_neg (by decide), if_neg (nn c1), if_neg (nn c2)]
      · rw [decide_eq_true c2, if_pos rfl, if_pos c2, if_neg (nn c1)]
        rfl
    · rw [if_neg c1, Option.bind_some, if_neg (by decide), if_pos c1, if_pos c1]
      rfl
  · have ht := tail_err (kd := K) (w := W) (l := L) (m := M.1) c0
    rw [if_neg c0, Option.bind_some]
    simp only
    rw [if_neg c0, Option.bind_some, if_neg (by decide), if_pos c0, if_pos (by rw [ht]; exact c0), ht]
    rfl
end Go.Proofs.Ytbeknohemgjfbaa.Pu
namespace Go.Proofs.Ytbeknohemgjfbaa.Pu
set_option linter.unusedVariables false

theorem num_enc {x m : Int} (h0 : 0 ≤ x) (h1 : x < 18446744073709551616) (hm : x ≤ m) (t : List Int) : numM (dg x.toNat ++ t, 0) m = (x, t, 0) := by
  have := numM_dg (n := x.toNat) (m := m) (by omega) (by omega) t
  rw [this, Int.toNat_of_nonneg h0]
theorem seeds_enc : ∀ (l : List (Int × Int)) (t : List Int), (∀ s ∈ l, U64 s.1 ∧ U64 s.2) → seedsM l.length (encSd l ++ t, 0) = (l, t, 0) := by
  intro l
  induction l with
  | nil => intro t _; rfl
  | cons s l ih =>
    intro t h
    obtain ⟨u1, u2⟩ := h s List.mem_cons_self
    have h2 := ih t (fun x hx => h x (List.mem_cons_of_mem _ hx))
    obtain ⟨n1, e1, b1⟩ := u64_nat u1
    obtain ⟨n2, e2, b2⟩ := u64_nat u2
    have a1 : fixM (fx s.1 ++ (fx s.2 ++ (encSd l ++ t)), 0) = (s.1, fx s.2 ++ (encSd l ++ t), 0) := by rw [e1]; exact fix_back b1 _
    have a2 : fixM (fx s.2 ++ (encSd l ++ t), 0) = (s.2, encSd l ++ t, 0) := by rw [e2]; exact fix_back b2 _
    have e : encSd (s :: l) ++ t = fx s.1 ++ (fx s.2 ++ (encSd l ++ t)) := by
      show (fx s.1 ++ fx s.2) ++ encSd l ++ t = _
      simp only [List.append_assoc]
    rw [e, List.length_cons, seedsM, a1]
    simp only
    rw [a2]
    simp only
    rw [h2]
theorem okR_b {cap n w : Int} (h : okR cap n w) : 0 ≤ cap ∧ cap ≤ 256 ∧ 0 ≤ n ∧ n ≤ 64 := by
  obtain ⟨⟨r1, r2⟩, ⟨r3, r4⟩, _⟩ := h
  omega
theorem nil_of {α : Type} {l : List α} (h : l.length = 0) : l = [] := List.eq_nil_of_length_eq_zero h
theorem tailC1 (w l m : Int) (r : Rd8) : tailC 1 w l m r = ((1, (numM r 1024).1, w, l, m, 0, [], 0, 0), (numM r 1024).2) := by unfold tailC; rw [if_pos rfl]
theorem tailC2 (w l m : Int) (r : Rd8) : tailC 2 w l m r = ((2, (numM r 1024).1, w, l, m, (numM (numM r 1024).2 256).1, (seedsM (numM (numM (numM r 1024).2 256).2 8).1.toNat (numM (numM (numM r 1024).2 256).2 8).2).1, 0, 0), (seedsM (numM (numM (numM r 1024).2 256).2 8).1.toNat (numM (numM (numM r 1024).2 256).2 8).2).2) := by unfold tailC; rw [if_neg (by decide), if_pos rfl]
theorem tailC3 (w l m : Int) (r : Rd8) : tailC 3 w l m r = ((3, 0, w, l, m, 0, [], (numM r 256).1, (numM (numM r 256).2 64).1), (numM (numM r 256).2 64).2) := by unfold tailC; rw [if_neg (by decide), if_neg (by decide), if_pos rfl]
theorem encT1 (k w late room cols : Int) (sds : List (Int × Int)) (cap n : Int) : encT (1, k, w, late, room, cols, sds, cap, n) = dg k.toNat := by unfold encT; rw [if_pos rfl]
theorem encT2 (k w late room cols : Int) (sds : List (Int × Int)) (cap n : Int) : encT (2, k, w, late, room, cols, sds, cap, n) = dg k.toNat ++ (dg cols.toNat ++ (dg sds.length ++ encSd sds)) := by unfold encT; rw [if_neg (show ¬ (2 : Int) = 1 by decide), if_pos rfl]
theorem encT3 (k w late room cols : Int) (sds : List (Int × Int)) (cap n : Int) : encT (3, k, w, late, room, cols, sds, cap, n) = dg cap.toNat ++ dg n.toNat := by unfold encT; rw [if_neg (show ¬ (3 : Int) = 1 by decide), if_neg (show ¬ (3 : Int) = 2 by decide)]
theorem tail_enc {c : Cf} (h : CfOk c) (hp : ChkP c) (t : List Int) : tailC c.1 c.2.2.1 c.2.2.2.1 c.2.2.2.2.1 (encT c ++ t, 0) = (c, t, 0) := by
  obtain ⟨kd, k, w, late, room, cols, sds, cap, n⟩ := c
  have hs := h.sds
  have hn := h.len
  simp only at hs hn
  cases hp with
  | one kk h0 b hk hw =>
    obtain ⟨z1, z2, z3, z4⟩ := h0
    simp only at kk z1 z2 z3 z4
    have z5 := nil_of z4
    subst kk z1 z2 z3 z5
    obtain ⟨q1, q2⟩ := hk
    simp only at q1 q2 ⊢
    rw [tailC1, encT1, num_enc (by omega) (by omega) (by omega)]
  | two kk h0 b hk hw g hb =>
    obtain ⟨z1, z2⟩ := h0
    simp only at kk z1 z2
    subst kk z1 z2
    obtain ⟨q1, q2⟩ := hk
    obtain ⟨g1, g2, g3, g4⟩ := g
    simp only at q1 q2 g1 g2 g3 g4
    have e3 := num_enc (x := (sds.length : Int)) (m := 8) (by omega) (by omega) (by omega) (encSd sds ++ t)
    rw [Int.toNat_natCast] at e3
    simp only
    rw [tailC2, encT2, List.append_assoc, List.append_assoc, List.append_assoc, num_enc (by omega) (by omega) (by omega)]
    simp only
    rw [num_enc (by omega) (by omega) (by omega)]
    simp only
    rw [e3]
    simp only
    rw [Int.toNat_natCast, seeds_enc sds t hs]
  | three kk h0 b r =>
    obtain ⟨z1, z2, z3⟩ := h0
    simp only at kk z1 z2 z3
    have z5 := nil_of z3
    subst kk z1 z2 z5
    have r' := okR_b r
    simp only at r'
    simp only
    rw [tailC3, encT3, List.append_assoc, num_enc (by omega) (by omega) (by omega)]
    simp only
    rw [num_enc (by omega) (by omega) (by omega)]
structure Heads (c : Cf) : Prop where
  kd : 1 ≤ c.1 ∧ c.1 ≤ 3
  w : 1 ≤ c.2.2.1 ∧ c.2.2.1 ≤ 4611686018427387904
  late : 0 ≤ c.2.2.2.1 ∧ c.2.2.2.1 ≤ 4611686018427387904
  room : 1 ≤ c.2.2.2.2.1 ∧ c.2.2.2.2.1 ≤ 1024
theorem heads {c : Cf} (h : CfOk c) (hp : ChkP c) : Heads c := ⟨hp.kd, hp.w, ⟨h.late.1, hp.b.1⟩, hp.b.2⟩
theorem raw_enc21 {c : Cf} (h : CfOk c) (hp : ChkP c) (t : List Int) : rawC (encC c ++ t, 0) = (c, t, 0) := by
  obtain ⟨⟨a1, a2⟩, ⟨b1, b2⟩, ⟨c1, c2⟩, ⟨d1, d2⟩⟩ := heads h hp
  unfold rawC encC
  simp only [List.append_assoc]
  rw [num_enc (by omega) (by omega) (by omega)]
  simp only
  rw [num_enc (by omega) (by omega) (by omega)]
  simp only
  rw [num_enc (by omega) (by omega) (by omega)]
  simp only
  rw [num_enc (by omega) (by omega) (by omega)]
  exact tail_enc h hp t
theorem take_enc21 {c : Cf} (h : CfOk c) (hc : chk c = 0) (t : List Int) : takeC (encC c ++ t, 0) = (c, t, 0) := by
  unfold takeC
  rw [raw_enc21 h (chk_zero hc)]
  simp only
  rw [if_neg (by decide), if_neg (nn hc)]
theorem num_cut {x m : Int} (h0 : 0 ≤ x) (h1 : x < 18446744073709551616) (hm : x ≤ m) (T : List Int) (j : Nat) :
    (numM ((dg x.toNat ++ T).take j, 0) m).2.2 = 3 ∨ ((dg x.toNat).length ≤ j ∧ numM ((dg x.toNat ++ T).take j, 0) m = (x, T.take (j - (dg x.toNat).length), 0)) := by
  by_cases c : j < (dg x.toNat).length
  · left
    rw [List.take_append_of_le_length (by omega), numM_cut (by omega) c]
  · right
    refine ⟨by omega, ?_⟩
    rw [List.take_append, List.take_of_length_le (by omega), num_enc h0 h1 hm]
theorem seedsM_err {r : Rd8} : ∀ (n : Nat), r.2 ≠ 0 → (seedsM n r).2 = r := by
  intro n
  induction n with
  | zero => intro _; rfl
  | succ n ih =>
    intro h
    rw [seedsM, fixM_err h]
    simp only
    rw [fixM_err h]
    exact ih h
theorem fix_cut_app {x : Int} (hx : U64 x) (T : List Int) (j : Nat) :
    (fixM ((fx x ++ T).take j, 0)).2.2 = 3 ∨ (8 ≤ j ∧ fixM ((fx x ++ T).take j, 0) = (x, T.take (j - 8), 0)) := by
  have hl : (fx x).length = 8 := rfl
  obtain ⟨n, e, b⟩ := u64_nat hx
  by_cases c : j < 8
  · left
    rw [List.take_append_of_le_length (by omega), fix_cut c]
  · right
    refine ⟨by omega, ?_⟩
    rw [List.take_append, List.take_of_length_le (by omega), hl, e, fix_back b]
theorem seeds_cut : ∀ (l : List (Int × Int)) (j : Nat), (∀ s ∈ l, U64 s.1 ∧ U64 s.2) → j < (encSd l).length → (seedsM l.length ((encSd l).take j, 0)).2.2 = 3 := by
  intro l
  induction l with
  | nil => intro j _ hj; exact absurd hj (by simp [encSd])
  | cons s l ih =>
    intro j h hj
    obtain ⟨u1, u2⟩ := h s List.mem_cons_self
    have e : encSd (s :: l) = fx s.1 ++ (fx s.2 ++ encSd l) := by
      show (fx s.1 ++ fx s.2) ++ encSd l = _
      rw [List.append_assoc]
    rw [encSd_len, List.length_cons] at hj
    rw [e, List.length_cons, seedsM]
    simp only
    rcases fix_cut_app u1 (fx s.2 ++ encSd l) j with q | ⟨q1, q2⟩
    · have hne : (fixM ((fx s.1 ++ (fx s.2 ++ encSd l)).take j, 0)).2.2 ≠ 0 := by rw [q]; decide
      rw [fixM_err hne]
      simp only
      rw [seedsM_err _ hne]
      exact q
    · rw [q2]
      simp only
      rcases fix_cut_app u2 (encSd l) (j - 8) with p | ⟨p1, p2⟩
      · have hne : (fixM ((fx s.2 ++ encSd l).take (j - 8), 0)).2.2 ≠ 0 := by rw [p]; decide
        rw [seedsM_err _ hne]
        exact p
      · rw [p2]
        exact ih (j - 8 - 8) (fun x hx => h x (List.mem_cons_of_mem _ hx)) (by rw [encSd_len]; omega)
theorem tail_cut {c : Cf} (h : CfOk c) (hp : ChkP c) {j : Nat} (hj : j < (encT c).length) : (tailC c.1 c.2.2.1 c.2.2.2.1 c.2.2.2.2.1 ((encT c).take j, 0)).2.2 = 3 := by
  obtain ⟨kd, k, w, late, room, cols, sds, cap, n⟩ := c
  have hs := h.sds
  have hn := h.len
  simp only at hs hn
  cases hp with
  | one kk h0 b hk hw =>
    simp only at kk
    subst kk
    obtain ⟨q1, q2⟩ := hk
    simp only at q1 q2 ⊢
    rw [encT1] at hj
    rw [tailC1, encT1]
    simp only
    rw [numM_cut (by omega) hj]
  | two kk h0 b hk hw g hb =>
    simp only at kk
    subst kk
    obtain ⟨q1, q2⟩ := hk
    obtain ⟨g1, g2, g3, g4⟩ := g
    simp only at q1 q2 g1 g2 g3 g4 ⊢
    rw [encT2] at hj
    simp only [List.length_append] at hj
    rw [tailC2, encT2]
    simp only
    rcases num_cut (x := k) (m := 1024) (by omega) (by omega) (by omega) (dg cols.toNat ++ (dg sds.length ++ encSd sds)) j with q | ⟨a1, a2⟩
    · have hne : (numM ((dg k.toNat ++ (dg cols.toNat ++ (dg sds.length ++ encSd sds))).take j, 0) 1024).2.2 ≠ 0 := by rw [q]; decide
      simp only [numM_err hne]
      exact q
    · rw [a2]
      simp only
      rcases num_cut (x := cols) (m := 256) (by omega) (by omega) (by omega) (dg sds.length ++ encSd sds) (j - (dg k.toNat).length) with q | ⟨b1, b2⟩
      · have hne : (numM ((dg cols.toNat ++ (dg sds.length ++ encSd sds)).take (j - (dg k.toNat).length), 0) 256).2.2 ≠ 0 := by rw [q]; decide
        simp only [numM_err hne]
        exact q
      · rw [b2]
        simp only
        have e3 := num_cut (x := (sds.length : Int)) (m := 8) (by omega) (by omega) (by omega) (encSd sds) (j - (dg k.toNat).length - (dg cols.toNat).length)
        rw [Int.toNat_natCast] at e3
        rcases e3 with q | ⟨c1, c2⟩
        · have hne : (numM ((dg sds.length ++ encSd sds).take (j - (dg k.toNat).length - (dg cols.toNat).length), 0) 8).2.2 ≠ 0 := by rw [q]; decide
          rw [seedsM_err _ hne]
          exact q
        · rw [c2]
          simp only
          rw [Int.toNat_natCast]
          exact seeds_cut sds _ hs (by omega)
  | three kk h0 b r =>
    simp only at kk
    subst kk
    have r' := okR_b r
    simp only at r' ⊢
    rw [encT3] at hj
    simp only [List.length_append] at hj
    rw [tailC3, encT3]
    simp only
    rcases num_cut (x := cap) (m := 256) (by omega) (by omega) (by omega) (dg n.toNat) j with q | ⟨a1, a2⟩
    · have hne : (numM ((dg cap.toNat ++ dg n.toNat).take j, 0) 256).2.2 ≠ 0 := by rw [q]; decide
      simp only [numM_err hne]
      exact q
    · rw [a2]
      simp only
      rw [numM_cut (by omega) (by omega)]
theorem raw_cut21 {c : Cf} (h : CfOk c) (hp : ChkP c) {j : Nat} (hj : j < (encC c).length) : (rawC ((encC c).take j, 0)).2.2 = 3 := by
  obtain ⟨⟨a1, a2⟩, ⟨b1, b2⟩, ⟨c1, c2⟩, ⟨d1, d2⟩⟩ := heads h hp
  unfold encC at hj
  simp only [List.length_append] at hj
  unfold rawC encC
  rcases num_cut (x := c.1) (m := 3) (by omega) (by omega) (by omega) (dg c.2.2.1.toNat ++ (dg c.2.2.2.1.toNat ++ (dg c.2.2.2.2.1.toNat ++ encT c))) j with q | ⟨e1, e2⟩
  · have hne : (numM ((dg c.1.toNat ++ (dg c.2.2.1.toNat ++ (dg c.2.2.2.1.toNat ++ (dg c.2.2.2.2.1.toNat ++ encT c)))).take j, 0) 3).2.2 ≠ 0 := by rw [q]; decide
    simp only [numM_err hne]
    rw [tail_err hne]
    exact q
  · rw [e2]
    simp only
    rcases num_cut (x := c.2.2.1) (m := 4611686018427387904) (by omega) (by omega) (by omega) (dg c.2.2.2.1.toNat ++ (dg c.2.2.2.2.1.toNat ++ encT c)) (j - (dg c.1.toNat).length) with q | ⟨f1, f2⟩
    · have hne : (numM ((dg c.2.2.1.toNat ++ (dg c.2.2.2.1.toNat ++ (dg c.2.2.2.2.1.toNat ++ encT c))).take (j - (dg c.1.toNat).length), 0) 4611686018427387904).2.2 ≠ 0 := by rw [q]; decide
      simp only [numM_err hne]
      rw [tail_err hne]
      exact q
    · rw [f2]
      simp only
      rcases num_cut (x := c.2.2.2.1) (m := 4611686018427387904) (by omega) (by omega) (by omega) (dg c.2.2.2.2.1.toNat ++ encT c) (j - (dg c.1.toNat).length - (dg c.2.2.1.toNat).length) with q | ⟨g1, g2⟩
      · have hne : (numM ((dg c.2.2.2.1.toNat ++ (dg c.2.2.2.2.1.toNat ++ encT c)).take (j - (dg c.1.toNat).length - (dg c.2.2.1.toNat).length), 0) 4611686018427387904).2.2 ≠ 0 := by rw [q]; decide
        simp only [numM_err hne]
        rw [tail_err hne]
        exact q
      · rw [g2]
        simp only
        rcases num_cut (x := c.2.2.2.2.1) (m := 1024) (by omega) (by omega) (by omega) (encT c) (j - (dg c.1.toNat).length - (dg c.2.2.1.toNat).length - (dg c.2.2.2.1.toNat).length) with q | ⟨i1, i2⟩
        · have hne : (numM ((dg c.2.2.2.2.1.toNat ++ encT c).take (j - (dg c.1.toNat).length - (dg c.2.2.1.toNat).length - (dg c.2.2.2.1.toNat).length), 0) 1024).2.2 ≠ 0 := by rw [q]; decide
          rw [tail_err hne]
          exact q
        · rw [i2]
          simp only
          exact tail_cut h hp (by omega)
theorem take_cut21 {c : Cf} (h : CfOk c) (hc : chk c = 0) {j : Nat} (hj : j < (encC c).length) : (takeC ((encC c).take j, 0)).2.2 = 3 := by
  have h1 := raw_cut21 h (chk_zero hc) hj
  unfold takeC
  rw [if_pos (by rw [h1]; decide)]
  exact h1
theorem seeds_dec : ∀ (n : Nat) {r : Rd8}, RdOk r → (seedsM n r).2.2 = 0 → r.2 = 0 ∧ r.1 = encSd (seedsM n r).1 ++ (seedsM n r).2.1 := by
  intro n
  induction n with
  | zero => intro r _ h; exact ⟨h, rfl⟩
  | succ n ih =>
    intro r hr h
    have h1 := fixM_ok hr
    have h2 := fixM_ok h1
    obtain ⟨g1, g2⟩ := ih h2 h
    obtain ⟨d1, d2, d3⟩ := fix_dec h1 g1
    obtain ⟨f1, f2, f3⟩ := fix_dec hr d1
    refine ⟨f1, ?_⟩
    have e : encSd (seedsM (n + 1) r).1 = fx (fixM r).1 ++ (fx (fixM (fixM r).2).1 ++ encSd (seedsM n (fixM (fixM r).2).2).1) := by
      show (fx (fixM r).1 ++ fx (fixM (fixM r).2).1) ++ encSd (seedsM n (fixM (fixM r).2).2).1 = _
      rw [List.append_assoc]
    rw [e, f2, d2, g2, List.append_assoc, List.append_assoc]
    rfl
theorem tail_dec {kd w l m : Int} {r : Rd8} (hr : RdOk r) (hk : 1 ≤ kd ∧ kd ≤ 3) (h : (tailC kd w l m r).2.2 = 0) : r.2 = 0 ∧ r.1 = encT (tailC kd w l m r).1 ++ (tailC kd w l m r).2.1 := by
  have a1 := numM_rd (m := 1024) hr
  have a2 := numM_rd (m := 256) a1
  have a3 := numM_rd (m := 8) a2
  have c1 := numM_rd (m := 256) hr
  unfold tailC at h ⊢
  by_cases k1 : kd = 1
  · rw [if_pos k1] at h ⊢
    obtain ⟨d1, d2, d3⟩ := numM_dec hr h
    refine ⟨d1, ?_⟩
    unfold encT
    simp only
    rw [if_pos k1]
    exact d2
  · rw [if_neg k1] at h ⊢
    by_cases k2 : kd = 2
    · rw [if_pos k2] at h ⊢
      obtain ⟨g1, g2⟩ := seeds_dec _ a3 h
      obtain ⟨d1, d2, d3⟩ := numM_dec a2 g1
      obtain ⟨f1, f2, f3⟩ := numM_dec a1 d1
      obtain ⟨i1, i2, i3⟩ := numM_dec hr f1
      refine ⟨i1, ?_⟩
      unfold encT
      simp only
      have hl := (seedsM_ok (numM (numM (numM r 1024).2 256).2 8).1.toNat a3).2.1
      rw [if_neg k1, if_pos k2, hl, List.append_assoc, List.append_assoc, List.append_assoc, ← g2, ← d2, ← f2, ← i2]
    · rw [if_neg k2] at h ⊢
      by_cases k3 : kd = 3
      · rw [if_pos k3] at h ⊢
        obtain ⟨d1, d2, d3⟩ := numM_dec c1 h
        obtain ⟨f1, f2, f3⟩ := numM_dec hr d1
        refine ⟨f1, ?_⟩
        unfold encT
        simp only
        rw [if_neg k1, if_neg k2, List.append_assoc, ← d2, ← f2]
      · omega
theorem raw_dec21 {r : Rd8} (hr : RdOk r) (h : (rawC r).2.2 = 0) (hc : chk (rawC r).1 = 0) : r.2 = 0 ∧ r.1 = encC (rawC r).1 ++ (rawC r).2.1 := by
  have ho := head_ok hr
  have hkd := (chk_zero hc).kd
  have hK : (rawC r).1.1 = (numM r 3).1 ∧ (rawC r).1.2.2.1 = (numM (numM r 3).2 4611686018427387904).1 ∧ (rawC r).1.2.2.2.1 = (numM (numM (numM r 3).2 4611686018427387904).2 4611686018427387904).1 ∧ (rawC r).1.2.2.2.2.1 = (numM (numM (numM (numM r 3).2 4611686018427387904).2 4611686018427387904).2 1024).1 := by
    unfold rawC tailC
    split
    · exact ⟨rfl, rfl, rfl, rfl⟩
    · split
      · exact ⟨rfl, rfl, rfl, rfl⟩
      · split <;> exact ⟨rfl, rfl, rfl, rfl⟩
  obtain ⟨e1, e2, e3, e4⟩ := hK
  obtain ⟨t1, t2⟩ := tail_dec ho.r4 (by rw [← e1]; exact hkd) h
  obtain ⟨d1, d2, d3⟩ := numM_dec ho.r3 t1
  obtain ⟨f1, f2, f3⟩ := numM_dec ho.r2 d1
  obtain ⟨g1, g2, g3⟩ := numM_dec ho.r1 f1
  obtain ⟨i1, i2, i3⟩ := numM_dec hr g1
  refine ⟨i1, ?_⟩
  unfold encC
  rw [e1, e2, e3, e4]
  simp only [List.append_assoc]
  rw [show encT (rawC r).1 ++ (rawC r).2.1 = _ from t2.symm, ← d2, ← f2, ← g2, ← i2]
theorem take_dec21 {r : Rd8} (hr : RdOk r) (h : (takeC r).2.2 = 0) : chk (takeC r).1 = 0 ∧ r.2 = 0 ∧ r.1 = encC (takeC r).1 ++ (takeC r).2.1 := by
  unfold takeC at h ⊢
  by_cases c1 : (rawC r).2.2 ≠ 0
  · rw [if_pos c1] at h
    exact absurd h c1
  · rw [if_neg c1] at h ⊢
    by_cases c2 : chk (rawC r).1 ≠ 0
    · rw [if_pos c2] at h
      exact absurd h (show ¬ ((2 : Int) = 0) by decide)
    · rw [if_neg c2]
      have c2' := Decidable.not_not.1 c2
      obtain ⟨d1, d2⟩ := raw_dec21 hr (Decidable.not_not.1 c1) c2'
      exact ⟨c2', d1, d2⟩
theorem take_bad21 {r : Rd8} (h : (takeC r).2.2 ≠ 0) : (takeC r).1 = zeroC := by
  unfold takeC at h ⊢
  by_cases c1 : (rawC r).2.2 ≠ 0
  · rw [if_pos c1]
  · rw [if_neg c1] at h ⊢
    by_cases c2 : chk (rawC r).1 ≠ 0
    · rw [if_pos c2]
    · rw [if_neg c2] at h
      exact absurd h c1
end Go.Proofs.Ytbeknohemgjfbaa.Pu
namespace Go.Proofs.Ytbeknohemgjfbaa.Pu
set_option linter.unusedVariables false

abbrev CfP (c : Cf) : Prop := I64 c.1 ∧ I64 c.2.1 ∧ U64 c.2.2.1 ∧ U64 c.2.2.2.1 ∧ I64 c.2.2.2.2.1 ∧ I64 c.2.2.2.2.2.1 ∧ (c.2.2.2.2.2.2.1.length ≤ 9223372036854775807 ∧ ∀ y ∈ c.2.2.2.2.2.2.1, U64 y.1 ∧ U64 y.2) ∧ I64 c.2.2.2.2.2.2.2.1 ∧ I64 c.2.2.2.2.2.2.2.2
theorem CfP.ok {c : Cf} (h : CfP c) (hl : c.2.2.2.2.2.2.1.length ≤ 20) : CfOk c := by
  obtain ⟨a, b, d, e, f, g, i, j, k⟩ := h
  exact ⟨a, b, d, e, f, g, hl, i.2, j, k⟩
theorem etaC (c : Cf) : (c.1, c.2.1, c.2.2.1, c.2.2.2.1, c.2.2.2.2.1, c.2.2.2.2.2.1, c.2.2.2.2.2.2.1, c.2.2.2.2.2.2.2.1, c.2.2.2.2.2.2.2.2) = c := rfl
theorem seedsame {a b : List (Int × Int)} (ha : a.length ≤ 1000) : slices_Equal_Seed a b = some (decide (a = b)) := by
  unfold slices_Equal_Seed
  by_cases hl : a.length = b.length
  · rw [if_neg (by omega)]
    have h1 : ∀ (i : Nat) (h : i < a.length), slices_Equal_Seed_s0 a b (i : Int) = some (if a[i] = b[i] then .inl ((i + 1 : Nat) : Int) else .inr (.inl ())) := fun i h => by
      unfold slices_Equal_Seed_s0
      rw [if_pos (by omega), rdo_get h, Option.bind_some, rdo_get (by omega), Option.bind_some, wi64_of (by omega) (by omega)]
      by_cases he : a[i] = b[i]
      · rw [if_neg (by rw [he]; simp), if_pos he]; rfl
      · rw [if_pos (fun q => he (Prod.ext q.1 q.2.1)), if_neg he]
    have h2 : slices_Equal_Seed_s0 a b (a.length : Int) = some (.inr (.inr ())) := by
      unfold slices_Equal_Seed_s0
      rw [if_neg (by omega)]
    rw [loop_eq hl h1 h2, Option.bind_some]
    by_cases he : a = b <;> simp [he]
  · rw [if_pos (by omega), decide_eq_false (fun e => hl (congrArg List.length e))]
instance decT : DecidableEq (Int × (List (Int × Int)) × Int × Int) := inferInstance
instance decT2 : DecidableEq (Int × Int × Int × (List (Int × Int)) × Int × Int) := inferInstance
instance decT3 : DecidableEq (Int × Int × Int × Int × Int × (List (Int × Int)) × Int × Int) := inferInstance
instance decCf : DecidableEq Cf := inferInstanceAs (DecidableEq (Int × Int × Int × Int × Int × Int × (List (Int × Int)) × Int × Int))
theorem cfsame {a b : Cf} (ha : a.2.2.2.2.2.2.1.length ≤ 1000) : conf_Same a b = some (decide (a = b)) := by
  obtain ⟨a1, a2, a3, a4, a5, a6, a7, a8, a9⟩ := a
  obtain ⟨b1, b2, b3, b4, b5, b6, b7, b8, b9⟩ := b
  simp only at ha
  unfold conf_Same
  simp only [seedsame ha]
  by_cases e1 : a1 = b1 <;> by_cases e2 : a2 = b2 <;> by_cases e3 : a3 = b3 <;> by_cases e4 : a4 = b4 <;> by_cases e5 : a5 = b5 <;> by_cases e6 : a6 = b6 <;> by_cases e8 : a8 = b8 <;> by_cases e9 : a9 = b9 <;> simp [e1, e2, e3, e4, e5, e6, e8, e9]
theorem rfsame {a b : Cf} (ha : a.2.2.2.2.2.2.1.length ≤ 1000) : ref21_Same a b = some (decide (a = b)) := by
  obtain ⟨a1, a2, a3, a4, a5, a6, a7, a8, a9⟩ := a
  obtain ⟨b1, b2, b3, b4, b5, b6, b7, b8, b9⟩ := b
  simp only at ha
  unfold ref21_Same
  simp only
  by_cases e1 : a1 = b1
  · rw [if_neg (nn e1)]
    by_cases e2 : a2 = b2
    · rw [if_neg (nn e2)]
      by_cases e3 : a3 = b3
      · rw [if_neg (nn e3)]
        by_cases e4 : a4 = b4
        · rw [if_neg (nn e4)]
          by_cases e5 : a5 = b5
          · rw [if_neg (nn e5)]
            by_cases e6 : a6 = b6
            · rw [if_neg (nn e6)]
              by_cases e8 : a8 = b8
              · rw [if_neg (nn e8)]
                by_cases e9 : a9 = b9
                · rw [if_neg (nn e9)]
                  by_cases hl : a7.length = b7.length
                  · rw [if_neg (by omega)]
                    have h1 : ∀ (i : Nat) (h : i < a7.length), ref21_Same_s0 (a1, a2, a3, a4, a5, a6, a7, a8, a9) (b1, b2, b3, b4, b5, b6, b7, b8, b9) (i : Int) = some (if a7[i] = b7[i] then .inl ((i + 1 : Nat) : Int) else .inr (.inl ())) := fun i h => by
                      unfold ref21_Same_s0
                      simp only
                      rw [if_pos (by omega), rdo_get h, Option.bind_some, rdo_get (by omega), Option.bind_some, wi64_of (by omega) (by omega)]
                      by_cases he : a7[i] = b7[i]
                      · rw [if_neg (by rw [he]; simp), if_pos he]; rfl
                      · rw [if_pos (fun q => he (Prod.ext q.1 q.2.1)), if_neg he]
                    have h2 : ref21_Same_s0 (a1, a2, a3, a4, a5, a6, a7, a8, a9) (b1, b2, b3, b4, b5, b6, b7, b8, b9) (a7.length : Int) = some (.inr (.inr ())) := by
                      unfold ref21_Same_s0
                      simp only
                      rw [if_neg (by omega)]
                    rw [loop_eq hl h1 h2, Option.bind_some]
                    by_cases he : a7 = b7 <;> simp [he, e1, e2, e3, e4, e5, e6, e8, e9]
                  · rw [if_pos (by omega), decide_eq_false (fun e => hl (by simp only [Prod.mk.injEq] at e; rw [e.2.2.2.2.2.2.1]))]
                · rw [if_pos e9, decide_eq_false (fun e => e9 (by simp only [Prod.mk.injEq] at e; exact e.2.2.2.2.2.2.2.2))]
              · rw [if_pos e8, decide_eq_false (fun e => e8 (by simp only [Prod.mk.injEq] at e; exact e.2.2.2.2.2.2.2.1))]
            · rw [if_pos e6, decide_eq_false (fun e => e6 (by simp only [Prod.mk.injEq] at e; exact e.2.2.2.2.2.1))]
          · rw [if_pos e5, decide_eq_false (fun e => e5 (by simp only [Prod.mk.injEq] at e; exact e.2.2.2.2.1))]
        · rw [if_pos e4, decide_eq_false (fun e => e4 (by simp only [Prod.mk.injEq] at e; exact e.2.2.2.1))]
      · rw [if_pos e3, decide_eq_false (fun e => e3 (by simp only [Prod.mk.injEq] at e; exact e.2.2.1))]
    · rw [if_pos e2, decide_eq_false (fun e => e2 (by simp only [Prod.mk.injEq] at e; exact e.2.1))]
  · rw [if_pos e1, decide_eq_false (fun e => e1 (by simp only [Prod.mk.injEq] at e; exact e.1))]
abbrev awC : Cf := (1, 2, 10, 0, 1, 0, [], 0, 0)
theorem awC_ok : CfOk awC := ⟨by decide, by decide, by decide, by decide, by decide, by decide, by decide, (fun s hs => by cases hs), by decide, by decide⟩
theorem awC_chk : chk awC = 0 := by decide
theorem aw4_ok : CfOk (4, 2, 10, 0, 1, 0, [], 0, 0) := ⟨by decide, by decide, by decide, by decide, by decide, by decide, by decide, (fun s hs => by cases hs), by decide, by decide⟩
theorem rd_ok {b : List Int} (hl : b.length ≤ 100000) (hb : Byt b) : RdOk (b, 0) := ⟨by show b.length ≤ 1099511627776; omega, hb⟩
theorem take_self {c : Cf} (h : CfOk c) (hc : chk c = 0) : takeC (encC c, 0) = (c, [], 0) := by
  have := take_enc21 h hc []
  rw [List.append_nil] at this
  exact this
theorem awake21 : law21_awake = some true := by
  have e : encC awC = [1, 10, 0, 1, 2] := by
    unfold encC
    rw [show encT awC = dg (2 : Int).toNat from encT1 _ _ _ _ _ _ _ _, dg_lo (n := (1 : Int).toNat) (by decide), dg_lo (n := (10 : Int).toNat) (by decide), dg_lo (n := (0 : Int).toNat) (by decide), dg_lo (n := (2 : Int).toNat) (by decide)]
    rfl
  have hb := encC_byt awC
  have ht := take_self awC_ok awC_chk
  rw [e] at ht hb
  have hz : chk (4, 2, 10, 0, 1, 0, [], 0, 0) = 14 := by decide
  have hs2 : decide ((4, 2, 10, 0, 1, 0, [], 0, 0) = awC) = false := by decide
  unfold law21_awake
  rw [cput awC_ok, Option.bind_some, if_pos awC_chk, e, cnew, Option.bind_some, take_all, ctake21 (rd_ok (by decide) hb), Option.bind_some, ht, if_pos rfl]
  simp only
  rw [if_pos trivial, if_pos trivial, crend, Option.bind_some]
  rw [show endM (([], 0) : Rd8) = 0 from rfl, if_pos rfl, cfsame (by decide), Option.bind_some, decide_eq_true rfl, if_pos rfl, cfsame (by decide), Option.bind_some, hs2, if_pos (by decide), ccheck aw4_ok, Option.bind_some, hz, if_pos rfl, ccheck awC_ok, Option.bind_some, awC_chk]
  rfl
theorem law21_ConfChecks_true (p1 : Cf) (h1 : CfP p1) : law21_ConfChecks p1 = some true := by
  unfold law21_ConfChecks
  rw [awake21, Option.bind_some]
  by_cases c : 20 < ((p1.2.2.2.2.2.2.1.length : Int))
  · rw [if_pos c]
  · have h := h1.ok (by omega)
    rw [if_neg c, if_pos rfl, ccheck h, Option.bind_some, rcheck h, Option.bind_some, if_pos rfl, cput h, Option.bind_some, rput21 h, Option.bind_some, decide_eq_true rfl]
theorem law21_ConfTakes_true (p1 : List Int) (h1 : p1.length ≤ 9223372036854775807 ∧ ∀ x ∈ p1, U8 x) : law21_ConfTakes p1 = some true := by
  unfold law21_ConfTakes
  rw [awake21, Option.bind_some]
  by_cases c : 200 < ((p1.length : Int))
  · rw [if_pos c]
  · have hr := rd_ok (by omega) h1.2
    have hk := (takeC_ok hr).2.len
    rw [if_neg c, cnew, Option.bind_some, take_all, ctake21 hr, Option.bind_some, rtake21 hr, Option.bind_some, if_pos rfl]
    unfold codec_Reader_Left codec_Reader_Err
    simp only [etaC]
    rw [rfsame (by omega), Option.bind_some, decide_eq_true rfl, if_pos rfl, Option.bind_some, if_pos trivial, Option.bind_some]
    rfl
theorem law21_ConfOne_true (p1 : List Int) (h1 : p1.length ≤ 9223372036854775807 ∧ ∀ x ∈ p1, U8 x) : law21_ConfOne p1 = some true := by
  unfold law21_ConfOne
  rw [awake21, Option.bind_some]
  by_cases c : 200 < ((p1.length : Int))
  · rw [if_pos c]
  · have hr := rd_ok (by omega) h1.2
    have hk := (takeC_ok hr).2
    have hkl := hk.len
    rw [if_neg c, cnew, Option.bind_some, take_all, ctake21 hr, Option.bind_some]
    unfold codec_Reader_Left codec_Reader_Err
    simp only [etaC]
    rw [Option.bind_some]
    by_cases c2 : (takeC (p1, 0)).2.2 = 0
    · obtain ⟨d1, d2, d3⟩ := take_dec21 hr c2
      simp only at d3
      have hlen := congrArg List.length d3
      rw [List.length_append] at hlen
      rw [if_neg (nn c2), if_pos trivial, rcheck hk, Option.bind_some, if_pos d1, cput hk, Option.bind_some, if_pos d1, Option.bind_some, wi64_of (by omega) (by omega), must_of (by omega), Option.bind_some]
      have ej : ((p1.length : Int) - ((takeC (p1, 0)).2.1.length : Int)).toNat = (encC (takeC (p1, 0)).1).length := by omega
      have et : p1.take (encC (takeC (p1, 0)).1).length = encC (takeC (p1, 0)).1 := by
        have := congrArg (List.take (encC (takeC (p1, 0)).1).length) d3
        rw [List.take_left] at this
        exact this
      rw [ej, et, decide_eq_true rfl]
    · rw [if_pos c2, if_pos trivial, take_bad21 c2, rfsame (by decide), Option.bind_some]
      rfl
theorem enc_inj {a b : Cf} (ha : CfOk a) (hb : CfOk b) (ca : chk a = 0) (cb : chk b = 0) (h : encC a = encC b) : a = b := by
  have h1 := take_self ha ca
  have h2 := take_self hb cb
  rw [h, h2] at h1
  exact (congrArg Prod.fst h1).symm
theorem encC_pos (c : Cf) : 0 < (encC c).length := by
  have := dg_pos c.1.toNat
  unfold encC
  rw [List.length_append]
  omega
theorem law21_ConfSame_true (p1 p2 : Cf) (h1 : CfP p1) (h2 : CfP p2) : law21_ConfSame p1 p2 = some true := by
  unfold law21_ConfSame
  rw [awake21, Option.bind_some]
  by_cases c : 20 < ((p1.2.2.2.2.2.2.1.length : Int))
  · rw [if_pos c]
  · rw [if_neg c]
    by_cases d : 20 < ((p2.2.2.2.2.2.2.1.length : Int))
    · rw [if_pos d]
    · have k1 := h1.ok (by omega)
      have k2 := h2.ok (by omega)
      rw [if_neg d, rfsame (by omega), Option.bind_some, cput k1, Option.bind_some, cput k2, Option.bind_some, if_pos rfl, cfsame (by omega), Option.bind_some, if_pos rfl, cfsame (by omega), Option.bind_some, decide_eq_true rfl, if_pos rfl]
      by_cases e1 : chk p1 = 0
      · have q1 := encC_pos p1
        rw [if_pos e1, if_neg (by omega)]
        by_cases e2 : chk p2 = 0
        · have q2 := encC_pos p2
          rw [if_pos e2, if_neg (by omega)]
          refine congrArg some (decide_eq_true ?_)
          refine decide_eq_decide.2 ⟨fun h => ?_, fun h => by rw [h]⟩
          exact enc_inj k1 k2 e1 e2 ((bstr_inj (encC_byt _) (encC_byt _)).1 h)
        · rw [if_neg e2, if_pos (by simp)]
      · rw [if_neg e1, if_pos (by simp)]
end Go.Proofs.Ytbeknohemgjfbaa.Pu
namespace Go.Proofs.Ytbeknohemgjfbaa.Pu
set_option linter.unusedVariables false

def tmS (z : Int × Int) : Int × Int := (1 + z.1 % 2305843009213693950, z.2 % 2305843009213693951)
def tmL (l : List (Int × Int)) : List (Int × Int) := if l.length = 0 then [(3, 1)] else (l.take 4).map tmS
theorem tmS_ok {z : Int × Int} (h : U64 z.1 ∧ U64 z.2) : (U64 (tmS z).1 ∧ U64 (tmS z).2) ∧ sdBad (tmS z) = false := by
  unfold tmS sdBad
  simp only
  refine ⟨⟨by omega, by omega⟩, ?_⟩
  rw [decide_eq_false]
  omega
theorem tmL_ok {l : List (Int × Int)} (h : ∀ y ∈ l, U64 y.1 ∧ U64 y.2) : 1 ≤ (tmL l).length ∧ (tmL l).length ≤ 4 ∧ (∀ y ∈ tmL l, U64 y.1 ∧ U64 y.2) ∧ (tmL l).any sdBad = false := by
  unfold tmL
  by_cases c : l.length = 0
  · rw [if_pos c]
    exact ⟨by decide, by decide, (by decide), by decide⟩
  · rw [if_neg c]
    refine ⟨by rw [List.length_map, List.length_take]; omega, by rw [List.length_map, List.length_take]; omega, ?_, ?_⟩
    · intro y hy
      obtain ⟨z, hz, rfl⟩ := List.mem_map.1 hy
      exact (tmS_ok (h z (List.mem_of_mem_take hz))).1
    · rw [Bool.eq_false_iff]
      intro hy
      obtain ⟨y, hy1, hy2⟩ := List.any_eq_true.1 hy
      obtain ⟨z, hz, rfl⟩ := List.mem_map.1 hy1
      rw [(tmS_ok (h z (List.mem_of_mem_take hz))).2] at hy2
      cases hy2
theorem new15 {k n : Int} {l : List (Int × Int)} (hn : 0 ≤ n ∧ n ≤ 10) (hl : l.length ≤ 10) : ∃ L, ref15_New k n l = some L := by
  have inner : ∃ R, loopO (ref15_New_s1 k n) (([] : List (Int × Int × List (List (Int × Int)))), (0 : Int)) = some R := by
    have := loopO_to (step := ref15_New_s1 k n) (fun m s => ∃ i : Nat, s.2 = (i : Int) ∧ (i : Int) ≤ n ∧ s.1.length = i ∧ m = n.toNat - i) (fun _ => True) (by
      rintro m ⟨L, i'⟩ ⟨i, rfl, hi, hL, hm⟩
      simp only at hL
      unfold ref15_New_s1
      simp only
      by_cases c : (i : Int) < n
      · left
        rw [if_pos c, room_of (by simp only [List.length_cons, List.length_nil]; omega) (by simp only [List.length_cons, List.length_nil]; omega), Option.bind_some, wi64_of (by omega) (by omega)]
        exact ⟨_, rfl, n.toNat - (i + 1), by omega, i + 1, rfl, by omega, by simp only [List.length_append, List.length_cons, List.length_nil]; omega, rfl⟩
      · right
        rw [if_neg c]
        exact ⟨_, rfl, trivial⟩) n.toNat (([] : List (Int × Int × List (List (Int × Int)))), (0 : Int)) ⟨0, rfl, by omega, rfl, rfl⟩
    obtain ⟨r, hr, _⟩ := this
    exact ⟨r, hr⟩
  obtain ⟨R, hR⟩ := inner
  have := loopO_to (step := ref15_New_s0 k n l) (fun m s => ∃ i : Nat, s.1 = (i : Int) ∧ i ≤ l.length ∧ s.2.length = i ∧ m = l.length - i) (fun _ => True) (by
    rintro m ⟨i', L⟩ ⟨i, rfl, hi, hL, hm⟩
    simp only at hL
    unfold ref15_New_s0
    simp only
    by_cases c : i < l.length
    · left
      rw [if_pos (by omega), hR, Option.bind_some, room_of (by simp only [List.length_cons, List.length_nil]; omega) (by simp only [List.length_cons, List.length_nil]; omega), Option.bind_some, wi64_of (by omega) (by omega)]
      exact ⟨_, rfl, l.length - (i + 1), by omega, i + 1, rfl, by omega, by simp only [List.length_append, List.length_cons, List.length_nil]; omega, rfl⟩
    · right
      rw [if_neg (by omega)]
      exact ⟨_, rfl, trivial⟩) l.length ((0 : Int), ([] : List (List (Int × Int × List (List (Int × Int)))))) ⟨0, rfl, by omega, rfl, rfl⟩
  obtain ⟨r, hr, _⟩ := this
  unfold ref15_New
  rw [hr]
  exact ⟨r, rfl⟩
theorem tame15 {k cols : Int} {l : List (Int × Int)} (hk : I64 k) (hc : I64 cols) (hl : l.length ≤ 9223372036854775807) (hs : ∀ y ∈ l, U64 y.1 ∧ U64 y.2) : ∃ g, ref15_Tame (k, cols, l) = some (tmL l, g) := by
  obtain ⟨t1, t2, t3, t4⟩ := tmL_ok hs
  have hz : ∀ s : Int × Int, U64 s.1 ∧ U64 s.2 → (wu64 (1 + s.1.tmod 2305843009213693950), s.2.tmod 2305843009213693951) = tmS s := by
    intro s hs
    unfold tmS
    rw [Int.tmod_eq_emod_of_nonneg hs.1.1, Int.tmod_eq_emod_of_nonneg hs.2.1, wu64_of (by omega) (by omega)]
  have h1 : ∀ i : Nat, i < min l.length 4 → ref15_Tame_s0 (k, cols, l) ((l.take i).map tmS, (i : Int)) = some (.inl ((l.take (i + 1)).map tmS, ((i + 1 : Nat) : Int))) := by
    intro i hi
    have hk : i < l.length := by omega
    unfold ref15_Tame_s0
    simp only
    rw [if_pos (by omega), if_pos (by omega), rdo_get hk, Option.bind_some, hz _ (hs _ (List.getElem_mem hk)), room_of (by simp only [List.length_map, List.length_take, List.length_cons, List.length_nil]; omega) (by simp only [List.length_map, List.length_take, List.length_cons, List.length_nil]; omega), Option.bind_some, wi64_of (by omega) (by omega), List.take_succ_eq_append_getElem hk, List.map_append]
    rfl
  have h2 : ref15_Tame_s0 (k, cols, l) ((l.take (min l.length 4)).map tmS, ((min l.length 4 : Nat) : Int)) = some (.inr ((l.take 4).map tmS)) := by
    have e : l.take (min l.length 4) = l.take 4 := by
      by_cases c : l.length ≤ 4
      · rw [Nat.min_eq_left c, List.take_length, List.take_of_length_le c]
      · rw [Nat.min_eq_right (by omega)]
    unfold ref15_Tame_s0
    simp only
    rw [e]
    by_cases c : ((min l.length 4 : Nat) : Int) < (l.length : Int)
    · rw [if_pos c, if_neg (by omega)]
    · rw [if_neg c]
  have := loopO_run (fun i : Nat => ((l.take i).map tmS, (i : Int))) _ h1 h2
  have h0 : loopO (ref15_Tame_s0 (k, cols, l)) (([] : List (Int × Int)), (0 : Int)) = some ((l.take 4).map tmS) := this
  have hk2 : wi64 (1 + ((max cols 0).tmod 7)) = 1 + max cols 0 % 7 := by rw [Int.tmod_eq_emod_of_nonneg (by omega), wi64_of (by omega) (by omega)]
  unfold ref15_Tame
  rw [h0, Option.bind_some]
  simp only
  rw [hk2]
  by_cases c : l.length = 0
  · have e : (l.take 4).map tmS = [] := by rw [nil_of c]; rfl
    have ht : tmL l = [(3, 1)] := by unfold tmL; rw [if_pos c]
    rw [e, if_pos (by decide), room_of (by decide) (by decide), Option.bind_some]
    obtain ⟨g, hg⟩ := new15 (k := wi64 (2 + ((max k 0).tmod 10))) (n := 1 + max cols 0 % 7) (l := [] ++ [((3 : Int), (1 : Int))]) (by omega) (by decide)
    rw [hg, Option.bind_some, ht]
    exact ⟨g, rfl⟩
  · have ht : tmL l = (l.take 4).map tmS := by unfold tmL; rw [if_neg c]
    rw [if_neg (by rw [List.length_map, List.length_take]; omega), ← ht]
    obtain ⟨g, hg⟩ := new15 (k := wi64 (2 + ((max k 0).tmod 10))) (n := 1 + max cols 0 % 7) (l := tmL l) (by omega) (by omega)
    rw [hg, Option.bind_some]
    exact ⟨g, rfl⟩
theorem tame_eq {p1 : Int} {p2 : Cf} (h1 : I64 p1) (h2 : CfP p2) : ∃ r, ref21_Tame p1 p2 = some r ∧ CfOk (r.1, r.2.1, r.2.2.1, p2.2.2.2.1.tmod 100, wi64 (1 + ((max p2.2.2.2.2.1 0).tmod 7)), r.2.2.2.1, r.2.2.2.2.1, r.2.2.2.2.2.1, r.2.2.2.2.2.2) ∧ chk (r.1, r.2.1, r.2.2.1, p2.2.2.2.1.tmod 100, wi64 (1 + ((max p2.2.2.2.2.1 0).tmod 7)), r.2.2.2.1, r.2.2.2.2.1, r.2.2.2.2.2.1, r.2.2.2.2.2.2) = 0 := by
  obtain ⟨i1, i2, i3, i4, i5, i6, ⟨i7, i7'⟩, i8, i9⟩ := h2
  obtain ⟨g, hg⟩ := tame15 (k := p2.2.1) (cols := p2.2.2.2.2.2.1) i2 i6 i7 i7'
  obtain ⟨t1, t2, t3, t4⟩ := tmL_ok i7'
  have h16 : ref16_Tame p2 = some (tmL p2.2.2.2.2.2.2.1) := by
    unfold ref16_Tame
    rw [hg]
    rfl
  have ek : wi64 (1 + ((max p1 0).tmod 3)) = 1 + max p1 0 % 3 := by rw [Int.tmod_eq_emod_of_nonneg (by omega), wi64_of (by omega) (by omega)]
  have el : p2.2.2.2.1.tmod 100 = p2.2.2.2.1 % 100 := Int.tmod_eq_emod_of_nonneg i4.1
  have er : wi64 (1 + ((max p2.2.2.2.2.1 0).tmod 7)) = 1 + max p2.2.2.2.2.1 0 % 7 := by rw [Int.tmod_eq_emod_of_nonneg (by omega), wi64_of (by omega) (by omega)]
  have e2 : wi64 (2 + ((max p2.2.1 0).tmod 10)) = 2 + max p2.2.1 0 % 10 := by rw [Int.tmod_eq_emod_of_nonneg (by omega), wi64_of (by omega) (by omega)]
  have e3 : wu64 (1 + (p2.2.2.1.tmod 1000)) = 1 + p2.2.2.1 % 1000 := by rw [Int.tmod_eq_emod_of_nonneg i3.1, wu64_of (by omega) (by omega)]
  have e4 : wi64 (1 + ((max p2.2.2.2.2.2.1 0).tmod 7)) = 1 + max p2.2.2.2.2.2.1 0 % 7 := by rw [Int.tmod_eq_emod_of_nonneg (by omega), wi64_of (by omega) (by omega)]
  have e5 : wi64 (1 + ((max p2.2.2.2.2.2.2.2.2 0).tmod 6)) = 1 + max p2.2.2.2.2.2.2.2.2 0 % 6 := by rw [Int.tmod_eq_emod_of_nonneg (by omega), wi64_of (by omega) (by omega)]
  have e6 : wu64 (1 + (p2.2.2.1.tmod 40)) = 1 + p2.2.2.1 % 40 := by rw [Int.tmod_eq_emod_of_nonneg i3.1, wu64_of (by omega) (by omega)]
  have e7 : wi64 (1 + ((max p2.2.2.2.2.2.2.2.1 0).tmod 8)) = 1 + max p2.2.2.2.2.2.2.2.1 0 % 8 := by rw [Int.tmod_eq_emod_of_nonneg (by omega), wi64_of (by omega) (by omega)]
  have z : I64 0 := by decide
  have zl : ([] : List (Int × Int)).length ≤ 20 := by decide
  have hB : okB (p2.2.2.2.1 % 100) (1 + max p2.2.2.2.2.1 0 % 7) := by unfold okB; omega
  unfold ref21_Tame
  rw [ek, el, er, h16]
  simp only
  rw [e2, e3, e4, e5, e6, e7]
  by_cases k1 : 1 + max p1 0 % 3 = 1
  · rw [if_pos k1, Option.bind_some]
    refine ⟨_, rfl, ⟨by simp only; omega, by simp only; omega, by simp only; omega, by simp only; omega, by simp only; omega, z, zl, (fun s hs => by cases hs), z, z⟩, ?_⟩
    unfold chk
    simp only
    rw [if_pos trivial, if_pos]
    exact ⟨by decide, hB, by unfold okK; omega, by unfold okW; omega⟩
  · rw [if_neg k1]
    by_cases k2 : 1 + max p1 0 % 3 = 2
    · rw [if_pos k2, Option.bind_some]
      refine ⟨_, rfl, ⟨by simp only; omega, by simp only; omega, by simp only; omega, by simp only; omega, by simp only; omega, by simp only; omega, by simp only; omega, t3, z, z⟩, ?_⟩
      unfold chk
      simp only
      rw [if_neg (by decide), if_pos trivial, if_pos (c := (_ ∧ _) ∧ _), t4]
      · rfl
      · exact ⟨by decide, hB, by unfold okK; omega, by unfold okW; omega, by unfold okG; omega⟩
    · have hq : 1 ≤ (1 + max p2.2.2.2.2.2.2.2.2 0 % 6) * (1 + p2.2.2.1 % 40) ∧ (1 + max p2.2.2.2.2.2.2.2.2 0 % 6) * (1 + p2.2.2.1 % 40) ≤ 240 := by
        have a1 : 1 ≤ 1 + max p2.2.2.2.2.2.2.2.2 0 % 6 := by omega
        have a2 : 1 + max p2.2.2.2.2.2.2.2.2 0 % 6 ≤ 6 := by omega
        have b1 : 1 ≤ 1 + p2.2.2.1 % 40 := by omega
        have b2 : 1 + p2.2.2.1 % 40 ≤ 40 := by omega
        generalize 1 + max p2.2.2.2.2.2.2.2.2 0 % 6 = a at a1 a2 ⊢
        generalize 1 + p2.2.2.1 % 40 = b at b1 b2 ⊢
        have c1 : 1 * 1 ≤ a * b := Int.mul_le_mul a1 b1 (by omega) (by omega)
        have c2 : a * b ≤ 6 * 40 := Int.mul_le_mul a2 b2 (by omega) (by omega)
        omega
      have e8 : wu64 ((wu64 (1 + max p2.2.2.2.2.2.2.2.2 0 % 6)) * (1 + p2.2.2.1 % 40)) = (1 + max p2.2.2.2.2.2.2.2.2 0 % 6) * (1 + p2.2.2.1 % 40) := by
        rw [wu64_of (x := 1 + max p2.2.2.2.2.2.2.2.2 0 % 6) (by omega) (by omega), wu64_of (by omega) (by omega)]
      have hd : ((1 + max p2.2.2.2.2.2.2.2.2 0 % 6) * (1 + p2.2.2.1 % 40)) % (1 + max p2.2.2.2.2.2.2.2.2 0 % 6) = 0 := Int.mul_emod_right _ _
      unfold ref20_Tame ref19_Tame
      rw [if_neg k2, Option.bind_some, Option.bind_some, e8]
      generalize (1 + max p2.2.2.2.2.2.2.2.2 0 % 6) * (1 + p2.2.2.1 % 40) = q at hq hd ⊢
      refine ⟨_, rfl, ⟨by simp only; omega, z, by simp only; omega, by simp only; omega, by simp only; omega, z, zl, (fun s hs => by cases hs), by simp only; omega, by simp only; omega⟩, ?_⟩
      unfold chk
      simp only
      rw [if_neg (by decide), if_neg (by decide), if_pos trivial, if_pos]
      exact ⟨by decide, hB, ⟨by omega, by omega⟩, ⟨by omega, by omega⟩, ⟨by omega, by omega⟩, hd⟩
theorem encC_len {c : Cf} (h : CfOk c) (hp : ChkP c) : (encC c).length ≤ 1000 := by
  have hn := h.len
  have l1 := heads h hp
  obtain ⟨⟨a1, a2⟩, ⟨b1, b2⟩, ⟨c1, c2⟩, ⟨d1, d2⟩⟩ := l1
  have k0 := h.k
  have k1 := h.cols
  have k2 := h.cap
  have k3 := h.n
  have z1 := dg10 (n := c.1.toNat) (by omega)
  have z2 := dg10 (n := c.2.2.1.toNat) (by omega)
  have z3 := dg10 (n := c.2.2.2.1.toNat) (by omega)
  have z4 := dg10 (n := c.2.2.2.2.1.toNat) (by omega)
  have z5 := dg10 (n := c.2.1.toNat) (by omega)
  have z6 := dg10 (n := c.2.2.2.2.2.1.toNat) (by omega)
  have z7 := dg10 (n := c.2.2.2.2.2.2.1.length) (by omega)
  have z8 := dg10 (n := c.2.2.2.2.2.2.2.1.toNat) (by omega)
  have z9 := dg10 (n := c.2.2.2.2.2.2.2.2.toNat) (by omega)
  have hs := encSd_len c.2.2.2.2.2.2.1
  have hT : (encT c).length ≤ 500 := by
    unfold encT
    split
    · omega
    · split
      · simp only [List.length_append]; omega
      · simp only [List.length_append]; omega
  unfold encC
  simp only [List.length_append]
  omega
theorem law21_ConfBack_true (p1 : Int) (p2 : Cf) (p3 : Int) (h1 : I64 p1) (h2 : CfP p2) (h3 : 0 ≤ p3 ∧ p3 < 65536) : law21_ConfBack p1 p2 p3 = some true := by
  obtain ⟨r, hr, hk, hc⟩ := tame_eq h1 h2
  unfold law21_ConfBack
  rw [awake21, Option.bind_some, hr, Option.bind_some]
  generalize (r.1, r.2.1, r.2.2.1, p2.2.2.2.1.tmod 100, wi64 (1 + ((max p2.2.2.2.2.1 0).tmod 7)), r.2.2.2.1, r.2.2.2.2.1, r.2.2.2.2.2.1, r.2.2.2.2.2.2) = T at hk hc ⊢
  have hpos := encC_pos T
  have hle := encC_len hk (chk_zero hc)
  have hkl := hk.len
  rw [cput hk, Option.bind_some, if_pos hc, if_neg (by omega), cnew, Option.bind_some, take_all, ctake21 (rd_ok (by omega) (encC_byt T)), Option.bind_some, take_self hk hc, must_of (by omega), Option.bind_some]
  have et : (wi64 p3).tmod ((encC T).length : Int) = ((p3.toNat % (encC T).length : Nat) : Int) := by
    rw [wi64_of (by omega) (by omega), Int.tmod_eq_emod_of_nonneg h3.1]
    have e3 : p3 = ((p3.toNat : Nat) : Int) := by omega
    rw [e3, Int.toNat_natCast]
    rfl
  have hlt : p3.toNat % (encC T).length < (encC T).length := Nat.mod_lt _ hpos
  rw [et, must_of ⟨by omega, by omega⟩, Option.bind_some, Int.toNat_natCast, cnew, Option.bind_some, take_all, ctake21 (rd_ok (by rw [List.length_take]; omega) (fun x hx => encC_byt _ x (List.mem_of_mem_take hx))), Option.bind_some, if_pos rfl]
  have hcut := take_cut21 hk hc hlt
  unfold codec_Reader_Err
  simp only [etaC]
  rw [rfsame (by omega), Option.bind_some, decide_eq_true rfl, if_pos rfl, crend, Option.bind_some, show endM (([], 0) : Rd8) = 0 from rfl, if_pos rfl, Option.bind_some, hcut]
  rfl
end Go.Proofs.Ytbeknohemgjfbaa.Pu
