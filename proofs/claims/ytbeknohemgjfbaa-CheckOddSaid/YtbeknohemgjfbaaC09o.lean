/- Chapter 09: what the laws look at first. (Out of the texts of round a.) -/
import Derived.Test.YtbeknohemgjfbaaC06
namespace Go.Proofs.Ytbeknohemgjfbaa.Pu
set_option linter.unusedVariables false

section
variable {k : Nat} {g : Int} {ls : List (List Sp)}
def cnt : List (List Sp) → Nat
  | [] => 0
  | l :: ls => l.length + cnt ls
theorem cnt_append (a b : List (List Sp)) : cnt (a ++ b) = cnt a + cnt b := by
  induction a with
  | nil => simp [cnt]
  | cons l a ih => rw [List.cons_append, cnt, cnt, ih]; omega
theorem cnt_le {B : Nat} (h : ∀ l ∈ ls, l.length ≤ B) : cnt ls ≤ ls.length * B := by
  induction ls with
  | nil => simp [cnt]
  | cons l ls ih =>
    have h1 := ih (fun m hm => h m (List.mem_cons_of_mem _ hm))
    have h2 := h l List.mem_cons_self
    rw [cnt, List.length_cons, Nat.add_mul]
    omega
theorem buckets_eq {K : Int} (hl : ls.length ≤ 100) (hll : ∀ l ∈ ls, l.length ≤ 2000) : check_Buckets (K, g, ls) = some (cnt ls : Int) := by
  unfold check_Buckets
  have := loopO_run (step := check_Buckets_s0 (K, g, ls)) (r := (cnt ls : Int)) (fun i => ((cnt (ls.take i) : Int), (i : Int))) ls.length (fun i hi => ?_) ?_
  · have h' : loopO (check_Buckets_s0 (K, g, ls)) ((0 : Int), (0 : Int)) = some (cnt ls : Int) := by simpa [cnt] using this
    rw [h', Option.bind_some]
  · have h1 := hll _ (List.getElem_mem hi)
    have h2 := cnt_le (ls := ls.take i) (B := 2000) (fun l hl' => hll l (List.mem_of_mem_take hl'))
    rw [List.length_take] at h2
    have h3 : min i ls.length * 2000 ≤ 100 * 2000 := Nat.mul_le_mul_right _ (by omega)
    unfold check_Buckets_s0
    simp only
    rw [if_pos (by omega), rdo_get hi, Option.bind_some, wi64_of (by omega) (by omega), wi64_of (by omega) (by omega), take_get (List.getElem?_eq_getElem hi), cnt_append]
    refine congrArg some (congrArg Sum.inl (Prod.ext ?_ ?_))
    · simp only [cnt]; omega
    · simp only; omega
  · unfold check_Buckets_s0
    simp only
    rw [if_neg (by omega), List.take_length]
end
def dg (n : Nat) : Nat := if h : n = 0 then 0 else 1 + dg (n / 2)
  termination_by n
  decreasing_by omega
theorem dg_zero : dg 0 = 0 := by rw [dg]; rfl
theorem dg_pos {n : Nat} (h : n ≠ 0) : dg n = 1 + dg (n / 2) := by rw [dg, dif_neg h]
def dgf : Nat → Nat → Nat
  | 0, _ => 0
  | f + 1, n => if n = 0 then 0 else 1 + dgf f (n / 2)
theorem dg_f : ∀ (f n : Nat), n < 2 ^ f → dg n = dgf f n := by
  intro f
  induction f with
  | zero => intro n h; have : n = 0 := by simpa using h
            rw [this, dg_zero]; rfl
  | succ f ih =>
    intro n h
    by_cases h0 : n = 0
    · rw [h0, dg_zero]; rfl
    · rw [dg_pos h0, ih _ (by rw [Nat.pow_succ] at h; omega), dgf, if_neg h0]
theorem dg_shift : ∀ (m n : Nat), 2 ^ m ≤ n → dg n = m + dg (n / 2 ^ m) := by
  intro m
  induction m with
  | zero => intro n _; simp
  | succ m ih =>
    intro n h
    rw [Nat.pow_succ] at h
    have hp : 0 < 2 ^ m := Nat.two_pow_pos m
    rw [dg_pos (by omega), ih (n / 2) (by omega), Nat.pow_succ, Nat.mul_comm (2 ^ m) 2, ← Nat.div_div_eq_div_mul]
    omega
theorem dg_le : ∀ (f n : Nat), n < 2 ^ f → dg n ≤ f := by
  intro f
  induction f with
  | zero => intro n h; have : n = 0 := by simpa using h
            rw [this, dg_zero]; exact Nat.le_refl _
  | succ f ih =>
    intro n h
    by_cases h0 : n = 0
    · rw [h0, dg_zero]; exact Nat.zero_le _
    · have := ih (n / 2) (by rw [Nat.pow_succ] at h; omega)
      rw [dg_pos h0]; omega
theorem tab_all : ∀ x : Fin 256, rdb bs0 (x.val : Int) = some ((dgf 8 x.val : Nat) : Int) := by decide +kernel
theorem tab {x : Nat} (h : x < 256) : rdb bs0 (x : Int) = some (dg x : Int) := by
  rw [dg_f 8 x h]
  exact tab_all ⟨x, h⟩
theorem shrk_n (n b : Nat) (h : b ≤ 64) : shrk 64 (n : Int) (b : Int) = ((n / 2 ^ b : Nat) : Int) := by
  unfold shrk
  rw [Int.toNat_natCast, Nat.min_eq_left h, Int.fdiv_eq_ediv_of_nonneg _ (by exact Int.le_of_lt (Int.pow_pos (by decide)))]
  simp
theorem len64_eq {n : Nat} (h : n < 18446744073709551616) : bits_Len64 (n : Int) = some (dg n : Int) := by
  have hd := dg_le 64 n h
  unfold bits_Len64
  obtain ⟨a, b, ha, hb, hab, e3⟩ : ∃ a b : Nat, a < 4294967296 ∧ (b = 0 ∨ b = 32) ∧ dg n = b + dg a ∧ (if 4294967296 ≤ (n : Int) then (some ((shrk 64 (n : Int) 32, (32 : Int)))) else (some (((n : Int), (0 : Int)))) : Option (Int × Int)) = some ((a : Int), (b : Int)) := by
    by_cases c : 4294967296 ≤ n
    · refine ⟨n / 2 ^ 32, 32, by omega, .inr rfl, dg_shift 32 n (by omega), ?_⟩
      rw [if_pos (by omega)]
      have := shrk_n n 32 (by decide)
      rw [show ((32 : Nat) : Int) = 32 from rfl] at this
      rw [this]; rfl
    · exact ⟨n, 0, by omega, .inl rfl, by omega, by rw [if_neg (by omega)]; rfl⟩
  rw [e3, Option.bind_some]
  simp only
  obtain ⟨a', b', ha', hb', hab', e4⟩ : ∃ a' b' : Nat, a' < 65536 ∧ b' ≤ 48 ∧ dg n = b' + dg a' ∧ (if 65536 ≤ (a : Int) then (some ((shrk 64 (a : Int) 16, wi64 ((b : Int) + 16)))) else (some (((a : Int), (b : Int)))) : Option (Int × Int)) = some ((a' : Int), (b' : Int)) := by
    by_cases c : 65536 ≤ a
    · refine ⟨a / 2 ^ 16, b + 16, by omega, by omega, by have := dg_shift 16 a (by omega); omega, ?_⟩
      rw [if_pos (by omega)]
      have := shrk_n a 16 (by decide)
      rw [show ((16 : Nat) : Int) = 16 from rfl] at this
      rw [this, wi64_of (by omega) (by omega)]; rfl
    · exact ⟨a, b, by omega, by omega, hab, by rw [if_neg (by omega)]⟩
  rw [e4, Option.bind_some]
  simp only
  by_cases c : 256 ≤ a'
  · have e8 := shrk_n a' 8 (by decide)
    rw [show ((8 : Nat) : Int) = 8 from rfl] at e8
    have h8 := dg_shift 8 a' (by omega)
    have hlt : a' / 2 ^ 8 < 256 := by omega
    rw [if_pos (by omega), e8, wu8_of (by omega) (by omega), tab hlt, Option.bind_some, wi64_of (x := (b' : Int) + 8) (by omega) (by omega), wi64_of (x := ((dg (a' / 2 ^ 8) : Nat) : Int)) (by omega) (by omega), wi64_of (by omega) (by omega)]
    congr 1; omega
  · rw [if_neg (by omega), wu8_of (by omega) (by omega), tab (by omega), Option.bind_some, wi64_of (x := ((dg a' : Nat) : Int)) (by omega) (by omega), wi64_of (by omega) (by omega)]
    congr 1; omega
/-- How many buckets there are at most. -/
def boundC (K g : Int) (n : Nat) : Int := if n = 0 then 0 else if ¬ confB K g = true then 0 else (K + 1) * ((dg n : Int) + g)
theorem bound_small {K g : Int} {n : Nat} (h : n < 18446744073709551616) (hc : confB K g = true) : 0 ≤ (K + 1) * ((dg n : Int) + g) ∧ (K + 1) * ((dg n : Int) + g) ≤ 1025 * 68 := by
  obtain ⟨h1, h2, h3, h4⟩ := confB_spec.1 hc
  have hd := dg_le 64 n h
  exact ⟨Int.mul_nonneg (by omega) (by omega), Int.mul_le_mul (by omega) (by omega) (by omega) (by omega)⟩
theorem cbound_eq {K g : Int} {n : Nat} (h : n < 18446744073709551616) : check_Bound K g (n : Int) = some (boundC K g n) := by
  unfold check_Bound boundC
  by_cases h0 : n = 0
  · rw [if_pos (by omega), if_pos h0]
  · rw [if_neg (by omega), if_neg h0, conf_eq, Option.bind_some]
    cases hc : confB K g with
    | false => rw [if_pos (by simp), if_pos (by simp)]
    | true =>
      have hb := bound_small h hc
      obtain ⟨h1, h2, h3, h4⟩ := confB_spec.1 hc
      have hd := dg_le 64 n h
      rw [if_neg (by simp), if_neg (by simp), len64_eq h, Option.bind_some, wi64_of (x := K + 1) (by omega) (by omega), wi64_of (x := (dg n : Int) + g) (by omega) (by omega), wi64_of (by omega) (by omega)]
theorem made_awake9 : madeM 0 [(1, 4)] = [[(1, 1), (1, 1)], [(1, 1)]] := by
  have e1 : addL 2 [] 1 4 = [[(1, 1), (1, 1)], [(1, 1)]] := flow_of (n := 8) rfl
  unfold madeM
  rw [kM_zero]
  show madeS 2 [(1, 4)] 0 [] = _
  rw [madeS, show (0 : Int) + 1 % 1000 = 1 from rfl, show addC [] 1 4 = 0 from rfl, if_pos rfl, e1, madeS]
theorem deeds_awake9 : Deeds [(1, 4)] := by intro d hd; simp at hd; subst hd; decide
theorem awake9 : law09_awake = some true := by
  unfold law09_awake law09_made
  have hg := made_good 0 deeds_awake9
  have hu := made_units 0 [(1, 4)]
  have hm := good_may (by decide) (by decide) hg hu (by decide)
  rw [kM_zero, made_awake9] at hm
  rw [made_eq (by decide) deeds_awake9, Option.bind_some, kM_zero, made_awake9]
  simp only [Option.bind_some]
  rw [hm, Option.bind_some, if_pos rfl, chist_eq (by decide) (by decide), Option.bind_some, if_pos (by decide), buckets_eq (by decide) (by decide), Option.bind_some, if_pos (by decide)]
  have hb := cbound_eq (K := 2) (g := 0) (n := 4) (by decide)
  have hb' : check_Bound (2 : Int) (0 : Int) (4 : Int) = some 9 := by
    rw [show ((4 : Nat) : Int) = 4 from rfl] at hb
    rw [hb]
    unfold boundC
    rw [if_neg (by decide), if_neg (by decide), dg_f 3 4 (by decide)]
    rfl
  rw [hb', Option.bind_some, if_pos rfl, chist_eq (by decide) (by decide), Option.bind_some]
  decide
end Go.Proofs.Ytbeknohemgjfbaa.Pu
