/- Things as bytes, one behind the other: how the program's functions and the reference's answer. -/
import Derived.Test.YtbeknohemgjfbaaC01b
namespace Go.Proofs.Ytbeknohemgjfbaa.Pu
set_option linter.unusedVariables false

theorem nn {a : Prop} (h : a) : ¬ ¬ a := fun q => q h
abbrev Byt (l : List Int) : Prop := ∀ x ∈ l, U8 x
theorem cnum {n : Nat} (h : n < 18446744073709551616) : codec_Num (n : Int) = some (dg n) := by
  unfold codec_Num
  rw [vput h]; rfl
theorem rnum {n : Nat} (h : n < 18446744073709551616) : ref02_Num (n : Int) = some (dg n) := by
  unfold ref02_Num
  rw [rput h]; rfl
/-! ## Eight bytes -/
/-- Byte k of a number. -/
def bt (n : Int) (k : Nat) : Int := wu8 (shrk 64 n (8 * (k : Int)))
def fx (n : Int) : List Int := [bt n 7, bt n 6, bt n 5, bt n 4, bt n 3, bt n 2, bt n 1, bt n 0]
def fxs (n : Int) : Nat → List Int
  | 0 => List.replicate 8 (0 : Int)
  | k + 1 => (fxs n k).set (7 - k) (bt n k)
theorem fxs_len (n : Int) : ∀ k, (fxs n k).length = 8 := by
  intro k
  induction k with
  | zero => rfl
  | succ k ih => rw [fxs, List.length_set, ih]
def rfs (n : Int) : Nat → List Int
  | 0 => []
  | k + 1 => rfs n k ++ [bt n (7 - k)]
theorem rfs_len (n : Int) : ∀ k, (rfs n k).length = k := by
  intro k
  induction k with
  | zero => rfl
  | succ k ih => rw [rfs, List.length_append, ih]; rfl
theorem fx_byt (n : Int) : Byt (fx n) := by
  have : ∀ k, U8 (bt n k) := fun k => by unfold bt wu8; omega
  intro x hx
  simp only [fx, List.mem_cons, List.not_mem_nil, or_false] at hx
  rcases hx with rfl | rfl | rfl | rfl | rfl | rfl | rfl | rfl <;> exact this _
/-- What eight bytes come to. -/
def v8 (l : List Int) : Int := l.foldl (fun a c => a * 256 + c) 0
theorem v8_app (l : List Int) (c : Int) : v8 (l ++ [c]) = v8 l * 256 + c := by unfold v8; rw [List.foldl_append]; rfl
theorem v8_bd : ∀ (k : Nat) (l : List Int), Byt l → l.length = k → 0 ≤ v8 l ∧ v8 l < 256 ^ k := by
  intro k
  induction k with
  | zero => intro l hb hl; have : l = [] := List.eq_nil_of_length_eq_zero hl; subst this; decide
  | succ k ih =>
    intro l hb hl
    have hne : l ≠ [] := fun q => by subst q; simp at hl
    rw [← List.dropLast_concat_getLast hne] at hb ⊢
    have h1 := ih l.dropLast (fun x hx => hb x (List.mem_append_left _ hx)) (by rw [List.length_dropLast]; omega)
    have h2 := hb (l.getLast hne) (List.mem_append_right _ (List.mem_singleton.2 rfl))
    rw [v8_app, Int.pow_succ]
    omega
theorem v8_take {b : List Int} {i : Nat} (h : i < b.length) : v8 (b.take (i + 1)) = v8 (b.take i) * 256 + b[i] := by rw [List.take_succ_eq_append_getElem h, v8_app]
theorem v8_step {b : List Int} (hb : Byt b) {i : Nat} (h : i < b.length) (hi : i < 8) : 0 ≤ v8 (b.take i) ∧ v8 (b.take i) * 256 + b[i] < 18446744073709551616 ∧ v8 (b.take i) < 72057594037927936 := by
  have h1 := v8_bd i (b.take i) (fun x hx => hb x (List.mem_of_mem_take hx)) (by rw [List.length_take]; omega)
  have h2 := hb _ (List.getElem_mem h)
  have h3 : (256 : Int) ^ i ≤ 256 ^ 7 := by
    have := Nat.pow_le_pow_right (n := 256) (by decide) (show i ≤ 7 by omega)
    have h4 := Int.ofNat_le.2 this
    rwa [Int.natCast_pow, Int.natCast_pow] at h4
  have e : (256 : Int) ^ 7 = 72057594037927936 := by decide
  omega
theorem shlor {a c : Int} (ha : 0 ≤ a) (ha2 : a < 72057594037927936) (hc : U8 c) : wu64 (ork 64 (wu64 (shlk 64 a 8)) (wu64 c)) = a * 256 + c := by
  obtain ⟨m, rfl⟩ : ∃ m : Nat, a = m := ⟨a.toNat, by omega⟩
  obtain ⟨q, rfl⟩ : ∃ q : Nat, c = q := ⟨c.toNat, by omega⟩
  have e1 : shlk 64 (m : Int) 8 = ((m * 256 : Nat) : Int) := by
    unfold shlk
    show (m : Int) * 2 ^ 8 = _
    rw [Int.natCast_mul]
    rfl
  rw [e1, wu64_of (x := ((m * 256 : Nat) : Int)) (by omega) (by omega), wu64_of (x := (q : Int)) (by omega) (by omega), ork_nat (by omega) (by omega)]
  have e2 : m * 256 ||| q = m * 256 + q := by
    have := Nat.two_pow_add_eq_or_of_lt (i := 8) (b := q) (by omega) m
    rw [Nat.mul_comm] at this
    exact this.symm
  rw [e2, wu64_of (by omega) (by omega), Int.natCast_add, Int.natCast_mul]
  rfl

/-! ## Readers -/
abbrev Rd8 := List Int × Int
abbrev RdOk (r : Rd8) : Prop := r.1.length ≤ 1099511627776 ∧ Byt r.1
def numM (r : Rd8) (most : Int) : Int × Rd8 :=
  if r.2 ≠ 0 then (0, r.1, r.2) else if (tkM r.1).2.2 ≠ 0 then (0, r.1, (tkM r.1).2.2) else if most < (tkM r.1).1 then (0, r.1, 2) else ((tkM r.1).1, r.1.drop (tkM r.1).2.1.toNat, 0)
def fixM (r : Rd8) : Int × Rd8 := if r.2 ≠ 0 then (0, r.1, r.2) else if r.1.length < 8 then (0, r.1, 3) else (v8 (r.1.take 8), r.1.drop 8, 0)
def txtM (r : Rd8) (most : Int) : List Int × Rd8 :=
  if (numM r (wu64 (max most 0))).2.2 ≠ 0 then ([], r.1, (numM r (wu64 (max most 0))).2.2) else if ((numM r (wu64 (max most 0))).2.1.length : Int) < (numM r (wu64 (max most 0))).1 then ([], r.1, 3)
  else ((numM r (wu64 (max most 0))).2.1.take (numM r (wu64 (max most 0))).1.toNat, (numM r (wu64 (max most 0))).2.1.drop (numM r (wu64 (max most 0))).1.toNat, 0)
theorem numM_ok {r : Rd8} (h : RdOk r) (m : Int) : RdOk (numM r m).2 ∧ 0 ≤ (numM r m).1 ∧ (numM r m).1 < 18446744073709551616 := by
  unfold numM
  split
  · exact ⟨h, Int.le_refl 0, (by decide : (0 : Int) < 18446744073709551616)⟩
  · split
    · exact ⟨h, Int.le_refl 0, (by decide : (0 : Int) < 18446744073709551616)⟩
    · rename_i h1 h2
      split
      · exact ⟨h, Int.le_refl 0, (by decide : (0 : Int) < 18446744073709551616)⟩
      · have := tkM_ok h.2 (by omega)
        exact ⟨⟨by simp only [List.length_drop]; have := h.1; omega, fun x hx => h.2 x (List.mem_of_mem_drop hx)⟩, this.1, this.2.1⟩
theorem fixM_ok {r : Rd8} (h : RdOk r) : RdOk (fixM r).2 := by
  unfold fixM
  split
  · exact h
  · split
    · exact h
    · exact ⟨by simp only [List.length_drop]; have := h.1; omega, fun x hx => h.2 x (List.mem_of_mem_drop hx)⟩
theorem txtM_ok {r : Rd8} (h : RdOk r) (m : Int) : RdOk (txtM r m).2 ∧ Byt (txtM r m).1 := by
  have hn := (numM_ok h (wu64 (max m 0))).1
  unfold txtM
  split
  · exact ⟨h, fun x hx => by cases hx⟩
  · split
    · exact ⟨h, fun x hx => by cases hx⟩
    · exact ⟨⟨by simp only [List.length_drop]; have := hn.1; omega, fun x hx => hn.2 x (List.mem_of_mem_drop hx)⟩, fun x hx => hn.2 x (List.mem_of_mem_take hx)⟩
theorem cnumber {r : Rd8} (h : RdOk r) (m : Int) (h0 : r.2 = 0) : codec_Reader_number r m = some (if (tkM r.1).2.2 ≠ 0 then (0, 0, (tkM r.1).2.2) else if m < (tkM r.1).1 then (0, 0, 2) else ((tkM r.1).1, (tkM r.1).2.1, 0)) := by
  unfold codec_Reader_number
  rw [vtake h.1 h.2, Option.bind_some]
  by_cases c1 : (tkM r.1).2.2 = 0
  · rw [if_pos c1, Option.bind_some, if_neg (nn c1)]
    by_cases c2 : m < (tkM r.1).1
    · rw [decide_eq_true c2, if_pos rfl, if_neg (nn c1), if_pos c2]
    · rw [decide_eq_false c2, if_neg (by decide), if_neg (nn c1), if_neg c2, h0]
  · rw [if_neg c1, Option.bind_some, if_neg (by decide), if_pos c1, if_pos c1]
theorem crnum {r : Rd8} (h : RdOk r) (m : Int) : codec_Reader_Num r m = some (numM r m) := by
  unfold codec_Reader_Num codec_Reader_on numM
  rw [Option.bind_some]
  by_cases c0 : r.2 = 0
  · rw [if_neg (nn c0), cnumber h m c0, Option.bind_some, if_neg (nn c0)]
    by_cases c1 : (tkM r.1).2.2 = 0
    · have hk := tkM_ok h.2 c1
      rw [if_neg (nn c1), if_neg (nn c1)]
      by_cases c2 : m < (tkM r.1).1
      · rw [if_pos c2, if_pos c2, must_of ⟨Int.le_refl 0, Int.natCast_nonneg _⟩]; rfl
      · rw [if_neg c2, if_neg c2, must_of ⟨hk.2.2.1, hk.2.2.2.1⟩]; rfl
    · rw [if_pos c1, if_pos c1, must_of ⟨Int.le_refl 0, Int.natCast_nonneg _⟩]; rfl
  · rw [if_pos c0, if_pos c0]
theorem rrnum {r : Rd8} (h : RdOk r) (m : Int) : ref02_Read r m = some ((numM r m).2.1, (numM r m).2.2, (numM r m).1) := by
  unfold ref02_Read numM ref02_fail
  by_cases c0 : r.2 = 0
  · rw [if_neg (nn c0), rtake h.1 h.2, Option.bind_some, if_neg (nn c0)]
    by_cases c1 : (tkM r.1).2.2 = 0
    · have hk := tkM_ok h.2 c1
      rw [if_neg (nn c1), if_neg (nn c1)]
      by_cases c2 : m < (tkM r.1).1
      · rw [if_pos c2, if_pos c2, if_pos c0]; rfl
      · rw [if_neg c2, if_neg c2, must_of ⟨hk.2.2.1, hk.2.2.2.1⟩, c0]; rfl
    · rw [if_pos c1, if_pos c1, if_pos c0]; rfl
  · rw [if_pos c0, if_pos c0]
def endM (r : Rd8) : Int := if r.2 ≠ 0 then r.2 else if 0 < r.1.length then 2 else 0
theorem crend (r : Rd8) : codec_Reader_End r = some (endM r) := by
  unfold codec_Reader_End codec_Reader_Err codec_Reader_Left endM
  rw [Option.bind_some, Option.bind_some]
  by_cases c0 : r.2 = 0
  · rw [if_neg (nn c0), if_neg (nn c0)]
    by_cases c1 : 0 < r.1.length
    · rw [if_pos (by omega), if_pos c1]
    · rw [if_neg (by omega), if_neg c1]
  · rw [if_pos c0, if_pos c0]
theorem rrend (r : Rd8) : ref02_End r = some (endM r) := by
  unfold ref02_End endM
  by_cases c0 : r.2 = 0
  · rw [if_pos c0, if_neg (nn c0), c0]
    by_cases c1 : 0 < r.1.length
    · rw [if_pos (by omega), if_pos c1]
    · rw [if_neg (by omega), if_neg c1]
  · rw [if_neg c0, if_pos c0]
theorem cnew (b : List Int) : codec_New b = some () := by
  unfold codec_New
  rw [must_of ⟨by omega, by omega, by omega⟩]; rfl
theorem take_all (b : List Int) : b.take ((b.length : Int)).toNat = b := by rw [Int.toNat_natCast, List.take_length]
end Go.Proofs.Ytbeknohemgjfbaa.Pu
