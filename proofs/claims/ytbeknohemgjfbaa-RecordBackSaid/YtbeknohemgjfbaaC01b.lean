/- The laws of chapter 01, in plain words. -/
import Derived.Test.YtbeknohemgjfbaaC01
namespace Go.Proofs.Ytbeknohemgjfbaa.Pu
set_option linter.unusedVariables false

theorem bstr_inj {xs ys : List Int} (hx : ∀ x ∈ xs, U8 x) (hy : ∀ y ∈ ys, U8 y) : bstr xs = bstr ys ↔ xs = ys := by
  constructor
  · intro h0
    have h : xs.map (fun n => UInt8.ofNat n.toNat) = ys.map (fun n => UInt8.ofNat n.toNat) := congrArg (fun b : ByteArray => b.data.toList) h0
    clear h0
    induction xs generalizing ys with
    | nil => cases ys with
      | nil => rfl
      | cons y ys => simp at h
    | cons x xs ih => cases ys with
      | nil => simp at h
      | cons y ys =>
        simp only [List.map_cons, List.cons.injEq] at h
        have h1 := hx x List.mem_cons_self
        have h2 := hy y List.mem_cons_self
        have h3 := congrArg UInt8.toNat h.1
        simp only [UInt8.toNat_ofNat'] at h3
        rw [Nat.mod_eq_of_lt (by omega), Nat.mod_eq_of_lt (by omega)] at h3
        rw [ih (fun z hz => hx z (List.mem_cons_of_mem _ hz)) (fun z hz => hy z (List.mem_cons_of_mem _ hz)) h.2, show x = y by omega]
  · intro h; rw [h]
theorem u64_nat {p : Int} (h : U64 p) : ∃ n : Nat, p = n ∧ n < 18446744073709551616 := ⟨p.toNat, by omega, by omega⟩
/-- All but a number's last byte have more behind them. -/
theorem ld_dg : ∀ (n : Nat) (t : List Int), ld (dg n ++ t) + 1 = (dg n).length := by
  intro n
  induction n using Nat.strongRecOn with
  | _ n ih =>
    intro t
    by_cases h : n < 128
    · rw [dg_lo h]
      simp only [List.cons_append, List.nil_append, List.length_cons, List.length_nil]
      rw [ld, if_neg (by omega)]
    · rw [dg_hi h, List.cons_append, ld, if_pos (by omega), ih _ (by omega), List.length_cons]
theorem ld_cut : ∀ (n j : Nat), j < (dg n).length → ld ((dg n).take j) = j := by
  intro n
  induction n using Nat.strongRecOn with
  | _ n ih =>
    intro j hj
    cases j with
    | zero => rfl
    | succ j =>
      by_cases h : n < 128
      · rw [dg_lo h] at hj; simp at hj
      · rw [dg_hi h, List.length_cons] at hj
        rw [dg_hi h, List.take_succ_cons, ld, if_pos (by omega), ih _ (by omega) j (by omega)]
theorem dg_last : ∀ (n k : Nat), k + 1 = (dg n).length → (0 < k → (dg n).getD k 0 ≠ 0) ∧ (dg n).getD k 0 = ((n / 128 ^ k : Nat) : Int) := by
  intro n
  induction n using Nat.strongRecOn with
  | _ n ih =>
    intro k hk
    by_cases h : n < 128
    · rw [dg_lo h] at hk ⊢
      have : k = 0 := by simpa using hk
      subst this
      exact ⟨by omega, by simp⟩
    · rw [dg_hi h, List.length_cons] at hk
      rw [dg_hi h]
      cases k with
      | zero => have := dg_pos (n / 128); omega
      | succ k =>
        obtain ⟨h1, h2⟩ := ih (n / 128) (by omega) k (by omega)
        rw [List.getD_cons_succ]
        refine ⟨fun _ => ?_, ?_⟩
        · cases k with
          | zero =>
            rw [h2]
            simp only [Nat.pow_zero, Nat.div_one]
            omega
          | succ k => exact h1 (by omega)
        · rw [h2, Nat.div_div_eq_div_mul, Nat.pow_succ, Nat.mul_comm]
theorem getD_app {xs ys : List Int} {k : Nat} (h : k < xs.length) : (xs ++ ys).getD k 0 = xs.getD k 0 := by
  rw [List.getD_eq_getElem?_getD, List.getD_eq_getElem?_getD, List.getElem?_append_left h]
theorem tkM_dg {n : Nat} (hn : n < 18446744073709551616) (t : List Int) : tkM (dg n ++ t) = ((n : Int), ((dg n).length : Int), 0) := by
  have h1 := ld_dg n t
  have h2 := dg_ten hn
  obtain ⟨h3, h4⟩ := dg_last n (ld (dg n ++ t)) h1
  have h5 : (dg n ++ t).getD (ld (dg n ++ t)) 0 = (dg n).getD (ld (dg n ++ t)) 0 := getD_app (by omega)
  unfold tkM
  rw [if_pos ⟨by omega, by rw [List.length_append]; omega⟩, h5]
  have c : ¬ (((dg n).getD (ld (dg n ++ t)) 0 = 0 ∧ 0 < ld (dg n ++ t)) ∨ (ld (dg n ++ t) = 9 ∧ 1 < (dg n).getD (ld (dg n ++ t)) 0)) := by
    rintro (⟨c1, c2⟩ | ⟨c1, c2⟩)
    · exact h3 c2 c1
    · rw [h4, c1] at c2
      have : n / 128 ^ 9 < 2 := by omega
      omega
  rw [if_neg c, h1]
  have e : (dg n ++ t).take (dg n).length = dg n := by simp
  rw [e, vl_dg, show ((ld (dg n ++ t) : Nat) : Int) + 1 = ((dg n).length : Int) by omega]
theorem tkM_cut {n j : Nat} (hn : n < 18446744073709551616) (hj : j < (dg n).length) : tkM ((dg n).take j) = (0, 0, 3) := by
  have h2 := dg_ten hn
  have h3 : ((dg n).take j).length = j := by rw [List.length_take]; omega
  unfold tkM
  rw [ld_cut n j hj, h3, if_neg (by omega), if_neg (by omega)]
/-- Bytes that are a number are its only form. -/
theorem form_one : ∀ (l : List Int), (∀ x ∈ l, U8 x) → ld l + 1 = l.length → (0 < ld l → l.getD (ld l) 0 ≠ 0) → dg (vl l).toNat = l := by
  intro l
  induction l with
  | nil => intro _ h; simp [ld] at h
  | cons x xs ih =>
    intro hb hl h0
    have hx := hb x List.mem_cons_self
    have hv := vl_pos xs
    by_cases c : 128 ≤ x
    · have e : ld (x :: xs) = ld xs + 1 := by rw [ld, if_pos c]
      rw [e] at hl h0
      rw [List.length_cons] at hl
      rw [List.getD_cons_succ] at h0
      have h1 := ih (fun z hz => hb z (List.mem_cons_of_mem _ hz)) (by omega) (fun _ => h0 (by omega))
      have hv1 : 0 < vl xs := by
        rcases Int.lt_or_eq_of_le hv with h | h
        · exact h
        · exfalso
          rw [← h] at h1
          have h2 : xs = [0] := by rw [← h1]; rw [show (0 : Int).toNat = 0 from rfl, dg_lo (by decide)]; rfl
          rw [h2] at h0
          exact h0 (by omega) (by decide)
      have e2 : (vl (x :: xs)).toNat / 128 = (vl xs).toNat := by rw [vl]; omega
      have e3 : ((((vl (x :: xs)).toNat % 128 + 128 : Nat)) : Int) = x := by rw [vl]; omega
      rw [dg_hi (by rw [vl]; omega), e2, h1, e3]
    · have e : ld (x :: xs) = 0 := by rw [ld, if_neg c]
      rw [e, List.length_cons] at hl
      have : xs = [] := List.eq_nil_of_length_eq_zero (by omega)
      subst this
      rw [vl, vl, dg_lo (by omega)]
      congr 1
      omega
theorem ld_take {b : List Int} : ld b < b.length → ld (b.take (ld b + 1)) = ld b := by
  induction b with
  | nil => intro h; simp at h
  | cons x xs ih =>
    intro h
    by_cases hx : 128 ≤ x
    · have e : ld (x :: xs) = ld xs + 1 := by rw [ld, if_pos hx]
      rw [e, List.length_cons] at h
      rw [e, List.take_succ_cons, ld, if_pos hx, ih (by omega)]
    · have e : ld (x :: xs) = 0 := by rw [ld, if_neg hx]
      rw [e]
      simp only [Nat.zero_add, List.take_succ_cons, List.take_zero]
      rw [ld, if_neg hx]
theorem tkM_ok {b : List Int} (hb : ∀ x ∈ b, U8 x) (h : (tkM b).2.2 = 0) : 0 ≤ (tkM b).1 ∧ (tkM b).1 < 18446744073709551616 ∧ 0 ≤ (tkM b).2.1 ∧ (tkM b).2.1 ≤ b.length ∧ dg (tkM b).1.toNat = b.take (tkM b).2.1.toNat := by
  have he : ∀ q, tkM b = q → q.2.2 = 0 → 0 ≤ q.1 ∧ q.1 < 18446744073709551616 ∧ 0 ≤ q.2.1 ∧ q.2.1 ≤ b.length ∧ dg q.1.toNat = b.take q.2.1.toNat := by
    intro q hq hz
    unfold tkM at hq
    split at hq
    · rename_i c
      split at hq
      · subst hq; simp at hz
      · rename_i c1
        subst hq
        have hf := vl_form c c1 hb
        refine ⟨vl_pos _, hf, by simp only []; omega, by simp only []; omega, ?_⟩
        have e : (((ld b : Nat) : Int) + 1).toNat = ld b + 1 := by omega
        simp only [e]
        refine form_one _ (fun x hx => hb x (List.mem_of_mem_take hx)) ?_ ?_
        · rw [ld_take c.2, List.length_take]; omega
        · rw [ld_take c.2]
          intro h0 h1
          have e5 : (b.take (ld b + 1)).getD (ld b) 0 = b.getD (ld b) 0 := by rw [List.getD_eq_getElem?_getD, List.getD_eq_getElem?_getD, List.getElem?_take, if_pos (by omega)]
          exact c1 (.inl ⟨e5 ▸ h1, h0⟩)
    · split at hq <;> subst hq <;> simp at hz
  exact he _ rfl h
theorem vl_zero {xs : List Int} : vl xs < 18446744073709551616 → True := fun _ => trivial
end Go.Proofs.Ytbeknohemgjfbaa.Pu
