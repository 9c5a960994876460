/- Plain words that the printed functions use: whole numbers that wrap, elements, loops without a bound on rounds. No Go and no memory. -/
namespace Go.Proofs.Ytbeknohemgjfbaa.Pu
set_option linter.unusedVariables false

def wu64 (x : Int) : Int := x % 18446744073709551616
def wi64 (x : Int) : Int := if x % 18446744073709551616 ≥ 9223372036854775808 then x % 18446744073709551616 - 18446744073709551616 else x % 18446744073709551616
def wu32 (x : Int) : Int := x % 4294967296
def wu8 (x : Int) : Int := x % 256
theorem wu64_of {x : Int} (h0 : 0 ≤ x) (h1 : x < 18446744073709551616) : wu64 x = x := by unfold wu64; omega
theorem wi64_of {x : Int} (h0 : -9223372036854775808 ≤ x) (h1 : x < 9223372036854775808) : wi64 x = x := by unfold wi64; split <;> omega
theorem wu8_of {x : Int} (h0 : 0 ≤ x) (h1 : x < 256) : wu8 x = x := by unfold wu8; omega

/-- An element is read. -/
def rdo {α : Type} (xs : List α) (i : Int) : Option α := if 0 ≤ i then xs[i.toNat]? else none
theorem rdo_some {α : Type} {xs : List α} {i : Int} {x : α} (h : rdo xs i = some x) : 0 ≤ i ∧ i < xs.length ∧ xs[i.toNat]? = some x := by
  unfold rdo at h
  split at h
  · rename_i h0
    have := (List.getElem?_eq_some_iff.1 h).1
    exact ⟨h0, by omega, h⟩
  · cases h
theorem rdo_nat {α : Type} (xs : List α) (n : Nat) : rdo xs n = xs[n]? := by simp [rdo]
theorem rdo_of {α : Type} {xs : List α} {i : Int} {x : α} (h0 : 0 ≤ i) (h : xs[i.toNat]? = some x) : rdo xs i = some x := by unfold rdo; rw [if_pos h0, h]

/-- A test in a computation: none where it does not hold. -/
def must (c : Prop) [Decidable c] : Option Unit := if c then some () else none
theorem must_some {c : Prop} [Decidable c] {u : Unit} (h : must c = some u) : c := by unfold must at h; split at h; assumption; cases h
theorem must_of {c : Prop} [Decidable c] (h : c) : must c = some () := by unfold must; rw [if_pos h]

section loop
variable {S R : Type}
def itO (step : S → Option (S ⊕ R)) : Nat → S → Option R
  | 0, _ => none
  | n + 1, s => (step s).bind fun
    | .inl s' => itO step n s'
    | .inr r => some r
theorem itO_mono (step : S → Option (S ⊕ R)) : ∀ (n : Nat) (s : S) (r : R), itO step n s = some r → itO step (n + 1) s = some r := by
  intro n
  induction n with
  | zero => intro s r h; simp [itO] at h
  | succ n ih =>
    intro s r h
    rw [itO] at h ⊢
    cases hs : step s with
    | none => rw [hs] at h; simp at h
    | some x =>
      rw [hs] at h
      cases x with
      | inl s' => simp only [Option.bind_some] at h ⊢; exact ih s' r h
      | inr r' => simpa using h
theorem itO_le (step : S → Option (S ⊕ R)) {n m : Nat} (hnm : n ≤ m) (s : S) (r : R) (h : itO step n s = some r) : itO step m s = some r := by
  induction hnm with
  | refl => exact h
  | step _ ih => exact itO_mono _ _ _ _ ih
theorem itO_det (step : S → Option (S ⊕ R)) {n m : Nat} {s : S} {r r' : R} (h : itO step n s = some r) (k : itO step m s = some r') : r = r' := by
  have h1 := itO_le step (Nat.le_max_left n m) s r h
  have h2 := itO_le step (Nat.le_max_right n m) s r' k
  rw [h1] at h2
  exact Option.some.inj h2
/-- A loop: what it comes to, if it ends. -/
noncomputable def loopO (step : S → Option (S ⊕ R)) (s : S) : Option R :=
  open Classical in if h : ∃ n r, itO step n s = some r then some h.choose_spec.choose else none
theorem loopO_of {step : S → Option (S ⊕ R)} {n : Nat} {s : S} {r : R} (h : itO step n s = some r) : loopO step s = some r := by
  have hp : ∃ n r, itO step n s = some r := ⟨n, r, h⟩
  unfold loopO
  rw [dif_pos hp]
  exact congrArg some (itO_det step (hp.choose_spec.choose_spec) h)
theorem loopO_some {step : S → Option (S ⊕ R)} {s : S} {r : R} (h : loopO step s = some r) : ∃ n, itO step n s = some r := by
  unfold loopO at h
  split at h
  · rename_i hp
    simp only [Option.some.injEq] at h
    exact ⟨hp.choose, by rw [← h]; exact hp.choose_spec.choose_spec⟩
  · cases h
theorem loopO_eq (step : S → Option (S ⊕ R)) (s : S) : loopO step s = (step s).bind fun
    | .inl s' => loopO step s'
    | .inr r => some r := by
  cases hl : loopO step s with
  | some r =>
    obtain ⟨n, hn⟩ := loopO_some hl
    cases n with
    | zero => simp [itO] at hn
    | succ n =>
      rw [itO] at hn
      cases hs : step s with
      | none => rw [hs] at hn; simp at hn
      | some x =>
        rw [hs] at hn
        cases x with
        | inl s' => simp only [Option.bind_some] at hn ⊢; exact (loopO_of hn).symm
        | inr r' => simp only [Option.bind_some] at hn ⊢; exact hn.symm
  | none =>
    cases hs : step s with
    | none => rfl
    | some x =>
      cases x with
      | inl s' =>
        simp only [Option.bind_some]
        cases hl' : loopO step s' with
        | none => rfl
        | some r =>
          obtain ⟨n, hn⟩ := loopO_some hl'
          have : itO step (n + 1) s = some r := by rw [itO, hs]; exact hn
          rw [loopO_of this] at hl
          cases hl
      | inr r =>
        have : itO step 1 s = some r := by rw [itO, hs]; rfl
        rw [loopO_of this] at hl
        cases hl
theorem loopO_next {step : S → Option (S ⊕ R)} {s s' : S} (h : step s = some (.inl s')) : loopO step s = loopO step s' := by rw [loopO_eq, h]; rfl
theorem loopO_done {step : S → Option (S ⊕ R)} {s : S} {r : R} (h : step s = some (.inr r)) : loopO step s = some r := by rw [loopO_eq, h]; rfl
/-- What holds behind the last round holds at every round before it. -/
theorem loopO_ind {step : S → Option (S ⊕ R)} {r : R} (motive : S → Prop) (done : ∀ s, step s = some (.inr r) → motive s) (next : ∀ s s', step s = some (.inl s') → loopO step s' = some r → motive s' → motive s) {s : S} (h : loopO step s = some r) : motive s := by
  obtain ⟨n, hn⟩ := loopO_some h
  clear h
  induction n generalizing s with
  | zero => simp [itO] at hn
  | succ n ih =>
    rw [itO] at hn
    cases hs : step s with
    | none => rw [hs] at hn; simp at hn
    | some x =>
      rw [hs] at hn
      cases x with
      | inl s' => simp only [Option.bind_some] at hn; exact next s s' hs (loopO_of hn) (ih hn)
      | inr r' => simp only [Option.bind_some, Option.some.injEq] at hn; subst hn; exact done s hs
end loop
end Go.Proofs.Ytbeknohemgjfbaa.Pu
