/- Histograms as lists of buckets: what stays of a level, what goes on, what is dropped; and loops whose rounds are known. No Go and no memory. -/
import Derived.Test.YtbeknohemgjfbaaP1
namespace Go.Proofs.Ytbeknohemgjfbaa.Pu
set_option linter.unusedVariables false

section loops
variable {S R : Type} {step : S → Option (S ⊕ R)}
/-- A loop whose states are known, round by round. -/
theorem loopO_run (f : Nat → S) (n : Nat) {r : R} (h1 : ∀ k, k < n → step (f k) = some (.inl (f (k + 1)))) (h2 : step (f n) = some (.inr r)) : loopO step (f 0) = some r := by
  have aux : ∀ m k, k + m = n → loopO step (f k) = some r := by
    intro m
    induction m with
    | zero => intro k hk; obtain rfl : k = n := by omega
              exact loopO_done h2
    | succ m ih => intro k hk; rw [loopO_next (h1 k (by omega))]; exact ih (k + 1) (by omega)
  exact aux n 0 (by omega)
/-- The same, where the loop ends earlier, or later: from round k on. -/
theorem loopO_runFrom (f : Nat → S) (a n : Nat) {r : R} (ha : a ≤ n) (h1 : ∀ k, a ≤ k → k < n → step (f k) = some (.inl (f (k + 1)))) (h2 : step (f n) = some (.inr r)) : loopO step (f a) = some r := by
  have aux : ∀ m k, a ≤ k → k + m = n → loopO step (f k) = some r := by
    intro m
    induction m with
    | zero => intro k _ hk; obtain rfl : k = n := by omega
              exact loopO_done h2
    | succ m ih => intro k hk0 hk; rw [loopO_next (h1 k hk0 (by omega))]; exact ih (k + 1) (by omega) (by omega)
  exact aux (n - a) a (Nat.le_refl _) (by omega)
/-- A loop that keeps something and comes nearer to its end. -/
theorem loopO_to (Inv : Nat → S → Prop) (Post : R → Prop) (h : ∀ n s, Inv n s → (∃ s', step s = some (.inl s') ∧ ∃ m, m < n ∧ Inv m s') ∨ (∃ r, step s = some (.inr r) ∧ Post r)) : ∀ n s, Inv n s → ∃ r, loopO step s = some r ∧ Post r := by
  intro n
  induction n using Nat.strongRecOn with
  | _ n ih =>
    intro s hs
    rcases h n s hs with ⟨s', h1, m, hm, hi⟩ | ⟨r, h1, hp⟩
    · rw [loopO_next h1]; exact ih m hm s' hi
    · exact ⟨r, loopO_done h1, hp⟩
end loops

theorem rdo_get {α : Type} {xs : List α} {i : Nat} (h : i < xs.length) : rdo xs (i : Int) = some xs[i] := by rw [rdo_nat]; exact List.getElem?_eq_getElem h
theorem must_true {c : Prop} [Decidable c] (h : c) : must c = some () := must_of h

abbrev Sp := Int × Int
abbrev I64 (x : Int) : Prop := -9223372036854775808 ≤ x ∧ x < 9223372036854775808
abbrev U64 (x : Int) : Prop := 0 ≤ x ∧ x < 18446744073709551616
abbrev U8 (x : Int) : Prop := 0 ≤ x ∧ x < 256

/-- Neighbours as one bucket. -/
def prs : List Sp → List Sp
  | a :: b :: t => (a.1, b.2) :: prs t
  | _ => []
theorem prs_nil : prs [] = [] := rfl
theorem prs_one (a : Sp) : prs [a] = [] := rfl
theorem prs_two (a b : Sp) (t : List Sp) : prs (a :: b :: t) = (a.1, b.2) :: prs t := rfl
/-- Induction by twos. -/
theorem twos {α : Type} {P : List α → Prop} (h0 : P []) (h1 : ∀ a, P [a]) (h2 : ∀ a b t, P t → P (a :: b :: t)) : ∀ l, P l
  | [] => h0
  | [a] => h1 a
  | a :: b :: t => h2 a b t (twos h0 h1 h2 t)
theorem prs_len (A : List Sp) : (prs A).length = A.length / 2 := by
  induction A using twos with
  | h0 => rfl
  | h1 a => simp [prs_one]
  | h2 a b t ih => rw [prs_two, List.length_cons, ih]; simp only [List.length_cons]; omega
theorem prs_app {A : List Sp} (B : List Sp) (h : A.length % 2 = 0) : prs (A ++ B) = prs A ++ prs B := by
  induction A using twos with
  | h0 => rfl
  | h1 a => simp at h
  | h2 a b t ih => simp only [List.cons_append, prs_two]; rw [ih (by simp only [List.length_cons] at h; omega)]
theorem prs_getElem? (A : List Sp) (i : Nat) : (prs A)[i]? = if 2 * i + 1 < A.length then some ((A.getD (2 * i) (0, 0)).1, (A.getD (2 * i + 1) (0, 0)).2) else none := by
  induction A using twos generalizing i with
  | h0 => simp [prs_nil]
  | h1 a => simp [prs_one]
  | h2 a b t ih =>
    rw [prs_two]
    cases i with
    | zero => simp
    | succ i =>
      rw [List.getElem?_cons_succ, ih i]
      have e1 : 2 * (i + 1) = 2 * i + 1 + 1 := by omega
      simp only [List.length_cons, e1, List.getD_cons_succ]
      by_cases h : 2 * i + 1 < t.length
      · rw [if_pos h, if_pos (by omega)]
      · rw [if_neg h, if_neg (by omega)]
theorem prs_rep (n : Nat) (s : Sp) : prs (List.replicate n s) = List.replicate (n / 2) (s.1, s.2) := by
  induction n using Nat.strongRecOn with
  | _ n ih =>
    match n, ih with
    | 0, _ => rfl
    | 1, _ => rfl
    | n + 2, ih =>
      rw [show List.replicate (n + 2) s = s :: s :: List.replicate n s from rfl, prs_two, ih n (by omega)]
      have : (n + 2) / 2 = n / 2 + 1 := by omega
      rw [this, List.replicate_succ]

/-- How many pairs leave. -/
def npr (n most : Nat) : Nat := (n - most + 1) / 2
theorem npr_le {n most : Nat} (h : 1 ≤ most) : 2 * npr n most ≤ n := by unfold npr; omega
def stays (most : Nat) (A : List Sp) : List Sp := A.drop (2 * npr A.length most)
def goes (most : Nat) (A : List Sp) : List Sp := prs (A.take (2 * npr A.length most))
theorem stays_len {most : Nat} (h : 1 ≤ most) (A : List Sp) : (stays most A).length = A.length - 2 * npr A.length most := by simp [stays]
theorem goes_len {most : Nat} (h : 1 ≤ most) (A : List Sp) : (goes most A).length = npr A.length most := by
  have := npr_le (n := A.length) h
  simp only [goes, prs_len, List.length_take]; omega
theorem stays_goes {most : Nat} (h : 1 ≤ most) (A : List Sp) : (stays most A).length + 2 * (goes most A).length = A.length := by
  have := npr_le (n := A.length) h
  rw [stays_len h, goes_len h]; omega

/-- How many a level may have. -/
def mostN (k i : Nat) : Nat := if i = 0 then k + 1 else (k + 1) / 2 + 1
theorem mostN_pos (k i : Nat) : 1 ≤ mostN k i := by unfold mostN; split <;> omega
theorem mostN_two {k : Nat} (h : 1 ≤ k) (i : Nat) : 2 ≤ mostN k i := by unfold mostN; split <;> omega
theorem mostN_le (k i : Nat) : mostN k i ≤ k + 1 := by unfold mostN; split <;> omega

/-- Buckets come to level i, and what goes to the next one, and so on. -/
def flow (k i : Nat) (ls : List (List Sp)) (F : List Sp) : List (List Sp) :=
  if h : ls = [] ∧ F = [] then [] else
    stays (mostN k i) (ls.headD [] ++ F) :: flow k (i + 1) ls.tail (goes (mostN k i) (ls.headD [] ++ F))
termination_by (ls.length, F.length)
decreasing_by
  cases ls with
  | nil =>
    have hF : F ≠ [] := fun e => h ⟨rfl, e⟩
    have h1 := List.length_pos_iff.2 hF
    have h2 := goes_len (mostN_pos k i) F
    have h3 := npr_le (n := F.length) (mostN_pos k i)
    simp only [List.tail_nil, List.headD_nil, List.nil_append]
    apply Prod.Lex.right
    omega
  | cons l t => apply Prod.Lex.left; simp
theorem flow_nil (k i : Nat) : flow k i [] [] = [] := by rw [flow, dif_pos ⟨rfl, rfl⟩]
theorem flow_step (k i : Nat) (ls : List (List Sp)) (F : List Sp) (h : ¬ (ls = [] ∧ F = [])) : flow k i ls F = stays (mostN k i) (ls.headD [] ++ F) :: flow k (i + 1) ls.tail (goes (mostN k i) (ls.headD [] ++ F)) := by
  rw [flow, dif_neg h]
/-- Induction along the flow. -/
theorem flow_ind (k : Nat) {P : Nat → List (List Sp) → List Sp → Prop} (h0 : ∀ i, P i [] [])
    (h1 : ∀ i ls F, ¬ (ls = [] ∧ F = []) → P (i + 1) ls.tail (goes (mostN k i) (ls.headD [] ++ F)) → P i ls F) : ∀ i ls F, P i ls F := by
  intro i ls F
  induction i, ls, F using flow.induct (k := k) with
  | case1 i ls F h => obtain ⟨rfl, rfl⟩ := h; exact h0 i
  | case2 i ls F h ih => exact h1 i ls F h ih

/-- Units. -/
def wt : List (List Sp) → Nat
  | [] => 0
  | l :: ls => l.length + 2 * wt ls
theorem wt_flow (k : Nat) : ∀ i ls F, wt (flow k i ls F) = wt ls + F.length := by
  apply flow_ind k (P := fun i ls F => wt (flow k i ls F) = wt ls + F.length)
  · intro i; rw [flow_nil]; rfl
  · intro i ls F h ih
    rw [flow_step k i ls F h, wt, ih]
    have h2 := stays_goes (mostN_pos k i) (ls.headD [] ++ F)
    cases ls with
    | nil => simp only [List.tail_nil, List.headD_nil, List.nil_append, wt] at h2 ⊢; omega
    | cons l t => simp only [List.tail_cons, List.headD_cons, List.length_append, wt] at h2 ⊢; omega

/-- Each level below the last one has as many buckets as must be, or one more. -/
def shape (k : Nat) : Nat → List (List Sp) → Prop
  | _, [] => True
  | i, l :: ls => 1 ≤ l.length ∧ l.length ≤ mostN k i ∧ (ls ≠ [] → mostN k i ≤ l.length + 1) ∧ shape k (i + 1) ls
theorem shape_flow {k : Nat} (hk : 1 ≤ k) : ∀ i ls F, shape k i ls → shape k i (flow k i ls F) := by
  apply flow_ind k (P := fun i ls F => shape k i ls → shape k i (flow k i ls F))
  · intro i _; rw [flow_nil]; trivial
  · intro i ls F h ih hs
    rw [flow_step k i ls F h]
    have m2 := mostN_two hk i
    have e1 := stays_len (mostN_pos k i) (ls.headD [] ++ F)
    have e2 := goes_len (mostN_pos k i) (ls.headD [] ++ F)
    have e3 : 1 ≤ (ls.headD [] ++ F).length := by
      cases ls with
      | nil => cases F with
        | nil => exact absurd ⟨rfl, rfl⟩ h
        | cons => simp
      | cons l t => have := hs.1; simp only [List.headD_cons, List.length_append]; omega
    have hs' : shape k (i + 1) ls.tail := by
      cases ls with
      | nil => trivial
      | cons l t => exact hs.2.2.2
    refine ⟨?_, ?_, ?_, ih hs'⟩
    · rw [e1]; unfold npr; omega
    · rw [e1]; unfold npr; omega
    · intro hne
      by_cases hg : goes (mostN k i) (ls.headD [] ++ F) = []
      · have hl : ls.tail ≠ [] := by
          intro ht; rw [hg, ht] at hne; exact hne (flow_nil k (i + 1))
        cases ls with
        | nil => exact absurd rfl hl
        | cons l t =>
          have h3 := hs.2.2.1 hl
          rw [hg] at e2
          rw [e1]
          simp only [List.headD_cons, List.length_append, List.length_nil] at *
          omega
      · have h3 : 1 ≤ (goes (mostN k i) (ls.headD [] ++ F)).length := List.length_pos_iff.2 hg
        rw [e2] at h3
        rw [e1]
        unfold npr at *
        omega

/-- Buckets in turn, the oldest first. -/
def InTurn (l : List Sp) : Prop := l.Pairwise (fun a b => a.2 ≤ b.1) ∧ ∀ a ∈ l, a.1 ≤ a.2
theorem InTurn.app {l m : List Sp} : InTurn (l ++ m) ↔ InTurn l ∧ InTurn m ∧ ∀ a ∈ l, ∀ b ∈ m, a.2 ≤ b.1 := by
  unfold InTurn
  rw [List.pairwise_append]
  constructor
  · rintro ⟨⟨h1, h2, h3⟩, h4⟩
    exact ⟨⟨h1, fun a ha => h4 a (List.mem_append_left _ ha)⟩, ⟨h2, fun a ha => h4 a (List.mem_append_right _ ha)⟩, h3⟩
  · rintro ⟨⟨h1, h2⟩, ⟨h3, h4⟩, h5⟩
    exact ⟨⟨h1, h3, h5⟩, fun a ha => (List.mem_append.1 ha).elim (h2 a) (h4 a)⟩
theorem InTurn.cons {a : Sp} {l : List Sp} : InTurn (a :: l) ↔ a.1 ≤ a.2 ∧ InTurn l ∧ ∀ b ∈ l, a.2 ≤ b.1 := by
  have := @InTurn.app [a] l
  simp only [List.singleton_append, List.mem_singleton, forall_eq] at this
  rw [this]
  simp [InTurn]
theorem InTurn.nil : InTurn [] := ⟨List.Pairwise.nil, fun a h => by cases h⟩
theorem InTurn.prs_mid : ∀ (A X Y : List Sp), InTurn (X ++ (A ++ Y)) → InTurn (X ++ (prs A ++ Y)) := by
  intro A
  induction A using twos with
  | h0 => intro X Y h; exact h
  | h1 a =>
    intro X Y h
    rw [prs_one, List.nil_append]
    rw [InTurn.app] at h ⊢
    obtain ⟨h1, h2, h3⟩ := h
    rw [List.singleton_append, InTurn.cons] at h2
    exact ⟨h1, h2.2.1, fun x hx b hb => h3 x hx b (List.mem_append_right _ hb)⟩
  | h2 a b t ih =>
    intro X Y h
    have h' : InTurn ((X ++ [(a.1, b.2)]) ++ (t ++ Y)) := by
      rw [InTurn.app] at h
      obtain ⟨h1, h2, h3⟩ := h
      rw [List.cons_append, List.cons_append, InTurn.cons, InTurn.cons] at h2
      obtain ⟨ha, ⟨hb, ht, hbt⟩, hab⟩ := h2
      have hab' := hab b (by simp)
      rw [List.append_assoc, List.singleton_append, InTurn.app, InTurn.cons]
      refine ⟨h1, ⟨by simp only; omega, ht, fun y hy => hbt y hy⟩, ?_⟩
      intro x hx y hy
      rcases List.mem_cons.1 hy with rfl | hy
      · exact h3 x hx a (by simp)
      · exact h3 x hx y (by simp only [List.cons_append, List.mem_cons]; exact .inr (.inr hy))
    have := ih _ _ h'
    rw [prs_two]
    simpa only [List.append_assoc, List.singleton_append, List.cons_append, List.nil_append] using this

/-- All buckets, the oldest first. -/
def line : List (List Sp) → List Sp
  | [] => []
  | l :: ls => line ls ++ l
theorem mem_line {ls : List (List Sp)} {a : Sp} : a ∈ line ls ↔ ∃ l ∈ ls, a ∈ l := by
  induction ls with
  | nil => simp [line]
  | cons l ls ih => simp only [line, List.mem_append, ih, List.mem_cons, exists_eq_or_imp]; exact Or.comm
theorem turn_flow (k : Nat) : ∀ i ls F, ∀ X, InTurn (line ls ++ (F ++ X)) → InTurn (line (flow k i ls F) ++ X) := by
  apply flow_ind k (P := fun i ls F => ∀ X, InTurn (line ls ++ (F ++ X)) → InTurn (line (flow k i ls F) ++ X))
  · intro i X h; rw [flow_nil]; exact h
  · intro i ls F h ih X ht
    rw [flow_step k i ls F h, line, List.append_assoc]
    apply ih
    have e : line ls = line ls.tail ++ ls.headD [] := by cases ls <;> simp [line]
    rw [e, List.append_assoc, ← List.append_assoc (ls.headD [])] at ht
    generalize ls.headD [] ++ F = A at ht ⊢
    apply InTurn.prs_mid
    rw [stays, ← List.append_assoc (A.take _), List.take_append_drop]
    exact ht

/-- What holds of all buckets, and of two as one. -/
theorem prs_all {P : Sp → Prop} (hP : ∀ a b, P a → P b → P (a.1, b.2)) : ∀ (A : List Sp), (∀ a ∈ A, P a) → ∀ a ∈ prs A, P a := by
  intro A
  induction A using twos with
  | h0 => intro _ a h; cases h
  | h1 a => intro _ b h; cases h
  | h2 a b t ih =>
    intro h x hx
    rw [prs_two] at hx
    rcases List.mem_cons.1 hx with rfl | hx
    · exact hP _ _ (h a (by simp)) (h b (by simp))
    · exact ih (fun y hy => h y (by simp [hy])) x hx
theorem all_flow {P : Sp → Prop} (hP : ∀ a b, P a → P b → P (a.1, b.2)) (k : Nat) : ∀ i ls F, (∀ l ∈ ls, ∀ a ∈ l, P a) → (∀ a ∈ F, P a) → ∀ l ∈ flow k i ls F, ∀ a ∈ l, P a := by
  apply flow_ind k (P := fun i ls F => (∀ l ∈ ls, ∀ a ∈ l, P a) → (∀ a ∈ F, P a) → ∀ l ∈ flow k i ls F, ∀ a ∈ l, P a)
  · intro i _ _ l hl; rw [flow_nil] at hl; cases hl
  · intro i ls F h ih h1 h2 l hl
    rw [flow_step k i ls F h] at hl
    have hA : ∀ a ∈ ls.headD [] ++ F, P a := by
      intro a ha
      rcases List.mem_append.1 ha with ha | ha
      · cases ls with
        | nil => cases ha
        | cons l t => exact h1 l (by simp) a ha
      · exact h2 a ha
    rcases List.mem_cons.1 hl with rfl | hl
    · exact fun a ha => hA a (List.mem_of_mem_drop ha)
    · refine ih (fun m hm => ?_) (prs_all hP _ fun a ha => hA a (List.mem_of_mem_take ha)) l hl
      cases ls with
      | nil => cases hm
      | cons l t => exact h1 m (by simp only [List.tail_cons] at hm; exact List.mem_cons_of_mem _ hm)
end Go.Proofs.Ytbeknohemgjfbaa.Pu
