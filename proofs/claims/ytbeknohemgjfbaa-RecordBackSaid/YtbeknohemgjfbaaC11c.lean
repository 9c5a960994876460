/- Histograms as bytes: the reference reads the same; what was written is read; bytes that are read are the only form. -/
import Derived.Test.YtbeknohemgjfbaaC11b
namespace Go.Proofs.Ytbeknohemgjfbaa.Pu
set_option linter.unusedVariables false

/-! ## The reference's reading -/
def badS (s : Sp) : Prop := 9223372036854775807 < s.2 ∨ s.2 < s.1
def stR (r : Rd8) (x : Int) : Sp × Int × Rd8 :=
  let f := wu64 (x + (numM r MT).1)
  let t := wu64 (f + (numM (numM r MT).2 MT).1)
  ((f, t), if t < f then 9223372036854775808 else if f < (numM r MT).1 then 9223372036854775808 else if 9223372036854775807 < t then 9223372036854775808 else t, (numM (numM r MT).2 MT).2)
def spnR : Nat → Rd8 → Int → List Sp × Int × Rd8
  | 0, r, x => ([], x, r)
  | n + 1, r, x => if r.2 ≠ 0 then ([], x, r) else
    ((stR r x).1 :: (spnR n (stR r x).2.2 (stR r x).2.1).1, (spnR n (stR r x).2.2 (stR r x).2.1).2)
theorem st_rel {r : Rd8} {x : Int} (hr : RdOk r) (h0 : 0 ≤ x) (hx : x ≤ 9223372036854775808) :
    (stR r x).2.2 = (nxM (nxM r x).2 (nxM r x).1).2 ∧ (stR r x).2.1 = (nxM (nxM r x).2 (nxM r x).1).1 ∧ ((stR r x).1 = ((nxM r x).1, (nxM (nxM r x).2 (nxM r x).1).1) ∨ (badS (stR r x).1 ∧ badS ((nxM r x).1, (nxM (nxM r x).2 (nxM r x).1).1))) := by
  have h1 : 0 ≤ (numM r 9223372036854775807).1 ∧ (numM r 9223372036854775807).1 ≤ 9223372036854775807 := numM_le hr (by decide)
  have h2 : 0 ≤ (numM (numM r 9223372036854775807).2 9223372036854775807).1 ∧ (numM (numM r 9223372036854775807).2 9223372036854775807).1 ≤ 9223372036854775807 := numM_le (numM_rd hr) (by decide)
  refine ⟨rfl, ?_⟩
  unfold stR nxM badS MT
  simp only
  generalize (numM (numM r 9223372036854775807).2 9223372036854775807).1 = v at *
  generalize (numM r 9223372036854775807).1 = u at *
  rw [wu64_of (x := x + u) (by omega) (by omega)]
  by_cases c1 : x + u < 9223372036854775808
  · rw [wu64_of (x := x + u + v) (by omega) (by omega), if_neg (by omega), if_neg (by omega)]
    have e1 : min (x + u) 9223372036854775808 = x + u := by omega
    rw [e1]
    by_cases c2 : 9223372036854775807 < x + u + v
    · rw [if_pos c2]
      exact ⟨by omega, .inr ⟨.inl c2, .inl (by omega)⟩⟩
    · rw [if_neg c2]
      exact ⟨by omega, .inl (by rw [show min (x + u + v) 9223372036854775808 = x + u + v by omega])⟩
  · have e1 : min (x + u) 9223372036854775808 = 9223372036854775808 := by omega
    rw [e1]
    by_cases c2 : wu64 (x + u + v) < x + u
    · rw [if_pos c2]
      exact ⟨by omega, .inr ⟨.inr c2, .inl (by omega)⟩⟩
    · rw [if_neg c2, if_neg (by omega), if_pos (by omega)]
      exact ⟨by omega, .inr ⟨.inl (by omega), .inl (by omega)⟩⟩
def relL : List Sp → List Sp → Prop
  | [], [] => True
  | p :: ps, q :: qs => (p = q ∨ (badS p ∧ badS q)) ∧ relL ps qs
  | _, _ => False
theorem spnR_err {n : Nat} {r : Rd8} {x : Int} (h : r.2 ≠ 0) : (spnR n r x).2.2 = r := by
  cases n with
  | zero => rfl
  | succ n => rw [spnR, if_pos h]
theorem nxM_err {r : Rd8} {x : Int} (h : r.2 ≠ 0) : (nxM r x).2 = r := by unfold nxM; rw [numM_err h]
theorem spn_rel : ∀ (n : Nat) {r : Rd8} {x : Int}, RdOk r → 0 ≤ x → x ≤ 9223372036854775808 →
    (spnR n r x).2.2 = (spnM n r x).2.2 ∧ ((spnM n r x).2.2.2 = 0 → (spnR n r x).2.1 = (spnM n r x).2.1 ∧ relL (spnR n r x).1 (spnM n r x).1) := by
  intro n
  induction n with
  | zero => intro r x _ _ _; exact ⟨rfl, fun _ => ⟨rfl, trivial⟩⟩
  | succ n ih =>
    intro r x hr h0 hx
    by_cases c0 : r.2 ≠ 0
    · have e1 : (nxM (nxM r x).2 (nxM r x).1).2 = r := by rw [nxM_err (by rw [nxM_err c0]; exact c0), nxM_err c0]
      rw [spnR, if_pos c0, spnM]
      simp only
      rw [if_pos (by rw [e1]; exact c0)]
      simp only
      rw [e1]
      exact ⟨rfl, fun q => absurd q c0⟩
    · obtain ⟨s1, s2, s3⟩ := st_rel hr h0 hx
      obtain ⟨a1, a2, a3, _⟩ := nxM_ok hr h0 hx
      obtain ⟨b1, b2, b3, _⟩ := nxM_ok a1 a2 a3
      rw [spnR, if_neg c0, spnM]
      simp only
      rw [s1, s2]
      by_cases c1 : (nxM (nxM r x).2 (nxM r x).1).2.2 ≠ 0
      · rw [if_pos c1, spnR_err c1]
        exact ⟨rfl, fun q => absurd q c1⟩
      · rw [if_neg c1]
        obtain ⟨i1, i2⟩ := ih b1 b2 b3
        refine ⟨i1, fun q => ?_⟩
        obtain ⟨j1, j2⟩ := i2 q
        exact ⟨j1, s3, j2⟩
def lvlR (r : Rd8) (x : Int) : List Sp × Int × Rd8 := spnR (numM r 1025).1.toNat (numM r 1025).2 x
def lvR : Nat → Rd8 → Int → List (List Sp) × Rd8
  | 0, r, _ => ([], r)
  | n + 1, r, x => if r.2 ≠ 0 then ([], r) else ((lvlR r x).1 :: (lvR n (lvlR r x).2.2 (lvlR r x).2.1).1, (lvR n (lvlR r x).2.2 (lvlR r x).2.1).2)
def relLL : List (List Sp) → List (List Sp) → Prop
  | [], [] => True
  | p :: ps, q :: qs => relL p q ∧ relLL ps qs
  | _, _ => False
theorem lvl1_err {r : Rd8} {x : Int} (h : r.2 ≠ 0) : lvl1 r x = ([], x, r) := by unfold lvl1; rw [numM_err h]; rfl
theorem lvM_err : ∀ {n : Nat} {r : Rd8} {x : Int}, r.2 ≠ 0 → (lvM n r x).2 = r := by
  intro n
  induction n with
  | zero => intro r x _; rfl
  | succ n ih => intro r x h; rw [lvM, lvl1_err h]; exact ih h
theorem lvR_err {n : Nat} {r : Rd8} {x : Int} (h : r.2 ≠ 0) : (lvR n r x).2 = r := by
  cases n with
  | zero => rfl
  | succ n => rw [lvR, if_pos h]
theorem lv_rel : ∀ (n : Nat) {r : Rd8} {x : Int}, RdOk r → 0 ≤ x → x ≤ 9223372036854775808 →
    (lvR n r x).2 = (lvM n r x).2 ∧ ((lvM n r x).2.2 = 0 → relLL (lvR n r x).1 (lvM n r x).1) := by
  intro n
  induction n with
  | zero => intro r x _ _ _; exact ⟨rfl, fun _ => trivial⟩
  | succ n ih =>
    intro r x hr h0 hx
    by_cases c0 : r.2 ≠ 0
    · rw [lvR, if_pos c0, lvM_err c0]
      exact ⟨rfl, fun q => absurd q c0⟩
    · obtain ⟨s1, s2⟩ := spn_rel (numM r 1025).1.toNat (numM_rd (m := 1025) hr) h0 hx
      obtain ⟨a1, a2, a3, a4⟩ := lvl1_ok hr h0 hx
      rw [lvR, if_neg c0, lvM]
      simp only
      have e1 : (lvlR r x).2.2 = (lvl1 r x).2.2 := s1
      rw [e1]
      by_cases c1 : (lvl1 r x).2.2.2 = 0
      · obtain ⟨t1, t2⟩ := s2 c1
        have e2 : (lvlR r x).2.1 = (lvl1 r x).2.1 := t1
        rw [e2]
        obtain ⟨i1, i2⟩ := ih a1 a2 a3
        exact ⟨i1, fun q => ⟨t2, i2 q⟩⟩
      · rw [lvR_err c1, lvM_err c1]
        exact ⟨rfl, fun q => absurd q c1⟩
theorem relL_len {a : List Sp} : ∀ {b : List Sp}, relL a b → a.length = b.length := by
  induction a with
  | nil => intro b h; cases b with
    | nil => rfl
    | cons q qs => exact h.elim
  | cons p ps ih => intro b h; cases b with
    | nil => exact h.elim
    | cons q qs => simp only [List.length_cons, ih h.2]
theorem relL_cases {a : List Sp} : ∀ {b : List Sp}, relL a b → a = b ∨ ((∃ s ∈ a, badS s) ∧ ∃ s ∈ b, badS s) := by
  induction a with
  | nil => intro b h; cases b with
    | nil => exact .inl rfl
    | cons q qs => exact h.elim
  | cons p ps ih => intro b h; cases b with
    | nil => exact h.elim
    | cons q qs =>
      rcases h.1 with h1 | ⟨h1, h2⟩
      · rcases ih h.2 with h3 | ⟨⟨s, hs, hb⟩, ⟨s', hs', hb'⟩⟩
        · exact .inl (by rw [h1, h3])
        · exact .inr ⟨⟨s, List.mem_cons_of_mem _ hs, hb⟩, ⟨s', List.mem_cons_of_mem _ hs', hb'⟩⟩
      · exact .inr ⟨⟨p, List.mem_cons_self, h1⟩, ⟨q, List.mem_cons_self, h2⟩⟩
theorem relLL_cases {a : List (List Sp)} : ∀ {b : List (List Sp)}, relLL a b → (a.length = b.length ∧ ∀ B, (∀ l ∈ b, l.length ≤ B) → ∀ l ∈ a, l.length ≤ B) ∧ (a = b ∨ ((∃ l ∈ a, ∃ s ∈ l, badS s) ∧ ∃ l ∈ b, ∃ s ∈ l, badS s)) := by
  induction a with
  | nil => intro b h; cases b with
    | nil => exact ⟨⟨rfl, fun _ _ l hl => by cases hl⟩, .inl rfl⟩
    | cons q qs => exact h.elim
  | cons p ps ih => intro b h; cases b with
    | nil => exact h.elim
    | cons q qs =>
      obtain ⟨⟨i1, i2⟩, i3⟩ := ih h.2
      refine ⟨⟨by simp only [List.length_cons, i1], fun B hB l hl => ?_⟩, ?_⟩
      · rcases List.mem_cons.1 hl with e | e
        · rw [e, relL_len h.1]; exact hB q List.mem_cons_self
        · exact i2 B (fun l hl => hB l (List.mem_cons_of_mem _ hl)) l e
      · rcases relL_cases h.1 with h1 | ⟨⟨s, hs, hb⟩, ⟨s', hs', hb'⟩⟩
        · rcases i3 with h3 | ⟨⟨l, hl, s, hs, hb⟩, ⟨l', hl', s', hs', hb'⟩⟩
          · exact .inl (by rw [h1, h3])
          · exact .inr ⟨⟨l, List.mem_cons_of_mem _ hl, s, hs, hb⟩, ⟨l', List.mem_cons_of_mem _ hl', s', hs', hb'⟩⟩
        · exact .inr ⟨⟨p, List.mem_cons_self, s, hs, hb⟩, ⟨q, List.mem_cons_self, s', hs', hb'⟩⟩
theorem okS_mem {l : List Sp} : ∀ {x : Int}, okS x l → ∀ s ∈ l, ¬ badS s := by
  induction l with
  | nil => intro x _ s hs; cases hs
  | cons p l ih =>
    intro x ⟨h1, h2, h3, h4⟩ s hs
    rcases List.mem_cons.1 hs with e | e
    · rw [e]; unfold badS; omega
    · exact ih h4 s e
theorem okLs_mem {ls : List (List Sp)} : ∀ {x : Int}, okLs x ls → ∀ l ∈ ls, ∀ s ∈ l, ¬ badS s := by
  induction ls with
  | nil => intro x _ l hl; cases hl
  | cons p ls ih =>
    intro x ⟨h1, h2, h3⟩ l hl s hs
    rcases List.mem_cons.1 hl with e | e
    · rw [e] at hs; exact okS_mem h2 s hs
    · exact ih h3 l e s hs
theorem hist_nobad {K g : Int} {ls : List (List Sp)} (h : histC K g ls = 0) : ∀ l ∈ ls, ∀ s ∈ l, ¬ badS s := by
  obtain ⟨hk, hs, ht, hw⟩ := histC_zero h
  have hlen := shB_lens hs (by omega)
  have hok := turn_okLs ht (fun l h => (hlen l h).2)
  exact fun l hl => okLs_mem hok l (List.mem_reverse.2 hl)
theorem rspans_loop {r8 : List Int × Int × Int} (h8 : r8.2.2 ≤ 1025) : ∀ (n : Nat) (i : Nat) (acc : List Sp) (r : Rd8) (x : Int), (i : Int) + n = r8.2.2 → RdOk r → 0 ≤ x → x ≤ 9223372036854775808 → acc.length = i →
    loopO (ref11_spans_s0 r8) (x, acc, (i : Int), r.1, r.2) = some ((spnR n r x).2.1, acc ++ (spnR n r x).1, (spnR n r x).2.2.1, (spnR n r x).2.2.2) := by
  intro n
  induction n with
  | zero =>
    intro i acc r x hi hr h0 hx _
    refine loopO_done ?_
    unfold ref11_spans_s0
    simp only
    rw [if_neg (by omega), spnR]
    simp
  | succ n ih =>
    intro i acc r x hi hr h0 hx hacc
    by_cases c0 : r.2 ≠ 0
    · refine loopO_done ?_
      unfold ref11_spans_s0
      simp only
      rw [if_pos (by omega), if_neg c0, spnR, if_pos c0]
      simp
    · obtain ⟨s1, s2, s3⟩ := st_rel hr h0 hx
      obtain ⟨a1, a2, a3, _⟩ := nxM_ok hr h0 hx
      obtain ⟨b1, b2, b3, _⟩ := nxM_ok a1 a2 a3
      have g1 : RdOk (numM r 9223372036854775807).2 := numM_rd hr
      have hstep : ref11_spans_s0 r8 (x, acc, (i : Int), r.1, r.2) = some (.inl ((stR r x).2.1, acc ++ [(stR r x).1], ((i + 1 : Nat) : Int), (stR r x).2.2.1, (stR r x).2.2.2)) := by
        unfold ref11_spans_s0 stR MT
        simp only
        rw [if_pos (by omega), if_pos (by omega), show ((r.1, r.2) : Rd8) = r from rfl, rrnum hr, Option.bind_some]
        simp only
        rw [show (((numM r 9223372036854775807).2.1, (numM r 9223372036854775807).2.2) : Rd8) = (numM r 9223372036854775807).2 from rfl, rrnum g1, Option.bind_some]
        simp only
        rw [room_of (by simp; omega) (by simp; omega), Option.bind_some, wu64_of (x := (i : Int) + 1) (by omega) (by omega)]
        split
        · rfl
        · split
          · rfl
          · split <;> rfl
      rw [loopO_next hstep, spnR, if_neg c0]
      rw [ih (i + 1) _ (stR r x).2.2 _ (by omega) (by rw [s1]; exact b1) (by rw [s2]; exact b2) (by rw [s2]; exact b3) (by simp; omega)]
      simp
theorem rspans_eq {r : Rd8} (hr : RdOk r) {x : Int} (h0 : 0 ≤ x) (hx : x ≤ 9223372036854775808) : ref11_spans r x = some ((lvlR r x).2.2.1, (lvlR r x).2.2.2, (lvlR r x).1, (lvlR r x).2.1) := by
  have hn := numM_le hr (m := 1025) (by decide)
  unfold ref11_spans
  rw [rrnum hr, Option.bind_some]
  have hl := rspans_loop (r8 := ((numM r 1025).2.1, (numM r 1025).2.2, (numM r 1025).1)) hn.2 (numM r 1025).1.toNat 0 [] (numM r 1025).2 x (by simp only; omega) (numM_rd hr) h0 hx rfl
  rw [show ((x, ([] : List Sp), (0 : Int), (numM r 1025).2.1, (numM r 1025).2.2) : Int × List Sp × Int × List Int × Int) = (x, [], ((0 : Nat) : Int), (numM r 1025).2.1, (numM r 1025).2.2) from rfl, hl, Option.bind_some]
  rfl
theorem lvR_len : ∀ (n : Nat) {r : Rd8} {x : Int}, (lvR n r x).1.length ≤ n := by
  intro n
  induction n with
  | zero => intro r x; exact Nat.le_refl 0
  | succ n ih =>
    intro r x
    rw [lvR]
    split
    · simp
    · simp only [List.length_cons]; have := ih (r := (lvlR r x).2.2) (x := (lvlR r x).2.1); omega
theorem spnR_ok : ∀ (n : Nat) {r : Rd8} {x : Int}, RdOk r → 0 ≤ x → x ≤ 9223372036854775808 → 0 ≤ (spnR n r x).2.1 ∧ (spnR n r x).2.1 ≤ 9223372036854775808 ∧ (spnR n r x).1.length ≤ n := by
  intro n
  induction n with
  | zero => intro r x hr h0 hx; exact ⟨h0, hx, Nat.le_refl 0⟩
  | succ n ih =>
    intro r x hr h0 hx
    obtain ⟨s1, s2, s3⟩ := st_rel hr h0 hx
    obtain ⟨a1, a2, a3, _⟩ := nxM_ok hr h0 hx
    obtain ⟨b1, b2, b3, _⟩ := nxM_ok a1 a2 a3
    rw [spnR]
    split
    · exact ⟨h0, hx, by simp⟩
    · rw [s1, s2]
      obtain ⟨c1, c2, c3⟩ := ih b1 b2 b3
      exact ⟨c1, c2, by simp only [List.length_cons]; omega⟩
theorem lvlR_ok {r : Rd8} {x : Int} (hr : RdOk r) (h0 : 0 ≤ x) (hx : x ≤ 9223372036854775808) : RdOk (lvlR r x).2.2 ∧ 0 ≤ (lvlR r x).2.1 ∧ (lvlR r x).2.1 ≤ 9223372036854775808 ∧ (lvlR r x).1.length ≤ 1025 := by
  have hn := numM_le hr (m := 1025) (by decide)
  have h1 := spnR_ok (numM r 1025).1.toNat (numM_rd (m := 1025) hr) h0 hx
  have h2 := (spn_rel (numM r 1025).1.toNat (numM_rd (m := 1025) hr) h0 hx).1
  have h3 := (spnM_ok (numM r 1025).1.toNat (numM_rd (m := 1025) hr) h0 hx).1
  refine ⟨?_, h1.1, h1.2.1, ?_⟩
  · show RdOk (spnR _ _ _).2.2
    rw [h2]; exact h3
  · have : (lvlR r x).1.length ≤ (numM r 1025).1.toNat := h1.2.2
    omega
theorem rtake_loop {r13 : List Int × Int × Int} (h13 : r13.2.2 ≤ 52) : ∀ (n : Nat) (i : Nat) (acc : List (List Sp)) (r : Rd8) (x : Int), (i : Int) + n = r13.2.2 → RdOk r → 0 ≤ x → x ≤ 9223372036854775808 → acc.length = i →
    loopO (ref11_Take_s0 r13) (x, acc, (i : Int), r.1, r.2) = some (acc ++ (lvR n r x).1, (lvR n r x).2.1, (lvR n r x).2.2) := by
  intro n
  induction n with
  | zero =>
    intro i acc r x hi hr h0 hx _
    refine loopO_done ?_
    unfold ref11_Take_s0
    simp only
    rw [if_neg (by omega), lvR]
    simp
  | succ n ih =>
    intro i acc r x hi hr h0 hx hacc
    by_cases c0 : r.2 ≠ 0
    · refine loopO_done ?_
      unfold ref11_Take_s0
      simp only
      rw [if_pos (by omega), if_neg c0, lvR, if_pos c0]
      simp
    · obtain ⟨a1, a2, a3, a4⟩ := lvlR_ok hr h0 hx
      have hstep : ref11_Take_s0 r13 (x, acc, (i : Int), r.1, r.2) = some (.inl ((lvlR r x).2.1, acc ++ [(lvlR r x).1], ((i + 1 : Nat) : Int), (lvlR r x).2.2.1, (lvlR r x).2.2.2)) := by
        unfold ref11_Take_s0
        simp only
        rw [if_pos (by omega), if_pos (by omega), show ((r.1, r.2) : Rd8) = r from rfl, rspans_eq hr h0 hx, Option.bind_some]
        simp only
        rw [room_of (by simp; omega) (by simp; omega), Option.bind_some, wu64_of (by omega) (by omega)]
        rfl
      rw [loopO_next hstep, ih (i + 1) _ _ _ (by omega) a1 a2 a3 (by simp; omega), lvR, if_neg c0]
      simp
theorem turned_eq (p : List (List Sp)) (hp : p.length ≤ 1000000) : ref11_turned p = some p.reverse := by
  have key : ∀ (n m : Nat) (acc : List (List Sp)), n + m = p.length → acc.length = m → loopO (ref11_turned_s0 p) (acc, (p.length : Int) - 1 - m) = some (acc ++ p.reverse.drop m) := by
    intro n
    induction n with
    | zero =>
      intro m acc hm _
      rw [List.drop_of_length_le (by rw [List.length_reverse]; omega), List.append_nil]
      refine loopO_done ?_
      unfold ref11_turned_s0
      simp only
      rw [if_neg (by omega)]
    | succ n ih =>
      intro m acc hm hacc
      obtain ⟨hlt, hd⟩ := rev_get (ls := p) (m := m) (by omega)
      have e1 : (p.length : Int) - 1 - (m : Int) = ((p.length - 1 - m : Nat) : Int) := by omega
      have hstep : ref11_turned_s0 p (acc, (p.length : Int) - 1 - m) = some (.inl (acc ++ [p[p.length - 1 - m]], (p.length : Int) - 1 - ((m + 1 : Nat) : Int))) := by
        unfold ref11_turned_s0
        simp only
        rw [if_pos (by omega), e1, rdo_get hlt, Option.bind_some, room_of (by simp; omega) (by simp; omega), Option.bind_some, wi64_of (by omega) (by omega)]
        rw [show ((p.length - 1 - m : Nat) : Int) - 1 = (p.length : Int) - 1 - ((m + 1 : Nat) : Int) by omega]
      rw [loopO_next hstep, ih (m + 1) _ (by omega) (by simp; omega), hd]
      simp
  have h0 := key p.length 0 [] (by omega) rfl
  unfold ref11_turned
  rw [show (p.length : Int) - 1 - ((0 : Nat) : Int) = (p.length : Int) - 1 by omega] at h0
  rw [wi64_of (by omega) (by omega), h0]
  simp
theorem rtake11_eq {r : Rd8} (hr : RdOk r) : ref11_Take r = some ((takeM r).2.2.2.1, (takeM r).2.2.2.2, (takeM r).1, (takeM r).2.1, (takeM r).2.2.1) := by
  have h1 := numM_rd (m := 1024) hr
  have h2 := numM_rd (m := 4) h1
  have h3 := numM_rd (m := 52) h2
  have n1 := numM_le hr (m := 1024) (by decide)
  have n2 := numM_le h1 (m := 4) (by decide)
  have n3 := numM_le h2 (m := 52) (by decide)
  obtain ⟨k1, k2, k3, k4, k5⟩ := rawM_ok hr
  unfold ref11_Take
  rw [rrnum hr, Option.bind_some]
  simp only
  rw [show (((numM r 1024).2.1, (numM r 1024).2.2) : Rd8) = (numM r 1024).2 from rfl, rrnum h1, Option.bind_some]
  simp only
  rw [show (((numM (numM r 1024).2 4).2.1, (numM (numM r 1024).2 4).2.2) : Rd8) = (numM (numM r 1024).2 4).2 from rfl, rrnum h2, Option.bind_some]
  simp only
  have hl := rtake_loop (r13 := ((numM (numM (numM r 1024).2 4).2 52).2.1, (numM (numM (numM r 1024).2 4).2 52).2.2, (numM (numM (numM r 1024).2 4).2 52).1)) n3.2 (numM (numM (numM r 1024).2 4).2 52).1.toNat 0 [] (numM (numM (numM r 1024).2 4).2 52).2 0 (by simp only; omega) h3 (Int.le_refl 0) (by decide) rfl
  rw [List.nil_append] at hl
  rw [show ((0 : Int), ([] : List (List Sp)), (0 : Int), (numM (numM (numM r 1024).2 4).2 52).2.1, (numM (numM (numM r 1024).2 4).2 52).2.2) = ((0 : Int), ([] : List (List Sp)), ((0 : Nat) : Int), (numM (numM (numM r 1024).2 4).2 52).2.1, (numM (numM (numM r 1024).2 4).2 52).2.2) from rfl, hl, Option.bind_some]
  simp only
  obtain ⟨e1, e2⟩ := lv_rel (numM (numM (numM r 1024).2 4).2 52).1.toNat h3 (x := 0) (Int.le_refl 0) (by decide)
  have l1 := lvR_len (numM (numM (numM r 1024).2 4).2 52).1.toNat (r := (numM (numM (numM r 1024).2 4).2 52).2) (x := 0)
  obtain ⟨b1, b2, b3⟩ := lvM_ok (numM (numM (numM r 1024).2 4).2 52).1.toNat h3 (x := 0) (Int.le_refl 0) (by decide)
  rw [turned_eq _ (by omega), Option.bind_some, e1]
  rw [wi64_of (x := (numM r 1024).1) (by omega) (by omega), wi64_of (x := (numM (numM r 1024).2 4).1) (by omega) (by omega)]
  show _ = some _
  unfold takeM
  have er : rawM r = ((numM r 1024).1, (numM (numM r 1024).2 4).1, (lvM (numM (numM (numM r 1024).2 4).2 52).1.toNat (numM (numM (numM r 1024).2 4).2 52).2 0).1.reverse, (lvM (numM (numM (numM r 1024).2 4).2 52).1.toNat (numM (numM (numM r 1024).2 4).2 52).2 0).2) := rfl
  rw [er]
  simp only
  generalize hE : (lvM (numM (numM (numM r 1024).2 4).2 52).1.toNat (numM (numM (numM r 1024).2 4).2 52).2 0) = E at *
  generalize hR : (lvR (numM (numM (numM r 1024).2 4).2 52).1.toNat (numM (numM (numM r 1024).2 4).2 52).2 0) = R at *
  by_cases c0 : E.2.2 = 0
  · obtain ⟨⟨f1, f2⟩, f3⟩ := relLL_cases (e2 c0)
    have hlen := f2 1025 b3
    rw [if_pos c0, if_neg (nn c0), rhist_eq (by rw [List.length_reverse]; omega) (fun l hl => by have := hlen l (List.mem_reverse.1 hl); omega), Option.bind_some, Option.bind_some]
    rcases f3 with f3 | ⟨f4, f5⟩
    · rw [f3]
      by_cases c1 : histC (numM r 1024).1 (numM (numM r 1024).2 4).1 E.1.reverse = 0
      · rw [if_neg (by simp [c1]), if_neg (nn c0), if_neg (nn c1)]
      · rw [if_pos (by simp [c1]), if_pos c1, if_neg (nn c0)]
    · have c1 : ∀ {ls : List (List Sp)}, (∃ l ∈ ls, ∃ s ∈ l, badS s) → histC (numM r 1024).1 (numM (numM r 1024).2 4).1 ls.reverse ≠ 0 := by
        rintro ls ⟨l, hl, s, hs, hb⟩ q
        exact hist_nobad q l (List.mem_reverse.2 hl) s hs hb
      rw [if_pos (by simp [c1 f4]), if_pos (c1 f5), if_neg (nn c0)]
  · rw [if_neg c0, Option.bind_some, if_neg (by decide), if_pos c0, if_pos c0]
end Go.Proofs.Ytbeknohemgjfbaa.Pu
