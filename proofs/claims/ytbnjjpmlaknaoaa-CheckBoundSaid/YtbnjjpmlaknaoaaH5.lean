/- What is left of a histogram: by two fronts, by an earlier one; its shape. -/
import Derived.Test.YtbnjjpmlaknaoaaH4
namespace Go.Proofs.Ytbnjjpmlaknaoaa.Pu
set_option linter.unusedVariables false

theorem turn_level {ls : List (List Sp)} (h : InTurn (line ls)) : ∀ l ∈ ls, InTurn l := by
  induction ls with
  | nil => intro l hl; cases hl
  | cons m ls ih =>
    rw [line] at h
    intro l hl
    rcases List.mem_cons.1 hl with rfl | hl
    · exact h.right
    · exact ih h.left l hl
/-- Level by level, what stays is what is not old. -/
theorem stay_eq {old : Sp → Bool} (hm : Mono old) {ls : List (List Sp)} (ht : InTurn (line ls)) (hne : ∀ l ∈ ls, l ≠ []) {i : Nat} (hi : i < ls.length) : ((dropM old ls)[i]?).getD [] = ls[i].dropWhile old := by
  obtain ⟨d1, d2, d3⟩ := drop_ref hm ht hne
  have e : (ls.map fun l => l.filter fun s => !old s)[i]? = some (ls[i].filter fun s => !old s) := by rw [List.getElem?_map, List.getElem?_eq_getElem hi]; rfl
  rw [filter_turn hm (turn_level ht _ (List.getElem_mem hi)), d1] at e
  by_cases h2 : i < (dropM old ls).length
  · rw [List.getElem?_append_left h2] at e; rw [e]; rfl
  · rw [List.getElem?_eq_none (by omega)]
    rw [List.getElem?_append_right (by omega), List.getElem?_replicate, if_pos (by omega)] at e
    exact Option.some.inj e
theorem old_lead {old : Sp → Bool} (hm : Mono old) {l : List Sp} (h : InTurn l) {i : Nat} (hi : i < l.length) : old l[i] = decide (i < lead old l) := by
  by_cases hc : i < lead old l
  · obtain ⟨h2, h3⟩ := lead_lt hc
    rw [h3]; simp [hc]
  · rw [decide_eq_false hc]
    have hl : lead old l < l.length := by omega
    have h0 := lead_at hl
    by_cases he : i = lead old l
    · subst he; exact h0
    · cases hb : old l[i] with
      | false => rfl
      | true =>
        have hp := List.pairwise_iff_getElem.1 h.1 (lead old l) i hl hi (by omega)
        have h5 := h.2 l[i] (List.getElem_mem hi)
        rw [hm _ _ (by omega) hb] at h0
        cases h0
theorem dropWhile_two {o1 o2 : Sp → Bool} (h1 : Mono o1) : ∀ {l : List Sp}, InTurn l → (l.dropWhile o1).dropWhile o2 = l.dropWhile fun a => o1 a || o2 a := by
  intro l
  induction l with
  | nil => intro _; rfl
  | cons a t ih =>
    intro h
    by_cases ha : o1 a = true
    · rw [List.dropWhile_cons_of_pos ha, List.dropWhile_cons_of_pos (by simp [ha]), ih h.tail]
    · rw [List.dropWhile_cons_of_neg ha]
      have hall : ∀ b ∈ t, o1 b = false := fun b hb => by
        cases hb1 : o1 b with
        | false => rfl
        | true =>
          have h2 := (InTurn.cons.1 h).2.2 b hb
          have h3 := h.tail.2 b hb
          exact absurd (h1 a b (by omega) hb1) ha
      by_cases h2 : o2 a = true
      · rw [List.dropWhile_cons_of_pos h2, List.dropWhile_cons_of_pos (by simp [h2])]
        clear ih h
        induction t with
        | nil => rfl
        | cons b t ih2 =>
          have hb := hall b List.mem_cons_self
          by_cases h3 : o2 b = true
          · rw [List.dropWhile_cons_of_pos h3, List.dropWhile_cons_of_pos (by simp [h3]), ih2 (fun c hc => hall c (List.mem_cons_of_mem _ hc))]
          · rw [List.dropWhile_cons_of_neg h3, List.dropWhile_cons_of_neg (by simp [h3, hb])]
      · rw [List.dropWhile_cons_of_neg h2, List.dropWhile_cons_of_neg (by simp [ha, h2])]
theorem dropM_two {o1 o2 : Sp → Bool} (h1 : Mono o1) : ∀ {ls : List (List Sp)}, (∀ l ∈ ls, InTurn l) → dropM o2 (dropM o1 ls) = dropM (fun a => o1 a || o2 a) ls := by
  intro ls
  induction ls with
  | nil => intro _; rfl
  | cons l ls ih =>
    intro h
    have e := dropWhile_two (o2 := o2) h1 (h l List.mem_cons_self)
    rw [dropM, dropM, ← e]
    by_cases he : (l.dropWhile o1).isEmpty = true
    · rw [if_pos he, List.isEmpty_iff.1 he]; rfl
    · rw [if_neg he, dropM, ih (fun m hm => h m (List.mem_cons_of_mem _ hm))]
theorem lead_mono {o1 o2 : Sp → Bool} (h : ∀ a, o2 a = true → o1 a = true) (l : List Sp) : lead o2 l ≤ lead o1 l := by
  induction l with
  | nil => exact Nat.le_refl _
  | cons a t ih =>
    rw [lead, lead]
    by_cases ha : o2 a = true
    · rw [if_pos ha, if_pos (h a ha)]; omega
    · rw [if_neg ha]; exact Nat.zero_le _
theorem dropM_wt {o1 o2 : Sp → Bool} (h : ∀ a, o2 a = true → o1 a = true) (ls : List (List Sp)) : wt (dropM o1 ls) ≤ wt (dropM o2 ls) := by
  induction ls with
  | nil => exact Nat.le_refl _
  | cons l ls ih =>
    rw [dropM, dropM]
    by_cases h1 : (l.dropWhile o1).isEmpty = true
    · rw [if_pos h1]; exact Nat.zero_le _
    · have hle := lead_mono h l
      have hl1 := lead_le o1 l
      have h2 : ¬ (l.dropWhile o2).isEmpty = true := by
        rw [← lead_drop] at h1 ⊢
        rw [List.isEmpty_iff, List.drop_eq_nil_iff] at h1 ⊢
        omega
      rw [if_neg h1, if_neg h2, wt, wt, ← lead_drop, ← lead_drop, List.length_drop, List.length_drop]
      omega
theorem dropM_none {old : Sp → Bool} (h : ∀ a, old a = false) {ls : List (List Sp)} (hne : ∀ l ∈ ls, l ≠ []) : dropM old ls = ls := by
  induction ls with
  | nil => rfl
  | cons l ls ih =>
    have e : l.dropWhile old = l := by
      cases l with
      | nil => rfl
      | cons a t => rw [List.dropWhile_cons_of_neg (by simp [h a])]
    rw [dropM, e, if_neg (by rw [List.isEmpty_iff]; exact hne l List.mem_cons_self), ih (fun m hm => hne m (List.mem_cons_of_mem _ hm))]
theorem dropM_le_wt (old : Sp → Bool) (ls : List (List Sp)) : wt (dropM old ls) ≤ wt ls := by
  induction ls with
  | nil => exact Nat.le_refl _
  | cons l ls ih =>
    rw [dropM]
    split
    · exact Nat.zero_le _
    · rw [wt, wt, ← lead_drop, List.length_drop]; omega
theorem dropM_sub (old : Sp → Bool) (ls : List (List Sp)) : (line (dropM old ls)).Sublist (line ls) := by
  induction ls with
  | nil => exact List.Sublist.refl _
  | cons l ls ih =>
    rw [dropM]
    split
    · exact List.nil_sublist _
    · rw [line, line]
      exact List.Sublist.append ih (List.dropWhile_sublist _)
theorem InTurn.sub {l m : List Sp} (h : InTurn m) (hs : l.Sublist m) : InTurn l := ⟨h.1.sublist hs, fun a ha => h.2 a (hs.subset ha)⟩
theorem dropM_old {old : Sp → Bool} {ls : List (List Sp)} (h : ∀ l ∈ ls, ∀ a ∈ l, old a = true) : dropM old ls = [] := by
  cases ls with
  | nil => rfl
  | cons l ls =>
    rw [dropM, if_pos]
    rw [List.isEmpty_iff, ← lead_drop, List.drop_eq_nil_iff]
    rcases Nat.lt_or_ge (lead old l) l.length with q | q
    · have := lead_at q
      rw [h l List.mem_cons_self _ (List.getElem_mem q)] at this
      cases this
    · exact q
theorem dropM_shape {old : Sp → Bool} (hm : Mono old) {k : Nat} : ∀ {i : Nat} {ls : List (List Sp)}, InTurn (line ls) → shape k i ls → shape k i (dropM old ls) := by
  intro i ls
  induction ls generalizing i with
  | nil => intro _ _; trivial
  | cons l ls ih =>
    intro ht hs
    rw [dropM]
    split
    · trivial
    · rename_i he
      rw [List.isEmpty_iff] at he
      have hl := lead_le old l
      rw [line] at ht
      refine ⟨List.length_pos_iff.2 he, ?_, ?_, ih ht.left hs.2.2.2⟩
      · rw [← lead_drop, List.length_drop]; have := hs.2.1; omega
      · intro hne
        have h0 : lead old l = 0 := by
          rcases Nat.eq_zero_or_pos (lead old l) with q | q
          · exact q
          · exfalso
            obtain ⟨h2, h3⟩ := lead_lt q
            apply hne
            apply dropM_old
            intro m hmm a ha
            have h4 := (InTurn.app.1 ht).2.2 a (mem_line.2 ⟨m, hmm, ha⟩) _ (List.getElem_mem h2)
            have h5 := ht.right.2 _ (List.getElem_mem h2)
            exact hm a _ (by omega) h3
        have e : l.dropWhile old = l := by rw [← lead_drop, h0]; rfl
        rw [e]
        refine hs.2.2.1 fun q => hne ?_
        rw [q]; rfl
theorem Good.drop {old : Sp → Bool} (hm : Mono old) {k : Nat} {ls : List (List Sp)} {t : Int} (h : Good k ls t) : Good k (dropM old ls) t where
  shape := dropM_shape hm h.turn h.shape
  turn := h.turn.sub (dropM_sub old ls)
  wt := Nat.le_trans (dropM_le_wt old ls) h.wt
  pos l hl a ha := by
    obtain ⟨m, hm1, hm2⟩ := mem_line.1 ((dropM_sub old ls).subset (mem_line.2 ⟨l, hl, ha⟩))
    exact h.pos m hm1 a hm2
end Go.Proofs.Ytbnjjpmlaknaoaa.Pu
