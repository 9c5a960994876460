/- What a histogram is that was made, and what is left of it when old buckets are dropped. No Go and no memory. -/
import Derived.Test.YtbeknohemgjfbaaH0
namespace Go.Proofs.Ytbeknohemgjfbaa.Pu
set_option linter.unusedVariables false

theorem InTurn.tail {a : Sp} {l : List Sp} (h : InTurn (a :: l)) : InTurn l := (InTurn.cons.1 h).2.1
theorem InTurn.left {l m : List Sp} (h : InTurn (l ++ m)) : InTurn l := (InTurn.app.1 h).1
theorem InTurn.right {l m : List Sp} (h : InTurn (l ++ m)) : InTurn m := (InTurn.app.1 h).2.1
/-- Something that holds of a bucket if it holds of a later one. -/
def Mono (old : Sp → Bool) : Prop := ∀ a b : Sp, a.2 ≤ b.2 → old b = true → old a = true

/-- Levels without what is old. -/
def dropM (old : Sp → Bool) : List (List Sp) → List (List Sp)
  | [] => []
  | l :: ls => if (l.dropWhile old).isEmpty then [] else l.dropWhile old :: dropM old ls

theorem filter_turn {old : Sp → Bool} (hm : Mono old) : ∀ {l : List Sp}, InTurn l → l.filter (fun s => !old s) = l.dropWhile old := by
  intro l
  induction l with
  | nil => intro _; rfl
  | cons a t ih =>
    intro h
    rw [InTurn.cons] at h
    cases ha : old a with
    | true => rw [List.filter_cons_of_neg (by simp [ha]), List.dropWhile_cons_of_pos ha, ih h.2.1]
    | false =>
      rw [List.filter_cons_of_pos (by simp [ha]), List.dropWhile_cons_of_neg (by simp [ha])]
      congr 1
      rw [List.filter_eq_self]
      intro b hb
      cases hbo : old b with
      | false => rfl
      | true =>
        have h1 := h.2.2 b hb
        have h2 : b.1 ≤ b.2 := h.2.1.2 b hb
        rw [hm a b (by omega) hbo] at ha
        cases ha
theorem dropWhile_nil {α : Type} {p : α → Bool} : ∀ {l : List α}, l.dropWhile p = [] → ∀ a ∈ l, p a = true := by
  intro l
  induction l with
  | nil => intro _ a ha; cases ha
  | cons b t ih =>
    intro h a ha
    by_cases hb : p b = true
    · rw [List.dropWhile_cons_of_pos hb] at h
      rcases List.mem_cons.1 ha with rfl | ha
      · exact hb
      · exact ih h a ha
    · rw [List.dropWhile_cons_of_neg hb] at h; cases h
/-- Of levels in turn, what is not old, level by level: no level behind one that is empty. -/
theorem drop_ref {old : Sp → Bool} (hm : Mono old) : ∀ {ls : List (List Sp)}, InTurn (line ls) → (∀ l ∈ ls, l ≠ []) →
    ls.map (fun l => l.filter fun s => !old s) = dropM old ls ++ List.replicate (ls.length - (dropM old ls).length) [] ∧ (∀ l ∈ dropM old ls, l ≠ []) ∧ (dropM old ls).length ≤ ls.length := by
  intro ls
  induction ls with
  | nil => intro _ _; exact ⟨rfl, (fun l hl => by simp [dropM] at hl), Nat.le_refl _⟩
  | cons l ls ih =>
    intro ht hne
    rw [line] at ht
    have h1 := filter_turn hm ht.right
    obtain ⟨i1, i2, i3⟩ := ih ht.left (fun m hm => hne m (List.mem_cons_of_mem _ hm))
    rw [dropM]
    by_cases he : (l.dropWhile old).isEmpty = true
    · rw [if_pos he]
      rw [List.isEmpty_iff] at he
      refine ⟨?_, (fun l hl => by cases hl), by simp⟩
      rw [List.map_cons, h1, he]
      have hall : ∀ m ∈ ls, (m.filter fun s => !old s) = [] := by
        intro m hmm
        rw [List.filter_eq_nil_iff]
        intro a ha
        obtain ⟨b, hb⟩ : ∃ b, b ∈ l := List.exists_mem_of_ne_nil _ (hne l List.mem_cons_self)
        have hob := dropWhile_nil he b hb
        have h2 := (InTurn.app.1 ht).2.2 a (mem_line.2 ⟨m, hmm, ha⟩) b hb
        have h3 := ht.right.2 b hb
        rw [hm a b (by omega) hob]
        simp
      simp only [List.length_nil, List.nil_append, List.length_cons, Nat.sub_zero, List.replicate_succ]
      congr 1
      rw [List.eq_replicate_iff]
      refine ⟨by simp, fun b hb => ?_⟩
      obtain ⟨m, hm1, rfl⟩ := List.mem_map.1 hb
      exact hall m hm1
    · rw [if_neg he]
      rw [List.isEmpty_iff] at he
      refine ⟨?_, ?_, by simpa using i3⟩
      · rw [List.map_cons, h1, i1]; simp
      · intro m hmm
        rcases List.mem_cons.1 hmm with rfl | hmm
        · exact he
        · exact i2 m hmm

/-- Nothing that is left comes out of nowhere. -/
theorem dropM_length (old : Sp → Bool) (ls : List (List Sp)) : (dropM old ls).length ≤ ls.length := by
  induction ls with
  | nil => exact Nat.le_refl _
  | cons l ls ih => rw [dropM]; split <;> simp [ih]

/-- A histogram that was made. -/
structure Good (k : Nat) (ls : List (List Sp)) (last : Int) : Prop where
  shape : shape k 0 ls
  turn : InTurn (line ls)
  wt : wt ls ≤ 4503599627370496
  pos : ∀ l ∈ ls, ∀ a ∈ l, 0 ≤ a.1 ∧ a.2 ≤ last
theorem shape_ne {k : Nat} : ∀ {i : Nat} {ls : List (List Sp)}, Pu.shape k i ls → ∀ l ∈ ls, l ≠ [] := by
  intro i ls
  induction ls generalizing i with
  | nil => intro _ l hl; cases hl
  | cons m ls ih =>
    intro h l hl
    rcases List.mem_cons.1 hl with rfl | hl
    · intro e; have := h.1; rw [e] at this; simp at this
    · exact ih h.2.2.2 l hl
theorem shape_len {k : Nat} : ∀ {i : Nat} {ls : List (List Sp)}, Pu.shape k i ls → ∀ l ∈ ls, l.length ≤ k + 1 := by
  intro i ls
  induction ls generalizing i with
  | nil => intro _ l hl; cases hl
  | cons m ls ih =>
    intro h l hl
    rcases List.mem_cons.1 hl with rfl | hl
    · exact Nat.le_trans h.2.1 (mostN_le k i)
    · exact ih h.2.2.2 l hl
theorem wt_pow {ls : List (List Sp)} (h : ∀ l ∈ ls, l ≠ []) : 2 ^ ls.length ≤ wt ls + 1 := by
  induction ls with
  | nil => simp [Pu.wt]
  | cons l ls ih =>
    have h1 := ih (fun m hm => h m (List.mem_cons_of_mem _ hm))
    have h2 : 1 ≤ l.length := List.length_pos_iff.2 (h l List.mem_cons_self)
    rw [List.length_cons, Pu.wt, Nat.pow_succ]
    omega
theorem Good.levels {k : Nat} {ls : List (List Sp)} {last : Int} (h : Good k ls last) : ls.length ≤ 52 := by
  have h1 := wt_pow (shape_ne h.shape)
  have h2 := h.wt
  rcases Nat.lt_or_ge 52 ls.length with q | q
  · have : 2 ^ 53 ≤ 2 ^ ls.length := Nat.pow_le_pow_right (by decide) q
    omega
  · exact q

theorem rep_turn (n : Nat) (t : Int) : InTurn (List.replicate n ((t, t) : Sp)) :=
  ⟨by rw [List.pairwise_replicate]; exact .inr (Int.le_refl _), fun a ha => by rw [List.eq_of_mem_replicate ha]; exact Int.le_refl _⟩
/-- More weight comes. -/
theorem Good.add {k : Nat} {ls : List (List Sp)} {last : Int} (hk : 1 ≤ k) (h : Good k ls last) {t : Int} (w : Nat) (h0 : 0 ≤ t) (ht : last ≤ t) (hw : Pu.wt ls + w ≤ 4503599627370496) : Good k (flow k 0 ls (List.replicate w (t, t))) t where
  shape := shape_flow hk 0 ls _ h.shape
  turn := by
    have := turn_flow k 0 ls (List.replicate w (t, t)) [] (by
      rw [List.append_nil, InTurn.app]
      refine ⟨h.turn, rep_turn w t, fun a ha b hb => ?_⟩
      obtain ⟨l, hl, hal⟩ := mem_line.1 ha
      have := (h.pos l hl a hal).2
      rw [List.eq_of_mem_replicate hb]
      simp only
      omega)
    rwa [List.append_nil] at this
  wt := by rw [wt_flow, List.length_replicate]; exact hw
  pos := all_flow (P := fun a => 0 ≤ a.1 ∧ a.2 ≤ t) (fun a b h1 h2 => ⟨h1.1, h2.2⟩) k 0 ls _ (fun l hl a ha => ⟨(h.pos l hl a ha).1, by have := (h.pos l hl a ha).2; omega⟩) (fun a ha => by rw [List.eq_of_mem_replicate ha]; exact ⟨h0, Int.le_refl _⟩)
theorem Good.nil (k : Nat) (t : Int) : Good k [] t := ⟨trivial, InTurn.nil, by simp [Pu.wt], fun l hl => by cases hl⟩
theorem Good.later {k : Nat} {ls : List (List Sp)} {t u : Int} (h : Good k ls t) (htu : t ≤ u) : Good k ls u := ⟨h.shape, h.turn, h.wt, fun l hl a ha => ⟨(h.pos l hl a ha).1, by have := (h.pos l hl a ha).2; omega⟩⟩
theorem flow_len {k : Nat} {ls : List (List Sp)} {last : Int} (hk : 1 ≤ k) (h : Good k ls last) {t : Int} (w : Nat) (h0 : 0 ≤ t) (ht : last ≤ t) (hw : Pu.wt ls + w ≤ 4503599627370496) : (flow k 0 ls (List.replicate w (t, t))).length ≤ 52 := (h.add hk w h0 ht hw).levels
/-- The tick of the last unit. -/
def lastM : List (List Sp) → Option Int
  | l :: _ => l.getLast?.map (·.2)
  | [] => none
/-- The tick of the last unit, and whether there is one. -/
def lastP (ls : List (List Sp)) : Int × Bool := match lastM ls with
  | some x => (x, true)
  | none => (0, false)
theorem lastP_some {ls : List (List Sp)} {x : Int} (h : lastM ls = some x) : lastP ls = (x, true) := by unfold lastP; rw [h]
theorem lastP_none {ls : List (List Sp)} (h : lastM ls = none) : lastP ls = (0, false) := by unfold lastP; rw [h]
theorem Good.last_le {k : Nat} {ls : List (List Sp)} {t x : Int} (h : Good k ls t) (hx : lastM ls = some x) : x ≤ t := by
  cases ls with
  | nil => cases hx
  | cons l ls =>
    simp only [lastM, Option.map_eq_some_iff] at hx
    obtain ⟨a, ha, rfl⟩ := hx
    exact (h.pos l List.mem_cons_self a (List.mem_of_getLast? ha)).2
/-- Every bucket is no later than the last unit. -/
theorem Good.all_le {k : Nat} {ls : List (List Sp)} {t x : Int} (h : Good k ls t) (hx : lastM ls = some x) : ∀ l ∈ ls, ∀ a ∈ l, a.2 ≤ x := by
  cases ls with
  | nil => intro l hl; cases hl
  | cons m ls =>
    simp only [lastM, Option.map_eq_some_iff] at hx
    obtain ⟨b, hb, rfl⟩ := hx
    intro l hl a ha
    have hbm := List.mem_of_getLast? hb
    have ht := h.turn
    rw [line] at ht
    rcases List.mem_cons.1 hl with rfl | hl
    · obtain ⟨ys, rfl⟩ := List.getLast?_eq_some_iff.1 hb
      rcases List.mem_append.1 ha with q | q
      · have h1 := (InTurn.app.1 ht.right).2.2 a q b (by simp)
        have h2 := ht.right.2 b hbm
        omega
      · rw [List.mem_singleton.1 q]; exact Int.le_refl _
    · have h1 := (InTurn.app.1 ht).2.2 a (mem_line.2 ⟨l, hl, ha⟩) b hbm
      have h2 := ht.right.2 b hbm
      omega
/-- What is no later than the last unit may stand for the end. -/
theorem Good.tight {k : Nat} {ls : List (List Sp)} {t x : Int} (h : Good k ls t) (hx : lastM ls = some x) : Good k ls x :=
  ⟨h.shape, h.turn, h.wt, fun l hl a ha => ⟨(h.pos l hl a ha).1, h.all_le hx l hl a ha⟩⟩
theorem Good.none {k : Nat} {ls : List (List Sp)} {t : Int} (h : Good k ls t) (hx : lastM ls = none) : ls = [] := by
  cases ls with
  | nil => rfl
  | cons l ls =>
    simp only [lastM, Option.map_eq_none_iff, List.getLast?_eq_none_iff] at hx
    exact absurd hx (shape_ne h.shape l List.mem_cons_self)
theorem Good.lastP_pos {k : Nat} {ls : List (List Sp)} {t : Int} (h : Good k ls t) : 0 ≤ (lastP ls).1 := by
  cases hx : lastM ls with
  | none => rw [lastP_none hx]; exact Int.le_refl _
  | some x =>
    rw [lastP_some hx]
    cases ls with
    | nil => cases hx
    | cons l ls =>
      simp only [lastM, Option.map_eq_some_iff] at hx
      obtain ⟨s, hs, rfl⟩ := hx
      have hm := List.mem_of_getLast? hs
      have h5 := h.pos l List.mem_cons_self s hm
      have ht := h.turn
      rw [line] at ht
      have h6 := ht.right.2 s hm
      simp only
      omega
theorem Good.lastP_le {k : Nat} {ls : List (List Sp)} {t : Int} (h : Good k ls t) (ht : 0 ≤ t) : (lastP ls).1 ≤ t := by
  cases hx : lastM ls with
  | none => rw [lastP_none hx]; exact ht
  | some x => rw [lastP_some hx]; exact h.last_le hx
/-- What weight that comes to a histogram tells. -/
def addC (ls : List (List Sp)) (t w : Int) : Int :=
  if w = 0 then 1
  else if 9223372036854775807 < t ∨ ((lastM ls).any fun x => decide (t < x)) = true then 6
  else if 4503599627370496 < w + wt ls then 5
  else 0
/-- Weight that comes, and isn't refused. -/
def addL (k : Nat) (ls : List (List Sp)) (t w : Int) : List (List Sp) := flow k 0 ls (List.replicate w.toNat (t, t))
theorem addC_zero {ls : List (List Sp)} {t w : Int} (h : addC ls t w = 0) : w ≠ 0 ∧ t ≤ 9223372036854775807 ∧ (∀ x, lastM ls = some x → x ≤ t) ∧ w + wt ls ≤ 4503599627370496 := by
  unfold addC at h
  split at h
  · cases h
  split at h
  · cases h
  split at h
  · cases h
  rename_i h1 h2 h3
  refine ⟨h1, by omega, fun x hx => ?_, by omega⟩
  rw [hx] at h2
  simp only [Option.any_some, decide_eq_true_eq, not_or] at h2
  omega
theorem Good.addL {k : Nat} {ls : List (List Sp)} {t0 t w : Int} (hk : 1 ≤ k) (h : Good k ls t0) (h0 : 0 ≤ t) (hw : 0 ≤ w) (ha : addC ls t w = 0) : Good k (addL k ls t w) t := by
  obtain ⟨h1, h2, h3, h4⟩ := addC_zero ha
  unfold Pu.addL
  cases hl : lastM ls with
  | none => rw [h.none hl] at h4 ⊢; exact (Good.nil k t).add hk _ h0 (Int.le_refl _) (by simp [Pu.wt] at h4 ⊢; omega)
  | some x => exact (h.tight hl).add hk _ h0 (h3 x hl) (by omega)
end Go.Proofs.Ytbeknohemgjfbaa.Pu
