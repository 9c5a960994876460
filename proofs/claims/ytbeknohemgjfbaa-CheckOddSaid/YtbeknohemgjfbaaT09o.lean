/- Chapter 09: what is not made so, is told. -/
import Derived.Test.YtbeknohemgjfbaaC09o
namespace Go.Proofs.Ytbeknohemgjfbaa.Pu
set_option linter.unusedVariables false

theorem copied_eq {K g : Int} {ls : List (List Sp)} (hl : ls.length ≤ 100) (hll : ∀ l ∈ ls, l.length ≤ 2000) : law09_copied (K, g, ls) = some ls := by
  have h1 : ∀ i : Nat, i < ls.length → law09_copied_s0 (K, g, ls) ((i : Int), ls.take i) = some (.inl (((i + 1 : Nat) : Int), ls.take (i + 1))) := by
    intro i hi
    have h2 := hll _ (List.getElem_mem hi)
    unfold law09_copied_s0
    simp only
    rw [if_pos (by omega), rdo_get hi, Option.bind_some, room_of (by simp only [List.length_nil]; omega) (by simp only [List.length_nil]; omega), Option.bind_some, room_of (by simp only [List.length_take, List.length_cons, List.length_nil]; omega) (by simp only [List.length_take, List.length_cons, List.length_nil]; omega), Option.bind_some, wi64_of (by omega) (by omega), List.take_succ_eq_append_getElem hi]
    rfl
  have h2 : law09_copied_s0 (K, g, ls) ((ls.length : Int), ls.take ls.length) = some (.inr ls) := by
    unfold law09_copied_s0
    simp only
    rw [if_neg (by omega), List.take_length]
  have := loopO_run (fun i : Nat => ((i : Int), ls.take i)) _ h1 h2
  have h0 : loopO (law09_copied_s0 (K, g, ls)) ((0 : Int), ([] : List (List Sp))) = some ls := this
  unfold law09_copied
  rw [h0]
  rfl
theorem histC_two {K g : Int} {ls : List (List Sp)} (hc : confB K g = true) (h : shB K.toNat ls = false ∨ turnB ls = false) : histC K g ls = 2 := by
  unfold histC
  rw [if_neg (by rw [hc]; simp)]
  rcases h with h | h
  · rw [if_pos (by rw [h]; simp)]
  · rw [if_pos (c := ¬ turnB ls = true) (by rw [h]; simp), ite_self]
theorem turn_bad {ls : List (List Sp)} {i : Nat} (hi : i < ls.length) {l : List Sp} {j : Nat} (hj : j < l.length) (hb : ∀ u x, goodB u x l[j] = false) : turnB (ls.set i l) = false := by
  rw [Bool.eq_false_iff]
  intro h
  unfold turnB at h
  rw [List.all_eq_true] at h
  have h1 := h (ls.length - 1 - i) (List.mem_range.2 (by rw [List.length_set]; omega))
  unfold turnP at h1
  rw [List.length_set, show ls.length - 1 - (ls.length - 1 - i) = i by omega, getD_lt (show i < (ls.set i l).length by rw [List.length_set]; exact hi), List.getElem_set_self] at h1
  unfold levOk at h1
  rw [List.all_eq_true] at h1
  have h2 := h1 j (List.mem_range.2 hj)
  rw [getD_lt hj, hb] at h2
  cases h2
theorem bad_back {s : Sp} (h : s.2 < s.1) (u : Bool) (x : Int) : goodB u x s = false := by unfold goodB; rw [if_pos h]
theorem bad_far (u : Bool) (x : Int) : goodB u x ((9223372036854775808, 9223372036854775808) : Sp) = false := by
  unfold goodB
  rw [if_neg (by decide)]
  split
  · rfl
  · rw [if_pos (by decide)]
theorem shape_bad (k : Nat) (ls : List (List Sp)) : shB k (ls ++ [[]]) = false := by
  rw [Bool.eq_false_iff]
  intro h
  unfold shB at h
  rw [Bool.and_eq_true, List.all_eq_true] at h
  have h1 := h.1 ls.length (List.mem_range.2 (by simp))
  unfold shP at h1
  rw [decide_eq_true_eq, getD_lt (show ls.length < (ls ++ [[]]).length by simp)] at h1
  simp at h1
theorem line_app : ∀ (a b : List (List Sp)), line (a ++ b) = line b ++ line a := by
  intro a
  induction a with
  | nil => intro b; rw [List.nil_append, show line ([] : List (List Sp)) = [] from rfl, List.append_nil]
  | cons l a ih => intro b; rw [List.cons_append, line, ih, line, List.append_assoc]
theorem shape_init {k : Nat} {x : List Sp} : ∀ (a : List (List Sp)) (i : Nat), shape k i (a ++ [x]) → shape k i a := by
  intro a
  induction a with
  | nil => intro i _; trivial
  | cons l a ih => intro i h; exact ⟨h.1, h.2.1, fun _ => h.2.2.1 (by simp), ih _ h.2.2.2⟩
theorem shape_rest {k : Nat} {s : Sp} {t : List Sp} (ht : t ≠ []) : ∀ (a : List (List Sp)) (i : Nat), shape k i (a ++ [s :: t]) → shape k i (a ++ [t]) := by
  intro a
  induction a with
  | nil =>
    intro i h
    obtain ⟨h1, h2, _, _⟩ := h
    rw [List.length_cons] at h2
    exact ⟨List.length_pos_iff.2 ht, by omega, fun q => absurd rfl q, trivial⟩
  | cons l a ih => intro i h; exact ⟨h.1, h.2.1, fun _ => h.2.2.1 (by simp), ih _ h.2.2.2⟩
theorem wt_init (x : List Sp) : ∀ (a : List (List Sp)), wt a ≤ wt (a ++ [x]) := by
  intro a
  induction a with
  | nil => exact Nat.zero_le _
  | cons l a ih => rw [List.cons_append, wt, wt]; omega
theorem wt_rest (s : Sp) (t : List Sp) : ∀ (a : List (List Sp)), wt (a ++ [t]) ≤ wt (a ++ [s :: t]) := by
  intro a
  induction a with
  | nil => simp only [List.nil_append, wt, List.length_cons]; omega
  | cons l a ih => rw [List.cons_append, List.cons_append, wt, wt]; omega
theorem good_sub {k : Nat} {ls ms : List (List Sp)} {t : Int} (h : Good k ls t) (hs : shape k 0 ms) (hl : (line ms).Sublist (line ls)) (hw : wt ms ≤ wt ls) : Good k ms t where
  shape := hs
  turn := h.turn.sub hl
  wt := by have := h.wt; omega
  pos := fun l hl' a ha => by
    obtain ⟨l', h1, h2⟩ := mem_line.1 (hl.subset (mem_line.2 ⟨l, hl', ha⟩))
    exact h.pos l' h1 a h2
theorem good_init {k : Nat} {a : List (List Sp)} {x : List Sp} {t : Int} (h : Good k (a ++ [x]) t) : Good k a t :=
  good_sub h (shape_init a 0 h.shape) (by rw [line_app]; exact List.sublist_append_right _ _) (wt_init x a)
theorem good_rest {k : Nat} {a : List (List Sp)} {s : Sp} {x : List Sp} {t : Int} (hx : x ≠ []) (h : Good k (a ++ [s :: x]) t) : Good k (a ++ [x]) t :=
  good_sub h (shape_rest hx a 0 h.shape) (by
    rw [line_app, line_app]
    refine List.Sublist.append ?_ (List.Sublist.refl _)
    show ([] ++ x).Sublist ([] ++ (s :: x))
    rw [List.nil_append, List.nil_append]
    exact List.sublist_cons_self _ _) (wt_rest s x a)
theorem units_init {a : List (List Sp)} {x : List Sp} (h : Units (a ++ [x])) : Units a := by
  intro l hl
  refine h l ?_
  match a, hl with
  | b :: a, hl => exact hl
theorem units_rest {a : List (List Sp)} {s : Sp} {x : List Sp} (h : Units (a ++ [s :: x])) : Units (a ++ [x]) := by
  intro l hl y hy
  match a, h, hl with
  | [], h, hl =>
    have e : x = l := Option.some.inj hl
    subst e
    exact h (s :: x) rfl y (List.mem_cons_of_mem _ hy)
  | b :: a, h, hl => exact h l hl y hy
theorem law09_CheckOdd_true (p1 : Int) (p2 : List (Int × Int)) (p3 : Int) (h1 : I64 p1) (h2 : p2.length ≤ 9223372036854775807 ∧ Deeds p2) (h3 : U8 p3) : law09_CheckOdd p1 p2 p3 = some true := by
  obtain ⟨_, hd⟩ := h2
  have hg := made_good p1 hd
  have hk := kM_le p1
  have hu := made_units p1 p2
  unfold law09_CheckOdd
  rw [awake9, Option.bind_some, made_eq h1.2 hd, Option.bind_some]
  generalize madeM p1 p2 = ls at hg hu ⊢
  generalize kM p1 = k at hg hk ⊢
  dsimp only
  have hlv := hg.levels
  have hll : ∀ l ∈ ls, l.length ≤ 1025 := fun l hl => by have := shape_len hg.shape l hl; omega
  have hconf : confB (k : Int) 0 = true := confB_spec.2 (by omega)
  by_cases c0 : ls.length = 0
  · rw [if_pos (by omega)]
  · rw [if_neg (by omega), must_of (by omega), Option.bind_some]
    have hi : p3.toNat % ls.length < ls.length := Nat.mod_lt _ (by omega)
    have et : (wi64 p3).tmod (ls.length : Int) = ((p3.toNat % ls.length : Nat) : Int) := by
      rw [wi64_of (by omega) (by omega), Int.tmod_eq_emod_of_nonneg h3.1]
      have e3 : p3 = ((p3.toNat : Nat) : Int) := by omega
      rw [e3, Int.toNat_natCast]
      rfl
    rw [et]
    generalize p3.toNat % ls.length = i at hi ⊢
    have hne := shape_ne hg.shape
    have hl0 : 0 < ls[i].length := List.length_pos_iff.2 (hne _ (List.getElem_mem hi))
    have hl1 : 0 < ls[0].length := List.length_pos_iff.2 (hne _ (List.getElem_mem _))
    have ha := hll _ (List.getElem_mem hi)
    have hb := hll _ (List.getElem_mem (show 0 < ls.length by omega))
    have hpos := hg.pos _ (List.getElem_mem hi) _ (List.getElem_mem hl0)
    have hin := hg.turn.2 _ (mem_line.2 ⟨_, List.getElem_mem hi, List.getElem_mem hl0⟩)
    have r0 : rdo ls[i] 0 = some ls[i][0] := rdo_get hl0
    have r1 : rdo ls 0 = some ls[0] := rdo_get (show 0 < ls.length by omega)
    have r2 : rdo ls[0] (wi64 ((ls[0].length : Int) - 1)) = some ls[0][ls[0].length - 1] := by
      have e : wi64 ((ls[0].length : Int) - 1) = ((ls[0].length - 1 : Nat) : Int) := by rw [wi64_of (by omega) (by omega)]; omega
      rw [e]
      exact rdo_get (by omega)
    obtain ⟨a, x, hax⟩ : ∃ a x, ls = a ++ [x] := ⟨ls.dropLast, ls.getLast (fun q => c0 (by rw [q]; rfl)), (List.dropLast_concat_getLast _).symm⟩
    have hlen : ls.length = a.length + 1 := by rw [hax]; simp
    have ew : wi64 ((ls.length : Int) - 1) = (a.length : Int) := by rw [wi64_of (by omega) (by omega)]; omega
    have r3 : rdo ls (a.length : Int) = some x := by rw [rdo_nat, hax]; simp
    have hx : x ≠ [] := hne x (by rw [hax]; simp)
    have hxl := hll x (by rw [hax]; simp)
    obtain ⟨s, t, hst⟩ : ∃ s t, x = s :: t := by
      match x, hx with
      | s :: t, _ => exact ⟨s, t, rfl⟩
    have hset : ∀ y, ls.set a.length y = a ++ [y] := fun y => by rw [hax, List.set_append_right _ _ (Nat.le_refl _), Nat.sub_self]; rfl
    rw [rdo_get hi, Option.bind_some, r0, Option.bind_some, copied_eq (by omega) (fun l hl => by have := hll l hl; omega), Option.bind_some, rdo_get hi, Option.bind_some, r0, Option.bind_some, r1, Option.bind_some, r2, Option.bind_some, room_of (by simp only [List.length_cons, List.length_nil]; omega) (by simp only [List.length_cons, List.length_nil]; omega), Option.bind_some, ew, r3, Option.bind_some, must_of (by rw [hst, List.length_cons]; omega), Option.bind_some, Int.toNat_natCast, show (1 : Int).toNat = 1 from rfl, hset]
    have hd1 : x.drop 1 = t := by rw [hst]; rfl
    rw [hd1]
    have r4 : rdo (a ++ [t]) (a.length : Int) = some t := by rw [rdo_nat]; simp
    rw [r4, Option.bind_some]
    have hgx : Good k (a ++ [s :: t]) 30000 := by rw [← hst, ← hax]; exact hg
    have hux : Units (a ++ [s :: t]) := by rw [← hst, ← hax]; exact hu
    have hj2 : ∃ J, ((if ((t.length : Int)) = 0 then ((must (0 ≤ (a.length : Int) ∧ (a.length : Int) ≤ (a ++ [t]).length)).bind fun _ => some ((a ++ [t]).take a.length)) else (some (a ++ [t]))) : Option (List (List Sp))) = some J ∧ Good k J 30000 ∧ Units J := by
      by_cases ct : t = []
      · rw [if_pos (by rw [ct]; rfl), must_of ⟨by omega, by rw [List.length_append]; omega⟩, Option.bind_some, List.take_left]
        exact ⟨a, rfl, good_init hgx, units_init hux⟩
      · rw [if_neg (fun q => ct (List.eq_nil_of_length_eq_zero (by omega)))]
        exact ⟨a ++ [t], rfl, good_rest ct hgx, units_rest hux⟩
    obtain ⟨J, hJ1, hJ2, hJ3⟩ := hj2
    rw [hJ1, Option.bind_some, if_pos rfl]
    unfold law09_made
    have ew1 : wu64 (ls[i][0].2 + 1) = ls[i][0].2 + 1 := by rw [wu64_of (by omega) (by omega)]
    rw [Option.bind_some, ew1, show ((0 : Int)).toNat = 0 from rfl, Int.toNat_natCast]
    have b1 : histC (k : Int) 0 (ls.set i (ls[i].set 0 (ls[i][0].2 + 1, ls[i][0].1))) = 2 := by
      refine histC_two hconf (.inr (turn_bad hi (j := 0) (by rw [List.length_set]; exact hl0) (fun u y => ?_)))
      rw [List.getElem_set_self]
      exact bad_back (by show ls[i][0].1 < ls[i][0].2 + 1; omega) u y
    have lset : ∀ (q : Nat) (y : List Sp), y.length ≤ 2000 → ∀ l ∈ ls.set q y, l.length ≤ 2000 := fun q y hy l hl => by
      rcases List.mem_or_eq_of_mem_set hl with w | w
      · have := hll l w; omega
      · rw [w]; exact hy
    rw [chist_eq (by rw [List.length_set]; omega) (lset _ _ (by rw [List.length_set]; omega)), Option.bind_some, b1, if_pos rfl, Option.bind_some]
    have ewl : (wi64 ((ls[0].length : Int) - 1)).toNat = ls[0].length - 1 := by rw [wi64_of (by omega) (by omega)]; omega
    rw [ewl]
    have b2 : histC (k : Int) 0 (ls.set 0 (ls[0].set (ls[0].length - 1) ((9223372036854775808 : Int), (9223372036854775808 : Int)))) = 2 := by
      refine histC_two hconf (.inr (turn_bad (by omega) (j := ls[0].length - 1) (by rw [List.length_set]; omega) (fun u y => ?_)))
      rw [List.getElem_set_self]
      exact bad_far u y
    rw [chist_eq (by rw [List.length_set]; omega) (lset _ _ (by rw [List.length_set]; omega)), Option.bind_some, b2, if_pos rfl, Option.bind_some]
    have b3 : histC (k : Int) 0 (ls ++ [([] : List Sp)]) = 2 := histC_two hconf (.inl (shape_bad _ ls))
    rw [chist_eq (by rw [List.length_append]; simp only [List.length_cons, List.length_nil]; omega) (fun l hl => by
      rcases List.mem_append.1 hl with w | w
      · have := hll l w; omega
      · rw [List.mem_singleton.1 w]; simp), Option.bind_some, b3, if_pos rfl, Option.bind_some]
    have hJl := hJ2.levels
    rw [chist_eq (by omega) (fun l hl => by have := shape_len hJ2.shape l hl; omega), Option.bind_some, good_histC (by omega) (by omega) (Int.le_refl 0) (by decide) hJ2 hJ3 (by decide)]
    rfl
end Go.Proofs.Ytbeknohemgjfbaa.Pu
