/- The laws of chapter 07, in plain words: what stays and what goes; two fronts; a later one; the shape. -/
import Derived.Test.YtbnjjpmlaknaoaaH7
import Derived.Test.YtbnjjpmlaknaoaaT07
namespace Go.Proofs.Ytbnjjpmlaknaoaa.Pu
set_option linter.unusedVariables false

theorem law07_ExpiryTwice_true (p1 : Int) (p2 : List (Int × Int)) (p3 : Int × Int × Int) (h1 : I64 p1) (h2 : p2.length ≤ 9223372036854775807 ∧ Deeds p2) (h3 : U64 p3.1 ∧ U64 p3.2.1 ∧ U64 p3.2.2) :
    law07_ExpiryTwice p1 p2 p3 = some true := by
  obtain ⟨a, b, c⟩ := p3
  obtain ⟨⟨ha1, ha2⟩, ⟨hb1, hb2⟩, hc1, hc2⟩ := h3
  obtain ⟨_, hd⟩ := h2
  simp only at ha1 ha2 hb1 hb2 hc1 hc2
  have hg := made_good p1 hd
  have hk := kM_le p1
  have hl := good_len (by omega) hg
  have hlv := hg.levels
  have hg2 := hg.drop (oldS_mono a c)
  have hl2 := good_len (by omega) hg2
  have hlv2 := hg2.levels
  unfold law07_ExpiryTwice law07_made
  rw [awake7, Option.bind_some, made_eq h1.2 hd, Option.bind_some, Option.bind_some]
  simp only
  rw [drop_eq hc1 ha2 hl (by omega), Option.bind_some, drop_eq hc1 hb2 hl2 (by omega), Option.bind_some, drop_eq hc1 (by omega) hl (by omega), Option.bind_some, if_pos trivial]
  rw [hsame_eq (by have := dropM_length (oldS b c) (dropM (oldS a c) (madeM p1 p2)); omega) (fun l hl' => by have := drop_len (by omega) (oldS b c) (shape_len hg2.shape) l hl'; omega), Option.bind_some]
  congr 1
  rw [decide_eq_true_eq]
  refine ⟨rfl, rfl, ?_⟩
  rw [dropM_two (oldS_mono a c) (turn_level hg.turn)]
  congr 1
  funext s
  unfold oldS oldT
  rw [← Bool.decide_or]
  exact decide_eq_decide.2 (by omega)
theorem law07_ExpiryLater_true (p1 : Int) (p2 : List (Int × Int)) (p3 : Int × Int × Int × Int) (h1 : I64 p1) (h2 : p2.length ≤ 9223372036854775807 ∧ Deeds p2) (h3 : U64 p3.1 ∧ U64 p3.2.1 ∧ U64 p3.2.2.1 ∧ U64 p3.2.2.2) :
    law07_ExpiryLater p1 p2 p3 = some true := by
  obtain ⟨a, b, c, d⟩ := p3
  obtain ⟨⟨ha1, ha2⟩, ⟨hb1, hb2⟩, ⟨hc1, hc2⟩, hd1, hd2⟩ := h3
  obtain ⟨_, hd⟩ := h2
  simp only at ha1 ha2 hb1 hb2 hc1 hc2 hd1 hd2
  have hg := made_good p1 hd
  have hk := kM_le p1
  have hl := good_len (by omega) hg
  have hlv := hg.levels
  have e1 : a.tdiv 2 = a / 2 := Int.tdiv_eq_ediv_of_nonneg ha1
  unfold law07_ExpiryLater law07_made
  rw [awake7, Option.bind_some, made_eq h1.2 hd, Option.bind_some, Option.bind_some]
  simp only
  rw [e1, wu64_of (x := a / 2) (by omega) (by omega), wu64_of (x := a / 2 + 1) (by omega) (by omega)]
  rw [drop_eq (by omega) (by omega) hl (by omega), Option.bind_some, drop_eq (by omega) (by omega) hl (by omega), Option.bind_some, drop_eq (by omega) (by omega) hl (by omega), Option.bind_some, if_pos trivial]
  have hga := hg.drop (oldS_mono (max a b) (min c d))
  have hgb := hg.drop (oldS_mono (min a b) (max c d))
  rw [htotal_eq (by have := hga.levels; omega) (by have := hga.wt; omega) (fun l hl => by have := shape_len hga.shape l hl; omega), Option.bind_some, htotal_eq (by have := hgb.levels; omega) (by have := hgb.wt; omega) (fun l hl => by have := shape_len hgb.shape l hl; omega), Option.bind_some]
  have hw : wt (dropM (oldS (max a b) (min c d)) (madeM p1 p2)) ≤ wt (dropM (oldS (min a b) (max c d)) (madeM p1 p2)) := by
    apply dropM_wt
    intro s hs
    simp only [oldS, oldT, decide_eq_true_eq] at hs ⊢
    omega
  rw [if_pos (by omega), dropM_none (old := oldS (a / 2) (a / 2 + 1)) (fun s => by simp only [oldS, oldT, decide_eq_false_iff_not]; omega) (shape_ne hg.shape)]
  rw [hsame_eq (by omega) hl, Option.bind_some]
  simp
theorem stays_s1 {a b : Int} (hb1 : 0 ≤ b) (ha2 : a < 18446744073709551616) {l st : List Sp} (hin : InTurn l) (hll : l.length ≤ 1099511627776) (hst : st.length = l.length - lead (oldS a b) l) (hle : lead (oldS a b) l ≤ l.length) :
    loopO (law07_ExpiryStays_s1 (a, b) st l) (0 : Int) = some (.inr ()) := by
  refine loopO_run (fun j => (j : Int)) l.length (fun j hj => ?_) ?_
  · unfold law07_ExpiryStays_s1
    simp only
    have h5 := old_lead (oldS_mono a b) hin hj
    have h6 : oldT a b l[j].2 = decide (j < lead (oldS a b) l) := h5
    rw [if_pos (by omega), rdo_get hj, Option.bind_some, rold_eq hb1 ha2, Option.bind_some, h6, wi64_of (x := (l.length : Int) - (st.length : Int)) (by omega) (by omega), if_neg, wi64_of (by omega) (by omega)]
    · rfl
    · rw [Decidable.not_not]
      exact decide_eq_decide.2 (by omega)
  · unfold law07_ExpiryStays_s1
    rw [if_neg (by omega)]
theorem law07_ExpiryStays_true (p1 : Int) (p2 : List (Int × Int)) (p3 : Int × Int) (h1 : I64 p1) (h2 : p2.length ≤ 9223372036854775807 ∧ Deeds p2) (h3 : U64 p3.1 ∧ U64 p3.2) :
    law07_ExpiryStays p1 p2 p3 = some true := by
  obtain ⟨a, b⟩ := p3
  obtain ⟨⟨ha1, ha2⟩, hb1, hb2⟩ := h3
  obtain ⟨_, hd⟩ := h2
  simp only at ha1 ha2 hb1 hb2
  have hg := made_good p1 hd
  have hk := kM_le p1
  have hl := good_len (by omega) hg
  have hlv := hg.levels
  unfold law07_ExpiryStays law07_made
  rw [awake7, Option.bind_some, made_eq h1.2 hd, Option.bind_some, Option.bind_some]
  simp only
  rw [drop_eq hb1 ha2 hl (by omega), Option.bind_some]
  generalize madeM p1 p2 = ls at *
  have hlen := dropM_length (oldS a b) ls
  have hloop : loopO (law07_ExpiryStays_s0 (a, b) ((kM p1 : Int), 0, ls) (dropM (oldS a b) ls)) (0 : Int) = some (.inr ()) := by
    refine loopO_run (fun j => (j : Int)) ls.length (fun i hi => ?_) ?_
    · have hs := stay_eq (oldS_mono a b) hg.turn (shape_ne hg.shape) hi
      have hin := turn_level hg.turn _ (List.getElem_mem hi)
      have hll := hl _ (List.getElem_mem hi)
      unfold law07_ExpiryStays_s0
      simp only
      have hj : (if (i : Int) < (((dropM (oldS a b) ls).length : Int)) then ((rdo (dropM (oldS a b) ls) (i : Int)).bind fun (z47 : List Sp) => some z47) else (some (([] : List Sp))) : Option (List Sp)) = some (ls[i].dropWhile (oldS a b)) := by
        by_cases h : i < (dropM (oldS a b) ls).length
        · rw [List.getElem?_eq_getElem h] at hs
          rw [if_pos (by omega), rdo_get h, Option.bind_some]; exact congrArg some hs
        · rw [List.getElem?_eq_none (by omega)] at hs
          rw [if_neg (by omega)]; exact congrArg some hs
      rw [if_pos (by omega), hj, Option.bind_some, rdo_get hi, Option.bind_some]
      have hle := lead_le (oldS a b) ls[i]
      have hdl : (ls[i].dropWhile (oldS a b)).length = ls[i].length - lead (oldS a b) ls[i] := by rw [← lead_drop, List.length_drop]
      have eg : wi64 ((ls[i].length : Int) - ((ls[i].dropWhile (oldS a b)).length : Int)) = (lead (oldS a b) ls[i] : Int) := by rw [wi64_of (by omega) (by omega)]; omega
      rw [eg, if_neg (by omega), must_of (by omega), Option.bind_some, Int.toNat_natCast, lead_drop, same5_eq (by omega), Option.bind_some, if_neg (by simp), stays_s1 hb1 ha2 hin hll hdl hle]
      simp only [Option.bind_some, Sum.elim_inr]
      rw [wi64_of (by omega) (by omega)]; rfl
    · unfold law07_ExpiryStays_s0
      simp only
      rw [if_neg (by omega)]
  rw [hloop]
  simp only [Option.bind_some, Sum.elim_inr]
  rw [if_pos trivial, if_pos (by omega), if_pos trivial]
  simp
theorem least_eq {k : Nat} (i : Nat) (hk : k ≤ 1099511627776) : ref05_Least (k : Int) (i : Int) = some ((mostN k i - 1 : Nat) : Int) := by
  unfold ref05_Least
  have h1 := mostN_pos k i
  have h2 := mostN_le k i
  rw [most_eq i hk, Option.bind_some, wi64_of (by omega) (by omega)]
  congr 1; omega
theorem shape_get {k : Nat} : ∀ {i0 : Nat} {ls : List (List Sp)}, shape k i0 ls → ∀ i (h : i < ls.length), 1 ≤ ls[i].length ∧ ls[i].length ≤ mostN k (i0 + i) ∧ (i + 1 < ls.length → mostN k (i0 + i) ≤ ls[i].length + 1) := by
  intro i0 ls
  induction ls generalizing i0 with
  | nil => intro _ i h; simp at h
  | cons l ls ih =>
    intro hs i h
    cases i with
    | zero =>
      refine ⟨hs.1, hs.2.1, fun h2 => hs.2.2.1 ?_⟩
      intro e; rw [e] at h2; simp at h2
    | succ i =>
      have := ih hs.2.2.2 i (by simpa using h)
      rw [show i0 + 1 + i = i0 + (i + 1) by omega] at this
      simpa using this
theorem shape_loop {k : Nat} {g : Int} (hk : k ≤ 10000) {ls : List (List Sp)} {t : Int} (h : Good k ls t) : loopO (law07_ExpiryShape_s0 ((k : Int), g, ls)) (0 : Int) = some (.inr ()) := by
  have hlv := h.levels
  refine loopO_run (fun j => (j : Int)) ls.length (fun i hi => ?_) ?_
  · obtain ⟨s1, s2, s3⟩ := shape_get h.shape i hi
    rw [Nat.zero_add] at s2 s3
    have h2 := mostN_le k i
    unfold law07_ExpiryShape_s0
    simp only
    rw [if_pos (by omega), rdo_get hi, Option.bind_some, if_neg (by omega), most_eq i (by omega), Option.bind_some, if_neg (by omega), wi64_of (x := (ls.length : Int) - 1) (by omega) (by omega), wi64_of (by omega) (by omega)]
    by_cases hl : i + 1 < ls.length
    · have := s3 hl
      rw [if_pos (by omega), least_eq i (by omega), Option.bind_some, if_neg (by omega)]; rfl
    · rw [if_neg (by omega)]; rfl
  · unfold law07_ExpiryShape_s0
    simp only
    rw [if_neg (by omega)]
theorem law07_ExpiryShape_true (p1 : Int) (p2 : List (Int × Int)) (p3 : Int × Int × Int) (h1 : I64 p1) (h2 : p2.length ≤ 9223372036854775807 ∧ Deeds p2) (h3 : U64 p3.1 ∧ U64 p3.2.1 ∧ U64 p3.2.2) :
    law07_ExpiryShape p1 p2 p3 = some true := by
  obtain ⟨a, b, c⟩ := p3
  obtain ⟨⟨ha1, ha2⟩, ⟨hb1, hb2⟩, hc1, hc2⟩ := h3
  obtain ⟨_, hd⟩ := h2
  simp only at ha1 ha2 hb1 hb2 hc1 hc2
  have hg := made_good p1 hd
  have hk := kM_le p1
  have hl := good_len (by omega) hg
  have hlv := hg.levels
  have hg2 := hg.drop (oldS_mono a b)
  unfold law07_ExpiryShape law07_made
  rw [awake7, Option.bind_some, made_eq h1.2 hd, Option.bind_some, last_eq hl, Option.bind_some, Option.bind_some]
  simp only
  rw [drop_eq hb1 ha2 hl (by omega), Option.bind_some]
  obtain ⟨T, hT⟩ : ∃ T, T = (lastP (madeM p1 p2)).1 := ⟨_, rfl⟩
  have hT0 : 0 ≤ T := hT ▸ hg.lastP_pos
  rw [← hT, hadd_eq (by omega) (by omega) hg2 hT0 hc1 hc2, Option.bind_some]
  by_cases hc : addC (dropM (oldS a b) (madeM p1 p2)) T c = 0
  · have hg3 := hg2.addL (by omega) hT0 hc1 hc
    have hw3 := hg3.wt
    simp only [if_pos hc, if_true, Option.bind_some]
    rw [shape_loop (by omega) hg3, Option.bind_some]
    simp only [Sum.elim_inr]
    rw [htotal_eq (by have := hg3.levels; omega) (by omega) (fun l hl => by have := shape_len hg3.shape l hl; omega), Option.bind_some]
    congr 1; rw [decide_eq_true_eq]; omega
  · have hw3 := hg2.wt
    simp only [if_neg hc, Option.bind_some]
    rw [shape_loop (by omega) hg2, Option.bind_some]
    simp only [Sum.elim_inr, if_true]
    rw [htotal_eq (by have := hg2.levels; omega) (by omega) (fun l hl => by have := shape_len hg2.shape l hl; omega), Option.bind_some]
    congr 1; rw [decide_eq_true_eq]; omega
end Go.Proofs.Ytbnjjpmlaknaoaa.Pu
