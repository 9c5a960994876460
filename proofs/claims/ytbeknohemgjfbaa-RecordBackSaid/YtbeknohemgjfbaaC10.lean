/- Histograms that are merged, by the reference: what comes of it may be a histogram. -/
import Derived.Test.YtbeknohemgjfbaaC09
namespace Go.Proofs.Ytbeknohemgjfbaa.Pu
set_option linter.unusedVariables false

/-! ### The one with the least tick -/
section
variable {L : List (Int × Int)} {d : List Bool}
/-- The least one of those ahead of a place that aren't done. -/
def lstM (L : List (Int × Int)) (d : List Bool) : Nat → Int
  | 0 => -1
  | i + 1 => if d.getD i true = true then lstM L d i else if lstM L d i < 0 then i else if (L.getD i (0, 0)).1 < (L.getD (lstM L d i).toNat (0, 0)).1 then i else lstM L d i
theorem lstM_spec (hd : d.length = L.length) : ∀ i, i ≤ L.length → -1 ≤ lstM L d i ∧ lstM L d i < i ∧
    ((lstM L d i < 0 ∧ ∀ j, j < i → d.getD j true = true) ∨ (0 ≤ lstM L d i ∧ d.getD (lstM L d i).toNat true = false ∧ ∀ j, j < i → d.getD j true = false → (L.getD (lstM L d i).toNat (0, 0)).1 ≤ (L.getD j (0, 0)).1)) := by
  intro i
  induction i with
  | zero => intro _; exact ⟨Int.le_refl _, (show (-1 : Int) < ((0 : Nat) : Int) by decide), .inl ⟨(show (-1 : Int) < 0 by decide), fun j hj => by omega⟩⟩
  | succ i ih =>
    intro hi
    obtain ⟨h1, h2, h3⟩ := ih (by omega)
    rw [lstM]
    by_cases c1 : d.getD i true = true
    · rw [if_pos c1]
      refine ⟨h1, by omega, ?_⟩
      rcases h3 with ⟨a, b⟩ | ⟨a, b, c⟩
      · refine .inl ⟨a, fun j hj => ?_⟩
        by_cases e : j = i
        · rw [e]; exact c1
        · exact b j (by omega)
      · refine .inr ⟨a, b, fun j hj hf => ?_⟩
        by_cases e : j = i
        · rw [e, c1] at hf; cases hf
        · exact c j (by omega) hf
    · rw [if_neg c1]
      have c1' : d.getD i true = false := by simpa using c1
      by_cases c2 : lstM L d i < 0
      · rw [if_pos c2]
        refine ⟨by omega, by omega, .inr ⟨by omega, by rw [Int.toNat_natCast]; exact c1', fun j hj hf => ?_⟩⟩
        rcases h3 with ⟨a, b⟩ | ⟨a, b, c⟩
        · by_cases e : j = i
          · rw [e, Int.toNat_natCast]; exact Int.le_refl _
          · rw [b j (by omega)] at hf; cases hf
        · omega
      · rw [if_neg c2]
        rcases h3 with ⟨a, b⟩ | ⟨a, b, c⟩
        · exact absurd a c2
        · by_cases c3 : (L.getD i (0, 0)).1 < (L.getD (lstM L d i).toNat (0, 0)).1
          · rw [if_pos c3]
            refine ⟨by omega, by omega, .inr ⟨by omega, by rw [Int.toNat_natCast]; exact c1', fun j hj hf => ?_⟩⟩
            rw [Int.toNat_natCast]
            by_cases e : j = i
            · rw [e]; exact Int.le_refl _
            · have := c j (by omega) hf; omega
          · rw [if_neg c3]
            refine ⟨h1, by omega, .inr ⟨a, b, fun j hj hf => ?_⟩⟩
            by_cases e : j = i
            · rw [e]; omega
            · exact c j (by omega) hf
theorem getD_at {α : Type} {l : List α} {i : Nat} {x : α} (h : i < l.length) : l.getD i x = l[i] := by rw [List.getD_eq_getElem?_getD, List.getElem?_eq_getElem h]; rfl
theorem least10_eq (hd : d.length = L.length) (hL : L.length ≤ 1000000000) : ref10_least L d = some (lstM L d L.length) := by
  unfold ref10_least
  have := loopO_run (step := ref10_least_s0 L d) (fun i => (lstM L d i, (i : Int))) L.length (r := lstM L d L.length) (fun i hi => ?_) ?_
  · have h0 : loopO (ref10_least_s0 L d) ((-1 : Int), (0 : Int)) = some (lstM L d L.length) := this
    rw [h0]; rfl
  · obtain ⟨h1, h2, h3⟩ := lstM_spec hd i (by omega)
    unfold ref10_least_s0
    simp only
    rw [if_pos (by omega), rdo_get (by omega), Option.bind_some, wi64_of (by omega) (by omega), lstM, getD_at (x := true) (show i < d.length by omega)]
    by_cases c1 : d[i] = true
    · rw [if_neg (by simp [c1]), if_pos c1]
      rfl
    · rw [if_pos c1, if_neg c1]
      by_cases c2 : lstM L d i < 0
      · rw [if_pos c2, if_pos c2]
        rfl
      · have e1 : ((lstM L d i).toNat : Int) = lstM L d i := Int.toNat_of_nonneg (by omega)
        have hq : (lstM L d i).toNat < L.length := by omega
        have hr : rdo L (lstM L d i) = some (L[(lstM L d i).toNat]) := by have h := rdo_get (xs := L) hq; rw [e1] at h; exact h
        rw [if_neg c2, if_neg c2, rdo_get hi, Option.bind_some, hr, Option.bind_some, getD_at (x := (0, 0)) hi, getD_at (x := (0, 0)) hq]
        by_cases c3 : (L[i]).1 < (L[(lstM L d i).toNat]).1
        · rw [if_pos c3, if_pos c3]; rfl
        · rw [if_neg c3, if_neg c3]; rfl
  · unfold ref10_least_s0
    simp only
    rw [if_neg (by omega)]
/-- The weight of those that aren't done; how many these are. -/
def undW : List (Int × Int) → List Bool → Int
  | x :: L, b :: d => (if b = true then 0 else x.2) + undW L d
  | _, _ => 0
def undN : List (Int × Int) → List Bool → Nat
  | x :: L, b :: d => (if b = true then 0 else 1) + undN L d
  | _, _ => 0
theorem und_set : ∀ (L : List (Int × Int)) (d : List Bool) (i : Nat) (hi : i < L.length), d.length = L.length → d.getD i true = false → undW L (d.set i true) = undW L d - L[i].2 ∧ undN L (d.set i true) + 1 = undN L d := by
  intro L
  induction L with
  | nil => intro d i hi; simp at hi
  | cons x L ih =>
    intro d i hi hd hf
    cases d with
    | nil => simp at hd
    | cons b d =>
      cases i with
      | zero =>
        have hb : b = false := hf
        subst hb
        simp only [List.set_cons_zero, undW, undN, List.getElem_cons_zero, if_true, Bool.false_eq_true, if_false]
        omega
      | succ i =>
        have hd' : d.length = L.length := by simpa using hd
        obtain ⟨h1, h2⟩ := ih d i (by simpa using hi) hd' hf
        simp only [List.set_cons_succ, undW, undN, List.getElem_cons_succ, h1]
        omega
theorem und_all : ∀ (L : List (Int × Int)) (d : List Bool), d.length = L.length → (∀ j, j < L.length → d.getD j true = true) → undN L d = 0 := by
  intro L
  induction L with
  | nil => intro d hd _; cases d with
    | nil => rfl
    | cons b d => simp at hd
  | cons x L ih =>
    intro d hd h
    cases d with
    | nil => simp at hd
    | cons b d =>
      have hb : b = true := h 0 (by simp)
      subst hb
      simp only [undN, if_true, Nat.zero_add]
      exact ih d (by simpa using hd) (fun j hj => h (j + 1) (by simpa using hj))
theorem und_new : ∀ (L : List (Int × Int)), undW L (List.replicate L.length false) = (L.map (·.2)).sum ∧ undN L (List.replicate L.length false) = L.length := by
  intro L
  induction L with
  | nil => exact ⟨rfl, rfl⟩
  | cons x L ih =>
    simp only [List.length_cons, List.replicate_succ, undW, undN, List.map_cons, List.sum_cons, ih.1, ih.2, Bool.false_eq_true, if_false]
    constructor
    · first | trivial | omega
    · omega
theorem und_ge : ∀ (L : List (Int × Int)) (d : List Bool), (∀ x ∈ L, 1 ≤ x.2) → ∀ i (hi : i < L.length), d.length = L.length → d.getD i true = false → L[i].2 ≤ undW L d := by
  intro L
  have nn : ∀ (L : List (Int × Int)) (d : List Bool), (∀ x ∈ L, 1 ≤ x.2) → 0 ≤ undW L d := by
    intro L
    induction L with
    | nil => intro d _; exact Int.le_refl 0
    | cons x L ih =>
      intro d h
      cases d with
      | nil => exact Int.le_refl 0
      | cons b d =>
        have h1 := h x List.mem_cons_self
        have h2 := ih d (fun y hy => h y (List.mem_cons_of_mem _ hy))
        rw [undW]
        split <;> omega
  induction L with
  | nil => intro d _ i hi; simp at hi
  | cons x L ih =>
    intro d h i hi hd hf
    cases d with
    | nil => simp at hd
    | cons b d =>
      have h1 := h x List.mem_cons_self
      cases i with
      | zero =>
        have hb : b = false := hf
        subst hb
        have := nn L d (fun y hy => h y (List.mem_cons_of_mem _ hy))
        simp only [undW, List.getElem_cons_zero, Bool.false_eq_true, if_false]
        omega
      | succ i =>
        have := ih d (fun y hy => h y (List.mem_cons_of_mem _ hy)) i (by simpa using hi) (by simpa using hd) hf
        simp only [undW, List.getElem_cons_succ]
        split <;> omega
end

/-! ### Weight that comes -/
theorem wt_addL {k : Nat} {ls : List (List Sp)} {t w : Int} (hw : 0 ≤ w) : (wt (addL k ls t w) : Int) = wt ls + w := by
  unfold addL
  rw [wt_flow, List.length_replicate]
  omega
theorem last_le' {k : Nat} {ls : List (List Sp)} {t0 t : Int} (h : Good k ls t0) (ht : t0 ≤ t) : ∀ x, lastM ls = some x → x ≤ t := fun x hx => by have := h.last_le hx; omega
theorem addC_ok {k : Nat} {ls : List (List Sp)} {t0 t w : Int} (h : Good k ls t0) (ht : t0 ≤ t) (h2 : t ≤ 9223372036854775807) (hw : 1 ≤ w) (hs : w + wt ls ≤ 4503599627370496) : addC ls t w = 0 := by
  unfold addC
  rw [if_neg (by omega), if_neg, if_neg (by omega)]
  rintro (q | q)
  · omega
  · cases hl : lastM ls with
    | none => rw [hl] at q; simp at q
    | some x =>
      rw [hl] at q
      simp only [Option.any_some, decide_eq_true_eq] at q
      have := last_le' h ht x hl
      omega
/-- All lumps come, the one with the least tick first. -/
theorem lumps_come {k : Nat} (hk1 : 1 ≤ k) (hk : k ≤ 1048576) {L : List (Int × Int)} {W : Nat} (hL : L.length ≤ 1000000000) (hp : ∀ x ∈ L, (0 ≤ x.1 ∧ x.1 ≤ 9223372036854775807) ∧ 1 ≤ x.2) (hW : W ≤ 4503599627370496) :
    ∀ (n i : Nat) (d : List Bool) (ls : List (List Sp)) (t0 : Int), undN L d = n → i + n = L.length → d.length = L.length → Good k ls t0 → Units ls → 0 ≤ t0 → (wt ls : Int) + undW L d = W → (∀ j, j < L.length → d.getD j true = false → t0 ≤ (L.getD j (0, 0)).1) →
      ∃ ls' t', loopO (ref10_With_s2 L) (d, (i : Int), (k : Int), (0 : Int), ls) = some ((k : Int), (0 : Int), ls') ∧ Good k ls' t' ∧ t' ≤ max t0 9223372036854775807 ∧ Units ls' ∧ wt ls' = W := by
  intro n
  induction n with
  | zero =>
    intro i d ls t0 hn hi hd hg hu h0 hsum hmin
    have hz : undW L d = 0 := by
      have : ∀ (L : List (Int × Int)) (d : List Bool), undN L d = 0 → undW L d = 0 := by
        intro L
        induction L with
        | nil => intro d _; rfl
        | cons x L ih =>
          intro d h
          cases d with
          | nil => rfl
          | cons b d =>
            rw [undN] at h
            rw [undW]
            cases b with
            | false => simp at h
            | true => simp only [if_true, Nat.zero_add] at h ⊢; rw [ih d h]; rfl
      exact this L d hn
    refine ⟨ls, t0, loopO_done ?_, hg, by omega, hu, by omega⟩
    unfold ref10_With_s2
    simp only
    rw [if_neg (by omega)]
  | succ n ih =>
    intro i d ls t0 hn hi hd hg hu h0 hsum hmin
    obtain ⟨s1, s2, s3⟩ := lstM_spec hd L.length (Nat.le_refl _)
    rcases s3 with ⟨a, b⟩ | ⟨a, b, c⟩
    · rw [und_all L d hd b] at hn; cases hn
    · have e1 : ((lstM L d L.length).toNat : Int) = lstM L d L.length := Int.toNat_of_nonneg a
      have hq : (lstM L d L.length).toNat < L.length := by omega
      have hqd : (lstM L d L.length).toNat < d.length := by omega
      generalize hqq : (lstM L d L.length).toNat = q at *
      obtain ⟨⟨p1, p2⟩, p3⟩ := hp L[q] (List.getElem_mem hq)
      have hge := und_ge L d (fun x hx => (hp x hx).2) q hq hd b
      have hle := hmin q hq b
      rw [getD_at hq] at hle
      have hac : addC ls L[q].1 L[q].2 = 0 := addC_ok hg hle p2 p3 (by omega)
      have hadd := add_eq (g := 0) hk1 hk hg p1 (show 0 ≤ L[q].2 by omega) (show L[q].2 < 18446744073709551616 by omega)
      rw [if_pos hac] at hadd
      obtain ⟨u1, u2⟩ := und_set L d q hq hd b
      have hstep : ref10_With_s2 L (d, (i : Int), (k : Int), (0 : Int), ls) = some (.inl (d.set q true, ((i + 1 : Nat) : Int), (k : Int), (0 : Int), addL k ls L[q].1 L[q].2)) := by
        unfold ref10_With_s2
        simp only
        rw [if_pos (by omega), least10_eq hd hL, Option.bind_some, ← e1, rdo_get hqd, Option.bind_some, rdo_get hq, Option.bind_some, hadd, Option.bind_some, wi64_of (by omega) (by omega), Int.toNat_natCast]
        rfl
      have hg2 := hg.addL hk1 p1 (by omega) hac
      have hw2 := wt_addL (k := k) (ls := ls) (t := L[q].1) (w := L[q].2) (by omega)
      obtain ⟨ls', t', r1, r2, r3, r4, r5⟩ := ih (i + 1) (d.set q true) (addL k ls L[q].1 L[q].2) L[q].1 (by omega) (by omega) (by rw [List.length_set]; exact hd) hg2 hu.addL p1 (by omega) (fun j hj hf => by
        have hf' : d.getD j true = false := by
          by_cases e : j = q
          · rw [e, List.getD_eq_getElem?_getD, List.getElem?_set_self (by omega)] at hf; cases hf
          · rw [List.getD_eq_getElem?_getD, List.getElem?_set_ne (by omega), ← List.getD_eq_getElem?_getD] at hf; exact hf
        have := c j hj hf'
        rw [getD_at hq] at this
        exact this)
      exact ⟨ls', t', by rw [loopO_next hstep]; exact r1, r2, by omega, r4, r5⟩

/-! ### Lumps -/
def lumpL (i : Nat) (l : List Sp) : List (Int × Int) := l.map fun s => (s.2, (2 : Int) ^ i)
/-- Levels from the last one down. -/
def lumpH (ls : List (List Sp)) : Nat → List (Int × Int)
  | 0 => []
  | m + 1 => lumpL m (ls.getD m []) ++ lumpH ls m
theorem shl_one {i : Nat} (h : i < 64) : wu64 (shlk 64 1 (i : Int)) = (2 : Int) ^ i := by
  unfold shlk
  rw [Int.toNat_natCast, Nat.min_eq_left (by omega), Int.one_mul]
  have h1 : (2 : Int) ^ i < 2 ^ 64 := by
    have : (2 : Nat) ^ i < 2 ^ 64 := Nat.pow_lt_pow_right (by decide) h
    exact_mod_cast this
  have h2 : (0 : Int) < 2 ^ i := Int.pow_pos (by decide)
  exact wu64_of (by omega) (by omega)
theorem lump_level {z : Int × Int × List (List Sp)} {i : Nat} (hi : i < z.2.2.length) (h64 : i < 64) (hl : z.2.2[i].length ≤ 100000) (acc0 : List (Int × Int)) : ∀ (l : List Sp) (j : Nat) (acc : List (Int × Int)), l = z.2.2[i].drop j → acc.length + l.length ≤ 100000000 →
    loopO (ref10_lumps_s2 z (acc0, (i : Int))) (acc, (j : Int)) = some (acc ++ lumpL i l) := by
  intro l
  induction l with
  | nil =>
    intro j acc hj _
    have hjl : z.2.2[i].length ≤ j := by
      have := congrArg List.length hj
      rw [List.length_drop, List.length_nil] at this
      omega
    unfold lumpL
    rw [List.map_nil, List.append_nil]
    refine loopO_done ?_
    unfold ref10_lumps_s2
    simp only
    rw [rdo_get hi, Option.bind_some, if_neg (by omega)]
  | cons s l ih =>
    intro j acc hj hacc
    rw [List.length_cons] at hacc
    have hjl : j < z.2.2[i].length := by
      rcases Nat.lt_or_ge j z.2.2[i].length with q | q
      · exact q
      · rw [List.drop_of_length_le q] at hj; cases hj
    rw [List.drop_eq_getElem_cons hjl] at hj
    obtain ⟨hs, hj⟩ := List.cons.inj hj
    have hstep : ref10_lumps_s2 z (acc0, (i : Int)) (acc, (j : Int)) = some (.inl (acc ++ [(s.2, (2 : Int) ^ i)], ((j + 1 : Nat) : Int))) := by
      unfold ref10_lumps_s2
      simp only
      rw [rdo_get hi, Option.bind_some, if_pos (by omega), rdo_get hjl, ← hs, Option.bind_some, room_of (by simp; omega) (by simp; omega), Option.bind_some, wi64_of (by omega) (by omega), shl_one h64]
      rfl
    rw [loopO_next hstep, ih (j + 1) _ hj (by simp; omega)]
    unfold lumpL
    simp
theorem lumpH_len (ls : List (List Sp)) {B : Nat} (hB : ∀ l ∈ ls, l.length ≤ B) : ∀ m, (lumpH ls m).length ≤ B * m := by
  intro m
  induction m with
  | zero => exact Nat.le_refl 0
  | succ m ih =>
    have : (ls.getD m []).length ≤ B := by
      rcases Nat.lt_or_ge m ls.length with q | q
      · rw [getD_at q]; exact hB _ (List.getElem_mem q)
      · rw [List.getD_eq_getElem?_getD, List.getElem?_eq_none q]; simp
    rw [lumpH, List.length_append, Nat.mul_succ]
    unfold lumpL
    rw [List.length_map]
    omega
theorem lump_hist {z : Int × Int × List (List Sp)} (hn : z.2.2.length ≤ 60) (hl : ∀ l ∈ z.2.2, l.length ≤ 100000) : ∀ (m : Nat) (acc : List (Int × Int)), m ≤ z.2.2.length → acc.length + 100000 * m ≤ 100000000 →
    loopO (ref10_lumps_s1 z) (acc, (m : Int) - 1) = some (acc ++ lumpH z.2.2 m) := by
  intro m
  induction m with
  | zero =>
    intro acc _ _
    rw [lumpH, List.append_nil]
    refine loopO_done ?_
    unfold ref10_lumps_s1
    simp only
    rw [if_neg (by omega)]
  | succ m ih =>
    intro acc hm hacc
    have hml : m < z.2.2.length := by omega
    have hlm := hl _ (List.getElem_mem hml)
    have e1 : ((m + 1 : Nat) : Int) - 1 = (m : Int) := by omega
    have hlev := lump_level (z := z) hml (by omega) hlm acc z.2.2[m] 0 acc rfl (by omega)
    have hstep : ref10_lumps_s1 z (acc, ((m + 1 : Nat) : Int) - 1) = some (.inl (acc ++ lumpL m z.2.2[m], (m : Int) - 1)) := by
      unfold ref10_lumps_s1
      simp only
      rw [e1, if_pos (by omega)]
      have : loopO (ref10_lumps_s2 z (acc, (m : Int))) (acc, (0 : Int)) = some (acc ++ lumpL m z.2.2[m]) := hlev
      rw [this, Option.bind_some, wi64_of (by omega) (by omega)]
    have hll : (lumpL m z.2.2[m]).length = z.2.2[m].length := by unfold lumpL; rw [List.length_map]
    rw [loopO_next hstep, ih _ (by omega) (by rw [List.length_append, hll]; omega), lumpH, getD_at hml, List.append_assoc]
/-- Two histograms' lumps. -/
theorem lumps_two {a b : Int × Int × List (List Sp)} (ha : a.2.2.length ≤ 60) (hal : ∀ l ∈ a.2.2, l.length ≤ 100000) (hb : b.2.2.length ≤ 60) (hbl : ∀ l ∈ b.2.2, l.length ≤ 100000) :
    ref10_lumps [a, b] = some (lumpH a.2.2 a.2.2.length ++ lumpH b.2.2 b.2.2.length) := by
  have hla := lumpH_len a.2.2 hal a.2.2.length
  have s : ∀ (z : Int × Int × List (List Sp)) (i : Nat) (acc : List (Int × Int)), [a, b][i]? = some z → z.2.2.length ≤ 60 → (∀ l ∈ z.2.2, l.length ≤ 100000) → acc.length ≤ 10000000 → ref10_lumps_s0 [a, b] (acc, (i : Int)) = some (.inl (acc ++ lumpH z.2.2 z.2.2.length, ((i + 1 : Nat) : Int))) := by
    intro z i acc hz h1 h2 h3
    have hi := (List.getElem?_eq_some_iff.1 hz).1
    simp only [List.length_cons, List.length_nil] at hi
    unfold ref10_lumps_s0
    simp only
    rw [if_pos (by simp only [List.length_cons, List.length_nil]; omega), rdo_nat, hz, Option.bind_some, wi64_of (x := (z.2.2.length : Int) - 1) (by omega) (by omega), lump_hist h1 h2 z.2.2.length acc (Nat.le_refl _) (by omega), Option.bind_some, wi64_of (by omega) (by omega)]
    rfl
  unfold ref10_lumps
  have s0 := s a 0 [] rfl ha hal (by simp)
  have s1 := s b 1 ([] ++ lumpH a.2.2 a.2.2.length) rfl hb hbl (by simp only [List.nil_append]; omega)
  have hl : loopO (ref10_lumps_s0 [a, b]) (([] : List (Int × Int)), (0 : Int)) = some (lumpH a.2.2 a.2.2.length ++ lumpH b.2.2 b.2.2.length) := by
    rw [show (([] : List (Int × Int)), (0 : Int)) = (([] : List (Int × Int)), ((0 : Nat) : Int)) from rfl, loopO_next s0, loopO_next s1]
    refine loopO_done ?_
    unfold ref10_lumps_s0
    simp only
    rw [if_neg (by simp)]
    rfl
  rw [hl]
  rfl
theorem lumpH_pos {ls : List (List Sp)} (hp : ∀ l ∈ ls, ∀ s ∈ l, 0 ≤ s.2 ∧ s.2 ≤ 9223372036854775807) : ∀ m, ∀ x ∈ lumpH ls m, (0 ≤ x.1 ∧ x.1 ≤ 9223372036854775807) ∧ 1 ≤ x.2 := by
  intro m
  induction m with
  | zero => intro x hx; cases hx
  | succ m ih =>
    intro x hx
    rw [lumpH] at hx
    rcases List.mem_append.1 hx with q | q
    · unfold lumpL at q
      obtain ⟨s, hs, rfl⟩ := List.mem_map.1 q
      have hm : m < ls.length := by
        rcases Nat.lt_or_ge m ls.length with q2 | q2
        · exact q2
        · rw [List.getD_eq_getElem?_getD, List.getElem?_eq_none q2] at hs; simp at hs
      rw [getD_at hm] at hs
      exact ⟨hp _ (List.getElem_mem hm) s hs, Int.pow_pos (by decide : (0 : Int) < 2)⟩
    · exact ih x q
theorem lumpH_sum (ls : List (List Sp)) : ((lumpH ls ls.length).map (·.2)).sum = (wt ls : Int) := by
  have hL : ∀ (i : Nat) (l : List Sp), ((lumpL i l).map (·.2)).sum = (l.length : Int) * 2 ^ i := by
    intro i l
    unfold lumpL
    induction l with
    | nil => simp
    | cons s l ih =>
      simp only [List.map_cons, List.sum_cons, ih, List.length_cons]
      rw [show ((l.length + 1 : Nat) : Int) = (l.length : Int) + 1 by omega, Int.add_mul]
      omega
  have key : ∀ m, m ≤ ls.length → ((lumpH ls m).map (·.2)).sum = (wt (ls.take m) : Int) := by
    intro m
    induction m with
    | zero => intro _; simp [lumpH, wt]
    | succ m ih =>
      intro hm
      have wapp : ∀ (a : List (List Sp)) (l : List Sp), wt (a ++ [l]) = wt a + l.length * 2 ^ a.length := by
        intro a
        induction a with
        | nil => intro l; simp [wt]
        | cons x a ih =>
          intro l
          rw [List.cons_append, wt, wt, ih l, List.length_cons, Nat.pow_succ, ← Nat.mul_assoc]
          generalize l.length * 2 ^ a.length = q
          omega
      rw [lumpH, List.map_append, List.sum_append, hL, ih (by omega), getD_at (by omega), List.take_succ_eq_append_getElem (by omega), wapp, List.length_take, Nat.min_eq_left (by omega)]
      push_cast
      omega
  have := key ls.length (Nat.le_refl _)
  rwa [List.take_length] at this
end Go.Proofs.Ytbeknohemgjfbaa.Pu
