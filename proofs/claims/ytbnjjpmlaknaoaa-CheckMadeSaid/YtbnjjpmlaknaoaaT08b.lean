/- The laws of chapter 08, in plain words: THE BOUND; what is sure and what is cut. -/
import Derived.Test.YtbnjjpmlaknaoaaH9
import Derived.Test.YtbnjjpmlaknaoaaT08
namespace Go.Proofs.Ytbnjjpmlaknaoaa.Pu
set_option linter.unusedVariables false

theorem exact_loop {tick span : Int} (hsp : 0 ≤ span) (htk : tick < 18446744073709551616) {k : Nat} (hk1 : 1 ≤ k) (hk : k ≤ 1048576) {p2 : List (Int × Int)} (hd : Deeds p2) : ∀ (ds : List (Int × Int)) (i : Nat) (t t0 : Int) (ls : List (List Sp)) (n : Nat), ds = (p2.take 30).drop i → 0 ≤ t → t ≤ 1000 * i → t0 ≤ t → Good k ls t0 → n ≤ wt ls →
    loopO (ref08_Exact_s0 p2 tick span) (t, (n : Int), (i : Int), (k : Int), 0, ls) = some ((exactS tick span k ds t ls n : Nat) : Int) := by
  intro ds
  induction ds with
  | nil =>
    intro i t t0 ls n hds h0 hti ht hg hn
    have hi : p2.length ≤ i ∨ 30 ≤ i := by
      have := congrArg List.length hds
      simp only [List.length_nil, List.length_drop, List.length_take] at this
      omega
    apply loopO_done
    unfold ref08_Exact_s0
    simp only
    rcases hi with h | h
    · rw [if_neg (by omega)]; rfl
    · rw [if_neg (c := (i : Int) < 30) (by omega), ite_self]; rfl
  | cons d ds ih =>
    intro i t t0 ls n hds h0 hti ht hg hn
    have hi : i < (p2.take 30).length := by
      have := congrArg List.length hds
      simp only [List.length_cons, List.length_drop] at this
      omega
    have hi2 : i < p2.length ∧ i < 30 := by rw [List.length_take] at hi; omega
    rw [List.drop_eq_getElem_cons hi] at hds
    obtain ⟨hd1, hd2⟩ := List.cons.inj hds
    rw [List.getElem_take] at hd1
    have hmem := hd d (hd1 ▸ List.getElem_mem hi2.1)
    have e1 : d.1.tmod 1000 = d.1 % 1000 := Int.tmod_eq_emod_of_nonneg hmem.1.1
    have hlt : d.1 % 1000 < 1000 := Int.emod_lt_of_pos _ (by decide)
    have hge : 0 ≤ d.1 % 1000 := Int.emod_nonneg _ (by decide)
    have e2 : wu64 (t + d.1 % 1000) = t + d.1 % 1000 := wu64_of (by omega) (by omega)
    have hadd := add_eq (k := k) (g := 0) (t := t + d.1 % 1000) (w := d.2) hk1 hk hg (by omega) hmem.2.1 hmem.2.2
    have hwt := hg.wt
    rw [exactS]
    by_cases hc : addC ls (t + d.1 % 1000) d.2 = 0
    · have hg' := hg.addL hk1 (by omega) hmem.2.1 hc
      have hz := addC_zero hc
      have hwt' : wt (addL k ls (t + d.1 % 1000) d.2) = wt ls + d.2.toNat := by unfold addL; rw [wt_flow, List.length_replicate]
      have hstep : ref08_Exact_s0 p2 tick span (t, (n : Int), (i : Int), (k : Int), 0, ls) = some (.inl (t + d.1 % 1000, ((if wiT tick span (t + d.1 % 1000) then n + d.2.toNat else n : Nat) : Int), ((i + 1 : Nat) : Int), (k : Int), 0, addL k ls (t + d.1 % 1000) d.2)) := by
        unfold ref08_Exact_s0
        simp only
        rw [if_pos (by omega), if_pos (by omega), rdo_get hi2.1, Option.bind_some, ← hd1, e1, e2, hadd, Option.bind_some, wi64_of (by omega) (by omega)]
        simp only [if_pos hc, if_true]
        rw [within_eq hsp htk, Option.bind_some]
        by_cases hw : wiT tick span (t + d.1 % 1000) = true
        · rw [if_pos hw, if_pos hw, wu64_of (by omega) (by omega)]
          refine congrArg some (congrArg Sum.inl (Prod.ext rfl (Prod.ext ?_ rfl)))
          simp only; omega
        · rw [if_neg hw, if_neg hw]; rfl
      rw [loopO_next hstep, if_pos hc]
      refine ih (i + 1) _ _ _ _ hd2 (by omega) (by omega) (Int.le_refl _) hg' ?_
      rw [hwt']
      split <;> omega
    · have hstep : ref08_Exact_s0 p2 tick span (t, (n : Int), (i : Int), (k : Int), 0, ls) = some (.inl (t + d.1 % 1000, (n : Int), ((i + 1 : Nat) : Int), (k : Int), 0, ls)) := by
        unfold ref08_Exact_s0
        simp only
        rw [if_pos (by omega), if_pos (by omega), rdo_get hi2.1, Option.bind_some, ← hd1, e1, e2, hadd, Option.bind_some, wi64_of (by omega) (by omega)]
        simp only [if_neg hc]
        rfl
      rw [loopO_next hstep, if_neg hc]
      exact ih (i + 1) _ t0 _ _ hd2 (by omega) (by omega) (by omega) hg hn
theorem exact_eq {p1 tick span : Int} {p2 : List (Int × Int)} (h1 : p1 < 9223372036854775808) (hd : Deeds p2) (hsp : 0 ≤ span) (htk : tick < 18446744073709551616) : ref08_Exact p1 p2 tick span = some ((exactS tick span (kM p1) (p2.take 30) 0 [] 0 : Nat) : Int) := by
  unfold ref08_Exact
  have hk := kM_le p1
  have e1 : (max p1 0).tmod 30 = ((max p1 0).toNat % 30 : Nat) := by rw [Int.tmod_eq_emod_of_nonneg (by omega)]; omega
  have e2 : wi64 (2 + (max p1 0).tmod 30) = (kM p1 : Int) := by
    rw [e1, wi64_of (by omega) (by omega)]; unfold kM; omega
  rw [e2]
  have := exact_loop hsp htk (k := kM p1) (by omega) (by omega) hd _ 0 0 0 [] 0 rfl (Int.le_refl 0) (by simp) (Int.le_refl 0) (Good.nil _ 0) (Nat.zero_le _)
  have h' : loopO (ref08_Exact_s0 p2 tick span) ((0 : Int), (0 : Int), (0 : Int), (kM p1 : Int), (0 : Int), ([] : List (List Sp))) = some ((exactS tick span (kM p1) (p2.take 30) 0 [] 0 : Nat) : Int) := this
  rw [h', Option.bind_some]
theorem law08_EstimateParts_true (p1 : Int) (p2 : List (Int × Int)) (p3 : Int × Int) (h1 : I64 p1) (h2 : p2.length ≤ 9223372036854775807 ∧ Deeds p2) (h3 : U64 p3.1 ∧ U64 p3.2) :
    law08_EstimateParts p1 p2 p3 = some true := by
  obtain ⟨a, b⟩ := p3
  obtain ⟨⟨ha1, ha2⟩, hb1, hb2⟩ := h3
  obtain ⟨_, hd⟩ := h2
  simp only at ha1 ha2 hb1 hb2
  have hg := made_good p1 hd
  have hk := kM_le p1
  have hl := good_len (by omega) hg
  obtain ⟨G, g1, g2, g3⟩ := ghost_made (tick := a) (span := b) p1 hd
  have hGl : ∀ l ∈ G, ∀ x ∈ l, x.1.1 ≤ x.1.2 := fun l hl x hx => good_line hg (l.map (·.1)) (by rw [← g1]; exact List.mem_map.2 ⟨l, hl, rfl⟩) x.1 (List.mem_map.2 ⟨x, hx, rfl⟩)
  obtain ⟨i1, i2⟩ := all_parts hGl g2
  rw [g1, g3] at i1 i2
  have b1 := wtP_le (sureP a b) (madeM p1 p2)
  have b2 := wtP_le (cutP a b) (madeM p1 p2)
  have hwt := hg.wt
  unfold law08_EstimateParts law08_made
  rw [awake8, Option.bind_some, made_eq h1.2 hd, Option.bind_some, Option.bind_some]
  simp only
  rw [eparts_eq hb1 ha2 hg.levels hl hg.wt, Option.bind_some, exact_eq h1.2 hd hb1 ha2, Option.bind_some, if_pos trivial]
  simp only [Nat.pow_zero, Nat.one_mul] at i1 i2
  rw [if_pos (by omega), wu64_of (by omega) (by omega), if_pos (by omega)]
  by_cases hc : 0 < wtP (cutP a b) (madeM p1 p2)
  · rw [if_pos (by omega)]
  · rw [if_neg (by omega)]
    congr 1
    rw [decide_eq_true_eq]
    omega
theorem law08_EstimateBound_true (p1 : Int) (p2 : List (Int × Int)) (p3 : Int × Int) (h1 : I64 p1) (h2 : p2.length ≤ 9223372036854775807 ∧ Deeds p2) (h3 : U64 p3.1 ∧ U64 p3.2) :
    law08_EstimateBound p1 p2 p3 = some true := by
  obtain ⟨a, b⟩ := p3
  obtain ⟨⟨ha1, ha2⟩, hb1, hb2⟩ := h3
  obtain ⟨_, hd⟩ := h2
  simp only at ha1 ha2 hb1 hb2
  have hg := made_good p1 hd
  have hk := kM_le p1
  have hl := good_len (by omega) hg
  obtain ⟨G, g1, g2, g3⟩ := ghost_made (tick := a) (span := b) p1 hd
  have hGl : ∀ l ∈ G, ∀ x ∈ l, x.1.1 ≤ x.1.2 := fun l hl x hx => good_line hg (l.map (·.1)) (by rw [← g1]; exact List.mem_map.2 ⟨l, hl, rfl⟩) x.1 (List.mem_map.2 ⟨x, hx, rfl⟩)
  obtain ⟨i1, i2⟩ := all_parts hGl g2
  have hcut := cut_bound (k := kM p1) (i := 0) (W := 0) g2 (by rw [g1]; exact hg.turn) (by rw [g1]; exact hg.shape) (.inl rfl)
  rw [g1, g3] at i1 i2 hcut
  have b1 := wtP_le (sureP a b) (madeM p1 p2)
  have b2 := wtP_le (cutP a b) (madeM p1 p2)
  have hwt := hg.wt
  simp only [Nat.pow_zero, Nat.one_mul] at i1 i2 hcut
  generalize hS : wtP (sureP a b) (madeM p1 p2) = S at *
  generalize hC : wtP (cutP a b) (madeM p1 p2) = C at *
  generalize hR : exactS a b (kM p1) (p2.take 30) 0 [] 0 = R at *
  have hE : ofM a b (madeM p1 p2) = S + C / 2 := by unfold ofM; rw [hS, hC]
  obtain ⟨k, hk0⟩ : ∃ k, k + 1 = kM p1 := ⟨kM p1 - 1, by omega⟩
  have key : k * R ≤ (k + 1) * (S + C / 2) ∧ (k + 1) * (S + C / 2) ≤ (k + 2) * R := by
    rcases hcut with ⟨q1, q2⟩ | ⟨j, c, q1, q2, q3, q4, q5, q6⟩
    · rw [q1, q2]
      simp only [Nat.zero_div, Nat.add_zero]
      exact ⟨Nat.mul_le_mul_right _ (by omega), Nat.mul_le_mul_right _ (by omega)⟩
    · obtain ⟨j', rfl⟩ : ∃ j', j = j' + 1 := ⟨j - 1, by omega⟩
      rw [Nat.pow_succ] at q2 q5 q6
      generalize (2 : Nat) ^ j' = h at *
      have e1 : C / 2 = h := by omega
      rw [e1, q3]
      rw [← hk0, Nat.zero_add] at q6
      have q7 : (k + 1) * h ≤ S := by
        have : (k + 1) * (h * 2) = (k + 1) * h * 2 := by rw [Nat.mul_assoc]
        omega
      have q8 : k * h + h = (k + 1) * h := by rw [Nat.add_mul, Nat.one_mul]
      have q9 : k * c ≤ k * (2 * h) := Nat.mul_le_mul_left _ (by omega)
      have q10 : k * (2 * h) = 2 * (k * h) := by rw [Nat.mul_left_comm]
      simp only [Nat.mul_add, Nat.add_mul, Nat.one_mul] at *
      constructor <;> omega
  have hR2 : R ≤ 9007199254740992 := by omega
  have hk2 : k ≤ 30 := by omega
  have m1 : k * R ≤ 30 * 9007199254740992 := Nat.mul_le_mul hk2 hR2
  have m2 : (k + 1) * (S + C / 2) ≤ 31 * 9007199254740992 := Nat.mul_le_mul (by omega) (by omega)
  have m3 : (k + 2) * R ≤ 32 * 9007199254740992 := Nat.mul_le_mul (by omega) hR2
  unfold law08_EstimateBound law08_made
  rw [awake8, Option.bind_some, made_eq h1.2 hd, Option.bind_some, Option.bind_some]
  simp only
  rw [eof_eq hb1 ha2 hg.levels hl hg.wt, Option.bind_some, exact_eq h1.2 hd hb1 ha2, Option.bind_some, if_pos trivial, hE, hR, ← hk0]
  have c1 : wu64 (((k + 1 : Nat) : Int)) = ((k + 1 : Nat) : Int) := wu64_of (by omega) (by omega)
  have c2 : wu64 (((k + 1 : Nat) : Int) - 1) = (k : Int) := by rw [wu64_of (by omega) (by omega)]; omega
  have c3 : wu64 (((k + 1 : Nat) : Int) + 1) = ((k + 2 : Nat) : Int) := by rw [wu64_of (by omega) (by omega)]; omega
  rw [c1, c2, c3, ← Int.natCast_mul, ← Int.natCast_mul, ← Int.natCast_mul, wu64_of (x := ((k * R : Nat) : Int)) (by omega) (by omega), wu64_of (x := (((k + 1) * (S + C / 2) : Nat) : Int)) (by omega) (by omega), wu64_of (x := (((k + 2) * R : Nat) : Int)) (by omega) (by omega)]
  rw [if_pos (Int.ofNat_le.2 key.1)]
  congr 1
  rw [decide_eq_true_eq]
  exact Int.ofNat_le.2 key.2
end Go.Proofs.Ytbnjjpmlaknaoaa.Pu
