/- The laws of chapter 09, in plain words: whether it may be; what was made may be; the bound. -/
import Derived.Test.YtbnjjpmlaknaoaaH10
import Derived.Test.YtbnjjpmlaknaoaaT08b
namespace Go.Proofs.Ytbnjjpmlaknaoaa.Pu
set_option linter.unusedVariables false

theorem made_awake9 : madeM 0 [(1, 4)] = [[(1, 1), (1, 1)], [(1, 1)]] := by
  have e1 : addL 2 [] 1 4 = [[(1, 1), (1, 1)], [(1, 1)]] := flow_of (n := 8) rfl
  unfold madeM
  rw [kM_zero]
  show madeS 2 [(1, 4)] 0 [] = _
  rw [madeS, show (0 : Int) + 1 % 1000 = 1 from rfl, show addC [] 1 4 = 0 from rfl, if_pos rfl, e1, madeS]
theorem deeds_awake9 : Deeds [(1, 4)] := by intro d hd; simp at hd; subst hd; decide
theorem awake9 : law09_awake = some true := by
  unfold law09_awake law09_made
  have hg := made_good 0 deeds_awake9
  have hu := made_units 0 [(1, 4)]
  have hm := good_may (by decide) (by decide) hg hu (by decide)
  rw [kM_zero, made_awake9] at hm
  rw [made_eq (by decide) deeds_awake9, Option.bind_some, kM_zero, made_awake9]
  simp only [Option.bind_some]
  rw [hm, Option.bind_some, if_pos rfl, chist_eq (by decide) (by decide), Option.bind_some, if_pos (by decide), buckets_eq (by decide) (by decide), Option.bind_some, if_pos (by decide)]
  have hb := cbound_eq (K := 2) (g := 0) (n := 4) (by decide)
  have hb' : check_Bound (2 : Int) (0 : Int) (4 : Int) = some 9 := by
    rw [show ((4 : Nat) : Int) = 4 from rfl] at hb
    rw [hb]
    unfold boundC
    rw [if_neg (by decide), if_neg (by decide), dg_f 3 4 (by decide)]
    rfl
  rw [hb', Option.bind_some, if_pos rfl, chist_eq (by decide) (by decide), Option.bind_some]
  decide
theorem law09_CheckMade_true (p1 : Int) (p2 : List (Int × Int)) (p3 : Int × Int) (h1 : I64 p1) (h2 : p2.length ≤ 9223372036854775807 ∧ Deeds p2) (h3 : U64 p3.1 ∧ U64 p3.2) : law09_CheckMade p1 p2 p3 = some true := by
  obtain ⟨a, b⟩ := p3
  obtain ⟨⟨ha1, ha2⟩, hb1, hb2⟩ := h3
  obtain ⟨_, hd⟩ := h2
  simp only at ha1 ha2 hb1 hb2
  have hg := made_good p1 hd
  have hk := kM_le p1
  have hl := good_len (by omega) hg
  have hlv := hg.levels
  have hu := made_units p1 p2
  unfold law09_CheckMade law09_made
  rw [awake9, Option.bind_some, made_eq h1.2 hd, Option.bind_some, Option.bind_some, if_pos rfl]
  simp only
  rw [good_may (by omega) (by omega) hg hu (by decide), Option.bind_some, if_pos rfl, drop_eq hb1 ha2 hl (by omega), Option.bind_some, good_may (by omega) (by omega) (hg.drop (oldS_mono a b)) hu.drop (by decide)]
  rfl
theorem few_eq {K g : Int} {ls : List (List Sp)} (hl : ls.length ≤ 9223372036854775807) (hll : ∀ l ∈ ls, l.length ≤ 9223372036854775807) : ∃ b, ref09_Few (K, g, ls) = some b ∧ (b = true → ls.length ≤ 60 ∧ ∀ l ∈ ls, l.length ≤ 40) := by
  have := loop_allS (step := ref09_Few_s0 (K, g, ls)) (r0 := .inl ()) (r1 := .inr ()) (fun i => (i : Int)) (min ls.length 61) (fun i => decide ((ls.getD i []).length ≤ 40)) (fun i hi => ?_) ?_
  · have h' : loopO (ref09_Few_s0 (K, g, ls)) (0 : Int) = some (if (List.range (min ls.length 61)).all (fun i => decide ((ls.getD i []).length ≤ 40)) then .inr () else .inl ()) := this
    unfold ref09_Few
    rw [h', Option.bind_some]
    cases hc : (List.range (min ls.length 61)).all (fun i => decide ((ls.getD i []).length ≤ 40)) with
    | false => exact ⟨false, rfl, fun q => by cases q⟩
    | true =>
      refine ⟨decide ((ls.length : Int) ≤ 60), rfl, fun q => ?_⟩
      rw [decide_eq_true_eq] at q
      refine ⟨by omega, fun l hl' => ?_⟩
      obtain ⟨i, hi, rfl⟩ := List.getElem_of_mem hl'
      have := List.all_eq_true.1 hc i (List.mem_range.2 (by omega))
      rw [decide_eq_true_eq, getD_lt hi] at this
      exact this
  · have hi2 : i < ls.length := by omega
    unfold ref09_Few_s0
    simp only
    rw [if_pos (by omega), if_pos (by omega), rdo_get hi2, Option.bind_some, getD_lt hi2, wi64_of (by omega) (by omega)]
    by_cases c : 40 < ls[i].length
    · rw [if_pos (by omega), decide_eq_false (by omega), if_neg (by simp)]
    · rw [if_neg (by omega), decide_eq_true (by omega), if_pos rfl]; rfl
  · unfold ref09_Few_s0
    simp only
    by_cases c : ls.length ≤ 61
    · rw [if_neg (by omega)]
    · rw [if_neg (c := ((min ls.length 61 : Nat) : Int) < 61) (by omega), ite_self]
theorem law09_CheckTells_true (p1 : Int × Int × List (List Sp)) (p2 : Int × Int) (p3 : Int) (h1 : I64 p1.1 ∧ I64 p1.2.1 ∧ (p1.2.2.length ≤ 9223372036854775807 ∧ ∀ l ∈ p1.2.2, (l.length ≤ 9223372036854775807 ∧ ∀ x ∈ l, U64 x.1 ∧ U64 x.2))) (h2 : I64 p2.1 ∧ I64 p2.2) (h3 : U64 p3) : law09_CheckTells p1 p2 p3 = some true := by
  obtain ⟨K, g, ls⟩ := p1
  obtain ⟨k0, k1⟩ := p2
  obtain ⟨_, _, hl, hll⟩ := h1
  simp only at hl hll
  obtain ⟨b, hb, hb2⟩ := few_eq (K := K) (g := g) hl (fun l hl' => (hll l hl').1)
  unfold law09_CheckTells law09_made
  rw [awake9, Option.bind_some, hb, Option.bind_some]
  cases b with
  | false => rw [if_pos (by simp)]
  | true =>
    obtain ⟨c1, c2⟩ := hb2 rfl
    have c3 : ∀ l ∈ ls, l.length ≤ 2000 := fun l hl' => by have := c2 l hl'; omega
    obtain ⟨n, rfl⟩ : ∃ n : Nat, p3 = (n : Int) := ⟨p3.toNat, by have := h3.1; omega⟩
    have hn : n < 18446744073709551616 := by have := h3.2; omega
    rw [if_neg (by simp), if_pos rfl, Option.bind_some, chist_eq (by omega) c3, Option.bind_some, rhist_eq (by omega) c3, Option.bind_some, if_pos rfl, buckets_eq (by omega) c3, Option.bind_some, rbuckets_eq (by omega) c3, Option.bind_some, if_pos rfl, cbound_eq hn, Option.bind_some, rbound_eq hn, Option.bind_some]
    simp
theorem boundC_mono {K g : Int} {n m : Nat} (h : n ≤ m) : boundC K g n ≤ boundC K g m := by
  unfold boundC
  by_cases hc : confB K g = true
  · obtain ⟨h1, h2, h3, h4⟩ := confB_spec.1 hc
    rw [if_neg (c := ¬ confB K g = true) (by simp [hc]), if_neg (c := ¬ confB K g = true) (by simp [hc])]
    by_cases h0 : n = 0
    · rw [if_pos h0]
      split
      · exact Int.le_refl _
      · exact Int.mul_nonneg (by omega) (by omega)
    · have := dg_mono n m h
      rw [if_neg h0, if_neg (by omega)]
      exact Int.mul_le_mul_of_nonneg_left (by omega) (by omega)
  · rw [if_pos (c := ¬ confB K g = true) hc, if_pos (c := ¬ confB K g = true) hc]
    split <;> split <;> exact Int.le_refl _
theorem law09_CheckGrows_true (p1 p2 : Int) (p3 : Int × Int) (h1 : I64 p1) (h2 : I64 p2) (h3 : U64 p3.1 ∧ U64 p3.2) : law09_CheckGrows p1 p2 p3 = some true := by
  obtain ⟨a, b⟩ := p3
  obtain ⟨⟨ha1, ha2⟩, hb1, hb2⟩ := h3
  obtain ⟨hp1, hp2⟩ := h1
  obtain ⟨hq1, hq2⟩ := h2
  simp only at ha1 ha2 hb1 hb2
  have e1 : (max p1 0).tmod 1023 = max p1 0 % 1023 := Int.tmod_eq_emod_of_nonneg (by omega)
  have e2 : (max p2 0).tmod 4 = max p2 0 % 4 := Int.tmod_eq_emod_of_nonneg (by omega)
  have e3 : a.tmod 4611686018427387904 = a % 4611686018427387904 := Int.tmod_eq_emod_of_nonneg ha1
  obtain ⟨x, hx⟩ : ∃ x, x = 2 + max p1 0 % 1023 := ⟨_, rfl⟩
  obtain ⟨g, hg⟩ : ∃ g, g = max p2 0 % 4 := ⟨_, rfl⟩
  obtain ⟨n, hn⟩ : ∃ n : Nat, 1 + a % 4611686018427387904 = (n : Int) := ⟨(1 + a % 4611686018427387904).toNat, by omega⟩
  have hx0 : 2 ≤ x ∧ x ≤ 1024 := by omega
  have hg0 : 0 ≤ g ∧ g ≤ 3 := by omega
  have hn0 : 1 ≤ n ∧ n ≤ 4611686018427387904 := by omega
  have em : min a b = ((min a b).toNat : Int) := by omega
  have eM : max a b = ((max a b).toNat : Int) := by omega
  have hc0 : confB x g = true := confB_spec.2 (by omega)
  have hc1 : confB x (g + 1) = true := confB_spec.2 (by omega)
  have d2 : dg (2 * n) = 1 + dg n := by rw [dg_pos (by omega)]; congr 2; omega
  have b0 : boundC x g n = (x + 1) * ((dg n : Int) + g) := by unfold boundC; rw [if_neg (by omega), if_neg (by simp [hc0])]
  have b1 : boundC x g (2 * n) = boundC x g n + x + 1 := by
    rw [b0]; unfold boundC; rw [if_neg (by omega), if_neg (by simp [hc0]), d2]
    rw [show (((1 + dg n : Nat) : Int) + g) = ((dg n : Int) + g) + 1 by omega, Int.mul_add, Int.mul_one]; omega
  have b2 : boundC x (g + 1) n = boundC x g n + x + 1 := by
    rw [b0]; unfold boundC; rw [if_neg (by omega), if_neg (by simp [hc1])]
    rw [show ((dg n : Int) + (g + 1)) = ((dg n : Int) + g) + 1 by omega, Int.mul_add, Int.mul_one]; omega
  have hbs := bound_small (n := n) (by omega) hc0
  rw [← b0] at hbs
  have hz := cbound_eq (K := x) (g := g) (n := 0) (by decide)
  have hz' : check_Bound x g 0 = some 0 := hz
  have hmono := boundC_mono (K := x) (g := g) (n := (min a b).toNat) (m := (max a b).toNat) (by omega)
  unfold law09_CheckGrows
  rw [awake9, Option.bind_some]
  simp only
  rw [e1, e2, e3, ← hx, ← hg, hn, wi64_of (x := x) (by omega) (by omega), wu64_of (x := (n : Int)) (by omega) (by omega), em, eM, cbound_eq (by omega), Option.bind_some, cbound_eq (by omega), Option.bind_some, cbound_eq (by omega), Option.bind_some, if_pos trivial, if_pos hmono]
  have e5 : wu64 (2 * (n : Int)) = ((2 * n : Nat) : Int) := by rw [wu64_of (by omega) (by omega)]; omega
  rw [e5, cbound_eq (by omega), Option.bind_some, wi64_of (x := boundC x g n + x) (by omega) (by omega), wi64_of (x := boundC x g n + x + 1) (by omega) (by omega), b1, if_pos rfl, wi64_of (x := g + 1) (by omega) (by omega), cbound_eq (by omega), Option.bind_some, b2, if_pos rfl, hz', Option.bind_some]
  rfl

/-! ### SMALL -/
theorem bound_loop {f w : Int} (hw0 : 0 ≤ w) (hf : f < 18446744073709551616) {k : Nat} (hk1 : 1 ≤ k) (hk : k ≤ 1048576) {p2 : List (Int × Int)} (hd : Deeds p2) : ∀ (ds : List (Int × Int)) (i : Nat) (t t0 : Int) (ls : List (List Sp)) (n : Nat), ds = (p2.take 30).drop i → 0 ≤ t → t ≤ 1000 * i → t0 ≤ t → Good k ls t0 → n ≤ wt ls →
    loopO (law09_CheckBound_s0 p2 (f, w)) (t, (n : Int), (i : Int), (k : Int), 0, ls) = some (((exactS f w k ds t ls n : Nat) : Int), (k : Int), 0, madeS k ds t ls) := by
  intro ds
  induction ds with
  | nil =>
    intro i t t0 ls n hds h0 hti ht hg hn
    have hi : p2.length ≤ i ∨ 30 ≤ i := by
      have := congrArg List.length hds
      simp only [List.length_nil, List.length_drop, List.length_take] at this
      omega
    apply loopO_done
    unfold law09_CheckBound_s0
    simp only
    rcases hi with h | h
    · rw [if_neg (by omega)]; rfl
    · rw [if_neg (c := (i : Int) < 30) (by omega), ite_self]; rfl
  | cons d ds ih =>
    intro i t t0 ls n hds h0 hti ht hg hn
    have hi : i < (p2.take 30).length := by
      have := congrArg List.length hds
      simp only [List.length_cons, List.length_drop] at this
      omega
    have hi2 : i < p2.length ∧ i < 30 := by rw [List.length_take] at hi; omega
    rw [List.drop_eq_getElem_cons hi] at hds
    obtain ⟨hd1, hd2⟩ := List.cons.inj hds
    rw [List.getElem_take] at hd1
    have hmem := hd d (hd1 ▸ List.getElem_mem hi2.1)
    have e1 : d.1.tmod 1000 = d.1 % 1000 := Int.tmod_eq_emod_of_nonneg hmem.1.1
    have hlt : d.1 % 1000 < 1000 := Int.emod_lt_of_pos _ (by decide)
    have hge : 0 ≤ d.1 % 1000 := Int.emod_nonneg _ (by decide)
    have e2 : wu64 (t + d.1 % 1000) = t + d.1 % 1000 := wu64_of (by omega) (by omega)
    have hadd := add_eq (k := k) (g := 0) (t := t + d.1 % 1000) (w := d.2) hk1 hk hg (by omega) hmem.2.1 hmem.2.2
    have hwt := hg.wt
    have how : wiT f w (t + d.1 % 1000) = !oldT f w (t + d.1 % 1000) := by
      unfold wiT oldT
      rw [← decide_not]
      exact decide_eq_decide.2 (by omega)
    rw [exactS, madeS]
    by_cases hc : addC ls (t + d.1 % 1000) d.2 = 0
    · have hg' := hg.addL hk1 (by omega) hmem.2.1 hc
      have hz := addC_zero hc
      have hwt' : wt (addL k ls (t + d.1 % 1000) d.2) = wt ls + d.2.toNat := by unfold addL; rw [wt_flow, List.length_replicate]
      have hstep : law09_CheckBound_s0 p2 (f, w) (t, (n : Int), (i : Int), (k : Int), 0, ls) = some (.inl (t + d.1 % 1000, ((if wiT f w (t + d.1 % 1000) then n + d.2.toNat else n : Nat) : Int), ((i + 1 : Nat) : Int), (k : Int), 0, addL k ls (t + d.1 % 1000) d.2)) := by
        unfold law09_CheckBound_s0
        simp only
        rw [if_pos (by omega), if_pos (by omega), rdo_get hi2.1, Option.bind_some, ← hd1, e1, e2, hadd, Option.bind_some, wi64_of (by omega) (by omega)]
        simp only [if_pos hc, if_true]
        rw [rold_eq hw0 hf, Option.bind_some, how]
        cases ho : oldT f w (t + d.1 % 1000) with
        | true =>
          rw [if_neg (by simp)]; rfl
        | false =>
          rw [if_pos (by simp), wu64_of (by omega) (by omega)]
          refine congrArg some (congrArg Sum.inl (Prod.ext rfl (Prod.ext ?_ rfl)))
          simp only [Bool.not_false, if_true]; omega
      rw [loopO_next hstep, if_pos hc, if_pos hc]
      refine ih (i + 1) _ _ _ _ hd2 (by omega) (by omega) (Int.le_refl _) hg' ?_
      rw [hwt']
      split <;> omega
    · have hstep : law09_CheckBound_s0 p2 (f, w) (t, (n : Int), (i : Int), (k : Int), 0, ls) = some (.inl (t + d.1 % 1000, (n : Int), ((i + 1 : Nat) : Int), (k : Int), 0, ls)) := by
        unfold law09_CheckBound_s0
        simp only
        rw [if_pos (by omega), if_pos (by omega), rdo_get hi2.1, Option.bind_some, ← hd1, e1, e2, hadd, Option.bind_some, wi64_of (by omega) (by omega)]
        simp only [if_neg hc]
        rfl
      rw [loopO_next hstep, if_neg hc, if_neg hc]
      exact ih (i + 1) _ t0 _ _ hd2 (by omega) (by omega) (by omega) hg hn
theorem wt_take_ge {k : Nat} (hk : 2 ≤ k) {ls : List (List Sp)} (h : shape k 0 ls) : ∀ m, 1 ≤ m → m < ls.length → 2 ^ m ≤ wt (ls.take m) := by
  intro m
  induction m with
  | zero => intro h0; omega
  | succ m ih =>
    intro _ hm
    obtain ⟨s1, s2, s3⟩ := shape_get h m (by omega)
    have s4 := s3 hm
    rw [Nat.zero_add] at s4
    rw [wt_take_succ ls (by omega)]
    by_cases h0 : m = 0
    · subst h0
      unfold mostN at s4
      rw [if_pos rfl] at s4
      simp only [List.take_zero, wt, Nat.pow_zero, Nat.one_mul]
      omega
    · have h1 := ih (by omega) (by omega)
      have h2 : 2 ^ m * 1 ≤ 2 ^ m * ls[m].length := Nat.mul_le_mul_left _ s1
      rw [Nat.pow_succ]
      omega
theorem left_bound {f w : Int} {k : Nat} (hk : 2 ≤ k) {ls : List (List Sp)} {t : Int} (h : Good k ls t) {G : List (List Gs)} (g1 : bare G = ls) (g2 : okL f w 0 G) : cnt (dropM (oldS f w) ls) ≤ (k + 1) * dg (tot G) := by
  obtain ⟨d, hd⟩ : ∃ d, d = dropM (oldS f w) ls := ⟨_, rfl⟩
  rw [← hd]
  have hgd := h.drop (oldS_mono f w)
  rw [← hd] at hgd
  have hdl := dropM_length (oldS f w) ls
  rw [← hd] at hdl
  have hc := cnt_le (ls := d) (B := k + 1) (shape_len hgd.shape)
  have hle := good_line h
  have hGl : ∀ l ∈ G, ∀ x ∈ l, x.1.1 ≤ x.1.2 := fun l hl x hx => hle (l.map (·.1)) (by rw [← g1]; exact List.mem_map.2 ⟨l, hl, rfl⟩) x.1 (List.mem_map.2 ⟨x, hx, rfl⟩)
  suffices hm : d.length ≤ dg (tot G) by
    have h1 : d.length * (k + 1) ≤ dg (tot G) * (k + 1) := Nat.mul_le_mul_right _ hm
    rw [Nat.mul_comm (k + 1)]
    omega
  rcases Nat.eq_zero_or_pos d.length with h0 | hpos
  · omega
  -- the last level's newest bucket is not old
  obtain ⟨m, hm⟩ : ∃ m, d.length = m + 1 := ⟨d.length - 1, by omega⟩
  have hmd : m < d.length := by omega
  have hml : m < ls.length := by omega
  have hst := stay_eq (oldS_mono f w) h.turn (shape_ne h.shape) hml
  rw [← hd, List.getElem?_eq_getElem hmd] at hst
  have hst' : d[m] = ls[m].dropWhile (oldS f w) := hst
  have hne := shape_ne hgd.shape _ (List.getElem_mem hmd)
  obtain ⟨b, hb, hbo⟩ : ∃ b ∈ ls[m], oldS f w b = false := by
    rw [hst', ← lead_drop] at hne
    have hlt : lead (oldS f w) ls[m] < ls[m].length := by
      rcases Nat.lt_or_ge (lead (oldS f w) ls[m]) ls[m].length with q | q
      · exact q
      · exact absurd (List.drop_of_length_le q) hne
    exact ⟨_, List.getElem_mem hlt, lead_at hlt⟩
  have how : ∀ x, oldT f w x = false → wiT f w x = true := fun x hx => by
    unfold wiT oldT at *
    rw [decide_eq_false_iff_not] at hx
    rw [decide_eq_true_eq]; omega
  have hbw : wiT f w b.2 = true := how _ hbo
  obtain ⟨i1, i2⟩ := all_parts hGl g2
  rw [g1] at i1 i2
  simp only [Nat.pow_zero, Nat.one_mul] at i1 i2
  rcases Nat.eq_zero_or_pos m with z | z
  · -- one level: one unit at least
    subst z
    have ht : 1 ≤ tot G := by
      have hG0 : 0 < G.length := by have := congrArg List.length g1; simp [bare] at this; omega
      obtain ⟨l0, G', rfl⟩ : ∃ l0 G', G = l0 :: G' := by
        cases G with
        | nil => simp at hG0
        | cons l G => exact ⟨l, G, rfl⟩
      have hb' : b ∈ l0.map (·.1) := by
        have : ls[0]'hml = l0.map (·.1) := by simp only [← g1]; rfl
        rw [this] at hb; exact hb
      obtain ⟨x, hx, rfl⟩ := List.mem_map.1 hb'
      obtain ⟨o1, o2, o3⟩ := g2.1 x hx
      have hx1 : 1 ≤ x.2 := by
        cases q : wiT f w x.1.1 with
        | true => rw [o1 q]; exact Nat.le_refl _
        | false => exact (o3 q hbw).1
      have hs : x.2 ≤ sumL l0 := by
        obtain ⟨s, r, rfl⟩ := List.append_of_mem hx
        rw [sumL_app, sumL_cons]; omega
      rw [tot]; omega
    have := dg_ge (n := tot G) (m := 0) ht
    omega
  · -- all levels below are within
    have hsure : ∀ l ∈ ls.take m, ∀ a ∈ l, sureP f w a = true := fun l hl a ha => by
      obtain ⟨i, hi, rfl⟩ := List.getElem_of_mem hl
      rw [List.length_take] at hi
      rw [List.getElem_take] at ha
      exact wiT_up (turn_levels h.turn (show i < m by omega) hml b hb a ha) hbw
    have h1 := wtP_all hsure
    have h2 := wtP_take_le (sureP f w) ls m
    have h3 := wt_take_ge hk h.shape m z hml
    have := dg_ge (n := tot G) (m := m) (by omega)
    omega
theorem law09_CheckBound_true (p1 : Int) (p2 : List (Int × Int)) (p3 : Int × Int) (h1 : I64 p1) (h2 : p2.length ≤ 9223372036854775807 ∧ Deeds p2) (h3 : U64 p3.1 ∧ U64 p3.2) : law09_CheckBound p1 p2 p3 = some true := by
  obtain ⟨a, b⟩ := p3
  obtain ⟨⟨ha1, ha2⟩, hb1, hb2⟩ := h3
  obtain ⟨_, hd⟩ := h2
  simp only at ha1 ha2 hb1 hb2
  have hg := made_good p1 hd
  have hk := kM_le p1
  have hl := good_len (by omega) hg
  have hlv := hg.levels
  obtain ⟨G, g1, g2, g3⟩ := ghost_made (tick := a) (span := b) p1 hd
  have hlb := left_bound (f := a) (w := b) (by omega) hg g1 g2
  have hGl : ∀ l ∈ G, ∀ x ∈ l, x.1.1 ≤ x.1.2 := fun l hl x hx => good_line hg (l.map (·.1)) (by rw [← g1]; exact List.mem_map.2 ⟨l, hl, rfl⟩) x.1 (List.mem_map.2 ⟨x, hx, rfl⟩)
  obtain ⟨i1, i2⟩ := all_parts hGl g2
  rw [g1] at i1 i2
  rw [g3] at hlb i1 i2
  have b1 := wtP_le (sureP a b) (madeM p1 p2)
  have b2 := wtP_le (cutP a b) (madeM p1 p2)
  have hwt := hg.wt
  have hgd := hg.drop (oldS_mono a b)
  simp only [Nat.pow_zero, Nat.one_mul] at i1 i2
  have hloop := bound_loop (f := a) (w := b) hb1 ha2 (k := kM p1) (by omega) (by omega) hd _ 0 0 0 [] 0 rfl (Int.le_refl 0) (by simp) (Int.le_refl 0) (Good.nil _ 0) (Nat.zero_le _)
  have h' : loopO (law09_CheckBound_s0 p2 (a, b)) ((0 : Int), (0 : Int), (0 : Int), (kM p1 : Int), (0 : Int), ([] : List (List Sp))) = some (((exactS a b (kM p1) (p2.take 30) 0 [] 0 : Nat) : Int), (kM p1 : Int), 0, madeM p1 p2) := hloop
  generalize exactS a b (kM p1) (p2.take 30) 0 [] 0 = R at *
  unfold law09_CheckBound law09_made
  rw [awake9, Option.bind_some, kM_new p1 h1.2, h', Option.bind_some, Option.bind_some]
  simp only
  rw [drop_eq hb1 ha2 hl (by omega), Option.bind_some, if_pos trivial, buckets_eq (by have := hgd.levels; omega) (fun l hl' => by have := shape_len hgd.shape l hl'; omega), Option.bind_some, cbound_eq (by omega), Option.bind_some]
  have hcb : confB (kM p1 : Int) 0 = true := confB_spec.2 (by omega)
  have hB : boundC (kM p1 : Int) 0 R = (((kM p1 + 1) * dg R : Nat) : Int) := by
    unfold boundC
    by_cases h0 : R = 0
    · rw [if_pos h0, h0, dg_zero]; simp
    · rw [if_neg h0, if_neg (by simp [hcb])]
      simp
  rw [hB, if_pos (Int.ofNat_le.2 hlb)]
  by_cases h0 : 0 < R
  · rw [if_pos (by omega)]
  · have hR0 : R = 0 := by omega
    rw [if_neg (by omega)]
    rw [hR0, dg_zero, Nat.mul_zero] at hlb
    congr 1
    rw [decide_eq_true_eq]
    omega
end Go.Proofs.Ytbnjjpmlaknaoaa.Pu
