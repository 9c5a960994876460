/- The laws of chapter 11, in plain words: puts, takes, the only form, lists. -/
import Derived.Test.YtbeknohemgjfbaaC11e
namespace Go.Proofs.Ytbeknohemgjfbaa.Pu
set_option linter.unusedVariables false

theorem encS_byt : ∀ (l : List Sp) (x : Int), Byt (encS x l) := by
  intro l
  induction l with
  | nil => intro x y hy; cases hy
  | cons s l ih =>
    intro x y hy
    rw [encS] at hy
    rcases List.mem_append.1 hy with q | q
    · exact dg_u8 _ y q
    · rcases List.mem_append.1 q with q | q
      · exact dg_u8 _ y q
      · exact ih _ y q
theorem encL_byt : ∀ (ls : List (List Sp)) (x : Int), Byt (encL x ls) := by
  intro ls
  induction ls with
  | nil => intro x y hy; cases hy
  | cons l ls ih =>
    intro x y hy
    rw [encL] at hy
    rcases List.mem_append.1 hy with q | q
    · exact dg_u8 _ y q
    · rcases List.mem_append.1 q with q | q
      · exact encS_byt _ _ y q
      · exact ih _ y q
theorem encH_byt (K g : Int) (ls : List (List Sp)) : Byt (encH K g ls) := by
  intro y hy
  unfold encH at hy
  rcases List.mem_append.1 hy with q | q
  · exact dg_u8 _ y q
  · rcases List.mem_append.1 q with q | q
    · exact dg_u8 _ y q
    · rcases List.mem_append.1 q with q | q
      · exact dg_u8 _ y q
      · exact encL_byt _ _ y q
theorem encH_len {K g : Int} {ls : List (List Sp)} (h : histC K g ls = 0) : (encH K g ls).length ≤ 1066550 ∧ 0 < (encH K g ls).length := by
  obtain ⟨hk, hl, hok⟩ := hist_oks h
  have a1 := dg10 (n := K.toNat) (by omega)
  have a2 := dg10 (n := g.toNat) (by omega)
  have a3 := dg10 (n := ls.length) (by omega)
  have a4 := encL_len (Int.le_refl 0) (by decide) hok
  have a5 := dg_pos K.toNat
  rw [List.length_reverse] at a4
  unfold encH
  simp only [List.length_append]
  omega
theorem hist_lens {K g : Int} {ls : List (List Sp)} (h : histC K g ls = 0) : ls.length ≤ 52 ∧ ∀ l ∈ ls, l.length ≤ 1025 := by
  obtain ⟨hk, hs, ht, hw⟩ := histC_zero h
  exact ⟨shB_len hs, fun l hl => (shB_lens hs (by omega) l hl).2⟩
/-- One unit. -/
theorem made_awake11 : madeM 0 [(5, 1)] = [[(5, 5)]] := by
  have e1 : addL 2 [] 5 1 = [[(5, 5)]] := flow_of (n := 5) rfl
  unfold madeM
  rw [kM_zero]
  show madeS 2 [(5, 1)] 0 [] = _
  rw [madeS, show (0 : Int) + 5 % 1000 = 5 from rfl, show addC [] 5 1 = 0 from rfl, if_pos rfl, e1, madeS]
theorem made_hist (p : Int) {ds : List (Int × Int)} (h : Deeds ds) : histC (kM p : Int) 0 (madeM p ds) = 0 := by
  have hk := kM_le p
  exact good_histC (by omega) (by omega) (Int.le_refl 0) (by omega) (made_good p h) (made_units p ds) (by decide)
theorem dg_small {n : Nat} (h : n < 128) : dg n = [(n : Int)] := dg_lo h
theorem awake11 : law11_awake = some true := by
  have hd : Deeds [(5, 1)] := by intro d hd; simp at hd; subst hd; decide
  have hh := made_hist 0 hd
  have hs := hist_lens hh
  unfold law11_awake law11_made
  rw [made_eq (by decide) hd, Option.bind_some, Option.bind_some, cput_eq (by omega) (fun l hl => by have := hs.2 l hl; omega), Option.bind_some, if_pos hh]
  rw [cone_eq (by have := encH_len hh; omega) (encH_byt _ _ _), Option.bind_some, one_enc hh]
  rw [kM_zero, made_awake11] at *
  have e1 : encH ((2 : Nat) : Int) 0 [[(5, 5)]] = [2, 0, 1, 1, 5, 0] := by
    unfold encH
    simp only [List.reverse_cons, List.reverse_nil, List.nil_append, encL, encS, lastS, List.length_cons, List.length_nil]
    rw [dg_small (by decide), dg_small (by decide), dg_small (by decide), dg_small (n := ((5 : Int) - 0).toNat) (by decide), dg_small (n := ((5 : Int) - 5).toNat) (by decide)]
    rfl
  have e2 : oneM [2, 0, 1, 0] = (0, 0, [], 2) := by decide
  rw [e1, cone_eq (by decide) (by decide), Option.bind_some, e2, if_pos rfl]
  simp only
  rw [if_pos trivial, hsame_eq (by decide) (by decide), Option.bind_some]
  decide
abbrev HistP (p : Int × Int × List (List Sp)) : Prop := I64 p.1 ∧ I64 p.2.1 ∧ (p.2.2.length ≤ 9223372036854775807 ∧ ∀ l ∈ p.2.2, (l.length ≤ 9223372036854775807 ∧ ∀ x ∈ l, U64 x.1 ∧ U64 x.2))
theorem law11_RecordPuts_true (p1 : Int × Int × List (List Sp)) (h1 : HistP p1) : law11_RecordPuts p1 = some true := by
  obtain ⟨K, g, ls⟩ := p1
  obtain ⟨_, _, hl, hll⟩ := h1
  simp only at hl hll
  obtain ⟨b, hb, hb2⟩ := few_eq (K := K) (g := g) hl (fun l hl' => (hll l hl').1)
  unfold law11_RecordPuts law11_made
  rw [awake11, Option.bind_some, hb, Option.bind_some]
  cases b with
  | false => rw [if_pos (by simp)]
  | true =>
    obtain ⟨c1, c2⟩ := hb2 rfl
    have c3 : ∀ l ∈ ls, l.length ≤ 2000 := fun l hl' => by have := c2 l hl'; omega
    rw [if_neg (by simp), if_pos rfl, Option.bind_some, cput_eq (by omega) c3, Option.bind_some, rput_eq (by omega) c3, Option.bind_some]
    simp
theorem take_lens {r : Rd8} (hr : RdOk r) : (takeM r).2.2.1.length ≤ 52 ∧ ∀ l ∈ (takeM r).2.2.1, l.length ≤ 1025 := by
  have h := rawM_ok hr
  unfold takeM
  split
  · exact ⟨by simp, fun l hl => by cases hl⟩
  · split
    · exact ⟨by simp, fun l hl => by cases hl⟩
    · exact h.2.2.2
theorem one_lens {b : List Int} (hl : b.length ≤ 1099511627776) (hb : Byt b) : (oneM b).2.2.1.length ≤ 52 ∧ ∀ l ∈ (oneM b).2.2.1, l.length ≤ 1025 := by
  have h := take_lens (r := (b, 0)) ⟨hl, hb⟩
  unfold oneM
  split
  · exact ⟨by simp, fun l hl => by cases hl⟩
  · exact h
theorem same11 {K K' g g' : Int} {a b : List (List Sp)} (ha : a.length ≤ 1000000) (hal : ∀ l ∈ a, l.length ≤ 1000000) : law11_same (K, g, a) (K', g', b) = some (decide (K = K' ∧ g = g' ∧ a = b)) := by
  unfold law11_same
  rw [same6_eq (by omega) (fun l hl => by have := hal l hl; omega)]
  rfl
abbrev BytP (p : List Int) : Prop := p.length ≤ 9223372036854775807 ∧ ∀ x ∈ p, U8 x
theorem law11_RecordTakes_true (p1 : List Int) (h1 : BytP p1) : law11_RecordTakes p1 = some true := by
  unfold law11_RecordTakes
  rw [awake11, Option.bind_some]
  by_cases c : 400 < (p1.length : Int)
  · rw [if_pos c]
  · have hl : p1.length ≤ 1099511627776 := by omega
    have hr : RdOk (p1, 0) := ⟨hl, h1.2⟩
    have l1 := one_lens hl h1.2
    have l2 := take_lens hr
    rw [if_neg c, cone_eq hl h1.2, Option.bind_some, rone_eq hl h1.2, Option.bind_some, cnew, Option.bind_some, take_all, ctake_eq hr, Option.bind_some, rtake11_eq hr, Option.bind_some, if_pos rfl]
    rw [same11 (by omega) (fun l hl => by have := l1.2 l hl; omega), Option.bind_some, if_pos (by simp), if_pos rfl]
    unfold codec_Reader_Left codec_Reader_Err
    simp only
    rw [same11 (by omega) (fun l hl => by have := l2.2 l hl; omega), Option.bind_some, if_pos (by simp), Option.bind_some, if_pos trivial, Option.bind_some]
    simp
theorem law11_RecordOne_true (p1 : List Int) (h1 : BytP p1) : law11_RecordOne p1 = some true := by
  unfold law11_RecordOne
  rw [awake11, Option.bind_some]
  by_cases c : 400 < (p1.length : Int)
  · rw [if_pos c]
  · have hl : p1.length ≤ 1099511627776 := by omega
    have l1 := one_lens hl h1.2
    rw [if_neg c, cone_eq hl h1.2, Option.bind_some]
    by_cases c2 : (oneM p1).2.2.2 = 0
    · obtain ⟨d1, d2⟩ := one_dec hl h1.2 c2
      rw [if_neg (by simpa using c2), if_pos rfl, rhist_eq (by omega) (fun l hl => by have := l1.2 l hl; omega), Option.bind_some, if_pos d1, cput_eq (by omega) (fun l hl => by have := l1.2 l hl; omega), Option.bind_some, if_pos d1, ← d2]
      simp
    · obtain ⟨d1, d2, d3⟩ := one_bad c2
      rw [if_pos c2, if_pos rfl, d1, d2, d3, same11 (by simp) (fun l hl => by cases hl), Option.bind_some]
      simp
/-- Histograms, one behind the other. -/
def catH (p : Int) (l : List (List (Int × Int))) : List Int := (l.map fun d => encH (kM p : Int) 0 (madeM p d)).flatten
theorem law11_RecordLists_true (p1 : Int) (p2 : List (List (Int × Int))) (h1 : I64 p1) (h2 : p2.length ≤ 9223372036854775807 ∧ ∀ y ∈ p2, (y.length ≤ 9223372036854775807 ∧ Deeds y)) : law11_RecordLists p1 p2 = some true := by
  unfold law11_RecordLists
  rw [awake11, Option.bind_some]
  by_cases c : 4 < (p2.length : Int)
  · rw [if_pos c]
  · rw [if_neg c]
    have hH : ∀ d ∈ p2, histC (kM p1 : Int) 0 (madeM p1 d) = 0 := fun d hd => made_hist p1 (h2.2 d hd).2
    have hcat : ∀ n, (catH p1 (p2.take n)).length ≤ 1066550 * n := by
      intro n
      unfold catH
      rw [List.length_flatten, List.map_map]
      have : ∀ (l : List (List (Int × Int))), (∀ d ∈ l, d ∈ p2) → (l.map (List.length ∘ fun d => encH (kM p1 : Int) 0 (madeM p1 d))).sum ≤ 1066550 * l.length := by
        intro l
        induction l with
        | nil => intro _; simp
        | cons d l ih =>
          intro hl
          have := encH_len (hH d (hl d List.mem_cons_self))
          have i2 := ih (fun e he => hl e (List.mem_cons_of_mem _ he))
          simp only [List.map_cons, List.sum_cons, List.length_cons, Function.comp]
          omega
      refine Nat.le_trans (this _ (fun d hd => List.mem_of_mem_take hd)) (Nat.mul_le_mul_left _ ?_)
      rw [List.length_take]
      omega
    have w1 : loopO (law11_RecordLists_s0 p1 p2) (([] : List Int), (0 : Int)) = some (catH p1 p2) := by
      have := loopO_run (step := law11_RecordLists_s0 p1 p2) (fun i => (catH p1 (p2.take i), (i : Int))) p2.length (r := catH p1 p2) (fun i hi => ?_) ?_
      · exact this
      · have hd : p2[i] ∈ p2 := List.getElem_mem hi
        have hh := hH _ hd
        have hs := hist_lens hh
        have e2 := encH_len hh
        have e3 := hcat i
        unfold law11_RecordLists_s0 law11_made
        simp only
        rw [if_pos (by omega), rdo_get hi, Option.bind_some, made_eq (by have := h1.2; omega) (h2.2 _ hd).2, Option.bind_some, Option.bind_some, cput_eq (by omega) (fun l hl => by have := hs.2 l hl; omega), Option.bind_some, if_pos hh, rm1 (by omega), Option.bind_some, wi64_of (by omega) (by omega)]
        congr 3
        unfold catH
        rw [List.take_succ_eq_append_getElem hi, List.map_append, List.flatten_append]
        simp
      · unfold law11_RecordLists_s0
        simp only
        rw [if_neg (by omega), List.take_length]
    rw [w1, Option.bind_some, cnew, Option.bind_some, take_all]
    have w2 : loopO (law11_RecordLists_s1 p1 p2) ((0 : Int), catH p1 p2, (0 : Int)) = some (.inr ([], 0)) := by
      have := loopO_run (step := law11_RecordLists_s1 p1 p2) (fun i => ((i : Int), catH p1 (p2.drop i), (0 : Int))) p2.length (r := .inr ([], 0)) (fun i hi => ?_) ?_
      · exact this
      · have hd : p2[i] ∈ p2 := List.getElem_mem hi
        have hh := hH _ hd
        have hs := hist_lens hh
        have e0 : catH p1 (p2.drop i) = encH (kM p1 : Int) 0 (madeM p1 p2[i]) ++ catH p1 (p2.drop (i + 1)) := by
          rw [List.drop_eq_getElem_cons hi]
          unfold catH
          rw [List.map_cons, List.flatten_cons]
        have hb : RdOk (catH p1 (p2.drop i), 0) := by
          refine ⟨?_, ?_⟩
          · have e4 : (catH p1 p2).length ≤ 1066550 * p2.length := by have := hcat p2.length; rwa [List.take_length] at this
            have e5 : catH p1 p2 = catH p1 (p2.take i) ++ catH p1 (p2.drop i) := by
              unfold catH
              rw [← List.flatten_append, ← List.map_append, List.take_append_drop]
            have e6 := congrArg List.length e5
            rw [List.length_append] at e6
            simp only
            omega
          · intro x hx
            unfold catH at hx
            obtain ⟨l, hl, hx⟩ := List.mem_flatten.1 hx
            obtain ⟨d, _, rfl⟩ := List.mem_map.1 hl
            exact encH_byt _ _ _ x hx
        unfold law11_RecordLists_s1
        simp only
        rw [if_pos (by omega), rdo_get hi, Option.bind_some, ctake_eq hb, Option.bind_some, made_eq (by have := h1.2; omega) (h2.2 _ hd).2, Option.bind_some, e0, take_enc hh]
        simp only
        rw [same11 (by omega) (fun l hl => by have := hs.2 l hl; omega), Option.bind_some, if_neg (by simp), wi64_of (by omega) (by omega)]
        rfl
      · unfold law11_RecordLists_s1
        simp only
        rw [if_neg (by omega), List.drop_length]
        rfl
    rw [w2, Option.bind_some]
    simp only [Sum.elim_inr]
    rw [if_pos trivial, crend]
    rfl
end Go.Proofs.Ytbeknohemgjfbaa.Pu
