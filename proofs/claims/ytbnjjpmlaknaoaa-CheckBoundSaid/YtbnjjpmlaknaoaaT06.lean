/- The laws of chapter 06, in plain words: what each call tells; refusals; sums; the same. -/
import Derived.Test.YtbnjjpmlaknaoaaH7
import Derived.Test.YtbnjjpmlaknaoaaT07
namespace Go.Proofs.Ytbnjjpmlaknaoaa.Pu
set_option linter.unusedVariables false

theorem new_eq {k : Int} (h1 : 2 ≤ k) (h2 : k ≤ 1024) : hist_New k = some (k, 0) := by
  unfold hist_New
  rw [if_neg (by omega), if_neg (by omega)]
theorem add_awake6 : addL 2 [] 5 4 = [[(5, 5), (5, 5)], [(5, 5)]] := flow_of (n := 8) rfl
theorem awake6 : law06_awake = some true := by
  unfold law06_awake
  have ha := hadd_eq (k := 2) (g := 0) (t := 5) (w := 4) (t0 := 0) (ls := []) (by decide) (by decide) (Good.nil 2 0) (by decide) (by decide) (by decide)
  rw [if_pos (by decide), add_awake6] at ha
  have ha' : hist_Add ((2 : Int), (0 : Int), ([] : List (List Sp))) (5 : Int) (4 : Int) = some ((2 : Int), 0, [[(5, 5), (5, 5)], [(5, 5)]], 0) := ha
  rw [new_eq (by decide) (by decide), Option.bind_some]
  simp only
  rw [ha', Option.bind_some, hlast_eq (by decide), Option.bind_some, if_pos rfl, if_pos trivial]
  simp only
  rw [if_pos (by decide)]
  have r0 : rdo ([[(5, 5), (5, 5)], [(5, 5)]] : List (List Sp)) 0 = some [(5, 5), (5, 5)] := rfl
  have r1 : rdo ([[(5, 5), (5, 5)], [(5, 5)]] : List (List Sp)) 1 = some [(5, 5)] := rfl
  rw [r0, Option.bind_some, if_pos (by decide), r1, Option.bind_some, if_pos (by decide), htotal_eq (by decide) (by decide) (by decide), Option.bind_some, if_pos (by decide), if_pos (by decide), if_pos (by decide), hsame_eq (by decide) (by decide), Option.bind_some, if_pos (by decide), hsame_eq (by decide) (by decide), Option.bind_some]
  decide
theorem kM_new (p : Int) (hp : p < 9223372036854775808) : wi64 (2 + ((max p 0).tmod 30)) = (kM p : Int) := by
  have hk := kM_le p
  have e1 : (max p 0).tmod 30 = ((max p 0).toNat % 30 : Nat) := by rw [Int.tmod_eq_emod_of_nonneg (by omega)]; omega
  rw [e1, wi64_of (by omega) (by omega)]; unfold kM; omega
theorem played_loop {k : Nat} (hk1 : 1 ≤ k) (hk : k ≤ 10000) {p2 : List (Int × Int)} (hd : Deeds p2) : ∀ (ds : List (Int × Int)) (i : Nat) (t t0 : Int) (ls : List (List Sp)), ds = (p2.take 30).drop i → 0 ≤ t → t ≤ 1000 * i → t0 ≤ t → Good k ls t0 →
    loopO (law06_played_s0 p2) (true, t, (i : Int), (k : Int), 0, ls, (k : Int), 0, ls) = some (true, (k : Int), 0, madeS k ds t ls, (k : Int), 0, madeS k ds t ls) := by
  intro ds
  induction ds with
  | nil =>
    intro i t t0 ls hds h0 hti ht hg
    have hi : p2.length ≤ i ∨ 30 ≤ i := by
      have := congrArg List.length hds
      simp only [List.length_nil, List.length_drop, List.length_take] at this
      omega
    apply loopO_done
    unfold law06_played_s0
    simp only
    rcases hi with h | h
    · rw [if_neg (by omega)]; rfl
    · rw [if_neg (c := (i : Int) < 30) (by omega), ite_self]; rfl
  | cons d ds ih =>
    intro i t t0 ls hds h0 hti ht hg
    have hi : i < (p2.take 30).length := by
      have := congrArg List.length hds
      simp only [List.length_cons, List.length_drop] at this
      omega
    have hi2 : i < p2.length ∧ i < 30 := by rw [List.length_take] at hi; omega
    rw [List.drop_eq_getElem_cons hi] at hds
    obtain ⟨hd1, hd2⟩ := List.cons.inj hds
    rw [List.getElem_take] at hd1
    have hmem := hd d (hd1 ▸ List.getElem_mem hi2.1)
    have e1 : d.1.tmod 1000 = d.1 % 1000 := Int.tmod_eq_emod_of_nonneg hmem.1.1
    have hlt : d.1 % 1000 < 1000 := Int.emod_lt_of_pos _ (by decide)
    have hge : 0 ≤ d.1 % 1000 := Int.emod_nonneg _ (by decide)
    have e2 : wu64 (t + d.1 % 1000) = t + d.1 % 1000 := wu64_of (by omega) (by omega)
    have hadd := add_eq (k := k) (g := 0) (t := t + d.1 % 1000) (w := d.2) hk1 (by omega) hg (by omega) hmem.2.1 hmem.2.2
    have hhadd := hadd_eq (k := k) (g := 0) (t := t + d.1 % 1000) (w := d.2) hk1 hk hg (by omega) hmem.2.1 hmem.2.2
    have hstep : law06_played_s0 p2 (true, t, (i : Int), (k : Int), 0, ls, (k : Int), 0, ls) = some (.inl (true, t + d.1 % 1000, ((i + 1 : Nat) : Int), (k : Int), 0, (if addC ls (t + d.1 % 1000) d.2 = 0 then addL k ls (t + d.1 % 1000) d.2 else ls), (k : Int), 0, if addC ls (t + d.1 % 1000) d.2 = 0 then addL k ls (t + d.1 % 1000) d.2 else ls)) := by
      unfold law06_played_s0 law06_same
      simp only
      rw [if_pos (by omega), if_pos (by omega), rdo_get hi2.1, Option.bind_some, ← hd1, e1, e2, hadd, hhadd, Option.bind_some, Option.bind_some, wi64_of (by omega) (by omega)]
      by_cases hc : addC ls (t + d.1 % 1000) d.2 = 0
      · have hga := hg.addL hk1 (by omega) hmem.2.1 hc
        simp only [if_pos hc, if_true, decide_true, Option.bind_some]
        rw [same6_eq (by have := hga.levels; omega) (good_len (by omega) hga)]
        simp
      · simp only [if_neg hc]
        simp
    rw [loopO_next hstep, madeS]
    have hg' : Good k (if addC ls (t + d.1 % 1000) d.2 = 0 then addL k ls (t + d.1 % 1000) d.2 else ls) (t + d.1 % 1000) := by
      split
      · rename_i h; exact hg.addL hk1 (by omega) hmem.2.1 h
      · exact hg.later (by omega)
    exact ih (i + 1) _ _ _ hd2 (by omega) (by omega) (Int.le_refl _) hg'
theorem played_eq {p1 : Int} {p2 : List (Int × Int)} (h1 : p1 < 9223372036854775808) (hd : Deeds p2) : law06_played p1 p2 = some ((kM p1 : Int), 0, madeM p1 p2, (kM p1 : Int), 0, madeM p1 p2, true) := by
  unfold law06_played
  have hk := kM_le p1
  rw [kM_new p1 h1, new_eq (by omega) (by omega), Option.bind_some]
  have := played_loop (k := kM p1) (by omega) (by omega) hd _ 0 0 0 [] rfl (Int.le_refl 0) (by simp) (Int.le_refl 0) (Good.nil _ 0)
  have h' : loopO (law06_played_s0 p2) (true, (0 : Int), (0 : Int), (kM p1 : Int), (0 : Int), ([] : List (List Sp)), (kM p1 : Int), (0 : Int), ([] : List (List Sp))) = some (true, (kM p1 : Int), 0, madeM p1 p2, (kM p1 : Int), 0, madeM p1 p2) := this
  simp only [decide_true]
  rw [h', Option.bind_some]
theorem law06_HistPlays_true (p1 : Int) (p2 : List (Int × Int)) (h1 : I64 p1) (h2 : p2.length ≤ 9223372036854775807 ∧ Deeds p2) : law06_HistPlays p1 p2 = some true := by
  obtain ⟨_, hd⟩ := h2
  have hg := made_good p1 hd
  have hk := kM_le p1
  have hl := good_len (by omega) hg
  have hlv := hg.levels
  have hwt := hg.wt
  unfold law06_HistPlays law06_same
  rw [awake6, Option.bind_some, played_eq h1.2 hd, Option.bind_some]
  simp only
  rw [hlast_eq hl, Option.bind_some, last_eq hl, Option.bind_some, if_pos trivial, if_pos trivial, same6_eq (by omega) hl]
  simp only [Option.bind_some, and_self, decide_true, if_true]
  rw [htotal_eq (by omega) (by omega) (fun l hl' => by have := hl l hl'; omega), Option.bind_some, total_eq (by omega) (by omega) (fun l hl' => by have := hl l hl'; omega), Option.bind_some]
  simp
theorem law06_HistRefuses_true (p1 : Int) (p2 : List (Int × Int)) (p3 : Int × Int) (h1 : I64 p1) (h2 : p2.length ≤ 9223372036854775807 ∧ Deeds p2) (h3 : U64 p3.1 ∧ U64 p3.2) : law06_HistRefuses p1 p2 p3 = some true := by
  obtain ⟨a, b⟩ := p3
  obtain ⟨⟨ha1, ha2⟩, hb1, hb2⟩ := h3
  obtain ⟨_, hd⟩ := h2
  simp only at ha1 ha2 hb1 hb2
  have hg := made_good p1 hd
  have hk := kM_le p1
  have hl := good_len (by omega) hg
  have hlv := hg.levels
  unfold law06_HistRefuses law06_same ref06_May
  rw [awake6, Option.bind_some, played_eq h1.2 hd, Option.bind_some]
  simp only
  rw [hadd_eq (by omega) (by omega) hg ha1 hb1 hb2, Option.bind_some, add_eq (by omega) (by omega) hg ha1 hb1 hb2, Option.bind_some]
  obtain ⟨r, hr⟩ : ∃ r, r = (if addC (madeM p1 p2) a b = 0 then ((kM p1 : Int), (0 : Int), addL (kM p1) (madeM p1 p2) a b, (0 : Int)) else (0, 0, [], addC (madeM p1 p2) a b)) := ⟨_, rfl⟩
  rw [← hr]
  have hrl : r.2.2.1.length ≤ 1099511627776 ∧ ∀ l ∈ r.2.2.1, l.length ≤ 1099511627776 := by
    rw [hr]
    split
    · rename_i hc
      have hga := hg.addL (by omega) ha1 hb1 hc
      exact ⟨by have := hga.levels; simp only; omega, good_len (by omega) hga⟩
    · exact ⟨by simp, fun l hl => by cases hl⟩
  have hsame := same6_eq (K := r.1) (K' := r.1) (g := r.2.1) (g' := r.2.1) (a := r.2.2.1) (b := r.2.2.1) hrl.1 hrl.2
  have hsame2 := same6_eq (K := (kM p1 : Int)) (K' := (kM p1 : Int)) (g := 0) (g' := 0) (a := madeM p1 p2) (b := madeM p1 p2) (by omega) hl
  simp only [and_self, decide_true] at hsame hsame2
  unfold hist_New
  by_cases c1 : p1 < 2
  · have hs3 := same6_eq (K := (0 : Int)) (K' := 0) (g := 0) (g' := 0) (a := []) (b := []) (by simp) (fun l hl => by cases hl)
    simp only [and_self, decide_true] at hs3
    rw [if_pos c1, Option.bind_some, if_neg (by omega), Option.bind_some, if_pos trivial, if_pos trivial, if_pos rfl, hsame, Option.bind_some, Option.bind_some, if_pos rfl, hsame2, Option.bind_some, Option.bind_some, if_pos rfl]
    simp only
    rw [if_pos (by simp), if_pos (by simp), hs3, Option.bind_some, Option.bind_some, if_pos rfl]
    by_cases c2 : (0 : Int) = p1
    · rw [if_pos c2]
    · rw [if_neg c2]; simp
  · by_cases c3 : 1024 < p1
    · have hs3 := same6_eq (K := (0 : Int)) (K' := 0) (g := 0) (g' := 0) (a := []) (b := []) (by simp) (fun l hl => by cases hl)
      simp only [and_self, decide_true] at hs3
      rw [if_neg c1, if_pos c3, Option.bind_some, if_pos (by omega), decide_eq_false (by omega), Option.bind_some, if_pos trivial, if_pos trivial, if_pos rfl, hsame, Option.bind_some, Option.bind_some, if_pos rfl, hsame2, Option.bind_some, Option.bind_some, if_pos rfl]
      simp only
      rw [if_pos (by simp), if_pos (by simp), hs3, Option.bind_some, Option.bind_some, if_pos rfl]
      by_cases c2 : (0 : Int) = p1
      · rw [if_pos c2]
      · rw [if_neg c2]; simp
    · have hs3 := same6_eq (K := p1) (K' := p1) (g := 0) (g' := 0) (a := []) (b := []) (by simp) (fun l hl => by cases hl)
      simp only [and_self, decide_true] at hs3
      rw [if_neg c1, if_neg c3, Option.bind_some, if_pos (by omega), decide_eq_true (by omega), Option.bind_some, if_pos trivial, if_pos trivial, if_pos rfl, hsame, Option.bind_some, Option.bind_some, if_pos rfl, hsame2, Option.bind_some, Option.bind_some, if_pos rfl]
      simp only
      rw [if_pos (by simp), if_pos (by simp), hs3, Option.bind_some, Option.bind_some, if_pos rfl, if_pos trivial]
theorem sums_loop {k : Nat} (hk1 : 1 ≤ k) (hk : k ≤ 10000) {p2 : List (Int × Int)} (hd : Deeds p2) : ∀ (n i : Nat) (ls : List (List Sp)), i + n = min p2.length 30 → Good k ls 7 →
    ∃ ls', Good k ls' 7 ∧ loopO (law06_HistSums_s0 p2) ((wt ls : Int), (i : Int), (k : Int), 0, ls) = some ((wt ls' : Int), (k : Int), 0, ls') := by
  intro n
  induction n with
  | zero =>
    intro i ls hi hg
    refine ⟨ls, hg, loopO_done ?_⟩
    unfold law06_HistSums_s0
    simp only
    by_cases h : p2.length ≤ i
    · rw [if_neg (by omega)]
    · rw [if_neg (c := (i : Int) < 30) (by omega), ite_self]
  | succ n ih =>
    intro i ls hi hg
    have hi2 : i < p2.length ∧ i < 30 := by omega
    have hmem := hd _ (List.getElem_mem hi2.1)
    have hwt := hg.wt
    have hhadd := hadd_eq (k := k) (g := 0) (t := 7) (w := p2[i].2) hk1 hk hg (by decide) hmem.2.1 hmem.2.2
    by_cases hc : addC ls 7 p2[i].2 = 0
    · have hga := hg.addL hk1 (by decide) hmem.2.1 hc
      have hz := addC_zero hc
      have hwt' : wt (addL k ls 7 p2[i].2) = wt ls + p2[i].2.toNat := by unfold addL; rw [wt_flow, List.length_replicate]
      have hstep : law06_HistSums_s0 p2 ((wt ls : Int), (i : Int), (k : Int), 0, ls) = some (.inl ((wt (addL k ls 7 p2[i].2) : Int), ((i + 1 : Nat) : Int), (k : Int), 0, addL k ls 7 p2[i].2)) := by
        unfold law06_HistSums_s0
        simp only
        rw [if_pos (by omega), if_pos (by omega), rdo_get hi2.1, Option.bind_some, hhadd, Option.bind_some, wi64_of (by omega) (by omega)]
        simp only [if_pos hc, if_true]
        rw [wu64_of (by omega) (by omega), hwt']
        refine congrArg some (congrArg Sum.inl (Prod.ext ?_ rfl))
        simp only; omega
      obtain ⟨ls', g', h'⟩ := ih (i + 1) _ (by omega) hga
      exact ⟨ls', g', by rw [loopO_next hstep]; exact h'⟩
    · have hstep : law06_HistSums_s0 p2 ((wt ls : Int), (i : Int), (k : Int), 0, ls) = some (.inl ((wt ls : Int), ((i + 1 : Nat) : Int), (k : Int), 0, ls)) := by
        unfold law06_HistSums_s0
        simp only
        rw [if_pos (by omega), if_pos (by omega), rdo_get hi2.1, Option.bind_some, hhadd, Option.bind_some, wi64_of (by omega) (by omega)]
        simp only [if_neg hc]
        rfl
      obtain ⟨ls', g', h'⟩ := ih (i + 1) _ (by omega) hg
      exact ⟨ls', g', by rw [loopO_next hstep]; exact h'⟩
theorem law06_HistSums_true (p1 : Int) (p2 : List (Int × Int)) (h1 : I64 p1) (h2 : p2.length ≤ 9223372036854775807 ∧ Deeds p2) : law06_HistSums p1 p2 = some true := by
  obtain ⟨_, hd⟩ := h2
  have hk := kM_le p1
  obtain ⟨ls', g', h'⟩ := sums_loop (k := kM p1) (by omega) (by omega) hd (min p2.length 30) 0 [] (by omega) (Good.nil _ 7)
  have h'' : loopO (law06_HistSums_s0 p2) ((0 : Int), (0 : Int), (kM p1 : Int), (0 : Int), ([] : List (List Sp))) = some ((wt ls' : Int), (kM p1 : Int), 0, ls') := h'
  unfold law06_HistSums
  have hwt := g'.wt
  rw [awake6, Option.bind_some, kM_new p1 h1.2, new_eq (by omega) (by omega), Option.bind_some]
  simp only
  rw [h'', Option.bind_some, if_pos trivial]
  simp only
  rw [htotal_eq (by have := g'.levels; omega) (by omega) (fun l hl => by have := shape_len g'.shape l hl; omega), Option.bind_some, if_pos rfl]
  congr 1
  rw [decide_eq_true_eq]
  omega
theorem law06_HistSame_true (p1 : Int × Int) (p2 p3 : List (Int × Int)) (h1 : I64 p1.1 ∧ I64 p1.2) (h2 : p2.length ≤ 9223372036854775807 ∧ Deeds p2) (h3 : p3.length ≤ 9223372036854775807 ∧ Deeds p3) : law06_HistSame p1 p2 p3 = some true := by
  obtain ⟨a, b⟩ := p1
  obtain ⟨ha, hb⟩ := h1
  obtain ⟨_, hd⟩ := h2
  obtain ⟨_, hd3⟩ := h3
  simp only at ha hb
  have hg := made_good a hd
  have hk := kM_le a
  have hl := good_len (by omega) hg
  have hlv := hg.levels
  unfold law06_HistSame law06_made
  rw [awake6, Option.bind_some, made_eq ha.2 hd, Option.bind_some, made_eq hb.2 hd3, Option.bind_some]
  simp only [Option.bind_some]
  rw [if_pos trivial, hsame_eq (by omega) hl, same6_eq (by omega) hl]
  simp only [Option.bind_some, if_true]
  rw [wi64_of (by omega) (by omega), hsame_eq (by omega) hl]
  simp only [Option.bind_some]
  rw [if_pos (by simp), hsame_eq (by omega) hl]
  simp
end Go.Proofs.Ytbnjjpmlaknaoaa.Pu
