/- The program's histogram: weight that comes to it. -/
import Derived.Test.YtbnjjpmlaknaoaaH6
namespace Go.Proofs.Ytbnjjpmlaknaoaa.Pu
set_option linter.unusedVariables false

theorem hlast_eq {K g : Int} {ls : List (List Sp)} (hls : ∀ l ∈ ls, l.length ≤ 1099511627776) : hist_Last (K, g, ls) = some (lastP ls) := last_eq hls
theorem hadd_loop {k : Nat} {g t : Int} {ls0 : List (List Sp)} (hk : k ≤ 10000) (hls : ∀ l ∈ ls0, l.length ≤ k + 1) : ∀ i ls F, ∀ come many (out : List (List Sp)), F = come ++ List.replicate many (t, t) → ls = ls0.drop i → out.length = i → out.length + (flow k i ls F).length ≤ 1000 → come.length ≤ k + 2 → many ≤ 4503599627370496 →
    loopO (hist_Hist_flow_1_s0 (yl hist_Add_r0) ((k : Int), g, ls0) t) (come, (many : Int), (i : Int), .inl out) = some (.inr (.inl (out ++ flow k i ls F))) := by
  apply flow_ind k (P := fun i ls F => ∀ come many (out : List (List Sp)), F = come ++ List.replicate many (t, t) → ls = ls0.drop i → out.length = i → out.length + (flow k i ls F).length ≤ 1000 → come.length ≤ k + 2 → many ≤ 4503599627370496 →
    loopO (hist_Hist_flow_1_s0 (yl hist_Add_r0) ((k : Int), g, ls0) t) (come, (many : Int), (i : Int), .inl out) = some (.inr (.inl (out ++ flow k i ls F))))
  · intro i come many out hF hls1 ho hb hc hm
    obtain ⟨rfl, hF3⟩ := List.append_eq_nil_iff.1 hF.symm
    have hm0 : many = 0 := by simpa using hF3
    subst hm0
    have hi : ls0.length ≤ i := by have := congrArg List.length hls1; simp at this; omega
    rw [flow_nil, List.append_nil]
    apply loopO_done
    unfold hist_Hist_flow_1_s0
    simp only [List.length_nil]
    rw [if_neg (by simp), if_neg (by simp), Option.bind_some, if_neg (by simp only [decide_eq_true_eq]; omega)]
  · intro i ls F hne ih come many out hF hls1 ho hb hc hm
    rw [flow_step k i ls F hne] at hb ⊢
    have hmp := mostN_pos k i
    have hml := mostN_le k i
    have hA : ls.headD [] ++ F = allM (ls.headD []) come many t := by rw [hF]; unfold allM; rw [List.append_assoc]
    have hll : (ls.headD []).length ≤ k + 1 := by
      cases ls with
      | nil => simp
      | cons l tl => exact hls l (List.mem_of_mem_drop (by rw [← hls1]; exact List.mem_cons_self))
    rw [hA] at hb ih ⊢
    have hstl := stays_le hmp (allM (ls.headD []) come many t)
    have hpush := push_same (l := ls.headD []) (come := come) (t := t) (many := many) (mo := (mostN k i : Int)) (by omega) hmp (by omega) (by omega) (by omega) (by omega)
    have hj : (if (i : Int) < ((ls0.length : Int)) then ((rdo ls0 (i : Int)).bind fun (z12 : List Sp) => some z12) else (some (([] : List Sp))) : Option (List Sp)) = some (ls.headD []) := by
      rw [hls1]
      by_cases h : i < ls0.length
      · rw [if_pos (by omega), rdo_get h, Option.bind_some, List.drop_eq_getElem_cons h]; rfl
      · rw [if_neg (by omega), List.drop_of_length_le (by omega)]; rfl
    have hstep : hist_Hist_flow_1_s0 (yl hist_Add_r0) ((k : Int), g, ls0) t (come, (many : Int), (i : Int), .inl out) = some (.inl ((goes (mostN k i) (allM (ls.headD []) come many t)).take (outN ((ls.headD []).length + come.length) (npr ((ls.headD []).length + come.length + many) (mostN k i))), ((npr ((ls.headD []).length + come.length + many) (mostN k i) - outN ((ls.headD []).length + come.length) (npr ((ls.headD []).length + come.length + many) (mostN k i)) : Nat) : Int), ((i + 1 : Nat) : Int), .inl (out ++ [stays (mostN k i) (allM (ls.headD []) come many t)]))) := by
      unfold hist_Hist_flow_1_s0
      simp only
      have hcond : (if 0 < ((come.length : Int)) then (some true) else (if 0 < (many : Int) then (some true) else (some (decide ((i : Int) < ((ls0.length : Int)))))) : Option Bool) = some true := by
        by_cases h1 : 0 < come.length
        · rw [if_pos (by omega)]
        · rw [if_neg (by omega)]
          by_cases h2 : 0 < many
          · rw [if_pos (by omega)]
          · rw [if_neg (by omega)]
            congr 1
            rw [decide_eq_true_eq]
            rcases Nat.lt_or_ge i ls0.length with q | q
            · omega
            · refine absurd ⟨?_, ?_⟩ hne
              · rw [hls1, List.drop_of_length_le q]
              · rw [hF, List.length_eq_zero_iff.1 (by omega : come.length = 0), (by omega : many = 0)]; rfl
      rw [hcond, Option.bind_some, if_pos rfl, hj, Option.bind_some, most_same i (by omega), Option.bind_some, hpush, Option.bind_some]
      simp only [yl, hist_Add_r0]
      rw [room_of (by simp only [List.length_cons, List.length_nil]; simp only [List.length_cons] at hb; omega) (by simp only [List.length_cons, List.length_nil]; simp only [List.length_cons] at hb; omega), Option.bind_some, Option.map_some, Option.bind_some]
      simp only
      rw [if_neg (by simp), wi64_of (by omega) (by simp only [List.length_cons] at hb; omega)]
      rfl
    rw [loopO_next hstep]
    have hq1 : outN ((ls.headD []).length + come.length) (npr ((ls.headD []).length + come.length + many) (mostN k i)) ≤ ((ls.headD []).length + come.length + 1) / 2 := by unfold outN; omega
    have hp1 : npr ((ls.headD []).length + come.length + many) (mostN k i) ≤ ((ls.headD []).length + come.length + many) / 2 := by unfold npr; omega
    rw [ih _ _ _ (goes_split hmp) ?_ (by simp [ho]) ?_ ?_ ?_]
    · rw [List.append_assoc]; rfl
    · rw [hls1, List.tail_drop]
    · simp only [List.length_append, List.length_cons, List.length_nil] at hb ⊢; omega
    · rw [List.length_take]; omega
    · have hq2 : outN ((ls.headD []).length + come.length) (npr ((ls.headD []).length + come.length + many) (mostN k i)) = npr ((ls.headD []).length + come.length + many) (mostN k i) ∨ ((ls.headD []).length + come.length + 1) / 2 ≤ outN ((ls.headD []).length + come.length) (npr ((ls.headD []).length + come.length + many) (mostN k i)) := by unfold outN; omega
      omega
/-- One deed. -/
theorem hadd_eq {k : Nat} {g t w t0 : Int} {ls : List (List Sp)} (hk1 : 1 ≤ k) (hk : k ≤ 10000) (h : Good k ls t0) (ht : 0 ≤ t) (hw : 0 ≤ w) (hw2 : w < 18446744073709551616) :
    hist_Add ((k : Int), g, ls) t w = some (if addC ls t w = 0 then ((k : Int), g, addL k ls t w, 0) else (0, 0, [], addC ls t w)) := by
  have hll : ∀ l ∈ ls, l.length ≤ k + 1 := shape_len h.shape
  have hlast := hlast_eq (K := (k : Int)) (g := g) (ls := ls) (fun l hl => by have := hll l hl; omega)
  have htot := htotal_eq (K := (k : Int)) (g := g) (ls := ls) (by have := h.levels; omega) (by have := h.wt; omega) (fun l hl => by have := hll l hl; omega)
  have hwt := h.wt
  unfold hist_Add
  unfold addC
  rw [hlast, Option.bind_some]
  by_cases h0 : w = 0
  · rw [if_pos h0, if_pos h0, if_neg (by decide)]
  rw [if_neg h0, if_neg h0]
  have hcond : (if 9223372036854775807 < t then (some true) else (if (lastP ls).2 = true then (some (decide (t < (lastP ls).1))) else (some false)) : Option Bool) = some (decide (9223372036854775807 < t ∨ ((lastM ls).any fun x => decide (t < x)) = true)) := by
    by_cases h1 : 9223372036854775807 < t
    · rw [if_pos h1, decide_eq_true (.inl h1)]
    · rw [if_neg h1]
      unfold lastP
      cases lastM ls with
      | none => simp [h1]
      | some x => simp [h1]
  rw [hcond, Option.bind_some]
  by_cases h1 : 9223372036854775807 < t ∨ ((lastM ls).any fun x => decide (t < x)) = true
  · rw [if_pos (decide_eq_true h1), if_pos h1, if_neg (by decide)]
  rw [if_neg (by simpa using h1), if_neg h1, htot, Option.bind_some, wu64_of (by omega) (by omega)]
  by_cases h3 : 4503599627370496 < w + wt ls
  · rw [if_pos (by omega), if_pos h3, if_neg (by decide)]
  rw [if_neg (by omega), if_neg h3, if_pos rfl]
  have hc : addC ls t w = 0 := by unfold addC; rw [if_neg h0, if_neg h1, if_neg h3]
  have hg := h.addL hk1 ht hw hc
  have hlen := hg.levels
  have hl := hadd_loop (k := k) (g := g) (t := t) hk hll 0 ls (List.replicate w.toNat (t, t)) [] w.toNat [] rfl rfl rfl (by unfold addL at hlen; simp only [List.length_nil]; omega) (by simp) (by omega)
  have ew : ((w.toNat : Nat) : Int) = w := by omega
  rw [ew] at hl
  have hl' : loopO (hist_Hist_flow_1_s0 (yl hist_Add_r0) ((k : Int), g, ls) t) (([] : List Sp), w, (0 : Int), .inl ([] : List (List Sp))) = some (.inr (.inl (addL k ls t w))) := hl
  unfold hist_Hist_flow hist_Hist_flow_1
  rw [Option.bind_some, hl', Option.bind_some]
  rfl
end Go.Proofs.Ytbnjjpmlaknaoaa.Pu
