/- The document's histogram, as lists: weight that comes, one deed and then thirty. -/
import Derived.Test.YtbeknohemgjfbaaH2
namespace Go.Proofs.Ytbeknohemgjfbaa.Pu
set_option linter.unusedVariables false

theorem wt_append (l m : List (List Sp)) : wt (l ++ m) = wt l + 2 ^ l.length * wt m := by
  induction l with
  | nil => simp [wt]
  | cons a l ih => rw [List.cons_append, wt, wt, ih, List.length_cons, Nat.pow_succ, Nat.mul_add, ← Nat.mul_assoc, Nat.mul_comm 2 (2 ^ l.length)]; omega
theorem wt_take_succ (ls : List (List Sp)) {i : Nat} (h : i < ls.length) : wt (ls.take (i + 1)) = wt (ls.take i) + 2 ^ i * ls[i].length := by
  rw [take_get (List.getElem?_eq_getElem h), wt_append]
  simp only [wt, Nat.mul_zero, Nat.add_zero, List.length_take]
  rw [Nat.min_eq_left (by omega)]
theorem wt_take_le (ls : List (List Sp)) (i : Nat) : wt (ls.take i) ≤ wt ls := by
  have h := wt_append (ls.take i) (ls.drop i)
  rw [List.take_append_drop] at h
  omega
theorem shlk_n (a i : Nat) (h : i ≤ 64) : shlk 64 (a : Int) (i : Int) = ((2 ^ i * a : Nat) : Int) := by
  unfold shlk
  rw [Int.toNat_natCast, Nat.min_eq_left h, Nat.mul_comm]
  simp
theorem level_lt {ls : List (List Sp)} {i : Nat} (h : i < ls.length) (hw : wt ls < 18446744073709551616) : 2 ^ i * ls[i].length < 18446744073709551616 := by
  have h1 := wt_take_succ ls h
  have h2 := wt_take_le ls (i + 1)
  omega
theorem total_eq {K g : Int} {ls : List (List Sp)} (hl : ls.length ≤ 64) (hw : wt ls < 18446744073709551616) (hls : ∀ l ∈ ls, l.length < 18446744073709551616) : ref06_Total (K, g, ls) = some (wt ls : Int) := by
  unfold ref06_Total
  have : loopO (ref06_Total_s0 (K, g, ls)) ((0 : Int), (0 : Int)) = some (wt ls : Int) := by
    refine loopO_run (fun k => ((wt (ls.take k) : Int), (k : Int))) ls.length (fun k hk => ?_) ?_
    · unfold ref06_Total_s0
      simp only
      have h1 := wt_take_succ ls hk
      have h2 := wt_take_le ls (k + 1)
      have h3 := level_lt hk hw
      have h4 := hls _ (List.getElem_mem hk)
      rw [if_pos (by omega), rdo_get hk, Option.bind_some, must_of (by omega), Option.bind_some, wu64_of (x := (ls[k].length : Int)) (by omega) (by omega), shlk_n _ _ (by omega), wu64_of (x := ((2 ^ k * ls[k].length : Nat) : Int)) (by omega) (by omega), wu64_of (by omega) (by omega), wi64_of (by omega) (by omega), h1]
      congr 3
    · unfold ref06_Total_s0
      simp only
      rw [if_neg (by omega), List.take_length]
  rw [this]; rfl
theorem last_eq {K g : Int} {ls : List (List Sp)} (hls : ∀ l ∈ ls, l.length ≤ 1099511627776) : ref06_Last (K, g, ls) = some (lastP ls) := by
  unfold ref06_Last lastP
  cases ls with
  | nil => simp [lastM]
  | cons l ls =>
    have h1 := hls l List.mem_cons_self
    rw [if_neg (by simp only [List.length_cons]; omega)]
    have e0 : rdo (l :: ls) 0 = some l := rdo_get (xs := l :: ls) (i := 0) (by simp)
    rw [e0, Option.bind_some]
    simp only [lastM]
    cases h : l.getLast? with
    | none => rw [List.getLast?_eq_none_iff] at h; subst h; simp
    | some a =>
      obtain ⟨ys, rfl⟩ := List.getLast?_eq_some_iff.1 h
      rw [if_neg (by simp only [List.length_append, List.length_cons, List.length_nil]; omega)]
      have e1 : wi64 (((ys ++ [a]).length : Int) - 1) = (ys.length : Int) := by
        rw [wi64_of (by simp only [List.length_append, List.length_cons, List.length_nil]; omega) (by simp only [List.length_append, List.length_cons, List.length_nil] at h1 ⊢; omega)]
        simp only [List.length_append, List.length_cons, List.length_nil]; omega
      rw [e1, rdo_get (by simp), Option.bind_some]
      simp
theorem at_eq {K g : Int} {ls : List (List Sp)} {i : Nat} : ref06_at (K, g, ls) (i : Int) = some ((ls.drop i).headD []) := by
  unfold ref06_at
  simp only
  by_cases h : i < ls.length
  · rw [if_neg (by omega), rdo_get h, Option.bind_some, List.drop_eq_getElem_cons h]; rfl
  · rw [if_pos (by omega), List.drop_of_length_le (by omega)]; rfl

/-- What goes on is what is written out, and units of the tick. -/
theorem goes_split {l come : List Sp} {most many : Nat} {t : Int} (hm : 1 ≤ most) :
    goes most (allM l come many t) = (goes most (allM l come many t)).take (outN (l.length + come.length) (npr (l.length + come.length + many) most)) ++ List.replicate (npr (l.length + come.length + many) most - outN (l.length + come.length) (npr (l.length + come.length + many) most)) (t, t) := by
  have hA := allM_len l come many t
  have hG := goes_len hm (allM l come many t)
  rw [hA] at hG
  have hpn := npr_le (n := l.length + come.length + many) hm
  have hlen : (l ++ come).length = l.length + come.length := by simp
  generalize hq : outN (l.length + come.length) (npr (l.length + come.length + many) most) = q
  generalize hp : npr (l.length + come.length + many) most = p at *
  have hq1 : q ≤ p := by rw [← hq]; unfold outN; omega
  have hq2 : q = p ∨ l.length + come.length ≤ 2 * q := by rw [← hq]; unfold outN; omega
  apply List.ext_getElem?
  intro i
  by_cases hi : i < q
  · rw [List.getElem?_append_left (by rw [List.length_take]; omega), List.getElem?_take_of_lt hi]
  · by_cases hip : i < p
    · have h2 : l.length + come.length ≤ 2 * q := by omega
      rw [List.getElem?_append_right (by rw [List.length_take]; omega), List.length_take, List.getElem?_replicate, if_pos (by omega)]
      exact goes_get hm (by rw [hA, hp]; exact hip) (allM_ge (by omega) (by omega)) (allM_ge (by omega) (by omega))
    · rw [List.getElem?_eq_none (by omega), List.getElem?_eq_none (by rw [List.length_append, List.length_take, List.length_replicate]; omega)]

theorem stays_le {most : Nat} (hm : 1 ≤ most) (A : List Sp) : (stays most A).length ≤ most := by rw [stays_len hm]; unfold npr; omega

theorem add_loop {k : Nat} {g t : Int} {ls0 : List (List Sp)} (hk : k ≤ 1048576) (hls : ∀ l ∈ ls0, l.length ≤ k + 1) : ∀ i ls F, ∀ come many out, F = come ++ List.replicate many (t, t) → ls = ls0.drop i → out.length = i → out.length + (flow k i ls F).length ≤ 1000 → come.length ≤ k + 2 → many ≤ 4503599627370496 →
    loopO (ref06_Add_s0 ((k : Int), g, ls0) t) (come, (many : Int), (i : Int), out) = some (out ++ flow k i ls F) := by
  apply flow_ind k (P := fun i ls F => ∀ come many out, F = come ++ List.replicate many (t, t) → ls = ls0.drop i → out.length = i → out.length + (flow k i ls F).length ≤ 1000 → come.length ≤ k + 2 → many ≤ 4503599627370496 →
    loopO (ref06_Add_s0 ((k : Int), g, ls0) t) (come, (many : Int), (i : Int), out) = some (out ++ flow k i ls F))
  · intro i come many out hF hls1 ho hb hc hm
    have hF2 := List.append_eq_nil_iff.1 hF.symm
    obtain ⟨rfl, hF3⟩ := hF2
    have hm0 : many = 0 := by simpa using hF3
    subst hm0
    have hi : ls0.length ≤ i := by have := congrArg List.length hls1; simp at this; omega
    rw [flow_nil, List.append_nil]
    apply loopO_done
    unfold ref06_Add_s0
    simp only [List.length_nil]
    rw [if_neg (by simp), if_neg (by simp), Option.bind_some, if_neg (by simp only [decide_eq_true_eq]; omega)]
  · intro i ls F hne ih come many out hF hls1 ho hb hc hm
    rw [flow_step k i ls F hne] at hb ⊢
    have hmp := mostN_pos k i
    have hml := mostN_le k i
    have hA : ls.headD [] ++ F = allM (ls.headD []) come many t := by rw [hF]; unfold allM; rw [List.append_assoc]
    have hll : (ls.headD []).length ≤ k + 1 := by
      cases ls with
      | nil => simp
      | cons l tl => exact hls l (List.mem_of_mem_drop (by rw [← hls1]; exact List.mem_cons_self))
    rw [hA] at hb ih ⊢
    have hstl := stays_le hmp (allM (ls.headD []) come many t)
    have hpush := push_eq (l := ls.headD []) (come := come) (t := t) (many := many) hmp (by omega) (by omega) (by omega) (by omega)
    have hstep : ref06_Add_s0 ((k : Int), g, ls0) t (come, (many : Int), (i : Int), out) = some (.inl ((goes (mostN k i) (allM (ls.headD []) come many t)).take (outN ((ls.headD []).length + come.length) (npr ((ls.headD []).length + come.length + many) (mostN k i))), ((npr ((ls.headD []).length + come.length + many) (mostN k i) - outN ((ls.headD []).length + come.length) (npr ((ls.headD []).length + come.length + many) (mostN k i)) : Nat) : Int), ((i + 1 : Nat) : Int), out ++ [stays (mostN k i) (allM (ls.headD []) come many t)])) := by
      unfold ref06_Add_s0
      simp only
      have hcond : (if 0 < ((come.length : Int)) then (some true) else (if 0 < (many : Int) then (some true) else (some (decide ((i : Int) < ((ls0.length : Int)))))) : Option Bool) = some true := by
        by_cases h1 : 0 < come.length
        · rw [if_pos (by omega)]
        · rw [if_neg (by omega)]
          by_cases h2 : 0 < many
          · rw [if_pos (by omega)]
          · rw [if_neg (by omega)]
            congr 1
            rw [decide_eq_true_eq]
            rcases Nat.lt_or_ge i ls0.length with q | q
            · omega
            · refine absurd ⟨?_, ?_⟩ hne
              · rw [hls1, List.drop_of_length_le q]
              · rw [hF, List.length_eq_zero_iff.1 (by omega : come.length = 0), (by omega : many = 0)]; rfl
      rw [hcond, Option.bind_some, if_pos rfl, at_eq, Option.bind_some, most_eq i (by omega), Option.bind_some, ← hls1, hpush, Option.bind_some]
      simp only
      rw [room_of (by simp only [List.length_cons, List.length_nil]; simp only [List.length_cons] at hb; omega) (by simp only [List.length_cons, List.length_nil]; simp only [List.length_cons] at hb; omega), Option.bind_some, wi64_of (by omega) (by simp only [List.length_cons] at hb; omega)]
      rfl
    rw [loopO_next hstep]
    have hq1 : outN ((ls.headD []).length + come.length) (npr ((ls.headD []).length + come.length + many) (mostN k i)) ≤ ((ls.headD []).length + come.length + 1) / 2 := by unfold outN; omega
    have hp1 : npr ((ls.headD []).length + come.length + many) (mostN k i) ≤ ((ls.headD []).length + come.length + many) / 2 := by unfold npr; omega
    rw [ih _ _ _ (goes_split hmp) ?_ (by simp [ho]) ?_ ?_ ?_]
    · rw [List.append_assoc]; rfl
    · rw [hls1, List.tail_drop]
    · simp only [List.length_append, List.length_cons, List.length_nil] at hb ⊢; omega
    · rw [List.length_take]; omega
    · have hq2 : outN ((ls.headD []).length + come.length) (npr ((ls.headD []).length + come.length + many) (mostN k i)) = npr ((ls.headD []).length + come.length + many) (mostN k i) ∨ ((ls.headD []).length + come.length + 1) / 2 ≤ outN ((ls.headD []).length + come.length) (npr ((ls.headD []).length + come.length + many) (mostN k i)) := by unfold outN; omega
      omega

/-- One deed. -/
theorem add_eq {k : Nat} {g t w t0 : Int} {ls : List (List Sp)} (hk1 : 1 ≤ k) (hk : k ≤ 1048576) (h : Good k ls t0) (ht : 0 ≤ t) (hw : 0 ≤ w) (hw2 : w < 18446744073709551616) :
    ref06_Add ((k : Int), g, ls) t w = some (if addC ls t w = 0 then ((k : Int), g, addL k ls t w, 0) else (0, 0, [], addC ls t w)) := by
  have hll : ∀ l ∈ ls, l.length ≤ k + 1 := shape_len h.shape
  have hlast := last_eq (K := (k : Int)) (g := g) (ls := ls) (fun l hl => by have := hll l hl; omega)
  have htot := total_eq (K := (k : Int)) (g := g) (ls := ls) (by have := h.levels; omega) (by have := h.wt; omega) (fun l hl => by have := hll l hl; omega)
  have hwt := h.wt
  unfold ref06_Add
  unfold addC
  by_cases h0 : w = 0
  · rw [if_pos h0, if_pos h0, if_neg (by decide)]
  rw [if_neg h0, if_neg h0, hlast, Option.bind_some]
  have hcond : (if 9223372036854775807 < t then (some true) else (if (lastP ls).2 = true then (some (decide (t < (lastP ls).1))) else (some false)) : Option Bool) = some (decide (9223372036854775807 < t ∨ ((lastM ls).any fun x => decide (t < x)) = true)) := by
    by_cases h1 : 9223372036854775807 < t
    · rw [if_pos h1, decide_eq_true (.inl h1)]
    · rw [if_neg h1]
      unfold lastP
      cases lastM ls with
      | none => simp [h1]
      | some x => simp [h1]
  rw [hcond, Option.bind_some]
  by_cases h1 : 9223372036854775807 < t ∨ ((lastM ls).any fun x => decide (t < x)) = true
  · rw [if_pos (decide_eq_true h1), if_pos h1, if_neg (by decide)]
  rw [if_neg (by simpa using h1), if_neg h1]
  by_cases h2 : 4503599627370496 < w
  · have h3 : 4503599627370496 < w + wt ls := by omega
    rw [if_pos h2, if_pos h3, if_neg (by decide)]
  rw [if_neg h2, htot, Option.bind_some, wu64_of (by omega) (by omega)]
  by_cases h3 : 4503599627370496 < w + wt ls
  · rw [if_pos h3, if_pos h3, if_neg (by decide)]
  rw [if_neg h3, if_neg h3, if_pos rfl]
  have hc : addC ls t w = 0 := by unfold addC; rw [if_neg h0, if_neg h1, if_neg h3]
  have hg := h.addL hk1 ht hw hc
  have hlen := hg.levels
  have hl := add_loop (k := k) (g := g) (t := t) hk hll 0 ls (List.replicate w.toNat (t, t)) [] w.toNat [] rfl rfl rfl (by unfold addL at hlen; simp only [List.length_nil]; omega) (by simp) (by omega)
  have ew : ((w.toNat : Nat) : Int) = w := by omega
  rw [ew] at hl
  have hl' : loopO (ref06_Add_s0 ((k : Int), g, ls) t) (([] : List Sp), w, (0 : Int), ([] : List (List Sp))) = some (addL k ls t w) := hl
  rw [hl', Option.bind_some]
end Go.Proofs.Ytbeknohemgjfbaa.Pu
