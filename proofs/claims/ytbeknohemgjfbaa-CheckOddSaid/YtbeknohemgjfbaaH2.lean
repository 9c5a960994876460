/- The document's histogram, as lists: what the reference's functions come to. -/
import Derived.Test.YtbeknohemgjfbaaH1
import Derived.Test.YtbeknohemgjfbaaQc
namespace Go.Proofs.Ytbeknohemgjfbaa.Pu
set_option linter.unusedVariables false

theorem tdiv_n (a b : Nat) : ((a : Int)).tdiv b = ((a / b : Nat) : Int) := by rw [Int.tdiv_eq_ediv_of_nonneg (by omega)]; rfl
theorem tmod_n (a b : Nat) : ((a : Int)).tmod b = ((a % b : Nat) : Int) := by rw [Int.tmod_eq_emod_of_nonneg (by omega)]; rfl
theorem most_eq {k : Nat} (i : Nat) (hk : k ≤ 1099511627776) : ref05_Most (k : Int) (i : Int) = some ((mostN k i : Nat) : Int) := by
  unfold ref05_Most mostN
  have e0 : max (k : Int) 0 = (k : Int) := by omega
  have e1 : ((k : Int)).tdiv 2 = ((k / 2 : Nat) : Int) := tdiv_n k 2
  have e2 : ((k : Int)).tmod 2 = ((k % 2 : Nat) : Int) := tmod_n k 2
  rw [e0, e1, e2]
  by_cases hi : i = 0
  · subst hi
    rw [if_pos (by simp), if_pos rfl, wi64_of (by omega) (by omega)]; rfl
  · rw [if_neg (by omega), if_neg hi, wi64_of (x := ((k / 2 : Nat) : Int)) (by omega) (by omega), wi64_of (x := ((k / 2 : Nat) : Int) + ((k % 2 : Nat) : Int)) (by omega) (by omega), wi64_of (by omega) (by omega)]
    congr 1; omega

/-- All that stands on a level and comes to it. -/
def allM (l come : List Sp) (many : Nat) (t : Int) : List Sp := (l ++ come) ++ List.replicate many (t, t)
theorem allM_len (l come : List Sp) (many : Nat) (t : Int) : (allM l come many t).length = l.length + come.length + many := by simp [allM]; omega
theorem allM_lt {l come : List Sp} {many : Nat} {t : Int} {i : Nat} (h : i < (l ++ come).length) : (allM l come many t)[i]? = some ((l ++ come)[i]) := by
  unfold allM; rw [List.getElem?_append_left h]; exact List.getElem?_eq_getElem h
theorem allM_ge {l come : List Sp} {many : Nat} {t : Int} {i : Nat} (h : (l ++ come).length ≤ i) (h2 : i < (l ++ come).length + many) : (allM l come many t)[i]? = some (t, t) := by
  unfold allM
  rw [List.getElem?_append_right h, List.getElem?_replicate, if_pos (by omega)]
theorem goes_get {most : Nat} (hm : 1 ≤ most) {A : List Sp} {i : Nat} {a b : Sp} (hi : i < npr A.length most) (ha : A[2 * i]? = some a) (hb : A[2 * i + 1]? = some b) : (goes most A)[i]? = some (a.1, b.2) := by
  have h2 := npr_le (n := A.length) hm
  unfold goes
  rw [prs_getElem?, if_pos (by rw [List.length_take]; omega)]
  simp only [List.getD_eq_getElem?_getD]
  rw [List.getElem?_take_of_lt (by omega), List.getElem?_take_of_lt (by omega), ha, hb]
  rfl
theorem take_get {α : Type} {l : List α} {i : Nat} {a : α} (h : l[i]? = some a) : l.take (i + 1) = l.take i ++ [a] := by
  rw [List.take_add_one, h]; rfl
/-- How many of the pairs that go are written out. -/
def outN (n p : Nat) : Nat := min p ((n + 1) / 2)
theorem push_gen {l come : List Sp} {most many : Nat} {t mo : Int} (hmo : max mo 1 = (most : Int)) (hm : 1 ≤ most) (hm2 : most ≤ 1099511627776) (hn : l.length + come.length ≤ 1099511627776) (hmany : many ≤ 9007199254740992)
    (hst : (stays most (allM l come many t)).length ≤ 1099511627776) :
    ref05_Push l mo come (many : Int) t = some (stays most (allM l come many t), (goes most (allM l come many t)).take (outN (l.length + come.length) (npr (l.length + come.length + many) most)),
      ((npr (l.length + come.length + many) most - outN (l.length + come.length) (npr (l.length + come.length + many) most) : Nat) : Int)) := by
  have hA := allM_len l come many t
  obtain ⟨n, hn0⟩ : ∃ n, n = l.length + come.length := ⟨_, rfl⟩
  obtain ⟨p, hp0⟩ : ∃ p, p = npr (n + many) most := ⟨_, rfl⟩
  have hlen : (l ++ come).length = n := by simp [hn0]
  have hpn : 2 * p ≤ n + many := hp0 ▸ npr_le hm
  rw [← hn0] at hn hA ⊢
  rw [← hp0]
  obtain ⟨q, hq0⟩ : ∃ q, q = outN n p := ⟨_, rfl⟩
  rw [← hq0]
  have hq1 : q ≤ p := by rw [hq0]; unfold outN; omega
  have hq2 : q = p ∨ n ≤ 2 * q := by rw [hq0]; unfold outN; omega
  have hq3 : ∀ k, k < q → 2 * k < n := by intro k hk; rw [hq0] at hk; unfold outN at hk; omega
  have hS := stays_len hm (allM l come many t)
  rw [hA, ← hp0] at hS
  have hG := goes_len hm (allM l come many t)
  rw [hA, ← hp0] at hG
  obtain ⟨A, hA0⟩ : ∃ A, A = allM l come many t := ⟨_, rfl⟩
  unfold ref05_Push
  rw [room_of (by simp; omega) (by simp; omega), Option.bind_some, room_of (by omega) (by omega), Option.bind_some, hlen]
  have e1 : wu64 (n : Int) = n := wu64_of (by omega) (by omega)
  have e2 : wu64 ((n : Int) + (many : Int)) = ((n + many : Nat) : Int) := by rw [wu64_of (by omega) (by omega)]; omega
  have e3 : wu64 (max mo 1) = (most : Int) := by rw [wu64_of (by omega) (by omega)]; exact hmo
  rw [e1, e2, e3]
  have ej : (if (most : Int) < ((n + many : Nat) : Int) then (some (wu64 ((wu64 ((wu64 (((n + many : Nat) : Int) - (most : Int))) + 1)).tdiv 2))) else (some ((0 : Int))) : Option Int) = some (p : Int) := by
    by_cases h : most < n + many
    · rw [if_pos (by omega), wu64_of (x := ((n + many : Nat) : Int) - (most : Int)) (by omega) (by omega), wu64_of (x := ((n + many : Nat) : Int) - (most : Int) + 1) (by omega) (by omega)]
      have : (((n + many : Nat) : Int) - (most : Int) + 1).tdiv 2 = (p : Int) := by
        rw [Int.tdiv_eq_ediv_of_nonneg (by omega), hp0]; unfold npr; omega
      rw [this, wu64_of (by omega) (by omega)]
    · rw [if_neg (by omega)]
      have : p = 0 := by rw [hp0]; unfold npr; omega
      rw [this]; rfl
  rw [ej, Option.bind_some]
  have L1 : loopO (ref05_Push_s0 l come t (p : Int)) (([] : List Sp), (0 : Int)) = some ((goes most A).take q, (q : Int)) := by
    refine loopO_run (fun k => ((goes most A).take k, (k : Int))) q (fun k hk => ?_) ?_
    · have hkn := hq3 k hk
      have w1 : wu64 (2 * (k : Int)) = ((2 * k : Nat) : Int) := by rw [wu64_of (by omega) (by omega)]; omega
      have w2 : wu64 (((2 * k : Nat) : Int) + 1) = ((2 * k + 1 : Nat) : Int) := by rw [wu64_of (by omega) (by omega)]; omega
      have w3 : wu64 ((k : Int) + 1) = ((k + 1 : Nat) : Int) := by rw [wu64_of (by omega) (by omega)]; omega
      have hkp : k < npr A.length most := by rw [hA0, hA, ← hp0]; omega
      have hlG : ((goes most A).take k).length = k := by rw [List.length_take, hA0, hG]; omega
      unfold ref05_Push_s0
      simp only [hlen, e1, w1]
      rw [if_pos (by omega), if_pos (by omega), rdo_get (by omega), Option.bind_some, w2]
      by_cases h : 2 * k + 1 < n
      · rw [if_pos (by omega), rdo_get (by omega), Option.bind_some, room_of (by simp; omega) (by simp; omega), Option.bind_some, w3]
        rw [take_get (goes_get hm hkp (hA0 ▸ allM_lt (by omega)) (hA0 ▸ allM_lt (by omega)))]
      · rw [if_neg (by omega), room_of (by simp; omega) (by simp; omega), Option.bind_some, w3]
        rw [take_get (goes_get hm hkp (hA0 ▸ allM_lt (by omega)) (hA0 ▸ allM_ge (by omega) (by omega)))]
    · unfold ref05_Push_s0
      simp only [hlen, e1]
      rcases hq2 with h | h
      · rw [if_neg (by omega)]
      · rw [if_neg (c := wu64 (2 * (q : Int)) < (n : Int)) (by rw [wu64_of (by omega) (by omega)]; omega), ite_self]
  rw [L1, Option.bind_some]
  have e5 : wu64 (2 * (p : Int)) = ((2 * p : Nat) : Int) := by rw [wu64_of (by omega) (by omega)]; omega
  have hd : ∀ k, (stays most A)[k]? = A[2 * p + k]? := by intro k; unfold stays; rw [List.getElem?_drop, hA0, hA, ← hp0]
  have L2 : loopO (ref05_Push_s1 l come (many : Int) t) (([] : List Sp), ((2 * p : Nat) : Int)) = some (stays most A) := by
    have := loopO_run (step := ref05_Push_s1 l come (many : Int) t) (r := stays most A) (fun k => ((stays most A).take k, ((2 * p + k : Nat) : Int))) (n + many - 2 * p) (fun k hk => ?_) ?_
    · exact this
    · have w3 : wu64 (((2 * p + k : Nat) : Int) + 1) = ((2 * p + (k + 1) : Nat) : Int) := by rw [wu64_of (by omega) (by omega)]; omega
      have hlS : ((stays most A).take k).length = k := by rw [List.length_take, hA0, hS]; omega
      unfold ref05_Push_s1
      simp only [hlen, e1, e2]
      rw [if_pos (by omega)]
      by_cases h : 2 * p + k < n
      · rw [if_pos (by omega), rdo_get (by omega), Option.bind_some, room_of (by simp; omega) (by simp; omega), Option.bind_some, w3]
        rw [take_get (l := stays most A) (i := k) (by rw [hd, hA0]; exact allM_lt (by omega))]
      · rw [if_neg (by omega), room_of (by simp; omega) (by simp; omega), Option.bind_some, w3]
        rw [take_get (l := stays most A) (i := k) (by rw [hd, hA0]; exact allM_ge (by omega) (by omega))]
    · unfold ref05_Push_s1
      simp only [hlen, e1, e2]
      rw [if_neg (by omega), List.take_of_length_le (by rw [hA0, hS]; omega)]
  rw [e5, L2, Option.bind_some, wu64_of (by omega) (by omega), ← hA0]
  congr 4
  omega
theorem push_eq {l come : List Sp} {most many : Nat} {t : Int} (hm : 1 ≤ most) (hm2 : most ≤ 1099511627776) (hn : l.length + come.length ≤ 1099511627776) (hmany : many ≤ 9007199254740992)
    (hst : (stays most (allM l come many t)).length ≤ 1099511627776) :
    ref05_Push l (most : Int) come (many : Int) t = some (stays most (allM l come many t), (goes most (allM l come many t)).take (outN (l.length + come.length) (npr (l.length + come.length + many) most)),
      ((npr (l.length + come.length + many) most - outN (l.length + come.length) (npr (l.length + come.length + many) most) : Nat) : Int)) := push_gen (by omega) hm hm2 hn hmany hst
end Go.Proofs.Ytbeknohemgjfbaa.Pu
