/- The laws of chapter 05, in plain words: a level of buckets. -/
import Derived.Test.YtbnjjpmlaknaoaaH6
namespace Go.Proofs.Ytbnjjpmlaknaoaa.Pu
set_option linter.unusedVariables false

/-! ### Pushed in two -/
theorem npr_two {most : Nat} (hm : 1 ≤ most) (n f : Nat) : npr (n + f) most = npr n most + npr (n - 2 * npr n most + f) most := by unfold npr; omega
theorem stays_two {most : Nat} (hm : 1 ≤ most) (A F : List Sp) : stays most (stays most A ++ F) = stays most (A ++ F) := by
  have h1 := npr_le (n := A.length) hm
  have h2 := npr_two hm A.length F.length
  unfold stays
  rw [List.length_append, List.length_drop, List.length_append, h2, Nat.mul_add, ← List.drop_drop, List.drop_append_of_le_length h1]
theorem goes_two {most : Nat} (hm : 1 ≤ most) (A F : List Sp) : goes most (A ++ F) = goes most A ++ goes most (stays most A ++ F) := by
  have h1 := npr_le (n := A.length) hm
  have h2 := npr_two hm A.length F.length
  unfold goes stays
  rw [List.length_append, List.length_append, List.length_drop, h2, Nat.mul_add, List.take_add, ← prs_app _ (by rw [List.length_take]; omega), List.take_append_of_le_length h1, List.drop_append_of_le_length h1]
theorem stays_few {most : Nat} {A : List Sp} (h : A.length ≤ most) : stays most A = A := by
  have : npr A.length most = 0 := by unfold npr; omega
  unfold stays; rw [this]; rfl
theorem goes_few {most : Nat} {A : List Sp} (h : A.length ≤ most) : goes most A = [] := by
  have : npr A.length most = 0 := by unfold npr; omega
  unfold goes; rw [this]; rfl
theorem allM_two (l come : List Sp) (x y : Nat) (t : Int) : allM l come (x + y) t = allM l come x t ++ List.replicate y (t, t) := by
  unfold allM; rw [List.append_assoc (l ++ come), List.replicate_append_replicate]
theorem allM_nil (l : List Sp) (y : Nat) (t : Int) : allM l [] y t = l ++ List.replicate y (t, t) := by unfold allM; rw [List.append_nil]

/-- What a push comes to. -/
def psh (most : Nat) (l come : List Sp) (many : Nat) (t : Int) : List Sp × List Sp × Int :=
  (stays most (allM l come many t), (goes most (allM l come many t)).take (outN (l.length + come.length) (npr (l.length + come.length + many) most)),
    ((npr (l.length + come.length + many) most - outN (l.length + come.length) (npr (l.length + come.length + many) most) : Nat) : Int))
theorem push_psh {l come : List Sp} {most many : Nat} {t mo : Int} (hmo : max mo 1 = (most : Int)) (hm : 1 ≤ most) (hm2 : most ≤ 1000) (hn : l.length + come.length ≤ 1000000) (hmany : many ≤ 9007199254740992) : level_Push l mo come (many : Int) t = some (psh most l come many t) :=
  push_same hmo hm (by omega) hn hmany (by have := stays_le hm (allM l come many t); omega)
theorem rpush_psh {l come : List Sp} {most many : Nat} {t mo : Int} (hmo : max mo 1 = (most : Int)) (hm : 1 ≤ most) (hm2 : most ≤ 1000) (hn : l.length + come.length ≤ 1000000) (hmany : many ≤ 9007199254740992) : ref05_Push l mo come (many : Int) t = some (psh most l come many t) :=
  push_gen hmo hm (by omega) (by omega) hmany (by have := stays_le hm (allM l come many t); omega)
theorem psh_whole {most : Nat} (hm : 1 ≤ most) (l come : List Sp) (many : Nat) (t : Int) : (psh most l come many t).2.1 ++ List.replicate (psh most l come many t).2.2.toNat (t, t) = goes most (allM l come many t) := by
  unfold psh
  simp only [Int.toNat_natCast]
  exact (goes_split hm).symm
theorem psh_len {most : Nat} (hm : 1 ≤ most) (l come : List Sp) (many : Nat) (t : Int) : (psh most l come many t).2.1.length ≤ l.length + come.length := by
  unfold psh
  simp only [List.length_take]
  have h1 : outN (l.length + come.length) (npr (l.length + come.length + many) most) ≤ (l.length + come.length + 1) / 2 := by unfold outN; omega
  omega

theorem awake5 : law05_awake = some true := by
  unfold law05_awake
  have h := push_psh (l := [(1, 2)]) (come := []) (most := 2) (many := 3) (t := 9) (mo := 2) (by decide) (by decide) (by decide) (by decide) (by decide)
  have e : psh 2 [(1, 2)] [] 3 9 = ([(9, 9), (9, 9)], [(1, 9)], 0) := by decide
  rw [e] at h
  have h' : level_Push [((1 : Int), (2 : Int))] (2 : Int) ([] : List (Int × Int)) (3 : Int) (9 : Int) = some ([(9, 9), (9, 9)], [(1, 9)], 0) := h
  rw [h', Option.bind_some]
  have m1 := most_same (k := 4) 0 (by decide)
  have m2 := most_same (k := 5) 1 (by decide)
  have m1' : level_Most (4 : Int) (0 : Int) = some 5 := m1
  have m2' : level_Most (5 : Int) (1 : Int) = some 4 := m2
  have m3' : level_Least (5 : Int) (1 : Int) = some 3 := by unfold level_Least; rw [m2']; rfl
  rw [m1', Option.bind_some, if_pos rfl, m2', Option.bind_some, if_pos rfl, m3', Option.bind_some, if_pos rfl]
  rfl
theorem come_eq (a b : List Sp) : law05_come a b = some (decide (a.length ≤ 20 ∧ b.length ≤ 20)) := by
  unfold law05_come
  by_cases h : a.length ≤ 20
  · rw [if_pos (by omega)]
    congr 1
    rw [decide_eq_decide]
    omega
  · rw [if_neg (by omega), decide_eq_false (fun q => h q.1)]
theorem most_any (x : Int) (i : Nat) (hx : x ≤ 1000000) : level_Most x (i : Int) = ref05_Most x (i : Int) := by
  have h1 : level_Most x (i : Int) = level_Most ((max x 0).toNat : Int) (i : Int) := by unfold level_Most; rw [show max (((max x 0).toNat : Int)) 0 = max x 0 by omega]
  have h2 : ref05_Most x (i : Int) = ref05_Most ((max x 0).toNat : Int) (i : Int) := by unfold ref05_Most; rw [show max (((max x 0).toNat : Int)) 0 = max x 0 by omega]
  rw [h1, h2, most_same i (by omega), most_eq i (by omega)]
theorem most_some (x : Int) (i : Nat) (hx : x ≤ 1000000) : ∃ z, ref05_Most x (i : Int) = some z := by
  have h2 : ref05_Most x (i : Int) = ref05_Most ((max x 0).toNat : Int) (i : Int) := by unfold ref05_Most; rw [show max (((max x 0).toNat : Int)) 0 = max x 0 by omega]
  exact ⟨_, h2.trans (most_eq i (by omega))⟩
abbrev Spans (l : List Sp) : Prop := ∀ x ∈ l, (0 ≤ x.1 ∧ x.1 < 18446744073709551616) ∧ 0 ≤ x.2 ∧ x.2 < 18446744073709551616

theorem law05_LevelTells_true (p1 p2 : List Sp) (p3 : Int × Int × Int × Int × Int) (h1 : p1.length ≤ 9223372036854775807 ∧ Spans p1) (h2 : p2.length ≤ 9223372036854775807 ∧ Spans p2) (h3 : U64 p3.1 ∧ U64 p3.2.1 ∧ U64 p3.2.2.1 ∧ U64 p3.2.2.2.1 ∧ U64 p3.2.2.2.2) :
    law05_LevelTells p1 p2 p3 = some true := by
  obtain ⟨a, b, c, d, e⟩ := p3
  obtain ⟨⟨ha1, ha2⟩, ⟨hb1, hb2⟩, ⟨hc1, hc2⟩, ⟨hd1, hd2⟩, he1, he2⟩ := h3
  simp only at ha1 ha2 hb1 hb2 hc1 hc2 hd1 hd2 he1 he2
  unfold law05_LevelTells
  rw [awake5, Option.bind_some, come_eq, Option.bind_some]
  by_cases hc : p1.length ≤ 20 ∧ p2.length ≤ 20
  · rw [decide_eq_true hc, if_neg (by simp)]
    simp only
    have ea : a.tmod 100 = a % 100 := Int.tmod_eq_emod_of_nonneg ha1
    have eb : b.tmod 9007199254740992 = ((b % 9007199254740992).toNat : Int) := by rw [Int.tmod_eq_emod_of_nonneg hb1]; omega
    have ed : d.tmod 3000 = d % 3000 := Int.tmod_eq_emod_of_nonneg hd1
    have ee : e.tmod 4 = ((e % 4).toNat : Int) := by rw [Int.tmod_eq_emod_of_nonneg he1]; omega
    rw [ea, eb, ed, ee, wi64_of (x := a % 100) (by omega) (by omega), wi64_of (x := d % 3000) (by omega) (by omega), wi64_of (x := d % 3000 - 50) (by omega) (by omega), wi64_of (x := ((e % 4).toNat : Int)) (by omega) (by omega)]
    obtain ⟨most, hmo⟩ : ∃ most : Nat, max (a % 100) 1 = (most : Int) := ⟨(max (a % 100) 1).toNat, by omega⟩
    rw [push_psh hmo (by omega) (by omega) (by omega) (by omega), Option.bind_some, rpush_psh hmo (by omega) (by omega) (by omega) (by omega), Option.bind_some, if_pos trivial]
    have hlen := psh_len (most := most) (by omega) p1 p2 (b % 9007199254740992).toNat c
    have hst : (psh most p1 p2 (b % 9007199254740992).toNat c).1.length ≤ most := stays_le (by omega) _
    rw [same5_eq (by omega), Option.bind_some, if_pos (by simp), same5_eq (by omega), Option.bind_some, if_pos (by simp), if_pos rfl]
    have hm := most_any (d % 3000 - 50) (e % 4).toNat (by omega)
    obtain ⟨z, hz⟩ := most_some (d % 3000 - 50) (e % 4).toNat (by omega)
    unfold level_Least ref05_Least
    rw [hm, hz]
    simp
  · rw [decide_eq_false hc, if_pos (by simp)]
theorem law05_LevelSums_true (p1 p2 : List Sp) (p3 : Int × Int × Int) (h1 : p1.length ≤ 9223372036854775807 ∧ Spans p1) (h2 : p2.length ≤ 9223372036854775807 ∧ Spans p2) (h3 : U64 p3.1 ∧ U64 p3.2.1 ∧ U64 p3.2.2) :
    law05_LevelSums p1 p2 p3 = some true := by
  obtain ⟨a, b, c⟩ := p3
  obtain ⟨⟨ha1, ha2⟩, ⟨hb1, hb2⟩, hc1, hc2⟩ := h3
  simp only at ha1 ha2 hb1 hb2 hc1 hc2
  unfold law05_LevelSums
  rw [awake5, Option.bind_some, come_eq, Option.bind_some]
  by_cases hc : p1.length ≤ 20 ∧ p2.length ≤ 20
  · rw [decide_eq_true hc, if_neg (by simp)]
    simp only
    have ea : a.tmod 100 = a % 100 := Int.tmod_eq_emod_of_nonneg ha1
    have eb : b.tmod 9007199254740992 = ((b % 9007199254740992).toNat : Int) := by rw [Int.tmod_eq_emod_of_nonneg hb1]; omega
    rw [ea, eb, wi64_of (x := a % 100) (by omega) (by omega), wi64_of (x := 1 + a % 100) (by omega) (by omega)]
    obtain ⟨most, hmo⟩ : ∃ most : Nat, 1 + a % 100 = (most : Int) := ⟨(1 + a % 100).toNat, by omega⟩
    rw [hmo]
    by_cases hl : (most : Int) < (p1.length : Int)
    · rw [if_pos hl]
    · rw [if_neg hl, push_psh (most := most) (by omega) (by omega) (by omega) (by omega) (by omega), Option.bind_some, if_pos trivial]
      obtain ⟨many, hmany⟩ : ∃ many, many = (b % 9007199254740992).toNat := ⟨_, rfl⟩
      rw [← hmany]
      have hmlt : many < 9007199254740992 := by omega
      have hm1 : 1 ≤ most := by omega
      have hA := allM_len p1 p2 many c
      have hS := stays_len hm1 (allM p1 p2 many c)
      have hG := goes_len hm1 (allM p1 p2 many c)
      have hp := npr_le (n := p1.length + p2.length + many) hm1
      have hq : outN (p1.length + p2.length) (npr (p1.length + p2.length + many) most) ≤ npr (p1.length + p2.length + many) most := by unfold outN; omega
      have hpd : npr (p1.length + p2.length + many) most = (p1.length + p2.length + many - most + 1) / 2 := rfl
      rw [hA] at hS hG
      have l1 : (psh most p1 p2 many c).1.length = p1.length + p2.length + many - 2 * npr (p1.length + p2.length + many) most := hS
      have l2 : (psh most p1 p2 many c).2.1.length = outN (p1.length + p2.length) (npr (p1.length + p2.length + many) most) := by unfold psh; simp only [List.length_take]; omega
      have l3 : (psh most p1 p2 many c).2.2 = ((npr (p1.length + p2.length + many) most - outN (p1.length + p2.length) (npr (p1.length + p2.length + many) most) : Nat) : Int) := rfl
      rw [l1, l2, l3]
      generalize npr (p1.length + p2.length + many) most = p at *
      generalize outN (p1.length + p2.length) p = q at *
      have w1 : wu64 ((wu64 ((q : Int))) + ((p - q : Nat) : Int)) = (p : Int) := by rw [wu64_of (x := (q : Int)) (by omega) (by omega), wu64_of (by omega) (by omega)]; omega
      rw [w1, wu64_of (x := 2 * (p : Int)) (by omega) (by omega), wu64_of (x := ((p1.length + p2.length + many - 2 * p : Nat) : Int)) (by omega) (by omega), wi64_of (x := (p1.length : Int) + (p2.length : Int)) (by omega) (by omega), wu64_of (x := (p1.length : Int) + (p2.length : Int)) (by omega) (by omega),
        wu64_of (x := 2 * (p : Int) + ((p1.length + p2.length + many - 2 * p : Nat) : Int)) (by omega) (by omega), wu64_of (x := (p1.length : Int) + (p2.length : Int) + (many : Int)) (by omega) (by omega), wi64_of (x := (most : Int) - 1) (by omega) (by omega)]
      rw [if_pos (by omega), if_pos (by omega)]
      by_cases hz : (p : Int) = 0
      · rw [if_pos hz]
      · rw [if_neg hz]
        congr 1
        rw [decide_eq_true_eq]
        omega
  · rw [decide_eq_false hc, if_pos (by simp)]

theorem ones_eq {l : List Sp} (hl : l.length ≤ 1000) (k : Nat) (hk : k < 9223372036854775808) (t : Int) : law05_ones l (k : Int) t = some (l ++ List.replicate (min k 100) (t, t)) := by
  unfold law05_ones
  rw [room_of (by simp; omega) (by simp; omega), Option.bind_some]
  have : loopO (law05_ones_s0 (k : Int) t) (l, (0 : Int)) = some (l ++ List.replicate (min k 100) (t, t)) := by
    have := loopO_run (step := law05_ones_s0 (k : Int) t) (r := l ++ List.replicate (min k 100) (t, t)) (fun j => (l ++ List.replicate j (t, t), (j : Int))) (min k 100) (fun j hj => ?_) ?_
    · simpa using this
    · unfold law05_ones_s0
      simp only
      rw [if_pos (by omega), if_pos (by omega), room_of (by simp; omega) (by simp; omega), Option.bind_some, List.append_assoc, wu64_of (by omega) (by omega), show ([(t, t)] : List Sp) = List.replicate 1 (t, t) from rfl, List.replicate_append_replicate]
      rfl
    · unfold law05_ones_s0
      simp only
      by_cases h : k ≤ 100
      · rw [if_neg (by omega)]
      · rw [if_neg (c := ((min k 100 : Nat) : Int) < 100) (by omega), ite_self]
  rw [this, Option.bind_some]
theorem law05_LevelTwice_true (p1 p2 : List Sp) (p3 : Int × Int × Int × Int) (h1 : p1.length ≤ 9223372036854775807 ∧ Spans p1) (h2 : p2.length ≤ 9223372036854775807 ∧ Spans p2) (h3 : U64 p3.1 ∧ U64 p3.2.1 ∧ U64 p3.2.2.1 ∧ U64 p3.2.2.2) :
    law05_LevelTwice p1 p2 p3 = some true := by
  obtain ⟨a, b, c, d⟩ := p3
  obtain ⟨⟨ha1, ha2⟩, ⟨hb1, hb2⟩, ⟨hc1, hc2⟩, hd1, hd2⟩ := h3
  simp only at ha1 ha2 hb1 hb2 hc1 hc2 hd1 hd2
  unfold law05_LevelTwice
  rw [awake5, Option.bind_some, come_eq, Option.bind_some]
  by_cases hc : p1.length ≤ 20 ∧ p2.length ≤ 20
  · rw [decide_eq_true hc, if_neg (by simp)]
    simp only
    have ea : a.tmod 20 = a % 20 := Int.tmod_eq_emod_of_nonneg ha1
    obtain ⟨x, hx⟩ : ∃ x : Nat, b.tmod 40 = (x : Int) := ⟨(b % 40).toNat, by rw [Int.tmod_eq_emod_of_nonneg hb1]; omega⟩
    obtain ⟨y, hy⟩ : ∃ y : Nat, c.tmod 40 = (y : Int) := ⟨(c % 40).toNat, by rw [Int.tmod_eq_emod_of_nonneg hc1]; omega⟩
    have hx40 : x < 40 := by have := Int.tmod_eq_emod_of_nonneg (b := 40) hb1; omega
    have hy40 : y < 40 := by have := Int.tmod_eq_emod_of_nonneg (b := 40) hc1; omega
    rw [ea, hx, hy, wi64_of (x := a % 20) (by omega) (by omega), wi64_of (x := 1 + a % 20) (by omega) (by omega)]
    obtain ⟨most, hmo⟩ : ∃ most : Nat, 1 + a % 20 = (most : Int) := ⟨(1 + a % 20).toNat, by omega⟩
    rw [hmo]
    by_cases hl : (most : Int) < (p1.length : Int)
    · rw [if_pos hl]
    · have hm1 : 1 ≤ most := by omega
      have e1 : wu64 ((x : Int) + (y : Int)) = ((x + y : Nat) : Int) := by rw [wu64_of (by omega) (by omega)]; omega
      have k1 := psh_len hm1 p1 p2 (x + y) d
      have k2 := psh_len hm1 p1 p2 x d
      have s2 : (psh most p1 p2 x d).1.length ≤ most := stays_le hm1 _
      have k3 := psh_len hm1 (psh most p1 p2 x d).1 [] y d
      rw [if_neg hl, e1, push_psh (most := most) (by omega) hm1 (by omega) (by omega) (by omega), Option.bind_some, push_psh (most := most) (by omega) hm1 (by omega) (by omega) (by omega), Option.bind_some,
        push_psh (most := most) (by omega) hm1 (by omega) (by simp only [List.length_nil]; omega) (by omega), Option.bind_some]
      have z : ∀ (l come : List Sp) (m : Nat), l.length + come.length + m ≤ 200 → ∃ z : Nat, (psh most l come m d).2.2 = (z : Int) ∧ z ≤ 100 := fun l come m h => by
        refine ⟨_, rfl, ?_⟩
        have := npr_le (n := l.length + come.length + m) hm1
        omega
      obtain ⟨z1, hz1, hz1'⟩ := z p1 p2 (x + y) (by omega)
      obtain ⟨z2, hz2, hz2'⟩ := z p1 p2 x (by omega)
      obtain ⟨z3, hz3, hz3'⟩ := z (psh most p1 p2 x d).1 [] y (by simp only [List.length_nil]; omega)
      have w1 := psh_whole hm1 p1 p2 (x + y) d
      have w2 := psh_whole hm1 p1 p2 x d
      have w3 := psh_whole hm1 (psh most p1 p2 x d).1 [] y d
      rw [hz1, Int.toNat_natCast] at w1
      rw [hz2, Int.toNat_natCast] at w2
      rw [hz3, Int.toNat_natCast] at w3
      simp only [List.length_nil] at k3
      rw [hz1, hz2, hz3, ones_eq (by omega) z1 (by omega), Option.bind_some, ones_eq (by omega) z2 (by omega), Option.bind_some, ones_eq (by omega) z3 (by omega), Option.bind_some, Nat.min_eq_left hz1', Nat.min_eq_left hz2', Nat.min_eq_left hz3', w1, w2, w3]
      have g1 := goes_len hm1 (allM p1 p2 (x + y) d)
      have g2 := goes_len hm1 (allM p1 p2 x d)
      have g3 := goes_len hm1 (allM (psh most p1 p2 x d).1 [] y d)
      have n1 := npr_le (n := (allM p1 p2 (x + y) d).length) hm1
      have n2 := npr_le (n := (allM p1 p2 x d).length) hm1
      have n3 := npr_le (n := (allM (psh most p1 p2 x d).1 [] y d).length) hm1
      simp only [allM_len, List.length_nil] at g1 g2 g3 n1 n2 n3
      rw [room_of (by omega) (by omega), Option.bind_some, if_pos trivial]
      have s1 : (psh most p1 p2 (x + y) d).1.length ≤ most := stays_le hm1 _
      have t1 : (psh most p1 p2 (x + y) d).1 = (psh most (psh most p1 p2 x d).1 [] y d).1 := by
        show stays most (allM p1 p2 (x + y) d) = stays most (allM (stays most (allM p1 p2 x d)) [] y d)
        rw [allM_nil, stays_two hm1, allM_two]
      have t2 : goes most (allM p1 p2 (x + y) d) = goes most (allM p1 p2 x d) ++ goes most (allM (psh most p1 p2 x d).1 [] y d) := by
        show _ = _ ++ goes most (allM (stays most (allM p1 p2 x d)) [] y d)
        rw [allM_nil, ← goes_two hm1, allM_two]
      rw [same5_eq (by omega), Option.bind_some, t1, decide_eq_true rfl, if_pos rfl, same5_eq (by omega), Option.bind_some, t2]
      simp
  · rw [decide_eq_false hc, if_pos (by simp)]
end Go.Proofs.Ytbnjjpmlaknaoaa.Pu
