/- The laws of chapter 05, in plain words: one by one; in turn. -/
import Derived.Test.YtbnjjpmlaknaoaaT05
namespace Go.Proofs.Ytbnjjpmlaknaoaa.Pu
set_option linter.unusedVariables false

theorem one_eq {st : List Sp} {most : Nat} {s : Sp} (hm : 1 ≤ most) (hl : st.length ≤ most) (hm2 : most ≤ 1000) : ref05_One st (most : Int) s = some (stays most (st ++ [s]), goes most (st ++ [s])) := by
  unfold ref05_One
  have hlen : (st ++ [s]).length = st.length + 1 := by simp
  rw [room_of (by simp; omega) (by simp; omega), Option.bind_some, room_of (by simp; omega) (by simp; omega), Option.bind_some]
  by_cases h : st.length + 1 ≤ most
  · rw [if_pos (by omega), stays_few (by omega), goes_few (by omega)]
  · have hp : npr (st ++ [s]).length most = 1 := by rw [hlen]; unfold npr; omega
    have h0 : 0 < (st ++ [s]).length := by omega
    have h1 : 1 < (st ++ [s]).length := by omega
    have r0 : rdo (st ++ [s]) 0 = some (st ++ [s])[0] := rdo_get h0
    have r1 : rdo (st ++ [s]) 1 = some (st ++ [s])[1] := rdo_get h1
    rw [if_neg (by omega), must_of (by omega), Option.bind_some, r0, Option.bind_some, r1, Option.bind_some]
    have eg : goes most (st ++ [s]) = [((st ++ [s])[0].1, (st ++ [s])[1].2)] := by
      unfold goes
      rw [hp]
      obtain ⟨a, b, r, hr⟩ : ∃ a b r, st ++ [s] = a :: b :: r := by
        match hx : st ++ [s], h1 with
        | a :: b :: r, _ => exact ⟨a, b, r, rfl⟩
      simp only [hr]
      rfl
    have es : stays most (st ++ [s]) = (st ++ [s]).drop 2 := by unfold stays; rw [hp]
    rw [eg, es]
    rfl
theorem law05_LevelOnes_true (p1 p2 : List Sp) (p3 : Int × Int × Int) (h1 : p1.length ≤ 9223372036854775807 ∧ Spans p1) (h2 : p2.length ≤ 9223372036854775807 ∧ Spans p2) (h3 : U8 p3.1 ∧ U8 p3.2.1 ∧ U8 p3.2.2) :
    law05_LevelOnes p1 p2 p3 = some true := by
  obtain ⟨a, b, c⟩ := p3
  obtain ⟨⟨ha1, ha2⟩, ⟨hb1, hb2⟩, hc1, hc2⟩ := h3
  simp only at ha1 ha2 hb1 hb2 hc1 hc2
  have ea : wi64 (1 + wi64 (a.tmod 20)) = ((1 + (a % 20).toNat : Nat) : Int) := by
    rw [Int.tmod_eq_emod_of_nonneg ha1, wi64_of (x := a % 20) (by omega) (by omega), wi64_of (by omega) (by omega)]; omega
  have eb : wi64 (b.tmod 50) = ((b % 50).toNat : Int) := by
    rw [Int.tmod_eq_emod_of_nonneg hb1, wi64_of (by omega) (by omega)]; omega
  have ec : wu64 c = c := wu64_of (by omega) (by omega)
  obtain ⟨most, hmo⟩ : ∃ most, most = 1 + (a % 20).toNat := ⟨_, rfl⟩
  obtain ⟨many, hma⟩ : ∃ many, many = (b % 50).toNat := ⟨_, rfl⟩
  have hm1 : 1 ≤ most := by omega
  have hm2 : most ≤ 20 := by omega
  have hmany : many < 50 := by omega
  unfold law05_LevelOnes
  rw [awake5, Option.bind_some, come_eq, Option.bind_some]
  by_cases hc : p1.length ≤ 20 ∧ p2.length ≤ 20
  · rw [decide_eq_true hc, if_neg (by simp)]
    simp only
    rw [ea, eb, ec, ← hmo, ← hma]
    by_cases hl : (most : Int) < (p1.length : Int)
    · rw [if_pos hl]
    rw [if_neg hl]
    have hp1 : p1.length ≤ most := by omega
    obtain ⟨S, hS⟩ : ∃ S, S = p2 ++ List.replicate many (c, c) := ⟨_, rfl⟩
    have hSl : S.length = p2.length + many := by rw [hS]; simp
    have hall : p1 ++ S = allM p1 p2 many c := by rw [hS]; unfold allM; rw [List.append_assoc]
    have hstl : ∀ i, (stays most (p1 ++ S.take i)).length ≤ most := fun i => stays_le hm1 _
    have L0 : loopO (law05_LevelOnes_s0 p2 (a, b, c)) (p1, ([] : List Sp), (0 : Int)) = some (stays most (p1 ++ S), goes most (p1 ++ S)) := by
      have := loopO_run (step := law05_LevelOnes_s0 p2 (a, b, c)) (r := (stays most (p1 ++ S), goes most (p1 ++ S))) (fun i => (stays most (p1 ++ S.take i), goes most (p1 ++ S.take i), (i : Int))) S.length (fun i hi => ?_) ?_
      · simpa [stays_few hp1, goes_few hp1] using this
      · unfold law05_LevelOnes_s0
        simp only
        rw [ea, eb, ec, ← hmo, ← hma, wi64_of (x := (p2.length : Int) + (many : Int)) (by omega) (by omega), if_pos (by omega)]
        have hj : (if (i : Int) < ((p2.length : Int)) then ((rdo p2 (i : Int)).bind fun (z12 : Sp) => some ((z12.1, z12.2))) else (some ((c, c))) : Option Sp) = some S[i] := by
          by_cases h : i < p2.length
          · rw [if_pos (by omega), rdo_get h, Option.bind_some]
            congr 1
            simp only [hS]
            rw [List.getElem_append_left h]
          · rw [if_neg (by omega)]
            congr 1
            simp only [hS]
            rw [List.getElem_append_right (by omega), List.getElem_replicate]
        have hg : (goes most (p1 ++ S.take i)).length ≤ 1000 := by
          rw [goes_len hm1]
          have := npr_le (n := (p1 ++ S.take i).length) hm1
          rw [List.length_append, List.length_take] at this ⊢
          omega
        have hg2 : (goes most (stays most (p1 ++ S.take i) ++ [S[i]])).length ≤ 1000 := by
          rw [goes_len hm1]
          have := npr_le (n := (stays most (p1 ++ S.take i) ++ [S[i]]).length) hm1
          have := hstl i
          rw [List.length_append] at *
          simp only [List.length_cons, List.length_nil] at *
          omega
        rw [hj, Option.bind_some, one_eq hm1 (hstl i) (by omega), Option.bind_some]
        simp only
        rw [room_of (by omega) (by omega), Option.bind_some, wi64_of (by omega) (by omega), stays_two hm1, ← goes_two hm1, List.append_assoc, ← take_get (List.getElem?_eq_getElem hi)]
        rfl
      · unfold law05_LevelOnes_s0
        simp only
        rw [eb, ← hma, wi64_of (x := (p2.length : Int) + (many : Int)) (by omega) (by omega), if_neg (by omega), List.take_length]
    rw [L0, Option.bind_some, wu64_of (x := (many : Int)) (by omega) (by omega), push_psh (most := most) (by omega) hm1 (by omega) (by omega) (by omega), Option.bind_some]
    obtain ⟨z, hz⟩ : ∃ z : Nat, (psh most p1 p2 many c).2.2 = (z : Int) := ⟨_, rfl⟩
    have hz60 : z ≤ 60 := by
      have h5 : (psh most p1 p2 many c).2.2 = ((npr (p1.length + p2.length + many) most - outN (p1.length + p2.length) (npr (p1.length + p2.length + many) most) : Nat) : Int) := rfl
      have := npr_le (n := p1.length + p2.length + many) hm1
      omega
    have hw := psh_whole hm1 p1 p2 many c
    rw [hz, Int.toNat_natCast] at hw
    have k1 := psh_len hm1 p1 p2 many c
    have L1 : loopO (law05_LevelOnes_s1 (a, b, c) (psh most p1 p2 many c)) ((psh most p1 p2 many c).2.1, (0 : Int)) = some (goes most (p1 ++ S)) := by
      have := loopO_run (step := law05_LevelOnes_s1 (a, b, c) (psh most p1 p2 many c)) (r := goes most (p1 ++ S)) (fun j => ((psh most p1 p2 many c).2.1 ++ List.replicate j (c, c), (j : Int))) z (fun j hj => ?_) ?_
      · simpa using this
      · unfold law05_LevelOnes_s1
        simp only
        rw [hz, ec, if_pos (by omega), if_pos (by omega), room_of (by simp; omega) (by simp; omega), Option.bind_some, List.append_assoc, wu64_of (by omega) (by omega), show ([(c, c)] : List Sp) = List.replicate 1 (c, c) from rfl, List.replicate_append_replicate]
        rfl
      · unfold law05_LevelOnes_s1
        simp only
        rw [hz, if_neg (by omega), hw, hall]
    rw [L1, Option.bind_some, if_pos trivial]
    have t1 : (psh most p1 p2 many c).1 = stays most (p1 ++ S) := by rw [hall]; rfl
    have hgl : (goes most (p1 ++ S)).length ≤ 1000 := by
      rw [goes_len hm1]
      have := npr_le (n := (p1 ++ S).length) hm1
      rw [List.length_append] at this ⊢
      omega
    have hsl : (stays most (p1 ++ S)).length ≤ most := stays_le hm1 _
    rw [t1, same5_eq (by omega), Option.bind_some, decide_eq_true rfl, if_pos rfl, same5_eq (by omega), Option.bind_some]
    simp
  · rw [decide_eq_false hc, if_pos (by simp)]

/-! ### In turn -/
theorem order_loop {p1 : List Int} (hp : ∀ x ∈ p1, U8 x) (hl : p1.length ≤ 40) : ∃ r : (List Sp) × Int, loopO (law05_LevelOrder_s0 p1) (([] : List Sp), (0 : Int), (0 : Int)) = some r ∧ InTurn r.1 ∧ (∀ a ∈ r.1, a.2 ≤ r.2) ∧ r.1.length ≤ 20 ∧ 0 ≤ r.2 ∧ r.2 ≤ 20 * 510 := by
  refine loopO_to (fun n (s : (List Sp) × Int × Int) => ∃ j : Nat, n + 2 * j = 42 ∧ s.2.2 = ((2 * j : Nat) : Int) ∧ s.1.length = j ∧ 2 * j ≤ p1.length ∧ InTurn s.1 ∧ (∀ a ∈ s.1, a.2 ≤ s.2.1) ∧ 0 ≤ s.2.1 ∧ s.2.1 ≤ 510 * j) _ ?_ 42 _ ⟨0, by omega, rfl, rfl, by omega, InTurn.nil, (fun a ha => by cases ha), by simp, by simp⟩
  rintro n ⟨all, at_, i⟩ ⟨j, hn, hi, hj, hjl, ht, ha, h0, h5⟩
  simp only at hi hj ht ha h0 h5
  subst hi
  by_cases h : 2 * j + 1 < p1.length
  · left
    have m1 := hp _ (List.getElem_mem (show 2 * j < p1.length by omega))
    have m2 := hp _ (List.getElem_mem h)
    obtain ⟨x, hx⟩ : ∃ x, x = p1[2 * j] := ⟨_, rfl⟩
    obtain ⟨y, hy⟩ : ∃ y, y = p1[2 * j + 1] := ⟨_, rfl⟩
    rw [← hx] at m1
    rw [← hy] at m2
    obtain ⟨x0, x1⟩ := m1
    obtain ⟨y0, y1⟩ := m2
    refine ⟨(all ++ [(at_ + x, at_ + x + y)], at_ + x + y, ((2 * (j + 1) : Nat) : Int)), ?_, n - 2, by omega, j + 1, by omega, rfl, by simp [hj], by omega, ?_, ?_, ?_, ?_⟩
    · unfold law05_LevelOrder_s0
      simp only
      have e1 : wi64 (((2 * j : Nat) : Int) + 1) = ((2 * j + 1 : Nat) : Int) := by rw [wi64_of (by omega) (by omega)]; omega
      rw [e1, if_pos (by omega), rdo_get (show 2 * j < p1.length by omega), Option.bind_some, rdo_get h, Option.bind_some, ← hx, ← hy, room_of (by simp; omega) (by simp; omega), Option.bind_some]
      rw [wu64_of (x := x) (by omega) (by omega), wu64_of (x := y) (by omega) (by omega), wu64_of (x := at_ + x) (by omega) (by omega), wu64_of (x := at_ + x + y) (by omega) (by omega), wi64_of (by omega) (by omega)]
      refine congrArg some (congrArg Sum.inl (Prod.ext rfl (Prod.ext rfl ?_)))
      simp only; omega
    · simp only
      rw [InTurn.app]
      refine ⟨ht, InTurn.cons.2 ⟨by simp only; omega, InTurn.nil, fun b hb => by cases hb⟩, fun a' ha' b hb => ?_⟩
      rw [List.mem_singleton.1 hb]
      have := ha a' ha'
      simp only; omega
    · intro a' ha'
      simp only at ha' ⊢
      rcases List.mem_append.1 ha' with q | q
      · have := ha a' q; omega
      · rw [List.mem_singleton.1 q]; exact Int.le_refl _
    · simp only; omega
    · simp only; omega
  · right
    refine ⟨(all, at_), ?_, ht, ha, by simp only; omega, h0, by simp only; omega⟩
    unfold law05_LevelOrder_s0
    simp only
    rw [wi64_of (by omega) (by omega), if_neg (by omega)]
theorem turn_loop {r7 : List Sp × List Sp × Int} {r8 : List Sp} (h : InTurn (r8 ++ r7.1)) (hl : (r8 ++ r7.1).length ≤ 1000000) : loopO (law05_LevelOrder_s1 r7 r8) (0 : Int) = some (.inr ()) := by
  refine loopO_run (fun j => (j : Int)) (r8 ++ r7.1).length (fun j hj => ?_) ?_
  · unfold law05_LevelOrder_s1
    have h1 := h.2 _ (List.getElem_mem hj)
    rw [if_pos (by omega), rdo_get hj, Option.bind_some, if_neg (by omega)]
    by_cases h0 : 0 < j
    · have h2 := List.pairwise_iff_getElem.1 h.1 (j - 1) j (by omega) hj (by omega)
      have e1 : wi64 ((j : Int) - 1) = ((j - 1 : Nat) : Int) := by rw [wi64_of (by omega) (by omega)]; omega
      rw [if_pos (by omega), e1, rdo_get (by omega), Option.bind_some, if_neg (by omega), wi64_of (by omega) (by omega)]; rfl
    · rw [if_neg (by omega), wi64_of (by omega) (by omega)]; rfl
  · unfold law05_LevelOrder_s1
    rw [if_neg (by omega)]
theorem law05_LevelOrder_true (p1 : List Int) (p2 : Int) (p3 : Int × Int × Int) (h1 : p1.length ≤ 9223372036854775807 ∧ ∀ x ∈ p1, 0 ≤ x ∧ x < 256) (h2 : U8 p2) (h3 : U8 p3.1 ∧ U8 p3.2.1 ∧ U8 p3.2.2) :
    law05_LevelOrder p1 p2 p3 = some true := by
  obtain ⟨a, b, c⟩ := p3
  obtain ⟨⟨ha1, ha2⟩, ⟨hb1, hb2⟩, hc1, hc2⟩ := h3
  obtain ⟨hd1, hd2⟩ := h2
  simp only at ha1 ha2 hb1 hb2 hc1 hc2
  unfold law05_LevelOrder
  rw [awake5, Option.bind_some]
  by_cases hl : 40 < p1.length
  · rw [if_pos (by omega)]
  rw [if_neg (by omega)]
  obtain ⟨⟨all, at_⟩, hr, ht, hat, hal, h0, h5⟩ := order_loop h1.2 (by omega)
  simp only at ht hat hal h0 h5
  rw [hr, Option.bind_some]
  simp only
  have ea : wi64 (1 + wi64 (a.tmod 20)) = ((1 + (a % 20).toNat : Nat) : Int) := by
    rw [Int.tmod_eq_emod_of_nonneg ha1, wi64_of (x := a % 20) (by omega) (by omega), wi64_of (by omega) (by omega)]; omega
  obtain ⟨most, hmo⟩ : ∃ most, most = 1 + (a % 20).toNat := ⟨_, rfl⟩
  have el : wi64 ((all.length : Int) + 1) = (all.length : Int) + 1 := wi64_of (by omega) (by omega)
  have ep : wi64 p2 = p2 := wi64_of (by omega) (by omega)
  have em : p2.tmod ((all.length : Int) + 1) = p2 % ((all.length : Int) + 1) := Int.tmod_eq_emod_of_nonneg hd1
  have q0 : 0 ≤ p2 % ((all.length : Int) + 1) := Int.emod_nonneg _ (by omega)
  have q1 : p2 % ((all.length : Int) + 1) < (all.length : Int) + 1 := Int.emod_lt_of_pos _ (by omega)
  rw [ea, el, ep, em, ← hmo, must_of (by omega), Option.bind_some]
  obtain ⟨k, hk⟩ : ∃ k : Nat, min (p2 % ((all.length : Int) + 1)) (most : Int) = (k : Int) := ⟨(min (p2 % ((all.length : Int) + 1)) (most : Int)).toNat, by omega⟩
  rw [hk, must_of (by omega), Option.bind_some, Int.toNat_natCast]
  have hm1 : 1 ≤ most := by omega
  have eb : wu64 b = ((b.toNat : Nat) : Int) := by rw [wu64_of (by omega) (by omega)]; omega
  have hlen : (all.take k).length + (all.drop k).length = all.length := by rw [← List.length_append, List.take_append_drop]
  rw [eb, push_psh (most := most) (by omega) hm1 (by omega) (by omega) (by omega), Option.bind_some]
  have k1 := psh_len hm1 (all.take k) (all.drop k) b.toNat at_
  have s1 : (psh most (all.take k) (all.drop k) b.toNat at_).1.length ≤ most := stays_le hm1 _
  obtain ⟨z, hz⟩ : ∃ z : Nat, (psh most (all.take k) (all.drop k) b.toNat at_).2.2 = (z : Int) := ⟨_, rfl⟩
  have hz2 : z ≤ 1000 := by
    have h5 : (psh most (all.take k) (all.drop k) b.toNat at_).2.2 = ((npr ((all.take k).length + (all.drop k).length + b.toNat) most - outN ((all.take k).length + (all.drop k).length) (npr ((all.take k).length + (all.drop k).length + b.toNat) most) : Nat) : Int) := rfl
    have := npr_le (n := (all.take k).length + (all.drop k).length + b.toNat) hm1
    omega
  have hw := psh_whole hm1 (all.take k) (all.drop k) b.toNat at_
  rw [hz, Int.toNat_natCast] at hw
  rw [hz, ones_eq (by omega) z (by omega), Option.bind_some, room_of (by simp; omega) (by simp; omega), Option.bind_some]
  have hA : InTurn (allM (all.take k) (all.drop k) b.toNat at_) := by
    unfold allM
    rw [List.take_append_drop, InTurn.app]
    refine ⟨ht, rep_turn _ _, fun x hx y hy => ?_⟩
    rw [List.eq_of_mem_replicate hy]
    exact hat x hx
  have hGS : InTurn (goes most (allM (all.take k) (all.drop k) b.toNat at_) ++ stays most (allM (all.take k) (all.drop k) b.toNat at_)) := by
    generalize allM (all.take k) (all.drop k) b.toNat at_ = A at hA ⊢
    have := InTurn.prs_mid (A.take (2 * npr A.length most)) [] (A.drop (2 * npr A.length most)) (by rw [List.nil_append, List.take_append_drop]; exact hA)
    exact this
  have hsub : ((psh most (all.take k) (all.drop k) b.toNat at_).2.1 ++ List.replicate (min z 100) (at_, at_) ++ (psh most (all.take k) (all.drop k) b.toNat at_).1).Sublist (goes most (allM (all.take k) (all.drop k) b.toNat at_) ++ stays most (allM (all.take k) (all.drop k) b.toNat at_)) := by
    rw [← hw]
    refine List.Sublist.append (List.Sublist.append (List.Sublist.refl _) ?_) (List.Sublist.refl _)
    rw [show z = min z 100 + (z - min z 100) by omega, ← List.replicate_append_replicate]
    rw [show min (min z 100 + (z - min z 100)) 100 = min z 100 by omega]
    exact List.sublist_append_left _ _
  rw [turn_loop (hGS.sub hsub) (by simp; omega)]
  rfl
end Go.Proofs.Ytbnjjpmlaknaoaa.Pu
