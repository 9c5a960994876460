/- The laws of chapter 11, in plain words: there and back. -/
import Derived.Test.YtbeknohemgjfbaaT11
import Derived.Test.YtbeknohemgjfbaaC10
namespace Go.Proofs.Ytbeknohemgjfbaa.Pu
set_option linter.unusedVariables false

/-! ### Two merged -/
theorem merge_two {k : Nat} {ga gb : Int} {lsa lsb : List (List Sp)} (hk2 : 2 ≤ k) (hk : k ≤ 1024) (hga : 0 ≤ ga ∧ ga ≤ 3) (hgb : 0 ≤ gb ∧ gb ≤ 3) (ha : Good k lsa 9223372036854775807) (hb : Good k lsb 9223372036854775807) (hw : wt lsa + wt lsb ≤ 4503599627370496) :
    ∃ ls, ref10_Merge [((k : Int), ga, lsa), ((k : Int), gb, lsb)] = some ((k : Int), max ga gb + 1, ls, 0) ∧ Good k ls 9223372036854775807 ∧ Units ls ∧ wt ls = wt lsa + wt lsb := by
  have hal : ∀ l ∈ lsa, l.length ≤ 100000 := fun l hl => by have := shape_len ha.shape l hl; omega
  have hbl : ∀ l ∈ lsb, l.length ≤ 100000 := fun l hl => by have := shape_len hb.shape l hl; omega
  have na := ha.levels
  have nb := hb.levels
  have ta := total_eq (K := (k : Int)) (g := ga) (ls := lsa) (by omega) (by omega) (fun l hl => by have := hal l hl; omega)
  have tb := total_eq (K := (k : Int)) (g := gb) (ls := lsb) (by omega) (by omega) (fun l hl => by have := hbl l hl; omega)
  have hwg : ref10_weighed [] = some (true, true, 0) := by
    unfold ref10_weighed
    have : loopO (ref10_weighed_s0 []) (true, true, (0 : Int), (0 : Int)) = some (true, true, (0 : Int)) := by
      refine loopO_done ?_
      unfold ref10_weighed_s0
      rfl
    rw [this]; rfl
  have hbad : ref10_bad [] [((k : Int), ga, lsa), ((k : Int), gb, lsb)] = some 0 := by
    unfold ref10_bad
    rw [hwg, Option.bind_some]
    rw [if_neg (by simp), if_neg (by simp)]
    have s0 : ref10_bad_s0 [((k : Int), ga, lsa), ((k : Int), gb, lsb)] ((0 : Int), (0 : Int), false, (0 : Int)) = some (.inl (max 0 ga, (wt lsa : Int), false, 1)) := by
      unfold ref10_bad_s0
      simp only
      have r0 : rdo [((k : Int), ga, lsa), ((k : Int), gb, lsb)] 0 = some ((k : Int), ga, lsa) := rfl
      rw [if_pos (by simp), r0, Option.bind_some, Option.bind_some, if_neg (by simp), ta, Option.bind_some, if_neg (by simp), wu64_of (by omega) (by omega), Int.zero_add, decide_eq_false (by omega)]
      rfl
    have s1 : ref10_bad_s0 [((k : Int), ga, lsa), ((k : Int), gb, lsb)] (max 0 ga, (wt lsa : Int), false, (1 : Int)) = some (.inl (max (max 0 ga) gb, (wt lsa : Int) + wt lsb, false, 2)) := by
      unfold ref10_bad_s0
      simp only
      have r0 : rdo [((k : Int), ga, lsa), ((k : Int), gb, lsb)] 0 = some ((k : Int), ga, lsa) := rfl
      have r1 : rdo [((k : Int), ga, lsa), ((k : Int), gb, lsb)] 1 = some ((k : Int), gb, lsb) := rfl
      rw [if_pos (by simp), r1, Option.bind_some, r0, Option.bind_some, if_neg (by simp), tb, Option.bind_some, if_neg (by simp), wu64_of (by omega) (by omega), decide_eq_false (by omega)]
      rfl
    have s2 : ref10_bad_s0 [((k : Int), ga, lsa), ((k : Int), gb, lsb)] (max (max 0 ga) gb, (wt lsa : Int) + wt lsb, false, (2 : Int)) = some (.inr (.inr (max (max 0 ga) gb, false))) := by
      unfold ref10_bad_s0
      simp only
      rw [if_neg (by simp)]
    simp only
    rw [show decide ((4503599627370496 : Int) < 0) = false from rfl, loopO_next s0, loopO_next s1, loopO_done s2, Option.bind_some]
    simp only [Sum.elim_inr]
    rw [if_neg (by omega), if_neg (by simp), if_neg (by simp)]
  have hgen : loopO (ref10_With_s0 [((k : Int), ga, lsa), ((k : Int), gb, lsb)]) ((0 : Int), (0 : Int)) = some (max (max 0 ga) gb) := by
    have s0 : ref10_With_s0 [((k : Int), ga, lsa), ((k : Int), gb, lsb)] ((0 : Int), (0 : Int)) = some (.inl (max 0 ga, 1)) := by
      unfold ref10_With_s0
      have r0 : rdo [((k : Int), ga, lsa), ((k : Int), gb, lsb)] 0 = some ((k : Int), ga, lsa) := rfl
      simp only
      rw [if_pos (by simp), r0]; rfl
    have s1 : ref10_With_s0 [((k : Int), ga, lsa), ((k : Int), gb, lsb)] (max 0 ga, (1 : Int)) = some (.inl (max (max 0 ga) gb, 2)) := by
      unfold ref10_With_s0
      have r1 : rdo [((k : Int), ga, lsa), ((k : Int), gb, lsb)] 1 = some ((k : Int), gb, lsb) := rfl
      simp only
      rw [if_pos (by simp), r1]; rfl
    have s2 : ref10_With_s0 [((k : Int), ga, lsa), ((k : Int), gb, lsb)] (max (max 0 ga) gb, (2 : Int)) = some (.inr (max (max 0 ga) gb)) := by
      unfold ref10_With_s0
      simp only
      rw [if_neg (by simp)]
    rw [loopO_next s0, loopO_next s1, loopO_done s2]
  have hlump := lumps_two (a := ((k : Int), ga, lsa)) (b := ((k : Int), gb, lsb)) (by simp only; omega) hal (by simp only; omega) hbl
  simp only at hlump
  generalize hL : lumpH lsa lsa.length ++ lumpH lsb lsb.length = L at hlump
  have hlen : L.length ≤ 12000000 := by
    rw [← hL, List.length_append]
    have h1 := lumpH_len lsa hal lsa.length
    have h2 := lumpH_len lsb hbl lsb.length
    omega
  have hpos : ∀ x ∈ L, (0 ≤ x.1 ∧ x.1 ≤ 9223372036854775807) ∧ 1 ≤ x.2 := by
    intro x hx
    rw [← hL] at hx
    have pa : ∀ l ∈ lsa, ∀ s ∈ l, 0 ≤ s.2 ∧ s.2 ≤ 9223372036854775807 := fun l hl s hs => by
      have := ha.pos l hl s hs
      have t := (turn_level ha.turn l hl).2 s hs
      omega
    have pb : ∀ l ∈ lsb, ∀ s ∈ l, 0 ≤ s.2 ∧ s.2 ≤ 9223372036854775807 := fun l hl s hs => by
      have := hb.pos l hl s hs
      have t := (turn_level hb.turn l hl).2 s hs
      omega
    rcases List.mem_append.1 hx with q | q
    · exact lumpH_pos pa _ x q
    · exact lumpH_pos pb _ x q
  have hsum : (L.map (·.2)).sum = ((wt lsa + wt lsb : Nat) : Int) := by
    rw [← hL, List.map_append, List.sum_append, lumpH_sum, lumpH_sum]
    omega
  obtain ⟨u1, u2⟩ := und_new L
  obtain ⟨ls', t', r1, r2, r3, r4, r5⟩ := lumps_come (k := k) (by omega) (by omega) (L := L) (W := wt lsa + wt lsb) (by omega) hpos hw L.length 0 (List.replicate L.length false) [] 0 u2 (by omega) (List.length_replicate ..) (Good.nil k 0) (fun l hl => by cases hl) (Int.le_refl 0) (by rw [u1, hsum]; simp [wt]) (fun j hj _ => by rw [getD_at hj]; exact (hpos _ (List.getElem_mem hj)).1.1)
  refine ⟨ls', ?_, r2.later (by omega), r4, r5⟩
  unfold ref10_Merge ref10_With
  have r0 : rdo [((k : Int), ga, lsa), ((k : Int), gb, lsb)] 0 = some ((k : Int), ga, lsa) := rfl
  have hs1 : loopO (ref10_With_s1 []) (L, (0 : Int)) = some L := by
    refine loopO_done ?_
    unfold ref10_With_s1
    rfl
  rw [hbad, Option.bind_some, if_neg (by simp), r0, Option.bind_some, hgen, Option.bind_some, hlump, Option.bind_some, hs1, Option.bind_some, must_of (by omega), Option.bind_some, room_of (by omega) (by omega), Option.bind_some, Int.toNat_natCast]
  simp only
  have r1' : loopO (ref10_With_s2 L) (List.replicate L.length false, (0 : Int), (k : Int), (0 : Int), ([] : List (List Sp))) = some ((k : Int), (0 : Int), ls') := r1
  rw [r1', Option.bind_some, Option.bind_some, wi64_of (by omega) (by omega)]
  simp only
  rw [show max (max 0 ga) gb = max ga gb by omega]

/-! ### A tree -/
theorem light_loop {step : Int → Option (Int ⊕ (Unit ⊕ Unit))} {l : List (Int × Int)} (hl : l.length ≤ 20) (h1 : ∀ (j : Nat) (hj : j < l.length), step (j : Int) = if 1099511627776 < l[j].2 then some (.inr (.inl ())) else some (.inl (wi64 ((j : Int) + 1)))) (h2 : step (l.length : Int) = some (.inr (.inr ()))) :
    loopO step (0 : Int) = some (.inl ()) ∨ (loopO step (0 : Int) = some (.inr ()) ∧ ∀ x ∈ l, x.2 ≤ 1099511627776) := by
  have key : ∀ (n j : Nat), j + n = l.length → loopO step (j : Int) = some (.inl ()) ∨ (loopO step (j : Int) = some (.inr ()) ∧ ∀ x ∈ l.drop j, x.2 ≤ 1099511627776) := by
    intro n
    induction n with
    | zero =>
      intro j hj
      rw [Nat.add_zero] at hj
      subst hj
      exact .inr ⟨loopO_done h2, fun x hx => by rw [List.drop_length] at hx; cases hx⟩
    | succ n ih =>
      intro j hj
      have hlt : j < l.length := by omega
      have hs := h1 j hlt
      by_cases c : 1099511627776 < l[j].2
      · rw [if_pos c] at hs
        exact .inl (loopO_done hs)
      · rw [if_neg c, wi64_of (by omega) (by omega)] at hs
        rw [loopO_next hs]
        rcases ih (j + 1) (by omega) with q | ⟨q1, q2⟩
        · exact .inl q
        · refine .inr ⟨q1, fun x hx => ?_⟩
          rw [List.drop_eq_getElem_cons hlt] at hx
          rcases List.mem_cons.1 hx with e | e
          · rw [e]; omega
          · exact q2 x e
  exact key l.length 0 (by omega)
abbrev LightD (l : List (Int × Int)) : Prop := l.length ≤ 20 ∧ ∀ x ∈ l, x.2 ≤ 1099511627776
abbrev TreeT : Type := Int × (List (Int × Int)) × (List (Int × Int)) × (List (Int × Int)) × (List (Int × Int)) × Int
theorem light_eq (p : TreeT) : ref10_Light p = some false ∨ (ref10_Light p = some true ∧ LightD p.2.1 ∧ LightD p.2.2.1 ∧ LightD p.2.2.2.1 ∧ LightD p.2.2.2.2.1) := by
  have q0 : p.2.1.length ≤ 20 → loopO (ref10_Light_s0 p) (0 : Int) = some (.inl ()) ∨ (loopO (ref10_Light_s0 p) (0 : Int) = some (.inr ()) ∧ ∀ x ∈ p.2.1, x.2 ≤ 1099511627776) := fun hl => light_loop hl (fun j hj => by unfold ref10_Light_s0; rw [if_pos (by omega), rdo_get hj, Option.bind_some]) (by unfold ref10_Light_s0; rw [if_neg (by omega)])
  have q1 : p.2.2.1.length ≤ 20 → loopO (ref10_Light_s1 p) (0 : Int) = some (.inl ()) ∨ (loopO (ref10_Light_s1 p) (0 : Int) = some (.inr ()) ∧ ∀ x ∈ p.2.2.1, x.2 ≤ 1099511627776) := fun hl => light_loop hl (fun j hj => by unfold ref10_Light_s1; rw [if_pos (by omega), rdo_get hj, Option.bind_some]) (by unfold ref10_Light_s1; rw [if_neg (by omega)])
  have q2 : p.2.2.2.1.length ≤ 20 → loopO (ref10_Light_s2 p) (0 : Int) = some (.inl ()) ∨ (loopO (ref10_Light_s2 p) (0 : Int) = some (.inr ()) ∧ ∀ x ∈ p.2.2.2.1, x.2 ≤ 1099511627776) := fun hl => light_loop hl (fun j hj => by unfold ref10_Light_s2; rw [if_pos (by omega), rdo_get hj, Option.bind_some]) (by unfold ref10_Light_s2; rw [if_neg (by omega)])
  have q3 : p.2.2.2.2.1.length ≤ 20 → loopO (ref10_Light_s3 p) (0 : Int) = some (.inl ()) ∨ (loopO (ref10_Light_s3 p) (0 : Int) = some (.inr ()) ∧ ∀ x ∈ p.2.2.2.2.1, x.2 ≤ 1099511627776) := fun hl => light_loop hl (fun j hj => by unfold ref10_Light_s3; rw [if_pos (by omega), rdo_get hj, Option.bind_some]) (by unfold ref10_Light_s3; rw [if_neg (by omega)])
  unfold ref10_Light
  by_cases c0 : 20 < (p.2.1.length : Int)
  · rw [if_pos c0]; exact .inl rfl
  · rw [if_neg c0]
    rcases q0 (by omega) with e | ⟨e, b0⟩
    · rw [e]; exact .inl rfl
    · rw [e, Option.bind_some]
      simp only [Sum.elim_inr]
      by_cases c1 : 20 < (p.2.2.1.length : Int)
      · rw [if_pos c1]; exact .inl rfl
      · rw [if_neg c1]
        rcases q1 (by omega) with e | ⟨e, b1⟩
        · rw [e]; exact .inl rfl
        · rw [e, Option.bind_some]
          simp only [Sum.elim_inr]
          by_cases c2 : 20 < (p.2.2.2.1.length : Int)
          · rw [if_pos c2]; exact .inl rfl
          · rw [if_neg c2]
            rcases q2 (by omega) with e | ⟨e, b2⟩
            · rw [e]; exact .inl rfl
            · rw [e, Option.bind_some]
              simp only [Sum.elim_inr]
              by_cases c3 : 20 < (p.2.2.2.2.1.length : Int)
              · rw [if_pos c3]; exact .inl rfl
              · rw [if_neg c3]
                rcases q3 (by omega) with e | ⟨e, b3⟩
                · rw [e]; exact .inl rfl
                · rw [e, Option.bind_some]
                  simp only [Sum.elim_inr]
                  exact .inr ⟨trivial, ⟨by omega, b0⟩, ⟨by omega, b1⟩, ⟨by omega, b2⟩, ⟨by omega, b3⟩⟩
theorem madeS_wt (k : Nat) {B : Nat} : ∀ (ds : List (Int × Int)) (t : Int) (ls : List (List Sp)), (∀ x ∈ ds, 0 ≤ x.2 ∧ x.2 ≤ B) → wt (madeS k ds t ls) ≤ wt ls + B * ds.length := by
  intro ds
  induction ds with
  | nil => intro t ls _; simp [madeS]
  | cons d ds ih =>
    intro t ls h
    obtain ⟨h1, h2⟩ := h d List.mem_cons_self
    rw [madeS]
    have hi := ih (t + d.1 % 1000) (if addC ls (t + d.1 % 1000) d.2 = 0 then addL k ls (t + d.1 % 1000) d.2 else ls) (fun x hx => h x (List.mem_cons_of_mem _ hx))
    have hw : wt (if addC ls (t + d.1 % 1000) d.2 = 0 then addL k ls (t + d.1 % 1000) d.2 else ls) ≤ wt ls + B := by
      split
      · have := wt_addL (k := k) (ls := ls) (t := t + d.1 % 1000) h1
        omega
      · omega
    rw [List.length_cons, Nat.mul_succ]
    omega
theorem made_wt (p : Int) {ds : List (Int × Int)} (hd : Deeds ds) (hl : LightD ds) : wt (madeM p ds) ≤ 21990232555520 := by
  unfold madeM
  have h := madeS_wt (kM p) (B := 1099511627776) (ds.take 30) 0 [] (fun x hx => ⟨(hd x (List.mem_of_mem_take hx)).2.1, hl.2 x (List.mem_of_mem_take hx)⟩)
  have h2 : (ds.take 30).length ≤ 20 := by rw [List.length_take]; have := hl.1; omega
  simp only [wt, Nat.zero_add] at h
  have := Nat.mul_le_mul_left 1099511627776 h2
  omega
/-- What a tree comes to. -/
theorem build_eq {p : TreeT} (h1 : p.1 < 9223372036854775808) (d0 : Deeds p.2.1) (d1 : Deeds p.2.2.1) (d2 : Deeds p.2.2.2.1) (d3 : Deeds p.2.2.2.2.1) (h8 : U8 p.2.2.2.2.2) (l0 : LightD p.2.1) (l1 : LightD p.2.2.1) (l2 : LightD p.2.2.2.1) (l3 : LightD p.2.2.2.2.1) :
    ∃ g ls, ref10_Build p = some ((kM p.1 : Int), g, ls) ∧ histC (kM p.1 : Int) g ls = 0 := by
  obtain ⟨K, a0, a1, a2, a3, dp⟩ := p
  simp only at *
  have hk := kM_le K
  have g0 : Good (kM K) (madeM K a0) 9223372036854775807 := (made_good K d0).later (by decide)
  have g1 : Good (kM K) (madeM K a1) 9223372036854775807 := (made_good K d1).later (by decide)
  have g2 : Good (kM K) (madeM K a2) 9223372036854775807 := (made_good K d2).later (by decide)
  have g3 : Good (kM K) (madeM K a3) 9223372036854775807 := (made_good K d3).later (by decide)
  have w0 := made_wt K d0 l0
  have w1 := made_wt K d1 l1
  have w2 := made_wt K d2 l2
  have w3 := made_wt K d3 l3
  have fin : ∀ {g : Int} {ls : List (List Sp)}, 0 ≤ g → g ≤ 4 → Good (kM K) ls 9223372036854775807 → Units ls → histC (kM K : Int) g ls = 0 := fun h0 h4 hg hu => good_histC (by omega) (by omega) h0 h4 hg hu (Int.le_refl _)
  obtain ⟨lx, mx, gx, ux, wx⟩ := merge_two (ga := 0) (gb := 0) (by omega) (by omega) (by omega) (by omega) g0 g1 (by omega)
  obtain ⟨ly, my, gy, uy, wy⟩ := merge_two (ga := 0) (gb := 0) (by omega) (by omega) (by omega) (by omega) g2 g3 (by omega)
  rw [show max (0 : Int) 0 + 1 = 1 from rfl] at mx my
  obtain ⟨lz, mz, gz, uz, wz⟩ := merge_two (ga := 1) (gb := 1) (by omega) (by omega) (by omega) (by omega) gx gy (by omega)
  rw [show max (1 : Int) 1 + 1 = 2 from rfl] at mz
  obtain ⟨lu, mu, gu, uu, wu⟩ := merge_two (ga := 2) (gb := 0) (by omega) (by omega) (by omega) (by omega) gz g0 (by omega)
  rw [show max (2 : Int) 0 + 1 = 3 from rfl] at mu
  obtain ⟨lv, mv, gv, uv, wv⟩ := merge_two (ga := 3) (gb := 0) (by omega) (by omega) (by omega) (by omega) gu g0 (by omega)
  rw [show max (3 : Int) 0 + 1 = 4 from rfl] at mv
  have e5 : dp.tmod 5 = dp % 5 := Int.tmod_eq_emod_of_nonneg h8.1
  have ew : wi64 (dp.tmod 5) = dp % 5 := by rw [e5, wi64_of (by omega) (by omega)]
  have stop : ∀ (i : Int) (h : Int × Int × List (List Sp)), ¬ i < dp % 5 → loopO (ref10_Build_s0 (K, a0, a1, a2, a3, dp) ((kM K : Int), 0, madeM K a0)) (i, h.1, h.2.1, h.2.2) = some h := by
    intro i h hi
    refine loopO_done ?_
    unfold ref10_Build_s0
    simp only
    rw [ew, if_neg hi]
  have more : ∀ (i : Int) (g g' : Int) (ls ls' : List (List Sp)), i < dp % 5 → 2 ≤ i → ref10_Merge [((kM K : Int), g, ls), ((kM K : Int), 0, madeM K a0)] = some ((kM K : Int), g', ls', 0) → loopO (ref10_Build_s0 (K, a0, a1, a2, a3, dp) ((kM K : Int), 0, madeM K a0)) (i, (kM K : Int), g, ls) = loopO (ref10_Build_s0 (K, a0, a1, a2, a3, dp) ((kM K : Int), 0, madeM K a0)) (i + 1, (kM K : Int), g', ls') := by
    intro i g g' ls ls' hi hi2 hm
    refine loopO_next ?_
    unfold ref10_Build_s0
    simp only
    rw [ew, if_pos hi, hm, Option.bind_some, wi64_of (by omega) (by omega)]
  unfold ref10_Build
  simp only
  rw [made_eq h1 d0, Option.bind_some, made_eq h1 d1, Option.bind_some, made_eq h1 d2, Option.bind_some, made_eq h1 d3, Option.bind_some, ew]
  simp only
  rcases (by omega : dp % 5 = 0 ∨ dp % 5 = 1 ∨ dp % 5 = 2 ∨ dp % 5 = 3 ∨ dp % 5 = 4) with q | q | q | q | q
  · refine ⟨0, madeM K a0, ?_, made_hist K d0⟩
    rw [if_neg (by omega), Option.bind_some, if_neg (by omega), Option.bind_some]
    have := stop 2 ((kM K : Int), 0, madeM K a0) (by omega)
    simp only at this ⊢
    rw [this]
    rfl
  · refine ⟨1, lx, ?_, fin (by omega) (by omega) gx ux⟩
    rw [if_pos q, mx, Option.bind_some, Option.bind_some, if_neg (by omega), Option.bind_some]
    have := stop 2 ((kM K : Int), 1, lx) (by omega)
    simp only at this ⊢
    rw [this]
    rfl
  · refine ⟨2, lz, ?_, fin (by omega) (by omega) gz uz⟩
    rw [if_neg (by omega), Option.bind_some, if_pos (by omega), mx, Option.bind_some, my, Option.bind_some]
    simp only
    rw [mz, Option.bind_some, Option.bind_some]
    have := stop 2 ((kM K : Int), 2, lz) (by omega)
    simp only at this ⊢
    rw [this]
    rfl
  · refine ⟨3, lu, ?_, fin (by omega) (by omega) gu uu⟩
    rw [if_neg (by omega), Option.bind_some, if_pos (by omega), mx, Option.bind_some, my, Option.bind_some]
    simp only
    rw [mz, Option.bind_some, Option.bind_some]
    simp only
    rw [more 2 2 3 lz lu (by omega) (by omega) mu]
    have := stop (2 + 1) ((kM K : Int), 3, lu) (by omega)
    simp only at this ⊢
    rw [this]
    rfl
  · refine ⟨4, lv, ?_, fin (by omega) (by omega) gv uv⟩
    rw [if_neg (by omega), Option.bind_some, if_pos (by omega), mx, Option.bind_some, my, Option.bind_some]
    simp only
    rw [mz, Option.bind_some, Option.bind_some]
    simp only
    rw [more 2 2 3 lz lu (by omega) (by omega) mu, more (2 + 1) 3 4 lu lv (by omega) (by omega) mv]
    have := stop (2 + 1 + 1) ((kM K : Int), 4, lv) (by omega)
    simp only at this ⊢
    rw [this]
    rfl
abbrev DeedsP (l : List (Int × Int)) : Prop := l.length ≤ 9223372036854775807 ∧ Deeds l
theorem law11_RecordBack_true (p1 : TreeT) (p2 p3 : Int) (h1 : I64 p1.1 ∧ DeedsP p1.2.1 ∧ DeedsP p1.2.2.1 ∧ DeedsP p1.2.2.2.1 ∧ DeedsP p1.2.2.2.2.1 ∧ U8 p1.2.2.2.2.2) (h2 : U8 p2) (h3 : 0 ≤ p3 ∧ p3 < 65536) : law11_RecordBack p1 p2 p3 = some true := by
  obtain ⟨k1, k2, k3, k4, k5, k6⟩ := h1
  unfold law11_RecordBack
  rw [awake11, Option.bind_some]
  rcases light_eq p1 with e | ⟨e, l0, l1, l2, l3⟩
  · rw [e, Option.bind_some, if_pos (by simp)]
  · obtain ⟨g, ls, hb, hh⟩ := build_eq k1.2 k2.2 k3.2 k4.2 k5.2 k6 l0 l1 l2 l3
    have hs := hist_lens hh
    have hl := encH_len hh
    unfold law11_made
    rw [e, Option.bind_some, if_neg (by simp), hb, Option.bind_some, Option.bind_some, cput_eq (by omega) (fun l hl => by have := hs.2 l hl; omega), Option.bind_some, if_pos hh, if_neg (by omega)]
    rw [cone_eq (by omega) (encH_byt _ _ _), Option.bind_some, must_of (by omega), Option.bind_some]
    have et : (wi64 p3).tmod ((encH (kM p1.1 : Int) g ls).length : Int) = ((p3.toNat % (encH (kM p1.1 : Int) g ls).length : Nat) : Int) := by
      rw [wi64_of (by omega) (by omega), Int.tmod_eq_emod_of_nonneg h3.1]
      have e3 : p3 = ((p3.toNat : Nat) : Int) := by omega
      rw [e3, Int.toNat_natCast]
      rfl
    have hlt : p3.toNat % (encH (kM p1.1 : Int) g ls).length < (encH (kM p1.1 : Int) g ls).length := Nat.mod_lt _ hl.2
    rw [et, must_of ⟨by omega, by omega⟩, Option.bind_some, Int.toNat_natCast, cone_eq (by rw [List.length_take]; omega) (fun x hx => encH_byt _ _ _ x (List.mem_of_mem_take hx)), Option.bind_some]
    rw [rm1 (by simp; omega), Option.bind_some, rm1 (by simp; omega), Option.bind_some]
    have hmb : Byt (encH (kM p1.1 : Int) g ls ++ [p2]) := by
      intro x hx
      rcases List.mem_append.1 hx with q | q
      · exact encH_byt _ _ _ x q
      · simp only [List.mem_singleton] at q; rw [q]; exact h2
    rw [cone_eq (by simp; omega) hmb, Option.bind_some, if_pos rfl, one_enc hh]
    simp only
    rw [if_pos trivial, same11 (by omega) (fun l hl => by have := hs.2 l hl; omega), Option.bind_some, if_pos (by simp), if_pos (one_cut hh hlt), one_more hh]
    rfl
end Go.Proofs.Ytbeknohemgjfbaa.Pu
