/- The laws of chapter 02, in plain words. -/
import Derived.Test.YthgeodagikmpjaaT02
namespace Go.Proofs.Ythgeodagikmpjaa.Pu
set_option linter.unusedVariables false

theorem dg2 : dg 2 = [2] := dg_lo (by decide)
theorem dg300 : dg 300 = [172, 2] := by rw [dg_hi (by decide), dg_lo (by decide)]; rfl
theorem awake2 : law02_awake = some true := by
  have t0 : codec_Text [97, 98] = some [2, 97, 98] := by
    rw [ctext (by decide)]
    show some (dg 2 ++ [97, 98]) = _
    rw [dg2]; rfl
  have t1 : txtM (([2, 97, 98] : List Int), 0) 2 = ([97, 98], [], 0) := by decide
  have t2 : fx 258 = [0, 0, 0, 0, 0, 0, 1, 2] := by decide
  unfold law02_awake
  rw [t0, Option.bind_some, cnew, Option.bind_some, take_all, crtxt ⟨by decide, by decide⟩, Option.bind_some, t1, if_pos (by rfl), if_pos (by rfl), crend, Option.bind_some, if_pos (by decide), cfixed, Option.bind_some, t2, if_pos (by rfl),
    show (300 : Int) = ((300 : Nat) : Int) from rfl, cnum (by decide), Option.bind_some, dg300, decide_eq_true (by rfl)]
theorem law02_CodecWrites_true (p1 : Int) (p2 : List Int) (h1 : U64 p1) (h2 : p2.length ≤ 9223372036854775807 ∧ ∀ x ∈ p2, U8 x) : law02_CodecWrites p1 p2 = some true := by
  unfold law02_CodecWrites
  rw [awake2, Option.bind_some]
  by_cases c : (300 : Int) < (p2.length : Int)
  · rw [if_pos c]
  · obtain ⟨n, rfl, hn⟩ := u64_nat h1
    rw [if_neg c, if_pos rfl, cnum hn, rnum hn, Option.bind_some, Option.bind_some, if_pos rfl, cfixed, rfixed, Option.bind_some, Option.bind_some, if_pos rfl, ctext (by omega), rtext (by omega), Option.bind_some, Option.bind_some, decide_eq_true rfl]

/-! What is written is read. -/
theorem byt_app {a b : List Int} (ha : Byt a) (hb : Byt b) : Byt (a ++ b) := fun x hx => (List.mem_append.1 hx).elim (ha x) (hb x)
theorem num_back {n : Nat} (hn : n < 18446744073709551616) (t : List Int) {m : Int} (hm : (n : Int) ≤ m) : numM (dg n ++ t, 0) m = ((n : Int), t, 0) := by
  unfold numM
  simp only [tkM_dg hn]
  rw [if_neg (fun q => q rfl), if_neg (fun q => q rfl), if_neg (by omega), Int.toNat_natCast, List.drop_left]
theorem num_above {n : Nat} (hn : n < 18446744073709551616) (t : List Int) {m : Int} (hm : m < (n : Int)) : numM (dg n ++ t, 0) m = (0, dg n ++ t, 2) := by
  unfold numM
  simp only [tkM_dg hn]
  rw [if_neg (fun q => q rfl), if_neg (fun q => q rfl), if_pos hm]
theorem bt_eq {n : Nat} (k : Nat) (hk : k ≤ 7) : bt (n : Int) k = ((n / 256 ^ k % 256 : Nat) : Int) := by
  unfold bt shrk
  have e1 : min (8 * (k : Int)).toNat 64 = 8 * k := by omega
  have e2 : (2 : Int) ^ (8 * k) = ((256 ^ k : Nat) : Int) := by
    rw [Int.pow_mul, Int.natCast_pow]; rfl
  rw [e1, e2, Int.fdiv_eq_ediv_of_nonneg _ (Int.natCast_nonneg _)]
  unfold wu8
  rw [← Int.natCast_ediv]
  omega
theorem v8_fx {n : Nat} (hn : n < 18446744073709551616) : v8 (fx (n : Int)) = n := by
  unfold fx v8
  simp only [List.foldl_cons, List.foldl_nil, bt_eq _ (show 7 ≤ 7 by omega), bt_eq _ (show 6 ≤ 7 by omega), bt_eq _ (show 5 ≤ 7 by omega), bt_eq _ (show 4 ≤ 7 by omega), bt_eq _ (show 3 ≤ 7 by omega), bt_eq _ (show 2 ≤ 7 by omega), bt_eq _ (show 1 ≤ 7 by omega), bt_eq _ (show 0 ≤ 7 by omega)]
  simp only [show 256 ^ 7 = 72057594037927936 from rfl, show 256 ^ 6 = 281474976710656 from rfl, show 256 ^ 5 = 1099511627776 from rfl, show 256 ^ 4 = 4294967296 from rfl, show 256 ^ 3 = 16777216 from rfl, show 256 ^ 2 = 65536 from rfl, show 256 ^ 1 = 256 from rfl, show 256 ^ 0 = 1 from rfl]
  omega
theorem fix_back {n : Nat} (hn : n < 18446744073709551616) (t : List Int) : fixM (fx (n : Int) ++ t, 0) = ((n : Int), t, 0) := by
  have hl : (fx (n : Int)).length = 8 := rfl
  unfold fixM
  simp only []
  rw [if_neg (fun q => q rfl), if_neg (by rw [List.length_append]; omega), ← hl, List.take_left, List.drop_left, v8_fx hn]
theorem max_len (t : List Int) (ht : t.length ≤ 1000) : wu64 (max (t.length : Int) 0) = (t.length : Int) := by
  rw [wu64_of (by omega) (by omega)]; omega
theorem txt_back (t u : List Int) (ht : t.length ≤ 1000) : txtM (dg t.length ++ (t ++ u), 0) (t.length : Int) = (t, u, 0) := by
  unfold txtM
  rw [max_len t ht, num_back (by omega) (t ++ u) (Int.le_refl _)]
  simp only []
  rw [if_neg (fun q => q rfl), if_neg (by rw [List.length_append]; omega), Int.toNat_natCast, List.take_left, List.drop_left]
theorem law02_CodecBack_true (p1 p2 : Int) (p3 : List Int) (h1 : U64 p1) (h2 : U64 p2) (h3 : p3.length ≤ 9223372036854775807 ∧ ∀ x ∈ p3, U8 x) : law02_CodecBack p1 p2 p3 = some true := by
  unfold law02_CodecBack
  rw [awake2, Option.bind_some]
  by_cases c : (300 : Int) < (p3.length : Int)
  · rw [if_pos c]
  · obtain ⟨n, rfl, hn⟩ := u64_nat h1
    obtain ⟨m, rfl, hm⟩ := u64_nat h2
    have d1 := dg_ten hn
    have d2 := dg_ten (show p3.length < 18446744073709551616 by omega)
    have hl : (fx (m : Int)).length = 8 := rfl
    rw [if_neg c, cnum hn, Option.bind_some, room_of (by simp only [List.length_nil]; omega) (by simp only [List.length_nil]; omega), Option.bind_some, cfixed, Option.bind_some, room_of (by omega) (by omega), Option.bind_some, ctext (by omega), Option.bind_some,
      room_of (by simp only [List.length_append]; omega) (by simp only [List.length_append]; omega), Option.bind_some, cnew, Option.bind_some, take_all]
    have e : dg n ++ fx (m : Int) ++ (dg p3.length ++ p3) = dg n ++ (fx (m : Int) ++ (dg p3.length ++ (p3 ++ []))) := by simp only [List.append_assoc, List.append_nil]
    have hb : Byt (dg p3.length ++ (p3 ++ [])) := byt_app (dg_u8 _) (byt_app h3.2 (fun x hx => by cases hx))
    have hb1 := byt_app (fx_byt (m : Int)) hb
    have hb2 := byt_app (dg_u8 n) hb1
    rw [e, crnum ⟨by simp only [List.length_append, List.length_nil]; omega, hb2⟩, Option.bind_some, num_back hn _ (Int.le_refl _), crfix ⟨by simp only [List.length_append, List.length_nil]; omega, hb1⟩, Option.bind_some, fix_back hm,
      crtxt ⟨by simp only [List.length_append, List.length_nil]; omega, hb⟩, Option.bind_some, txt_back p3 [] (by omega)]
    rw [if_pos rfl, if_pos rfl, if_pos rfl, if_pos rfl, crend, Option.bind_some, if_pos (show endM (([] : List Int), (0 : Int)) = 0 from by decide)]
    rfl
theorem law02_CodecLimits_true (p1 : Int) (p2 : List Int) (h1 : U64 p1) (h2 : p2.length ≤ 9223372036854775807 ∧ ∀ x ∈ p2, U8 x) : law02_CodecLimits p1 p2 = some true := by
  unfold law02_CodecLimits
  rw [awake2, Option.bind_some]
  by_cases c : (300 : Int) < (p2.length : Int)
  · rw [if_pos c]
  · rw [if_neg c]
    by_cases c1 : (p2.length : Int) = 0
    · rw [if_pos c1]
    · rw [if_neg c1]
      by_cases c2 : p1 = 0
      · rw [if_pos c2]
      · obtain ⟨n, rfl, hn⟩ := u64_nat h1
        have d1 := dg_ten hn
        have d2 := dg_ten (show p2.length < 18446744073709551616 by omega)
        rw [if_neg c2, cnum hn, Option.bind_some, room_of (by simp only [List.length_nil]; omega) (by simp only [List.length_nil]; omega), Option.bind_some, ctext (by omega), Option.bind_some, room_of (by simp only [List.length_append]; omega) (by simp only [List.length_append]; omega), Option.bind_some, cnew, Option.bind_some, take_all, wu64_of (x := (n : Int) - 1) (by omega) (by omega)]
        have hb : Byt (dg p2.length ++ p2) := byt_app (dg_u8 _) h2.2
        have hb2 := byt_app (dg_u8 n) hb
        have hk : RdOk (dg n ++ (dg p2.length ++ p2), 0) := ⟨by simp only [List.length_append]; omega, hb2⟩
        have hk2 : RdOk (dg n ++ (dg p2.length ++ p2), 2) := hk
        have hk3 : RdOk (dg p2.length ++ p2, 0) := ⟨by simp only [List.length_append]; omega, hb⟩
        have e2 : numM (dg n ++ (dg p2.length ++ p2), 2) (n : Int) = (0, dg n ++ (dg p2.length ++ p2), 2) := by unfold numM; rw [if_pos (show (2 : Int) ≠ 0 from by decide)]
        have e3 : txtM (dg p2.length ++ p2, 0) ((p2.length : Int) - 1) = ([], dg p2.length ++ p2, 2) := by
          unfold txtM
          rw [wu64_of (x := max _ _) (by omega) (by omega), num_above (by omega) p2 (by omega)]
          rfl
        rw [crnum hk, Option.bind_some, num_above hn _ (by omega)]
        unfold codec_Reader_Err codec_Reader_Left
        simp only [Option.bind_some]
        rw [crnum hk2, Option.bind_some, e2, crnum hk, Option.bind_some, num_back hn _ (Int.le_refl _), wi64_of (by omega) (by omega), crtxt hk3, Option.bind_some, e3]
        simp only [if_true, decide_true, List.length_nil]
        rfl
theorem crfail (r : Rd8) (e : Int) : codec_Reader_Fail r e = some (if r.2 = 0 then e else r.2) := by
  unfold codec_Reader_Fail codec_Reader_on
  rw [Option.bind_some]
  split <;> rfl
theorem law02_CodecNobody_true (p1 : List Int) (p2 : Int) (p3 : Int × Int) (h1 : p1.length ≤ 9223372036854775807 ∧ ∀ x ∈ p1, U8 x) (h2 : I64 p2) (h3 : U8 p3.1 ∧ U8 p3.2) : law02_CodecNobody p1 p2 p3 = some true := by
  unfold law02_CodecNobody
  rw [awake2, Option.bind_some]
  by_cases c : (300 : Int) < (p1.length : Int)
  · rw [if_pos c]
  · have d2 := dg_ten (show p1.length < 18446744073709551616 by omega)
    have hw : ∀ q, U8 q → wi64 (wu8 (1 + q.tmod 15)) = 1 + q % 15 := fun q hq => by
      rw [Int.tmod_eq_emod_of_nonneg hq.1, wu8_of (by omega) (by omega), wi64_of (by omega) (by omega)]
    have hb : Byt (dg p1.length ++ (p1 ++ [])) := byt_app (dg_u8 _) (byt_app h1.2 (fun x hx => by cases hx))
    have hne : ¬ ((1 : Int) + p3.1 % 15 = 0) := by omega
    rw [if_neg c]
    unfold codec_Reader_Fail_v1 codec_Reader_on_v1 codec_Reader_Err codec_Reader_Num_v1 codec_Reader_Fixed_v1 codec_Reader_Text_v1 codec_Reader_Left_v1 codec_Reader_Err_v1 codec_Reader_End_v1 codec_Reader_Err_v1 codec_Reader_on_v1
    simp only [Option.bind_some, cnew, crfail, hw _ h3.1, hw _ h3.2, if_true, hne, if_false, take_all]
    rw [ctext (by omega), Option.bind_some, room_of (by simp only [List.length_append, List.length_nil]; omega) (by simp only [List.length_append, List.length_nil]; omega), Option.bind_some]
    have e : dg p1.length ++ p1 = dg p1.length ++ (p1 ++ []) := by rw [List.append_nil]
    rw [e, crtxt ⟨by simp only [List.length_append, List.length_nil]; omega, hb⟩, Option.bind_some, txt_back p1 [] (by omega)]
    -- the loop only ends
    have hl : ∀ (m i : Nat) (l : List Int), i + m = p1.length → l.length = p1.length → loopO (law02_CodecNobody_s0 (p1, [], 0)) (l, (i : Int)) = some () := by
      intro m
      induction m with
      | zero =>
        intro i l hi hl
        refine loopO_done ?_
        unfold law02_CodecNobody_s0
        simp only []
        rw [if_neg (by omega)]
      | succ m ih =>
        intro i l hi hl
        refine (loopO_next (s' := (l.set i (wu8 (l[i]'(by omega) + 1)), ((i + 1 : Nat) : Int))) ?_).trans (ih (i + 1) _ (by omega) (by rw [List.length_set]; exact hl))
        unfold law02_CodecNobody_s0
        simp only []
        rw [if_pos (by omega), rdo_get (by omega), Option.bind_some, wi64_of (by omega) (by omega), Int.toNat_natCast]
        rfl
    have h0 : loopO (law02_CodecNobody_s0 (p1, [], 0)) (p1, (0 : Int)) = some () := hl p1.length 0 p1 (by omega) rfl
    rw [h0]
    rfl
theorem bs4_eq : bs4 = bstr [] := rfl
theorem law02_CodecReads_true (p1 : List Int) (p2 : List (Int × Int)) (h1 : p1.length ≤ 9223372036854775807 ∧ ∀ x ∈ p1, U8 x) (h2 : p2.length ≤ 9223372036854775807 ∧ ∀ y ∈ p2, U8 y.1 ∧ I64 y.2) : law02_CodecReads p1 p2 = some true := by
  unfold law02_CodecReads
  rw [awake2, Option.bind_some]
  by_cases c : (300 : Int) < (p1.length : Int)
  · rw [if_pos c]
  · rw [if_neg c]
    by_cases c1 : (20 : Int) < (p2.length : Int)
    · rw [if_pos c1]
    · rw [if_neg c1, cnew, Option.bind_some, take_all]
      have run : ∀ (m i : Nat) (r : Rd8), i + m = p2.length → RdOk r → ∃ r' : Rd8, loopO (law02_CodecReads_s0 p2) ((i : Int), r.1, r.2, r.1, r.2) = some (.inr (r'.1, r'.2, r'.1, r'.2)) := by
        intro m
        induction m with
        | zero =>
          intro i r hi hr
          refine ⟨r, loopO_done ?_⟩
          unfold law02_CodecReads_s0
          simp only []
          rw [if_neg (by omega)]
        | succ m ih =>
          intro i r hi hr
          have hil : i < p2.length := by omega
          have step : ∃ r2 : Rd8, RdOk r2 ∧ law02_CodecReads_s0 p2 ((i : Int), r.1, r.2, r.1, r.2) = some (.inl (((i + 1 : Nat) : Int), r2.1, r2.2, r2.1, r2.2)) := by
            have fin : ∀ (r2 : Rd8) (a : Int) (s : ByteArray), (some (a, a, s, s, r2.1, r2.2, r2.1, r2.2)).bind (fun (j22 : (Int × Int × ByteArray × ByteArray × List Int × Int × List Int × Int)) =>
                if ¬ j22.1 = j22.2.1 then (some (.inr (.inl (()))))
                else (if ¬ j22.2.2.1 = j22.2.2.2.1 then (some (.inr (.inl (()))))
                else ((codec_Reader_Left ((j22.2.2.2.2.1, j22.2.2.2.2.2.1))).bind fun (r233 : Unit) =>
                if ¬ ((((j22.2.2.2.2.1, j22.2.2.2.2.2.1)).1.length : Int)) = ((j22.2.2.2.2.2.2.1.length : Int)) then (some (.inr (.inl (()))))
                else ((codec_Reader_Err (((j22.2.2.2.2.1, j22.2.2.2.2.2.1)))).bind fun (r234 : Unit) =>
                if ¬ ((((j22.2.2.2.2.1, j22.2.2.2.2.2.1))).2) = j22.2.2.2.2.2.2.2 then (some (.inr (.inl (()))))
                else ((codec_Reader_End ((((j22.2.2.2.2.1, j22.2.2.2.2.2.1))))).bind fun (r235 : Int) =>
                (ref02_End j22.2.2.2.2.2.2).bind fun (r236 : Int) =>
                if ¬ r235 = r236 then (some (.inr (.inl (()))))
                else (some (.inl ((wi64 ((i : Int) + 1), ((((j22.2.2.2.2.1, j22.2.2.2.2.2.1)))).1, ((((j22.2.2.2.2.1, j22.2.2.2.2.2.1)))).2, j22.2.2.2.2.2.2.1, j22.2.2.2.2.2.2.2))))))))) =
                (some (.inl (((i + 1 : Nat) : Int), r2.1, r2.2, r2.1, r2.2)) : Option ((Int × List Int × Int × List Int × Int) ⊕ (Unit ⊕ (List Int × Int × List Int × Int)))) := by
              intro r2 a s
              simp only [Option.bind_some, not_true, if_false, codec_Reader_Left, codec_Reader_Err, crend, rrend]
              rw [wi64_of (by omega) (by omega)]
              rfl
            unfold law02_CodecReads_s0
            simp only []
            rw [if_pos (by omega), rdo_get hil, Option.bind_some]
            by_cases d0 : (p2[i].1.tmod 4) = 0
            · refine ⟨(numM r (wu64 (max p2[i].2 0))).2, (numM_ok hr _).1, ?_⟩
              rw [if_pos d0, crnum hr, Option.bind_some, rrnum hr, Option.bind_some]
              exact fin _ _ _
            · rw [if_neg d0]
              by_cases d1 : (p2[i].1.tmod 4) = 1
              · refine ⟨(fixM r).2, fixM_ok hr, ?_⟩
                rw [if_pos d1, crfix hr, Option.bind_some, rrfix hr, Option.bind_some]
                exact fin _ _ _
              · rw [if_neg d1]
                by_cases d2 : (p2[i].1.tmod 4) = 2
                · refine ⟨(txtM r p2[i].2).2, (txtM_ok hr _).1, ?_⟩
                  rw [if_pos d2, crtxt hr, Option.bind_some, rrtxt hr, Option.bind_some]
                  exact fin _ _ _
                · rw [if_neg d2, crfail, Option.bind_some]
                  by_cases d3 : r.2 = 0
                  · refine ⟨(r.1, 9), hr, ?_⟩
                    rw [if_pos d3, if_pos d3]
                    exact fin (r.1, 9) 0 bs4
                  · refine ⟨r, hr, ?_⟩
                    rw [if_neg d3, if_neg d3]
                    exact fin r 0 bs4
          obtain ⟨r2, hr2, hs⟩ := step
          obtain ⟨r', hr'⟩ := ih (i + 1) r2 (by omega) hr2
          exact ⟨r', (loopO_next hs).trans hr'⟩
      obtain ⟨r', hr'⟩ := run p2.length 0 (p1, 0) (by omega) ⟨by simp only []; omega, h1.2⟩
      have h0 : loopO (law02_CodecReads_s0 p2) ((0 : Int), p1, (0 : Int), p1, (0 : Int)) = some (.inr (r'.1, r'.2, r'.1, r'.2)) := hr'
      rw [h0]
      simp only [Option.bind_some, Sum.elim_inr, if_true, codec_Reader_Left, decide_true]
end Go.Proofs.Ythgeodagikmpjaa.Pu
