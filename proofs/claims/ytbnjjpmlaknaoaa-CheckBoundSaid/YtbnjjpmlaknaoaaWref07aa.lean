/- The contracts of the walked functions: the printed walks. -/
import Derived.Test.YtbnjjpmlaknaoaaKa
import Derived.Test.YtbnjjpmlaknaoaaQa
namespace Go.Proofs.Ytbnjjpmlaknaoaa.W
open Go Go.Proofs Go.Proofs.Ytbnjjpmlaknaoaa.L Go.Proofs.Ytbnjjpmlaknaoaa.Pu
set_option linter.unusedVariables false
set_option maxHeartbeats 4000000

theorem c_ref07_Old (p1 : Int) (p2 : Int) (p3 : Int) (r : Bool) (H : ref07_Old p1 p2 p3 = some r) :
    Ctr Try.prog 36 [.int .u64 p1, .int .u64 p2, .int .u64 p3] [] [] (fun ret M' F' => ret = .bool r ∧ M' = [] ∧ F' = []) := by
  unfold ref07_Old at H
  refine ctr_ofI (N := 17) Try.func36 rfl Try.ntmps36 rfl (Nat.le_of_ble_eq_true rfl) (fun γ0 w0 => ?_)
  refine Tr.seq ?_
  refine Tr.region ?_
  refine TrL.v (v_assign rfl rfl) rfl rfl (bl rfl) ?_
  refine TrL.nil (qthen_n ?_)
  refine Tr.seq ?_
  refine Tr.region ?_
  refine TrL.v (v_move rfl rfl) rfl rfl (bl rfl) ?_
  refine TrL.v (v_move rfl rfl) rfl rfl (bl rfl) ?_
  refine TrL.v (v_arith rfl rfl rfl ar_geq) rfl rfl (bl rfl) ?_
  refine TrL.v (v_move rfl rfl) rfl rfl (bl rfl) ?_
  rcases ifc H with ⟨h4, H⟩ | ⟨h4, H⟩
  · refine TrL.cons_yes rfl rfl rfl (bt_dec h4) (OpTr.v (v_move rfl rfl) rfl (bl rfl) ?_)
    refine TrL.cons_yes rfl rfl rfl (bt_dec h4) (OpTr.v (v_move rfl rfl) rfl (bl rfl) ?_)
    refine TrL.cons_yes rfl rfl rfl (bt_dec h4) (OpTr.v (v_move rfl rfl) rfl (bl rfl) ?_)
    refine TrL.cons_yes rfl rfl rfl (bt_dec h4) (OpTr.v (v_arith rfl rfl rfl ar_sub_u64) rfl (bl rfl) ?_)
    refine TrL.cons_yes rfl rfl rfl (bt_dec h4) (OpTr.v (v_arith rfl rfl rfl ar_leq) rfl (bl rfl) ?_)
    refine TrL.v (v_pick_t rfl rfl (bt_dec h4) rfl) rfl rfl (bl rfl) ?_
    refine TrL.v (v_assign rfl rfl) rfl rfl (bl rfl) ?_
    refine TrL.nil (qthen_n ?_)
    have hz := Option.some.inj H
    subst hz
    refine Tr.ret (ret_r ⟨[(6, .bool (decide (p1 ≤ (wu64 (p2 - p3)))))], [], [], []⟩ [.bool (decide (p1 ≤ (wu64 (p2 - p3))))] [] [] (Imp.re _ [] [] (sc rfl sn) (by decide) rfl rfl rfl) rfl rfl ⟨rfl, rfl, rfl⟩ (.cons (resv_tmp rfl) .nil))
  · refine TrL.cons_no rfl rfl rfl (gn_t (bf_dec h4)) rfl (bl rfl) ?_
    refine TrL.cons_no rfl rfl rfl (gn_t (bf_dec h4)) rfl (bl rfl) ?_
    refine TrL.cons_no rfl rfl rfl (gn_t (bf_dec h4)) rfl (bl rfl) ?_
    refine TrL.cons_no rfl rfl rfl (gn_t (bf_dec h4)) rfl (bl rfl) ?_
    refine TrL.cons_no rfl rfl rfl (gn_t (bf_dec h4)) rfl (bl rfl) ?_
    refine TrL.v (v_pick_f rfl rfl (bf_dec h4) rfl) rfl rfl (bl rfl) ?_
    refine TrL.v (v_assign rfl rfl) rfl rfl (bl rfl) ?_
    refine TrL.nil (qthen_n ?_)
    have hz := Option.some.inj H
    subst hz
    refine Tr.ret (ret_r ⟨[(6, .bool false)], [], [], []⟩ [.bool false] [] [] (Imp.re _ [] [] (sc rfl sn) (by decide) rfl rfl rfl) rfl rfl ⟨rfl, rfl, rfl⟩ (.cons (resv_tmp rfl) .nil))

theorem c_ref07_Drop (p1 : Int × Int × List (List (Int × Int))) (p2 : Int) (p3 : Int) (A1 : Option Addr) (c1 : Nat) (r : List (List (Int × Int))) (H : ref07_Drop p1 p2 p3 = some r) :
    Ctr Try.prog 34 [.agg #[.int .i64 p1.1, .int .i64 p1.2.1, .slice A1 p1.2.2.length c1], .int .u64 p2, .int .u64 p3] [] [slF (rSl rp_u64_u64) A1 c1 p1.2.2] (fun ret M' F' => ∃ m : Option Addr × Nat, ret = .agg #[.int .i64 p1.1, .int .i64 p1.2.1, .slice m.1 r.length m.2] ∧ M' = [] ∧ F' = [slF (rSl rp_u64_u64) m.1 m.2 r]) := by
  unfold ref07_Drop at H
  refine ctr_ofI (N := 75) Try.func34 rfl Try.ntmps34 rfl (Nat.le_of_ble_eq_true rfl) (fun γ0 w0 => ?_)
  refine Tr.seq ?_
  refine Tr.region ?_
  refine TrL.cons rfl (op_box' rfl (bl rfl) rfl rfl rfl (fun b4 => ?_))
  refine TrL.cons rfl (op_alloc' rfl (bl rfl) rfl ze28 (fun b5 => ?_))
  refine TrL.nil (qthen_n ?_)
  refine Tr.seq ?_
  refine Tr.region ?_
  refine TrL.v (v_fieldAddr' rfl fo28_0 rfl rfl) rfl rfl (bl rfl) ?_
  refine TrL.v (v_load (k := 1) rfl rfl rfl ty3 (fun _ => rfl) rfl rfl) rfl rfl (bl rfl) ?_
  refine TrL.v (v_fieldAddr' rfl fo28_1 rfl rfl) rfl rfl (bl rfl) ?_
  refine TrL.v (v_load (k := 1) rfl rfl rfl ty3 (fun _ => rfl) rfl rfl) rfl rfl (bl rfl) ?_
  refine TrL.v (v_build (vs := [.int .i64 p1.1, .int .i64 p1.2.1]) (out := [.int .i64 p1.1, .int .i64 p1.2.1, .slice none 0 0]) rfl pl28 ze28 rfl rfl) rfl rfl (bl rfl) ?_
  refine TrL.cons rfl (op_alloc' rfl (bl rfl) rfl ze28 (fun b6 => ?_))
  refine TrL.cons rfl (op_store' (k := 0) (c' := [.int .i64 p1.1, .int .i64 p1.2.1, .slice none 0 0]) rfl rfl rfl rfl rfl ty28 rfl (Nat.le_of_ble_eq_true rfl) (ones (oc rfl (oc rfl (oc rfl on)))) rfl ?_)
  refine TrL.nil (qthen_n ?_)
  refine Tr.seq ?_
  refine Tr.region ?_
  refine TrL.v (v_assign rfl rfl) rfl rfl (bl rfl) ?_
  refine TrL.nil (qthen_n ?_)
  refine Tr.seq ?_
  refine Tr.seq ?_
  refine Tr.region ?_
  refine TrL.v (v_assign rfl rfl) rfl rfl (bl rfl) ?_
  refine TrL.nil (qthen_n ?_)
  obtain ⟨x7, hx13, H⟩ := bnd H
  refine Tr.cutE (D := Int × List (List (Int × Int))) (M := Option Addr × Nat × Option Nat) .normal (fun _d => x7 = _d) (fun x7 m43 => ⟨[(6, .pointer (some ⟨b5, 0, none⟩)), (7, .pointer (some ⟨b6, 0, none⟩)), (8, .int .i64 x7.1)], [cells b5 [.int .i64 0, .int .i64 0, .slice none 0 0] 28, cells b6 [.int .i64 p1.1, .int .i64 p1.2.1, .slice m43.1 x7.2.length m43.2.1] 28, grow 38 1 (.slice m43.1 x7.2.length m43.2.1) x7.2.length m43.2.2], [slF (rSl rp_u64_u64) none 0 (([] : List (List (Int × Int)))), slF (rSl rp_u64_u64) m43.1 m43.2.1 x7.2], []⟩) ?_ (fun x7 m43 hd8 => ?_)
  · refine Tr.block (Tr.loopI (ι := Option Addr × Nat × Option Nat) (step := ref07_Drop_s0 p1 p2 p3) (fun s17 m34 => ⟨[(1, .int .u64 p2), (2, .int .u64 p3), (3, .pointer (some ⟨b4, 0, none⟩)), (6, .pointer (some ⟨b5, 0, none⟩)), (7, .pointer (some ⟨b6, 0, none⟩)), (8, .int .i64 s17.1), (9, .int .i64 s17.2.1)], [cells b4 [.int .i64 p1.1, .int .i64 p1.2.1, .slice A1 p1.2.2.length c1] 28, cells b5 [.int .i64 0, .int .i64 0, .slice none 0 0] 28, cells b6 [.int .i64 p1.1, .int .i64 p1.2.1, .slice m34.1 s17.2.2.length m34.2.1] 28, grow 38 1 (.slice m34.1 s17.2.2.length m34.2.1) s17.2.2.length m34.2.2], [slF (rSl rp_u64_u64) A1 c1 p1.2.2, slF (rSl rp_u64_u64) none 0 (([] : List (List (Int × Int)))), slF (rSl rp_u64_u64) m34.1 m34.2.1 s17.2.2], []⟩) ((none, 0, none)) hx13 (Imp.full' (E := 38) (sz := 1) (A := none) (n := 0) (Imp.addF' _ (nilF (rSl rp_u64_u64)) (Imp.re _ [3, 2, 1, 0] [0, 1, 1] (sc rfl (sc rfl (sc rfl (sc rfl (sc rfl (sc rfl (sc rfl sn))))))) (by decide) rfl rfl rfl))) (fun s17 m34 y7 hy7 hx14 => ?_))
    unfold ref07_Drop_s0 at hy7
    refine Tr.seq ?_
    refine Tr.seq ?_
    refine Tr.region ?_
    refine TrL.v (v_move rfl rfl) rfl rfl (bl rfl) ?_
    refine TrL.v (v_fieldAddr' rfl fo28_2 rfl rfl) rfl rfl (bl rfl) ?_
    refine TrL.v (v_load (k := 0) rfl rfl rfl ty26 (fun _ => rfl) rfl rfl) rfl rfl (bl rfl) ?_
    refine TrL.v (v_len rfl sl26 rfl) rfl rfl (bl rfl) ?_
    refine TrL.v (v_arith rfl rfl rfl ar_lss) rfl rfl (bl rfl) ?_
    refine TrL.nil (qthen_n ?_)
    rcases ifc hy7 with ⟨h62, hy7⟩ | ⟨h62, hy7⟩
    · refine Tr.cond_t rfl (bt_dec h62) ?_
      refine Tr.skip (qthen_n ?_)
      refine Tr.seq ?_
      refine Tr.block ?_
      refine Tr.seq ?_
      refine Tr.region ?_
      refine TrL.v (v_assign rfl rfl) rfl rfl (bl rfl) ?_
      refine TrL.nil (qthen_n ?_)
      refine Tr.seq ?_
      refine Tr.seq ?_
      refine Tr.region ?_
      refine TrL.v (v_assign rfl rfl) rfl rfl (bl rfl) ?_
      refine TrL.nil (qthen_n ?_)
      obtain ⟨x8, hx15, hy7⟩ := bnd hy7
      refine Tr.cutE (D := List (Int × Int)) (M := Option Addr × Nat × Option Nat) .normal (fun _d => x8 = _d) (fun x8 m49 => ⟨[(1, .int .u64 p2), (2, .int .u64 p3), (3, .pointer (some ⟨b4, 0, none⟩)), (6, .pointer (some ⟨b5, 0, none⟩)), (7, .pointer (some ⟨b6, 0, none⟩)), (8, .int .i64 s17.1), (9, .int .i64 s17.2.1), (10, .slice m49.1 x8.length m49.2.1)], [cells b4 [.int .i64 p1.1, .int .i64 p1.2.1, .slice A1 p1.2.2.length c1] 28, cells b5 [.int .i64 0, .int .i64 0, .slice none 0 0] 28, cells b6 [.int .i64 p1.1, .int .i64 p1.2.1, .slice m34.1 s17.2.2.length m34.2.1] 28, grow 41 2 (.slice m49.1 x8.length m49.2.1) x8.length m49.2.2, grow 38 1 (.slice m34.1 s17.2.2.length m34.2.1) s17.2.2.length m34.2.2], [slF rp_u64_u64 m49.1 m49.2.1 x8, slF (rSl rp_u64_u64) A1 c1 p1.2.2, slF (rSl rp_u64_u64) none 0 (([] : List (List (Int × Int)))), slF (rSl rp_u64_u64) m34.1 m34.2.1 s17.2.2], []⟩) ?_ (fun x8 m49 hd7 => ?_)
      · refine Tr.block (Tr.loopI (ι := Option Addr × Nat × Option Nat) (step := ref07_Drop_s1 p1 p2 p3 s17) (fun s23 m46 => ⟨[(1, .int .u64 p2), (2, .int .u64 p3), (3, .pointer (some ⟨b4, 0, none⟩)), (6, .pointer (some ⟨b5, 0, none⟩)), (7, .pointer (some ⟨b6, 0, none⟩)), (8, .int .i64 s17.1), (9, .int .i64 s17.2.1), (10, .slice m46.1 s23.1.length m46.2.1), (11, .int .i64 s23.2)], [cells b4 [.int .i64 p1.1, .int .i64 p1.2.1, .slice A1 p1.2.2.length c1] 28, cells b5 [.int .i64 0, .int .i64 0, .slice none 0 0] 28, cells b6 [.int .i64 p1.1, .int .i64 p1.2.1, .slice m34.1 s17.2.2.length m34.2.1] 28, grow 41 2 (.slice m46.1 s23.1.length m46.2.1) s23.1.length m46.2.2, grow 38 1 (.slice m34.1 s17.2.2.length m34.2.1) s17.2.2.length m34.2.2], [slF rp_u64_u64 m46.1 m46.2.1 s23.1, slF (rSl rp_u64_u64) A1 c1 p1.2.2, slF (rSl rp_u64_u64) none 0 (([] : List (List (Int × Int)))), slF (rSl rp_u64_u64) m34.1 m34.2.1 s17.2.2], []⟩) ((none, 0, none)) hx15 (Imp.full' (E := 41) (sz := 2) (A := none) (n := 0) (Imp.addF' _ (nilF rp_u64_u64) (Imp.re _ [1, 2, 3, 0, 4] [3, 0, 1, 2] (sc rfl (sc rfl (sc rfl (sc rfl (sc rfl (sc rfl (sc rfl (sc rfl (sc rfl sn))))))))) (by decide) rfl rfl rfl))) (fun s23 m46 y8 hy8 hx16 => ?_))
        unfold ref07_Drop_s1 at hy8
        refine Tr.seq ?_
        refine Tr.seq ?_
        refine Tr.region ?_
        refine TrL.v (v_move rfl rfl) rfl rfl (bl rfl) ?_
        refine TrL.v (v_fieldAddr' rfl fo28_2 rfl rfl) rfl rfl (bl rfl) ?_
        refine TrL.v (v_load (k := 0) rfl rfl rfl ty26 (fun _ => rfl) rfl rfl) rfl rfl (bl rfl) ?_
        refine TrL.v (v_move rfl rfl) rfl rfl (bl rfl) ?_
        obtain ⟨z35, hz35, hy8⟩ := bnd hy8
        refine TrL.v (v_indexAddr (k := 1) rfl sl26 ty38 rfl rfl rfl rfl hz35) rfl rfl (bl rfl) ?_
        refine TrL.openS' (k := 1) rfl hz35 (fun A63 c41 => ?_)
        refine TrL.v (v_loadF (k := 5) rfl ty38 rfl rfl) rfl rfl (bl rfl) ?_
        refine TrL.v (v_len rfl sl38 rfl) rfl rfl (bl rfl) ?_
        refine TrL.v (v_arith rfl rfl rfl ar_lss) rfl rfl (bl rfl) ?_
        refine TrL.nil (qthen_n ?_)
        rcases ifc hy8 with ⟨h69, hy8⟩ | ⟨h69, hy8⟩
        · refine Tr.cond_t rfl (bt_dec h69) ?_
          refine Tr.skip (qthen_n ?_)
          refine Tr.seq ?_
          refine Tr.block ?_
          refine Tr.seq ?_
          refine Tr.region ?_
          refine TrL.v (v_fieldAddr' rfl fo28_2 rfl rfl) rfl rfl (bl rfl) ?_
          refine TrL.v (v_load (k := 0) rfl rfl rfl ty26 (fun _ => rfl) rfl rfl) rfl rfl (bl rfl) ?_
          refine TrL.v (v_move rfl rfl) rfl rfl (bl rfl) ?_
          refine TrL.v (v_indexAddr (k := 1) rfl sl26 ty38 rfl rfl rfl rfl hz35) rfl rfl (bl rfl) ?_
          refine TrL.v (v_loadF (k := 5) rfl ty38 rfl rfl) rfl rfl (bl rfl) ?_
          refine TrL.v (v_move rfl rfl) rfl rfl (bl rfl) ?_
          obtain ⟨z36, hz36, hy8⟩ := bnd hy8
          refine TrL.v (v_indexAddr (k := 4) rfl sl38 ty41 rfl rfl rfl rfl hz36) rfl rfl (bl rfl) ?_
          refine TrL.v (v_fieldAddr rfl fo41_1 rfl) rfl rfl (bl rfl) ?_
          refine TrL.v (v_loadg (A := A63) (i := s23.2) (j := 1) (k := 4) rfl ty23 (fun _ => rfl) rfl rfl hz36 rfl rfl) rfl rfl (bl rfl) ?_
          refine TrL.v (v_move rfl rfl) rfl rfl (bl rfl) ?_
          refine TrL.v (v_move rfl rfl) rfl rfl (bl rfl) ?_
          obtain ⟨r18, hr18, hy8⟩ := bnd hy8
          refine TrL.cons rfl (op_call0' (vs := [.int .u64 z36.2, .int .u64 p2, .int .u64 p3]) (cap := []) [] rfl rfl (bl rfl) rfl rfl en36 (c_ref07_Old z36.2 p2 p3 r18 hr18) rfl (fun ret M' F' hR18 => ?_))
          obtain ⟨rfl, rfl, rfl⟩ := hR18
          refine TrL.v (v_notd rfl (bdec rfl)) rfl rfl (bl rfl) ?_
          refine TrL.nil (qthen_n ?_)
          rcases ifc hy8 with ⟨h70, hy8⟩ | ⟨h70, hy8⟩
          · refine Tr.cond_t rfl (bt_dec h70) ?_
            refine Tr.region ?_
            refine TrL.v (v_move rfl rfl) rfl rfl (bl rfl) ?_
            refine TrL.v (v_fieldAddr' rfl fo28_2 rfl rfl) rfl rfl (bl rfl) ?_
            refine TrL.v (v_load (k := 0) rfl rfl rfl ty26 (fun _ => rfl) rfl rfl) rfl rfl (bl rfl) ?_
            refine TrL.v (v_move rfl rfl) rfl rfl (bl rfl) ?_
            refine TrL.v (v_indexAddr (k := 1) rfl sl26 ty38 rfl rfl rfl rfl hz35) rfl rfl (bl rfl) ?_
            refine TrL.v (v_loadF (k := 5) rfl ty38 rfl rfl) rfl rfl (bl rfl) ?_
            refine TrL.v (v_move rfl rfl) rfl rfl (bl rfl) ?_
            refine TrL.v (v_indexAddr (k := 4) rfl sl38 ty41 rfl rfl rfl rfl hz36) rfl rfl (bl rfl) ?_
            refine TrL.v (v_loadg (A := A63) (i := s23.2) (j := 0) (k := 4) rfl ty41 nofun rfl rfl hz36 rfl rfl) rfl rfl (bl rfl) ?_
            refine TrL.cons rfl (op_buildSlice' (rp := rp_u64_u64) (xs := [z36]) (vs := [.agg #[.int .u64 z36.1, .int .u64 z36.2]]) (out := [.int .u64 z36.1, .int .u64 z36.2]) rfl (bl rfl) rfl sl38 ty41 ze41 rfl rfl (by decide) (by decide) rfl (fun γ w hF => (rowc rfl rown rfl)) (fun A64 => ?_))
            obtain ⟨h71, hy8⟩ := rom hy8
            refine TrL.cons rfl (op_append' (rp := rp_u64_u64) (xs := s23.1) (ys := [z36]) (k := 3) (kx := 0) (ky := 6) rfl (bl rfl) rfl sl38 ty41 ze41 rfl by41 rfl rfl rfl rfl rfl rfl rfl h71.1 h71.2 (fun A65 c42 o23 => ?_))
            refine TrL.v (v_assign rfl rfl) rfl rfl (bl rfl) ?_
            refine TrL.nil (qblock_n (qthen_n ?_))
            refine Tr.region ?_
            refine TrL.v (v_move rfl rfl) rfl rfl (bl rfl) ?_
            refine TrL.v (v_arith rfl rfl rfl ar_add_i64) rfl rfl (bl rfl) ?_
            refine TrL.v (v_assign rfl rfl) rfl rfl (bl rfl) ?_
            have hz := Option.some.inj hy8
            subst hz
            refine TrL.nil (qloop_n ((A65, c42, o23)) (Imp.re _ [0, 1, 2, 3, 4] [7, 1, 2, 3] (sc rfl (sc rfl (sc rfl (sc rfl (sc rfl (sc rfl (sc rfl (sc rfl (sc rfl sn))))))))) (by decide) rfl rfl rfl))
          · refine Tr.cond_f rfl (bf_dec h70) ?_
            refine Tr.skip (qblock_n (qthen_n ?_))
            refine Tr.region ?_
            refine TrL.v (v_move rfl rfl) rfl rfl (bl rfl) ?_
            refine TrL.v (v_arith rfl rfl rfl ar_add_i64) rfl rfl (bl rfl) ?_
            refine TrL.v (v_assign rfl rfl) rfl rfl (bl rfl) ?_
            have hz := Option.some.inj hy8
            subst hz
            refine TrL.nil (qloop_n ((m46.1, m46.2.1, m46.2.2)) (Imp.re _ [0, 1, 2, 3, 4] [0, 1, 2, 3] (sc rfl (sc rfl (sc rfl (sc rfl (sc rfl (sc rfl (sc rfl (sc rfl (sc rfl sn))))))))) (by decide) rfl rfl rfl))
        · refine Tr.cond_f rfl (bf_dec h69) ?_
          have hz := Option.some.inj hy8
          subst hz
          refine Tr.exit (qthen_x (qloop_x (qblock_hit (qcut_hit s23.1 ((m46.1, m46.2.1, m46.2.2)) (hx16 _ rfl).symm (Imp.re _ [0, 1, 2, 3, 4] [0, 1, 2, 3] (sc rfl (sc rfl (sc rfl (sc rfl (sc rfl (sc rfl (sc rfl (sc rfl sn)))))))) (by decide) rfl rfl rfl)))))
      · subst hd7
        refine (qthen_n ?_)
        refine Tr.seq ?_
        refine Tr.region ?_
        refine TrL.v (v_fieldAddr' rfl fo28_2 rfl rfl) rfl rfl (bl rfl) ?_
        refine TrL.v (v_load (k := 2) rfl rfl rfl ty26 (fun _ => rfl) rfl rfl) rfl rfl (bl rfl) ?_
        refine TrL.v (v_move rfl rfl) rfl rfl (bl rfl) ?_
        refine TrL.cons rfl (op_buildSlice' (rp := (rSl rp_u64_u64)) (xs := [x8]) (vs := [.slice m49.1 x8.length m49.2.1]) (out := [.slice m49.1 x8.length m49.2.1]) rfl (bl rfl) rfl sl26 ty38 ze38 rfl rfl (by decide) (by decide) rfl (fun γ w hF => (rowc ⟨_, _, rfl, hF _ (List.mem_of_getElem? (i := 0) rfl)⟩ rown rfl)) (fun A66 => ?_))
        obtain ⟨h72, hy7⟩ := rom hy7
        refine TrL.cons rfl (op_append' (rp := (rSl rp_u64_u64)) (xs := s17.2.2) (ys := [x8]) (k := 4) (kx := 3) (ky := 4) rfl (bl rfl) rfl sl26 ty38 ze38 rfl by38 rfl rfl rfl rfl rfl rfl rfl h72.1 h72.2 (fun A67 c43 o24 => ?_))
        refine TrL.v (v_fieldAddr' rfl fo28_2 rfl rfl) rfl rfl (bl rfl) ?_
        refine TrL.cons rfl (op_store' (k := 2) (c' := [.int .i64 p1.1, .int .i64 p1.2.1, .slice A67 ((s17.2.2 ++ ([x8])).length) c43]) rfl rfl rfl rfl rfl ty26 rfl (Nat.le_of_ble_eq_true rfl) (ones (oc rfl on)) rfl ?_)
        refine TrL.nil (qthen_n ?_)
        refine Tr.seq ?_
        refine Tr.region ?_
        refine TrL.v (v_move rfl rfl) rfl rfl (bl rfl) ?_
        refine TrL.v (v_len rfl sl38 rfl) rfl rfl (bl rfl) ?_
        refine TrL.v (v_arith rfl rfl rfl ar_gtr) rfl rfl (bl rfl) ?_
        refine TrL.nil (qthen_n ?_)
        rcases ifc hy7 with ⟨h73, hy7⟩ | ⟨h73, hy7⟩
        · refine Tr.cond_t rfl (bt_dec h73) ?_
          refine Tr.region ?_
          refine TrL.v (v_move rfl rfl) rfl rfl (bl rfl) ?_
          refine TrL.v (v_arith rfl rfl rfl ar_add_i64) rfl rfl (bl rfl) ?_
          refine TrL.v (v_assign rfl rfl) rfl rfl (bl rfl) ?_
          refine TrL.nil (qblock_n (qthen_n ?_))
          refine Tr.region ?_
          refine TrL.v (v_move rfl rfl) rfl rfl (bl rfl) ?_
          refine TrL.v (v_arith rfl rfl rfl ar_add_i64) rfl rfl (bl rfl) ?_
          refine TrL.v (v_assign rfl rfl) rfl rfl (bl rfl) ?_
          have hz := Option.some.inj hy7
          subst hz
          refine TrL.nil (qloop_n ((A67, c43, o24)) (Imp.re _ [0, 1, 2, 4] [1, 2, 5] (sc rfl (sc rfl (sc rfl (sc rfl (sc rfl (sc rfl (sc rfl sn))))))) (by decide) rfl rfl rfl))
        · refine Tr.cond_f rfl (bf_dec h73) ?_
          refine Tr.skip (qblock_n (qthen_n ?_))
          refine Tr.region ?_
          refine TrL.v (v_move rfl rfl) rfl rfl (bl rfl) ?_
          refine TrL.v (v_arith rfl rfl rfl ar_add_i64) rfl rfl (bl rfl) ?_
          refine TrL.v (v_assign rfl rfl) rfl rfl (bl rfl) ?_
          have hz := Option.some.inj hy7
          subst hz
          refine TrL.nil (qloop_n ((A67, c43, o24)) (Imp.re _ [0, 1, 2, 4] [1, 2, 5] (sc rfl (sc rfl (sc rfl (sc rfl (sc rfl (sc rfl (sc rfl sn))))))) (by decide) rfl rfl rfl))
    · refine Tr.cond_f rfl (bf_dec h62) ?_
      have hz := Option.some.inj hy7
      subst hz
      refine Tr.exit (qthen_x (qloop_x (qblock_hit (qcut_hit ((s17.1, s17.2.2)) ((m34.1, m34.2.1, m34.2.2)) (hx14 _ rfl).symm (Imp.re _ [1, 2, 3] [1, 2] (sc rfl (sc rfl (sc rfl sn))) (by decide) rfl rfl rfl)))))
  · subst hd8
    refine (qthen_n ?_)
    refine Tr.seq ?_
    refine Tr.region ?_
    refine TrL.v (v_fieldAddr' rfl fo28_2 rfl rfl) rfl rfl (bl rfl) ?_
    refine TrL.v (v_load (k := 1) rfl rfl rfl ty26 (fun _ => rfl) rfl rfl) rfl rfl (bl rfl) ?_
    refine TrL.v (v_move rfl rfl) rfl rfl (bl rfl) ?_
    obtain ⟨h74, H⟩ := mst H
    refine TrL.addF' (slF (rSl rp_u64_u64) (slA m43.1 0 m43.2.1 1) m43.2.1 (x7.2.take x7.1.toNat)) (slx2_f (k := 1) rfl h74) ?_
    refine TrL.v (slx2_v (rp := (rSl rp_u64_u64)) (xs := x7.2) (k := 1) rfl sl26 ty38 rfl rfl rfl h74 rfl) rfl rfl (bl rfl) ?_
    refine TrL.v (v_fieldAddr' rfl fo28_2 rfl rfl) rfl rfl (bl rfl) ?_
    refine TrL.cons rfl (op_store' (k := 1) (c' := [.int .i64 p1.1, .int .i64 p1.2.1, .slice (slA m43.1 0 m43.2.1 1) ((x7.2.take x7.1.toNat).length) m43.2.1]) rfl rfl rfl rfl rfl ty26 rfl (Nat.le_of_ble_eq_true rfl) (ones (oc rfl on)) rfl ?_)
    refine TrL.nil (qthen_n ?_)
    refine Tr.seq ?_
    refine Tr.region ?_
    refine TrL.v (v_load (k := 1) rfl rfl rfl ty28 nofun rfl rfl) rfl rfl (bl rfl) ?_
    refine TrL.cons rfl (op_store' (k := 0) (c' := [.int .i64 p1.1, .int .i64 p1.2.1, .slice (slA m43.1 0 m43.2.1 1) ((x7.2.take x7.1.toNat).length) m43.2.1]) rfl rfl rfl rfl rfl ty28 rfl (Nat.le_of_ble_eq_true rfl) (ones (oc rfl (oc rfl (oc rfl on)))) rfl ?_)
    refine TrL.nil (qthen_n ?_)
    have hz := Option.some.inj H
    subst hz
    refine Tr.ret (ret_r ⟨[(6, .pointer (some ⟨b5, 0, none⟩))], [cells b5 [.int .i64 p1.1, .int .i64 p1.2.1, .slice (slA m43.1 0 m43.2.1 1) ((x7.2.take x7.1.toNat).length) m43.2.1] 28], [slF (rSl rp_u64_u64) (slA m43.1 0 m43.2.1 1) m43.2.1 (x7.2.take x7.1.toNat)], []⟩ [.agg #[.int .i64 p1.1, .int .i64 p1.2.1, .slice (slA m43.1 0 m43.2.1 1) ((x7.2.take x7.1.toNat).length) m43.2.1]] [] [cells b5 [.int .i64 p1.1, .int .i64 p1.2.1, .slice (slA m43.1 0 m43.2.1 1) ((x7.2.take x7.1.toNat).length) m43.2.1] 28] (Imp.re _ [0] [2] (sc rfl sn) (by decide) rfl rfl rfl) rfl rfl ⟨((slA m43.1 0 m43.2.1 1, m43.2.1)), rfl, rfl, rfl⟩ (.cons (resv_cell (k := 0) rfl rfl ty28 nofun rfl rfl) .nil))
end Go.Proofs.Ytbnjjpmlaknaoaa.W
