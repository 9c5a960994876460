/- The contracts of the walked functions: the printed walks. -/
import Derived.Test.YtbnjjpmlaknaoaaKa
import Derived.Test.YtbnjjpmlaknaoaaQa
import Derived.Test.YtbnjjpmlaknaoaaWref06ba
namespace Go.Proofs.Ytbnjjpmlaknaoaa.W
open Go Go.Proofs Go.Proofs.Ytbnjjpmlaknaoaa.L Go.Proofs.Ytbnjjpmlaknaoaa.Pu
set_option linter.unusedVariables false
set_option maxHeartbeats 4000000

theorem c_ref08_Within (p1 : Int) (p2 : Int) (p3 : Int) (r : Bool) (H : ref08_Within p1 p2 p3 = some r) :
    Ctr Try.prog 83 [.int .u64 p1, .int .u64 p2, .int .u64 p3] [] [] (fun ret M' F' => ret = .bool r ∧ M' = [] ∧ F' = []) := by
  unfold ref08_Within at H
  refine ctr_ofI (N := 17) Try.func83 rfl Try.ntmps83 rfl (Nat.le_of_ble_eq_true rfl) (fun γ0 w0 => ?_)
  refine Tr.seq ?_
  refine Tr.region ?_
  refine TrL.v (v_assign rfl rfl) rfl rfl (bl rfl) ?_
  refine TrL.nil (qthen_n ?_)
  refine Tr.seq ?_
  refine Tr.region ?_
  refine TrL.v (v_move rfl rfl) rfl rfl (bl rfl) ?_
  refine TrL.v (v_move rfl rfl) rfl rfl (bl rfl) ?_
  refine TrL.v (v_arith rfl rfl rfl ar_lss) rfl rfl (bl rfl) ?_
  refine TrL.v (v_move rfl rfl) rfl rfl (bl rfl) ?_
  rcases ifc H with ⟨h4, H⟩ | ⟨h4, H⟩
  · refine TrL.cons_no rfl rfl rfl (gn_f (bt_dec h4)) rfl (bl rfl) ?_
    refine TrL.cons_no rfl rfl rfl (gn_f (bt_dec h4)) rfl (bl rfl) ?_
    refine TrL.cons_no rfl rfl rfl (gn_f (bt_dec h4)) rfl (bl rfl) ?_
    refine TrL.cons_no rfl rfl rfl (gn_f (bt_dec h4)) rfl (bl rfl) ?_
    refine TrL.cons_no rfl rfl rfl (gn_f (bt_dec h4)) rfl (bl rfl) ?_
    refine TrL.v (v_pick_t rfl rfl (bt_dec h4) rfl) rfl rfl (bl rfl) ?_
    refine TrL.v (v_assign rfl rfl) rfl rfl (bl rfl) ?_
    refine TrL.nil (qthen_n ?_)
    have hz := Option.some.inj H
    subst hz
    refine Tr.ret (ret_r ⟨[(6, .bool true)], [], [], []⟩ [.bool true] [] [] (Imp.re _ [] [] (sc rfl sn) (by decide) rfl rfl rfl) rfl rfl ⟨rfl, rfl, rfl⟩ (.cons (resv_tmp rfl) .nil))
  · refine TrL.cons_yes rfl rfl rfl (bf_dec h4) (OpTr.v (v_move rfl rfl) rfl (bl rfl) ?_)
    refine TrL.cons_yes rfl rfl rfl (bf_dec h4) (OpTr.v (v_move rfl rfl) rfl (bl rfl) ?_)
    refine TrL.cons_yes rfl rfl rfl (bf_dec h4) (OpTr.v (v_move rfl rfl) rfl (bl rfl) ?_)
    refine TrL.cons_yes rfl rfl rfl (bf_dec h4) (OpTr.v (v_arith rfl rfl rfl ar_sub_u64) rfl (bl rfl) ?_)
    refine TrL.cons_yes rfl rfl rfl (bf_dec h4) (OpTr.v (v_arith rfl rfl rfl ar_gtr) rfl (bl rfl) ?_)
    refine TrL.v (v_pick_f rfl rfl (bf_dec h4) rfl) rfl rfl (bl rfl) ?_
    refine TrL.v (v_assign rfl rfl) rfl rfl (bl rfl) ?_
    refine TrL.nil (qthen_n ?_)
    have hz := Option.some.inj H
    subst hz
    refine Tr.ret (ret_r ⟨[(6, .bool (decide ((wu64 (p2 - p3)) < p1)))], [], [], []⟩ [.bool (decide ((wu64 (p2 - p3)) < p1))] [] [] (Imp.re _ [] [] (sc rfl sn) (by decide) rfl rfl rfl) rfl rfl ⟨rfl, rfl, rfl⟩ (.cons (resv_tmp rfl) .nil))

theorem c_ref08_Parts (p1 : Int × Int × List (List (Int × Int))) (p2 : Int) (p3 : Int) (A1 : Option Addr) (c1 : Nat) (r : Int × Int) (H : ref08_Parts p1 p2 p3 = some r) :
    Ctr Try.prog 41 [.agg #[.int .i64 p1.1, .int .i64 p1.2.1, .slice A1 p1.2.2.length c1], .int .u64 p2, .int .u64 p3] [] [slF (rSl rp_u64_u64) A1 c1 p1.2.2] (fun ret M' F' => ret = .tuple #[.int .u64 r.1, .int .u64 r.2] ∧ M' = [] ∧ F' = []) := by
  unfold ref08_Parts at H
  refine ctr_ofI (N := 58) Try.func41 rfl Try.ntmps41 rfl (Nat.le_of_ble_eq_true rfl) (fun γ0 w0 => ?_)
  refine Tr.seq ?_
  refine Tr.region ?_
  refine TrL.cons rfl (op_box' rfl (bl rfl) rfl rfl rfl (fun b11 => ?_))
  refine TrL.v (v_assign rfl rfl) rfl rfl (bl rfl) ?_
  refine TrL.v (v_assign rfl rfl) rfl rfl (bl rfl) ?_
  refine TrL.nil (qthen_n ?_)
  refine Tr.seq ?_
  refine Tr.region ?_
  refine TrL.v (v_assign rfl rfl) rfl rfl (bl rfl) ?_
  refine TrL.nil (qthen_n ?_)
  refine Tr.seq ?_
  refine Tr.region ?_
  refine TrL.v (v_assign rfl rfl) rfl rfl (bl rfl) ?_
  refine TrL.nil (qthen_n ?_)
  refine Tr.seq ?_
  refine Tr.seq ?_
  refine Tr.region ?_
  refine TrL.v (v_assign rfl rfl) rfl rfl (bl rfl) ?_
  refine TrL.nil (qthen_n ?_)
  obtain ⟨x7, hx13, H⟩ := bnd H
  refine Tr.cutE (D := Int × Int) (M := Unit) .normal (fun _d => x7 = _d) (fun x7 m58 => ⟨[(8, .int .u64 x7.1), (9, .int .u64 x7.2)], [], [], []⟩) ?_ (fun x7 m58 hd8 => ?_)
  · refine Tr.block (Tr.loopI (ι := Unit) (step := ref08_Parts_s0 p1 p2 p3) (fun s17 m46 => ⟨[(1, .int .u64 p2), (2, .int .u64 p3), (3, .pointer (some ⟨b11, 0, none⟩)), (8, .int .u64 s17.1), (9, .int .u64 s17.2.1), (10, .int .i64 s17.2.2)], [cells b11 [.int .i64 p1.1, .int .i64 p1.2.1, .slice A1 p1.2.2.length c1] 28], [slF (rSl rp_u64_u64) A1 c1 p1.2.2], []⟩) (()) hx13 (Imp.re _ [0] [0] (sc rfl (sc rfl (sc rfl (sc rfl (sc rfl (sc rfl sn)))))) (by decide) rfl rfl rfl) (fun s17 m46 y7 hy7 hx14 => ?_))
    unfold ref08_Parts_s0 at hy7
    refine Tr.seq ?_
    refine Tr.seq ?_
    refine Tr.region ?_
    refine TrL.v (v_move rfl rfl) rfl rfl (bl rfl) ?_
    refine TrL.v (v_fieldAddr' rfl fo28_2 rfl rfl) rfl rfl (bl rfl) ?_
    refine TrL.v (v_load (k := 0) rfl rfl rfl ty26 (fun _ => rfl) rfl rfl) rfl rfl (bl rfl) ?_
    refine TrL.v (v_len rfl sl26 rfl) rfl rfl (bl rfl) ?_
    refine TrL.v (v_arith rfl rfl rfl ar_lss) rfl rfl (bl rfl) ?_
    refine TrL.nil (qthen_n ?_)
    rcases ifc hy7 with ⟨h69, hy7⟩ | ⟨h69, hy7⟩
    · refine Tr.cond_t rfl (bt_dec h69) ?_
      refine Tr.skip (qthen_n ?_)
      refine Tr.seq ?_
      refine Tr.block ?_
      refine Tr.seq ?_
      refine Tr.region ?_
      refine TrL.v (v_assign rfl rfl) rfl rfl (bl rfl) ?_
      refine TrL.nil (qthen_n ?_)
      obtain ⟨x8, hx15, hy7⟩ := bnd hy7
      refine Tr.cutE (D := Int × Int) (M := Unit) .normal (fun _d => x8 = _d) (fun x8 m66 => ⟨[(1, .int .u64 p2), (2, .int .u64 p3), (3, .pointer (some ⟨b11, 0, none⟩)), (8, .int .u64 x8.1), (9, .int .u64 x8.2), (10, .int .i64 s17.2.2)], [cells b11 [.int .i64 p1.1, .int .i64 p1.2.1, .slice A1 p1.2.2.length c1] 28], [slF (rSl rp_u64_u64) A1 c1 p1.2.2], []⟩) ?_ (fun x8 m66 hd7 => ?_)
      · refine Tr.block (Tr.loopI (ι := Unit) (step := ref08_Parts_s1 p1 p2 p3 s17) (fun s23 m62 => ⟨[(1, .int .u64 p2), (2, .int .u64 p3), (3, .pointer (some ⟨b11, 0, none⟩)), (8, .int .u64 s23.1), (9, .int .u64 s23.2.1), (10, .int .i64 s17.2.2), (11, .int .i64 s23.2.2)], [cells b11 [.int .i64 p1.1, .int .i64 p1.2.1, .slice A1 p1.2.2.length c1] 28], [slF (rSl rp_u64_u64) A1 c1 p1.2.2], []⟩) (()) hx15 (Imp.re _ [0] [0] (sc rfl (sc rfl (sc rfl (sc rfl (sc rfl (sc rfl (sc rfl sn))))))) (by decide) rfl rfl rfl) (fun s23 m62 y8 hy8 hx16 => ?_))
        unfold ref08_Parts_s1 at hy8
        refine Tr.seq ?_
        refine Tr.seq ?_
        refine Tr.region ?_
        refine TrL.v (v_move rfl rfl) rfl rfl (bl rfl) ?_
        refine TrL.v (v_fieldAddr' rfl fo28_2 rfl rfl) rfl rfl (bl rfl) ?_
        refine TrL.v (v_load (k := 0) rfl rfl rfl ty26 (fun _ => rfl) rfl rfl) rfl rfl (bl rfl) ?_
        refine TrL.v (v_move rfl rfl) rfl rfl (bl rfl) ?_
        obtain ⟨z35, hz35, hy8⟩ := bnd hy8
        refine TrL.v (v_indexAddr (k := 0) rfl sl26 ty38 rfl rfl rfl rfl hz35) rfl rfl (bl rfl) ?_
        refine TrL.openS' (k := 0) rfl hz35 (fun A19 c19 => ?_)
        refine TrL.v (v_loadF (k := 2) rfl ty38 rfl rfl) rfl rfl (bl rfl) ?_
        refine TrL.v (v_len rfl sl38 rfl) rfl rfl (bl rfl) ?_
        refine TrL.v (v_arith rfl rfl rfl ar_lss) rfl rfl (bl rfl) ?_
        refine TrL.nil (qthen_n ?_)
        rcases ifc hy8 with ⟨h80, hy8⟩ | ⟨h80, hy8⟩
        · refine Tr.cond_t rfl (bt_dec h80) ?_
          refine Tr.skip (qthen_n ?_)
          refine Tr.seq ?_
          refine Tr.block ?_
          refine Tr.seq ?_
          refine Tr.region ?_
          refine TrL.v (v_fieldAddr' rfl fo28_2 rfl rfl) rfl rfl (bl rfl) ?_
          refine TrL.v (v_load (k := 0) rfl rfl rfl ty26 (fun _ => rfl) rfl rfl) rfl rfl (bl rfl) ?_
          refine TrL.v (v_move rfl rfl) rfl rfl (bl rfl) ?_
          refine TrL.v (v_indexAddr (k := 0) rfl sl26 ty38 rfl rfl rfl rfl hz35) rfl rfl (bl rfl) ?_
          refine TrL.v (v_loadF (k := 2) rfl ty38 rfl rfl) rfl rfl (bl rfl) ?_
          refine TrL.v (v_move rfl rfl) rfl rfl (bl rfl) ?_
          obtain ⟨z36, hz36, hy8⟩ := bnd hy8
          refine TrL.v (v_indexAddr (k := 1) rfl sl38 ty41 rfl rfl rfl rfl hz36) rfl rfl (bl rfl) ?_
          refine TrL.v (v_loadg (A := A19) (i := s23.2.2) (j := 0) (k := 1) rfl ty41 nofun rfl rfl hz36 rfl rfl) rfl rfl (bl rfl) ?_
          refine TrL.cons rfl (op_alloc' rfl (bl rfl) rfl ze41 (fun b20 => ?_))
          refine TrL.cons rfl (op_store' (k := 0) (c' := [.int .u64 z36.1, .int .u64 z36.2]) rfl rfl rfl rfl rfl ty41 rfl (Nat.le_of_ble_eq_true rfl) (ones (oc rfl (oc rfl on))) rfl ?_)
          refine TrL.nil (qthen_n ?_)
          refine Tr.seq ?_
          refine Tr.region ?_
          refine TrL.v (v_fieldAddr' rfl fo41_0 rfl rfl) rfl rfl (bl rfl) ?_
          refine TrL.v (v_load (k := 0) rfl rfl rfl ty23 (fun _ => rfl) rfl rfl) rfl rfl (bl rfl) ?_
          refine TrL.v (v_move rfl rfl) rfl rfl (bl rfl) ?_
          refine TrL.v (v_move rfl rfl) rfl rfl (bl rfl) ?_
          obtain ⟨r35, hr35, hy8⟩ := bnd hy8
          refine TrL.cons rfl (op_call0' (vs := [.int .u64 z36.1, .int .u64 p2, .int .u64 p3]) (cap := []) [] rfl rfl (bl rfl) rfl rfl en83 (c_ref08_Within z36.1 p2 p3 r35 hr35) rfl (fun ret M' F' hR35 => ?_))
          obtain ⟨rfl, rfl, rfl⟩ := hR35
          refine TrL.nil (qthen_n ?_)
          rcases ifc hy8 with ⟨h81, hy8⟩ | ⟨h81, hy8⟩
          · refine Tr.cond_t rfl h81 ?_
            refine Tr.region ?_
            refine TrL.v (v_move rfl rfl) rfl rfl (bl rfl) ?_
            refine TrL.v (v_move rfl rfl) rfl rfl (bl rfl) ?_
            obtain ⟨h82, hy8⟩ := mst hy8
            refine TrL.v (v_shl' rfl rfl rfl h82 rfl wrap_u64') rfl rfl (bl rfl) ?_
            refine TrL.v (v_arith rfl rfl rfl ar_add_u64) rfl rfl (bl rfl) ?_
            refine TrL.v (v_assign rfl rfl) rfl rfl (bl rfl) ?_
            refine TrL.nil (qblock_n (qthen_n ?_))
            refine Tr.region ?_
            refine TrL.v (v_move rfl rfl) rfl rfl (bl rfl) ?_
            refine TrL.v (v_arith rfl rfl rfl ar_add_i64) rfl rfl (bl rfl) ?_
            refine TrL.v (v_assign rfl rfl) rfl rfl (bl rfl) ?_
            have hz := Option.some.inj hy8
            subst hz
            refine TrL.nil (qloop_n (()) (Imp.re _ [1] [0] (sc rfl (sc rfl (sc rfl (sc rfl (sc rfl (sc rfl (sc rfl sn))))))) (by decide) rfl rfl rfl))
          · refine Tr.cond_f rfl (bf_b h81) ?_
            refine Tr.seq ?_
            refine Tr.region ?_
            refine TrL.v (v_fieldAddr' rfl fo41_1 rfl rfl) rfl rfl (bl rfl) ?_
            refine TrL.v (v_load (k := 0) rfl rfl rfl ty23 (fun _ => rfl) rfl rfl) rfl rfl (bl rfl) ?_
            refine TrL.v (v_move rfl rfl) rfl rfl (bl rfl) ?_
            refine TrL.v (v_move rfl rfl) rfl rfl (bl rfl) ?_
            obtain ⟨r36, hr36, hy8⟩ := bnd hy8
            refine TrL.cons rfl (op_call0' (vs := [.int .u64 z36.2, .int .u64 p2, .int .u64 p3]) (cap := []) [] rfl rfl (bl rfl) rfl rfl en83 (c_ref08_Within z36.2 p2 p3 r36 hr36) rfl (fun ret M' F' hR36 => ?_))
            obtain ⟨rfl, rfl, rfl⟩ := hR36
            refine TrL.nil (qthen_n ?_)
            rcases ifc hy8 with ⟨h83, hy8⟩ | ⟨h83, hy8⟩
            · refine Tr.cond_t rfl h83 ?_
              refine Tr.region ?_
              refine TrL.v (v_move rfl rfl) rfl rfl (bl rfl) ?_
              refine TrL.v (v_move rfl rfl) rfl rfl (bl rfl) ?_
              obtain ⟨h84, hy8⟩ := mst hy8
              refine TrL.v (v_shl' rfl rfl rfl h84 rfl wrap_u64') rfl rfl (bl rfl) ?_
              refine TrL.v (v_arith rfl rfl rfl ar_add_u64) rfl rfl (bl rfl) ?_
              refine TrL.v (v_assign rfl rfl) rfl rfl (bl rfl) ?_
              refine TrL.nil (qblock_n (qthen_n ?_))
              refine Tr.region ?_
              refine TrL.v (v_move rfl rfl) rfl rfl (bl rfl) ?_
              refine TrL.v (v_arith rfl rfl rfl ar_add_i64) rfl rfl (bl rfl) ?_
              refine TrL.v (v_assign rfl rfl) rfl rfl (bl rfl) ?_
              have hz := Option.some.inj hy8
              subst hz
              refine TrL.nil (qloop_n (()) (Imp.re _ [1] [0] (sc rfl (sc rfl (sc rfl (sc rfl (sc rfl (sc rfl (sc rfl sn))))))) (by decide) rfl rfl rfl))
            · refine Tr.cond_f rfl (bf_b h83) ?_
              refine Tr.skip (qblock_n (qthen_n ?_))
              refine Tr.region ?_
              refine TrL.v (v_move rfl rfl) rfl rfl (bl rfl) ?_
              refine TrL.v (v_arith rfl rfl rfl ar_add_i64) rfl rfl (bl rfl) ?_
              refine TrL.v (v_assign rfl rfl) rfl rfl (bl rfl) ?_
              have hz := Option.some.inj hy8
              subst hz
              refine TrL.nil (qloop_n (()) (Imp.re _ [1] [0] (sc rfl (sc rfl (sc rfl (sc rfl (sc rfl (sc rfl (sc rfl sn))))))) (by decide) rfl rfl rfl))
        · refine Tr.cond_f rfl (bf_dec h80) ?_
          have hz := Option.some.inj hy8
          subst hz
          refine Tr.exit (qthen_x (qloop_x (qblock_hit (qcut_hit ((s23.1, s23.2.1)) (()) (hx16 _ rfl).symm (Imp.re _ [0] [0] (sc rfl (sc rfl (sc rfl (sc rfl (sc rfl (sc rfl sn)))))) (by decide) rfl rfl rfl)))))
      · subst hd7
        refine (qblock_n (qthen_n ?_))
        refine Tr.region ?_
        refine TrL.v (v_move rfl rfl) rfl rfl (bl rfl) ?_
        refine TrL.v (v_arith rfl rfl rfl ar_add_i64) rfl rfl (bl rfl) ?_
        refine TrL.v (v_assign rfl rfl) rfl rfl (bl rfl) ?_
        have hz := Option.some.inj hy7
        subst hz
        refine TrL.nil (qloop_n (()) (Imp.re _ [0] [0] (sc rfl (sc rfl (sc rfl (sc rfl (sc rfl (sc rfl sn)))))) (by decide) rfl rfl rfl))
    · refine Tr.cond_f rfl (bf_dec h69) ?_
      have hz := Option.some.inj hy7
      subst hz
      refine Tr.exit (qthen_x (qloop_x (qblock_hit (qcut_hit ((s17.1, s17.2.1)) (()) (hx14 _ rfl).symm (Imp.re _ [] [] (sc rfl (sc rfl sn)) (by decide) rfl rfl rfl)))))
  · subst hd8
    refine (qthen_n ?_)
    refine Tr.seq ?_
    refine Tr.region ?_
    refine TrL.v (v_move rfl rfl) rfl rfl (bl rfl) ?_
    refine TrL.v (v_move rfl rfl) rfl rfl (bl rfl) ?_
    refine TrL.v (v_assign rfl rfl) rfl rfl (bl rfl) ?_
    refine TrL.v (v_assign rfl rfl) rfl rfl (bl rfl) ?_
    refine TrL.nil (qthen_n ?_)
    have hz := Option.some.inj H
    subst hz
    refine Tr.ret (ret_r ⟨[(6, .int .u64 x7.1), (7, .int .u64 x7.2)], [], [], []⟩ [.int .u64 x7.1, .int .u64 x7.2] [] [] (Imp.re _ [] [] (sc rfl (sc rfl sn)) (by decide) rfl rfl rfl) rfl rfl ⟨rfl, rfl, rfl⟩ (.cons (resv_tmp rfl) (.cons (resv_tmp rfl) .nil)))

theorem c_ref08_Of (p1 : Int × Int × List (List (Int × Int))) (p2 : Int) (p3 : Int) (A1 : Option Addr) (c1 : Nat) (r : Int) (H : ref08_Of p1 p2 p3 = some r) :
    Ctr Try.prog 43 [.agg #[.int .i64 p1.1, .int .i64 p1.2.1, .slice A1 p1.2.2.length c1], .int .u64 p2, .int .u64 p3] [] [slF (rSl rp_u64_u64) A1 c1 p1.2.2] (fun ret M' F' => ret = .int .u64 r ∧ M' = [] ∧ F' = []) := by
  unfold ref08_Of at H
  refine ctr_ofI (N := 20) Try.func43 rfl Try.ntmps43 rfl (Nat.le_of_ble_eq_true rfl) (fun γ0 w0 => ?_)
  refine Tr.seq ?_
  refine Tr.region ?_
  refine TrL.cons rfl (op_box' rfl (bl rfl) rfl rfl rfl (fun b2 => ?_))
  refine TrL.v (v_assign rfl rfl) rfl rfl (bl rfl) ?_
  refine TrL.nil (qthen_n ?_)
  refine Tr.seq ?_
  refine Tr.region ?_
  refine TrL.v (v_load (k := 0) rfl rfl rfl ty28 nofun rfl rfl) rfl rfl (bl rfl) ?_
  refine TrL.v (v_move rfl rfl) rfl rfl (bl rfl) ?_
  refine TrL.v (v_move rfl rfl) rfl rfl (bl rfl) ?_
  obtain ⟨r2, hr2, H⟩ := bnd H
  refine TrL.cons rfl (op_call0' (vs := [.agg #[.int .i64 p1.1, .int .i64 p1.2.1, .slice A1 p1.2.2.length c1], .int .u64 p2, .int .u64 p3]) (cap := []) [0] rfl rfl (bl rfl) rfl rfl en41 (c_ref08_Parts p1 p2 p3 A1 c1 r2 hr2) rfl (fun ret M' F' hR2 => ?_))
  obtain ⟨rfl, rfl, rfl⟩ := hR2
  refine TrL.v (v_move rfl rfl) rfl rfl (bl rfl) ?_
  refine TrL.v (v_extract rfl rfl rfl) rfl rfl (bl rfl) ?_
  refine TrL.v (v_extract rfl rfl rfl) rfl rfl (bl rfl) ?_
  refine TrL.v (v_assign rfl rfl) rfl rfl (bl rfl) ?_
  refine TrL.v (v_assign rfl rfl) rfl rfl (bl rfl) ?_
  refine TrL.nil (qthen_n ?_)
  refine Tr.seq ?_
  refine Tr.region ?_
  refine TrL.v (v_move rfl rfl) rfl rfl (bl rfl) ?_
  refine TrL.v (v_move rfl rfl) rfl rfl (bl rfl) ?_
  refine TrL.v (v_quo' rfl rfl rfl (by decide) wrap_u64') rfl rfl (bl rfl) ?_
  refine TrL.v (v_arith rfl rfl rfl ar_add_u64) rfl rfl (bl rfl) ?_
  refine TrL.v (v_assign rfl rfl) rfl rfl (bl rfl) ?_
  refine TrL.nil (qthen_n ?_)
  have hz := Option.some.inj H
  subst hz
  refine Tr.ret (ret_r ⟨[(6, .int .u64 (wu64 (r2.1 + (wu64 (r2.2.tdiv 2)))))], [], [], []⟩ [.int .u64 (wu64 (r2.1 + (wu64 (r2.2.tdiv 2))))] [] [] (Imp.re _ [] [] (sc rfl sn) (by decide) rfl rfl rfl) rfl rfl ⟨rfl, rfl, rfl⟩ (.cons (resv_tmp rfl) .nil))

theorem c_ref08_Exact (p1 : Int) (p2 : List (Int × Int)) (p3 : Int) (p4 : Int) (A1 : Option Addr) (c1 : Nat) (r : Int) (H : ref08_Exact p1 p2 p3 p4 = some r) :
    Ctr Try.prog 44 [.int .i64 p1, .slice A1 p2.length c1, .int .u64 p3, .int .u64 p4] [] [slF rp_u64_u64 A1 c1 p2] (fun ret M' F' => ret = .int .u64 r ∧ M' = [] ∧ F' = []) := by
  unfold ref08_Exact at H
  refine ctr_ofI (N := 64) Try.func44 rfl Try.ntmps44 rfl (Nat.le_of_ble_eq_true rfl) (fun γ0 w0 => ?_)
  refine Tr.seq ?_
  refine Tr.region ?_
  refine TrL.v (v_assign rfl rfl) rfl rfl (bl rfl) ?_
  refine TrL.nil (qthen_n ?_)
  refine Tr.seq ?_
  refine Tr.region ?_
  refine TrL.v (v_move rfl rfl) rfl rfl (bl rfl) ?_
  refine TrL.v (v_max rfl rfl rfl) rfl rfl (bl rfl) ?_
  refine TrL.v (v_rem rfl rfl rfl (by decide)) rfl rfl (bl rfl) ?_
  refine TrL.v (v_arith rfl rfl rfl ar_add_i64) rfl rfl (bl rfl) ?_
  refine TrL.v (v_build (vs := [.int .i64 (wi64 (2 + ((max p1 0).tmod 30)))]) (out := [.int .i64 (wi64 (2 + ((max p1 0).tmod 30))), .int .i64 0, .slice none 0 0]) rfl pl28 ze28 rfl rfl) rfl rfl (bl rfl) ?_
  refine TrL.cons rfl (op_alloc' rfl (bl rfl) rfl ze28 (fun b17 => ?_))
  refine TrL.cons rfl (op_store' (k := 0) (c' := [.int .i64 (wi64 (2 + ((max p1 0).tmod 30))), .int .i64 0, .slice none 0 0]) rfl rfl rfl rfl rfl ty28 rfl (Nat.le_of_ble_eq_true rfl) (ones (oc rfl (oc rfl (oc rfl on)))) rfl ?_)
  refine TrL.nil (qthen_n ?_)
  refine Tr.seq ?_
  refine Tr.region ?_
  refine TrL.v (v_assign rfl rfl) rfl rfl (bl rfl) ?_
  refine TrL.nil (qthen_n ?_)
  refine Tr.seq ?_
  refine Tr.region ?_
  refine TrL.v (v_assign rfl rfl) rfl rfl (bl rfl) ?_
  refine TrL.nil (qthen_n ?_)
  refine Tr.seq ?_
  refine Tr.seq ?_
  refine Tr.region ?_
  refine TrL.v (v_assign rfl rfl) rfl rfl (bl rfl) ?_
  refine TrL.nil (qthen_n ?_)
  obtain ⟨x2, hx3, H⟩ := bnd H
  refine Tr.cutE (D := Int) (M := Unit) .normal (fun _d => x2 = _d) (fun x2 m43 => ⟨[(11, .int .u64 x2)], [], [], []⟩) ?_ (fun x2 m43 hd2 => ?_)
  · refine Tr.block (Tr.loopI (ι := Option Addr × Nat) (step := ref08_Exact_s0 p2 p3 p4) (fun s5 m34 => ⟨[(1, .slice A1 p2.length c1), (2, .int .u64 p3), (3, .int .u64 p4), (9, .pointer (some ⟨b17, 0, none⟩)), (10, .int .u64 s5.1), (11, .int .u64 s5.2.1), (12, .int .i64 s5.2.2.1)], [cells b17 [.int .i64 s5.2.2.2.1, .int .i64 s5.2.2.2.2.1, .slice m34.1 s5.2.2.2.2.2.length m34.2] 28], [slF rp_u64_u64 A1 c1 p2, slF (rSl rp_u64_u64) m34.1 m34.2 s5.2.2.2.2.2], []⟩) ((none, 0)) hx3 (Imp.addF' _ (nilF (rSl rp_u64_u64)) (Imp.re _ [0] [0, 1] (sc rfl (sc rfl (sc rfl (sc rfl (sc rfl (sc rfl (sc rfl sn))))))) (by decide) rfl rfl rfl)) (fun s5 m34 y2 hy2 hx4 => ?_))
    unfold ref08_Exact_s0 at hy2
    refine Tr.seq ?_
    refine Tr.seq ?_
    refine Tr.region ?_
    refine TrL.v (v_move rfl rfl) rfl rfl (bl rfl) ?_
    refine TrL.v (v_move rfl rfl) rfl rfl (bl rfl) ?_
    refine TrL.v (v_len rfl sl22 rfl) rfl rfl (bl rfl) ?_
    refine TrL.v (v_arith rfl rfl rfl ar_lss) rfl rfl (bl rfl) ?_
    refine TrL.v (v_move rfl rfl) rfl rfl (bl rfl) ?_
    rcases ifc hy2 with ⟨h25, hy2⟩ | ⟨h25, hy2⟩
    · refine TrL.cons_yes rfl rfl rfl (bt_dec h25) (OpTr.v (v_move rfl rfl) rfl (bl rfl) ?_)
      refine TrL.cons_yes rfl rfl rfl (bt_dec h25) (OpTr.v (v_arith rfl rfl rfl ar_lss) rfl (bl rfl) ?_)
      refine TrL.v (v_pick_t rfl rfl (bt_dec h25) rfl) rfl rfl (bl rfl) ?_
      refine TrL.nil (qthen_n ?_)
      rcases ifc hy2 with ⟨h26, hy2⟩ | ⟨h26, hy2⟩
      · refine Tr.cond_t rfl (bt_dec h26) ?_
        refine Tr.skip (qthen_n ?_)
        refine Tr.seq ?_
        refine Tr.block ?_
        refine Tr.seq ?_
        refine Tr.region ?_
        refine TrL.v (v_move rfl rfl) rfl rfl (bl rfl) ?_
        refine TrL.v (v_move rfl rfl) rfl rfl (bl rfl) ?_
        refine TrL.v (v_move rfl rfl) rfl rfl (bl rfl) ?_
        obtain ⟨z6, hz6, hy2⟩ := bnd hy2
        refine TrL.v (v_indexAddr (k := 0) rfl sl22 ty80 rfl rfl rfl rfl hz6) rfl rfl (bl rfl) ?_
        refine TrL.v (v_fieldAddr rfl fo80_0 rfl) rfl rfl (bl rfl) ?_
        refine TrL.v (v_loadg (A := A1) (i := s5.2.2.1) (j := 0) (k := 0) rfl ty23 (fun _ => rfl) rfl rfl hz6 rfl rfl) rfl rfl (bl rfl) ?_
        refine TrL.v (v_rem rfl rfl rfl (by decide)) rfl rfl (bl rfl) ?_
        refine TrL.v (v_arith rfl rfl rfl ar_add_u64) rfl rfl (bl rfl) ?_
        refine TrL.v (v_assign rfl rfl) rfl rfl (bl rfl) ?_
        refine TrL.nil (qthen_n ?_)
        refine Tr.seq ?_
        refine Tr.regionD drawn (fun hok => ?_)
        obtain ⟨r11, hr11, hy2⟩ := bnd hy2
        refine TrAny.cut (ι := Nat × Option Addr × Nat) (fun m47 => ⟨[(1, .slice A1 p2.length c1), (2, .int .u64 p3), (3, .int .u64 p4), (9, .pointer (some ⟨b17, 0, none⟩)), (10, .int .u64 (wu64 (s5.1 + (z6.1.tmod 1000)))), (11, .int .u64 s5.2.1), (12, .int .i64 s5.2.2.1), (13, .pointer (some ⟨m47.1, 0, none⟩)), (14, .int .i64 r11.2.2.2), (25, .int .i64 s5.2.2.1), (26, .bool (decide (s5.2.2.1 < 30)))], [cells b17 [.int .i64 s5.2.2.2.1, .int .i64 s5.2.2.2.2.1, .slice m34.1 s5.2.2.2.2.2.length m34.2] 28, cells m47.1 [.int .i64 r11.1, .int .i64 r11.2.1, .slice m47.2.1 r11.2.2.1.length m47.2.2] 28], [slF rp_u64_u64 A1 c1 p2, slF (rSl rp_u64_u64) m34.1 m34.2 s5.2.2.2.2.2, slF (rSl rp_u64_u64) m47.2.1 m47.2.2 r11.2.2.1], []⟩) ?_ (fun m47 => ?_)
        · refine TrAny.prom (i := 0) (d := 39) hok (OpVal.plain rfl rfl (v_load (k := 0) rfl rfl rfl ty28 nofun rfl rfl)) (by kernel_rfl) rfl (bl rfl) ?_
          clear hok
          intro hok
          refine TrAny.prom (i := 1) (d := 40) hok (OpVal.plain rfl rfl (v_move rfl rfl)) (by kernel_rfl) rfl (bl rfl) ?_
          clear hok
          intro hok
          refine TrAny.prom (i := 2) (d := 41) hok (OpVal.plain rfl rfl (v_move rfl rfl)) (by kernel_rfl) rfl (bl rfl) ?_
          clear hok
          intro hok
          refine TrAny.prom (i := 3) (d := 42) hok (OpVal.plain rfl rfl (v_move rfl rfl)) (by kernel_rfl) rfl (bl rfl) ?_
          clear hok
          intro hok
          refine TrAny.prom (i := 4) (d := 43) hok (OpVal.plain rfl rfl (v_indexAddr (k := 0) rfl sl22 ty80 rfl rfl rfl rfl hz6)) (by kernel_rfl) rfl (bl rfl) ?_
          clear hok
          intro hok
          refine TrAny.prom (i := 5) (d := 44) hok (OpVal.plain rfl rfl (v_fieldAddr rfl fo80_1 rfl)) (by kernel_rfl) rfl (bl rfl) ?_
          clear hok
          intro hok
          refine TrAny.prom (i := 6) (d := 45) hok (OpVal.plain rfl rfl (v_loadg (A := A1) (i := s5.2.2.1) (j := 1) (k := 0) rfl ty23 (fun _ => rfl) rfl rfl hz6 rfl rfl)) (by kernel_rfl) rfl (bl rfl) ?_
          clear hok
          intro hok
          refine TrAny.fork [7, 11] (by kernel_rfl) hok ⟨7, by decide, bl rfl⟩ (by kernel_rfl) (.cons ?_ (.cons ?_ .nil))
          · refine step_n rfl (by kernel_rfl) rfl (op_call0' (vs := [.agg #[.int .i64 s5.2.2.2.1, .int .i64 s5.2.2.2.2.1, .slice m34.1 s5.2.2.2.2.2.length m34.2], .int .u64 (wu64 (s5.1 + (z6.1.tmod 1000))), .int .u64 z6.2]) (cap := []) [1] rfl rfl (bl rfl) rfl rfl en67 (c_ref06_Add s5.2.2.2 (wu64 (s5.1 + (z6.1.tmod 1000))) z6.2 m34.1 m34.2 r11 hr11) rfl (fun ret M' F' hR34 => ?_))
            obtain ⟨m48, rfl, rfl, rfl⟩ := hR34
            refine nxp hok (kp_imp (kp_c0 rfl)) rfl (by kernel_rfl) ?_
            clear hok
            intro hok
            refine TrAny.prom (i := 8) (d := 38) hok (OpVal.plain rfl rfl (v_move rfl rfl)) (by kernel_rfl) rfl (bl rfl) ?_
            clear hok
            intro hok
            refine TrAny.prom (i := 9) (d := 47) hok (OpVal.plain rfl rfl (v_extract rfl rfl rfl)) (by kernel_rfl) rfl (bl rfl) ?_
            clear hok
            intro hok
            refine TrAny.prom (i := 10) (d := 48) hok (OpVal.plain rfl rfl (v_extract rfl rfl rfl)) (by kernel_rfl) rfl (bl rfl) ?_
            clear hok
            intro hok
            refine TrAny.prom (i := 13) (d := 14) hok (OpVal.plain rfl rfl (v_assign rfl rfl)) (by kernel_rfl) rfl (bl rfl) ?_
            clear hok
            intro hok
            refine TrAny.next (j := 11) (by kernel_rfl) hok rfl (by kernel_rfl) (op_alloc' rfl (bl rfl) rfl ze28 (fun b31 => ?_))
            refine nxp hok (kp_imp (kp_cm rfl)) rfl (by kernel_rfl) ?_
            clear hok
            intro hok
            refine TrAny.next (j := 12) (by kernel_rfl) hok rfl (by kernel_rfl) (op_store' (k := 0) (c' := [.int .i64 r11.1, .int .i64 r11.2.1, .slice m48.1 r11.2.2.1.length m48.2]) rfl rfl rfl rfl rfl ty28 rfl (Nat.le_of_ble_eq_true rfl) (ones (oc rfl (oc rfl (oc rfl on)))) rfl ?_)
            refine nxs hok (kp_all (ac (.inl (by kernel_rfl)) (ac (.inl (by kernel_rfl)) (ac (.inl (by kernel_rfl)) (ac (.inl (by kernel_rfl)) (ac (.inl (by kernel_rfl)) (ac (.inl (by kernel_rfl)) (ac (.inl (by kernel_rfl)) (ac (.inl (by kernel_rfl)) (ac (.inl (by kernel_rfl)) (ac (.inr (OpVal.plain rfl rfl (v_extract rfl rfl rfl))) (ac (.inr (OpVal.plain rfl rfl (v_assign rfl rfl))) an)))))))))))) rfl ?_
            clear hok
            intro hok
            refine TrAny.done (by kernel_rfl) (by kernel_rfl) hok (by kernel_rfl) (⟨(b31, m48.1, m48.2), Imp.re _ [1, 0] [0, 1, 2] (sc rfl (sc rfl (sc rfl (sc rfl (sc rfl (sc rfl (sc rfl (sc rfl (sc rfl (sc rfl (sc rfl sn))))))))))) (by decide) rfl rfl rfl⟩)
          · refine step_n rfl (by kernel_rfl) rfl (op_alloc' rfl (bl rfl) rfl ze28 (fun b32 => ?_))
            refine nxp hok (kp_imp (kp_cm rfl)) rfl (by kernel_rfl) ?_
            clear hok
            intro hok
            refine TrAny.next (j := 7) (by kernel_rfl) hok rfl (by kernel_rfl) (op_call0' (vs := [.agg #[.int .i64 s5.2.2.2.1, .int .i64 s5.2.2.2.2.1, .slice m34.1 s5.2.2.2.2.2.length m34.2], .int .u64 (wu64 (s5.1 + (z6.1.tmod 1000))), .int .u64 z6.2]) (cap := []) [1] rfl rfl (bl rfl) rfl rfl en67 (c_ref06_Add s5.2.2.2 (wu64 (s5.1 + (z6.1.tmod 1000))) z6.2 m34.1 m34.2 r11 hr11) rfl (fun ret M' F' hR35 => ?_))
            obtain ⟨m49, rfl, rfl, rfl⟩ := hR35
            refine nxp hok (kp_imp (kp_c0 rfl)) rfl (by kernel_rfl) ?_
            clear hok
            intro hok
            refine TrAny.prom (i := 8) (d := 38) hok (OpVal.plain rfl rfl (v_move rfl rfl)) (by kernel_rfl) rfl (bl rfl) ?_
            clear hok
            intro hok
            refine TrAny.prom (i := 9) (d := 47) hok (OpVal.plain rfl rfl (v_extract rfl rfl rfl)) (by kernel_rfl) rfl (bl rfl) ?_
            clear hok
            intro hok
            refine TrAny.prom (i := 10) (d := 48) hok (OpVal.plain rfl rfl (v_extract rfl rfl rfl)) (by kernel_rfl) rfl (bl rfl) ?_
            clear hok
            intro hok
            refine TrAny.prom (i := 13) (d := 14) hok (OpVal.plain rfl rfl (v_assign rfl rfl)) (by kernel_rfl) rfl (bl rfl) ?_
            clear hok
            intro hok
            refine TrAny.next (j := 12) (by kernel_rfl) hok rfl (by kernel_rfl) (op_store' (k := 0) (c' := [.int .i64 r11.1, .int .i64 r11.2.1, .slice m49.1 r11.2.2.1.length m49.2]) rfl rfl rfl rfl rfl ty28 rfl (Nat.le_of_ble_eq_true rfl) (ones (oc rfl (oc rfl (oc rfl on)))) rfl ?_)
            refine nxs hok (kp_all (ac (.inl (by kernel_rfl)) (ac (.inl (by kernel_rfl)) (ac (.inl (by kernel_rfl)) (ac (.inl (by kernel_rfl)) (ac (.inl (by kernel_rfl)) (ac (.inl (by kernel_rfl)) (ac (.inl (by kernel_rfl)) (ac (.inl (by kernel_rfl)) (ac (.inl (by kernel_rfl)) (ac (.inr (OpVal.plain rfl rfl (v_extract rfl rfl rfl))) (ac (.inr (OpVal.plain rfl rfl (v_assign rfl rfl))) an)))))))))))) rfl ?_
            clear hok
            intro hok
            refine TrAny.done (by kernel_rfl) (by kernel_rfl) hok (by kernel_rfl) (⟨(b32, m49.1, m49.2), Imp.re _ [1, 0] [0, 1, 2] (sc rfl (sc rfl (sc rfl (sc rfl (sc rfl (sc rfl (sc rfl (sc rfl (sc rfl (sc rfl (sc rfl sn))))))))))) (by decide) rfl rfl rfl⟩)
        · refine (qthen_n ?_)
          refine Tr.seq ?_
          refine Tr.region ?_
          refine TrL.v (v_move rfl rfl) rfl rfl (bl rfl) ?_
          refine TrL.v (v_arith rfl rfl rfl ar_eql) rfl rfl (bl rfl) ?_
          refine TrL.nil (qthen_n ?_)
          rcases ifc hy2 with ⟨h27, hy2⟩ | ⟨h27, hy2⟩
          · refine Tr.cond_t rfl (bt_dec h27) ?_
            refine Tr.seq ?_
            refine Tr.region ?_
            refine TrL.v (v_load (k := 1) rfl rfl rfl ty28 nofun rfl rfl) rfl rfl (bl rfl) ?_
            refine TrL.cons rfl (op_store' (k := 0) (c' := [.int .i64 r11.1, .int .i64 r11.2.1, .slice m47.2.1 r11.2.2.1.length m47.2.2]) rfl rfl rfl rfl rfl ty28 rfl (Nat.le_of_ble_eq_true rfl) (ones (oc rfl (oc rfl (oc rfl on)))) rfl ?_)
            refine TrL.nil (qthen_n ?_)
            refine Tr.seq ?_
            refine Tr.region ?_
            refine TrL.v (v_move rfl rfl) rfl rfl (bl rfl) ?_
            refine TrL.v (v_move rfl rfl) rfl rfl (bl rfl) ?_
            refine TrL.v (v_move rfl rfl) rfl rfl (bl rfl) ?_
            obtain ⟨r12, hr12, hy2⟩ := bnd hy2
            refine TrL.cons rfl (op_call0' (vs := [.int .u64 (wu64 (s5.1 + (z6.1.tmod 1000))), .int .u64 p3, .int .u64 p4]) (cap := []) [] rfl rfl (bl rfl) rfl rfl en83 (c_ref08_Within (wu64 (s5.1 + (z6.1.tmod 1000))) p3 p4 r12 hr12) rfl (fun ret M' F' hR36 => ?_))
            obtain ⟨rfl, rfl, rfl⟩ := hR36
            refine TrL.nil (qthen_n ?_)
            rcases ifc hy2 with ⟨h28, hy2⟩ | ⟨h28, hy2⟩
            · refine Tr.cond_t rfl h28 ?_
              refine Tr.region ?_
              refine TrL.v (v_move rfl rfl) rfl rfl (bl rfl) ?_
              refine TrL.v (v_move rfl rfl) rfl rfl (bl rfl) ?_
              refine TrL.v (v_move rfl rfl) rfl rfl (bl rfl) ?_
              refine TrL.v (v_indexAddr (k := 0) rfl sl22 ty80 rfl rfl rfl rfl hz6) rfl rfl (bl rfl) ?_
              refine TrL.v (v_fieldAddr rfl fo80_1 rfl) rfl rfl (bl rfl) ?_
              refine TrL.v (v_loadg (A := A1) (i := s5.2.2.1) (j := 1) (k := 0) rfl ty23 (fun _ => rfl) rfl rfl hz6 rfl rfl) rfl rfl (bl rfl) ?_
              refine TrL.v (v_arith rfl rfl rfl ar_add_u64) rfl rfl (bl rfl) ?_
              refine TrL.v (v_assign rfl rfl) rfl rfl (bl rfl) ?_
              refine TrL.nil (qblock_n (qthen_n ?_))
              refine Tr.region ?_
              refine TrL.v (v_move rfl rfl) rfl rfl (bl rfl) ?_
              refine TrL.v (v_arith rfl rfl rfl ar_add_i64) rfl rfl (bl rfl) ?_
              refine TrL.v (v_assign rfl rfl) rfl rfl (bl rfl) ?_
              have hz := Option.some.inj hy2
              subst hz
              refine TrL.nil (qloop_n ((m47.2.1, m47.2.2)) (Imp.re _ [0] [0, 2] (sc rfl (sc rfl (sc rfl (sc rfl (sc rfl (sc rfl (sc rfl sn))))))) (by decide) rfl rfl rfl))
            · refine Tr.cond_f rfl (bf_b h28) ?_
              refine Tr.skip (qblock_n (qthen_n ?_))
              refine Tr.region ?_
              refine TrL.v (v_move rfl rfl) rfl rfl (bl rfl) ?_
              refine TrL.v (v_arith rfl rfl rfl ar_add_i64) rfl rfl (bl rfl) ?_
              refine TrL.v (v_assign rfl rfl) rfl rfl (bl rfl) ?_
              have hz := Option.some.inj hy2
              subst hz
              refine TrL.nil (qloop_n ((m47.2.1, m47.2.2)) (Imp.re _ [0] [0, 2] (sc rfl (sc rfl (sc rfl (sc rfl (sc rfl (sc rfl (sc rfl sn))))))) (by decide) rfl rfl rfl))
          · refine Tr.cond_f rfl (bf_dec h27) ?_
            refine Tr.skip (qblock_n (qthen_n ?_))
            refine Tr.region ?_
            refine TrL.v (v_move rfl rfl) rfl rfl (bl rfl) ?_
            refine TrL.v (v_arith rfl rfl rfl ar_add_i64) rfl rfl (bl rfl) ?_
            refine TrL.v (v_assign rfl rfl) rfl rfl (bl rfl) ?_
            have hz := Option.some.inj hy2
            subst hz
            refine TrL.nil (qloop_n ((m34.1, m34.2)) (Imp.re _ [0] [0, 1] (sc rfl (sc rfl (sc rfl (sc rfl (sc rfl (sc rfl (sc rfl sn))))))) (by decide) rfl rfl rfl))
      · refine Tr.cond_f rfl (bf_dec h26) ?_
        have hz := Option.some.inj hy2
        subst hz
        refine Tr.exit (qthen_x (qloop_x (qblock_hit (qcut_hit s5.2.1 (()) (hx4 _ rfl).symm (Imp.re _ [] [] (sc rfl sn) (by decide) rfl rfl rfl)))))
    · refine TrL.cons_no rfl rfl rfl (gn_t (bf_dec h25)) rfl (bl rfl) ?_
      refine TrL.cons_no rfl rfl rfl (gn_t (bf_dec h25)) rfl (bl rfl) ?_
      refine TrL.v (v_pick_f rfl rfl (bf_dec h25) rfl) rfl rfl (bl rfl) ?_
      refine TrL.nil (qthen_n ?_)
      refine Tr.cond_f rfl rfl ?_
      have hz := Option.some.inj hy2
      subst hz
      refine Tr.exit (qthen_x (qloop_x (qblock_hit (qcut_hit s5.2.1 (()) (hx4 _ rfl).symm (Imp.re _ [] [] (sc rfl sn) (by decide) rfl rfl rfl)))))
  · subst hd2
    refine (qthen_n ?_)
    refine Tr.seq ?_
    refine Tr.region ?_
    refine TrL.v (v_move rfl rfl) rfl rfl (bl rfl) ?_
    refine TrL.v (v_assign rfl rfl) rfl rfl (bl rfl) ?_
    refine TrL.nil (qthen_n ?_)
    have hz := Option.some.inj H
    subst hz
    refine Tr.ret (ret_r ⟨[(8, .int .u64 x2)], [], [], []⟩ [.int .u64 x2] [] [] (Imp.re _ [] [] (sc rfl sn) (by decide) rfl rfl rfl) rfl rfl ⟨rfl, rfl, rfl⟩ (.cons (resv_tmp rfl) .nil))
end Go.Proofs.Ytbnjjpmlaknaoaa.W
