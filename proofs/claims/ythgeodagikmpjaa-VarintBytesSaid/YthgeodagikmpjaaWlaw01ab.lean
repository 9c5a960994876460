/- The contracts of the walked functions: the printed walks. -/
import Derived.Test.YthgeodagikmpjaaKb
import Derived.Test.YthgeodagikmpjaaQb
import Derived.Test.YthgeodagikmpjaaWvarintab
namespace Go.Proofs.Ythgeodagikmpjaa.W
open Go Go.Proofs Go.Proofs.Ythgeodagikmpjaa.L Go.Proofs.Ythgeodagikmpjaa.Pu
set_option linter.unusedVariables false
set_option maxHeartbeats 4000000

theorem c_law01_awake (r : Bool) (H : law01_awake = some r) :
    Ctr Try.prog 19 [] [] [] (fun ret M' F' => ret = .bool r ∧ M' = [] ∧ F' = []) := by
  unfold law01_awake at H
  refine ctr_ofI (N := 53) Try.func19 rfl Try.ntmps19 rfl (Nat.le_of_ble_eq_true rfl) (fun γ0 w0 => ?_)
  refine Tr.seq ?_
  refine Tr.region ?_
  refine TrL.v (v_assign rfl rfl) rfl rfl (bl rfl) ?_
  refine TrL.nil (qthen_n ?_)
  refine Tr.seq ?_
  refine Tr.region ?_
  refine TrL.cons rfl (op_buildSlice' (rp := (rInt .u8)) (xs := [(172 : Int), (2 : Int), (9 : Int)]) (vs := [.int .u8 172, .int .u8 2, .int .u8 9]) (out := [.int .u8 172, .int .u8 2, .int .u8 9]) rfl (bl rfl) rfl sl23 ty5 ze5 rfl rfl (by decide) (by decide) rfl (fun γ w hF => (rowc rfl (rowc rfl (rowc rfl rown rfl) rfl) rfl)) (fun A54 => ?_))
  obtain ⟨r6, hr6, H⟩ := bnd H
  refine TrL.cons rfl (op_call0' (vs := [.slice A54 3 3]) (cap := []) [0] rfl rfl (bl rfl) rfl rfl en20 (c_varint_Take ([(172 : Int), (2 : Int), (9 : Int)]) A54 3 r6 hr6) rfl (fun ret M' F' hR54 => ?_))
  obtain ⟨rfl, rfl, rfl⟩ := hR54
  refine TrL.v (v_move rfl rfl) rfl rfl (bl rfl) ?_
  refine TrL.v (v_extract rfl rfl rfl) rfl rfl (bl rfl) ?_
  refine TrL.v (v_extract rfl rfl rfl) rfl rfl (bl rfl) ?_
  refine TrL.v (v_extract rfl rfl rfl) rfl rfl (bl rfl) ?_
  refine TrL.v (v_assign rfl rfl) rfl rfl (bl rfl) ?_
  refine TrL.v (v_assign rfl rfl) rfl rfl (bl rfl) ?_
  refine TrL.v (v_assign rfl rfl) rfl rfl (bl rfl) ?_
  refine TrL.nil (qthen_n ?_)
  refine Tr.seq ?_
  refine Tr.region ?_
  refine TrL.cons rfl (op_buildSlice' (rp := (rInt .u8)) (xs := [(128 : Int), (0 : Int)]) (vs := [.int .u8 128, .int .u8 0]) (out := [.int .u8 128, .int .u8 0]) rfl (bl rfl) rfl sl23 ty5 ze5 rfl rfl (by decide) (by decide) rfl (fun γ w hF => (rowc rfl (rowc rfl rown rfl) rfl)) (fun A55 => ?_))
  obtain ⟨r7, hr7, H⟩ := bnd H
  refine TrL.cons rfl (op_call0' (vs := [.slice A55 2 2]) (cap := []) [1] rfl rfl (bl rfl) rfl rfl en20 (c_varint_Take ([(128 : Int), (0 : Int)]) A55 2 r7 hr7) rfl (fun ret M' F' hR55 => ?_))
  obtain ⟨rfl, rfl, rfl⟩ := hR55
  refine TrL.v (v_move rfl rfl) rfl rfl (bl rfl) ?_
  refine TrL.v (v_extract rfl rfl rfl) rfl rfl (bl rfl) ?_
  refine TrL.v (v_extract rfl rfl rfl) rfl rfl (bl rfl) ?_
  refine TrL.v (v_extract rfl rfl rfl) rfl rfl (bl rfl) ?_
  refine TrL.v (v_assign rfl rfl) rfl rfl (bl rfl) ?_
  refine TrL.v (v_assign rfl rfl) rfl rfl (bl rfl) ?_
  refine TrL.v (v_assign rfl rfl) rfl rfl (bl rfl) ?_
  refine TrL.nil (qthen_n ?_)
  refine Tr.seq ?_
  refine Tr.region ?_
  refine TrL.cons rfl (op_buildSlice' (rp := (rInt .u8)) (xs := [(128 : Int)]) (vs := [.int .u8 128]) (out := [.int .u8 128]) rfl (bl rfl) rfl sl23 ty5 ze5 rfl rfl (by decide) (by decide) rfl (fun γ w hF => (rowc rfl rown rfl)) (fun A56 => ?_))
  obtain ⟨r8, hr8, H⟩ := bnd H
  refine TrL.cons rfl (op_call0' (vs := [.slice A56 1 1]) (cap := []) [2] rfl rfl (bl rfl) rfl rfl en20 (c_varint_Take ([(128 : Int)]) A56 1 r8 hr8) rfl (fun ret M' F' hR56 => ?_))
  obtain ⟨rfl, rfl, rfl⟩ := hR56
  refine TrL.v (v_move rfl rfl) rfl rfl (bl rfl) ?_
  refine TrL.v (v_extract rfl rfl rfl) rfl rfl (bl rfl) ?_
  refine TrL.v (v_extract rfl rfl rfl) rfl rfl (bl rfl) ?_
  refine TrL.v (v_extract rfl rfl rfl) rfl rfl (bl rfl) ?_
  refine TrL.v (v_assign rfl rfl) rfl rfl (bl rfl) ?_
  refine TrL.v (v_assign rfl rfl) rfl rfl (bl rfl) ?_
  refine TrL.v (v_assign rfl rfl) rfl rfl (bl rfl) ?_
  refine TrL.nil (qthen_n ?_)
  refine Tr.seq ?_
  refine Tr.re ⟨[(1, .int .u64 r6.1), (2, .int .i64 r6.2.1), (3, .int .i64 r6.2.2), (4, .int .u64 r7.1), (5, .int .i64 r7.2.1), (6, .int .i64 r7.2.2), (7, .int .u64 r8.1), (8, .int .i64 r8.2.1), (9, .int .i64 r8.2.2), (10, .tuple #[.int .u64 r6.1, .int .i64 r6.2.1, .int .i64 r6.2.2]), (11, .slice A54 3 3), (12, .tuple #[.int .u64 r6.1, .int .i64 r6.2.1, .int .i64 r6.2.2]), (13, .int .u64 r6.1), (14, .int .i64 r6.2.1), (15, .int .i64 r6.2.2), (16, .tuple #[.int .u64 r7.1, .int .i64 r7.2.1, .int .i64 r7.2.2]), (17, .slice A55 2 2), (18, .tuple #[.int .u64 r7.1, .int .i64 r7.2.1, .int .i64 r7.2.2]), (19, .int .u64 r7.1), (20, .int .i64 r7.2.1), (21, .int .i64 r7.2.2), (22, .tuple #[.int .u64 r8.1, .int .i64 r8.2.1, .int .i64 r8.2.2]), (23, .slice A56 1 1), (24, .tuple #[.int .u64 r8.1, .int .i64 r8.2.1, .int .i64 r8.2.2]), (25, .int .u64 r8.1), (26, .int .i64 r8.2.1), (27, .int .i64 r8.2.2)], [], [slF (rInt .u8) A54 3 ([(172 : Int), (2 : Int), (9 : Int)]), slF (rInt .u8) A55 2 ([(128 : Int), (0 : Int)]), slF (rInt .u8) A56 1 ([(128 : Int)])], []⟩ [] [0, 1, 2] (sc rfl (sc rfl (sc rfl (sc rfl (sc rfl (sc rfl (sc rfl (sc rfl (sc rfl (sc rfl (sc rfl (sc rfl (sc rfl (sc rfl (sc rfl (sc rfl (sc rfl (sc rfl (sc rfl (sc rfl (sc rfl (sc rfl (sc rfl (sc rfl (sc rfl (sc rfl (sc rfl sn))))))))))))))))))))))))))) (by decide) rfl rfl rfl ?_
  refine Tr.regionD drawn (fun hok => ?_)
  obtain ⟨r10, hr10, H⟩ := bnd H
  rcases ifc H with ⟨h16, H⟩ | ⟨h16, H⟩
  · rcases ifc H with ⟨h17, H⟩ | ⟨h17, H⟩
    · rcases ifc H with ⟨h18, H⟩ | ⟨h18, H⟩
      · rcases ifc H with ⟨h19, H⟩ | ⟨h19, H⟩
        · rcases ifc H with ⟨h20, H⟩ | ⟨h20, H⟩
          · refine TrAny.cut (ι := Unit) (fun m103 => ⟨[(0, .bool (decide (r8.2.2 = 3)))], [], [], []⟩) ?_ (fun m103 => ?_)
            · refine TrAny.fork [0, 2] (by kernel_rfl) hok ⟨0, by decide, bl rfl⟩ (by kernel_rfl) (.cons ?_ (.cons ?_ .nil))
              · refine step_n rfl (by kernel_rfl) rfl (op_call0' (vs := [.int .u64 300]) (cap := []) [] rfl rfl (bl rfl) rfl rfl en22 (c_varint_Put ((300 : Int)) r10 hr10) rfl (fun ret M' F' hR85 => ?_))
                obtain ⟨m104, rfl, rfl, rfl⟩ := hR85
                refine nxp hok (kp_aw (by kernel_rfl)) rfl (by kernel_rfl) ?_
                clear hok
                intro hok
                refine TrAny.prom (i := 1) (d := 29) hok (OpVal.plain rfl rfl (v_bstr (k := 3) rfl Try.underlying23 Try.underlying5 Try.underlying9 rfl rfl rfl)) (by kernel_rfl) rfl (bl rfl) ?_
                clear hok
                intro hok
                refine TrAny.next (j := 2) (by kernel_rfl) hok rfl (by kernel_rfl) (op_buildSlice' (rp := (rInt .u8)) (xs := [(172 : Int), (2 : Int)]) (vs := [.int .u8 172, .int .u8 2]) (out := [.int .u8 172, .int .u8 2]) rfl (bl rfl) rfl sl23 ty5 ze5 rfl rfl (by decide) (by decide) rfl (fun γ w hF => (rowc rfl (rowc rfl rown rfl) rfl)) (fun A85 => ?_))
                refine nxp hok (kp_imp (kp_cf rfl)) rfl (by kernel_rfl) ?_
                clear hok
                intro hok
                refine TrAny.prom (i := 3) (d := 31) hok (OpVal.plain rfl rfl (v_bstr (k := 4) rfl Try.underlying23 Try.underlying5 Try.underlying9 rfl rfl rfl)) (by kernel_rfl) rfl (bl rfl) ?_
                clear hok
                intro hok
                refine TrAny.prom (i := 4) (d := 32) hok (OpVal.plain rfl rfl (v_streq rfl rfl rfl)) (by kernel_rfl) rfl (bl rfl) ?_
                clear hok
                intro hok
                refine TrAny.prom (i := 5) (d := 33) hok (OpVal.plain rfl rfl (v_move rfl rfl)) (by kernel_rfl) rfl (bl rfl) ?_
                clear hok
                intro hok
                refine TrAny.prom (i := 6) (d := 34) hok (OpVal.yes rfl rfl rfl rfl (bt_dec h16) (v_move rfl rfl)) (by kernel_rfl) rfl (bl rfl) ?_
                clear hok
                intro hok
                refine TrAny.prom (i := 7) (d := 35) hok (OpVal.yes rfl rfl rfl rfl (bt_dec h16) (v_arith rfl rfl rfl ar_eql)) (by kernel_rfl) rfl (bl rfl) ?_
                clear hok
                intro hok
                refine TrAny.prom (i := 8) (d := 36) hok (OpVal.plain rfl rfl (v_pick_t rfl rfl (bt_dec h16) rfl)) (by kernel_rfl) rfl (bl rfl) ?_
                clear hok
                intro hok
                refine TrAny.prom (i := 9) (d := 37) hok (OpVal.plain rfl rfl (v_move rfl rfl)) (by kernel_rfl) rfl (bl rfl) ?_
                clear hok
                intro hok
                refine TrAny.prom (i := 10) (d := 38) hok (OpVal.yes rfl rfl rfl rfl (bt_dec h17) (v_move rfl rfl)) (by kernel_rfl) rfl (bl rfl) ?_
                clear hok
                intro hok
                refine TrAny.prom (i := 11) (d := 39) hok (OpVal.yes rfl rfl rfl rfl (bt_dec h17) (v_arith rfl rfl rfl ar_eql)) (by kernel_rfl) rfl (bl rfl) ?_
                clear hok
                intro hok
                refine TrAny.prom (i := 12) (d := 40) hok (OpVal.plain rfl rfl (v_pick_t rfl rfl (bt_dec h17) rfl)) (by kernel_rfl) rfl (bl rfl) ?_
                clear hok
                intro hok
                refine TrAny.prom (i := 13) (d := 41) hok (OpVal.plain rfl rfl (v_move rfl rfl)) (by kernel_rfl) rfl (bl rfl) ?_
                clear hok
                intro hok
                refine TrAny.prom (i := 14) (d := 42) hok (OpVal.yes rfl rfl rfl rfl (bt_dec h18) (v_move rfl rfl)) (by kernel_rfl) rfl (bl rfl) ?_
                clear hok
                intro hok
                refine TrAny.prom (i := 15) (d := 43) hok (OpVal.yes rfl rfl rfl rfl (bt_dec h18) (v_arith rfl rfl rfl ar_eql)) (by kernel_rfl) rfl (bl rfl) ?_
                clear hok
                intro hok
                refine TrAny.prom (i := 16) (d := 44) hok (OpVal.plain rfl rfl (v_pick_t rfl rfl (bt_dec h18) rfl)) (by kernel_rfl) rfl (bl rfl) ?_
                clear hok
                intro hok
                refine TrAny.prom (i := 17) (d := 45) hok (OpVal.plain rfl rfl (v_move rfl rfl)) (by kernel_rfl) rfl (bl rfl) ?_
                clear hok
                intro hok
                refine TrAny.prom (i := 18) (d := 46) hok (OpVal.yes rfl rfl rfl rfl (bt_dec h19) (v_move rfl rfl)) (by kernel_rfl) rfl (bl rfl) ?_
                clear hok
                intro hok
                refine TrAny.prom (i := 19) (d := 47) hok (OpVal.yes rfl rfl rfl rfl (bt_dec h19) (v_arith rfl rfl rfl ar_eql)) (by kernel_rfl) rfl (bl rfl) ?_
                clear hok
                intro hok
                refine TrAny.prom (i := 20) (d := 48) hok (OpVal.plain rfl rfl (v_pick_t rfl rfl (bt_dec h19) rfl)) (by kernel_rfl) rfl (bl rfl) ?_
                clear hok
                intro hok
                refine TrAny.prom (i := 21) (d := 49) hok (OpVal.plain rfl rfl (v_move rfl rfl)) (by kernel_rfl) rfl (bl rfl) ?_
                clear hok
                intro hok
                refine TrAny.prom (i := 22) (d := 50) hok (OpVal.yes rfl rfl rfl rfl (bt_dec h20) (v_move rfl rfl)) (by kernel_rfl) rfl (bl rfl) ?_
                clear hok
                intro hok
                refine TrAny.prom (i := 23) (d := 51) hok (OpVal.yes rfl rfl rfl rfl (bt_dec h20) (v_arith rfl rfl rfl ar_eql)) (by kernel_rfl) rfl (bl rfl) ?_
                clear hok
                intro hok
                refine TrAny.prom (i := 24) (d := 52) hok (OpVal.plain rfl rfl (v_pick_t rfl rfl (bt_dec h20) rfl)) (by kernel_rfl) rfl (bl rfl) ?_
                clear hok
                intro hok
                refine TrAny.prom (i := 25) (d := 0) hok (OpVal.plain rfl rfl (v_assign rfl rfl)) (by kernel_rfl) rfl (bl rfl) ?_
                clear hok
                intro hok
                refine TrAny.done (by kernel_rfl) (by kernel_rfl) hok (by kernel_rfl) (⟨(), Imp.re _ [] [] (sc rfl sn) (by decide) rfl rfl rfl⟩)
              · refine step_n rfl (by kernel_rfl) rfl (op_buildSlice' (rp := (rInt .u8)) (xs := [(172 : Int), (2 : Int)]) (vs := [.int .u8 172, .int .u8 2]) (out := [.int .u8 172, .int .u8 2]) rfl (bl rfl) rfl sl23 ty5 ze5 rfl rfl (by decide) (by decide) rfl (fun γ w hF => (rowc rfl (rowc rfl rown rfl) rfl)) (fun A86 => ?_))
                refine nxp hok (kp_aw (by kernel_rfl)) rfl (by kernel_rfl) ?_
                clear hok
                intro hok
                refine TrAny.prom (i := 3) (d := 31) hok (OpVal.plain rfl rfl (v_bstr (k := 3) rfl Try.underlying23 Try.underlying5 Try.underlying9 rfl rfl rfl)) (by kernel_rfl) rfl (bl rfl) ?_
                clear hok
                intro hok
                refine TrAny.next (j := 0) (by kernel_rfl) hok rfl (by kernel_rfl) (op_call0' (vs := [.int .u64 300]) (cap := []) [] rfl rfl (bl rfl) rfl rfl en22 (c_varint_Put ((300 : Int)) r10 hr10) rfl (fun ret M' F' hR86 => ?_))
                obtain ⟨m105, rfl, rfl, rfl⟩ := hR86
                refine nxp hok (kp_imp (kp_c0 rfl)) rfl (by kernel_rfl) ?_
                clear hok
                intro hok
                refine TrAny.prom (i := 1) (d := 29) hok (OpVal.plain rfl rfl (v_bstr (k := 4) rfl Try.underlying23 Try.underlying5 Try.underlying9 rfl rfl rfl)) (by kernel_rfl) rfl (bl rfl) ?_
                clear hok
                intro hok
                refine TrAny.prom (i := 4) (d := 32) hok (OpVal.plain rfl rfl (v_streq rfl rfl rfl)) (by kernel_rfl) rfl (bl rfl) ?_
                clear hok
                intro hok
                refine TrAny.prom (i := 5) (d := 33) hok (OpVal.plain rfl rfl (v_move rfl rfl)) (by kernel_rfl) rfl (bl rfl) ?_
                clear hok
                intro hok
                refine TrAny.prom (i := 6) (d := 34) hok (OpVal.yes rfl rfl rfl rfl (bt_dec h16) (v_move rfl rfl)) (by kernel_rfl) rfl (bl rfl) ?_
                clear hok
                intro hok
                refine TrAny.prom (i := 7) (d := 35) hok (OpVal.yes rfl rfl rfl rfl (bt_dec h16) (v_arith rfl rfl rfl ar_eql)) (by kernel_rfl) rfl (bl rfl) ?_
                clear hok
                intro hok
                refine TrAny.prom (i := 8) (d := 36) hok (OpVal.plain rfl rfl (v_pick_t rfl rfl (bt_dec h16) rfl)) (by kernel_rfl) rfl (bl rfl) ?_
                clear hok
                intro hok
                refine TrAny.prom (i := 9) (d := 37) hok (OpVal.plain rfl rfl (v_move rfl rfl)) (by kernel_rfl) rfl (bl rfl) ?_
                clear hok
                intro hok
                refine TrAny.prom (i := 10) (d := 38) hok (OpVal.yes rfl rfl rfl rfl (bt_dec h17) (v_move rfl rfl)) (by kernel_rfl) rfl (bl rfl) ?_
                clear hok
                intro hok
                refine TrAny.prom (i := 11) (d := 39) hok (OpVal.yes rfl rfl rfl rfl (bt_dec h17) (v_arith rfl rfl rfl ar_eql)) (by kernel_rfl) rfl (bl rfl) ?_
                clear hok
                intro hok
                refine TrAny.prom (i := 12) (d := 40) hok (OpVal.plain rfl rfl (v_pick_t rfl rfl (bt_dec h17) rfl)) (by kernel_rfl) rfl (bl rfl) ?_
                clear hok
                intro hok
                refine TrAny.prom (i := 13) (d := 41) hok (OpVal.plain rfl rfl (v_move rfl rfl)) (by kernel_rfl) rfl (bl rfl) ?_
                clear hok
                intro hok
                refine TrAny.prom (i := 14) (d := 42) hok (OpVal.yes rfl rfl rfl rfl (bt_dec h18) (v_move rfl rfl)) (by kernel_rfl) rfl (bl rfl) ?_
                clear hok
                intro hok
                refine TrAny.prom (i := 15) (d := 43) hok (OpVal.yes rfl rfl rfl rfl (bt_dec h18) (v_arith rfl rfl rfl ar_eql)) (by kernel_rfl) rfl (bl rfl) ?_
                clear hok
                intro hok
                refine TrAny.prom (i := 16) (d := 44) hok (OpVal.plain rfl rfl (v_pick_t rfl rfl (bt_dec h18) rfl)) (by kernel_rfl) rfl (bl rfl) ?_
                clear hok
                intro hok
                refine TrAny.prom (i := 17) (d := 45) hok (OpVal.plain rfl rfl (v_move rfl rfl)) (by kernel_rfl) rfl (bl rfl) ?_
                clear hok
                intro hok
                refine TrAny.prom (i := 18) (d := 46) hok (OpVal.yes rfl rfl rfl rfl (bt_dec h19) (v_move rfl rfl)) (by kernel_rfl) rfl (bl rfl) ?_
                clear hok
                intro hok
                refine TrAny.prom (i := 19) (d := 47) hok (OpVal.yes rfl rfl rfl rfl (bt_dec h19) (v_arith rfl rfl rfl ar_eql)) (by kernel_rfl) rfl (bl rfl) ?_
                clear hok
                intro hok
                refine TrAny.prom (i := 20) (d := 48) hok (OpVal.plain rfl rfl (v_pick_t rfl rfl (bt_dec h19) rfl)) (by kernel_rfl) rfl (bl rfl) ?_
                clear hok
                intro hok
                refine TrAny.prom (i := 21) (d := 49) hok (OpVal.plain rfl rfl (v_move rfl rfl)) (by kernel_rfl) rfl (bl rfl) ?_
                clear hok
                intro hok
                refine TrAny.prom (i := 22) (d := 50) hok (OpVal.yes rfl rfl rfl rfl (bt_dec h20) (v_move rfl rfl)) (by kernel_rfl) rfl (bl rfl) ?_
                clear hok
                intro hok
                refine TrAny.prom (i := 23) (d := 51) hok (OpVal.yes rfl rfl rfl rfl (bt_dec h20) (v_arith rfl rfl rfl ar_eql)) (by kernel_rfl) rfl (bl rfl) ?_
                clear hok
                intro hok
                refine TrAny.prom (i := 24) (d := 52) hok (OpVal.plain rfl rfl (v_pick_t rfl rfl (bt_dec h20) rfl)) (by kernel_rfl) rfl (bl rfl) ?_
                clear hok
                intro hok
                refine TrAny.prom (i := 25) (d := 0) hok (OpVal.plain rfl rfl (v_assign rfl rfl)) (by kernel_rfl) rfl (bl rfl) ?_
                clear hok
                intro hok
                refine TrAny.done (by kernel_rfl) (by kernel_rfl) hok (by kernel_rfl) (⟨(), Imp.re _ [] [] (sc rfl sn) (by decide) rfl rfl rfl⟩)
            · refine (qthen_n ?_)
              have hz := Option.some.inj H
              subst hz
              refine Tr.ret (ret_r ⟨[(0, .bool (decide (r8.2.2 = 3)))], [], [], []⟩ [.bool (decide (r8.2.2 = 3))] [] [] (Imp.re _ [] [] (sc rfl sn) (by decide) rfl rfl rfl) rfl rfl ⟨rfl, rfl, rfl⟩ (.cons (resv_tmp rfl) .nil))
          · refine TrAny.cut (ι := Unit) (fun m108 => ⟨[(0, .bool false)], [], [], []⟩) ?_ (fun m108 => ?_)
            · refine TrAny.fork [0, 2] (by kernel_rfl) hok ⟨0, by decide, bl rfl⟩ (by kernel_rfl) (.cons ?_ (.cons ?_ .nil))
              · refine step_n rfl (by kernel_rfl) rfl (op_call0' (vs := [.int .u64 300]) (cap := []) [] rfl rfl (bl rfl) rfl rfl en22 (c_varint_Put ((300 : Int)) r10 hr10) rfl (fun ret M' F' hR89 => ?_))
                obtain ⟨m109, rfl, rfl, rfl⟩ := hR89
                refine nxp hok (kp_aw (by kernel_rfl)) rfl (by kernel_rfl) ?_
                clear hok
                intro hok
                refine TrAny.prom (i := 1) (d := 29) hok (OpVal.plain rfl rfl (v_bstr (k := 3) rfl Try.underlying23 Try.underlying5 Try.underlying9 rfl rfl rfl)) (by kernel_rfl) rfl (bl rfl) ?_
                clear hok
                intro hok
                refine TrAny.next (j := 2) (by kernel_rfl) hok rfl (by kernel_rfl) (op_buildSlice' (rp := (rInt .u8)) (xs := [(172 : Int), (2 : Int)]) (vs := [.int .u8 172, .int .u8 2]) (out := [.int .u8 172, .int .u8 2]) rfl (bl rfl) rfl sl23 ty5 ze5 rfl rfl (by decide) (by decide) rfl (fun γ w hF => (rowc rfl (rowc rfl rown rfl) rfl)) (fun A89 => ?_))
                refine nxp hok (kp_imp (kp_cf rfl)) rfl (by kernel_rfl) ?_
                clear hok
                intro hok
                refine TrAny.prom (i := 3) (d := 31) hok (OpVal.plain rfl rfl (v_bstr (k := 4) rfl Try.underlying23 Try.underlying5 Try.underlying9 rfl rfl rfl)) (by kernel_rfl) rfl (bl rfl) ?_
                clear hok
                intro hok
                refine TrAny.prom (i := 4) (d := 32) hok (OpVal.plain rfl rfl (v_streq rfl rfl rfl)) (by kernel_rfl) rfl (bl rfl) ?_
                clear hok
                intro hok
                refine TrAny.prom (i := 5) (d := 33) hok (OpVal.plain rfl rfl (v_move rfl rfl)) (by kernel_rfl) rfl (bl rfl) ?_
                clear hok
                intro hok
                refine TrAny.prom (i := 6) (d := 34) hok (OpVal.yes rfl rfl rfl rfl (bt_dec h16) (v_move rfl rfl)) (by kernel_rfl) rfl (bl rfl) ?_
                clear hok
                intro hok
                refine TrAny.prom (i := 7) (d := 35) hok (OpVal.yes rfl rfl rfl rfl (bt_dec h16) (v_arith rfl rfl rfl ar_eql)) (by kernel_rfl) rfl (bl rfl) ?_
                clear hok
                intro hok
                refine TrAny.prom (i := 8) (d := 36) hok (OpVal.plain rfl rfl (v_pick_t rfl rfl (bt_dec h16) rfl)) (by kernel_rfl) rfl (bl rfl) ?_
                clear hok
                intro hok
                refine TrAny.prom (i := 9) (d := 37) hok (OpVal.plain rfl rfl (v_move rfl rfl)) (by kernel_rfl) rfl (bl rfl) ?_
                clear hok
                intro hok
                refine TrAny.prom (i := 10) (d := 38) hok (OpVal.yes rfl rfl rfl rfl (bt_dec h17) (v_move rfl rfl)) (by kernel_rfl) rfl (bl rfl) ?_
                clear hok
                intro hok
                refine TrAny.prom (i := 11) (d := 39) hok (OpVal.yes rfl rfl rfl rfl (bt_dec h17) (v_arith rfl rfl rfl ar_eql)) (by kernel_rfl) rfl (bl rfl) ?_
                clear hok
                intro hok
                refine TrAny.prom (i := 12) (d := 40) hok (OpVal.plain rfl rfl (v_pick_t rfl rfl (bt_dec h17) rfl)) (by kernel_rfl) rfl (bl rfl) ?_
                clear hok
                intro hok
                refine TrAny.prom (i := 13) (d := 41) hok (OpVal.plain rfl rfl (v_move rfl rfl)) (by kernel_rfl) rfl (bl rfl) ?_
                clear hok
                intro hok
                refine TrAny.prom (i := 14) (d := 42) hok (OpVal.yes rfl rfl rfl rfl (bt_dec h18) (v_move rfl rfl)) (by kernel_rfl) rfl (bl rfl) ?_
                clear hok
                intro hok
                refine TrAny.prom (i := 15) (d := 43) hok (OpVal.yes rfl rfl rfl rfl (bt_dec h18) (v_arith rfl rfl rfl ar_eql)) (by kernel_rfl) rfl (bl rfl) ?_
                clear hok
                intro hok
                refine TrAny.prom (i := 16) (d := 44) hok (OpVal.plain rfl rfl (v_pick_t rfl rfl (bt_dec h18) rfl)) (by kernel_rfl) rfl (bl rfl) ?_
                clear hok
                intro hok
                refine TrAny.prom (i := 17) (d := 45) hok (OpVal.plain rfl rfl (v_move rfl rfl)) (by kernel_rfl) rfl (bl rfl) ?_
                clear hok
                intro hok
                refine TrAny.prom (i := 18) (d := 46) hok (OpVal.yes rfl rfl rfl rfl (bt_dec h19) (v_move rfl rfl)) (by kernel_rfl) rfl (bl rfl) ?_
                clear hok
                intro hok
                refine TrAny.prom (i := 19) (d := 47) hok (OpVal.yes rfl rfl rfl rfl (bt_dec h19) (v_arith rfl rfl rfl ar_eql)) (by kernel_rfl) rfl (bl rfl) ?_
                clear hok
                intro hok
                refine TrAny.prom (i := 20) (d := 48) hok (OpVal.plain rfl rfl (v_pick_t rfl rfl (bt_dec h19) rfl)) (by kernel_rfl) rfl (bl rfl) ?_
                clear hok
                intro hok
                refine TrAny.prom (i := 21) (d := 49) hok (OpVal.plain rfl rfl (v_move rfl rfl)) (by kernel_rfl) rfl (bl rfl) ?_
                clear hok
                intro hok
                refine TrAny.prom (i := 22) (d := 50) hok (OpVal.no rfl (fun c h => by cases h) rfl rfl rfl (gn_t (bf_dec h20))) (by kernel_rfl) rfl (bl rfl) ?_
                clear hok
                intro hok
                refine TrAny.prom (i := 23) (d := 51) hok (OpVal.no rfl (fun c h => by cases h) rfl rfl rfl (gn_t (bf_dec h20))) (by kernel_rfl) rfl (bl rfl) ?_
                clear hok
                intro hok
                refine TrAny.prom (i := 24) (d := 52) hok (OpVal.plain rfl rfl (v_pick_f rfl rfl (bf_dec h20) rfl)) (by kernel_rfl) rfl (bl rfl) ?_
                clear hok
                intro hok
                refine TrAny.prom (i := 25) (d := 0) hok (OpVal.plain rfl rfl (v_assign rfl rfl)) (by kernel_rfl) rfl (bl rfl) ?_
                clear hok
                intro hok
                refine TrAny.done (by kernel_rfl) (by kernel_rfl) hok (by kernel_rfl) (⟨(), Imp.re _ [] [] (sc rfl sn) (by decide) rfl rfl rfl⟩)
              · refine step_n rfl (by kernel_rfl) rfl (op_buildSlice' (rp := (rInt .u8)) (xs := [(172 : Int), (2 : Int)]) (vs := [.int .u8 172, .int .u8 2]) (out := [.int .u8 172, .int .u8 2]) rfl (bl rfl) rfl sl23 ty5 ze5 rfl rfl (by decide) (by decide) rfl (fun γ w hF => (rowc rfl (rowc rfl rown rfl) rfl)) (fun A90 => ?_))
                refine nxp hok (kp_aw (by kernel_rfl)) rfl (by kernel_rfl) ?_
                clear hok
                intro hok
                refine TrAny.prom (i := 3) (d := 31) hok (OpVal.plain rfl rfl (v_bstr (k := 3) rfl Try.underlying23 Try.underlying5 Try.underlying9 rfl rfl rfl)) (by kernel_rfl) rfl (bl rfl) ?_
                clear hok
                intro hok
                refine TrAny.next (j := 0) (by kernel_rfl) hok rfl (by kernel_rfl) (op_call0' (vs := [.int .u64 300]) (cap := []) [] rfl rfl (bl rfl) rfl rfl en22 (c_varint_Put ((300 : Int)) r10 hr10) rfl (fun ret M' F' hR90 => ?_))
                obtain ⟨m110, rfl, rfl, rfl⟩ := hR90
                refine nxp hok (kp_imp (kp_c0 rfl)) rfl (by kernel_rfl) ?_
                clear hok
                intro hok
                refine TrAny.prom (i := 1) (d := 29) hok (OpVal.plain rfl rfl (v_bstr (k := 4) rfl Try.underlying23 Try.underlying5 Try.underlying9 rfl rfl rfl)) (by kernel_rfl) rfl (bl rfl) ?_
                clear hok
                intro hok
                refine TrAny.prom (i := 4) (d := 32) hok (OpVal.plain rfl rfl (v_streq rfl rfl rfl)) (by kernel_rfl) rfl (bl rfl) ?_
                clear hok
                intro hok
                refine TrAny.prom (i := 5) (d := 33) hok (OpVal.plain rfl rfl (v_move rfl rfl)) (by kernel_rfl) rfl (bl rfl) ?_
                clear hok
                intro hok
                refine TrAny.prom (i := 6) (d := 34) hok (OpVal.yes rfl rfl rfl rfl (bt_dec h16) (v_move rfl rfl)) (by kernel_rfl) rfl (bl rfl) ?_
                clear hok
                intro hok
                refine TrAny.prom (i := 7) (d := 35) hok (OpVal.yes rfl rfl rfl rfl (bt_dec h16) (v_arith rfl rfl rfl ar_eql)) (by kernel_rfl) rfl (bl rfl) ?_
                clear hok
                intro hok
                refine TrAny.prom (i := 8) (d := 36) hok (OpVal.plain rfl rfl (v_pick_t rfl rfl (bt_dec h16) rfl)) (by kernel_rfl) rfl (bl rfl) ?_
                clear hok
                intro hok
                refine TrAny.prom (i := 9) (d := 37) hok (OpVal.plain rfl rfl (v_move rfl rfl)) (by kernel_rfl) rfl (bl rfl) ?_
                clear hok
                intro hok
                refine TrAny.prom (i := 10) (d := 38) hok (OpVal.yes rfl rfl rfl rfl (bt_dec h17) (v_move rfl rfl)) (by kernel_rfl) rfl (bl rfl) ?_
                clear hok
                intro hok
                refine TrAny.prom (i := 11) (d := 39) hok (OpVal.yes rfl rfl rfl rfl (bt_dec h17) (v_arith rfl rfl rfl ar_eql)) (by kernel_rfl) rfl (bl rfl) ?_
                clear hok
                intro hok
                refine TrAny.prom (i := 12) (d := 40) hok (OpVal.plain rfl rfl (v_pick_t rfl rfl (bt_dec h17) rfl)) (by kernel_rfl) rfl (bl rfl) ?_
                clear hok
                intro hok
                refine TrAny.prom (i := 13) (d := 41) hok (OpVal.plain rfl rfl (v_move rfl rfl)) (by kernel_rfl) rfl (bl rfl) ?_
                clear hok
                intro hok
                refine TrAny.prom (i := 14) (d := 42) hok (OpVal.yes rfl rfl rfl rfl (bt_dec h18) (v_move rfl rfl)) (by kernel_rfl) rfl (bl rfl) ?_
                clear hok
                intro hok
                refine TrAny.prom (i := 15) (d := 43) hok (OpVal.yes rfl rfl rfl rfl (bt_dec h18) (v_arith rfl rfl rfl ar_eql)) (by kernel_rfl) rfl (bl rfl) ?_
                clear hok
                intro hok
                refine TrAny.prom (i := 16) (d := 44) hok (OpVal.plain rfl rfl (v_pick_t rfl rfl (bt_dec h18) rfl)) (by kernel_rfl) rfl (bl rfl) ?_
                clear hok
                intro hok
                refine TrAny.prom (i := 17) (d := 45) hok (OpVal.plain rfl rfl (v_move rfl rfl)) (by kernel_rfl) rfl (bl rfl) ?_
                clear hok
                intro hok
                refine TrAny.prom (i := 18) (d := 46) hok (OpVal.yes rfl rfl rfl rfl (bt_dec h19) (v_move rfl rfl)) (by kernel_rfl) rfl (bl rfl) ?_
                clear hok
                intro hok
                refine TrAny.prom (i := 19) (d := 47) hok (OpVal.yes rfl rfl rfl rfl (bt_dec h19) (v_arith rfl rfl rfl ar_eql)) (by kernel_rfl) rfl (bl rfl) ?_
                clear hok
                intro hok
                refine TrAny.prom (i := 20) (d := 48) hok (OpVal.plain rfl rfl (v_pick_t rfl rfl (bt_dec h19) rfl)) (by kernel_rfl) rfl (bl rfl) ?_
                clear hok
                intro hok
                refine TrAny.prom (i := 21) (d := 49) hok (OpVal.plain rfl rfl (v_move rfl rfl)) (by kernel_rfl) rfl (bl rfl) ?_
                clear hok
                intro hok
                refine TrAny.prom (i := 22) (d := 50) hok (OpVal.no rfl (fun c h => by cases h) rfl rfl rfl (gn_t (bf_dec h20))) (by kernel_rfl) rfl (bl rfl) ?_
                clear hok
                intro hok
                refine TrAny.prom (i := 23) (d := 51) hok (OpVal.no rfl (fun c h => by cases h) rfl rfl rfl (gn_t (bf_dec h20))) (by kernel_rfl) rfl (bl rfl) ?_
                clear hok
                intro hok
                refine TrAny.prom (i := 24) (d := 52) hok (OpVal.plain rfl rfl (v_pick_f rfl rfl (bf_dec h20) rfl)) (by kernel_rfl) rfl (bl rfl) ?_
                clear hok
                intro hok
                refine TrAny.prom (i := 25) (d := 0) hok (OpVal.plain rfl rfl (v_assign rfl rfl)) (by kernel_rfl) rfl (bl rfl) ?_
                clear hok
                intro hok
                refine TrAny.done (by kernel_rfl) (by kernel_rfl) hok (by kernel_rfl) (⟨(), Imp.re _ [] [] (sc rfl sn) (by decide) rfl rfl rfl⟩)
            · refine (qthen_n ?_)
              have hz := Option.some.inj H
              subst hz
              refine Tr.ret (ret_r ⟨[(0, .bool false)], [], [], []⟩ [.bool false] [] [] (Imp.re _ [] [] (sc rfl sn) (by decide) rfl rfl rfl) rfl rfl ⟨rfl, rfl, rfl⟩ (.cons (resv_tmp rfl) .nil))
        · refine TrAny.cut (ι := Unit) (fun m113 => ⟨[(0, .bool false)], [], [], []⟩) ?_ (fun m113 => ?_)
          · refine TrAny.fork [0, 2] (by kernel_rfl) hok ⟨0, by decide, bl rfl⟩ (by kernel_rfl) (.cons ?_ (.cons ?_ .nil))
            · refine step_n rfl (by kernel_rfl) rfl (op_call0' (vs := [.int .u64 300]) (cap := []) [] rfl rfl (bl rfl) rfl rfl en22 (c_varint_Put ((300 : Int)) r10 hr10) rfl (fun ret M' F' hR93 => ?_))
              obtain ⟨m114, rfl, rfl, rfl⟩ := hR93
              refine nxp hok (kp_aw (by kernel_rfl)) rfl (by kernel_rfl) ?_
              clear hok
              intro hok
              refine TrAny.prom (i := 1) (d := 29) hok (OpVal.plain rfl rfl (v_bstr (k := 3) rfl Try.underlying23 Try.underlying5 Try.underlying9 rfl rfl rfl)) (by kernel_rfl) rfl (bl rfl) ?_
              clear hok
              intro hok
              refine TrAny.next (j := 2) (by kernel_rfl) hok rfl (by kernel_rfl) (op_buildSlice' (rp := (rInt .u8)) (xs := [(172 : Int), (2 : Int)]) (vs := [.int .u8 172, .int .u8 2]) (out := [.int .u8 172, .int .u8 2]) rfl (bl rfl) rfl sl23 ty5 ze5 rfl rfl (by decide) (by decide) rfl (fun γ w hF => (rowc rfl (rowc rfl rown rfl) rfl)) (fun A93 => ?_))
              refine nxp hok (kp_imp (kp_cf rfl)) rfl (by kernel_rfl) ?_
              clear hok
              intro hok
              refine TrAny.prom (i := 3) (d := 31) hok (OpVal.plain rfl rfl (v_bstr (k := 4) rfl Try.underlying23 Try.underlying5 Try.underlying9 rfl rfl rfl)) (by kernel_rfl) rfl (bl rfl) ?_
              clear hok
              intro hok
              refine TrAny.prom (i := 4) (d := 32) hok (OpVal.plain rfl rfl (v_streq rfl rfl rfl)) (by kernel_rfl) rfl (bl rfl) ?_
              clear hok
              intro hok
              refine TrAny.prom (i := 5) (d := 33) hok (OpVal.plain rfl rfl (v_move rfl rfl)) (by kernel_rfl) rfl (bl rfl) ?_
              clear hok
              intro hok
              refine TrAny.prom (i := 6) (d := 34) hok (OpVal.yes rfl rfl rfl rfl (bt_dec h16) (v_move rfl rfl)) (by kernel_rfl) rfl (bl rfl) ?_
              clear hok
              intro hok
              refine TrAny.prom (i := 7) (d := 35) hok (OpVal.yes rfl rfl rfl rfl (bt_dec h16) (v_arith rfl rfl rfl ar_eql)) (by kernel_rfl) rfl (bl rfl) ?_
              clear hok
              intro hok
              refine TrAny.prom (i := 8) (d := 36) hok (OpVal.plain rfl rfl (v_pick_t rfl rfl (bt_dec h16) rfl)) (by kernel_rfl) rfl (bl rfl) ?_
              clear hok
              intro hok
              refine TrAny.prom (i := 9) (d := 37) hok (OpVal.plain rfl rfl (v_move rfl rfl)) (by kernel_rfl) rfl (bl rfl) ?_
              clear hok
              intro hok
              refine TrAny.prom (i := 10) (d := 38) hok (OpVal.yes rfl rfl rfl rfl (bt_dec h17) (v_move rfl rfl)) (by kernel_rfl) rfl (bl rfl) ?_
              clear hok
              intro hok
              refine TrAny.prom (i := 11) (d := 39) hok (OpVal.yes rfl rfl rfl rfl (bt_dec h17) (v_arith rfl rfl rfl ar_eql)) (by kernel_rfl) rfl (bl rfl) ?_
              clear hok
              intro hok
              refine TrAny.prom (i := 12) (d := 40) hok (OpVal.plain rfl rfl (v_pick_t rfl rfl (bt_dec h17) rfl)) (by kernel_rfl) rfl (bl rfl) ?_
              clear hok
              intro hok
              refine TrAny.prom (i := 13) (d := 41) hok (OpVal.plain rfl rfl (v_move rfl rfl)) (by kernel_rfl) rfl (bl rfl) ?_
              clear hok
              intro hok
              refine TrAny.prom (i := 14) (d := 42) hok (OpVal.yes rfl rfl rfl rfl (bt_dec h18) (v_move rfl rfl)) (by kernel_rfl) rfl (bl rfl) ?_
              clear hok
              intro hok
              refine TrAny.prom (i := 15) (d := 43) hok (OpVal.yes rfl rfl rfl rfl (bt_dec h18) (v_arith rfl rfl rfl ar_eql)) (by kernel_rfl) rfl (bl rfl) ?_
              clear hok
              intro hok
              refine TrAny.prom (i := 16) (d := 44) hok (OpVal.plain rfl rfl (v_pick_t rfl rfl (bt_dec h18) rfl)) (by kernel_rfl) rfl (bl rfl) ?_
              clear hok
              intro hok
              refine TrAny.prom (i := 17) (d := 45) hok (OpVal.plain rfl rfl (v_move rfl rfl)) (by kernel_rfl) rfl (bl rfl) ?_
              clear hok
              intro hok
              refine TrAny.prom (i := 18) (d := 46) hok (OpVal.no rfl (fun c h => by cases h) rfl rfl rfl (gn_t (bf_dec h19))) (by kernel_rfl) rfl (bl rfl) ?_
              clear hok
              intro hok
              refine TrAny.prom (i := 19) (d := 47) hok (OpVal.no rfl (fun c h => by cases h) rfl rfl rfl (gn_t (bf_dec h19))) (by kernel_rfl) rfl (bl rfl) ?_
              clear hok
              intro hok
              refine TrAny.prom (i := 20) (d := 48) hok (OpVal.plain rfl rfl (v_pick_f rfl rfl (bf_dec h19) rfl)) (by kernel_rfl) rfl (bl rfl) ?_
              clear hok
              intro hok
              refine TrAny.prom (i := 21) (d := 49) hok (OpVal.plain rfl rfl (v_move rfl rfl)) (by kernel_rfl) rfl (bl rfl) ?_
              clear hok
              intro hok
              refine TrAny.prom (i := 22) (d := 50) hok (OpVal.no rfl (fun c h => by cases h) rfl rfl rfl (gn_t rfl)) (by kernel_rfl) rfl (bl rfl) ?_
              clear hok
              intro hok
              refine TrAny.prom (i := 23) (d := 51) hok (OpVal.no rfl (fun c h => by cases h) rfl rfl rfl (gn_t rfl)) (by kernel_rfl) rfl (bl rfl) ?_
              clear hok
              intro hok
              refine TrAny.prom (i := 24) (d := 52) hok (OpVal.plain rfl rfl (v_pick_f rfl rfl rfl rfl)) (by kernel_rfl) rfl (bl rfl) ?_
              clear hok
              intro hok
              refine TrAny.prom (i := 25) (d := 0) hok (OpVal.plain rfl rfl (v_assign rfl rfl)) (by kernel_rfl) rfl (bl rfl) ?_
              clear hok
              intro hok
              refine TrAny.done (by kernel_rfl) (by kernel_rfl) hok (by kernel_rfl) (⟨(), Imp.re _ [] [] (sc rfl sn) (by decide) rfl rfl rfl⟩)
            · refine step_n rfl (by kernel_rfl) rfl (op_buildSlice' (rp := (rInt .u8)) (xs := [(172 : Int), (2 : Int)]) (vs := [.int .u8 172, .int .u8 2]) (out := [.int .u8 172, .int .u8 2]) rfl (bl rfl) rfl sl23 ty5 ze5 rfl rfl (by decide) (by decide) rfl (fun γ w hF => (rowc rfl (rowc rfl rown rfl) rfl)) (fun A94 => ?_))
              refine nxp hok (kp_aw (by kernel_rfl)) rfl (by kernel_rfl) ?_
              clear hok
              intro hok
              refine TrAny.prom (i := 3) (d := 31) hok (OpVal.plain rfl rfl (v_bstr (k := 3) rfl Try.underlying23 Try.underlying5 Try.underlying9 rfl rfl rfl)) (by kernel_rfl) rfl (bl rfl) ?_
              clear hok
              intro hok
              refine TrAny.next (j := 0) (by kernel_rfl) hok rfl (by kernel_rfl) (op_call0' (vs := [.int .u64 300]) (cap := []) [] rfl rfl (bl rfl) rfl rfl en22 (c_varint_Put ((300 : Int)) r10 hr10) rfl (fun ret M' F' hR94 => ?_))
              obtain ⟨m115, rfl, rfl, rfl⟩ := hR94
              refine nxp hok (kp_imp (kp_c0 rfl)) rfl (by kernel_rfl) ?_
              clear hok
              intro hok
              refine TrAny.prom (i := 1) (d := 29) hok (OpVal.plain rfl rfl (v_bstr (k := 4) rfl Try.underlying23 Try.underlying5 Try.underlying9 rfl rfl rfl)) (by kernel_rfl) rfl (bl rfl) ?_
              clear hok
              intro hok
              refine TrAny.prom (i := 4) (d := 32) hok (OpVal.plain rfl rfl (v_streq rfl rfl rfl)) (by kernel_rfl) rfl (bl rfl) ?_
              clear hok
              intro hok
              refine TrAny.prom (i := 5) (d := 33) hok (OpVal.plain rfl rfl (v_move rfl rfl)) (by kernel_rfl) rfl (bl rfl) ?_
              clear hok
              intro hok
              refine TrAny.prom (i := 6) (d := 34) hok (OpVal.yes rfl rfl rfl rfl (bt_dec h16) (v_move rfl rfl)) (by kernel_rfl) rfl (bl rfl) ?_
              clear hok
              intro hok
              refine TrAny.prom (i := 7) (d := 35) hok (OpVal.yes rfl rfl rfl rfl (bt_dec h16) (v_arith rfl rfl rfl ar_eql)) (by kernel_rfl) rfl (bl rfl) ?_
              clear hok
              intro hok
              refine TrAny.prom (i := 8) (d := 36) hok (OpVal.plain rfl rfl (v_pick_t rfl rfl (bt_dec h16) rfl)) (by kernel_rfl) rfl (bl rfl) ?_
              clear hok
              intro hok
              refine TrAny.prom (i := 9) (d := 37) hok (OpVal.plain rfl rfl (v_move rfl rfl)) (by kernel_rfl) rfl (bl rfl) ?_
              clear hok
              intro hok
              refine TrAny.prom (i := 10) (d := 38) hok (OpVal.yes rfl rfl rfl rfl (bt_dec h17) (v_move rfl rfl)) (by kernel_rfl) rfl (bl rfl) ?_
              clear hok
              intro hok
              refine TrAny.prom (i := 11) (d := 39) hok (OpVal.yes rfl rfl rfl rfl (bt_dec h17) (v_arith rfl rfl rfl ar_eql)) (by kernel_rfl) rfl (bl rfl) ?_
              clear hok
              intro hok
              refine TrAny.prom (i := 12) (d := 40) hok (OpVal.plain rfl rfl (v_pick_t rfl rfl (bt_dec h17) rfl)) (by kernel_rfl) rfl (bl rfl) ?_
              clear hok
              intro hok
              refine TrAny.prom (i := 13) (d := 41) hok (OpVal.plain rfl rfl (v_move rfl rfl)) (by kernel_rfl) rfl (bl rfl) ?_
              clear hok
              intro hok
              refine TrAny.prom (i := 14) (d := 42) hok (OpVal.yes rfl rfl rfl rfl (bt_dec h18) (v_move rfl rfl)) (by kernel_rfl) rfl (bl rfl) ?_
              clear hok
              intro hok
              refine TrAny.prom (i := 15) (d := 43) hok (OpVal.yes rfl rfl rfl rfl (bt_dec h18) (v_arith rfl rfl rfl ar_eql)) (by kernel_rfl) rfl (bl rfl) ?_
              clear hok
              intro hok
              refine TrAny.prom (i := 16) (d := 44) hok (OpVal.plain rfl rfl (v_pick_t rfl rfl (bt_dec h18) rfl)) (by kernel_rfl) rfl (bl rfl) ?_
              clear hok
              intro hok
              refine TrAny.prom (i := 17) (d := 45) hok (OpVal.plain rfl rfl (v_move rfl rfl)) (by kernel_rfl) rfl (bl rfl) ?_
              clear hok
              intro hok
              refine TrAny.prom (i := 18) (d := 46) hok (OpVal.no rfl (fun c h => by cases h) rfl rfl rfl (gn_t (bf_dec h19))) (by kernel_rfl) rfl (bl rfl) ?_
              clear hok
              intro hok
              refine TrAny.prom (i := 19) (d := 47) hok (OpVal.no rfl (fun c h => by cases h) rfl rfl rfl (gn_t (bf_dec h19))) (by kernel_rfl) rfl (bl rfl) ?_
              clear hok
              intro hok
              refine TrAny.prom (i := 20) (d := 48) hok (OpVal.plain rfl rfl (v_pick_f rfl rfl (bf_dec h19) rfl)) (by kernel_rfl) rfl (bl rfl) ?_
              clear hok
              intro hok
              refine TrAny.prom (i := 21) (d := 49) hok (OpVal.plain rfl rfl (v_move rfl rfl)) (by kernel_rfl) rfl (bl rfl) ?_
              clear hok
              intro hok
              refine TrAny.prom (i := 22) (d := 50) hok (OpVal.no rfl (fun c h => by cases h) rfl rfl rfl (gn_t rfl)) (by kernel_rfl) rfl (bl rfl) ?_
              clear hok
              intro hok
              refine TrAny.prom (i := 23) (d := 51) hok (OpVal.no rfl (fun c h => by cases h) rfl rfl rfl (gn_t rfl)) (by kernel_rfl) rfl (bl rfl) ?_
              clear hok
              intro hok
              refine TrAny.prom (i := 24) (d := 52) hok (OpVal.plain rfl rfl (v_pick_f rfl rfl rfl rfl)) (by kernel_rfl) rfl (bl rfl) ?_
              clear hok
              intro hok
              refine TrAny.prom (i := 25) (d := 0) hok (OpVal.plain rfl rfl (v_assign rfl rfl)) (by kernel_rfl) rfl (bl rfl) ?_
              clear hok
              intro hok
              refine TrAny.done (by kernel_rfl) (by kernel_rfl) hok (by kernel_rfl) (⟨(), Imp.re _ [] [] (sc rfl sn) (by decide) rfl rfl rfl⟩)
          · refine (qthen_n ?_)
            have hz := Option.some.inj H
            subst hz
            refine Tr.ret (ret_r ⟨[(0, .bool false)], [], [], []⟩ [.bool false] [] [] (Imp.re _ [] [] (sc rfl sn) (by decide) rfl rfl rfl) rfl rfl ⟨rfl, rfl, rfl⟩ (.cons (resv_tmp rfl) .nil))
      · refine TrAny.cut (ι := Unit) (fun m118 => ⟨[(0, .bool false)], [], [], []⟩) ?_ (fun m118 => ?_)
        · refine TrAny.fork [0, 2] (by kernel_rfl) hok ⟨0, by decide, bl rfl⟩ (by kernel_rfl) (.cons ?_ (.cons ?_ .nil))
          · refine step_n rfl (by kernel_rfl) rfl (op_call0' (vs := [.int .u64 300]) (cap := []) [] rfl rfl (bl rfl) rfl rfl en22 (c_varint_Put ((300 : Int)) r10 hr10) rfl (fun ret M' F' hR97 => ?_))
            obtain ⟨m119, rfl, rfl, rfl⟩ := hR97
            refine nxp hok (kp_aw (by kernel_rfl)) rfl (by kernel_rfl) ?_
            clear hok
            intro hok
            refine TrAny.prom (i := 1) (d := 29) hok (OpVal.plain rfl rfl (v_bstr (k := 3) rfl Try.underlying23 Try.underlying5 Try.underlying9 rfl rfl rfl)) (by kernel_rfl) rfl (bl rfl) ?_
            clear hok
            intro hok
            refine TrAny.next (j := 2) (by kernel_rfl) hok rfl (by kernel_rfl) (op_buildSlice' (rp := (rInt .u8)) (xs := [(172 : Int), (2 : Int)]) (vs := [.int .u8 172, .int .u8 2]) (out := [.int .u8 172, .int .u8 2]) rfl (bl rfl) rfl sl23 ty5 ze5 rfl rfl (by decide) (by decide) rfl (fun γ w hF => (rowc rfl (rowc rfl rown rfl) rfl)) (fun A97 => ?_))
            refine nxp hok (kp_imp (kp_cf rfl)) rfl (by kernel_rfl) ?_
            clear hok
            intro hok
            refine TrAny.prom (i := 3) (d := 31) hok (OpVal.plain rfl rfl (v_bstr (k := 4) rfl Try.underlying23 Try.underlying5 Try.underlying9 rfl rfl rfl)) (by kernel_rfl) rfl (bl rfl) ?_
            clear hok
            intro hok
            refine TrAny.prom (i := 4) (d := 32) hok (OpVal.plain rfl rfl (v_streq rfl rfl rfl)) (by kernel_rfl) rfl (bl rfl) ?_
            clear hok
            intro hok
            refine TrAny.prom (i := 5) (d := 33) hok (OpVal.plain rfl rfl (v_move rfl rfl)) (by kernel_rfl) rfl (bl rfl) ?_
            clear hok
            intro hok
            refine TrAny.prom (i := 6) (d := 34) hok (OpVal.yes rfl rfl rfl rfl (bt_dec h16) (v_move rfl rfl)) (by kernel_rfl) rfl (bl rfl) ?_
            clear hok
            intro hok
            refine TrAny.prom (i := 7) (d := 35) hok (OpVal.yes rfl rfl rfl rfl (bt_dec h16) (v_arith rfl rfl rfl ar_eql)) (by kernel_rfl) rfl (bl rfl) ?_
            clear hok
            intro hok
            refine TrAny.prom (i := 8) (d := 36) hok (OpVal.plain rfl rfl (v_pick_t rfl rfl (bt_dec h16) rfl)) (by kernel_rfl) rfl (bl rfl) ?_
            clear hok
            intro hok
            refine TrAny.prom (i := 9) (d := 37) hok (OpVal.plain rfl rfl (v_move rfl rfl)) (by kernel_rfl) rfl (bl rfl) ?_
            clear hok
            intro hok
            refine TrAny.prom (i := 10) (d := 38) hok (OpVal.yes rfl rfl rfl rfl (bt_dec h17) (v_move rfl rfl)) (by kernel_rfl) rfl (bl rfl) ?_
            clear hok
            intro hok
            refine TrAny.prom (i := 11) (d := 39) hok (OpVal.yes rfl rfl rfl rfl (bt_dec h17) (v_arith rfl rfl rfl ar_eql)) (by kernel_rfl) rfl (bl rfl) ?_
            clear hok
            intro hok
            refine TrAny.prom (i := 12) (d := 40) hok (OpVal.plain rfl rfl (v_pick_t rfl rfl (bt_dec h17) rfl)) (by kernel_rfl) rfl (bl rfl) ?_
            clear hok
            intro hok
            refine TrAny.prom (i := 13) (d := 41) hok (OpVal.plain rfl rfl (v_move rfl rfl)) (by kernel_rfl) rfl (bl rfl) ?_
            clear hok
            intro hok
            refine TrAny.prom (i := 14) (d := 42) hok (OpVal.no rfl (fun c h => by cases h) rfl rfl rfl (gn_t (bf_dec h18))) (by kernel_rfl) rfl (bl rfl) ?_
            clear hok
            intro hok
            refine TrAny.prom (i := 15) (d := 43) hok (OpVal.no rfl (fun c h => by cases h) rfl rfl rfl (gn_t (bf_dec h18))) (by kernel_rfl) rfl (bl rfl) ?_
            clear hok
            intro hok
            refine TrAny.prom (i := 16) (d := 44) hok (OpVal.plain rfl rfl (v_pick_f rfl rfl (bf_dec h18) rfl)) (by kernel_rfl) rfl (bl rfl) ?_
            clear hok
            intro hok
            refine TrAny.prom (i := 17) (d := 45) hok (OpVal.plain rfl rfl (v_move rfl rfl)) (by kernel_rfl) rfl (bl rfl) ?_
            clear hok
            intro hok
            refine TrAny.prom (i := 18) (d := 46) hok (OpVal.no rfl (fun c h => by cases h) rfl rfl rfl (gn_t rfl)) (by kernel_rfl) rfl (bl rfl) ?_
            clear hok
            intro hok
            refine TrAny.prom (i := 19) (d := 47) hok (OpVal.no rfl (fun c h => by cases h) rfl rfl rfl (gn_t rfl)) (by kernel_rfl) rfl (bl rfl) ?_
            clear hok
            intro hok
            refine TrAny.prom (i := 20) (d := 48) hok (OpVal.plain rfl rfl (v_pick_f rfl rfl rfl rfl)) (by kernel_rfl) rfl (bl rfl) ?_
            clear hok
            intro hok
            refine TrAny.prom (i := 21) (d := 49) hok (OpVal.plain rfl rfl (v_move rfl rfl)) (by kernel_rfl) rfl (bl rfl) ?_
            clear hok
            intro hok
            refine TrAny.prom (i := 22) (d := 50) hok (OpVal.no rfl (fun c h => by cases h) rfl rfl rfl (gn_t rfl)) (by kernel_rfl) rfl (bl rfl) ?_
            clear hok
            intro hok
            refine TrAny.prom (i := 23) (d := 51) hok (OpVal.no rfl (fun c h => by cases h) rfl rfl rfl (gn_t rfl)) (by kernel_rfl) rfl (bl rfl) ?_
            clear hok
            intro hok
            refine TrAny.prom (i := 24) (d := 52) hok (OpVal.plain rfl rfl (v_pick_f rfl rfl rfl rfl)) (by kernel_rfl) rfl (bl rfl) ?_
            clear hok
            intro hok
            refine TrAny.prom (i := 25) (d := 0) hok (OpVal.plain rfl rfl (v_assign rfl rfl)) (by kernel_rfl) rfl (bl rfl) ?_
            clear hok
            intro hok
            refine TrAny.done (by kernel_rfl) (by kernel_rfl) hok (by kernel_rfl) (⟨(), Imp.re _ [] [] (sc rfl sn) (by decide) rfl rfl rfl⟩)
          · refine step_n rfl (by kernel_rfl) rfl (op_buildSlice' (rp := (rInt .u8)) (xs := [(172 : Int), (2 : Int)]) (vs := [.int .u8 172, .int .u8 2]) (out := [.int .u8 172, .int .u8 2]) rfl (bl rfl) rfl sl23 ty5 ze5 rfl rfl (by decide) (by decide) rfl (fun γ w hF => (rowc rfl (rowc rfl rown rfl) rfl)) (fun A98 => ?_))
            refine nxp hok (kp_aw (by kernel_rfl)) rfl (by kernel_rfl) ?_
            clear hok
            intro hok
            refine TrAny.prom (i := 3) (d := 31) hok (OpVal.plain rfl rfl (v_bstr (k := 3) rfl Try.underlying23 Try.underlying5 Try.underlying9 rfl rfl rfl)) (by kernel_rfl) rfl (bl rfl) ?_
            clear hok
            intro hok
            refine TrAny.next (j := 0) (by kernel_rfl) hok rfl (by kernel_rfl) (op_call0' (vs := [.int .u64 300]) (cap := []) [] rfl rfl (bl rfl) rfl rfl en22 (c_varint_Put ((300 : Int)) r10 hr10) rfl (fun ret M' F' hR98 => ?_))
            obtain ⟨m120, rfl, rfl, rfl⟩ := hR98
            refine nxp hok (kp_imp (kp_c0 rfl)) rfl (by kernel_rfl) ?_
            clear hok
            intro hok
            refine TrAny.prom (i := 1) (d := 29) hok (OpVal.plain rfl rfl (v_bstr (k := 4) rfl Try.underlying23 Try.underlying5 Try.underlying9 rfl rfl rfl)) (by kernel_rfl) rfl (bl rfl) ?_
            clear hok
            intro hok
            refine TrAny.prom (i := 4) (d := 32) hok (OpVal.plain rfl rfl (v_streq rfl rfl rfl)) (by kernel_rfl) rfl (bl rfl) ?_
            clear hok
            intro hok
            refine TrAny.prom (i := 5) (d := 33) hok (OpVal.plain rfl rfl (v_move rfl rfl)) (by kernel_rfl) rfl (bl rfl) ?_
            clear hok
            intro hok
            refine TrAny.prom (i := 6) (d := 34) hok (OpVal.yes rfl rfl rfl rfl (bt_dec h16) (v_move rfl rfl)) (by kernel_rfl) rfl (bl rfl) ?_
            clear hok
            intro hok
            refine TrAny.prom (i := 7) (d := 35) hok (OpVal.yes rfl rfl rfl rfl (bt_dec h16) (v_arith rfl rfl rfl ar_eql)) (by kernel_rfl) rfl (bl rfl) ?_
            clear hok
            intro hok
            refine TrAny.prom (i := 8) (d := 36) hok (OpVal.plain rfl rfl (v_pick_t rfl rfl (bt_dec h16) rfl)) (by kernel_rfl) rfl (bl rfl) ?_
            clear hok
            intro hok
            refine TrAny.prom (i := 9) (d := 37) hok (OpVal.plain rfl rfl (v_move rfl rfl)) (by kernel_rfl) rfl (bl rfl) ?_
            clear hok
            intro hok
            refine TrAny.prom (i := 10) (d := 38) hok (OpVal.yes rfl rfl rfl rfl (bt_dec h17) (v_move rfl rfl)) (by kernel_rfl) rfl (bl rfl) ?_
            clear hok
            intro hok
            refine TrAny.prom (i := 11) (d := 39) hok (OpVal.yes rfl rfl rfl rfl (bt_dec h17) (v_arith rfl rfl rfl ar_eql)) (by kernel_rfl) rfl (bl rfl) ?_
            clear hok
            intro hok
            refine TrAny.prom (i := 12) (d := 40) hok (OpVal.plain rfl rfl (v_pick_t rfl rfl (bt_dec h17) rfl)) (by kernel_rfl) rfl (bl rfl) ?_
            clear hok
            intro hok
            refine TrAny.prom (i := 13) (d := 41) hok (OpVal.plain rfl rfl (v_move rfl rfl)) (by kernel_rfl) rfl (bl rfl) ?_
            clear hok
            intro hok
            refine TrAny.prom (i := 14) (d := 42) hok (OpVal.no rfl (fun c h => by cases h) rfl rfl rfl (gn_t (bf_dec h18))) (by kernel_rfl) rfl (bl rfl) ?_
            clear hok
            intro hok
            refine TrAny.prom (i := 15) (d := 43) hok (OpVal.no rfl (fun c h => by cases h) rfl rfl rfl (gn_t (bf_dec h18))) (by kernel_rfl) rfl (bl rfl) ?_
            clear hok
            intro hok
            refine TrAny.prom (i := 16) (d := 44) hok (OpVal.plain rfl rfl (v_pick_f rfl rfl (bf_dec h18) rfl)) (by kernel_rfl) rfl (bl rfl) ?_
            clear hok
            intro hok
            refine TrAny.prom (i := 17) (d := 45) hok (OpVal.plain rfl rfl (v_move rfl rfl)) (by kernel_rfl) rfl (bl rfl) ?_
            clear hok
            intro hok
            refine TrAny.prom (i := 18) (d := 46) hok (OpVal.no rfl (fun c h => by cases h) rfl rfl rfl (gn_t rfl)) (by kernel_rfl) rfl (bl rfl) ?_
            clear hok
            intro hok
            refine TrAny.prom (i := 19) (d := 47) hok (OpVal.no rfl (fun c h => by cases h) rfl rfl rfl (gn_t rfl)) (by kernel_rfl) rfl (bl rfl) ?_
            clear hok
            intro hok
            refine TrAny.prom (i := 20) (d := 48) hok (OpVal.plain rfl rfl (v_pick_f rfl rfl rfl rfl)) (by kernel_rfl) rfl (bl rfl) ?_
            clear hok
            intro hok
            refine TrAny.prom (i := 21) (d := 49) hok (OpVal.plain rfl rfl (v_move rfl rfl)) (by kernel_rfl) rfl (bl rfl) ?_
            clear hok
            intro hok
            refine TrAny.prom (i := 22) (d := 50) hok (OpVal.no rfl (fun c h => by cases h) rfl rfl rfl (gn_t rfl)) (by kernel_rfl) rfl (bl rfl) ?_
            clear hok
            intro hok
            refine TrAny.prom (i := 23) (d := 51) hok (OpVal.no rfl (fun c h => by cases h) rfl rfl rfl (gn_t rfl)) (by kernel_rfl) rfl (bl rfl) ?_
            clear hok
            intro hok
            refine TrAny.prom (i := 24) (d := 52) hok (OpVal.plain rfl rfl (v_pick_f rfl rfl rfl rfl)) (by kernel_rfl) rfl (bl rfl) ?_
            clear hok
            intro hok
            refine TrAny.prom (i := 25) (d := 0) hok (OpVal.plain rfl rfl (v_assign rfl rfl)) (by kernel_rfl) rfl (bl rfl) ?_
            clear hok
            intro hok
            refine TrAny.done (by kernel_rfl) (by kernel_rfl) hok (by kernel_rfl) (⟨(), Imp.re _ [] [] (sc rfl sn) (by decide) rfl rfl rfl⟩)
        · refine (qthen_n ?_)
          have hz := Option.some.inj H
          subst hz
          refine Tr.ret (ret_r ⟨[(0, .bool false)], [], [], []⟩ [.bool false] [] [] (Imp.re _ [] [] (sc rfl sn) (by decide) rfl rfl rfl) rfl rfl ⟨rfl, rfl, rfl⟩ (.cons (resv_tmp rfl) .nil))
    · refine TrAny.cut (ι := Unit) (fun m123 => ⟨[(0, .bool false)], [], [], []⟩) ?_ (fun m123 => ?_)
      · refine TrAny.fork [0, 2] (by kernel_rfl) hok ⟨0, by decide, bl rfl⟩ (by kernel_rfl) (.cons ?_ (.cons ?_ .nil))
        · refine step_n rfl (by kernel_rfl) rfl (op_call0' (vs := [.int .u64 300]) (cap := []) [] rfl rfl (bl rfl) rfl rfl en22 (c_varint_Put ((300 : Int)) r10 hr10) rfl (fun ret M' F' hR101 => ?_))
          obtain ⟨m124, rfl, rfl, rfl⟩ := hR101
          refine nxp hok (kp_aw (by kernel_rfl)) rfl (by kernel_rfl) ?_
          clear hok
          intro hok
          refine TrAny.prom (i := 1) (d := 29) hok (OpVal.plain rfl rfl (v_bstr (k := 3) rfl Try.underlying23 Try.underlying5 Try.underlying9 rfl rfl rfl)) (by kernel_rfl) rfl (bl rfl) ?_
          clear hok
          intro hok
          refine TrAny.next (j := 2) (by kernel_rfl) hok rfl (by kernel_rfl) (op_buildSlice' (rp := (rInt .u8)) (xs := [(172 : Int), (2 : Int)]) (vs := [.int .u8 172, .int .u8 2]) (out := [.int .u8 172, .int .u8 2]) rfl (bl rfl) rfl sl23 ty5 ze5 rfl rfl (by decide) (by decide) rfl (fun γ w hF => (rowc rfl (rowc rfl rown rfl) rfl)) (fun A101 => ?_))
          refine nxp hok (kp_imp (kp_cf rfl)) rfl (by kernel_rfl) ?_
          clear hok
          intro hok
          refine TrAny.prom (i := 3) (d := 31) hok (OpVal.plain rfl rfl (v_bstr (k := 4) rfl Try.underlying23 Try.underlying5 Try.underlying9 rfl rfl rfl)) (by kernel_rfl) rfl (bl rfl) ?_
          clear hok
          intro hok
          refine TrAny.prom (i := 4) (d := 32) hok (OpVal.plain rfl rfl (v_streq rfl rfl rfl)) (by kernel_rfl) rfl (bl rfl) ?_
          clear hok
          intro hok
          refine TrAny.prom (i := 5) (d := 33) hok (OpVal.plain rfl rfl (v_move rfl rfl)) (by kernel_rfl) rfl (bl rfl) ?_
          clear hok
          intro hok
          refine TrAny.prom (i := 6) (d := 34) hok (OpVal.yes rfl rfl rfl rfl (bt_dec h16) (v_move rfl rfl)) (by kernel_rfl) rfl (bl rfl) ?_
          clear hok
          intro hok
          refine TrAny.prom (i := 7) (d := 35) hok (OpVal.yes rfl rfl rfl rfl (bt_dec h16) (v_arith rfl rfl rfl ar_eql)) (by kernel_rfl) rfl (bl rfl) ?_
          clear hok
          intro hok
          refine TrAny.prom (i := 8) (d := 36) hok (OpVal.plain rfl rfl (v_pick_t rfl rfl (bt_dec h16) rfl)) (by kernel_rfl) rfl (bl rfl) ?_
          clear hok
          intro hok
          refine TrAny.prom (i := 9) (d := 37) hok (OpVal.plain rfl rfl (v_move rfl rfl)) (by kernel_rfl) rfl (bl rfl) ?_
          clear hok
          intro hok
          refine TrAny.prom (i := 10) (d := 38) hok (OpVal.no rfl (fun c h => by cases h) rfl rfl rfl (gn_t (bf_dec h17))) (by kernel_rfl) rfl (bl rfl) ?_
          clear hok
          intro hok
          refine TrAny.prom (i := 11) (d := 39) hok (OpVal.no rfl (fun c h => by cases h) rfl rfl rfl (gn_t (bf_dec h17))) (by kernel_rfl) rfl (bl rfl) ?_
          clear hok
          intro hok
          refine TrAny.prom (i := 12) (d := 40) hok (OpVal.plain rfl rfl (v_pick_f rfl rfl (bf_dec h17) rfl)) (by kernel_rfl) rfl (bl rfl) ?_
          clear hok
          intro hok
          refine TrAny.prom (i := 13) (d := 41) hok (OpVal.plain rfl rfl (v_move rfl rfl)) (by kernel_rfl) rfl (bl rfl) ?_
          clear hok
          intro hok
          refine TrAny.prom (i := 14) (d := 42) hok (OpVal.no rfl (fun c h => by cases h) rfl rfl rfl (gn_t rfl)) (by kernel_rfl) rfl (bl rfl) ?_
          clear hok
          intro hok
          refine TrAny.prom (i := 15) (d := 43) hok (OpVal.no rfl (fun c h => by cases h) rfl rfl rfl (gn_t rfl)) (by kernel_rfl) rfl (bl rfl) ?_
          clear hok
          intro hok
          refine TrAny.prom (i := 16) (d := 44) hok (OpVal.plain rfl rfl (v_pick_f rfl rfl rfl rfl)) (by kernel_rfl) rfl (bl rfl) ?_
          clear hok
          intro hok
          refine TrAny.prom (i := 17) (d := 45) hok (OpVal.plain rfl rfl (v_move rfl rfl)) (by kernel_rfl) rfl (bl rfl) ?_
          clear hok
          intro hok
          refine TrAny.prom (i := 18) (d := 46) hok (OpVal.no rfl (fun c h => by cases h) rfl rfl rfl (gn_t rfl)) (by kernel_rfl) rfl (bl rfl) ?_
          clear hok
          intro hok
          refine TrAny.prom (i := 19) (d := 47) hok (OpVal.no rfl (fun c h => by cases h) rfl rfl rfl (gn_t rfl)) (by kernel_rfl) rfl (bl rfl) ?_
          clear hok
          intro hok
          refine TrAny.prom (i := 20) (d := 48) hok (OpVal.plain rfl rfl (v_pick_f rfl rfl rfl rfl)) (by kernel_rfl) rfl (bl rfl) ?_
          clear hok
          intro hok
          refine TrAny.prom (i := 21) (d := 49) hok (OpVal.plain rfl rfl (v_move rfl rfl)) (by kernel_rfl) rfl (bl rfl) ?_
          clear hok
          intro hok
          refine TrAny.prom (i := 22) (d := 50) hok (OpVal.no rfl (fun c h => by cases h) rfl rfl rfl (gn_t rfl)) (by kernel_rfl) rfl (bl rfl) ?_
          clear hok
          intro hok
          refine TrAny.prom (i := 23) (d := 51) hok (OpVal.no rfl (fun c h => by cases h) rfl rfl rfl (gn_t rfl)) (by kernel_rfl) rfl (bl rfl) ?_
          clear hok
          intro hok
          refine TrAny.prom (i := 24) (d := 52) hok (OpVal.plain rfl rfl (v_pick_f rfl rfl rfl rfl)) (by kernel_rfl) rfl (bl rfl) ?_
          clear hok
          intro hok
          refine TrAny.prom (i := 25) (d := 0) hok (OpVal.plain rfl rfl (v_assign rfl rfl)) (by kernel_rfl) rfl (bl rfl) ?_
          clear hok
          intro hok
          refine TrAny.done (by kernel_rfl) (by kernel_rfl) hok (by kernel_rfl) (⟨(), Imp.re _ [] [] (sc rfl sn) (by decide) rfl rfl rfl⟩)
        · refine step_n rfl (by kernel_rfl) rfl (op_buildSlice' (rp := (rInt .u8)) (xs := [(172 : Int), (2 : Int)]) (vs := [.int .u8 172, .int .u8 2]) (out := [.int .u8 172, .int .u8 2]) rfl (bl rfl) rfl sl23 ty5 ze5 rfl rfl (by decide) (by decide) rfl (fun γ w hF => (rowc rfl (rowc rfl rown rfl) rfl)) (fun A102 => ?_))
          refine nxp hok (kp_aw (by kernel_rfl)) rfl (by kernel_rfl) ?_
          clear hok
          intro hok
          refine TrAny.prom (i := 3) (d := 31) hok (OpVal.plain rfl rfl (v_bstr (k := 3) rfl Try.underlying23 Try.underlying5 Try.underlying9 rfl rfl rfl)) (by kernel_rfl) rfl (bl rfl) ?_
          clear hok
          intro hok
          refine TrAny.next (j := 0) (by kernel_rfl) hok rfl (by kernel_rfl) (op_call0' (vs := [.int .u64 300]) (cap := []) [] rfl rfl (bl rfl) rfl rfl en22 (c_varint_Put ((300 : Int)) r10 hr10) rfl (fun ret M' F' hR102 => ?_))
          obtain ⟨m125, rfl, rfl, rfl⟩ := hR102
          refine nxp hok (kp_imp (kp_c0 rfl)) rfl (by kernel_rfl) ?_
          clear hok
          intro hok
          refine TrAny.prom (i := 1) (d := 29) hok (OpVal.plain rfl rfl (v_bstr (k := 4) rfl Try.underlying23 Try.underlying5 Try.underlying9 rfl rfl rfl)) (by kernel_rfl) rfl (bl rfl) ?_
          clear hok
          intro hok
          refine TrAny.prom (i := 4) (d := 32) hok (OpVal.plain rfl rfl (v_streq rfl rfl rfl)) (by kernel_rfl) rfl (bl rfl) ?_
          clear hok
          intro hok
          refine TrAny.prom (i := 5) (d := 33) hok (OpVal.plain rfl rfl (v_move rfl rfl)) (by kernel_rfl) rfl (bl rfl) ?_
          clear hok
          intro hok
          refine TrAny.prom (i := 6) (d := 34) hok (OpVal.yes rfl rfl rfl rfl (bt_dec h16) (v_move rfl rfl)) (by kernel_rfl) rfl (bl rfl) ?_
          clear hok
          intro hok
          refine TrAny.prom (i := 7) (d := 35) hok (OpVal.yes rfl rfl rfl rfl (bt_dec h16) (v_arith rfl rfl rfl ar_eql)) (by kernel_rfl) rfl (bl rfl) ?_
          clear hok
          intro hok
          refine TrAny.prom (i := 8) (d := 36) hok (OpVal.plain rfl rfl (v_pick_t rfl rfl (bt_dec h16) rfl)) (by kernel_rfl) rfl (bl rfl) ?_
          clear hok
          intro hok
          refine TrAny.prom (i := 9) (d := 37) hok (OpVal.plain rfl rfl (v_move rfl rfl)) (by kernel_rfl) rfl (bl rfl) ?_
          clear hok
          intro hok
          refine TrAny.prom (i := 10) (d := 38) hok (OpVal.no rfl (fun c h => by cases h) rfl rfl rfl (gn_t (bf_dec h17))) (by kernel_rfl) rfl (bl rfl) ?_
          clear hok
          intro hok
          refine TrAny.prom (i := 11) (d := 39) hok (OpVal.no rfl (fun c h => by cases h) rfl rfl rfl (gn_t (bf_dec h17))) (by kernel_rfl) rfl (bl rfl) ?_
          clear hok
          intro hok
          refine TrAny.prom (i := 12) (d := 40) hok (OpVal.plain rfl rfl (v_pick_f rfl rfl (bf_dec h17) rfl)) (by kernel_rfl) rfl (bl rfl) ?_
          clear hok
          intro hok
          refine TrAny.prom (i := 13) (d := 41) hok (OpVal.plain rfl rfl (v_move rfl rfl)) (by kernel_rfl) rfl (bl rfl) ?_
          clear hok
          intro hok
          refine TrAny.prom (i := 14) (d := 42) hok (OpVal.no rfl (fun c h => by cases h) rfl rfl rfl (gn_t rfl)) (by kernel_rfl) rfl (bl rfl) ?_
          clear hok
          intro hok
          refine TrAny.prom (i := 15) (d := 43) hok (OpVal.no rfl (fun c h => by cases h) rfl rfl rfl (gn_t rfl)) (by kernel_rfl) rfl (bl rfl) ?_
          clear hok
          intro hok
          refine TrAny.prom (i := 16) (d := 44) hok (OpVal.plain rfl rfl (v_pick_f rfl rfl rfl rfl)) (by kernel_rfl) rfl (bl rfl) ?_
          clear hok
          intro hok
          refine TrAny.prom (i := 17) (d := 45) hok (OpVal.plain rfl rfl (v_move rfl rfl)) (by kernel_rfl) rfl (bl rfl) ?_
          clear hok
          intro hok
          refine TrAny.prom (i := 18) (d := 46) hok (OpVal.no rfl (fun c h => by cases h) rfl rfl rfl (gn_t rfl)) (by kernel_rfl) rfl (bl rfl) ?_
          clear hok
          intro hok
          refine TrAny.prom (i := 19) (d := 47) hok (OpVal.no rfl (fun c h => by cases h) rfl rfl rfl (gn_t rfl)) (by kernel_rfl) rfl (bl rfl) ?_
          clear hok
          intro hok
          refine TrAny.prom (i := 20) (d := 48) hok (OpVal.plain rfl rfl (v_pick_f rfl rfl rfl rfl)) (by kernel_rfl) rfl (bl rfl) ?_
          clear hok
          intro hok
          refine TrAny.prom (i := 21) (d := 49) hok (OpVal.plain rfl rfl (v_move rfl rfl)) (by kernel_rfl) rfl (bl rfl) ?_
          clear hok
          intro hok
          refine TrAny.prom (i := 22) (d := 50) hok (OpVal.no rfl (fun c h => by cases h) rfl rfl rfl (gn_t rfl)) (by kernel_rfl) rfl (bl rfl) ?_
          clear hok
          intro hok
          refine TrAny.prom (i := 23) (d := 51) hok (OpVal.no rfl (fun c h => by cases h) rfl rfl rfl (gn_t rfl)) (by kernel_rfl) rfl (bl rfl) ?_
          clear hok
          intro hok
          refine TrAny.prom (i := 24) (d := 52) hok (OpVal.plain rfl rfl (v_pick_f rfl rfl rfl rfl)) (by kernel_rfl) rfl (bl rfl) ?_
          clear hok
          intro hok
          refine TrAny.prom (i := 25) (d := 0) hok (OpVal.plain rfl rfl (v_assign rfl rfl)) (by kernel_rfl) rfl (bl rfl) ?_
          clear hok
          intro hok
          refine TrAny.done (by kernel_rfl) (by kernel_rfl) hok (by kernel_rfl) (⟨(), Imp.re _ [] [] (sc rfl sn) (by decide) rfl rfl rfl⟩)
      · refine (qthen_n ?_)
        have hz := Option.some.inj H
        subst hz
        refine Tr.ret (ret_r ⟨[(0, .bool false)], [], [], []⟩ [.bool false] [] [] (Imp.re _ [] [] (sc rfl sn) (by decide) rfl rfl rfl) rfl rfl ⟨rfl, rfl, rfl⟩ (.cons (resv_tmp rfl) .nil))
  · refine TrAny.cut (ι := Unit) (fun m128 => ⟨[(0, .bool false)], [], [], []⟩) ?_ (fun m128 => ?_)
    · refine TrAny.fork [0, 2] (by kernel_rfl) hok ⟨0, by decide, bl rfl⟩ (by kernel_rfl) (.cons ?_ (.cons ?_ .nil))
      · refine step_n rfl (by kernel_rfl) rfl (op_call0' (vs := [.int .u64 300]) (cap := []) [] rfl rfl (bl rfl) rfl rfl en22 (c_varint_Put ((300 : Int)) r10 hr10) rfl (fun ret M' F' hR105 => ?_))
        obtain ⟨m129, rfl, rfl, rfl⟩ := hR105
        refine nxp hok (kp_aw (by kernel_rfl)) rfl (by kernel_rfl) ?_
        clear hok
        intro hok
        refine TrAny.prom (i := 1) (d := 29) hok (OpVal.plain rfl rfl (v_bstr (k := 3) rfl Try.underlying23 Try.underlying5 Try.underlying9 rfl rfl rfl)) (by kernel_rfl) rfl (bl rfl) ?_
        clear hok
        intro hok
        refine TrAny.next (j := 2) (by kernel_rfl) hok rfl (by kernel_rfl) (op_buildSlice' (rp := (rInt .u8)) (xs := [(172 : Int), (2 : Int)]) (vs := [.int .u8 172, .int .u8 2]) (out := [.int .u8 172, .int .u8 2]) rfl (bl rfl) rfl sl23 ty5 ze5 rfl rfl (by decide) (by decide) rfl (fun γ w hF => (rowc rfl (rowc rfl rown rfl) rfl)) (fun A105 => ?_))
        refine nxp hok (kp_imp (kp_cf rfl)) rfl (by kernel_rfl) ?_
        clear hok
        intro hok
        refine TrAny.prom (i := 3) (d := 31) hok (OpVal.plain rfl rfl (v_bstr (k := 4) rfl Try.underlying23 Try.underlying5 Try.underlying9 rfl rfl rfl)) (by kernel_rfl) rfl (bl rfl) ?_
        clear hok
        intro hok
        refine TrAny.prom (i := 4) (d := 32) hok (OpVal.plain rfl rfl (v_streq rfl rfl rfl)) (by kernel_rfl) rfl (bl rfl) ?_
        clear hok
        intro hok
        refine TrAny.prom (i := 5) (d := 33) hok (OpVal.plain rfl rfl (v_move rfl rfl)) (by kernel_rfl) rfl (bl rfl) ?_
        clear hok
        intro hok
        refine TrAny.prom (i := 6) (d := 34) hok (OpVal.no rfl (fun c h => by cases h) rfl rfl rfl (gn_t (bf_dec h16))) (by kernel_rfl) rfl (bl rfl) ?_
        clear hok
        intro hok
        refine TrAny.prom (i := 7) (d := 35) hok (OpVal.no rfl (fun c h => by cases h) rfl rfl rfl (gn_t (bf_dec h16))) (by kernel_rfl) rfl (bl rfl) ?_
        clear hok
        intro hok
        refine TrAny.prom (i := 8) (d := 36) hok (OpVal.plain rfl rfl (v_pick_f rfl rfl (bf_dec h16) rfl)) (by kernel_rfl) rfl (bl rfl) ?_
        clear hok
        intro hok
        refine TrAny.prom (i := 9) (d := 37) hok (OpVal.plain rfl rfl (v_move rfl rfl)) (by kernel_rfl) rfl (bl rfl) ?_
        clear hok
        intro hok
        refine TrAny.prom (i := 10) (d := 38) hok (OpVal.no rfl (fun c h => by cases h) rfl rfl rfl (gn_t rfl)) (by kernel_rfl) rfl (bl rfl) ?_
        clear hok
        intro hok
        refine TrAny.prom (i := 11) (d := 39) hok (OpVal.no rfl (fun c h => by cases h) rfl rfl rfl (gn_t rfl)) (by kernel_rfl) rfl (bl rfl) ?_
        clear hok
        intro hok
        refine TrAny.prom (i := 12) (d := 40) hok (OpVal.plain rfl rfl (v_pick_f rfl rfl rfl rfl)) (by kernel_rfl) rfl (bl rfl) ?_
        clear hok
        intro hok
        refine TrAny.prom (i := 13) (d := 41) hok (OpVal.plain rfl rfl (v_move rfl rfl)) (by kernel_rfl) rfl (bl rfl) ?_
        clear hok
        intro hok
        refine TrAny.prom (i := 14) (d := 42) hok (OpVal.no rfl (fun c h => by cases h) rfl rfl rfl (gn_t rfl)) (by kernel_rfl) rfl (bl rfl) ?_
        clear hok
        intro hok
        refine TrAny.prom (i := 15) (d := 43) hok (OpVal.no rfl (fun c h => by cases h) rfl rfl rfl (gn_t rfl)) (by kernel_rfl) rfl (bl rfl) ?_
        clear hok
        intro hok
        refine TrAny.prom (i := 16) (d := 44) hok (OpVal.plain rfl rfl (v_pick_f rfl rfl rfl rfl)) (by kernel_rfl) rfl (bl rfl) ?_
        clear hok
        intro hok
        refine TrAny.prom (i := 17) (d := 45) hok (OpVal.plain rfl rfl (v_move rfl rfl)) (by kernel_rfl) rfl (bl rfl) ?_
        clear hok
        intro hok
        refine TrAny.prom (i := 18) (d := 46) hok (OpVal.no rfl (fun c h => by cases h) rfl rfl rfl (gn_t rfl)) (by kernel_rfl) rfl (bl rfl) ?_
        clear hok
        intro hok
        refine TrAny.prom (i := 19) (d := 47) hok (OpVal.no rfl (fun c h => by cases h) rfl rfl rfl (gn_t rfl)) (by kernel_rfl) rfl (bl rfl) ?_
        clear hok
        intro hok
        refine TrAny.prom (i := 20) (d := 48) hok (OpVal.plain rfl rfl (v_pick_f rfl rfl rfl rfl)) (by kernel_rfl) rfl (bl rfl) ?_
        clear hok
        intro hok
        refine TrAny.prom (i := 21) (d := 49) hok (OpVal.plain rfl rfl (v_move rfl rfl)) (by kernel_rfl) rfl (bl rfl) ?_
        clear hok
        intro hok
        refine TrAny.prom (i := 22) (d := 50) hok (OpVal.no rfl (fun c h => by cases h) rfl rfl rfl (gn_t rfl)) (by kernel_rfl) rfl (bl rfl) ?_
        clear hok
        intro hok
        refine TrAny.prom (i := 23) (d := 51) hok (OpVal.no rfl (fun c h => by cases h) rfl rfl rfl (gn_t rfl)) (by kernel_rfl) rfl (bl rfl) ?_
        clear hok
        intro hok
        refine TrAny.prom (i := 24) (d := 52) hok (OpVal.plain rfl rfl (v_pick_f rfl rfl rfl rfl)) (by kernel_rfl) rfl (bl rfl) ?_
        clear hok
        intro hok
        refine TrAny.prom (i := 25) (d := 0) hok (OpVal.plain rfl rfl (v_assign rfl rfl)) (by kernel_rfl) rfl (bl rfl) ?_
        clear hok
        intro hok
        refine TrAny.done (by kernel_rfl) (by kernel_rfl) hok (by kernel_rfl) (⟨(), Imp.re _ [] [] (sc rfl sn) (by decide) rfl rfl rfl⟩)
      · refine step_n rfl (by kernel_rfl) rfl (op_buildSlice' (rp := (rInt .u8)) (xs := [(172 : Int), (2 : Int)]) (vs := [.int .u8 172, .int .u8 2]) (out := [.int .u8 172, .int .u8 2]) rfl (bl rfl) rfl sl23 ty5 ze5 rfl rfl (by decide) (by decide) rfl (fun γ w hF => (rowc rfl (rowc rfl rown rfl) rfl)) (fun A106 => ?_))
        refine nxp hok (kp_aw (by kernel_rfl)) rfl (by kernel_rfl) ?_
        clear hok
        intro hok
        refine TrAny.prom (i := 3) (d := 31) hok (OpVal.plain rfl rfl (v_bstr (k := 3) rfl Try.underlying23 Try.underlying5 Try.underlying9 rfl rfl rfl)) (by kernel_rfl) rfl (bl rfl) ?_
        clear hok
        intro hok
        refine TrAny.next (j := 0) (by kernel_rfl) hok rfl (by kernel_rfl) (op_call0' (vs := [.int .u64 300]) (cap := []) [] rfl rfl (bl rfl) rfl rfl en22 (c_varint_Put ((300 : Int)) r10 hr10) rfl (fun ret M' F' hR106 => ?_))
        obtain ⟨m130, rfl, rfl, rfl⟩ := hR106
        refine nxp hok (kp_imp (kp_c0 rfl)) rfl (by kernel_rfl) ?_
        clear hok
        intro hok
        refine TrAny.prom (i := 1) (d := 29) hok (OpVal.plain rfl rfl (v_bstr (k := 4) rfl Try.underlying23 Try.underlying5 Try.underlying9 rfl rfl rfl)) (by kernel_rfl) rfl (bl rfl) ?_
        clear hok
        intro hok
        refine TrAny.prom (i := 4) (d := 32) hok (OpVal.plain rfl rfl (v_streq rfl rfl rfl)) (by kernel_rfl) rfl (bl rfl) ?_
        clear hok
        intro hok
        refine TrAny.prom (i := 5) (d := 33) hok (OpVal.plain rfl rfl (v_move rfl rfl)) (by kernel_rfl) rfl (bl rfl) ?_
        clear hok
        intro hok
        refine TrAny.prom (i := 6) (d := 34) hok (OpVal.no rfl (fun c h => by cases h) rfl rfl rfl (gn_t (bf_dec h16))) (by kernel_rfl) rfl (bl rfl) ?_
        clear hok
        intro hok
        refine TrAny.prom (i := 7) (d := 35) hok (OpVal.no rfl (fun c h => by cases h) rfl rfl rfl (gn_t (bf_dec h16))) (by kernel_rfl) rfl (bl rfl) ?_
        clear hok
        intro hok
        refine TrAny.prom (i := 8) (d := 36) hok (OpVal.plain rfl rfl (v_pick_f rfl rfl (bf_dec h16) rfl)) (by kernel_rfl) rfl (bl rfl) ?_
        clear hok
        intro hok
        refine TrAny.prom (i := 9) (d := 37) hok (OpVal.plain rfl rfl (v_move rfl rfl)) (by kernel_rfl) rfl (bl rfl) ?_
        clear hok
        intro hok
        refine TrAny.prom (i := 10) (d := 38) hok (OpVal.no rfl (fun c h => by cases h) rfl rfl rfl (gn_t rfl)) (by kernel_rfl) rfl (bl rfl) ?_
        clear hok
        intro hok
        refine TrAny.prom (i := 11) (d := 39) hok (OpVal.no rfl (fun c h => by cases h) rfl rfl rfl (gn_t rfl)) (by kernel_rfl) rfl (bl rfl) ?_
        clear hok
        intro hok
        refine TrAny.prom (i := 12) (d := 40) hok (OpVal.plain rfl rfl (v_pick_f rfl rfl rfl rfl)) (by kernel_rfl) rfl (bl rfl) ?_
        clear hok
        intro hok
        refine TrAny.prom (i := 13) (d := 41) hok (OpVal.plain rfl rfl (v_move rfl rfl)) (by kernel_rfl) rfl (bl rfl) ?_
        clear hok
        intro hok
        refine TrAny.prom (i := 14) (d := 42) hok (OpVal.no rfl (fun c h => by cases h) rfl rfl rfl (gn_t rfl)) (by kernel_rfl) rfl (bl rfl) ?_
        clear hok
        intro hok
        refine TrAny.prom (i := 15) (d := 43) hok (OpVal.no rfl (fun c h => by cases h) rfl rfl rfl (gn_t rfl)) (by kernel_rfl) rfl (bl rfl) ?_
        clear hok
        intro hok
        refine TrAny.prom (i := 16) (d := 44) hok (OpVal.plain rfl rfl (v_pick_f rfl rfl rfl rfl)) (by kernel_rfl) rfl (bl rfl) ?_
        clear hok
        intro hok
        refine TrAny.prom (i := 17) (d := 45) hok (OpVal.plain rfl rfl (v_move rfl rfl)) (by kernel_rfl) rfl (bl rfl) ?_
        clear hok
        intro hok
        refine TrAny.prom (i := 18) (d := 46) hok (OpVal.no rfl (fun c h => by cases h) rfl rfl rfl (gn_t rfl)) (by kernel_rfl) rfl (bl rfl) ?_
        clear hok
        intro hok
        refine TrAny.prom (i := 19) (d := 47) hok (OpVal.no rfl (fun c h => by cases h) rfl rfl rfl (gn_t rfl)) (by kernel_rfl) rfl (bl rfl) ?_
        clear hok
        intro hok
        refine TrAny.prom (i := 20) (d := 48) hok (OpVal.plain rfl rfl (v_pick_f rfl rfl rfl rfl)) (by kernel_rfl) rfl (bl rfl) ?_
        clear hok
        intro hok
        refine TrAny.prom (i := 21) (d := 49) hok (OpVal.plain rfl rfl (v_move rfl rfl)) (by kernel_rfl) rfl (bl rfl) ?_
        clear hok
        intro hok
        refine TrAny.prom (i := 22) (d := 50) hok (OpVal.no rfl (fun c h => by cases h) rfl rfl rfl (gn_t rfl)) (by kernel_rfl) rfl (bl rfl) ?_
        clear hok
        intro hok
        refine TrAny.prom (i := 23) (d := 51) hok (OpVal.no rfl (fun c h => by cases h) rfl rfl rfl (gn_t rfl)) (by kernel_rfl) rfl (bl rfl) ?_
        clear hok
        intro hok
        refine TrAny.prom (i := 24) (d := 52) hok (OpVal.plain rfl rfl (v_pick_f rfl rfl rfl rfl)) (by kernel_rfl) rfl (bl rfl) ?_
        clear hok
        intro hok
        refine TrAny.prom (i := 25) (d := 0) hok (OpVal.plain rfl rfl (v_assign rfl rfl)) (by kernel_rfl) rfl (bl rfl) ?_
        clear hok
        intro hok
        refine TrAny.done (by kernel_rfl) (by kernel_rfl) hok (by kernel_rfl) (⟨(), Imp.re _ [] [] (sc rfl sn) (by decide) rfl rfl rfl⟩)
    · refine (qthen_n ?_)
      have hz := Option.some.inj H
      subst hz
      refine Tr.ret (ret_r ⟨[(0, .bool false)], [], [], []⟩ [.bool false] [] [] (Imp.re _ [] [] (sc rfl sn) (by decide) rfl rfl rfl) rfl rfl ⟨rfl, rfl, rfl⟩ (.cons (resv_tmp rfl) .nil))
end Go.Proofs.Ythgeodagikmpjaa.W
