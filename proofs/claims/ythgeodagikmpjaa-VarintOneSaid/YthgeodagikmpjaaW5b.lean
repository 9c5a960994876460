/- The contracts of the walked functions: the printed walks. -/
import Derived.Test.YthgeodagikmpjaaKb
import Derived.Test.YthgeodagikmpjaaQb
import Derived.Test.YthgeodagikmpjaaWlaw01ab
import Derived.Test.YthgeodagikmpjaaWvarintab
namespace Go.Proofs.Ythgeodagikmpjaa.W
open Go Go.Proofs Go.Proofs.Ythgeodagikmpjaa.L Go.Proofs.Ythgeodagikmpjaa.Pu
set_option linter.unusedVariables false
set_option maxHeartbeats 4000000

theorem c_law01_VarintOne (p1 : List Int) (p2 : Int) (p3 : Int) (A1 : Option Addr) (c1 : Nat) (r : Bool) (H : law01_VarintOne p1 p2 p3 = some r) :
    Ctr Try.prog 5 [.slice A1 p1.length c1, .int .u64 p2, .int .u64 p3] [] [slF (rInt .u8) A1 c1 p1] (fun ret M' F' => ret = .bool r ∧ M' = [] ∧ F' = []) := by
  unfold law01_VarintOne at H
  refine ctr_ofI (N := 64) Try.func5 rfl Try.ntmps5 rfl (Nat.le_of_ble_eq_true rfl) (fun γ0 w0 => ?_)
  refine Tr.seq ?_
  refine Tr.region ?_
  refine TrL.v (v_assign rfl rfl) rfl rfl (bl rfl) ?_
  refine TrL.nil (qthen_n ?_)
  refine Tr.seq ?_
  refine Tr.region ?_
  obtain ⟨r19, hr19, H⟩ := bnd H
  refine TrL.cons rfl (op_call0' (vs := []) (cap := []) [] rfl rfl (bl rfl) rfl rfl en19 (c_law01_awake r19 hr19) rfl (fun ret M' F' hR19 => ?_))
  obtain ⟨rfl, rfl, rfl⟩ := hR19
  refine TrL.v (v_assign rfl rfl) rfl rfl (bl rfl) ?_
  refine TrL.nil (qthen_n ?_)
  refine Tr.seq ?_
  refine Tr.seq ?_
  refine Tr.region ?_
  refine TrL.v (v_move rfl rfl) rfl rfl (bl rfl) ?_
  refine TrL.v (v_len rfl sl23 rfl) rfl rfl (bl rfl) ?_
  refine TrL.v (v_arith rfl rfl rfl ar_gtr) rfl rfl (bl rfl) ?_
  refine TrL.nil (qthen_n ?_)
  rcases ifc H with ⟨h46, H⟩ | ⟨h46, H⟩
  · refine Tr.cond_t rfl (bt_dec h46) ?_
    refine Tr.seq ?_
    refine Tr.region ?_
    refine TrL.v (v_move rfl rfl) rfl rfl (bl rfl) ?_
    refine TrL.v (v_assign rfl rfl) rfl rfl (bl rfl) ?_
    refine TrL.nil (qthen_n ?_)
    have hz := Option.some.inj H
    subst hz
    refine Tr.ret (qthen_r (ret_r ⟨[(6, .bool r19)], [], [], []⟩ [.bool r19] [] [] (Imp.re _ [] [] (sc rfl sn) (by decide) rfl rfl rfl) rfl rfl ⟨rfl, rfl, rfl⟩ (.cons (resv_tmp rfl) .nil)))
  · refine Tr.cond_f rfl (bf_dec h46) ?_
    refine Tr.skip (qthen_n ?_)
    refine Tr.seq ?_
    refine Tr.region ?_
    refine TrL.v (v_move rfl rfl) rfl rfl (bl rfl) ?_
    obtain ⟨r20, hr20, H⟩ := bnd H
    refine TrL.cons rfl (op_call0' (vs := [.slice A1 p1.length c1]) (cap := []) [0] rfl rfl (bl rfl) rfl rfl en20 (c_varint_Take p1 A1 c1 r20 hr20) rfl (fun ret M' F' hR20 => ?_))
    obtain ⟨rfl, rfl, rfl⟩ := hR20
    refine TrL.v (v_move rfl rfl) rfl rfl (bl rfl) ?_
    refine TrL.v (v_extract rfl rfl rfl) rfl rfl (bl rfl) ?_
    refine TrL.v (v_extract rfl rfl rfl) rfl rfl (bl rfl) ?_
    refine TrL.v (v_extract rfl rfl rfl) rfl rfl (bl rfl) ?_
    refine TrL.v (v_assign rfl rfl) rfl rfl (bl rfl) ?_
    refine TrL.v (v_assign rfl rfl) rfl rfl (bl rfl) ?_
    refine TrL.v (v_assign rfl rfl) rfl rfl (bl rfl) ?_
    refine TrL.nil (qthen_n ?_)
    refine Tr.seq ?_
    refine Tr.regionD drawn (fun hok => ?_)
    refine TrAny.prom (i := 0) (d := 23) hok (OpVal.plain rfl rfl (v_move rfl rfl)) (by kernel_rfl) rfl (bl rfl) ?_
    clear hok
    intro hok
    refine TrAny.prom (i := 3) (d := 26) hok (OpVal.plain rfl rfl (v_move rfl rfl)) (by kernel_rfl) rfl (bl rfl) ?_
    clear hok
    intro hok
    obtain ⟨r23, hr23, H⟩ := bnd H
    refine TrAny.next (j := 1) (by kernel_rfl) hok rfl (by kernel_rfl) (op_call0' (vs := [.int .u64 p2]) (cap := []) [] rfl rfl (bl rfl) rfl rfl en22 (c_varint_Put p2 r23 hr23) rfl (fun ret M' F' hR23 => ?_))
    obtain ⟨m23, rfl, rfl, rfl⟩ := hR23
    refine nxp hok (kp_imp (kp_c0 rfl)) rfl (by kernel_rfl) ?_
    clear hok
    intro hok
    refine TrAny.prom (i := 2) (d := 25) hok (OpVal.plain rfl rfl (v_bstr (k := 1) rfl Try.underlying23 Try.underlying5 Try.underlying9 rfl rfl rfl)) (by kernel_rfl) rfl (bl rfl) ?_
    clear hok
    intro hok
    obtain ⟨r24, hr24, H⟩ := bnd H
    refine TrAny.next (j := 4) (by kernel_rfl) hok rfl (by kernel_rfl) (op_call0' (vs := [.int .u64 p3]) (cap := []) [] rfl rfl (bl rfl) rfl rfl en22 (c_varint_Put p3 r24 hr24) rfl (fun ret M' F' hR24 => ?_))
    obtain ⟨m24, rfl, rfl, rfl⟩ := hR24
    refine nxp hok (kp_imp (kp_c0 rfl)) rfl (by kernel_rfl) ?_
    clear hok
    intro hok
    refine TrAny.prom (i := 5) (d := 28) hok (OpVal.plain rfl rfl (v_bstr (k := 2) rfl Try.underlying23 Try.underlying5 Try.underlying9 rfl rfl rfl)) (by kernel_rfl) rfl (bl rfl) ?_
    clear hok
    intro hok
    refine TrAny.prom (i := 6) (d := 29) hok (OpVal.plain rfl rfl (v_streq rfl rfl rfl)) (by kernel_rfl) rfl (bl rfl) ?_
    clear hok
    intro hok
    refine TrAny.prom (i := 7) (d := 11) hok (OpVal.plain rfl rfl (v_assign rfl rfl)) (by kernel_rfl) rfl (bl rfl) ?_
    clear hok
    intro hok
    refine TrAny.done (by kernel_rfl) (by kernel_rfl) hok (by kernel_rfl) (qthen_n ?_)
    refine Tr.seq ?_
    refine Tr.re ⟨[(0, .slice A1 p1.length c1), (1, .int .u64 p2), (2, .int .u64 p3), (7, .bool r19), (8, .int .u64 r20.1), (9, .int .i64 r20.2.1), (10, .int .i64 r20.2.2), (11, .bool (decide ((bstr r23) = (bstr r24)))), (12, .bool r19), (13, .slice A1 p1.length c1), (14, .int .i64 ((p1.length : Int))), (15, .bool (decide (100 < ((p1.length : Int))))), (17, .tuple #[.int .u64 r20.1, .int .i64 r20.2.1, .int .i64 r20.2.2]), (18, .slice A1 p1.length c1), (19, .tuple #[.int .u64 r20.1, .int .i64 r20.2.1, .int .i64 r20.2.2]), (20, .int .u64 r20.1), (21, .int .i64 r20.2.1), (22, .int .i64 r20.2.2), (23, .int .u64 p2), (24, .slice m23.1 r23.length m23.2), (25, .string (bstr r23)), (26, .int .u64 p3), (27, .slice m24.1 r24.length m24.2), (28, .string (bstr r24)), (29, .bool (decide ((bstr r23) = (bstr r24))))], [], [slF (rInt .u8) A1 c1 p1, slF (rInt .u8) m23.1 m23.2 r23, slF (rInt .u8) m24.1 m24.2 r24], []⟩ [] [0, 1, 2] (sc rfl (sc rfl (sc rfl (sc rfl (sc rfl (sc rfl (sc rfl (sc rfl (sc rfl (sc rfl (sc rfl (sc rfl (sc rfl (sc rfl (sc rfl (sc rfl (sc rfl (sc rfl (sc rfl (sc rfl (sc rfl (sc rfl (sc rfl (sc rfl (sc rfl sn))))))))))))))))))))))))) (by decide) rfl rfl rfl ?_
    refine Tr.regionD drawn (fun hok => ?_)
    refine TrAny.prom (i := 0) (d := 30) hok (OpVal.plain rfl rfl (v_move rfl rfl)) (by kernel_rfl) rfl (bl rfl) ?_
    clear hok
    intro hok
    refine TrAny.prom (i := 1) (d := 31) hok (OpVal.plain rfl rfl (v_move rfl rfl)) (by kernel_rfl) rfl (bl rfl) ?_
    clear hok
    intro hok
    rcases ifc H with ⟨h80, H⟩ | ⟨h80, H⟩
    · refine TrAny.prom (i := 2) (d := 32) hok (OpVal.yes rfl rfl rfl rfl h80 (v_move rfl rfl)) (by kernel_rfl) rfl (bl rfl) ?_
      clear hok
      intro hok
      refine TrAny.prom (i := 3) (d := 33) hok (OpVal.yes rfl rfl rfl rfl h80 (v_move rfl rfl)) (by kernel_rfl) rfl (bl rfl) ?_
      clear hok
      intro hok
      refine TrAny.prom (i := 4) (d := 34) hok (OpVal.yes rfl rfl rfl rfl h80 (v_move rfl rfl)) (by kernel_rfl) rfl (bl rfl) ?_
      clear hok
      intro hok
      refine TrAny.prom (i := 5) (d := 35) hok (OpVal.yes rfl rfl rfl rfl h80 (v_arith rfl rfl rfl ar_eql)) (by kernel_rfl) rfl (bl rfl) ?_
      clear hok
      intro hok
      refine TrAny.prom (i := 6) (d := 36) hok (OpVal.yes rfl rfl rfl rfl h80 (v_eqd rfl Try.underlying4 rfl rfl)) (by kernel_rfl) rfl (bl rfl) ?_
      clear hok
      intro hok
      refine TrAny.prom (i := 7) (d := 37) hok (OpVal.plain rfl rfl (v_pick_t rfl rfl h80 rfl)) (by kernel_rfl) rfl (bl rfl) ?_
      clear hok
      intro hok
      refine TrAny.prom (i := 8) (d := 38) hok (OpVal.plain rfl rfl (v_move rfl rfl)) (by kernel_rfl) rfl (bl rfl) ?_
      clear hok
      intro hok
      rcases ifc H with ⟨h81, H⟩ | ⟨h81, H⟩
      · refine TrAny.prom (i := 9) (d := 39) hok (OpVal.yes rfl rfl rfl rfl (bt_dec h81) (v_move rfl rfl)) (by kernel_rfl) rfl (bl rfl) ?_
        clear hok
        intro hok
        refine TrAny.prom (i := 10) (d := 40) hok (OpVal.yes rfl rfl rfl rfl (bt_dec h81) (v_arith rfl rfl rfl ar_neq)) (by kernel_rfl) rfl (bl rfl) ?_
        clear hok
        intro hok
        refine TrAny.prom (i := 11) (d := 41) hok (OpVal.yes rfl rfl rfl rfl (bt_dec h81) (v_move rfl rfl)) (by kernel_rfl) rfl (bl rfl) ?_
        clear hok
        intro hok
        rcases ifc H with ⟨h82, H⟩ | ⟨h82, H⟩
        · refine TrAny.prom (i := 12) (d := 42) hok (OpVal.yes rfl rfl rfl rfl (bt_dec h82) (v_move rfl rfl)) (by kernel_rfl) rfl (bl rfl) ?_
          clear hok
          intro hok
          refine TrAny.prom (i := 13) (d := 43) hok (OpVal.yes rfl rfl rfl rfl (bt_dec h82) (v_arith rfl rfl rfl ar_eql)) (by kernel_rfl) rfl (bl rfl) ?_
          clear hok
          intro hok
          refine TrAny.prom (i := 14) (d := 44) hok (OpVal.yes rfl rfl rfl rfl (bt_dec h81) (v_pick_t rfl rfl (bt_dec h82) rfl)) (by kernel_rfl) rfl (bl rfl) ?_
          clear hok
          intro hok
          refine TrAny.prom (i := 15) (d := 45) hok (OpVal.yes rfl rfl rfl rfl (bt_dec h81) (v_move rfl rfl)) (by kernel_rfl) rfl (bl rfl) ?_
          clear hok
          intro hok
          rcases ifc H with ⟨h83, H⟩ | ⟨h83, H⟩
          · refine TrAny.prom (i := 16) (d := 46) hok (OpVal.yes rfl rfl rfl rfl (bt_dec h83) (v_move rfl rfl)) (by kernel_rfl) rfl (bl rfl) ?_
            clear hok
            intro hok
            refine TrAny.prom (i := 17) (d := 47) hok (OpVal.yes rfl rfl rfl rfl (bt_dec h83) (v_arith rfl rfl rfl ar_eql)) (by kernel_rfl) rfl (bl rfl) ?_
            clear hok
            intro hok
            refine TrAny.prom (i := 18) (d := 48) hok (OpVal.yes rfl rfl rfl rfl (bt_dec h81) (v_pick_t rfl rfl (bt_dec h83) rfl)) (by kernel_rfl) rfl (bl rfl) ?_
            clear hok
            intro hok
            refine TrAny.prom (i := 19) (d := 49) hok (OpVal.yes rfl rfl rfl rfl (bt_dec h81) (v_move rfl rfl)) (by kernel_rfl) rfl (bl rfl) ?_
            clear hok
            intro hok
            rcases ifc H with ⟨h84, H⟩ | ⟨h84, H⟩
            · refine TrAny.prom (i := 20) (d := 50) hok (OpVal.no rfl (fun c h => by cases h) rfl rfl rfl (gn_f (bt_dec h84))) (by kernel_rfl) rfl (bl rfl) ?_
              clear hok
              intro hok
              refine TrAny.prom (i := 21) (d := 51) hok (OpVal.no rfl (fun c h => by cases h) rfl rfl rfl (gn_f (bt_dec h84))) (by kernel_rfl) rfl (bl rfl) ?_
              clear hok
              intro hok
              refine TrAny.prom (i := 22) (d := 52) hok (OpVal.no rfl (fun c h => by cases h) rfl rfl rfl (gn_f (bt_dec h84))) (by kernel_rfl) rfl (bl rfl) ?_
              clear hok
              intro hok
              refine TrAny.prom (i := 23) (d := 53) hok (OpVal.un rfl (fun c h => by cases h) rfl rfl rfl) (by kernel_rfl) rfl (bl rfl) ?_
              clear hok
              intro hok
              refine TrAny.prom (i := 24) (d := 54) hok (OpVal.un rfl (fun c h => by cases h) rfl rfl rfl) (by kernel_rfl) rfl (bl rfl) ?_
              clear hok
              intro hok
              refine TrAny.prom (i := 25) (d := 55) hok (OpVal.un rfl (fun c h => by cases h) rfl rfl rfl) (by kernel_rfl) rfl (bl rfl) ?_
              clear hok
              intro hok
              refine TrAny.prom (i := 26) (d := 56) hok (OpVal.un rfl (fun c h => by cases h) rfl rfl rfl) (by kernel_rfl) rfl (bl rfl) ?_
              clear hok
              intro hok
              refine TrAny.prom (i := 27) (d := 57) hok (OpVal.un rfl (fun c h => by cases h) rfl rfl rfl) (by kernel_rfl) rfl (bl rfl) ?_
              clear hok
              intro hok
              refine TrAny.prom (i := 28) (d := 58) hok (OpVal.un rfl (fun c h => by cases h) rfl rfl rfl) (by kernel_rfl) rfl (bl rfl) ?_
              clear hok
              intro hok
              refine TrAny.prom (i := 29) (d := 59) hok (OpVal.un rfl (fun c h => by cases h) rfl rfl rfl) (by kernel_rfl) rfl (bl rfl) ?_
              clear hok
              intro hok
              refine TrAny.prom (i := 30) (d := 60) hok (OpVal.un rfl (fun c h => by cases h) rfl rfl rfl) (by kernel_rfl) rfl (bl rfl) ?_
              clear hok
              intro hok
              refine TrAny.prom (i := 31) (d := 61) hok (OpVal.no rfl (fun c h => by cases h) rfl rfl rfl (gn_f (bt_dec h84))) (by kernel_rfl) rfl (bl rfl) ?_
              clear hok
              intro hok
              refine TrAny.prom (i := 32) (d := 62) hok (OpVal.yes rfl rfl rfl rfl (bt_dec h81) (v_pick_t rfl rfl (bt_dec h84) rfl)) (by kernel_rfl) rfl (bl rfl) ?_
              clear hok
              intro hok
              refine TrAny.prom (i := 33) (d := 63) hok (OpVal.plain rfl rfl (v_pick_t rfl rfl (bt_dec h81) rfl)) (by kernel_rfl) rfl (bl rfl) ?_
              clear hok
              intro hok
              refine TrAny.prom (i := 34) (d := 6) hok (OpVal.plain rfl rfl (v_assign rfl rfl)) (by kernel_rfl) rfl (bl rfl) ?_
              clear hok
              intro hok
              refine TrAny.done (by kernel_rfl) (by kernel_rfl) hok (by kernel_rfl) (qthen_n ?_)
              have hz := Option.some.inj H
              subst hz
              refine Tr.ret (ret_r ⟨[(6, .bool true)], [], [], []⟩ [.bool true] [] [] (Imp.re _ [] [] (sc rfl sn) (by decide) rfl rfl rfl) rfl rfl ⟨rfl, rfl, rfl⟩ (.cons (resv_tmp rfl) .nil))
            · refine TrAny.prom (i := 20) (d := 50) hok (OpVal.yes rfl rfl rfl rfl (bf_dec h84) (v_move rfl rfl)) (by kernel_rfl) rfl (bl rfl) ?_
              clear hok
              intro hok
              refine TrAny.prom (i := 21) (d := 51) hok (OpVal.yes rfl rfl rfl rfl (bf_dec h84) (v_arith rfl rfl rfl ar_eql)) (by kernel_rfl) rfl (bl rfl) ?_
              clear hok
              intro hok
              refine TrAny.prom (i := 22) (d := 52) hok (OpVal.yes rfl rfl rfl rfl (bf_dec h84) (v_move rfl rfl)) (by kernel_rfl) rfl (bl rfl) ?_
              clear hok
              intro hok
              rcases ifc H with ⟨h85, H⟩ | ⟨h85, H⟩
              · refine TrAny.prom (i := 23) (d := 53) hok (OpVal.yes rfl rfl rfl rfl (bt_dec h85) (v_move rfl rfl)) (by kernel_rfl) rfl (bl rfl) ?_
                clear hok
                intro hok
                refine TrAny.prom (i := 26) (d := 56) hok (OpVal.yes rfl rfl rfl rfl (bt_dec h85) (v_move rfl rfl)) (by kernel_rfl) rfl (bl rfl) ?_
                clear hok
                intro hok
                refine TrAny.prom (i := 27) (d := 57) hok (OpVal.yes rfl rfl rfl rfl (bt_dec h85) (v_move rfl rfl)) (by kernel_rfl) rfl (bl rfl) ?_
                clear hok
                intro hok
                obtain ⟨h86, H⟩ := mst H
                refine TrAny.addF' (slF (rInt .u8) (slA A1 0 c1 1) c1 (p1.take r20.2.1.toNat)) (slx2_f (k := 0) rfl h86) hok (fun hok => ?_)
                refine TrAny.prom (i := 28) (d := 58) hok (OpVal.yes rfl rfl rfl rfl (bt_dec h85) (slx2_v (rp := (rInt .u8)) (xs := p1) (k := 0) rfl sl23 ty5 rfl rfl rfl h86 rfl)) (by kernel_rfl) rfl (bl rfl) ?_
                clear hok
                intro hok
                refine TrAny.prom (i := 29) (d := 59) hok (OpVal.yes rfl rfl rfl rfl (bt_dec h85) (v_bstr (k := 3) rfl Try.underlying23 Try.underlying5 Try.underlying9 rfl rfl rfl)) (by kernel_rfl) rfl (bl rfl) ?_
                clear hok
                intro hok
                obtain ⟨r34, hr34, H⟩ := bnd H
                refine TrAny.nextY (j := 24) (by kernel_rfl) hok rfl (by kernel_rfl) rfl rfl rfl (bt_dec h85) (op_call0' (vs := [.int .u64 r20.1]) (cap := []) [] rfl rfl (bl rfl) rfl rfl en22 (c_varint_Put r20.1 r34 hr34) rfl (fun ret M' F' hR34 => ?_))
                obtain ⟨m34, rfl, rfl, rfl⟩ := hR34
                refine nxp hok (kp_imp (kp_c0 rfl)) rfl (by kernel_rfl) ?_
                clear hok
                intro hok
                refine TrAny.prom (i := 25) (d := 55) hok (OpVal.yes rfl rfl rfl rfl (bt_dec h85) (v_bstr (k := 4) rfl Try.underlying23 Try.underlying5 Try.underlying9 rfl rfl rfl)) (by kernel_rfl) rfl (bl rfl) ?_
                clear hok
                intro hok
                refine TrAny.prom (i := 30) (d := 60) hok (OpVal.yes rfl rfl rfl rfl (bt_dec h85) (v_streq rfl rfl rfl)) (by kernel_rfl) rfl (bl rfl) ?_
                clear hok
                intro hok
                refine TrAny.prom (i := 31) (d := 61) hok (OpVal.yes rfl rfl rfl rfl (bf_dec h84) (v_pick_t rfl rfl (bt_dec h85) rfl)) (by kernel_rfl) rfl (bl rfl) ?_
                clear hok
                intro hok
                refine TrAny.prom (i := 32) (d := 62) hok (OpVal.yes rfl rfl rfl rfl (bt_dec h81) (v_pick_f rfl rfl (bf_dec h84) rfl)) (by kernel_rfl) rfl (bl rfl) ?_
                clear hok
                intro hok
                refine TrAny.prom (i := 33) (d := 63) hok (OpVal.plain rfl rfl (v_pick_t rfl rfl (bt_dec h81) rfl)) (by kernel_rfl) rfl (bl rfl) ?_
                clear hok
                intro hok
                refine TrAny.prom (i := 34) (d := 6) hok (OpVal.plain rfl rfl (v_assign rfl rfl)) (by kernel_rfl) rfl (bl rfl) ?_
                clear hok
                intro hok
                refine TrAny.done (by kernel_rfl) (by kernel_rfl) hok (by kernel_rfl) (qthen_n ?_)
                have hz := Option.some.inj H
                subst hz
                refine Tr.ret (ret_r ⟨[(6, .bool (decide ((bstr r34) = (bstr (p1.take r20.2.1.toNat)))))], [], [], []⟩ [.bool (decide ((bstr r34) = (bstr (p1.take r20.2.1.toNat))))] [] [] (Imp.re _ [] [] (sc rfl sn) (by decide) rfl rfl rfl) rfl rfl ⟨rfl, rfl, rfl⟩ (.cons (resv_tmp rfl) .nil))
              · refine TrAny.prom (i := 23) (d := 53) hok (OpVal.no rfl (fun c h => by cases h) rfl rfl rfl (gn_t (bf_dec h85))) (by kernel_rfl) rfl (bl rfl) ?_
                clear hok
                intro hok
                refine TrAny.prom (i := 24) (d := 54) hok (OpVal.no rfl (fun c h => by cases h) rfl rfl rfl (gn_t (bf_dec h85))) (by kernel_rfl) rfl (bl rfl) ?_
                clear hok
                intro hok
                refine TrAny.prom (i := 25) (d := 55) hok (OpVal.no rfl (fun c h => by cases h) rfl rfl rfl (gn_t (bf_dec h85))) (by kernel_rfl) rfl (bl rfl) ?_
                clear hok
                intro hok
                refine TrAny.prom (i := 26) (d := 56) hok (OpVal.no rfl (fun c h => by cases h) rfl rfl rfl (gn_t (bf_dec h85))) (by kernel_rfl) rfl (bl rfl) ?_
                clear hok
                intro hok
                refine TrAny.prom (i := 27) (d := 57) hok (OpVal.no rfl (fun c h => by cases h) rfl rfl rfl (gn_t (bf_dec h85))) (by kernel_rfl) rfl (bl rfl) ?_
                clear hok
                intro hok
                refine TrAny.prom (i := 28) (d := 58) hok (OpVal.no rfl (fun c h => by cases h) rfl rfl rfl (gn_t (bf_dec h85))) (by kernel_rfl) rfl (bl rfl) ?_
                clear hok
                intro hok
                refine TrAny.prom (i := 29) (d := 59) hok (OpVal.no rfl (fun c h => by cases h) rfl rfl rfl (gn_t (bf_dec h85))) (by kernel_rfl) rfl (bl rfl) ?_
                clear hok
                intro hok
                refine TrAny.prom (i := 30) (d := 60) hok (OpVal.no rfl (fun c h => by cases h) rfl rfl rfl (gn_t (bf_dec h85))) (by kernel_rfl) rfl (bl rfl) ?_
                clear hok
                intro hok
                refine TrAny.prom (i := 31) (d := 61) hok (OpVal.yes rfl rfl rfl rfl (bf_dec h84) (v_pick_f rfl rfl (bf_dec h85) rfl)) (by kernel_rfl) rfl (bl rfl) ?_
                clear hok
                intro hok
                refine TrAny.prom (i := 32) (d := 62) hok (OpVal.yes rfl rfl rfl rfl (bt_dec h81) (v_pick_f rfl rfl (bf_dec h84) rfl)) (by kernel_rfl) rfl (bl rfl) ?_
                clear hok
                intro hok
                refine TrAny.prom (i := 33) (d := 63) hok (OpVal.plain rfl rfl (v_pick_t rfl rfl (bt_dec h81) rfl)) (by kernel_rfl) rfl (bl rfl) ?_
                clear hok
                intro hok
                refine TrAny.prom (i := 34) (d := 6) hok (OpVal.plain rfl rfl (v_assign rfl rfl)) (by kernel_rfl) rfl (bl rfl) ?_
                clear hok
                intro hok
                refine TrAny.done (by kernel_rfl) (by kernel_rfl) hok (by kernel_rfl) (qthen_n ?_)
                have hz := Option.some.inj H
                subst hz
                refine Tr.ret (ret_r ⟨[(6, .bool false)], [], [], []⟩ [.bool false] [] [] (Imp.re _ [] [] (sc rfl sn) (by decide) rfl rfl rfl) rfl rfl ⟨rfl, rfl, rfl⟩ (.cons (resv_tmp rfl) .nil))
          · refine TrAny.prom (i := 16) (d := 46) hok (OpVal.no rfl (fun c h => by cases h) rfl rfl rfl (gn_t (bf_dec h83))) (by kernel_rfl) rfl (bl rfl) ?_
            clear hok
            intro hok
            refine TrAny.prom (i := 17) (d := 47) hok (OpVal.no rfl (fun c h => by cases h) rfl rfl rfl (gn_t (bf_dec h83))) (by kernel_rfl) rfl (bl rfl) ?_
            clear hok
            intro hok
            refine TrAny.prom (i := 18) (d := 48) hok (OpVal.yes rfl rfl rfl rfl (bt_dec h81) (v_pick_f rfl rfl (bf_dec h83) rfl)) (by kernel_rfl) rfl (bl rfl) ?_
            clear hok
            intro hok
            refine TrAny.prom (i := 19) (d := 49) hok (OpVal.yes rfl rfl rfl rfl (bt_dec h81) (v_move rfl rfl)) (by kernel_rfl) rfl (bl rfl) ?_
            clear hok
            intro hok
            refine TrAny.prom (i := 20) (d := 50) hok (OpVal.yes rfl rfl rfl rfl rfl (v_move rfl rfl)) (by kernel_rfl) rfl (bl rfl) ?_
            clear hok
            intro hok
            refine TrAny.prom (i := 21) (d := 51) hok (OpVal.yes rfl rfl rfl rfl rfl (v_arith rfl rfl rfl ar_eql)) (by kernel_rfl) rfl (bl rfl) ?_
            clear hok
            intro hok
            refine TrAny.prom (i := 22) (d := 52) hok (OpVal.yes rfl rfl rfl rfl rfl (v_move rfl rfl)) (by kernel_rfl) rfl (bl rfl) ?_
            clear hok
            intro hok
            rcases ifc H with ⟨h87, H⟩ | ⟨h87, H⟩
            · refine TrAny.prom (i := 23) (d := 53) hok (OpVal.yes rfl rfl rfl rfl (bt_dec h87) (v_move rfl rfl)) (by kernel_rfl) rfl (bl rfl) ?_
              clear hok
              intro hok
              refine TrAny.prom (i := 26) (d := 56) hok (OpVal.yes rfl rfl rfl rfl (bt_dec h87) (v_move rfl rfl)) (by kernel_rfl) rfl (bl rfl) ?_
              clear hok
              intro hok
              refine TrAny.prom (i := 27) (d := 57) hok (OpVal.yes rfl rfl rfl rfl (bt_dec h87) (v_move rfl rfl)) (by kernel_rfl) rfl (bl rfl) ?_
              clear hok
              intro hok
              obtain ⟨h88, H⟩ := mst H
              refine TrAny.addF' (slF (rInt .u8) (slA A1 0 c1 1) c1 (p1.take r20.2.1.toNat)) (slx2_f (k := 0) rfl h88) hok (fun hok => ?_)
              refine TrAny.prom (i := 28) (d := 58) hok (OpVal.yes rfl rfl rfl rfl (bt_dec h87) (slx2_v (rp := (rInt .u8)) (xs := p1) (k := 0) rfl sl23 ty5 rfl rfl rfl h88 rfl)) (by kernel_rfl) rfl (bl rfl) ?_
              clear hok
              intro hok
              refine TrAny.prom (i := 29) (d := 59) hok (OpVal.yes rfl rfl rfl rfl (bt_dec h87) (v_bstr (k := 3) rfl Try.underlying23 Try.underlying5 Try.underlying9 rfl rfl rfl)) (by kernel_rfl) rfl (bl rfl) ?_
              clear hok
              intro hok
              obtain ⟨r35, hr35, H⟩ := bnd H
              refine TrAny.nextY (j := 24) (by kernel_rfl) hok rfl (by kernel_rfl) rfl rfl rfl (bt_dec h87) (op_call0' (vs := [.int .u64 r20.1]) (cap := []) [] rfl rfl (bl rfl) rfl rfl en22 (c_varint_Put r20.1 r35 hr35) rfl (fun ret M' F' hR35 => ?_))
              obtain ⟨m35, rfl, rfl, rfl⟩ := hR35
              refine nxp hok (kp_imp (kp_c0 rfl)) rfl (by kernel_rfl) ?_
              clear hok
              intro hok
              refine TrAny.prom (i := 25) (d := 55) hok (OpVal.yes rfl rfl rfl rfl (bt_dec h87) (v_bstr (k := 4) rfl Try.underlying23 Try.underlying5 Try.underlying9 rfl rfl rfl)) (by kernel_rfl) rfl (bl rfl) ?_
              clear hok
              intro hok
              refine TrAny.prom (i := 30) (d := 60) hok (OpVal.yes rfl rfl rfl rfl (bt_dec h87) (v_streq rfl rfl rfl)) (by kernel_rfl) rfl (bl rfl) ?_
              clear hok
              intro hok
              refine TrAny.prom (i := 31) (d := 61) hok (OpVal.yes rfl rfl rfl rfl rfl (v_pick_t rfl rfl (bt_dec h87) rfl)) (by kernel_rfl) rfl (bl rfl) ?_
              clear hok
              intro hok
              refine TrAny.prom (i := 32) (d := 62) hok (OpVal.yes rfl rfl rfl rfl (bt_dec h81) (v_pick_f rfl rfl rfl rfl)) (by kernel_rfl) rfl (bl rfl) ?_
              clear hok
              intro hok
              refine TrAny.prom (i := 33) (d := 63) hok (OpVal.plain rfl rfl (v_pick_t rfl rfl (bt_dec h81) rfl)) (by kernel_rfl) rfl (bl rfl) ?_
              clear hok
              intro hok
              refine TrAny.prom (i := 34) (d := 6) hok (OpVal.plain rfl rfl (v_assign rfl rfl)) (by kernel_rfl) rfl (bl rfl) ?_
              clear hok
              intro hok
              refine TrAny.done (by kernel_rfl) (by kernel_rfl) hok (by kernel_rfl) (qthen_n ?_)
              have hz := Option.some.inj H
              subst hz
              refine Tr.ret (ret_r ⟨[(6, .bool (decide ((bstr r35) = (bstr (p1.take r20.2.1.toNat)))))], [], [], []⟩ [.bool (decide ((bstr r35) = (bstr (p1.take r20.2.1.toNat))))] [] [] (Imp.re _ [] [] (sc rfl sn) (by decide) rfl rfl rfl) rfl rfl ⟨rfl, rfl, rfl⟩ (.cons (resv_tmp rfl) .nil))
            · refine TrAny.prom (i := 23) (d := 53) hok (OpVal.no rfl (fun c h => by cases h) rfl rfl rfl (gn_t (bf_dec h87))) (by kernel_rfl) rfl (bl rfl) ?_
              clear hok
              intro hok
              refine TrAny.prom (i := 24) (d := 54) hok (OpVal.no rfl (fun c h => by cases h) rfl rfl rfl (gn_t (bf_dec h87))) (by kernel_rfl) rfl (bl rfl) ?_
              clear hok
              intro hok
              refine TrAny.prom (i := 25) (d := 55) hok (OpVal.no rfl (fun c h => by cases h) rfl rfl rfl (gn_t (bf_dec h87))) (by kernel_rfl) rfl (bl rfl) ?_
              clear hok
              intro hok
              refine TrAny.prom (i := 26) (d := 56) hok (OpVal.no rfl (fun c h => by cases h) rfl rfl rfl (gn_t (bf_dec h87))) (by kernel_rfl) rfl (bl rfl) ?_
              clear hok
              intro hok
              refine TrAny.prom (i := 27) (d := 57) hok (OpVal.no rfl (fun c h => by cases h) rfl rfl rfl (gn_t (bf_dec h87))) (by kernel_rfl) rfl (bl rfl) ?_
              clear hok
              intro hok
              refine TrAny.prom (i := 28) (d := 58) hok (OpVal.no rfl (fun c h => by cases h) rfl rfl rfl (gn_t (bf_dec h87))) (by kernel_rfl) rfl (bl rfl) ?_
              clear hok
              intro hok
              refine TrAny.prom (i := 29) (d := 59) hok (OpVal.no rfl (fun c h => by cases h) rfl rfl rfl (gn_t (bf_dec h87))) (by kernel_rfl) rfl (bl rfl) ?_
              clear hok
              intro hok
              refine TrAny.prom (i := 30) (d := 60) hok (OpVal.no rfl (fun c h => by cases h) rfl rfl rfl (gn_t (bf_dec h87))) (by kernel_rfl) rfl (bl rfl) ?_
              clear hok
              intro hok
              refine TrAny.prom (i := 31) (d := 61) hok (OpVal.yes rfl rfl rfl rfl rfl (v_pick_f rfl rfl (bf_dec h87) rfl)) (by kernel_rfl) rfl (bl rfl) ?_
              clear hok
              intro hok
              refine TrAny.prom (i := 32) (d := 62) hok (OpVal.yes rfl rfl rfl rfl (bt_dec h81) (v_pick_f rfl rfl rfl rfl)) (by kernel_rfl) rfl (bl rfl) ?_
              clear hok
              intro hok
              refine TrAny.prom (i := 33) (d := 63) hok (OpVal.plain rfl rfl (v_pick_t rfl rfl (bt_dec h81) rfl)) (by kernel_rfl) rfl (bl rfl) ?_
              clear hok
              intro hok
              refine TrAny.prom (i := 34) (d := 6) hok (OpVal.plain rfl rfl (v_assign rfl rfl)) (by kernel_rfl) rfl (bl rfl) ?_
              clear hok
              intro hok
              refine TrAny.done (by kernel_rfl) (by kernel_rfl) hok (by kernel_rfl) (qthen_n ?_)
              have hz := Option.some.inj H
              subst hz
              refine Tr.ret (ret_r ⟨[(6, .bool false)], [], [], []⟩ [.bool false] [] [] (Imp.re _ [] [] (sc rfl sn) (by decide) rfl rfl rfl) rfl rfl ⟨rfl, rfl, rfl⟩ (.cons (resv_tmp rfl) .nil))
        · refine TrAny.prom (i := 12) (d := 42) hok (OpVal.no rfl (fun c h => by cases h) rfl rfl rfl (gn_t (bf_dec h82))) (by kernel_rfl) rfl (bl rfl) ?_
          clear hok
          intro hok
          refine TrAny.prom (i := 13) (d := 43) hok (OpVal.no rfl (fun c h => by cases h) rfl rfl rfl (gn_t (bf_dec h82))) (by kernel_rfl) rfl (bl rfl) ?_
          clear hok
          intro hok
          refine TrAny.prom (i := 14) (d := 44) hok (OpVal.yes rfl rfl rfl rfl (bt_dec h81) (v_pick_f rfl rfl (bf_dec h82) rfl)) (by kernel_rfl) rfl (bl rfl) ?_
          clear hok
          intro hok
          refine TrAny.prom (i := 15) (d := 45) hok (OpVal.yes rfl rfl rfl rfl (bt_dec h81) (v_move rfl rfl)) (by kernel_rfl) rfl (bl rfl) ?_
          clear hok
          intro hok
          refine TrAny.prom (i := 16) (d := 46) hok (OpVal.no rfl (fun c h => by cases h) rfl rfl rfl (gn_t rfl)) (by kernel_rfl) rfl (bl rfl) ?_
          clear hok
          intro hok
          refine TrAny.prom (i := 17) (d := 47) hok (OpVal.no rfl (fun c h => by cases h) rfl rfl rfl (gn_t rfl)) (by kernel_rfl) rfl (bl rfl) ?_
          clear hok
          intro hok
          refine TrAny.prom (i := 18) (d := 48) hok (OpVal.yes rfl rfl rfl rfl (bt_dec h81) (v_pick_f rfl rfl rfl rfl)) (by kernel_rfl) rfl (bl rfl) ?_
          clear hok
          intro hok
          refine TrAny.prom (i := 19) (d := 49) hok (OpVal.yes rfl rfl rfl rfl (bt_dec h81) (v_move rfl rfl)) (by kernel_rfl) rfl (bl rfl) ?_
          clear hok
          intro hok
          refine TrAny.prom (i := 20) (d := 50) hok (OpVal.yes rfl rfl rfl rfl rfl (v_move rfl rfl)) (by kernel_rfl) rfl (bl rfl) ?_
          clear hok
          intro hok
          refine TrAny.prom (i := 21) (d := 51) hok (OpVal.yes rfl rfl rfl rfl rfl (v_arith rfl rfl rfl ar_eql)) (by kernel_rfl) rfl (bl rfl) ?_
          clear hok
          intro hok
          refine TrAny.prom (i := 22) (d := 52) hok (OpVal.yes rfl rfl rfl rfl rfl (v_move rfl rfl)) (by kernel_rfl) rfl (bl rfl) ?_
          clear hok
          intro hok
          rcases ifc H with ⟨h89, H⟩ | ⟨h89, H⟩
          · refine TrAny.prom (i := 23) (d := 53) hok (OpVal.yes rfl rfl rfl rfl (bt_dec h89) (v_move rfl rfl)) (by kernel_rfl) rfl (bl rfl) ?_
            clear hok
            intro hok
            refine TrAny.prom (i := 26) (d := 56) hok (OpVal.yes rfl rfl rfl rfl (bt_dec h89) (v_move rfl rfl)) (by kernel_rfl) rfl (bl rfl) ?_
            clear hok
            intro hok
            refine TrAny.prom (i := 27) (d := 57) hok (OpVal.yes rfl rfl rfl rfl (bt_dec h89) (v_move rfl rfl)) (by kernel_rfl) rfl (bl rfl) ?_
            clear hok
            intro hok
            obtain ⟨h90, H⟩ := mst H
            refine TrAny.addF' (slF (rInt .u8) (slA A1 0 c1 1) c1 (p1.take r20.2.1.toNat)) (slx2_f (k := 0) rfl h90) hok (fun hok => ?_)
            refine TrAny.prom (i := 28) (d := 58) hok (OpVal.yes rfl rfl rfl rfl (bt_dec h89) (slx2_v (rp := (rInt .u8)) (xs := p1) (k := 0) rfl sl23 ty5 rfl rfl rfl h90 rfl)) (by kernel_rfl) rfl (bl rfl) ?_
            clear hok
            intro hok
            refine TrAny.prom (i := 29) (d := 59) hok (OpVal.yes rfl rfl rfl rfl (bt_dec h89) (v_bstr (k := 3) rfl Try.underlying23 Try.underlying5 Try.underlying9 rfl rfl rfl)) (by kernel_rfl) rfl (bl rfl) ?_
            clear hok
            intro hok
            obtain ⟨r36, hr36, H⟩ := bnd H
            refine TrAny.nextY (j := 24) (by kernel_rfl) hok rfl (by kernel_rfl) rfl rfl rfl (bt_dec h89) (op_call0' (vs := [.int .u64 r20.1]) (cap := []) [] rfl rfl (bl rfl) rfl rfl en22 (c_varint_Put r20.1 r36 hr36) rfl (fun ret M' F' hR36 => ?_))
            obtain ⟨m36, rfl, rfl, rfl⟩ := hR36
            refine nxp hok (kp_imp (kp_c0 rfl)) rfl (by kernel_rfl) ?_
            clear hok
            intro hok
            refine TrAny.prom (i := 25) (d := 55) hok (OpVal.yes rfl rfl rfl rfl (bt_dec h89) (v_bstr (k := 4) rfl Try.underlying23 Try.underlying5 Try.underlying9 rfl rfl rfl)) (by kernel_rfl) rfl (bl rfl) ?_
            clear hok
            intro hok
            refine TrAny.prom (i := 30) (d := 60) hok (OpVal.yes rfl rfl rfl rfl (bt_dec h89) (v_streq rfl rfl rfl)) (by kernel_rfl) rfl (bl rfl) ?_
            clear hok
            intro hok
            refine TrAny.prom (i := 31) (d := 61) hok (OpVal.yes rfl rfl rfl rfl rfl (v_pick_t rfl rfl (bt_dec h89) rfl)) (by kernel_rfl) rfl (bl rfl) ?_
            clear hok
            intro hok
            refine TrAny.prom (i := 32) (d := 62) hok (OpVal.yes rfl rfl rfl rfl (bt_dec h81) (v_pick_f rfl rfl rfl rfl)) (by kernel_rfl) rfl (bl rfl) ?_
            clear hok
            intro hok
            refine TrAny.prom (i := 33) (d := 63) hok (OpVal.plain rfl rfl (v_pick_t rfl rfl (bt_dec h81) rfl)) (by kernel_rfl) rfl (bl rfl) ?_
            clear hok
            intro hok
            refine TrAny.prom (i := 34) (d := 6) hok (OpVal.plain rfl rfl (v_assign rfl rfl)) (by kernel_rfl) rfl (bl rfl) ?_
            clear hok
            intro hok
            refine TrAny.done (by kernel_rfl) (by kernel_rfl) hok (by kernel_rfl) (qthen_n ?_)
            have hz := Option.some.inj H
            subst hz
            refine Tr.ret (ret_r ⟨[(6, .bool (decide ((bstr r36) = (bstr (p1.take r20.2.1.toNat)))))], [], [], []⟩ [.bool (decide ((bstr r36) = (bstr (p1.take r20.2.1.toNat))))] [] [] (Imp.re _ [] [] (sc rfl sn) (by decide) rfl rfl rfl) rfl rfl ⟨rfl, rfl, rfl⟩ (.cons (resv_tmp rfl) .nil))
          · refine TrAny.prom (i := 23) (d := 53) hok (OpVal.no rfl (fun c h => by cases h) rfl rfl rfl (gn_t (bf_dec h89))) (by kernel_rfl) rfl (bl rfl) ?_
            clear hok
            intro hok
            refine TrAny.prom (i := 24) (d := 54) hok (OpVal.no rfl (fun c h => by cases h) rfl rfl rfl (gn_t (bf_dec h89))) (by kernel_rfl) rfl (bl rfl) ?_
            clear hok
            intro hok
            refine TrAny.prom (i := 25) (d := 55) hok (OpVal.no rfl (fun c h => by cases h) rfl rfl rfl (gn_t (bf_dec h89))) (by kernel_rfl) rfl (bl rfl) ?_
            clear hok
            intro hok
            refine TrAny.prom (i := 26) (d := 56) hok (OpVal.no rfl (fun c h => by cases h) rfl rfl rfl (gn_t (bf_dec h89))) (by kernel_rfl) rfl (bl rfl) ?_
            clear hok
            intro hok
            refine TrAny.prom (i := 27) (d := 57) hok (OpVal.no rfl (fun c h => by cases h) rfl rfl rfl (gn_t (bf_dec h89))) (by kernel_rfl) rfl (bl rfl) ?_
            clear hok
            intro hok
            refine TrAny.prom (i := 28) (d := 58) hok (OpVal.no rfl (fun c h => by cases h) rfl rfl rfl (gn_t (bf_dec h89))) (by kernel_rfl) rfl (bl rfl) ?_
            clear hok
            intro hok
            refine TrAny.prom (i := 29) (d := 59) hok (OpVal.no rfl (fun c h => by cases h) rfl rfl rfl (gn_t (bf_dec h89))) (by kernel_rfl) rfl (bl rfl) ?_
            clear hok
            intro hok
            refine TrAny.prom (i := 30) (d := 60) hok (OpVal.no rfl (fun c h => by cases h) rfl rfl rfl (gn_t (bf_dec h89))) (by kernel_rfl) rfl (bl rfl) ?_
            clear hok
            intro hok
            refine TrAny.prom (i := 31) (d := 61) hok (OpVal.yes rfl rfl rfl rfl rfl (v_pick_f rfl rfl (bf_dec h89) rfl)) (by kernel_rfl) rfl (bl rfl) ?_
            clear hok
            intro hok
            refine TrAny.prom (i := 32) (d := 62) hok (OpVal.yes rfl rfl rfl rfl (bt_dec h81) (v_pick_f rfl rfl rfl rfl)) (by kernel_rfl) rfl (bl rfl) ?_
            clear hok
            intro hok
            refine TrAny.prom (i := 33) (d := 63) hok (OpVal.plain rfl rfl (v_pick_t rfl rfl (bt_dec h81) rfl)) (by kernel_rfl) rfl (bl rfl) ?_
            clear hok
            intro hok
            refine TrAny.prom (i := 34) (d := 6) hok (OpVal.plain rfl rfl (v_assign rfl rfl)) (by kernel_rfl) rfl (bl rfl) ?_
            clear hok
            intro hok
            refine TrAny.done (by kernel_rfl) (by kernel_rfl) hok (by kernel_rfl) (qthen_n ?_)
            have hz := Option.some.inj H
            subst hz
            refine Tr.ret (ret_r ⟨[(6, .bool false)], [], [], []⟩ [.bool false] [] [] (Imp.re _ [] [] (sc rfl sn) (by decide) rfl rfl rfl) rfl rfl ⟨rfl, rfl, rfl⟩ (.cons (resv_tmp rfl) .nil))
      · refine TrAny.prom (i := 9) (d := 39) hok (OpVal.no rfl (fun c h => by cases h) rfl rfl rfl (gn_t (bf_dec h81))) (by kernel_rfl) rfl (bl rfl) ?_
        clear hok
        intro hok
        refine TrAny.prom (i := 10) (d := 40) hok (OpVal.no rfl (fun c h => by cases h) rfl rfl rfl (gn_t (bf_dec h81))) (by kernel_rfl) rfl (bl rfl) ?_
        clear hok
        intro hok
        refine TrAny.prom (i := 11) (d := 41) hok (OpVal.no rfl (fun c h => by cases h) rfl rfl rfl (gn_t (bf_dec h81))) (by kernel_rfl) rfl (bl rfl) ?_
        clear hok
        intro hok
        refine TrAny.prom (i := 12) (d := 42) hok (OpVal.un rfl (fun c h => by cases h) rfl rfl rfl) (by kernel_rfl) rfl (bl rfl) ?_
        clear hok
        intro hok
        refine TrAny.prom (i := 13) (d := 43) hok (OpVal.un rfl (fun c h => by cases h) rfl rfl rfl) (by kernel_rfl) rfl (bl rfl) ?_
        clear hok
        intro hok
        refine TrAny.prom (i := 14) (d := 44) hok (OpVal.no rfl (fun c h => by cases h) rfl rfl rfl (gn_t (bf_dec h81))) (by kernel_rfl) rfl (bl rfl) ?_
        clear hok
        intro hok
        refine TrAny.prom (i := 15) (d := 45) hok (OpVal.no rfl (fun c h => by cases h) rfl rfl rfl (gn_t (bf_dec h81))) (by kernel_rfl) rfl (bl rfl) ?_
        clear hok
        intro hok
        refine TrAny.prom (i := 16) (d := 46) hok (OpVal.un rfl (fun c h => by cases h) rfl rfl rfl) (by kernel_rfl) rfl (bl rfl) ?_
        clear hok
        intro hok
        refine TrAny.prom (i := 17) (d := 47) hok (OpVal.un rfl (fun c h => by cases h) rfl rfl rfl) (by kernel_rfl) rfl (bl rfl) ?_
        clear hok
        intro hok
        refine TrAny.prom (i := 18) (d := 48) hok (OpVal.no rfl (fun c h => by cases h) rfl rfl rfl (gn_t (bf_dec h81))) (by kernel_rfl) rfl (bl rfl) ?_
        clear hok
        intro hok
        refine TrAny.prom (i := 19) (d := 49) hok (OpVal.no rfl (fun c h => by cases h) rfl rfl rfl (gn_t (bf_dec h81))) (by kernel_rfl) rfl (bl rfl) ?_
        clear hok
        intro hok
        refine TrAny.prom (i := 20) (d := 50) hok (OpVal.un rfl (fun c h => by cases h) rfl rfl rfl) (by kernel_rfl) rfl (bl rfl) ?_
        clear hok
        intro hok
        refine TrAny.prom (i := 21) (d := 51) hok (OpVal.un rfl (fun c h => by cases h) rfl rfl rfl) (by kernel_rfl) rfl (bl rfl) ?_
        clear hok
        intro hok
        refine TrAny.prom (i := 22) (d := 52) hok (OpVal.un rfl (fun c h => by cases h) rfl rfl rfl) (by kernel_rfl) rfl (bl rfl) ?_
        clear hok
        intro hok
        refine TrAny.prom (i := 23) (d := 53) hok (OpVal.un rfl (fun c h => by cases h) rfl rfl rfl) (by kernel_rfl) rfl (bl rfl) ?_
        clear hok
        intro hok
        refine TrAny.prom (i := 24) (d := 54) hok (OpVal.un rfl (fun c h => by cases h) rfl rfl rfl) (by kernel_rfl) rfl (bl rfl) ?_
        clear hok
        intro hok
        refine TrAny.prom (i := 25) (d := 55) hok (OpVal.un rfl (fun c h => by cases h) rfl rfl rfl) (by kernel_rfl) rfl (bl rfl) ?_
        clear hok
        intro hok
        refine TrAny.prom (i := 26) (d := 56) hok (OpVal.un rfl (fun c h => by cases h) rfl rfl rfl) (by kernel_rfl) rfl (bl rfl) ?_
        clear hok
        intro hok
        refine TrAny.prom (i := 27) (d := 57) hok (OpVal.un rfl (fun c h => by cases h) rfl rfl rfl) (by kernel_rfl) rfl (bl rfl) ?_
        clear hok
        intro hok
        refine TrAny.prom (i := 28) (d := 58) hok (OpVal.un rfl (fun c h => by cases h) rfl rfl rfl) (by kernel_rfl) rfl (bl rfl) ?_
        clear hok
        intro hok
        refine TrAny.prom (i := 29) (d := 59) hok (OpVal.un rfl (fun c h => by cases h) rfl rfl rfl) (by kernel_rfl) rfl (bl rfl) ?_
        clear hok
        intro hok
        refine TrAny.prom (i := 30) (d := 60) hok (OpVal.un rfl (fun c h => by cases h) rfl rfl rfl) (by kernel_rfl) rfl (bl rfl) ?_
        clear hok
        intro hok
        refine TrAny.prom (i := 31) (d := 61) hok (OpVal.un rfl (fun c h => by cases h) rfl rfl rfl) (by kernel_rfl) rfl (bl rfl) ?_
        clear hok
        intro hok
        refine TrAny.prom (i := 32) (d := 62) hok (OpVal.no rfl (fun c h => by cases h) rfl rfl rfl (gn_t (bf_dec h81))) (by kernel_rfl) rfl (bl rfl) ?_
        clear hok
        intro hok
        refine TrAny.prom (i := 33) (d := 63) hok (OpVal.plain rfl rfl (v_pick_f rfl rfl (bf_dec h81) rfl)) (by kernel_rfl) rfl (bl rfl) ?_
        clear hok
        intro hok
        refine TrAny.prom (i := 34) (d := 6) hok (OpVal.plain rfl rfl (v_assign rfl rfl)) (by kernel_rfl) rfl (bl rfl) ?_
        clear hok
        intro hok
        refine TrAny.done (by kernel_rfl) (by kernel_rfl) hok (by kernel_rfl) (qthen_n ?_)
        have hz := Option.some.inj H
        subst hz
        refine Tr.ret (ret_r ⟨[(6, .bool false)], [], [], []⟩ [.bool false] [] [] (Imp.re _ [] [] (sc rfl sn) (by decide) rfl rfl rfl) rfl rfl ⟨rfl, rfl, rfl⟩ (.cons (resv_tmp rfl) .nil))
    · refine TrAny.prom (i := 2) (d := 32) hok (OpVal.no rfl (fun c h => by cases h) rfl rfl rfl (gn_t (bf_b h80))) (by kernel_rfl) rfl (bl rfl) ?_
      clear hok
      intro hok
      refine TrAny.prom (i := 3) (d := 33) hok (OpVal.no rfl (fun c h => by cases h) rfl rfl rfl (gn_t (bf_b h80))) (by kernel_rfl) rfl (bl rfl) ?_
      clear hok
      intro hok
      refine TrAny.prom (i := 4) (d := 34) hok (OpVal.no rfl (fun c h => by cases h) rfl rfl rfl (gn_t (bf_b h80))) (by kernel_rfl) rfl (bl rfl) ?_
      clear hok
      intro hok
      refine TrAny.prom (i := 5) (d := 35) hok (OpVal.no rfl (fun c h => by cases h) rfl rfl rfl (gn_t (bf_b h80))) (by kernel_rfl) rfl (bl rfl) ?_
      clear hok
      intro hok
      refine TrAny.prom (i := 6) (d := 36) hok (OpVal.no rfl (fun c h => by cases h) rfl rfl rfl (gn_t (bf_b h80))) (by kernel_rfl) rfl (bl rfl) ?_
      clear hok
      intro hok
      refine TrAny.prom (i := 7) (d := 37) hok (OpVal.plain rfl rfl (v_pick_f rfl rfl (bf_b h80) rfl)) (by kernel_rfl) rfl (bl rfl) ?_
      clear hok
      intro hok
      refine TrAny.prom (i := 8) (d := 38) hok (OpVal.plain rfl rfl (v_move rfl rfl)) (by kernel_rfl) rfl (bl rfl) ?_
      clear hok
      intro hok
      refine TrAny.prom (i := 9) (d := 39) hok (OpVal.no rfl (fun c h => by cases h) rfl rfl rfl (gn_t rfl)) (by kernel_rfl) rfl (bl rfl) ?_
      clear hok
      intro hok
      refine TrAny.prom (i := 10) (d := 40) hok (OpVal.no rfl (fun c h => by cases h) rfl rfl rfl (gn_t rfl)) (by kernel_rfl) rfl (bl rfl) ?_
      clear hok
      intro hok
      refine TrAny.prom (i := 11) (d := 41) hok (OpVal.no rfl (fun c h => by cases h) rfl rfl rfl (gn_t rfl)) (by kernel_rfl) rfl (bl rfl) ?_
      clear hok
      intro hok
      refine TrAny.prom (i := 12) (d := 42) hok (OpVal.un rfl (fun c h => by cases h) rfl rfl rfl) (by kernel_rfl) rfl (bl rfl) ?_
      clear hok
      intro hok
      refine TrAny.prom (i := 13) (d := 43) hok (OpVal.un rfl (fun c h => by cases h) rfl rfl rfl) (by kernel_rfl) rfl (bl rfl) ?_
      clear hok
      intro hok
      refine TrAny.prom (i := 14) (d := 44) hok (OpVal.no rfl (fun c h => by cases h) rfl rfl rfl (gn_t rfl)) (by kernel_rfl) rfl (bl rfl) ?_
      clear hok
      intro hok
      refine TrAny.prom (i := 15) (d := 45) hok (OpVal.no rfl (fun c h => by cases h) rfl rfl rfl (gn_t rfl)) (by kernel_rfl) rfl (bl rfl) ?_
      clear hok
      intro hok
      refine TrAny.prom (i := 16) (d := 46) hok (OpVal.un rfl (fun c h => by cases h) rfl rfl rfl) (by kernel_rfl) rfl (bl rfl) ?_
      clear hok
      intro hok
      refine TrAny.prom (i := 17) (d := 47) hok (OpVal.un rfl (fun c h => by cases h) rfl rfl rfl) (by kernel_rfl) rfl (bl rfl) ?_
      clear hok
      intro hok
      refine TrAny.prom (i := 18) (d := 48) hok (OpVal.no rfl (fun c h => by cases h) rfl rfl rfl (gn_t rfl)) (by kernel_rfl) rfl (bl rfl) ?_
      clear hok
      intro hok
      refine TrAny.prom (i := 19) (d := 49) hok (OpVal.no rfl (fun c h => by cases h) rfl rfl rfl (gn_t rfl)) (by kernel_rfl) rfl (bl rfl) ?_
      clear hok
      intro hok
      refine TrAny.prom (i := 20) (d := 50) hok (OpVal.un rfl (fun c h => by cases h) rfl rfl rfl) (by kernel_rfl) rfl (bl rfl) ?_
      clear hok
      intro hok
      refine TrAny.prom (i := 21) (d := 51) hok (OpVal.un rfl (fun c h => by cases h) rfl rfl rfl) (by kernel_rfl) rfl (bl rfl) ?_
      clear hok
      intro hok
      refine TrAny.prom (i := 22) (d := 52) hok (OpVal.un rfl (fun c h => by cases h) rfl rfl rfl) (by kernel_rfl) rfl (bl rfl) ?_
      clear hok
      intro hok
      refine TrAny.prom (i := 23) (d := 53) hok (OpVal.un rfl (fun c h => by cases h) rfl rfl rfl) (by kernel_rfl) rfl (bl rfl) ?_
      clear hok
      intro hok
      refine TrAny.prom (i := 24) (d := 54) hok (OpVal.un rfl (fun c h => by cases h) rfl rfl rfl) (by kernel_rfl) rfl (bl rfl) ?_
      clear hok
      intro hok
      refine TrAny.prom (i := 25) (d := 55) hok (OpVal.un rfl (fun c h => by cases h) rfl rfl rfl) (by kernel_rfl) rfl (bl rfl) ?_
      clear hok
      intro hok
      refine TrAny.prom (i := 26) (d := 56) hok (OpVal.un rfl (fun c h => by cases h) rfl rfl rfl) (by kernel_rfl) rfl (bl rfl) ?_
      clear hok
      intro hok
      refine TrAny.prom (i := 27) (d := 57) hok (OpVal.un rfl (fun c h => by cases h) rfl rfl rfl) (by kernel_rfl) rfl (bl rfl) ?_
      clear hok
      intro hok
      refine TrAny.prom (i := 28) (d := 58) hok (OpVal.un rfl (fun c h => by cases h) rfl rfl rfl) (by kernel_rfl) rfl (bl rfl) ?_
      clear hok
      intro hok
      refine TrAny.prom (i := 29) (d := 59) hok (OpVal.un rfl (fun c h => by cases h) rfl rfl rfl) (by kernel_rfl) rfl (bl rfl) ?_
      clear hok
      intro hok
      refine TrAny.prom (i := 30) (d := 60) hok (OpVal.un rfl (fun c h => by cases h) rfl rfl rfl) (by kernel_rfl) rfl (bl rfl) ?_
      clear hok
      intro hok
      refine TrAny.prom (i := 31) (d := 61) hok (OpVal.un rfl (fun c h => by cases h) rfl rfl rfl) (by kernel_rfl) rfl (bl rfl) ?_
      clear hok
      intro hok
      refine TrAny.prom (i := 32) (d := 62) hok (OpVal.no rfl (fun c h => by cases h) rfl rfl rfl (gn_t rfl)) (by kernel_rfl) rfl (bl rfl) ?_
      clear hok
      intro hok
      refine TrAny.prom (i := 33) (d := 63) hok (OpVal.plain rfl rfl (v_pick_f rfl rfl rfl rfl)) (by kernel_rfl) rfl (bl rfl) ?_
      clear hok
      intro hok
      refine TrAny.prom (i := 34) (d := 6) hok (OpVal.plain rfl rfl (v_assign rfl rfl)) (by kernel_rfl) rfl (bl rfl) ?_
      clear hok
      intro hok
      refine TrAny.done (by kernel_rfl) (by kernel_rfl) hok (by kernel_rfl) (qthen_n ?_)
      have hz := Option.some.inj H
      subst hz
      refine Tr.ret (ret_r ⟨[(6, .bool false)], [], [], []⟩ [.bool false] [] [] (Imp.re _ [] [] (sc rfl sn) (by decide) rfl rfl rfl) rfl rfl ⟨rfl, rfl, rfl⟩ (.cons (resv_tmp rfl) .nil))
end Go.Proofs.Ythgeodagikmpjaa.W
