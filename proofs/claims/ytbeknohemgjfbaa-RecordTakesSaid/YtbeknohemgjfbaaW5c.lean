/- The contracts of the walked functions: the printed walks. -/
import Derived.Test.YtbeknohemgjfbaaKc
import Derived.Test.YtbeknohemgjfbaaQc
import Derived.Test.YtbeknohemgjfbaaWcodecac
import Derived.Test.YtbeknohemgjfbaaWlaw11bc
import Derived.Test.YtbeknohemgjfbaaWlaw11cc
import Derived.Test.YtbeknohemgjfbaaWrecordbc
import Derived.Test.YtbeknohemgjfbaaWref11bc
namespace Go.Proofs.Ytbeknohemgjfbaa.W
open Go Go.Proofs Go.Proofs.Ytbeknohemgjfbaa.L Go.Proofs.Ytbeknohemgjfbaa.Pu
set_option linter.unusedVariables false
set_option maxHeartbeats 4000000

theorem c_law11_RecordTakes (p1 : List Int) (A1 : Option Addr) (c1 : Nat) (r : Bool) (H : law11_RecordTakes p1 = some r) :
    Ctr Try.prog 5 [.slice A1 p1.length c1] [] [slF (rInt .u8) A1 c1 p1] (fun ret M' F' => ret = .bool r ∧ M' = [] ∧ F' = []) := by
  unfold law11_RecordTakes at H
  refine ctr_ofI (N := 68) Try.func5 rfl Try.ntmps5 rfl (Nat.le_of_ble_eq_true rfl) (fun γ0 w0 => ?_)
  refine Tr.seq ?_
  refine Tr.region ?_
  refine TrL.v (v_assign rfl rfl) rfl rfl (bl rfl) ?_
  refine TrL.nil (qthen_n ?_)
  refine Tr.seq ?_
  refine Tr.region ?_
  obtain ⟨r23, hr23, H⟩ := bnd H
  refine TrL.cons rfl (op_call0' (vs := []) (cap := []) [] rfl rfl (bl rfl) rfl rfl en20 (c_law11_awake r23 hr23) rfl (fun ret M' F' hR23 => ?_))
  obtain ⟨rfl, rfl, rfl⟩ := hR23
  refine TrL.v (v_assign rfl rfl) rfl rfl (bl rfl) ?_
  refine TrL.nil (qthen_n ?_)
  refine Tr.seq ?_
  refine Tr.seq ?_
  refine Tr.region ?_
  refine TrL.v (v_move rfl rfl) rfl rfl (bl rfl) ?_
  refine TrL.v (v_len rfl sl40 rfl) rfl rfl (bl rfl) ?_
  refine TrL.v (v_arith rfl rfl rfl ar_gtr) rfl rfl (bl rfl) ?_
  refine TrL.nil (qthen_n ?_)
  rcases ifc H with ⟨h22, H⟩ | ⟨h22, H⟩
  · refine Tr.cond_t rfl (bt_dec h22) ?_
    refine Tr.seq ?_
    refine Tr.region ?_
    refine TrL.v (v_move rfl rfl) rfl rfl (bl rfl) ?_
    refine TrL.v (v_assign rfl rfl) rfl rfl (bl rfl) ?_
    refine TrL.nil (qthen_n ?_)
    have hz := Option.some.inj H
    subst hz
    refine Tr.ret (qthen_r (ret_r ⟨[(2, .bool r23)], [], [], []⟩ [.bool r23] [] [] (Imp.re _ [] [] (sc rfl sn) (by decide) rfl rfl rfl) rfl rfl ⟨rfl, rfl, rfl⟩ (.cons (resv_tmp rfl) .nil)))
  · refine Tr.cond_f rfl (bf_dec h22) ?_
    refine Tr.skip (qthen_n ?_)
    refine Tr.seq ?_
    refine Tr.region ?_
    refine TrL.v (v_move rfl rfl) rfl rfl (bl rfl) ?_
    obtain ⟨r24, hr24, H⟩ := bnd H
    refine TrL.cons rfl (op_call0' (vs := [.slice A1 p1.length c1]) (cap := []) [0] rfl rfl (bl rfl) rfl rfl en25 (c_record_One p1 A1 c1 r24 hr24) rfl (fun ret M' F' hR24 => ?_))
    obtain ⟨m24, rfl, rfl, rfl⟩ := hR24
    refine TrL.v (v_move rfl rfl) rfl rfl (bl rfl) ?_
    refine TrL.v (v_extract rfl rfl rfl) rfl rfl (bl rfl) ?_
    refine TrL.v (v_extract rfl rfl rfl) rfl rfl (bl rfl) ?_
    refine TrL.cons rfl (op_alloc' rfl (bl rfl) rfl ze35 (fun b6 => ?_))
    refine TrL.cons rfl (op_store' (k := 0) (c' := [.int .i64 r24.1, .int .i64 r24.2.1, .slice m24.1 r24.2.2.1.length m24.2]) rfl rfl rfl rfl rfl ty35 rfl (Nat.le_of_ble_eq_true rfl) (ones (oc rfl (oc rfl (oc rfl on)))) rfl ?_)
    refine TrL.v (v_assign rfl rfl) rfl rfl (bl rfl) ?_
    refine TrL.nil (qthen_n ?_)
    refine Tr.seq ?_
    refine Tr.region ?_
    refine TrL.v (v_move rfl rfl) rfl rfl (bl rfl) ?_
    obtain ⟨r25, hr25, H⟩ := bnd H
    refine TrL.cons rfl (op_call0' (vs := [.slice A1 p1.length c1]) (cap := []) [0] rfl rfl (bl rfl) rfl rfl en26 (c_ref11_One p1 A1 c1 r25 hr25) rfl (fun ret M' F' hR25 => ?_))
    obtain ⟨m25, rfl, rfl, rfl⟩ := hR25
    refine TrL.v (v_move rfl rfl) rfl rfl (bl rfl) ?_
    refine TrL.v (v_extract rfl rfl rfl) rfl rfl (bl rfl) ?_
    refine TrL.v (v_extract rfl rfl rfl) rfl rfl (bl rfl) ?_
    refine TrL.cons rfl (op_alloc' rfl (bl rfl) rfl ze26 (fun b7 => ?_))
    refine TrL.cons rfl (op_store' (k := 0) (c' := [.int .i64 r25.1, .int .i64 r25.2.1, .slice m25.1 r25.2.2.1.length m25.2]) rfl rfl rfl rfl rfl ty26 rfl (Nat.le_of_ble_eq_true rfl) (ones (oc rfl (oc rfl (oc rfl on)))) rfl ?_)
    refine TrL.v (v_assign rfl rfl) rfl rfl (bl rfl) ?_
    refine TrL.nil (qthen_n ?_)
    refine Tr.seq ?_
    refine Tr.region ?_
    refine TrL.v (v_move rfl rfl) rfl rfl (bl rfl) ?_
    obtain ⟨r26, hr26, H⟩ := bnd H
    refine TrL.cons rfl (op_call0' (vs := [.slice A1 p1.length c1]) (cap := []) [0] rfl rfl (bl rfl) rfl rfl en27 (c_codec_New p1 A1 c1 r26 hr26) rfl (fun ret M' F' hR26 => ?_))
    obtain ⟨m26, rfl, rfl, rfl⟩ := hR26
    refine TrL.v (v_assign rfl rfl) rfl rfl (bl rfl) ?_
    refine TrL.nil (qthen_n ?_)
    refine Tr.seq ?_
    refine Tr.region ?_
    refine TrL.v (v_move rfl rfl) rfl rfl (bl rfl) ?_
    obtain ⟨r27, hr27, H⟩ := bnd H
    refine TrL.cons rfl (op_callg' (fs := []) (vs := [.pointer (some ⟨m26, 0, none⟩)]) (cap := []) (Mr := [cells b7 [.int .i64 r25.1, .int .i64 r25.2.1, .slice m25.1 r25.2.2.1.length m25.2] 26, cells b6 [.int .i64 r24.1, .int .i64 r24.2.1, .slice m24.1 r24.2.2.1.length m24.2] 35]) [0] [1, 2] [3] rfl rfl rfl en28 (c_record_Take ((p1.take ((p1.length : Int)).toNat, (0 : Int))) m26 (slA A1 0 ((p1.length : Int)).toNat 1) (((p1.length : Int)).toNat) r27 hr27) (by decide) rfl rfl rfl (bl rfl) (fun ret M' F' hR27 => ?_))
    obtain ⟨m27, rfl, rfl, rfl⟩ := hR27
    refine TrL.cons rfl (op_alloc' rfl (bl rfl) rfl ze35 (fun b8 => ?_))
    refine TrL.cons rfl (op_store' (k := 0) (c' := [.int .i64 r27.1, .int .i64 r27.2.1, .slice m27.1 r27.2.2.1.length m27.2.1]) rfl rfl rfl rfl rfl ty35 rfl (Nat.le_of_ble_eq_true rfl) (ones (oc rfl (oc rfl (oc rfl on)))) rfl ?_)
    refine TrL.nil (qthen_n ?_)
    refine Tr.seq ?_
    refine Tr.region ?_
    refine TrL.v (v_move rfl rfl) rfl rfl (bl rfl) ?_
    refine TrL.v (v_build (vs := [.slice A1 p1.length c1]) (out := [.slice A1 p1.length c1, .int .i64 0]) rfl pl51 ze51 rfl rfl) rfl rfl (bl rfl) ?_
    obtain ⟨r28, hr28, H⟩ := bnd H
    refine TrL.cons rfl (op_call0' (vs := [.agg #[.slice A1 p1.length c1, .int .i64 0]]) (cap := []) [0] rfl rfl (bl rfl) rfl rfl en29 (c_ref11_Take ((p1, (0 : Int))) A1 c1 r28 hr28) rfl (fun ret M' F' hR28 => ?_))
    obtain ⟨m28, rfl, rfl, rfl⟩ := hR28
    refine TrL.v (v_move rfl rfl) rfl rfl (bl rfl) ?_
    refine TrL.v (v_extract rfl rfl rfl) rfl rfl (bl rfl) ?_
    refine TrL.v (v_extract rfl rfl rfl) rfl rfl (bl rfl) ?_
    refine TrL.cons rfl (op_alloc' rfl (bl rfl) rfl ze51 (fun b9 => ?_))
    refine TrL.cons rfl (op_alloc' rfl (bl rfl) rfl ze26 (fun b10 => ?_))
    refine TrL.cons rfl (op_store' (k := 1) (c' := [.slice m28.1 r28.1.length m28.2.1, .int .i64 r28.2.1]) rfl rfl rfl rfl rfl ty51 rfl (Nat.le_of_ble_eq_true rfl) (ones (oc rfl (oc rfl on))) rfl ?_)
    refine TrL.cons rfl (op_store' (k := 0) (c' := [.int .i64 r28.2.2.1, .int .i64 r28.2.2.2.1, .slice m28.2.2.1 r28.2.2.2.2.length m28.2.2.2]) rfl rfl rfl rfl rfl ty26 rfl (Nat.le_of_ble_eq_true rfl) (ones (oc rfl (oc rfl (oc rfl on)))) rfl ?_)
    refine TrL.nil (qthen_n ?_)
    refine Tr.seq ?_
    refine Tr.re ⟨[(0, .slice A1 p1.length c1), (3, .bool r23), (4, .pointer (some ⟨b6, 0, none⟩)), (5, .int .i64 r24.2.2.2), (6, .pointer (some ⟨b7, 0, none⟩)), (7, .int .i64 r25.2.2.2), (8, .pointer (some ⟨m26, 0, none⟩)), (9, .pointer (some ⟨b8, 0, none⟩)), (10, .pointer (some ⟨b9, 0, none⟩)), (11, .pointer (some ⟨b10, 0, none⟩)), (12, .bool r23), (13, .slice A1 p1.length c1), (14, .int .i64 ((p1.length : Int))), (15, .bool (decide (400 < ((p1.length : Int))))), (17, .tuple #[.agg #[.int .i64 r24.1, .int .i64 r24.2.1, .slice m24.1 r24.2.2.1.length m24.2], .int .i64 r24.2.2.2]), (18, .slice A1 p1.length c1), (19, .tuple #[.agg #[.int .i64 r24.1, .int .i64 r24.2.1, .slice m24.1 r24.2.2.1.length m24.2], .int .i64 r24.2.2.2]), (20, .agg #[.int .i64 r24.1, .int .i64 r24.2.1, .slice m24.1 r24.2.2.1.length m24.2]), (21, .int .i64 r24.2.2.2), (22, .tuple #[.agg #[.int .i64 r25.1, .int .i64 r25.2.1, .slice m25.1 r25.2.2.1.length m25.2], .int .i64 r25.2.2.2]), (23, .slice A1 p1.length c1), (24, .tuple #[.agg #[.int .i64 r25.1, .int .i64 r25.2.1, .slice m25.1 r25.2.2.1.length m25.2], .int .i64 r25.2.2.2]), (25, .agg #[.int .i64 r25.1, .int .i64 r25.2.1, .slice m25.1 r25.2.2.1.length m25.2]), (26, .int .i64 r25.2.2.2), (27, .slice A1 p1.length c1), (28, .pointer (some ⟨m26, 0, none⟩)), (29, .pointer (some ⟨m26, 0, none⟩)), (30, .agg #[.int .i64 r27.1, .int .i64 r27.2.1, .slice m27.1 r27.2.2.1.length m27.2.1]), (31, .tuple #[.agg #[.slice m28.1 r28.1.length m28.2.1, .int .i64 r28.2.1], .agg #[.int .i64 r28.2.2.1, .int .i64 r28.2.2.2.1, .slice m28.2.2.1 r28.2.2.2.2.length m28.2.2.2]]), (32, .slice A1 p1.length c1), (33, .agg #[.slice A1 p1.length c1, .int .i64 0]), (34, .tuple #[.agg #[.slice m28.1 r28.1.length m28.2.1, .int .i64 r28.2.1], .agg #[.int .i64 r28.2.2.1, .int .i64 r28.2.2.2.1, .slice m28.2.2.1 r28.2.2.2.2.length m28.2.2.2]]), (35, .agg #[.slice m28.1 r28.1.length m28.2.1, .int .i64 r28.2.1]), (36, .agg #[.int .i64 r28.2.2.1, .int .i64 r28.2.2.2.1, .slice m28.2.2.1 r28.2.2.2.2.length m28.2.2.2])], [cells b10 [.int .i64 r28.2.2.1, .int .i64 r28.2.2.2.1, .slice m28.2.2.1 r28.2.2.2.2.length m28.2.2.2] 26, cells b9 [.slice m28.1 r28.1.length m28.2.1, .int .i64 r28.2.1] 51, cells b8 [.int .i64 r27.1, .int .i64 r27.2.1, .slice m27.1 r27.2.2.1.length m27.2.1] 35, cells m26 [.slice m27.2.2.1 r27.2.2.2.1.length m27.2.2.2, .int .i64 r27.2.2.2.2] 116, cells b7 [.int .i64 r25.1, .int .i64 r25.2.1, .slice m25.1 r25.2.2.1.length m25.2] 26, cells b6 [.int .i64 r24.1, .int .i64 r24.2.1, .slice m24.1 r24.2.2.1.length m24.2] 35], [slF (rInt .u8) A1 c1 p1, slF (rSl rp_u64_u64) m24.1 m24.2 r24.2.2.1, slF (rSl rp_u64_u64) m25.1 m25.2 r25.2.2.1, slF (rInt .u8) (slA A1 0 ((p1.length : Int)).toNat 1) (((p1.length : Int)).toNat) (p1.take ((p1.length : Int)).toNat), slF (rSl rp_u64_u64) m27.1 m27.2.1 r27.2.2.1, slF (rInt .u8) m27.2.2.1 m27.2.2.2 r27.2.2.2.1, slF (rInt .u8) m28.1 m28.2.1 r28.1, slF (rSl rp_u64_u64) m28.2.2.1 m28.2.2.2 r28.2.2.2.2], []⟩ [0, 1, 2, 3, 4, 5] [0, 1, 2, 3, 4, 5, 6, 7] (sc rfl (sc rfl (sc rfl (sc rfl (sc rfl (sc rfl (sc rfl (sc rfl (sc rfl (sc rfl (sc rfl (sc rfl (sc rfl (sc rfl (sc rfl (sc rfl (sc rfl (sc rfl (sc rfl (sc rfl (sc rfl (sc rfl (sc rfl (sc rfl (sc rfl (sc rfl (sc rfl (sc rfl (sc rfl (sc rfl (sc rfl (sc rfl (sc rfl (sc rfl sn)))))))))))))))))))))))))))))))))) (by decide) rfl rfl rfl ?_
    refine Tr.regionD drawn (fun hok => ?_)
    refine TrAny.prom (i := 0) (d := 37) hok (OpVal.plain rfl rfl (v_move rfl rfl)) (by kernel_rfl) rfl (bl rfl) ?_
    clear hok
    intro hok
    refine TrAny.prom (i := 1) (d := 38) hok (OpVal.plain rfl rfl (v_move rfl rfl)) (by kernel_rfl) rfl (bl rfl) ?_
    clear hok
    intro hok
    rcases ifc H with ⟨h38, H⟩ | ⟨h38, H⟩
    · refine TrAny.prom (i := 2) (d := 39) hok (OpVal.yes rfl rfl rfl rfl h38 (v_load (k := 5) rfl rfl rfl ty35 nofun rfl rfl)) (by kernel_rfl) rfl (bl rfl) ?_
      clear hok
      intro hok
      refine TrAny.prom (i := 3) (d := 40) hok (OpVal.yes rfl rfl rfl rfl h38 (v_load (k := 4) rfl rfl rfl ty26 nofun rfl rfl)) (by kernel_rfl) rfl (bl rfl) ?_
      clear hok
      intro hok
      obtain ⟨r41, hr41, H⟩ := bnd H
      refine TrAny.nextY (j := 4) (by kernel_rfl) hok rfl (by kernel_rfl) rfl rfl rfl h38 (op_call0' (vs := [.agg #[.int .i64 r24.1, .int .i64 r24.2.1, .slice m24.1 r24.2.2.1.length m24.2], .agg #[.int .i64 r25.1, .int .i64 r25.2.1, .slice m25.1 r25.2.2.1.length m25.2]]) (cap := []) [1, 2] rfl rfl (bl rfl) rfl rfl en30 (c_law11_same ((r24.1, r24.2.1, r24.2.2.1)) ((r25.1, r25.2.1, r25.2.2.1)) m24.1 m24.2 m25.1 m25.2 r41 hr41) rfl (fun ret M' F' hR41 => ?_))
      obtain ⟨rfl, rfl, rfl⟩ := hR41
      refine nxp hok (kp_imp (kp_c0 rfl)) rfl (by kernel_rfl) ?_
      clear hok
      intro hok
      refine TrAny.prom (i := 5) (d := 42) hok (OpVal.plain rfl rfl (v_pick_t rfl rfl h38 rfl)) (by kernel_rfl) rfl (bl rfl) ?_
      clear hok
      intro hok
      refine TrAny.prom (i := 6) (d := 43) hok (OpVal.plain rfl rfl (v_move rfl rfl)) (by kernel_rfl) rfl (bl rfl) ?_
      clear hok
      intro hok
      rcases ifc H with ⟨h39, H⟩ | ⟨h39, H⟩
      · refine TrAny.prom (i := 7) (d := 44) hok (OpVal.yes rfl rfl rfl rfl h39 (v_move rfl rfl)) (by kernel_rfl) rfl (bl rfl) ?_
        clear hok
        intro hok
        refine TrAny.prom (i := 8) (d := 45) hok (OpVal.yes rfl rfl rfl rfl h39 (v_move rfl rfl)) (by kernel_rfl) rfl (bl rfl) ?_
        clear hok
        intro hok
        refine TrAny.prom (i := 9) (d := 46) hok (OpVal.yes rfl rfl rfl rfl h39 (v_arith rfl rfl rfl ar_eql)) (by kernel_rfl) rfl (bl rfl) ?_
        clear hok
        intro hok
        refine TrAny.prom (i := 10) (d := 47) hok (OpVal.plain rfl rfl (v_pick_t rfl rfl h39 rfl)) (by kernel_rfl) rfl (bl rfl) ?_
        clear hok
        intro hok
        refine TrAny.prom (i := 11) (d := 48) hok (OpVal.plain rfl rfl (v_move rfl rfl)) (by kernel_rfl) rfl (bl rfl) ?_
        clear hok
        intro hok
        rcases ifc H with ⟨h40, H⟩ | ⟨h40, H⟩
        · refine TrAny.prom (i := 12) (d := 49) hok (OpVal.yes rfl rfl rfl rfl (bt_dec h40) (v_load (k := 2) rfl rfl rfl ty35 nofun rfl rfl)) (by kernel_rfl) rfl (bl rfl) ?_
          clear hok
          intro hok
          refine TrAny.prom (i := 13) (d := 50) hok (OpVal.yes rfl rfl rfl rfl (bt_dec h40) (v_load (k := 0) rfl rfl rfl ty26 nofun rfl rfl)) (by kernel_rfl) rfl (bl rfl) ?_
          clear hok
          intro hok
          obtain ⟨r42, hr42, H⟩ := bnd H
          refine TrAny.nextY (j := 14) (by kernel_rfl) hok rfl (by kernel_rfl) rfl rfl rfl (bt_dec h40) (op_call0' (vs := [.agg #[.int .i64 r27.1, .int .i64 r27.2.1, .slice m27.1 r27.2.2.1.length m27.2.1], .agg #[.int .i64 r28.2.2.1, .int .i64 r28.2.2.2.1, .slice m28.2.2.1 r28.2.2.2.2.length m28.2.2.2]]) (cap := []) [4, 7] rfl rfl (bl rfl) rfl rfl en30 (c_law11_same ((r27.1, r27.2.1, r27.2.2.1)) r28.2.2 m27.1 m27.2.1 m28.2.2.1 m28.2.2.2 r42 hr42) rfl (fun ret M' F' hR42 => ?_))
          obtain ⟨rfl, rfl, rfl⟩ := hR42
          refine nxp hok (kp_imp (kp_c0 rfl)) rfl (by kernel_rfl) ?_
          clear hok
          intro hok
          refine TrAny.prom (i := 15) (d := 52) hok (OpVal.plain rfl rfl (v_pick_t rfl rfl (bt_dec h40) rfl)) (by kernel_rfl) rfl (bl rfl) ?_
          clear hok
          intro hok
          refine TrAny.prom (i := 16) (d := 53) hok (OpVal.plain rfl rfl (v_move rfl rfl)) (by kernel_rfl) rfl (bl rfl) ?_
          clear hok
          intro hok
          rcases ifc H with ⟨h41, H⟩ | ⟨h41, H⟩
          · refine TrAny.prom (i := 17) (d := 54) hok (OpVal.yes rfl rfl rfl rfl h41 (v_move rfl rfl)) (by kernel_rfl) rfl (bl rfl) ?_
            clear hok
            intro hok
            refine TrAny.prom (i := 19) (d := 56) hok (OpVal.yes rfl rfl rfl rfl h41 (v_fieldAddr' rfl fo51_0 rfl rfl)) (by kernel_rfl) rfl (bl rfl) ?_
            clear hok
            intro hok
            refine TrAny.prom (i := 20) (d := 57) hok (OpVal.yes rfl rfl rfl rfl h41 (v_load (k := 1) rfl rfl rfl ty40 (fun _ => rfl) rfl rfl)) (by kernel_rfl) rfl (bl rfl) ?_
            clear hok
            intro hok
            refine TrAny.prom (i := 21) (d := 58) hok (OpVal.yes rfl rfl rfl rfl h41 (v_len rfl sl40 rfl)) (by kernel_rfl) rfl (bl rfl) ?_
            clear hok
            intro hok
            obtain ⟨r43, hr43, H⟩ := bnd H
            refine TrAny.nextY (j := 18) (by kernel_rfl) hok rfl (by kernel_rfl) rfl rfl rfl h41 (op_callg' (fs := []) (vs := [.pointer (some ⟨m26, 0, none⟩)]) (cap := []) (Mr := [cells b10 [.int .i64 r28.2.2.1, .int .i64 r28.2.2.2.1, .slice m28.2.2.1 r28.2.2.2.2.length m28.2.2.2] 26, cells b9 [.slice m28.1 r28.1.length m28.2.1, .int .i64 r28.2.1] 51, cells b8 [.int .i64 r27.1, .int .i64 r27.2.1, .slice m27.1 r27.2.2.1.length m27.2.1] 35, cells b7 [.int .i64 r25.1, .int .i64 r25.2.1, .slice m25.1 r25.2.2.1.length m25.2] 26, cells b6 [.int .i64 r24.1, .int .i64 r24.2.1, .slice m24.1 r24.2.2.1.length m24.2] 35]) [3] [0, 1, 2, 4, 5] [5] rfl rfl rfl en31 (c_codec_Reader_Left r27.2.2.2 m26 m27.2.2.1 m27.2.2.2 r43 hr43) (by decide) rfl rfl rfl (bl rfl) (fun ret M' F' hR43 => ?_))
            obtain ⟨rfl, rfl, rfl⟩ := hR43
            refine nxp hok (by first | exact (kp_imp (kp_cc [0, 1, 2, 3, 4, 5] rfl (by decide) rfl)) | exact (kp_allE [(0, 37, .bool r23), (1, 38, .bool r23), (2, 39, .agg #[.int .i64 r24.1, .int .i64 r24.2.1, .slice m24.1 r24.2.2.1.length m24.2]), (3, 40, .agg #[.int .i64 r25.1, .int .i64 r25.2.1, .slice m25.1 r25.2.2.1.length m25.2]), (5, 42, .bool r41), (6, 43, .bool r41), (7, 44, .int .i64 r24.2.2.2), (8, 45, .int .i64 r25.2.2.2), (9, 46, .bool (decide (r24.2.2.2 = r25.2.2.2))), (10, 47, .bool (decide (r24.2.2.2 = r25.2.2.2))), (11, 48, .bool (decide (r24.2.2.2 = r25.2.2.2))), (12, 49, .agg #[.int .i64 r27.1, .int .i64 r27.2.1, .slice m27.1 r27.2.2.1.length m27.2.1]), (13, 50, .agg #[.int .i64 r28.2.2.1, .int .i64 r28.2.2.2.1, .slice m28.2.2.1 r28.2.2.2.2.length m28.2.2.2]), (15, 52, .bool r42), (16, 53, .bool r42), (17, 54, .pointer (some ⟨m26, 0, none⟩)), (19, 56, .pointer (some ⟨b9, 0, none⟩)), (20, 57, .slice m28.1 r28.1.length m28.2.1), (21, 58, .int .i64 ((r28.1.length : Int)))] (by kernel_rfl) (ac (.inr (OpVal.plain rfl rfl (v_move rfl rfl))) (ac (.inr (OpVal.plain rfl rfl (v_move rfl rfl))) (ac (.inr (OpVal.yes rfl rfl rfl rfl h38 (v_load (k := 5) rfl rfl rfl ty35 nofun rfl rfl))) (ac (.inr (OpVal.yes rfl rfl rfl rfl h38 (v_load (k := 4) rfl rfl rfl ty26 nofun rfl rfl))) (ac (.inr (OpVal.plain rfl rfl (v_pick_t rfl rfl h38 rfl))) (ac (.inr (OpVal.plain rfl rfl (v_move rfl rfl))) (ac (.inr (OpVal.yes rfl rfl rfl rfl h39 (v_move rfl rfl))) (ac (.inr (OpVal.yes rfl rfl rfl rfl h39 (v_move rfl rfl))) (ac (.inr (OpVal.yes rfl rfl rfl rfl h39 (v_arith rfl rfl rfl ar_eql))) (ac (.inr (OpVal.plain rfl rfl (v_pick_t rfl rfl h39 rfl))) (ac (.inr (OpVal.plain rfl rfl (v_move rfl rfl))) (ac (.inr (OpVal.yes rfl rfl rfl rfl (bt_dec h40) (v_load (k := 3) rfl rfl rfl ty35 nofun rfl rfl))) (ac (.inr (OpVal.yes rfl rfl rfl rfl (bt_dec h40) (v_load (k := 1) rfl rfl rfl ty26 nofun rfl rfl))) (ac (.inr (OpVal.plain rfl rfl (v_pick_t rfl rfl (bt_dec h40) rfl))) (ac (.inl (by kernel_rfl)) (ac (.inl (by kernel_rfl)) (ac (.inr (OpVal.yes rfl rfl rfl rfl h41 (v_fieldAddr' rfl fo51_0 rfl rfl))) (ac (.inr (OpVal.yes rfl rfl rfl rfl h41 (v_load (k := 2) rfl rfl rfl ty40 (fun _ => rfl) rfl rfl))) (ac (.inr (OpVal.yes rfl rfl rfl rfl h41 (v_len rfl sl40 rfl))) an))))))))))))))))))))) rfl (by kernel_rfl) ?_
            clear hok
            intro hok
            refine TrAny.prom (i := 22) (d := 59) hok (OpVal.yes rfl rfl rfl rfl h41 (v_arith rfl rfl rfl ar_eql)) (by kernel_rfl) rfl (bl rfl) ?_
            clear hok
            intro hok
            refine TrAny.prom (i := 23) (d := 60) hok (OpVal.plain rfl rfl (v_pick_t rfl rfl h41 rfl)) (by kernel_rfl) rfl (bl rfl) ?_
            clear hok
            intro hok
            refine TrAny.prom (i := 24) (d := 61) hok (OpVal.plain rfl rfl (v_move rfl rfl)) (by kernel_rfl) rfl (bl rfl) ?_
            clear hok
            intro hok
            rcases ifc H with ⟨h42, H⟩ | ⟨h42, H⟩
            · refine TrAny.prom (i := 25) (d := 62) hok (OpVal.yes rfl rfl rfl rfl (bt_dec h42) (v_move rfl rfl)) (by kernel_rfl) rfl (bl rfl) ?_
              clear hok
              intro hok
              refine TrAny.prom (i := 27) (d := 64) hok (OpVal.yes rfl rfl rfl rfl (bt_dec h42) (v_fieldAddr' rfl fo51_1 rfl rfl)) (by kernel_rfl) rfl (bl rfl) ?_
              clear hok
              intro hok
              refine TrAny.prom (i := 28) (d := 65) hok (OpVal.yes rfl rfl rfl rfl (bt_dec h42) (v_load (k := 2) rfl rfl rfl ty3 (fun _ => rfl) rfl rfl)) (by kernel_rfl) rfl (bl rfl) ?_
              clear hok
              intro hok
              obtain ⟨r44, hr44, H⟩ := bnd H
              refine TrAny.nextY (j := 26) (by kernel_rfl) hok rfl (by kernel_rfl) rfl rfl rfl (bt_dec h42) (op_callg' (fs := []) (vs := [.pointer (some ⟨m26, 0, none⟩)]) (cap := []) (Mr := [cells b10 [.int .i64 r28.2.2.1, .int .i64 r28.2.2.2.1, .slice m28.2.2.1 r28.2.2.2.2.length m28.2.2.2] 26, cells b9 [.slice m28.1 r28.1.length m28.2.1, .int .i64 r28.2.1] 51, cells b8 [.int .i64 r27.1, .int .i64 r27.2.1, .slice m27.1 r27.2.2.1.length m27.2.1] 35, cells b7 [.int .i64 r25.1, .int .i64 r25.2.1, .slice m25.1 r25.2.2.1.length m25.2] 26, cells b6 [.int .i64 r24.1, .int .i64 r24.2.1, .slice m24.1 r24.2.2.1.length m24.2] 35]) [0] [1, 2, 3, 4, 5] [5] rfl rfl rfl en32 (c_codec_Reader_Err r27.2.2.2 m26 m27.2.2.1 m27.2.2.2 r44 hr44) (by decide) rfl rfl rfl (bl rfl) (fun ret M' F' hR44 => ?_))
              obtain ⟨rfl, rfl, rfl⟩ := hR44
              refine nxp hok (by first | exact (kp_imp (kp_cc [0, 1, 2, 3, 4, 5] rfl (by decide) rfl)) | exact (kp_allE [(0, 37, .bool r23), (1, 38, .bool r23), (2, 39, .agg #[.int .i64 r24.1, .int .i64 r24.2.1, .slice m24.1 r24.2.2.1.length m24.2]), (3, 40, .agg #[.int .i64 r25.1, .int .i64 r25.2.1, .slice m25.1 r25.2.2.1.length m25.2]), (5, 42, .bool r41), (6, 43, .bool r41), (7, 44, .int .i64 r24.2.2.2), (8, 45, .int .i64 r25.2.2.2), (9, 46, .bool (decide (r24.2.2.2 = r25.2.2.2))), (10, 47, .bool (decide (r24.2.2.2 = r25.2.2.2))), (11, 48, .bool (decide (r24.2.2.2 = r25.2.2.2))), (12, 49, .agg #[.int .i64 r27.1, .int .i64 r27.2.1, .slice m27.1 r27.2.2.1.length m27.2.1]), (13, 50, .agg #[.int .i64 r28.2.2.1, .int .i64 r28.2.2.2.1, .slice m28.2.2.1 r28.2.2.2.2.length m28.2.2.2]), (15, 52, .bool r42), (16, 53, .bool r42), (17, 54, .pointer (some ⟨m26, 0, none⟩)), (19, 56, .pointer (some ⟨b9, 0, none⟩)), (20, 57, .slice m28.1 r28.1.length m28.2.1), (21, 58, .int .i64 ((r28.1.length : Int))), (22, 59, .bool (decide (((r27.2.2.2.1.length : Int)) = ((r28.1.length : Int))))), (23, 60, .bool (decide (((r27.2.2.2.1.length : Int)) = ((r28.1.length : Int))))), (24, 61, .bool (decide (((r27.2.2.2.1.length : Int)) = ((r28.1.length : Int))))), (25, 62, .pointer (some ⟨m26, 0, none⟩)), (27, 64, .pointer (some ⟨b9, 1, none⟩)), (28, 65, .int .i64 r28.2.1)] (by kernel_rfl) (ac (.inr (OpVal.plain rfl rfl (v_move rfl rfl))) (ac (.inr (OpVal.plain rfl rfl (v_move rfl rfl))) (ac (.inr (OpVal.yes rfl rfl rfl rfl h38 (v_load (k := 5) rfl rfl rfl ty35 nofun rfl rfl))) (ac (.inr (OpVal.yes rfl rfl rfl rfl h38 (v_load (k := 4) rfl rfl rfl ty26 nofun rfl rfl))) (ac (.inr (OpVal.plain rfl rfl (v_pick_t rfl rfl h38 rfl))) (ac (.inr (OpVal.plain rfl rfl (v_move rfl rfl))) (ac (.inr (OpVal.yes rfl rfl rfl rfl h39 (v_move rfl rfl))) (ac (.inr (OpVal.yes rfl rfl rfl rfl h39 (v_move rfl rfl))) (ac (.inr (OpVal.yes rfl rfl rfl rfl h39 (v_arith rfl rfl rfl ar_eql))) (ac (.inr (OpVal.plain rfl rfl (v_pick_t rfl rfl h39 rfl))) (ac (.inr (OpVal.plain rfl rfl (v_move rfl rfl))) (ac (.inr (OpVal.yes rfl rfl rfl rfl (bt_dec h40) (v_load (k := 3) rfl rfl rfl ty35 nofun rfl rfl))) (ac (.inr (OpVal.yes rfl rfl rfl rfl (bt_dec h40) (v_load (k := 1) rfl rfl rfl ty26 nofun rfl rfl))) (ac (.inr (OpVal.plain rfl rfl (v_pick_t rfl rfl (bt_dec h40) rfl))) (ac (.inr (OpVal.plain rfl rfl (v_move rfl rfl))) (ac (.inr (OpVal.yes rfl rfl rfl rfl h41 (v_move rfl rfl))) (ac (.inr (OpVal.yes rfl rfl rfl rfl h41 (v_fieldAddr' rfl fo51_0 rfl rfl))) (ac (.inr (OpVal.yes rfl rfl rfl rfl h41 (v_load (k := 2) rfl rfl rfl ty40 (fun _ => rfl) rfl rfl))) (ac (.inr (OpVal.yes rfl rfl rfl rfl h41 (v_len rfl sl40 rfl))) (ac (.inr (OpVal.yes rfl rfl rfl rfl h41 (v_arith rfl rfl rfl ar_eql))) (ac (.inr (OpVal.plain rfl rfl (v_pick_t rfl rfl h41 rfl))) (ac (.inl (by kernel_rfl)) (ac (.inl (by kernel_rfl)) (ac (.inr (OpVal.yes rfl rfl rfl rfl (bt_dec h42) (v_fieldAddr' rfl fo51_1 rfl rfl))) (ac (.inr (OpVal.yes rfl rfl rfl rfl (bt_dec h42) (v_load (k := 2) rfl rfl rfl ty3 (fun _ => rfl) rfl rfl))) an))))))))))))))))))))))))))) rfl (by kernel_rfl) ?_
              clear hok
              intro hok
              refine TrAny.prom (i := 29) (d := 66) hok (OpVal.yes rfl rfl rfl rfl (bt_dec h42) (v_arith rfl rfl rfl ar_eql)) (by kernel_rfl) rfl (bl rfl) ?_
              clear hok
              intro hok
              refine TrAny.prom (i := 30) (d := 67) hok (OpVal.plain rfl rfl (v_pick_t rfl rfl (bt_dec h42) rfl)) (by kernel_rfl) rfl (bl rfl) ?_
              clear hok
              intro hok
              refine TrAny.prom (i := 31) (d := 2) hok (OpVal.plain rfl rfl (v_assign rfl rfl)) (by kernel_rfl) rfl (bl rfl) ?_
              clear hok
              intro hok
              refine TrAny.done (by kernel_rfl) (by kernel_rfl) hok (by kernel_rfl) (qthen_n ?_)
              have hz := Option.some.inj H
              subst hz
              refine Tr.ret (ret_r ⟨[(2, .bool (decide (r27.2.2.2.2 = r28.2.1)))], [], [], []⟩ [.bool (decide (r27.2.2.2.2 = r28.2.1))] [] [] (Imp.re _ [] [] (sc rfl sn) (by decide) rfl rfl rfl) rfl rfl ⟨rfl, rfl, rfl⟩ (.cons (resv_tmp rfl) .nil))
            · refine TrAny.prom (i := 25) (d := 62) hok (OpVal.no rfl (fun c h => by cases h) rfl rfl rfl (gn_t (bf_dec h42))) (by kernel_rfl) rfl (bl rfl) ?_
              clear hok
              intro hok
              refine TrAny.prom (i := 26) (d := 63) hok (OpVal.no rfl (fun c h => by cases h) rfl rfl rfl (gn_t (bf_dec h42))) (by kernel_rfl) rfl (bl rfl) ?_
              clear hok
              intro hok
              refine TrAny.prom (i := 27) (d := 64) hok (OpVal.no rfl (fun c h => by cases h) rfl rfl rfl (gn_t (bf_dec h42))) (by kernel_rfl) rfl (bl rfl) ?_
              clear hok
              intro hok
              refine TrAny.prom (i := 28) (d := 65) hok (OpVal.no rfl (fun c h => by cases h) rfl rfl rfl (gn_t (bf_dec h42))) (by kernel_rfl) rfl (bl rfl) ?_
              clear hok
              intro hok
              refine TrAny.prom (i := 29) (d := 66) hok (OpVal.no rfl (fun c h => by cases h) rfl rfl rfl (gn_t (bf_dec h42))) (by kernel_rfl) rfl (bl rfl) ?_
              clear hok
              intro hok
              refine TrAny.prom (i := 30) (d := 67) hok (OpVal.plain rfl rfl (v_pick_f rfl rfl (bf_dec h42) rfl)) (by kernel_rfl) rfl (bl rfl) ?_
              clear hok
              intro hok
              refine TrAny.prom (i := 31) (d := 2) hok (OpVal.plain rfl rfl (v_assign rfl rfl)) (by kernel_rfl) rfl (bl rfl) ?_
              clear hok
              intro hok
              refine TrAny.done (by kernel_rfl) (by kernel_rfl) hok (by kernel_rfl) (qthen_n ?_)
              have hz := Option.some.inj H
              subst hz
              refine Tr.ret (ret_r ⟨[(2, .bool false)], [], [], []⟩ [.bool false] [] [] (Imp.re _ [] [] (sc rfl sn) (by decide) rfl rfl rfl) rfl rfl ⟨rfl, rfl, rfl⟩ (.cons (resv_tmp rfl) .nil))
          · refine TrAny.prom (i := 17) (d := 54) hok (OpVal.no rfl (fun c h => by cases h) rfl rfl rfl (gn_t (bf_b h41))) (by kernel_rfl) rfl (bl rfl) ?_
            clear hok
            intro hok
            refine TrAny.prom (i := 18) (d := 55) hok (OpVal.no rfl (fun c h => by cases h) rfl rfl rfl (gn_t (bf_b h41))) (by kernel_rfl) rfl (bl rfl) ?_
            clear hok
            intro hok
            refine TrAny.prom (i := 19) (d := 56) hok (OpVal.no rfl (fun c h => by cases h) rfl rfl rfl (gn_t (bf_b h41))) (by kernel_rfl) rfl (bl rfl) ?_
            clear hok
            intro hok
            refine TrAny.prom (i := 20) (d := 57) hok (OpVal.no rfl (fun c h => by cases h) rfl rfl rfl (gn_t (bf_b h41))) (by kernel_rfl) rfl (bl rfl) ?_
            clear hok
            intro hok
            refine TrAny.prom (i := 21) (d := 58) hok (OpVal.no rfl (fun c h => by cases h) rfl rfl rfl (gn_t (bf_b h41))) (by kernel_rfl) rfl (bl rfl) ?_
            clear hok
            intro hok
            refine TrAny.prom (i := 22) (d := 59) hok (OpVal.no rfl (fun c h => by cases h) rfl rfl rfl (gn_t (bf_b h41))) (by kernel_rfl) rfl (bl rfl) ?_
            clear hok
            intro hok
            refine TrAny.prom (i := 23) (d := 60) hok (OpVal.plain rfl rfl (v_pick_f rfl rfl (bf_b h41) rfl)) (by kernel_rfl) rfl (bl rfl) ?_
            clear hok
            intro hok
            refine TrAny.prom (i := 24) (d := 61) hok (OpVal.plain rfl rfl (v_move rfl rfl)) (by kernel_rfl) rfl (bl rfl) ?_
            clear hok
            intro hok
            refine TrAny.prom (i := 25) (d := 62) hok (OpVal.no rfl (fun c h => by cases h) rfl rfl rfl (gn_t rfl)) (by kernel_rfl) rfl (bl rfl) ?_
            clear hok
            intro hok
            refine TrAny.prom (i := 26) (d := 63) hok (OpVal.no rfl (fun c h => by cases h) rfl rfl rfl (gn_t rfl)) (by kernel_rfl) rfl (bl rfl) ?_
            clear hok
            intro hok
            refine TrAny.prom (i := 27) (d := 64) hok (OpVal.no rfl (fun c h => by cases h) rfl rfl rfl (gn_t rfl)) (by kernel_rfl) rfl (bl rfl) ?_
            clear hok
            intro hok
            refine TrAny.prom (i := 28) (d := 65) hok (OpVal.no rfl (fun c h => by cases h) rfl rfl rfl (gn_t rfl)) (by kernel_rfl) rfl (bl rfl) ?_
            clear hok
            intro hok
            refine TrAny.prom (i := 29) (d := 66) hok (OpVal.no rfl (fun c h => by cases h) rfl rfl rfl (gn_t rfl)) (by kernel_rfl) rfl (bl rfl) ?_
            clear hok
            intro hok
            refine TrAny.prom (i := 30) (d := 67) hok (OpVal.plain rfl rfl (v_pick_f rfl rfl rfl rfl)) (by kernel_rfl) rfl (bl rfl) ?_
            clear hok
            intro hok
            refine TrAny.prom (i := 31) (d := 2) hok (OpVal.plain rfl rfl (v_assign rfl rfl)) (by kernel_rfl) rfl (bl rfl) ?_
            clear hok
            intro hok
            refine TrAny.done (by kernel_rfl) (by kernel_rfl) hok (by kernel_rfl) (qthen_n ?_)
            have hz := Option.some.inj H
            subst hz
            refine Tr.ret (ret_r ⟨[(2, .bool false)], [], [], []⟩ [.bool false] [] [] (Imp.re _ [] [] (sc rfl sn) (by decide) rfl rfl rfl) rfl rfl ⟨rfl, rfl, rfl⟩ (.cons (resv_tmp rfl) .nil))
        · refine TrAny.prom (i := 12) (d := 49) hok (OpVal.no rfl (fun c h => by cases h) rfl rfl rfl (gn_t (bf_dec h40))) (by kernel_rfl) rfl (bl rfl) ?_
          clear hok
          intro hok
          refine TrAny.prom (i := 13) (d := 50) hok (OpVal.no rfl (fun c h => by cases h) rfl rfl rfl (gn_t (bf_dec h40))) (by kernel_rfl) rfl (bl rfl) ?_
          clear hok
          intro hok
          refine TrAny.prom (i := 14) (d := 51) hok (OpVal.no rfl (fun c h => by cases h) rfl rfl rfl (gn_t (bf_dec h40))) (by kernel_rfl) rfl (bl rfl) ?_
          clear hok
          intro hok
          refine TrAny.prom (i := 15) (d := 52) hok (OpVal.plain rfl rfl (v_pick_f rfl rfl (bf_dec h40) rfl)) (by kernel_rfl) rfl (bl rfl) ?_
          clear hok
          intro hok
          refine TrAny.prom (i := 16) (d := 53) hok (OpVal.plain rfl rfl (v_move rfl rfl)) (by kernel_rfl) rfl (bl rfl) ?_
          clear hok
          intro hok
          refine TrAny.prom (i := 17) (d := 54) hok (OpVal.no rfl (fun c h => by cases h) rfl rfl rfl (gn_t rfl)) (by kernel_rfl) rfl (bl rfl) ?_
          clear hok
          intro hok
          refine TrAny.prom (i := 18) (d := 55) hok (OpVal.no rfl (fun c h => by cases h) rfl rfl rfl (gn_t rfl)) (by kernel_rfl) rfl (bl rfl) ?_
          clear hok
          intro hok
          refine TrAny.prom (i := 19) (d := 56) hok (OpVal.no rfl (fun c h => by cases h) rfl rfl rfl (gn_t rfl)) (by kernel_rfl) rfl (bl rfl) ?_
          clear hok
          intro hok
          refine TrAny.prom (i := 20) (d := 57) hok (OpVal.no rfl (fun c h => by cases h) rfl rfl rfl (gn_t rfl)) (by kernel_rfl) rfl (bl rfl) ?_
          clear hok
          intro hok
          refine TrAny.prom (i := 21) (d := 58) hok (OpVal.no rfl (fun c h => by cases h) rfl rfl rfl (gn_t rfl)) (by kernel_rfl) rfl (bl rfl) ?_
          clear hok
          intro hok
          refine TrAny.prom (i := 22) (d := 59) hok (OpVal.no rfl (fun c h => by cases h) rfl rfl rfl (gn_t rfl)) (by kernel_rfl) rfl (bl rfl) ?_
          clear hok
          intro hok
          refine TrAny.prom (i := 23) (d := 60) hok (OpVal.plain rfl rfl (v_pick_f rfl rfl rfl rfl)) (by kernel_rfl) rfl (bl rfl) ?_
          clear hok
          intro hok
          refine TrAny.prom (i := 24) (d := 61) hok (OpVal.plain rfl rfl (v_move rfl rfl)) (by kernel_rfl) rfl (bl rfl) ?_
          clear hok
          intro hok
          refine TrAny.prom (i := 25) (d := 62) hok (OpVal.no rfl (fun c h => by cases h) rfl rfl rfl (gn_t rfl)) (by kernel_rfl) rfl (bl rfl) ?_
          clear hok
          intro hok
          refine TrAny.prom (i := 26) (d := 63) hok (OpVal.no rfl (fun c h => by cases h) rfl rfl rfl (gn_t rfl)) (by kernel_rfl) rfl (bl rfl) ?_
          clear hok
          intro hok
          refine TrAny.prom (i := 27) (d := 64) hok (OpVal.no rfl (fun c h => by cases h) rfl rfl rfl (gn_t rfl)) (by kernel_rfl) rfl (bl rfl) ?_
          clear hok
          intro hok
          refine TrAny.prom (i := 28) (d := 65) hok (OpVal.no rfl (fun c h => by cases h) rfl rfl rfl (gn_t rfl)) (by kernel_rfl) rfl (bl rfl) ?_
          clear hok
          intro hok
          refine TrAny.prom (i := 29) (d := 66) hok (OpVal.no rfl (fun c h => by cases h) rfl rfl rfl (gn_t rfl)) (by kernel_rfl) rfl (bl rfl) ?_
          clear hok
          intro hok
          refine TrAny.prom (i := 30) (d := 67) hok (OpVal.plain rfl rfl (v_pick_f rfl rfl rfl rfl)) (by kernel_rfl) rfl (bl rfl) ?_
          clear hok
          intro hok
          refine TrAny.prom (i := 31) (d := 2) hok (OpVal.plain rfl rfl (v_assign rfl rfl)) (by kernel_rfl) rfl (bl rfl) ?_
          clear hok
          intro hok
          refine TrAny.done (by kernel_rfl) (by kernel_rfl) hok (by kernel_rfl) (qthen_n ?_)
          have hz := Option.some.inj H
          subst hz
          refine Tr.ret (ret_r ⟨[(2, .bool false)], [], [], []⟩ [.bool false] [] [] (Imp.re _ [] [] (sc rfl sn) (by decide) rfl rfl rfl) rfl rfl ⟨rfl, rfl, rfl⟩ (.cons (resv_tmp rfl) .nil))
      · refine TrAny.prom (i := 7) (d := 44) hok (OpVal.no rfl (fun c h => by cases h) rfl rfl rfl (gn_t (bf_b h39))) (by kernel_rfl) rfl (bl rfl) ?_
        clear hok
        intro hok
        refine TrAny.prom (i := 8) (d := 45) hok (OpVal.no rfl (fun c h => by cases h) rfl rfl rfl (gn_t (bf_b h39))) (by kernel_rfl) rfl (bl rfl) ?_
        clear hok
        intro hok
        refine TrAny.prom (i := 9) (d := 46) hok (OpVal.no rfl (fun c h => by cases h) rfl rfl rfl (gn_t (bf_b h39))) (by kernel_rfl) rfl (bl rfl) ?_
        clear hok
        intro hok
        refine TrAny.prom (i := 10) (d := 47) hok (OpVal.plain rfl rfl (v_pick_f rfl rfl (bf_b h39) rfl)) (by kernel_rfl) rfl (bl rfl) ?_
        clear hok
        intro hok
        refine TrAny.prom (i := 11) (d := 48) hok (OpVal.plain rfl rfl (v_move rfl rfl)) (by kernel_rfl) rfl (bl rfl) ?_
        clear hok
        intro hok
        refine TrAny.prom (i := 12) (d := 49) hok (OpVal.no rfl (fun c h => by cases h) rfl rfl rfl (gn_t rfl)) (by kernel_rfl) rfl (bl rfl) ?_
        clear hok
        intro hok
        refine TrAny.prom (i := 13) (d := 50) hok (OpVal.no rfl (fun c h => by cases h) rfl rfl rfl (gn_t rfl)) (by kernel_rfl) rfl (bl rfl) ?_
        clear hok
        intro hok
        refine TrAny.prom (i := 14) (d := 51) hok (OpVal.no rfl (fun c h => by cases h) rfl rfl rfl (gn_t rfl)) (by kernel_rfl) rfl (bl rfl) ?_
        clear hok
        intro hok
        refine TrAny.prom (i := 15) (d := 52) hok (OpVal.plain rfl rfl (v_pick_f rfl rfl rfl rfl)) (by kernel_rfl) rfl (bl rfl) ?_
        clear hok
        intro hok
        refine TrAny.prom (i := 16) (d := 53) hok (OpVal.plain rfl rfl (v_move rfl rfl)) (by kernel_rfl) rfl (bl rfl) ?_
        clear hok
        intro hok
        refine TrAny.prom (i := 17) (d := 54) hok (OpVal.no rfl (fun c h => by cases h) rfl rfl rfl (gn_t rfl)) (by kernel_rfl) rfl (bl rfl) ?_
        clear hok
        intro hok
        refine TrAny.prom (i := 18) (d := 55) hok (OpVal.no rfl (fun c h => by cases h) rfl rfl rfl (gn_t rfl)) (by kernel_rfl) rfl (bl rfl) ?_
        clear hok
        intro hok
        refine TrAny.prom (i := 19) (d := 56) hok (OpVal.no rfl (fun c h => by cases h) rfl rfl rfl (gn_t rfl)) (by kernel_rfl) rfl (bl rfl) ?_
        clear hok
        intro hok
        refine TrAny.prom (i := 20) (d := 57) hok (OpVal.no rfl (fun c h => by cases h) rfl rfl rfl (gn_t rfl)) (by kernel_rfl) rfl (bl rfl) ?_
        clear hok
        intro hok
        refine TrAny.prom (i := 21) (d := 58) hok (OpVal.no rfl (fun c h => by cases h) rfl rfl rfl (gn_t rfl)) (by kernel_rfl) rfl (bl rfl) ?_
        clear hok
        intro hok
        refine TrAny.prom (i := 22) (d := 59) hok (OpVal.no rfl (fun c h => by cases h) rfl rfl rfl (gn_t rfl)) (by kernel_rfl) rfl (bl rfl) ?_
        clear hok
        intro hok
        refine TrAny.prom (i := 23) (d := 60) hok (OpVal.plain rfl rfl (v_pick_f rfl rfl rfl rfl)) (by kernel_rfl) rfl (bl rfl) ?_
        clear hok
        intro hok
        refine TrAny.prom (i := 24) (d := 61) hok (OpVal.plain rfl rfl (v_move rfl rfl)) (by kernel_rfl) rfl (bl rfl) ?_
        clear hok
        intro hok
        refine TrAny.prom (i := 25) (d := 62) hok (OpVal.no rfl (fun c h => by cases h) rfl rfl rfl (gn_t rfl)) (by kernel_rfl) rfl (bl rfl) ?_
        clear hok
        intro hok
        refine TrAny.prom (i := 26) (d := 63) hok (OpVal.no rfl (fun c h => by cases h) rfl rfl rfl (gn_t rfl)) (by kernel_rfl) rfl (bl rfl) ?_
        clear hok
        intro hok
        refine TrAny.prom (i := 27) (d := 64) hok (OpVal.no rfl (fun c h => by cases h) rfl rfl rfl (gn_t rfl)) (by kernel_rfl) rfl (bl rfl) ?_
        clear hok
        intro hok
        refine TrAny.prom (i := 28) (d := 65) hok (OpVal.no rfl (fun c h => by cases h) rfl rfl rfl (gn_t rfl)) (by kernel_rfl) rfl (bl rfl) ?_
        clear hok
        intro hok
        refine TrAny.prom (i := 29) (d := 66) hok (OpVal.no rfl (fun c h => by cases h) rfl rfl rfl (gn_t rfl)) (by kernel_rfl) rfl (bl rfl) ?_
        clear hok
        intro hok
        refine TrAny.prom (i := 30) (d := 67) hok (OpVal.plain rfl rfl (v_pick_f rfl rfl rfl rfl)) (by kernel_rfl) rfl (bl rfl) ?_
        clear hok
        intro hok
        refine TrAny.prom (i := 31) (d := 2) hok (OpVal.plain rfl rfl (v_assign rfl rfl)) (by kernel_rfl) rfl (bl rfl) ?_
        clear hok
        intro hok
        refine TrAny.done (by kernel_rfl) (by kernel_rfl) hok (by kernel_rfl) (qthen_n ?_)
        have hz := Option.some.inj H
        subst hz
        refine Tr.ret (ret_r ⟨[(2, .bool false)], [], [], []⟩ [.bool false] [] [] (Imp.re _ [] [] (sc rfl sn) (by decide) rfl rfl rfl) rfl rfl ⟨rfl, rfl, rfl⟩ (.cons (resv_tmp rfl) .nil))
    · refine TrAny.prom (i := 2) (d := 39) hok (OpVal.no rfl (fun c h => by cases h) rfl rfl rfl (gn_t (bf_b h38))) (by kernel_rfl) rfl (bl rfl) ?_
      clear hok
      intro hok
      refine TrAny.prom (i := 3) (d := 40) hok (OpVal.no rfl (fun c h => by cases h) rfl rfl rfl (gn_t (bf_b h38))) (by kernel_rfl) rfl (bl rfl) ?_
      clear hok
      intro hok
      refine TrAny.prom (i := 4) (d := 41) hok (OpVal.no rfl (fun c h => by cases h) rfl rfl rfl (gn_t (bf_b h38))) (by kernel_rfl) rfl (bl rfl) ?_
      clear hok
      intro hok
      refine TrAny.prom (i := 5) (d := 42) hok (OpVal.plain rfl rfl (v_pick_f rfl rfl (bf_b h38) rfl)) (by kernel_rfl) rfl (bl rfl) ?_
      clear hok
      intro hok
      refine TrAny.prom (i := 6) (d := 43) hok (OpVal.plain rfl rfl (v_move rfl rfl)) (by kernel_rfl) rfl (bl rfl) ?_
      clear hok
      intro hok
      refine TrAny.prom (i := 7) (d := 44) hok (OpVal.no rfl (fun c h => by cases h) rfl rfl rfl (gn_t rfl)) (by kernel_rfl) rfl (bl rfl) ?_
      clear hok
      intro hok
      refine TrAny.prom (i := 8) (d := 45) hok (OpVal.no rfl (fun c h => by cases h) rfl rfl rfl (gn_t rfl)) (by kernel_rfl) rfl (bl rfl) ?_
      clear hok
      intro hok
      refine TrAny.prom (i := 9) (d := 46) hok (OpVal.no rfl (fun c h => by cases h) rfl rfl rfl (gn_t rfl)) (by kernel_rfl) rfl (bl rfl) ?_
      clear hok
      intro hok
      refine TrAny.prom (i := 10) (d := 47) hok (OpVal.plain rfl rfl (v_pick_f rfl rfl rfl rfl)) (by kernel_rfl) rfl (bl rfl) ?_
      clear hok
      intro hok
      refine TrAny.prom (i := 11) (d := 48) hok (OpVal.plain rfl rfl (v_move rfl rfl)) (by kernel_rfl) rfl (bl rfl) ?_
      clear hok
      intro hok
      refine TrAny.prom (i := 12) (d := 49) hok (OpVal.no rfl (fun c h => by cases h) rfl rfl rfl (gn_t rfl)) (by kernel_rfl) rfl (bl rfl) ?_
      clear hok
      intro hok
      refine TrAny.prom (i := 13) (d := 50) hok (OpVal.no rfl (fun c h => by cases h) rfl rfl rfl (gn_t rfl)) (by kernel_rfl) rfl (bl rfl) ?_
      clear hok
      intro hok
      refine TrAny.prom (i := 14) (d := 51) hok (OpVal.no rfl (fun c h => by cases h) rfl rfl rfl (gn_t rfl)) (by kernel_rfl) rfl (bl rfl) ?_
      clear hok
      intro hok
      refine TrAny.prom (i := 15) (d := 52) hok (OpVal.plain rfl rfl (v_pick_f rfl rfl rfl rfl)) (by kernel_rfl) rfl (bl rfl) ?_
      clear hok
      intro hok
      refine TrAny.prom (i := 16) (d := 53) hok (OpVal.plain rfl rfl (v_move rfl rfl)) (by kernel_rfl) rfl (bl rfl) ?_
      clear hok
      intro hok
      refine TrAny.prom (i := 17) (d := 54) hok (OpVal.no rfl (fun c h => by cases h) rfl rfl rfl (gn_t rfl)) (by kernel_rfl) rfl (bl rfl) ?_
      clear hok
      intro hok
      refine TrAny.prom (i := 18) (d := 55) hok (OpVal.no rfl (fun c h => by cases h) rfl rfl rfl (gn_t rfl)) (by kernel_rfl) rfl (bl rfl) ?_
      clear hok
      intro hok
      refine TrAny.prom (i := 19) (d := 56) hok (OpVal.no rfl (fun c h => by cases h) rfl rfl rfl (gn_t rfl)) (by kernel_rfl) rfl (bl rfl) ?_
      clear hok
      intro hok
      refine TrAny.prom (i := 20) (d := 57) hok (OpVal.no rfl (fun c h => by cases h) rfl rfl rfl (gn_t rfl)) (by kernel_rfl) rfl (bl rfl) ?_
      clear hok
      intro hok
      refine TrAny.prom (i := 21) (d := 58) hok (OpVal.no rfl (fun c h => by cases h) rfl rfl rfl (gn_t rfl)) (by kernel_rfl) rfl (bl rfl) ?_
      clear hok
      intro hok
      refine TrAny.prom (i := 22) (d := 59) hok (OpVal.no rfl (fun c h => by cases h) rfl rfl rfl (gn_t rfl)) (by kernel_rfl) rfl (bl rfl) ?_
      clear hok
      intro hok
      refine TrAny.prom (i := 23) (d := 60) hok (OpVal.plain rfl rfl (v_pick_f rfl rfl rfl rfl)) (by kernel_rfl) rfl (bl rfl) ?_
      clear hok
      intro hok
      refine TrAny.prom (i := 24) (d := 61) hok (OpVal.plain rfl rfl (v_move rfl rfl)) (by kernel_rfl) rfl (bl rfl) ?_
      clear hok
      intro hok
      refine TrAny.prom (i := 25) (d := 62) hok (OpVal.no rfl (fun c h => by cases h) rfl rfl rfl (gn_t rfl)) (by kernel_rfl) rfl (bl rfl) ?_
      clear hok
      intro hok
      refine TrAny.prom (i := 26) (d := 63) hok (OpVal.no rfl (fun c h => by cases h) rfl rfl rfl (gn_t rfl)) (by kernel_rfl) rfl (bl rfl) ?_
      clear hok
      intro hok
      refine TrAny.prom (i := 27) (d := 64) hok (OpVal.no rfl (fun c h => by cases h) rfl rfl rfl (gn_t rfl)) (by kernel_rfl) rfl (bl rfl) ?_
      clear hok
      intro hok
      refine TrAny.prom (i := 28) (d := 65) hok (OpVal.no rfl (fun c h => by cases h) rfl rfl rfl (gn_t rfl)) (by kernel_rfl) rfl (bl rfl) ?_
      clear hok
      intro hok
      refine TrAny.prom (i := 29) (d := 66) hok (OpVal.no rfl (fun c h => by cases h) rfl rfl rfl (gn_t rfl)) (by kernel_rfl) rfl (bl rfl) ?_
      clear hok
      intro hok
      refine TrAny.prom (i := 30) (d := 67) hok (OpVal.plain rfl rfl (v_pick_f rfl rfl rfl rfl)) (by kernel_rfl) rfl (bl rfl) ?_
      clear hok
      intro hok
      refine TrAny.prom (i := 31) (d := 2) hok (OpVal.plain rfl rfl (v_assign rfl rfl)) (by kernel_rfl) rfl (bl rfl) ?_
      clear hok
      intro hok
      refine TrAny.done (by kernel_rfl) (by kernel_rfl) hok (by kernel_rfl) (qthen_n ?_)
      have hz := Option.some.inj H
      subst hz
      refine Tr.ret (ret_r ⟨[(2, .bool false)], [], [], []⟩ [.bool false] [] [] (Imp.re _ [] [] (sc rfl sn) (by decide) rfl rfl rfl) rfl rfl ⟨rfl, rfl, rfl⟩ (.cons (resv_tmp rfl) .nil))
end Go.Proofs.Ytbeknohemgjfbaa.W
