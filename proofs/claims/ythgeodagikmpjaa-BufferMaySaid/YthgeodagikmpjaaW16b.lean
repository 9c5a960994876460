/- The contracts of the walked functions: the printed walks. -/
import Derived.Test.YthgeodagikmpjaaKb
import Derived.Test.YthgeodagikmpjaaQb
import Derived.Test.YthgeodagikmpjaaWbufferab
import Derived.Test.YthgeodagikmpjaaWbuffercb
import Derived.Test.YthgeodagikmpjaaWlaw12ab
import Derived.Test.YthgeodagikmpjaaWlaw12bb
import Derived.Test.YthgeodagikmpjaaWref12ab
import Derived.Test.YthgeodagikmpjaaWref12bb
namespace Go.Proofs.Ythgeodagikmpjaa.W
open Go Go.Proofs Go.Proofs.Ythgeodagikmpjaa.L Go.Proofs.Ythgeodagikmpjaa.Pu
set_option linter.unusedVariables false
set_option maxHeartbeats 4000000

theorem c_law12_BufferMay (p1 : Int × Int × Int × Int × List (Int × Int × Int)) (p2 : Int × Int × Int × Int × List (Int × Int × Int)) (A1 : Option Addr) (c1 : Nat) (A2 : Option Addr) (c2 : Nat) (r : Bool) (H : law12_BufferMay p1 p2 = some r) :
    Ctr Try.prog 16 [.agg #[.int .u64 p1.1, .int .i64 p1.2.1, .int .u64 p1.2.2.1, .int .u64 p1.2.2.2.1, .slice A1 p1.2.2.2.2.length c1], .agg #[.int .u64 p2.1, .int .i64 p2.2.1, .int .u64 p2.2.2.1, .int .u64 p2.2.2.2.1, .slice A2 p2.2.2.2.2.length c2]] [] [slF rp_u64_u64_u64 A1 c1 p1.2.2.2.2, slF rp_u64_u64_u64 A2 c2 p2.2.2.2.2] (fun ret M' F' => ret = .bool r ∧ M' = [] ∧ F' = []) := by
  unfold law12_BufferMay at H
  refine ctr_ofI (N := 82) Try.func16 rfl Try.ntmps16 rfl (Nat.le_of_ble_eq_true rfl) (fun γ0 w0 => ?_)
  refine Tr.seq ?_
  refine Tr.region ?_
  refine TrL.cons rfl (op_box' rfl (bl rfl) rfl rfl rfl (fun b4 => ?_))
  refine TrL.cons rfl (op_box' rfl (bl rfl) rfl rfl rfl (fun b5 => ?_))
  refine TrL.v (v_assign rfl rfl) rfl rfl (bl rfl) ?_
  refine TrL.nil (qthen_n ?_)
  refine Tr.seq ?_
  refine Tr.region ?_
  obtain ⟨r53, hr53, H⟩ := bnd H
  refine TrL.cons rfl (op_call0' (vs := []) (cap := []) [] rfl rfl (bl rfl) rfl rfl en38 (c_law12_awake r53 hr53) rfl (fun ret M' F' hR65 => ?_))
  obtain ⟨rfl, rfl, rfl⟩ := hR65
  refine TrL.v (v_assign rfl rfl) rfl rfl (bl rfl) ?_
  refine TrL.nil (qthen_n ?_)
  refine Tr.seq ?_
  refine Tr.seq ?_
  refine Tr.region ?_
  refine TrL.v (v_fieldAddr' rfl fo58_4 rfl rfl) rfl rfl (bl rfl) ?_
  refine TrL.v (v_load (k := 1) rfl rfl rfl ty46 (fun _ => rfl) rfl rfl) rfl rfl (bl rfl) ?_
  refine TrL.v (v_len rfl sl46 rfl) rfl rfl (bl rfl) ?_
  refine TrL.v (v_arith rfl rfl rfl ar_gtr) rfl rfl (bl rfl) ?_
  refine TrL.v (v_move rfl rfl) rfl rfl (bl rfl) ?_
  rcases ifc H with ⟨h41, H⟩ | ⟨h41, H⟩
  · refine TrL.cons_no rfl rfl rfl (gn_f (bt_dec h41)) rfl (bl rfl) ?_
    refine TrL.cons_no rfl rfl rfl (gn_f (bt_dec h41)) rfl (bl rfl) ?_
    refine TrL.cons_no rfl rfl rfl (gn_f (bt_dec h41)) rfl (bl rfl) ?_
    refine TrL.cons_no rfl rfl rfl (gn_f (bt_dec h41)) rfl (bl rfl) ?_
    refine TrL.v (v_pick_t rfl rfl (bt_dec h41) rfl) rfl rfl (bl rfl) ?_
    refine TrL.nil (qthen_n ?_)
    refine Tr.cond_t rfl rfl ?_
    refine Tr.seq ?_
    refine Tr.region ?_
    refine TrL.v (v_move rfl rfl) rfl rfl (bl rfl) ?_
    refine TrL.v (v_assign rfl rfl) rfl rfl (bl rfl) ?_
    refine TrL.nil (qthen_n ?_)
    have hz := Option.some.inj H
    subst hz
    refine Tr.ret (qthen_r (ret_r ⟨[(4, .bool r53)], [], [], []⟩ [.bool r53] [] [] (Imp.re _ [] [] (sc rfl sn) (by decide) rfl rfl rfl) rfl rfl ⟨rfl, rfl, rfl⟩ (.cons (resv_tmp rfl) .nil)))
  · refine TrL.cons_yes rfl rfl rfl (bf_dec h41) (OpTr.v (v_fieldAddr' rfl fo58_4 rfl rfl) rfl (bl rfl) ?_)
    refine TrL.cons_yes rfl rfl rfl (bf_dec h41) (OpTr.v (v_load (k := 0) rfl rfl rfl ty46 (fun _ => rfl) rfl rfl) rfl (bl rfl) ?_)
    refine TrL.cons_yes rfl rfl rfl (bf_dec h41) (OpTr.v (v_len rfl sl46 rfl) rfl (bl rfl) ?_)
    refine TrL.cons_yes rfl rfl rfl (bf_dec h41) (OpTr.v (v_arith rfl rfl rfl ar_gtr) rfl (bl rfl) ?_)
    refine TrL.v (v_pick_f rfl rfl (bf_dec h41) rfl) rfl rfl (bl rfl) ?_
    refine TrL.nil (qthen_n ?_)
    rcases ifc H with ⟨h42, H⟩ | ⟨h42, H⟩
    · refine Tr.cond_t rfl (bt_dec h42) ?_
      refine Tr.seq ?_
      refine Tr.region ?_
      refine TrL.v (v_move rfl rfl) rfl rfl (bl rfl) ?_
      refine TrL.v (v_assign rfl rfl) rfl rfl (bl rfl) ?_
      refine TrL.nil (qthen_n ?_)
      have hz := Option.some.inj H
      subst hz
      refine Tr.ret (qthen_r (ret_r ⟨[(4, .bool r53)], [], [], []⟩ [.bool r53] [] [] (Imp.re _ [] [] (sc rfl sn) (by decide) rfl rfl rfl) rfl rfl ⟨rfl, rfl, rfl⟩ (.cons (resv_tmp rfl) .nil)))
    · refine Tr.cond_f rfl (bf_dec h42) ?_
      refine Tr.skip (qthen_n ?_)
      refine Tr.seq ?_
      refine Tr.region ?_
      refine TrL.v (v_fieldAddr' rfl fo58_0 rfl rfl) rfl rfl (bl rfl) ?_
      refine TrL.v (v_load (k := 1) rfl rfl rfl ty22 (fun _ => rfl) rfl rfl) rfl rfl (bl rfl) ?_
      refine TrL.v (v_fieldAddr' rfl fo58_1 rfl rfl) rfl rfl (bl rfl) ?_
      refine TrL.v (v_load (k := 1) rfl rfl rfl ty3 (fun _ => rfl) rfl rfl) rfl rfl (bl rfl) ?_
      obtain ⟨r54, hr54, H⟩ := bnd H
      refine TrL.cons rfl (op_call0' (vs := [.int .u64 p1.1, .int .i64 p1.2.1]) (cap := []) [] rfl rfl (bl rfl) rfl rfl en39 (c_buffer_New p1.1 p1.2.1 r54 hr54) rfl (fun ret M' F' hR66 => ?_))
      obtain ⟨rfl, rfl, rfl⟩ := hR66
      refine TrL.v (v_move rfl rfl) rfl rfl (bl rfl) ?_
      refine TrL.v (v_extract rfl rfl rfl) rfl rfl (bl rfl) ?_
      refine TrL.v (v_extract rfl rfl rfl) rfl rfl (bl rfl) ?_
      refine TrL.cons rfl (op_alloc' rfl (bl rfl) rfl ze48 (fun b6 => ?_))
      refine TrL.cons rfl (op_store' (k := 0) (c' := [.int .u64 r54.1, .int .i64 r54.2.1, .int .u64 0, .int .u64 0, .slice none 0 0]) rfl rfl rfl rfl rfl ty48 rfl (Nat.le_of_ble_eq_true rfl) (ones (oc rfl (oc rfl (oc rfl (oc rfl (oc rfl on)))))) rfl ?_)
      refine TrL.v (v_assign rfl rfl) rfl rfl (bl rfl) ?_
      refine TrL.nil (qthen_n ?_)
      refine Tr.seq ?_
      refine Tr.region ?_
      refine TrL.v (v_fieldAddr' rfl fo58_0 rfl rfl) rfl rfl (bl rfl) ?_
      refine TrL.v (v_load (k := 2) rfl rfl rfl ty22 (fun _ => rfl) rfl rfl) rfl rfl (bl rfl) ?_
      refine TrL.v (v_fieldAddr' rfl fo58_1 rfl rfl) rfl rfl (bl rfl) ?_
      refine TrL.v (v_load (k := 2) rfl rfl rfl ty3 (fun _ => rfl) rfl rfl) rfl rfl (bl rfl) ?_
      obtain ⟨r55, hr55, H⟩ := bnd H
      refine TrL.cons rfl (op_call0' (vs := [.int .u64 p1.1, .int .i64 p1.2.1]) (cap := []) [] rfl rfl (bl rfl) rfl rfl en56 (c_ref12_Conf p1.1 p1.2.1 r55 hr55) rfl (fun ret M' F' hR67 => ?_))
      obtain ⟨rfl, rfl, rfl⟩ := hR67
      refine TrL.v (v_assign rfl rfl) rfl rfl (bl rfl) ?_
      refine TrL.nil (qthen_n ?_)
      refine Tr.seq ?_
      refine Tr.region ?_
      refine TrL.v (v_load (k := 0) rfl rfl rfl ty48 nofun rfl rfl) rfl rfl (bl rfl) ?_
      refine TrL.v (v_fieldAddr' rfl fo58_0 rfl rfl) rfl rfl (bl rfl) ?_
      refine TrL.v (v_load (k := 2) rfl rfl rfl ty22 (fun _ => rfl) rfl rfl) rfl rfl (bl rfl) ?_
      refine TrL.v (v_fieldAddr' rfl fo58_1 rfl rfl) rfl rfl (bl rfl) ?_
      refine TrL.v (v_load (k := 2) rfl rfl rfl ty3 (fun _ => rfl) rfl rfl) rfl rfl (bl rfl) ?_
      refine TrL.v (v_build (vs := [.int .u64 p1.1, .int .i64 p1.2.1]) (out := [.int .u64 p1.1, .int .i64 p1.2.1, .int .u64 0, .int .u64 0, .slice none 0 0]) rfl pl58 ze58 rfl rfl) rfl rfl (bl rfl) ?_
      obtain ⟨r56, hr56, H⟩ := bnd H
      refine TrL.cons rfl (op_call0' (vs := [.agg #[.int .u64 r54.1, .int .i64 r54.2.1, .int .u64 0, .int .u64 0, .slice none 0 0], .agg #[.int .u64 p1.1, .int .i64 p1.2.1, .int .u64 0, .int .u64 0, .slice none 0 0]]) (cap := []) [2, 2] rfl rfl (bl rfl) rfl rfl en43 (c_law12_same ((r54.1, r54.2.1, (0 : Int), (0 : Int), ([] : List (Int × Int × Int)))) ((p1.1, p1.2.1, (0 : Int), (0 : Int), ([] : List (Int × Int × Int)))) none 0 none 0 r56 hr56) rfl (fun ret M' F' hR68 => ?_))
      obtain ⟨rfl, rfl, rfl⟩ := hR68
      refine TrL.v (v_assign rfl rfl) rfl rfl (bl rfl) ?_
      refine TrL.nil (qthen_n ?_)
      refine Tr.seq ?_
      refine Tr.re ⟨[(0, .agg #[.int .u64 p1.1, .int .i64 p1.2.1, .int .u64 p1.2.2.1, .int .u64 p1.2.2.2.1, .slice A1 p1.2.2.2.2.length c1]), (1, .agg #[.int .u64 p2.1, .int .i64 p2.2.1, .int .u64 p2.2.2.1, .int .u64 p2.2.2.2.1, .slice A2 p2.2.2.2.2.length c2]), (2, .pointer (some ⟨b4, 0, none⟩)), (3, .pointer (some ⟨b5, 0, none⟩)), (5, .bool r53), (6, .pointer (some ⟨b6, 0, none⟩)), (7, .int .i64 r54.2.2), (8, .bool r55), (9, .bool r56), (10, .bool r53), (11, .pointer (some ⟨b4, 4, none⟩)), (12, .slice A1 p1.2.2.2.2.length c1), (13, .int .i64 ((p1.2.2.2.2.length : Int))), (14, .bool (decide (60 < ((p1.2.2.2.2.length : Int))))), (15, .bool (decide (60 < ((p1.2.2.2.2.length : Int))))), (16, .pointer (some ⟨b5, 4, none⟩)), (17, .slice A2 p2.2.2.2.2.length c2), (18, .int .i64 ((p2.2.2.2.2.length : Int))), (19, .bool (decide (60 < ((p2.2.2.2.2.length : Int))))), (20, .bool (decide (60 < ((p2.2.2.2.2.length : Int))))), (22, .tuple #[.agg #[.int .u64 r54.1, .int .i64 r54.2.1, .int .u64 0, .int .u64 0, .slice none 0 0], .int .i64 r54.2.2]), (23, .pointer (some ⟨b4, 0, none⟩)), (24, .int .u64 p1.1), (25, .pointer (some ⟨b4, 1, none⟩)), (26, .int .i64 p1.2.1), (27, .tuple #[.agg #[.int .u64 r54.1, .int .i64 r54.2.1, .int .u64 0, .int .u64 0, .slice none 0 0], .int .i64 r54.2.2]), (28, .agg #[.int .u64 r54.1, .int .i64 r54.2.1, .int .u64 0, .int .u64 0, .slice none 0 0]), (29, .int .i64 r54.2.2), (30, .pointer (some ⟨b4, 0, none⟩)), (31, .int .u64 p1.1), (32, .pointer (some ⟨b4, 1, none⟩)), (33, .int .i64 p1.2.1), (34, .bool r55), (35, .agg #[.int .u64 r54.1, .int .i64 r54.2.1, .int .u64 0, .int .u64 0, .slice none 0 0]), (36, .pointer (some ⟨b4, 0, none⟩)), (37, .int .u64 p1.1), (38, .pointer (some ⟨b4, 1, none⟩)), (39, .int .i64 p1.2.1), (40, .agg #[.int .u64 p1.1, .int .i64 p1.2.1, .int .u64 0, .int .u64 0, .slice none 0 0]), (41, .bool r56)], [cells b6 [.int .u64 r54.1, .int .i64 r54.2.1, .int .u64 0, .int .u64 0, .slice none 0 0] 48, cells b5 [.int .u64 p2.1, .int .i64 p2.2.1, .int .u64 p2.2.2.1, .int .u64 p2.2.2.2.1, .slice A2 p2.2.2.2.2.length c2] 58, cells b4 [.int .u64 p1.1, .int .i64 p1.2.1, .int .u64 p1.2.2.1, .int .u64 p1.2.2.2.1, .slice A1 p1.2.2.2.2.length c1] 58], [slF rp_u64_u64_u64 A1 c1 p1.2.2.2.2, slF rp_u64_u64_u64 A2 c2 p2.2.2.2.2, slF rp_u64_u64_u64 none 0 (([] : List (Int × Int × Int)))], []⟩ [0, 1, 2] [0, 1, 2] (sc rfl (sc rfl (sc rfl (sc rfl (sc rfl (sc rfl (sc rfl (sc rfl (sc rfl (sc rfl (sc rfl (sc rfl (sc rfl (sc rfl (sc rfl (sc rfl (sc rfl (sc rfl (sc rfl (sc rfl (sc rfl (sc rfl (sc rfl (sc rfl (sc rfl (sc rfl (sc rfl (sc rfl (sc rfl (sc rfl (sc rfl (sc rfl (sc rfl (sc rfl (sc rfl (sc rfl (sc rfl (sc rfl (sc rfl (sc rfl sn)))))))))))))))))))))))))))))))))))))))) (by decide) rfl rfl rfl ?_
      refine Tr.regionD drawn (fun hok => ?_)
      refine TrAny.prom (i := 0) (d := 42) hok (OpVal.plain rfl rfl (v_move rfl rfl)) (by kernel_rfl) rfl (bl rfl) ?_
      clear hok
      intro hok
      refine TrAny.prom (i := 1) (d := 43) hok (OpVal.plain rfl rfl (v_move rfl rfl)) (by kernel_rfl) rfl (bl rfl) ?_
      clear hok
      intro hok
      rcases ifc H with ⟨h70, H⟩ | ⟨h70, H⟩
      · refine TrAny.prom (i := 2) (d := 44) hok (OpVal.yes rfl rfl rfl rfl h70 (v_load (k := 2) rfl rfl rfl ty58 nofun rfl rfl)) (by kernel_rfl) rfl (bl rfl) ?_
        clear hok
        intro hok
        refine TrAny.prom (i := 5) (d := 47) hok (OpVal.yes rfl rfl rfl rfl h70 (v_load (k := 2) rfl rfl rfl ty58 nofun rfl rfl)) (by kernel_rfl) rfl (bl rfl) ?_
        clear hok
        intro hok
        obtain ⟨r93, hr93, H⟩ := bnd H
        refine TrAny.nextY (j := 3) (by kernel_rfl) hok rfl (by kernel_rfl) rfl rfl rfl h70 (op_call0' (vs := [.agg #[.int .u64 p1.1, .int .i64 p1.2.1, .int .u64 p1.2.2.1, .int .u64 p1.2.2.2.1, .slice A1 p1.2.2.2.2.length c1]]) (cap := []) [0] rfl rfl (bl rfl) rfl rfl en42 (c_law12_made p1 A1 c1 r93 hr93) rfl (fun ret M' F' hR114 => ?_))
        obtain ⟨rfl, rfl, rfl⟩ := hR114
        refine nxp hok (kp_imp (kp_c0 rfl)) rfl (by kernel_rfl) ?_
        clear hok
        intro hok
        obtain ⟨r94, hr94, H⟩ := bnd H
        refine TrAny.nextY (j := 4) (by kernel_rfl) hok rfl (by kernel_rfl) rfl rfl rfl h70 (op_call0' (vs := [.agg #[.int .u64 p1.1, .int .i64 p1.2.1, .int .u64 p1.2.2.1, .int .u64 p1.2.2.2.1, .slice A1 p1.2.2.2.2.length c1]]) (cap := []) [0] rfl rfl (bl rfl) rfl rfl en44 (c_buffer_May p1 A1 c1 r94 hr94) rfl (fun ret M' F' hR115 => ?_))
        obtain ⟨rfl, rfl, rfl⟩ := hR115
        refine nxp hok (kp_imp (kp_c0 rfl)) rfl (by kernel_rfl) ?_
        clear hok
        intro hok
        obtain ⟨r95, hr95, H⟩ := bnd H
        refine TrAny.nextY (j := 6) (by kernel_rfl) hok rfl (by kernel_rfl) rfl rfl rfl h70 (op_call0' (vs := [.agg #[.int .u64 p1.1, .int .i64 p1.2.1, .int .u64 p1.2.2.1, .int .u64 p1.2.2.2.1, .slice A1 p1.2.2.2.2.length c1]]) (cap := []) [0] rfl rfl (bl rfl) rfl rfl en57 (c_ref12_May p1 A1 c1 r95 hr95) rfl (fun ret M' F' hR116 => ?_))
        obtain ⟨rfl, rfl, rfl⟩ := hR116
        refine nxp hok (kp_imp (kp_c0 rfl)) rfl (by kernel_rfl) ?_
        clear hok
        intro hok
        refine TrAny.prom (i := 7) (d := 49) hok (OpVal.yes rfl rfl rfl rfl h70 (v_arith rfl rfl rfl ar_eql)) (by kernel_rfl) rfl (bl rfl) ?_
        clear hok
        intro hok
        refine TrAny.prom (i := 8) (d := 50) hok (OpVal.plain rfl rfl (v_pick_t rfl rfl h70 rfl)) (by kernel_rfl) rfl (bl rfl) ?_
        clear hok
        intro hok
        refine TrAny.prom (i := 9) (d := 51) hok (OpVal.plain rfl rfl (v_move rfl rfl)) (by kernel_rfl) rfl (bl rfl) ?_
        clear hok
        intro hok
        rcases ifc H with ⟨h71, H⟩ | ⟨h71, H⟩
        · refine TrAny.prom (i := 10) (d := 52) hok (OpVal.yes rfl rfl rfl rfl (bt_dec h71) (v_move rfl rfl)) (by kernel_rfl) rfl (bl rfl) ?_
          clear hok
          intro hok
          refine TrAny.prom (i := 11) (d := 53) hok (OpVal.yes rfl rfl rfl rfl (bt_dec h71) (v_arith rfl rfl rfl ar_eql)) (by kernel_rfl) rfl (bl rfl) ?_
          clear hok
          intro hok
          refine TrAny.prom (i := 12) (d := 54) hok (OpVal.yes rfl rfl rfl rfl (bt_dec h71) (v_move rfl rfl)) (by kernel_rfl) rfl (bl rfl) ?_
          clear hok
          intro hok
          refine TrAny.prom (i := 13) (d := 55) hok (OpVal.yes rfl rfl rfl rfl (bt_dec h71) (v_eqd rfl Try.underlying4 rfl rfl)) (by kernel_rfl) rfl (bl rfl) ?_
          clear hok
          intro hok
          refine TrAny.prom (i := 14) (d := 56) hok (OpVal.plain rfl rfl (v_pick_t rfl rfl (bt_dec h71) rfl)) (by kernel_rfl) rfl (bl rfl) ?_
          clear hok
          intro hok
          refine TrAny.prom (i := 15) (d := 57) hok (OpVal.plain rfl rfl (v_move rfl rfl)) (by kernel_rfl) rfl (bl rfl) ?_
          clear hok
          intro hok
          rcases ifc H with ⟨h72, H⟩ | ⟨h72, H⟩
          · refine TrAny.prom (i := 16) (d := 58) hok (OpVal.yes rfl rfl rfl rfl (bt_dec h72) (v_move rfl rfl)) (by kernel_rfl) rfl (bl rfl) ?_
            clear hok
            intro hok
            refine TrAny.prom (i := 17) (d := 59) hok (OpVal.yes rfl rfl rfl rfl (bt_dec h72) (v_notd rfl (bdec rfl))) (by kernel_rfl) rfl (bl rfl) ?_
            clear hok
            intro hok
            refine TrAny.prom (i := 18) (d := 60) hok (OpVal.yes rfl rfl rfl rfl (bt_dec h72) (v_move rfl rfl)) (by kernel_rfl) rfl (bl rfl) ?_
            clear hok
            intro hok
            rcases ifc H with ⟨h73, H⟩ | ⟨h73, H⟩
            · refine TrAny.prom (i := 19) (d := 61) hok (OpVal.yes rfl rfl rfl rfl (bt_dec h73) (v_move rfl rfl)) (by kernel_rfl) rfl (bl rfl) ?_
              clear hok
              intro hok
              refine TrAny.prom (i := 20) (d := 62) hok (OpVal.yes rfl rfl rfl rfl (bt_dec h73) (v_arith rfl rfl rfl ar_eql)) (by kernel_rfl) rfl (bl rfl) ?_
              clear hok
              intro hok
              refine TrAny.prom (i := 21) (d := 63) hok (OpVal.yes rfl rfl rfl rfl (bt_dec h72) (v_pick_t rfl rfl (bt_dec h73) rfl)) (by kernel_rfl) rfl (bl rfl) ?_
              clear hok
              intro hok
              refine TrAny.prom (i := 22) (d := 64) hok (OpVal.yes rfl rfl rfl rfl (bt_dec h72) (v_move rfl rfl)) (by kernel_rfl) rfl (bl rfl) ?_
              clear hok
              intro hok
              rcases ifc H with ⟨h74, H⟩ | ⟨h74, H⟩
              · refine TrAny.prom (i := 23) (d := 65) hok (OpVal.no rfl (fun c h => by cases h) rfl rfl rfl (gn_f (bt_dec h74))) (by kernel_rfl) rfl (bl rfl) ?_
                clear hok
                intro hok
                refine TrAny.prom (i := 24) (d := 66) hok (OpVal.no rfl (fun c h => by cases h) rfl rfl rfl (gn_f (bt_dec h74))) (by kernel_rfl) rfl (bl rfl) ?_
                clear hok
                intro hok
                refine TrAny.prom (i := 25) (d := 67) hok (OpVal.un rfl (fun c h => by cases h) rfl rfl rfl) (by kernel_rfl) rfl (bl rfl) ?_
                clear hok
                intro hok
                refine TrAny.prom (i := 26) (d := 68) hok (OpVal.no rfl (fun c h => by cases h) rfl rfl rfl (gn_f (bt_dec h74))) (by kernel_rfl) rfl (bl rfl) ?_
                clear hok
                intro hok
                refine TrAny.prom (i := 27) (d := 69) hok (OpVal.yes rfl rfl rfl rfl (bt_dec h72) (v_pick_t rfl rfl (bt_dec h74) rfl)) (by kernel_rfl) rfl (bl rfl) ?_
                clear hok
                intro hok
                refine TrAny.prom (i := 28) (d := 70) hok (OpVal.plain rfl rfl (v_pick_t rfl rfl (bt_dec h72) rfl)) (by kernel_rfl) rfl (bl rfl) ?_
                clear hok
                intro hok
                refine TrAny.prom (i := 29) (d := 71) hok (OpVal.plain rfl rfl (v_move rfl rfl)) (by kernel_rfl) rfl (bl rfl) ?_
                clear hok
                intro hok
                refine TrAny.prom (i := 30) (d := 72) hok (OpVal.yes rfl rfl rfl rfl rfl (v_load (k := 2) rfl rfl rfl ty58 nofun rfl rfl)) (by kernel_rfl) rfl (bl rfl) ?_
                clear hok
                intro hok
                refine TrAny.prom (i := 32) (d := 74) hok (OpVal.yes rfl rfl rfl rfl rfl (v_load (k := 1) rfl rfl rfl ty58 nofun rfl rfl)) (by kernel_rfl) rfl (bl rfl) ?_
                clear hok
                intro hok
                refine TrAny.prom (i := 35) (d := 77) hok (OpVal.yes rfl rfl rfl rfl rfl (v_load (k := 2) rfl rfl rfl ty58 nofun rfl rfl)) (by kernel_rfl) rfl (bl rfl) ?_
                clear hok
                intro hok
                refine TrAny.prom (i := 36) (d := 78) hok (OpVal.yes rfl rfl rfl rfl rfl (v_load (k := 1) rfl rfl rfl ty58 nofun rfl rfl)) (by kernel_rfl) rfl (bl rfl) ?_
                clear hok
                intro hok
                refine TrAny.nextY (j := 31) (by kernel_rfl) hok rfl (by kernel_rfl) rfl rfl rfl rfl (op_call0' (vs := [.agg #[.int .u64 p1.1, .int .i64 p1.2.1, .int .u64 p1.2.2.1, .int .u64 p1.2.2.2.1, .slice A1 p1.2.2.2.2.length c1]]) (cap := []) [0] rfl rfl (bl rfl) rfl rfl en42 (c_law12_made p1 A1 c1 r93 hr93) rfl (fun ret M' F' hR117 => ?_))
                obtain ⟨rfl, rfl, rfl⟩ := hR117
                refine nxp hok (kp_imp (kp_c0 rfl)) rfl (by kernel_rfl) ?_
                clear hok
                intro hok
                obtain ⟨r96, hr96, H⟩ := bnd H
                refine TrAny.nextY (j := 33) (by kernel_rfl) hok rfl (by kernel_rfl) rfl rfl rfl rfl (op_call0' (vs := [.agg #[.int .u64 p2.1, .int .i64 p2.2.1, .int .u64 p2.2.2.1, .int .u64 p2.2.2.2.1, .slice A2 p2.2.2.2.2.length c2]]) (cap := []) [1] rfl rfl (bl rfl) rfl rfl en42 (c_law12_made p2 A2 c2 r96 hr96) rfl (fun ret M' F' hR118 => ?_))
                obtain ⟨rfl, rfl, rfl⟩ := hR118
                refine nxp hok (kp_imp (kp_c0 rfl)) rfl (by kernel_rfl) ?_
                clear hok
                intro hok
                obtain ⟨r97, hr97, H⟩ := bnd H
                refine TrAny.nextY (j := 34) (by kernel_rfl) hok rfl (by kernel_rfl) rfl rfl rfl rfl (op_call0' (vs := [.agg #[.int .u64 p1.1, .int .i64 p1.2.1, .int .u64 p1.2.2.1, .int .u64 p1.2.2.2.1, .slice A1 p1.2.2.2.2.length c1], .agg #[.int .u64 p2.1, .int .i64 p2.2.1, .int .u64 p2.2.2.1, .int .u64 p2.2.2.2.1, .slice A2 p2.2.2.2.2.length c2]]) (cap := []) [0, 1] rfl rfl (bl rfl) rfl rfl en58 (c_buffer_Same p1 p2 A1 c1 A2 c2 r97 hr97) rfl (fun ret M' F' hR119 => ?_))
                obtain ⟨rfl, rfl, rfl⟩ := hR119
                refine nxp hok (kp_imp (kp_c0 rfl)) rfl (by kernel_rfl) ?_
                clear hok
                intro hok
                obtain ⟨r98, hr98, H⟩ := bnd H
                refine TrAny.nextY (j := 37) (by kernel_rfl) hok rfl (by kernel_rfl) rfl rfl rfl rfl (op_call0' (vs := [.agg #[.int .u64 p1.1, .int .i64 p1.2.1, .int .u64 p1.2.2.1, .int .u64 p1.2.2.2.1, .slice A1 p1.2.2.2.2.length c1], .agg #[.int .u64 p2.1, .int .i64 p2.2.1, .int .u64 p2.2.2.1, .int .u64 p2.2.2.2.1, .slice A2 p2.2.2.2.2.length c2]]) (cap := []) [0, 1] rfl rfl (bl rfl) rfl rfl en59 (c_ref12_Same p1 p2 A1 c1 A2 c2 r98 hr98) rfl (fun ret M' F' hR120 => ?_))
                obtain ⟨rfl, rfl, rfl⟩ := hR120
                refine nxp hok (kp_imp (kp_c0 rfl)) rfl (by kernel_rfl) ?_
                clear hok
                intro hok
                refine TrAny.prom (i := 38) (d := 80) hok (OpVal.yes rfl rfl rfl rfl rfl (v_eqd rfl Try.underlying4 rfl rfl)) (by kernel_rfl) rfl (bl rfl) ?_
                clear hok
                intro hok
                refine TrAny.prom (i := 39) (d := 81) hok (OpVal.plain rfl rfl (v_pick_t rfl rfl rfl rfl)) (by kernel_rfl) rfl (bl rfl) ?_
                clear hok
                intro hok
                refine TrAny.prom (i := 40) (d := 4) hok (OpVal.plain rfl rfl (v_assign rfl rfl)) (by kernel_rfl) rfl (bl rfl) ?_
                clear hok
                intro hok
                refine TrAny.done (by kernel_rfl) (by kernel_rfl) hok (by kernel_rfl) (qthen_n ?_)
                have hz := Option.some.inj H
                subst hz
                refine Tr.ret (ret_r ⟨[(4, .bool (decide (r97 = r98)))], [], [], []⟩ [.bool (decide (r97 = r98))] [] [] (Imp.re _ [] [] (sc rfl sn) (by decide) rfl rfl rfl) rfl rfl ⟨rfl, rfl, rfl⟩ (.cons (resv_tmp rfl) .nil))
              · refine TrAny.prom (i := 23) (d := 65) hok (OpVal.yes rfl rfl rfl rfl (bf_dec h74) (v_move rfl rfl)) (by kernel_rfl) rfl (bl rfl) ?_
                clear hok
                intro hok
                refine TrAny.prom (i := 24) (d := 66) hok (OpVal.yes rfl rfl rfl rfl (bf_dec h74) (v_move rfl rfl)) (by kernel_rfl) rfl (bl rfl) ?_
                clear hok
                intro hok
                rcases ifc H with ⟨h75, H⟩ | ⟨h75, H⟩
                · refine TrAny.prom (i := 25) (d := 67) hok (OpVal.yes rfl rfl rfl rfl h75 (v_move rfl rfl)) (by kernel_rfl) rfl (bl rfl) ?_
                  clear hok
                  intro hok
                  refine TrAny.prom (i := 26) (d := 68) hok (OpVal.yes rfl rfl rfl rfl (bf_dec h74) (v_pick_t rfl rfl h75 rfl)) (by kernel_rfl) rfl (bl rfl) ?_
                  clear hok
                  intro hok
                  refine TrAny.prom (i := 27) (d := 69) hok (OpVal.yes rfl rfl rfl rfl (bt_dec h72) (v_pick_f rfl rfl (bf_dec h74) rfl)) (by kernel_rfl) rfl (bl rfl) ?_
                  clear hok
                  intro hok
                  refine TrAny.prom (i := 28) (d := 70) hok (OpVal.plain rfl rfl (v_pick_t rfl rfl (bt_dec h72) rfl)) (by kernel_rfl) rfl (bl rfl) ?_
                  clear hok
                  intro hok
                  refine TrAny.prom (i := 29) (d := 71) hok (OpVal.plain rfl rfl (v_move rfl rfl)) (by kernel_rfl) rfl (bl rfl) ?_
                  clear hok
                  intro hok
                  rcases ifc H with ⟨h76, H⟩ | ⟨h76, H⟩
                  · refine TrAny.prom (i := 30) (d := 72) hok (OpVal.yes rfl rfl rfl rfl h76 (v_load (k := 2) rfl rfl rfl ty58 nofun rfl rfl)) (by kernel_rfl) rfl (bl rfl) ?_
                    clear hok
                    intro hok
                    refine TrAny.prom (i := 32) (d := 74) hok (OpVal.yes rfl rfl rfl rfl h76 (v_load (k := 1) rfl rfl rfl ty58 nofun rfl rfl)) (by kernel_rfl) rfl (bl rfl) ?_
                    clear hok
                    intro hok
                    refine TrAny.prom (i := 35) (d := 77) hok (OpVal.yes rfl rfl rfl rfl h76 (v_load (k := 2) rfl rfl rfl ty58 nofun rfl rfl)) (by kernel_rfl) rfl (bl rfl) ?_
                    clear hok
                    intro hok
                    refine TrAny.prom (i := 36) (d := 78) hok (OpVal.yes rfl rfl rfl rfl h76 (v_load (k := 1) rfl rfl rfl ty58 nofun rfl rfl)) (by kernel_rfl) rfl (bl rfl) ?_
                    clear hok
                    intro hok
                    refine TrAny.nextY (j := 31) (by kernel_rfl) hok rfl (by kernel_rfl) rfl rfl rfl h76 (op_call0' (vs := [.agg #[.int .u64 p1.1, .int .i64 p1.2.1, .int .u64 p1.2.2.1, .int .u64 p1.2.2.2.1, .slice A1 p1.2.2.2.2.length c1]]) (cap := []) [0] rfl rfl (bl rfl) rfl rfl en42 (c_law12_made p1 A1 c1 r93 hr93) rfl (fun ret M' F' hR121 => ?_))
                    obtain ⟨rfl, rfl, rfl⟩ := hR121
                    refine nxp hok (kp_imp (kp_c0 rfl)) rfl (by kernel_rfl) ?_
                    clear hok
                    intro hok
                    obtain ⟨r99, hr99, H⟩ := bnd H
                    refine TrAny.nextY (j := 33) (by kernel_rfl) hok rfl (by kernel_rfl) rfl rfl rfl h76 (op_call0' (vs := [.agg #[.int .u64 p2.1, .int .i64 p2.2.1, .int .u64 p2.2.2.1, .int .u64 p2.2.2.2.1, .slice A2 p2.2.2.2.2.length c2]]) (cap := []) [1] rfl rfl (bl rfl) rfl rfl en42 (c_law12_made p2 A2 c2 r99 hr99) rfl (fun ret M' F' hR122 => ?_))
                    obtain ⟨rfl, rfl, rfl⟩ := hR122
                    refine nxp hok (kp_imp (kp_c0 rfl)) rfl (by kernel_rfl) ?_
                    clear hok
                    intro hok
                    obtain ⟨r100, hr100, H⟩ := bnd H
                    refine TrAny.nextY (j := 34) (by kernel_rfl) hok rfl (by kernel_rfl) rfl rfl rfl h76 (op_call0' (vs := [.agg #[.int .u64 p1.1, .int .i64 p1.2.1, .int .u64 p1.2.2.1, .int .u64 p1.2.2.2.1, .slice A1 p1.2.2.2.2.length c1], .agg #[.int .u64 p2.1, .int .i64 p2.2.1, .int .u64 p2.2.2.1, .int .u64 p2.2.2.2.1, .slice A2 p2.2.2.2.2.length c2]]) (cap := []) [0, 1] rfl rfl (bl rfl) rfl rfl en58 (c_buffer_Same p1 p2 A1 c1 A2 c2 r100 hr100) rfl (fun ret M' F' hR123 => ?_))
                    obtain ⟨rfl, rfl, rfl⟩ := hR123
                    refine nxp hok (kp_imp (kp_c0 rfl)) rfl (by kernel_rfl) ?_
                    clear hok
                    intro hok
                    obtain ⟨r101, hr101, H⟩ := bnd H
                    refine TrAny.nextY (j := 37) (by kernel_rfl) hok rfl (by kernel_rfl) rfl rfl rfl h76 (op_call0' (vs := [.agg #[.int .u64 p1.1, .int .i64 p1.2.1, .int .u64 p1.2.2.1, .int .u64 p1.2.2.2.1, .slice A1 p1.2.2.2.2.length c1], .agg #[.int .u64 p2.1, .int .i64 p2.2.1, .int .u64 p2.2.2.1, .int .u64 p2.2.2.2.1, .slice A2 p2.2.2.2.2.length c2]]) (cap := []) [0, 1] rfl rfl (bl rfl) rfl rfl en59 (c_ref12_Same p1 p2 A1 c1 A2 c2 r101 hr101) rfl (fun ret M' F' hR124 => ?_))
                    obtain ⟨rfl, rfl, rfl⟩ := hR124
                    refine nxp hok (kp_imp (kp_c0 rfl)) rfl (by kernel_rfl) ?_
                    clear hok
                    intro hok
                    refine TrAny.prom (i := 38) (d := 80) hok (OpVal.yes rfl rfl rfl rfl h76 (v_eqd rfl Try.underlying4 rfl rfl)) (by kernel_rfl) rfl (bl rfl) ?_
                    clear hok
                    intro hok
                    refine TrAny.prom (i := 39) (d := 81) hok (OpVal.plain rfl rfl (v_pick_t rfl rfl h76 rfl)) (by kernel_rfl) rfl (bl rfl) ?_
                    clear hok
                    intro hok
                    refine TrAny.prom (i := 40) (d := 4) hok (OpVal.plain rfl rfl (v_assign rfl rfl)) (by kernel_rfl) rfl (bl rfl) ?_
                    clear hok
                    intro hok
                    refine TrAny.done (by kernel_rfl) (by kernel_rfl) hok (by kernel_rfl) (qthen_n ?_)
                    have hz := Option.some.inj H
                    subst hz
                    refine Tr.ret (ret_r ⟨[(4, .bool (decide (r100 = r101)))], [], [], []⟩ [.bool (decide (r100 = r101))] [] [] (Imp.re _ [] [] (sc rfl sn) (by decide) rfl rfl rfl) rfl rfl ⟨rfl, rfl, rfl⟩ (.cons (resv_tmp rfl) .nil))
                  · refine TrAny.prom (i := 30) (d := 72) hok (OpVal.no rfl (fun c h => by cases h) rfl rfl rfl (gn_t (bf_b h76))) (by kernel_rfl) rfl (bl rfl) ?_
                    clear hok
                    intro hok
                    refine TrAny.prom (i := 31) (d := 73) hok (OpVal.no rfl (fun c h => by cases h) rfl rfl rfl (gn_t (bf_b h76))) (by kernel_rfl) rfl (bl rfl) ?_
                    clear hok
                    intro hok
                    refine TrAny.prom (i := 32) (d := 74) hok (OpVal.no rfl (fun c h => by cases h) rfl rfl rfl (gn_t (bf_b h76))) (by kernel_rfl) rfl (bl rfl) ?_
                    clear hok
                    intro hok
                    refine TrAny.prom (i := 33) (d := 75) hok (OpVal.no rfl (fun c h => by cases h) rfl rfl rfl (gn_t (bf_b h76))) (by kernel_rfl) rfl (bl rfl) ?_
                    clear hok
                    intro hok
                    refine TrAny.prom (i := 34) (d := 76) hok (OpVal.no rfl (fun c h => by cases h) rfl rfl rfl (gn_t (bf_b h76))) (by kernel_rfl) rfl (bl rfl) ?_
                    clear hok
                    intro hok
                    refine TrAny.prom (i := 35) (d := 77) hok (OpVal.no rfl (fun c h => by cases h) rfl rfl rfl (gn_t (bf_b h76))) (by kernel_rfl) rfl (bl rfl) ?_
                    clear hok
                    intro hok
                    refine TrAny.prom (i := 36) (d := 78) hok (OpVal.no rfl (fun c h => by cases h) rfl rfl rfl (gn_t (bf_b h76))) (by kernel_rfl) rfl (bl rfl) ?_
                    clear hok
                    intro hok
                    refine TrAny.prom (i := 37) (d := 79) hok (OpVal.no rfl (fun c h => by cases h) rfl rfl rfl (gn_t (bf_b h76))) (by kernel_rfl) rfl (bl rfl) ?_
                    clear hok
                    intro hok
                    refine TrAny.prom (i := 38) (d := 80) hok (OpVal.no rfl (fun c h => by cases h) rfl rfl rfl (gn_t (bf_b h76))) (by kernel_rfl) rfl (bl rfl) ?_
                    clear hok
                    intro hok
                    refine TrAny.prom (i := 39) (d := 81) hok (OpVal.plain rfl rfl (v_pick_f rfl rfl (bf_b h76) rfl)) (by kernel_rfl) rfl (bl rfl) ?_
                    clear hok
                    intro hok
                    refine TrAny.prom (i := 40) (d := 4) hok (OpVal.plain rfl rfl (v_assign rfl rfl)) (by kernel_rfl) rfl (bl rfl) ?_
                    clear hok
                    intro hok
                    refine TrAny.done (by kernel_rfl) (by kernel_rfl) hok (by kernel_rfl) (qthen_n ?_)
                    have hz := Option.some.inj H
                    subst hz
                    refine Tr.ret (ret_r ⟨[(4, .bool false)], [], [], []⟩ [.bool false] [] [] (Imp.re _ [] [] (sc rfl sn) (by decide) rfl rfl rfl) rfl rfl ⟨rfl, rfl, rfl⟩ (.cons (resv_tmp rfl) .nil))
                · refine TrAny.prom (i := 25) (d := 67) hok (OpVal.no rfl (fun c h => by cases h) rfl rfl rfl (gn_t (bf_b h75))) (by kernel_rfl) rfl (bl rfl) ?_
                  clear hok
                  intro hok
                  refine TrAny.prom (i := 26) (d := 68) hok (OpVal.yes rfl rfl rfl rfl (bf_dec h74) (v_pick_f rfl rfl (bf_b h75) rfl)) (by kernel_rfl) rfl (bl rfl) ?_
                  clear hok
                  intro hok
                  refine TrAny.prom (i := 27) (d := 69) hok (OpVal.yes rfl rfl rfl rfl (bt_dec h72) (v_pick_f rfl rfl (bf_dec h74) rfl)) (by kernel_rfl) rfl (bl rfl) ?_
                  clear hok
                  intro hok
                  refine TrAny.prom (i := 28) (d := 70) hok (OpVal.plain rfl rfl (v_pick_t rfl rfl (bt_dec h72) rfl)) (by kernel_rfl) rfl (bl rfl) ?_
                  clear hok
                  intro hok
                  refine TrAny.prom (i := 29) (d := 71) hok (OpVal.plain rfl rfl (v_move rfl rfl)) (by kernel_rfl) rfl (bl rfl) ?_
                  clear hok
                  intro hok
                  refine TrAny.prom (i := 30) (d := 72) hok (OpVal.no rfl (fun c h => by cases h) rfl rfl rfl (gn_t rfl)) (by kernel_rfl) rfl (bl rfl) ?_
                  clear hok
                  intro hok
                  refine TrAny.prom (i := 31) (d := 73) hok (OpVal.no rfl (fun c h => by cases h) rfl rfl rfl (gn_t rfl)) (by kernel_rfl) rfl (bl rfl) ?_
                  clear hok
                  intro hok
                  refine TrAny.prom (i := 32) (d := 74) hok (OpVal.no rfl (fun c h => by cases h) rfl rfl rfl (gn_t rfl)) (by kernel_rfl) rfl (bl rfl) ?_
                  clear hok
                  intro hok
                  refine TrAny.prom (i := 33) (d := 75) hok (OpVal.no rfl (fun c h => by cases h) rfl rfl rfl (gn_t rfl)) (by kernel_rfl) rfl (bl rfl) ?_
                  clear hok
                  intro hok
                  refine TrAny.prom (i := 34) (d := 76) hok (OpVal.no rfl (fun c h => by cases h) rfl rfl rfl (gn_t rfl)) (by kernel_rfl) rfl (bl rfl) ?_
                  clear hok
                  intro hok
                  refine TrAny.prom (i := 35) (d := 77) hok (OpVal.no rfl (fun c h => by cases h) rfl rfl rfl (gn_t rfl)) (by kernel_rfl) rfl (bl rfl) ?_
                  clear hok
                  intro hok
                  refine TrAny.prom (i := 36) (d := 78) hok (OpVal.no rfl (fun c h => by cases h) rfl rfl rfl (gn_t rfl)) (by kernel_rfl) rfl (bl rfl) ?_
                  clear hok
                  intro hok
                  refine TrAny.prom (i := 37) (d := 79) hok (OpVal.no rfl (fun c h => by cases h) rfl rfl rfl (gn_t rfl)) (by kernel_rfl) rfl (bl rfl) ?_
                  clear hok
                  intro hok
                  refine TrAny.prom (i := 38) (d := 80) hok (OpVal.no rfl (fun c h => by cases h) rfl rfl rfl (gn_t rfl)) (by kernel_rfl) rfl (bl rfl) ?_
                  clear hok
                  intro hok
                  refine TrAny.prom (i := 39) (d := 81) hok (OpVal.plain rfl rfl (v_pick_f rfl rfl rfl rfl)) (by kernel_rfl) rfl (bl rfl) ?_
                  clear hok
                  intro hok
                  refine TrAny.prom (i := 40) (d := 4) hok (OpVal.plain rfl rfl (v_assign rfl rfl)) (by kernel_rfl) rfl (bl rfl) ?_
                  clear hok
                  intro hok
                  refine TrAny.done (by kernel_rfl) (by kernel_rfl) hok (by kernel_rfl) (qthen_n ?_)
                  have hz := Option.some.inj H
                  subst hz
                  refine Tr.ret (ret_r ⟨[(4, .bool false)], [], [], []⟩ [.bool false] [] [] (Imp.re _ [] [] (sc rfl sn) (by decide) rfl rfl rfl) rfl rfl ⟨rfl, rfl, rfl⟩ (.cons (resv_tmp rfl) .nil))
            · refine TrAny.prom (i := 19) (d := 61) hok (OpVal.no rfl (fun c h => by cases h) rfl rfl rfl (gn_t (bf_dec h73))) (by kernel_rfl) rfl (bl rfl) ?_
              clear hok
              intro hok
              refine TrAny.prom (i := 20) (d := 62) hok (OpVal.no rfl (fun c h => by cases h) rfl rfl rfl (gn_t (bf_dec h73))) (by kernel_rfl) rfl (bl rfl) ?_
              clear hok
              intro hok
              refine TrAny.prom (i := 21) (d := 63) hok (OpVal.yes rfl rfl rfl rfl (bt_dec h72) (v_pick_f rfl rfl (bf_dec h73) rfl)) (by kernel_rfl) rfl (bl rfl) ?_
              clear hok
              intro hok
              refine TrAny.prom (i := 22) (d := 64) hok (OpVal.yes rfl rfl rfl rfl (bt_dec h72) (v_move rfl rfl)) (by kernel_rfl) rfl (bl rfl) ?_
              clear hok
              intro hok
              refine TrAny.prom (i := 23) (d := 65) hok (OpVal.yes rfl rfl rfl rfl rfl (v_move rfl rfl)) (by kernel_rfl) rfl (bl rfl) ?_
              clear hok
              intro hok
              refine TrAny.prom (i := 24) (d := 66) hok (OpVal.yes rfl rfl rfl rfl rfl (v_move rfl rfl)) (by kernel_rfl) rfl (bl rfl) ?_
              clear hok
              intro hok
              rcases ifc H with ⟨h77, H⟩ | ⟨h77, H⟩
              · refine TrAny.prom (i := 25) (d := 67) hok (OpVal.yes rfl rfl rfl rfl h77 (v_move rfl rfl)) (by kernel_rfl) rfl (bl rfl) ?_
                clear hok
                intro hok
                refine TrAny.prom (i := 26) (d := 68) hok (OpVal.yes rfl rfl rfl rfl rfl (v_pick_t rfl rfl h77 rfl)) (by kernel_rfl) rfl (bl rfl) ?_
                clear hok
                intro hok
                refine TrAny.prom (i := 27) (d := 69) hok (OpVal.yes rfl rfl rfl rfl (bt_dec h72) (v_pick_f rfl rfl rfl rfl)) (by kernel_rfl) rfl (bl rfl) ?_
                clear hok
                intro hok
                refine TrAny.prom (i := 28) (d := 70) hok (OpVal.plain rfl rfl (v_pick_t rfl rfl (bt_dec h72) rfl)) (by kernel_rfl) rfl (bl rfl) ?_
                clear hok
                intro hok
                refine TrAny.prom (i := 29) (d := 71) hok (OpVal.plain rfl rfl (v_move rfl rfl)) (by kernel_rfl) rfl (bl rfl) ?_
                clear hok
                intro hok
                rcases ifc H with ⟨h78, H⟩ | ⟨h78, H⟩
                · refine TrAny.prom (i := 30) (d := 72) hok (OpVal.yes rfl rfl rfl rfl h78 (v_load (k := 2) rfl rfl rfl ty58 nofun rfl rfl)) (by kernel_rfl) rfl (bl rfl) ?_
                  clear hok
                  intro hok
                  refine TrAny.prom (i := 32) (d := 74) hok (OpVal.yes rfl rfl rfl rfl h78 (v_load (k := 1) rfl rfl rfl ty58 nofun rfl rfl)) (by kernel_rfl) rfl (bl rfl) ?_
                  clear hok
                  intro hok
                  refine TrAny.prom (i := 35) (d := 77) hok (OpVal.yes rfl rfl rfl rfl h78 (v_load (k := 2) rfl rfl rfl ty58 nofun rfl rfl)) (by kernel_rfl) rfl (bl rfl) ?_
                  clear hok
                  intro hok
                  refine TrAny.prom (i := 36) (d := 78) hok (OpVal.yes rfl rfl rfl rfl h78 (v_load (k := 1) rfl rfl rfl ty58 nofun rfl rfl)) (by kernel_rfl) rfl (bl rfl) ?_
                  clear hok
                  intro hok
                  refine TrAny.nextY (j := 31) (by kernel_rfl) hok rfl (by kernel_rfl) rfl rfl rfl h78 (op_call0' (vs := [.agg #[.int .u64 p1.1, .int .i64 p1.2.1, .int .u64 p1.2.2.1, .int .u64 p1.2.2.2.1, .slice A1 p1.2.2.2.2.length c1]]) (cap := []) [0] rfl rfl (bl rfl) rfl rfl en42 (c_law12_made p1 A1 c1 r93 hr93) rfl (fun ret M' F' hR125 => ?_))
                  obtain ⟨rfl, rfl, rfl⟩ := hR125
                  refine nxp hok (kp_imp (kp_c0 rfl)) rfl (by kernel_rfl) ?_
                  clear hok
                  intro hok
                  obtain ⟨r102, hr102, H⟩ := bnd H
                  refine TrAny.nextY (j := 33) (by kernel_rfl) hok rfl (by kernel_rfl) rfl rfl rfl h78 (op_call0' (vs := [.agg #[.int .u64 p2.1, .int .i64 p2.2.1, .int .u64 p2.2.2.1, .int .u64 p2.2.2.2.1, .slice A2 p2.2.2.2.2.length c2]]) (cap := []) [1] rfl rfl (bl rfl) rfl rfl en42 (c_law12_made p2 A2 c2 r102 hr102) rfl (fun ret M' F' hR126 => ?_))
                  obtain ⟨rfl, rfl, rfl⟩ := hR126
                  refine nxp hok (kp_imp (kp_c0 rfl)) rfl (by kernel_rfl) ?_
                  clear hok
                  intro hok
                  obtain ⟨r103, hr103, H⟩ := bnd H
                  refine TrAny.nextY (j := 34) (by kernel_rfl) hok rfl (by kernel_rfl) rfl rfl rfl h78 (op_call0' (vs := [.agg #[.int .u64 p1.1, .int .i64 p1.2.1, .int .u64 p1.2.2.1, .int .u64 p1.2.2.2.1, .slice A1 p1.2.2.2.2.length c1], .agg #[.int .u64 p2.1, .int .i64 p2.2.1, .int .u64 p2.2.2.1, .int .u64 p2.2.2.2.1, .slice A2 p2.2.2.2.2.length c2]]) (cap := []) [0, 1] rfl rfl (bl rfl) rfl rfl en58 (c_buffer_Same p1 p2 A1 c1 A2 c2 r103 hr103) rfl (fun ret M' F' hR127 => ?_))
                  obtain ⟨rfl, rfl, rfl⟩ := hR127
                  refine nxp hok (kp_imp (kp_c0 rfl)) rfl (by kernel_rfl) ?_
                  clear hok
                  intro hok
                  obtain ⟨r104, hr104, H⟩ := bnd H
                  refine TrAny.nextY (j := 37) (by kernel_rfl) hok rfl (by kernel_rfl) rfl rfl rfl h78 (op_call0' (vs := [.agg #[.int .u64 p1.1, .int .i64 p1.2.1, .int .u64 p1.2.2.1, .int .u64 p1.2.2.2.1, .slice A1 p1.2.2.2.2.length c1], .agg #[.int .u64 p2.1, .int .i64 p2.2.1, .int .u64 p2.2.2.1, .int .u64 p2.2.2.2.1, .slice A2 p2.2.2.2.2.length c2]]) (cap := []) [0, 1] rfl rfl (bl rfl) rfl rfl en59 (c_ref12_Same p1 p2 A1 c1 A2 c2 r104 hr104) rfl (fun ret M' F' hR128 => ?_))
                  obtain ⟨rfl, rfl, rfl⟩ := hR128
                  refine nxp hok (kp_imp (kp_c0 rfl)) rfl (by kernel_rfl) ?_
                  clear hok
                  intro hok
                  refine TrAny.prom (i := 38) (d := 80) hok (OpVal.yes rfl rfl rfl rfl h78 (v_eqd rfl Try.underlying4 rfl rfl)) (by kernel_rfl) rfl (bl rfl) ?_
                  clear hok
                  intro hok
                  refine TrAny.prom (i := 39) (d := 81) hok (OpVal.plain rfl rfl (v_pick_t rfl rfl h78 rfl)) (by kernel_rfl) rfl (bl rfl) ?_
                  clear hok
                  intro hok
                  refine TrAny.prom (i := 40) (d := 4) hok (OpVal.plain rfl rfl (v_assign rfl rfl)) (by kernel_rfl) rfl (bl rfl) ?_
                  clear hok
                  intro hok
                  refine TrAny.done (by kernel_rfl) (by kernel_rfl) hok (by kernel_rfl) (qthen_n ?_)
                  have hz := Option.some.inj H
                  subst hz
                  refine Tr.ret (ret_r ⟨[(4, .bool (decide (r103 = r104)))], [], [], []⟩ [.bool (decide (r103 = r104))] [] [] (Imp.re _ [] [] (sc rfl sn) (by decide) rfl rfl rfl) rfl rfl ⟨rfl, rfl, rfl⟩ (.cons (resv_tmp rfl) .nil))
                · refine TrAny.prom (i := 30) (d := 72) hok (OpVal.no rfl (fun c h => by cases h) rfl rfl rfl (gn_t (bf_b h78))) (by kernel_rfl) rfl (bl rfl) ?_
                  clear hok
                  intro hok
                  refine TrAny.prom (i := 31) (d := 73) hok (OpVal.no rfl (fun c h => by cases h) rfl rfl rfl (gn_t (bf_b h78))) (by kernel_rfl) rfl (bl rfl) ?_
                  clear hok
                  intro hok
                  refine TrAny.prom (i := 32) (d := 74) hok (OpVal.no rfl (fun c h => by cases h) rfl rfl rfl (gn_t (bf_b h78))) (by kernel_rfl) rfl (bl rfl) ?_
                  clear hok
                  intro hok
                  refine TrAny.prom (i := 33) (d := 75) hok (OpVal.no rfl (fun c h => by cases h) rfl rfl rfl (gn_t (bf_b h78))) (by kernel_rfl) rfl (bl rfl) ?_
                  clear hok
                  intro hok
                  refine TrAny.prom (i := 34) (d := 76) hok (OpVal.no rfl (fun c h => by cases h) rfl rfl rfl (gn_t (bf_b h78))) (by kernel_rfl) rfl (bl rfl) ?_
                  clear hok
                  intro hok
                  refine TrAny.prom (i := 35) (d := 77) hok (OpVal.no rfl (fun c h => by cases h) rfl rfl rfl (gn_t (bf_b h78))) (by kernel_rfl) rfl (bl rfl) ?_
                  clear hok
                  intro hok
                  refine TrAny.prom (i := 36) (d := 78) hok (OpVal.no rfl (fun c h => by cases h) rfl rfl rfl (gn_t (bf_b h78))) (by kernel_rfl) rfl (bl rfl) ?_
                  clear hok
                  intro hok
                  refine TrAny.prom (i := 37) (d := 79) hok (OpVal.no rfl (fun c h => by cases h) rfl rfl rfl (gn_t (bf_b h78))) (by kernel_rfl) rfl (bl rfl) ?_
                  clear hok
                  intro hok
                  refine TrAny.prom (i := 38) (d := 80) hok (OpVal.no rfl (fun c h => by cases h) rfl rfl rfl (gn_t (bf_b h78))) (by kernel_rfl) rfl (bl rfl) ?_
                  clear hok
                  intro hok
                  refine TrAny.prom (i := 39) (d := 81) hok (OpVal.plain rfl rfl (v_pick_f rfl rfl (bf_b h78) rfl)) (by kernel_rfl) rfl (bl rfl) ?_
                  clear hok
                  intro hok
                  refine TrAny.prom (i := 40) (d := 4) hok (OpVal.plain rfl rfl (v_assign rfl rfl)) (by kernel_rfl) rfl (bl rfl) ?_
                  clear hok
                  intro hok
                  refine TrAny.done (by kernel_rfl) (by kernel_rfl) hok (by kernel_rfl) (qthen_n ?_)
                  have hz := Option.some.inj H
                  subst hz
                  refine Tr.ret (ret_r ⟨[(4, .bool false)], [], [], []⟩ [.bool false] [] [] (Imp.re _ [] [] (sc rfl sn) (by decide) rfl rfl rfl) rfl rfl ⟨rfl, rfl, rfl⟩ (.cons (resv_tmp rfl) .nil))
              · refine TrAny.prom (i := 25) (d := 67) hok (OpVal.no rfl (fun c h => by cases h) rfl rfl rfl (gn_t (bf_b h77))) (by kernel_rfl) rfl (bl rfl) ?_
                clear hok
                intro hok
                refine TrAny.prom (i := 26) (d := 68) hok (OpVal.yes rfl rfl rfl rfl rfl (v_pick_f rfl rfl (bf_b h77) rfl)) (by kernel_rfl) rfl (bl rfl) ?_
                clear hok
                intro hok
                refine TrAny.prom (i := 27) (d := 69) hok (OpVal.yes rfl rfl rfl rfl (bt_dec h72) (v_pick_f rfl rfl rfl rfl)) (by kernel_rfl) rfl (bl rfl) ?_
                clear hok
                intro hok
                refine TrAny.prom (i := 28) (d := 70) hok (OpVal.plain rfl rfl (v_pick_t rfl rfl (bt_dec h72) rfl)) (by kernel_rfl) rfl (bl rfl) ?_
                clear hok
                intro hok
                refine TrAny.prom (i := 29) (d := 71) hok (OpVal.plain rfl rfl (v_move rfl rfl)) (by kernel_rfl) rfl (bl rfl) ?_
                clear hok
                intro hok
                refine TrAny.prom (i := 30) (d := 72) hok (OpVal.no rfl (fun c h => by cases h) rfl rfl rfl (gn_t rfl)) (by kernel_rfl) rfl (bl rfl) ?_
                clear hok
                intro hok
                refine TrAny.prom (i := 31) (d := 73) hok (OpVal.no rfl (fun c h => by cases h) rfl rfl rfl (gn_t rfl)) (by kernel_rfl) rfl (bl rfl) ?_
                clear hok
                intro hok
                refine TrAny.prom (i := 32) (d := 74) hok (OpVal.no rfl (fun c h => by cases h) rfl rfl rfl (gn_t rfl)) (by kernel_rfl) rfl (bl rfl) ?_
                clear hok
                intro hok
                refine TrAny.prom (i := 33) (d := 75) hok (OpVal.no rfl (fun c h => by cases h) rfl rfl rfl (gn_t rfl)) (by kernel_rfl) rfl (bl rfl) ?_
                clear hok
                intro hok
                refine TrAny.prom (i := 34) (d := 76) hok (OpVal.no rfl (fun c h => by cases h) rfl rfl rfl (gn_t rfl)) (by kernel_rfl) rfl (bl rfl) ?_
                clear hok
                intro hok
                refine TrAny.prom (i := 35) (d := 77) hok (OpVal.no rfl (fun c h => by cases h) rfl rfl rfl (gn_t rfl)) (by kernel_rfl) rfl (bl rfl) ?_
                clear hok
                intro hok
                refine TrAny.prom (i := 36) (d := 78) hok (OpVal.no rfl (fun c h => by cases h) rfl rfl rfl (gn_t rfl)) (by kernel_rfl) rfl (bl rfl) ?_
                clear hok
                intro hok
                refine TrAny.prom (i := 37) (d := 79) hok (OpVal.no rfl (fun c h => by cases h) rfl rfl rfl (gn_t rfl)) (by kernel_rfl) rfl (bl rfl) ?_
                clear hok
                intro hok
                refine TrAny.prom (i := 38) (d := 80) hok (OpVal.no rfl (fun c h => by cases h) rfl rfl rfl (gn_t rfl)) (by kernel_rfl) rfl (bl rfl) ?_
                clear hok
                intro hok
                refine TrAny.prom (i := 39) (d := 81) hok (OpVal.plain rfl rfl (v_pick_f rfl rfl rfl rfl)) (by kernel_rfl) rfl (bl rfl) ?_
                clear hok
                intro hok
                refine TrAny.prom (i := 40) (d := 4) hok (OpVal.plain rfl rfl (v_assign rfl rfl)) (by kernel_rfl) rfl (bl rfl) ?_
                clear hok
                intro hok
                refine TrAny.done (by kernel_rfl) (by kernel_rfl) hok (by kernel_rfl) (qthen_n ?_)
                have hz := Option.some.inj H
                subst hz
                refine Tr.ret (ret_r ⟨[(4, .bool false)], [], [], []⟩ [.bool false] [] [] (Imp.re _ [] [] (sc rfl sn) (by decide) rfl rfl rfl) rfl rfl ⟨rfl, rfl, rfl⟩ (.cons (resv_tmp rfl) .nil))
          · refine TrAny.prom (i := 16) (d := 58) hok (OpVal.no rfl (fun c h => by cases h) rfl rfl rfl (gn_t (bf_dec h72))) (by kernel_rfl) rfl (bl rfl) ?_
            clear hok
            intro hok
            refine TrAny.prom (i := 17) (d := 59) hok (OpVal.no rfl (fun c h => by cases h) rfl rfl rfl (gn_t (bf_dec h72))) (by kernel_rfl) rfl (bl rfl) ?_
            clear hok
            intro hok
            refine TrAny.prom (i := 18) (d := 60) hok (OpVal.no rfl (fun c h => by cases h) rfl rfl rfl (gn_t (bf_dec h72))) (by kernel_rfl) rfl (bl rfl) ?_
            clear hok
            intro hok
            refine TrAny.prom (i := 19) (d := 61) hok (OpVal.un rfl (fun c h => by cases h) rfl rfl rfl) (by kernel_rfl) rfl (bl rfl) ?_
            clear hok
            intro hok
            refine TrAny.prom (i := 20) (d := 62) hok (OpVal.un rfl (fun c h => by cases h) rfl rfl rfl) (by kernel_rfl) rfl (bl rfl) ?_
            clear hok
            intro hok
            refine TrAny.prom (i := 21) (d := 63) hok (OpVal.no rfl (fun c h => by cases h) rfl rfl rfl (gn_t (bf_dec h72))) (by kernel_rfl) rfl (bl rfl) ?_
            clear hok
            intro hok
            refine TrAny.prom (i := 22) (d := 64) hok (OpVal.no rfl (fun c h => by cases h) rfl rfl rfl (gn_t (bf_dec h72))) (by kernel_rfl) rfl (bl rfl) ?_
            clear hok
            intro hok
            refine TrAny.prom (i := 23) (d := 65) hok (OpVal.un rfl (fun c h => by cases h) rfl rfl rfl) (by kernel_rfl) rfl (bl rfl) ?_
            clear hok
            intro hok
            refine TrAny.prom (i := 24) (d := 66) hok (OpVal.un rfl (fun c h => by cases h) rfl rfl rfl) (by kernel_rfl) rfl (bl rfl) ?_
            clear hok
            intro hok
            refine TrAny.prom (i := 25) (d := 67) hok (OpVal.un rfl (fun c h => by cases h) rfl rfl rfl) (by kernel_rfl) rfl (bl rfl) ?_
            clear hok
            intro hok
            refine TrAny.prom (i := 26) (d := 68) hok (OpVal.un rfl (fun c h => by cases h) rfl rfl rfl) (by kernel_rfl) rfl (bl rfl) ?_
            clear hok
            intro hok
            refine TrAny.prom (i := 27) (d := 69) hok (OpVal.no rfl (fun c h => by cases h) rfl rfl rfl (gn_t (bf_dec h72))) (by kernel_rfl) rfl (bl rfl) ?_
            clear hok
            intro hok
            refine TrAny.prom (i := 28) (d := 70) hok (OpVal.plain rfl rfl (v_pick_f rfl rfl (bf_dec h72) rfl)) (by kernel_rfl) rfl (bl rfl) ?_
            clear hok
            intro hok
            refine TrAny.prom (i := 29) (d := 71) hok (OpVal.plain rfl rfl (v_move rfl rfl)) (by kernel_rfl) rfl (bl rfl) ?_
            clear hok
            intro hok
            refine TrAny.prom (i := 30) (d := 72) hok (OpVal.no rfl (fun c h => by cases h) rfl rfl rfl (gn_t rfl)) (by kernel_rfl) rfl (bl rfl) ?_
            clear hok
            intro hok
            refine TrAny.prom (i := 31) (d := 73) hok (OpVal.no rfl (fun c h => by cases h) rfl rfl rfl (gn_t rfl)) (by kernel_rfl) rfl (bl rfl) ?_
            clear hok
            intro hok
            refine TrAny.prom (i := 32) (d := 74) hok (OpVal.no rfl (fun c h => by cases h) rfl rfl rfl (gn_t rfl)) (by kernel_rfl) rfl (bl rfl) ?_
            clear hok
            intro hok
            refine TrAny.prom (i := 33) (d := 75) hok (OpVal.no rfl (fun c h => by cases h) rfl rfl rfl (gn_t rfl)) (by kernel_rfl) rfl (bl rfl) ?_
            clear hok
            intro hok
            refine TrAny.prom (i := 34) (d := 76) hok (OpVal.no rfl (fun c h => by cases h) rfl rfl rfl (gn_t rfl)) (by kernel_rfl) rfl (bl rfl) ?_
            clear hok
            intro hok
            refine TrAny.prom (i := 35) (d := 77) hok (OpVal.no rfl (fun c h => by cases h) rfl rfl rfl (gn_t rfl)) (by kernel_rfl) rfl (bl rfl) ?_
            clear hok
            intro hok
            refine TrAny.prom (i := 36) (d := 78) hok (OpVal.no rfl (fun c h => by cases h) rfl rfl rfl (gn_t rfl)) (by kernel_rfl) rfl (bl rfl) ?_
            clear hok
            intro hok
            refine TrAny.prom (i := 37) (d := 79) hok (OpVal.no rfl (fun c h => by cases h) rfl rfl rfl (gn_t rfl)) (by kernel_rfl) rfl (bl rfl) ?_
            clear hok
            intro hok
            refine TrAny.prom (i := 38) (d := 80) hok (OpVal.no rfl (fun c h => by cases h) rfl rfl rfl (gn_t rfl)) (by kernel_rfl) rfl (bl rfl) ?_
            clear hok
            intro hok
            refine TrAny.prom (i := 39) (d := 81) hok (OpVal.plain rfl rfl (v_pick_f rfl rfl rfl rfl)) (by kernel_rfl) rfl (bl rfl) ?_
            clear hok
            intro hok
            refine TrAny.prom (i := 40) (d := 4) hok (OpVal.plain rfl rfl (v_assign rfl rfl)) (by kernel_rfl) rfl (bl rfl) ?_
            clear hok
            intro hok
            refine TrAny.done (by kernel_rfl) (by kernel_rfl) hok (by kernel_rfl) (qthen_n ?_)
            have hz := Option.some.inj H
            subst hz
            refine Tr.ret (ret_r ⟨[(4, .bool false)], [], [], []⟩ [.bool false] [] [] (Imp.re _ [] [] (sc rfl sn) (by decide) rfl rfl rfl) rfl rfl ⟨rfl, rfl, rfl⟩ (.cons (resv_tmp rfl) .nil))
        · refine TrAny.prom (i := 10) (d := 52) hok (OpVal.no rfl (fun c h => by cases h) rfl rfl rfl (gn_t (bf_dec h71))) (by kernel_rfl) rfl (bl rfl) ?_
          clear hok
          intro hok
          refine TrAny.prom (i := 11) (d := 53) hok (OpVal.no rfl (fun c h => by cases h) rfl rfl rfl (gn_t (bf_dec h71))) (by kernel_rfl) rfl (bl rfl) ?_
          clear hok
          intro hok
          refine TrAny.prom (i := 12) (d := 54) hok (OpVal.no rfl (fun c h => by cases h) rfl rfl rfl (gn_t (bf_dec h71))) (by kernel_rfl) rfl (bl rfl) ?_
          clear hok
          intro hok
          refine TrAny.prom (i := 13) (d := 55) hok (OpVal.no rfl (fun c h => by cases h) rfl rfl rfl (gn_t (bf_dec h71))) (by kernel_rfl) rfl (bl rfl) ?_
          clear hok
          intro hok
          refine TrAny.prom (i := 14) (d := 56) hok (OpVal.plain rfl rfl (v_pick_f rfl rfl (bf_dec h71) rfl)) (by kernel_rfl) rfl (bl rfl) ?_
          clear hok
          intro hok
          refine TrAny.prom (i := 15) (d := 57) hok (OpVal.plain rfl rfl (v_move rfl rfl)) (by kernel_rfl) rfl (bl rfl) ?_
          clear hok
          intro hok
          refine TrAny.prom (i := 16) (d := 58) hok (OpVal.no rfl (fun c h => by cases h) rfl rfl rfl (gn_t rfl)) (by kernel_rfl) rfl (bl rfl) ?_
          clear hok
          intro hok
          refine TrAny.prom (i := 17) (d := 59) hok (OpVal.no rfl (fun c h => by cases h) rfl rfl rfl (gn_t rfl)) (by kernel_rfl) rfl (bl rfl) ?_
          clear hok
          intro hok
          refine TrAny.prom (i := 18) (d := 60) hok (OpVal.no rfl (fun c h => by cases h) rfl rfl rfl (gn_t rfl)) (by kernel_rfl) rfl (bl rfl) ?_
          clear hok
          intro hok
          refine TrAny.prom (i := 19) (d := 61) hok (OpVal.un rfl (fun c h => by cases h) rfl rfl rfl) (by kernel_rfl) rfl (bl rfl) ?_
          clear hok
          intro hok
          refine TrAny.prom (i := 20) (d := 62) hok (OpVal.un rfl (fun c h => by cases h) rfl rfl rfl) (by kernel_rfl) rfl (bl rfl) ?_
          clear hok
          intro hok
          refine TrAny.prom (i := 21) (d := 63) hok (OpVal.no rfl (fun c h => by cases h) rfl rfl rfl (gn_t rfl)) (by kernel_rfl) rfl (bl rfl) ?_
          clear hok
          intro hok
          refine TrAny.prom (i := 22) (d := 64) hok (OpVal.no rfl (fun c h => by cases h) rfl rfl rfl (gn_t rfl)) (by kernel_rfl) rfl (bl rfl) ?_
          clear hok
          intro hok
          refine TrAny.prom (i := 23) (d := 65) hok (OpVal.un rfl (fun c h => by cases h) rfl rfl rfl) (by kernel_rfl) rfl (bl rfl) ?_
          clear hok
          intro hok
          refine TrAny.prom (i := 24) (d := 66) hok (OpVal.un rfl (fun c h => by cases h) rfl rfl rfl) (by kernel_rfl) rfl (bl rfl) ?_
          clear hok
          intro hok
          refine TrAny.prom (i := 25) (d := 67) hok (OpVal.un rfl (fun c h => by cases h) rfl rfl rfl) (by kernel_rfl) rfl (bl rfl) ?_
          clear hok
          intro hok
          refine TrAny.prom (i := 26) (d := 68) hok (OpVal.un rfl (fun c h => by cases h) rfl rfl rfl) (by kernel_rfl) rfl (bl rfl) ?_
          clear hok
          intro hok
          refine TrAny.prom (i := 27) (d := 69) hok (OpVal.no rfl (fun c h => by cases h) rfl rfl rfl (gn_t rfl)) (by kernel_rfl) rfl (bl rfl) ?_
          clear hok
          intro hok
          refine TrAny.prom (i := 28) (d := 70) hok (OpVal.plain rfl rfl (v_pick_f rfl rfl rfl rfl)) (by kernel_rfl) rfl (bl rfl) ?_
          clear hok
          intro hok
          refine TrAny.prom (i := 29) (d := 71) hok (OpVal.plain rfl rfl (v_move rfl rfl)) (by kernel_rfl) rfl (bl rfl) ?_
          clear hok
          intro hok
          refine TrAny.prom (i := 30) (d := 72) hok (OpVal.no rfl (fun c h => by cases h) rfl rfl rfl (gn_t rfl)) (by kernel_rfl) rfl (bl rfl) ?_
          clear hok
          intro hok
          refine TrAny.prom (i := 31) (d := 73) hok (OpVal.no rfl (fun c h => by cases h) rfl rfl rfl (gn_t rfl)) (by kernel_rfl) rfl (bl rfl) ?_
          clear hok
          intro hok
          refine TrAny.prom (i := 32) (d := 74) hok (OpVal.no rfl (fun c h => by cases h) rfl rfl rfl (gn_t rfl)) (by kernel_rfl) rfl (bl rfl) ?_
          clear hok
          intro hok
          refine TrAny.prom (i := 33) (d := 75) hok (OpVal.no rfl (fun c h => by cases h) rfl rfl rfl (gn_t rfl)) (by kernel_rfl) rfl (bl rfl) ?_
          clear hok
          intro hok
          refine TrAny.prom (i := 34) (d := 76) hok (OpVal.no rfl (fun c h => by cases h) rfl rfl rfl (gn_t rfl)) (by kernel_rfl) rfl (bl rfl) ?_
          clear hok
          intro hok
          refine TrAny.prom (i := 35) (d := 77) hok (OpVal.no rfl (fun c h => by cases h) rfl rfl rfl (gn_t rfl)) (by kernel_rfl) rfl (bl rfl) ?_
          clear hok
          intro hok
          refine TrAny.prom (i := 36) (d := 78) hok (OpVal.no rfl (fun c h => by cases h) rfl rfl rfl (gn_t rfl)) (by kernel_rfl) rfl (bl rfl) ?_
          clear hok
          intro hok
          refine TrAny.prom (i := 37) (d := 79) hok (OpVal.no rfl (fun c h => by cases h) rfl rfl rfl (gn_t rfl)) (by kernel_rfl) rfl (bl rfl) ?_
          clear hok
          intro hok
          refine TrAny.prom (i := 38) (d := 80) hok (OpVal.no rfl (fun c h => by cases h) rfl rfl rfl (gn_t rfl)) (by kernel_rfl) rfl (bl rfl) ?_
          clear hok
          intro hok
          refine TrAny.prom (i := 39) (d := 81) hok (OpVal.plain rfl rfl (v_pick_f rfl rfl rfl rfl)) (by kernel_rfl) rfl (bl rfl) ?_
          clear hok
          intro hok
          refine TrAny.prom (i := 40) (d := 4) hok (OpVal.plain rfl rfl (v_assign rfl rfl)) (by kernel_rfl) rfl (bl rfl) ?_
          clear hok
          intro hok
          refine TrAny.done (by kernel_rfl) (by kernel_rfl) hok (by kernel_rfl) (qthen_n ?_)
          have hz := Option.some.inj H
          subst hz
          refine Tr.ret (ret_r ⟨[(4, .bool false)], [], [], []⟩ [.bool false] [] [] (Imp.re _ [] [] (sc rfl sn) (by decide) rfl rfl rfl) rfl rfl ⟨rfl, rfl, rfl⟩ (.cons (resv_tmp rfl) .nil))
      · refine TrAny.prom (i := 2) (d := 44) hok (OpVal.no rfl (fun c h => by cases h) rfl rfl rfl (gn_t (bf_b h70))) (by kernel_rfl) rfl (bl rfl) ?_
        clear hok
        intro hok
        refine TrAny.prom (i := 3) (d := 45) hok (OpVal.no rfl (fun c h => by cases h) rfl rfl rfl (gn_t (bf_b h70))) (by kernel_rfl) rfl (bl rfl) ?_
        clear hok
        intro hok
        refine TrAny.prom (i := 4) (d := 46) hok (OpVal.no rfl (fun c h => by cases h) rfl rfl rfl (gn_t (bf_b h70))) (by kernel_rfl) rfl (bl rfl) ?_
        clear hok
        intro hok
        refine TrAny.prom (i := 5) (d := 47) hok (OpVal.no rfl (fun c h => by cases h) rfl rfl rfl (gn_t (bf_b h70))) (by kernel_rfl) rfl (bl rfl) ?_
        clear hok
        intro hok
        refine TrAny.prom (i := 6) (d := 48) hok (OpVal.no rfl (fun c h => by cases h) rfl rfl rfl (gn_t (bf_b h70))) (by kernel_rfl) rfl (bl rfl) ?_
        clear hok
        intro hok
        refine TrAny.prom (i := 7) (d := 49) hok (OpVal.no rfl (fun c h => by cases h) rfl rfl rfl (gn_t (bf_b h70))) (by kernel_rfl) rfl (bl rfl) ?_
        clear hok
        intro hok
        refine TrAny.prom (i := 8) (d := 50) hok (OpVal.plain rfl rfl (v_pick_f rfl rfl (bf_b h70) rfl)) (by kernel_rfl) rfl (bl rfl) ?_
        clear hok
        intro hok
        refine TrAny.prom (i := 9) (d := 51) hok (OpVal.plain rfl rfl (v_move rfl rfl)) (by kernel_rfl) rfl (bl rfl) ?_
        clear hok
        intro hok
        refine TrAny.prom (i := 10) (d := 52) hok (OpVal.no rfl (fun c h => by cases h) rfl rfl rfl (gn_t rfl)) (by kernel_rfl) rfl (bl rfl) ?_
        clear hok
        intro hok
        refine TrAny.prom (i := 11) (d := 53) hok (OpVal.no rfl (fun c h => by cases h) rfl rfl rfl (gn_t rfl)) (by kernel_rfl) rfl (bl rfl) ?_
        clear hok
        intro hok
        refine TrAny.prom (i := 12) (d := 54) hok (OpVal.no rfl (fun c h => by cases h) rfl rfl rfl (gn_t rfl)) (by kernel_rfl) rfl (bl rfl) ?_
        clear hok
        intro hok
        refine TrAny.prom (i := 13) (d := 55) hok (OpVal.no rfl (fun c h => by cases h) rfl rfl rfl (gn_t rfl)) (by kernel_rfl) rfl (bl rfl) ?_
        clear hok
        intro hok
        refine TrAny.prom (i := 14) (d := 56) hok (OpVal.plain rfl rfl (v_pick_f rfl rfl rfl rfl)) (by kernel_rfl) rfl (bl rfl) ?_
        clear hok
        intro hok
        refine TrAny.prom (i := 15) (d := 57) hok (OpVal.plain rfl rfl (v_move rfl rfl)) (by kernel_rfl) rfl (bl rfl) ?_
        clear hok
        intro hok
        refine TrAny.prom (i := 16) (d := 58) hok (OpVal.no rfl (fun c h => by cases h) rfl rfl rfl (gn_t rfl)) (by kernel_rfl) rfl (bl rfl) ?_
        clear hok
        intro hok
        refine TrAny.prom (i := 17) (d := 59) hok (OpVal.no rfl (fun c h => by cases h) rfl rfl rfl (gn_t rfl)) (by kernel_rfl) rfl (bl rfl) ?_
        clear hok
        intro hok
        refine TrAny.prom (i := 18) (d := 60) hok (OpVal.no rfl (fun c h => by cases h) rfl rfl rfl (gn_t rfl)) (by kernel_rfl) rfl (bl rfl) ?_
        clear hok
        intro hok
        refine TrAny.prom (i := 19) (d := 61) hok (OpVal.un rfl (fun c h => by cases h) rfl rfl rfl) (by kernel_rfl) rfl (bl rfl) ?_
        clear hok
        intro hok
        refine TrAny.prom (i := 20) (d := 62) hok (OpVal.un rfl (fun c h => by cases h) rfl rfl rfl) (by kernel_rfl) rfl (bl rfl) ?_
        clear hok
        intro hok
        refine TrAny.prom (i := 21) (d := 63) hok (OpVal.no rfl (fun c h => by cases h) rfl rfl rfl (gn_t rfl)) (by kernel_rfl) rfl (bl rfl) ?_
        clear hok
        intro hok
        refine TrAny.prom (i := 22) (d := 64) hok (OpVal.no rfl (fun c h => by cases h) rfl rfl rfl (gn_t rfl)) (by kernel_rfl) rfl (bl rfl) ?_
        clear hok
        intro hok
        refine TrAny.prom (i := 23) (d := 65) hok (OpVal.un rfl (fun c h => by cases h) rfl rfl rfl) (by kernel_rfl) rfl (bl rfl) ?_
        clear hok
        intro hok
        refine TrAny.prom (i := 24) (d := 66) hok (OpVal.un rfl (fun c h => by cases h) rfl rfl rfl) (by kernel_rfl) rfl (bl rfl) ?_
        clear hok
        intro hok
        refine TrAny.prom (i := 25) (d := 67) hok (OpVal.un rfl (fun c h => by cases h) rfl rfl rfl) (by kernel_rfl) rfl (bl rfl) ?_
        clear hok
        intro hok
        refine TrAny.prom (i := 26) (d := 68) hok (OpVal.un rfl (fun c h => by cases h) rfl rfl rfl) (by kernel_rfl) rfl (bl rfl) ?_
        clear hok
        intro hok
        refine TrAny.prom (i := 27) (d := 69) hok (OpVal.no rfl (fun c h => by cases h) rfl rfl rfl (gn_t rfl)) (by kernel_rfl) rfl (bl rfl) ?_
        clear hok
        intro hok
        refine TrAny.prom (i := 28) (d := 70) hok (OpVal.plain rfl rfl (v_pick_f rfl rfl rfl rfl)) (by kernel_rfl) rfl (bl rfl) ?_
        clear hok
        intro hok
        refine TrAny.prom (i := 29) (d := 71) hok (OpVal.plain rfl rfl (v_move rfl rfl)) (by kernel_rfl) rfl (bl rfl) ?_
        clear hok
        intro hok
        refine TrAny.prom (i := 30) (d := 72) hok (OpVal.no rfl (fun c h => by cases h) rfl rfl rfl (gn_t rfl)) (by kernel_rfl) rfl (bl rfl) ?_
        clear hok
        intro hok
        refine TrAny.prom (i := 31) (d := 73) hok (OpVal.no rfl (fun c h => by cases h) rfl rfl rfl (gn_t rfl)) (by kernel_rfl) rfl (bl rfl) ?_
        clear hok
        intro hok
        refine TrAny.prom (i := 32) (d := 74) hok (OpVal.no rfl (fun c h => by cases h) rfl rfl rfl (gn_t rfl)) (by kernel_rfl) rfl (bl rfl) ?_
        clear hok
        intro hok
        refine TrAny.prom (i := 33) (d := 75) hok (OpVal.no rfl (fun c h => by cases h) rfl rfl rfl (gn_t rfl)) (by kernel_rfl) rfl (bl rfl) ?_
        clear hok
        intro hok
        refine TrAny.prom (i := 34) (d := 76) hok (OpVal.no rfl (fun c h => by cases h) rfl rfl rfl (gn_t rfl)) (by kernel_rfl) rfl (bl rfl) ?_
        clear hok
        intro hok
        refine TrAny.prom (i := 35) (d := 77) hok (OpVal.no rfl (fun c h => by cases h) rfl rfl rfl (gn_t rfl)) (by kernel_rfl) rfl (bl rfl) ?_
        clear hok
        intro hok
        refine TrAny.prom (i := 36) (d := 78) hok (OpVal.no rfl (fun c h => by cases h) rfl rfl rfl (gn_t rfl)) (by kernel_rfl) rfl (bl rfl) ?_
        clear hok
        intro hok
        refine TrAny.prom (i := 37) (d := 79) hok (OpVal.no rfl (fun c h => by cases h) rfl rfl rfl (gn_t rfl)) (by kernel_rfl) rfl (bl rfl) ?_
        clear hok
        intro hok
        refine TrAny.prom (i := 38) (d := 80) hok (OpVal.no rfl (fun c h => by cases h) rfl rfl rfl (gn_t rfl)) (by kernel_rfl) rfl (bl rfl) ?_
        clear hok
        intro hok
        refine TrAny.prom (i := 39) (d := 81) hok (OpVal.plain rfl rfl (v_pick_f rfl rfl rfl rfl)) (by kernel_rfl) rfl (bl rfl) ?_
        clear hok
        intro hok
        refine TrAny.prom (i := 40) (d := 4) hok (OpVal.plain rfl rfl (v_assign rfl rfl)) (by kernel_rfl) rfl (bl rfl) ?_
        clear hok
        intro hok
        refine TrAny.done (by kernel_rfl) (by kernel_rfl) hok (by kernel_rfl) (qthen_n ?_)
        have hz := Option.some.inj H
        subst hz
        refine Tr.ret (ret_r ⟨[(4, .bool false)], [], [], []⟩ [.bool false] [] [] (Imp.re _ [] [] (sc rfl sn) (by decide) rfl rfl rfl) rfl rfl ⟨rfl, rfl, rfl⟩ (.cons (resv_tmp rfl) .nil))
end Go.Proofs.Ythgeodagikmpjaa.W
