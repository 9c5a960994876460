/- The contracts of the walked functions: the printed walks. -/
import Derived.Test.YtbnjjpmlaknaoaaKa
import Derived.Test.YtbnjjpmlaknaoaaQa
import Derived.Test.YtbnjjpmlaknaoaaWestimateaa
import Derived.Test.YtbnjjpmlaknaoaaWhistaa
import Derived.Test.YtbnjjpmlaknaoaaWlaw08aa
import Derived.Test.YtbnjjpmlaknaoaaWlaw08ba
import Derived.Test.YtbnjjpmlaknaoaaWref06ba
namespace Go.Proofs.Ytbnjjpmlaknaoaa.W
open Go Go.Proofs Go.Proofs.Ytbnjjpmlaknaoaa.L Go.Proofs.Ytbnjjpmlaknaoaa.Pu
set_option linter.unusedVariables false
set_option maxHeartbeats 4000000

theorem c_law08_EstimateGrows (p1 : Int) (p2 : List (Int × Int)) (p3 : Int × Int × Int × Int) (A1 : Option Addr) (c1 : Nat) (r : Bool) (H : law08_EstimateGrows p1 p2 p3 = some r) :
    Ctr Try.prog 8 [.int .i64 p1, .slice A1 p2.length c1, .agg #[.int .u64 p3.1, .int .u64 p3.2.1, .int .u64 p3.2.2.1, .int .u64 p3.2.2.2]] [] [slF rp_u64_u64 A1 c1 p2] (fun ret M' F' => ret = .bool r ∧ M' = [] ∧ F' = []) := by
  unfold law08_EstimateGrows at H
  refine ctr_ofI (N := 79) Try.func8 rfl Try.ntmps8 rfl (Nat.le_of_ble_eq_true rfl) (fun γ0 w0 => ?_)
  refine Tr.seq ?_
  refine Tr.region ?_
  refine TrL.cons rfl (op_box' rfl (bl rfl) rfl rfl rfl (fun b3 => ?_))
  refine TrL.v (v_assign rfl rfl) rfl rfl (bl rfl) ?_
  refine TrL.nil (qthen_n ?_)
  refine Tr.seq ?_
  refine Tr.region ?_
  obtain ⟨r16, hr16, H⟩ := bnd H
  refine TrL.cons rfl (op_call0' (vs := []) (cap := []) [] rfl rfl (bl rfl) rfl rfl en38 (c_law08_awake r16 hr16) rfl (fun ret M' F' hR16 => ?_))
  obtain ⟨rfl, rfl, rfl⟩ := hR16
  refine TrL.v (v_assign rfl rfl) rfl rfl (bl rfl) ?_
  refine TrL.nil (qthen_n ?_)
  refine Tr.seq ?_
  refine Tr.region ?_
  refine TrL.v (v_move rfl rfl) rfl rfl (bl rfl) ?_
  refine TrL.v (v_move rfl rfl) rfl rfl (bl rfl) ?_
  obtain ⟨r17, hr17, H⟩ := bnd H
  refine TrL.cons rfl (op_call0' (vs := [.int .i64 p1, .slice A1 p2.length c1]) (cap := []) [0] rfl rfl (bl rfl) rfl rfl en30 (c_ref06_Made p1 p2 A1 c1 r17 hr17) rfl (fun ret M' F' hR17 => ?_))
  obtain ⟨m17, rfl, rfl, rfl⟩ := hR17
  obtain ⟨r18, hr18, H⟩ := bnd H
  refine TrL.cons rfl (op_call0' (vs := [.agg #[.int .i64 r17.1, .int .i64 r17.2.1, .slice m17.1 r17.2.2.length m17.2]]) (cap := []) [1] rfl rfl (bl rfl) rfl rfl en40 (c_law08_made r17 m17.1 m17.2 r18 hr18) rfl (fun ret M' F' hR18 => ?_))
  obtain ⟨rfl, rfl, rfl⟩ := hR18
  refine TrL.cons rfl (op_alloc' rfl (bl rfl) rfl ze31 (fun b4 => ?_))
  refine TrL.cons rfl (op_store' (k := 0) (c' := [.int .i64 r17.1, .int .i64 r17.2.1, .slice m17.1 r17.2.2.length m17.2]) rfl rfl rfl rfl rfl ty31 rfl (Nat.le_of_ble_eq_true rfl) (ones (oc rfl (oc rfl (oc rfl on)))) rfl ?_)
  refine TrL.nil (qthen_n ?_)
  refine Tr.seq ?_
  refine Tr.region ?_
  refine TrL.v (v_load (k := 0) rfl rfl rfl ty31 nofun rfl rfl) rfl rfl (bl rfl) ?_
  refine TrL.v (v_indexArr rfl ar49 ty23 rfl rfl (by decide) (by decide) rfl) rfl rfl (bl rfl) ?_
  refine TrL.v (v_load (k := 1) rfl rfl rfl ty23 (fun _ => rfl) rfl rfl) rfl rfl (bl rfl) ?_
  refine TrL.v (v_indexArr rfl ar49 ty23 rfl rfl (by decide) (by decide) rfl) rfl rfl (bl rfl) ?_
  refine TrL.v (v_load (k := 1) rfl rfl rfl ty23 (fun _ => rfl) rfl rfl) rfl rfl (bl rfl) ?_
  refine TrL.v (v_indexArr rfl ar49 ty23 rfl rfl (by decide) (by decide) rfl) rfl rfl (bl rfl) ?_
  refine TrL.v (v_load (k := 1) rfl rfl rfl ty23 (fun _ => rfl) rfl rfl) rfl rfl (bl rfl) ?_
  refine TrL.v (v_min rfl rfl rfl) rfl rfl (bl rfl) ?_
  obtain ⟨r19, hr19, H⟩ := bnd H
  refine TrL.cons rfl (op_call0' (vs := [.agg #[.int .i64 r17.1, .int .i64 r17.2.1, .slice m17.1 r17.2.2.length m17.2], .int .u64 p3.1, .int .u64 (min p3.2.1 p3.2.2.1)]) (cap := []) [1] rfl rfl (bl rfl) rfl rfl en42 (c_estimate_Of r17 p3.1 (min p3.2.1 p3.2.2.1) m17.1 m17.2 r19 hr19) rfl (fun ret M' F' hR19 => ?_))
  obtain ⟨rfl, rfl, rfl⟩ := hR19
  refine TrL.v (v_assign rfl rfl) rfl rfl (bl rfl) ?_
  refine TrL.nil (qthen_n ?_)
  refine Tr.seq ?_
  refine Tr.region ?_
  refine TrL.v (v_load (k := 0) rfl rfl rfl ty31 nofun rfl rfl) rfl rfl (bl rfl) ?_
  refine TrL.v (v_indexArr rfl ar49 ty23 rfl rfl (by decide) (by decide) rfl) rfl rfl (bl rfl) ?_
  refine TrL.v (v_load (k := 1) rfl rfl rfl ty23 (fun _ => rfl) rfl rfl) rfl rfl (bl rfl) ?_
  refine TrL.v (v_indexArr rfl ar49 ty23 rfl rfl (by decide) (by decide) rfl) rfl rfl (bl rfl) ?_
  refine TrL.v (v_load (k := 1) rfl rfl rfl ty23 (fun _ => rfl) rfl rfl) rfl rfl (bl rfl) ?_
  refine TrL.v (v_indexArr rfl ar49 ty23 rfl rfl (by decide) (by decide) rfl) rfl rfl (bl rfl) ?_
  refine TrL.v (v_load (k := 1) rfl rfl rfl ty23 (fun _ => rfl) rfl rfl) rfl rfl (bl rfl) ?_
  refine TrL.v (v_max rfl rfl rfl) rfl rfl (bl rfl) ?_
  obtain ⟨r20, hr20, H⟩ := bnd H
  refine TrL.cons rfl (op_call0' (vs := [.agg #[.int .i64 r17.1, .int .i64 r17.2.1, .slice m17.1 r17.2.2.length m17.2], .int .u64 p3.1, .int .u64 (max p3.2.1 p3.2.2.1)]) (cap := []) [1] rfl rfl (bl rfl) rfl rfl en42 (c_estimate_Of r17 p3.1 (max p3.2.1 p3.2.2.1) m17.1 m17.2 r20 hr20) rfl (fun ret M' F' hR20 => ?_))
  obtain ⟨rfl, rfl, rfl⟩ := hR20
  refine TrL.v (v_assign rfl rfl) rfl rfl (bl rfl) ?_
  refine TrL.nil (qthen_n ?_)
  refine Tr.seq ?_
  refine Tr.region ?_
  refine TrL.v (v_load (k := 0) rfl rfl rfl ty31 nofun rfl rfl) rfl rfl (bl rfl) ?_
  refine TrL.v (v_indexArr rfl ar49 ty23 rfl rfl (by decide) (by decide) rfl) rfl rfl (bl rfl) ?_
  refine TrL.v (v_load (k := 1) rfl rfl rfl ty23 (fun _ => rfl) rfl rfl) rfl rfl (bl rfl) ?_
  refine TrL.v (v_indexArr rfl ar49 ty23 rfl rfl (by decide) (by decide) rfl) rfl rfl (bl rfl) ?_
  refine TrL.v (v_load (k := 1) rfl rfl rfl ty23 (fun _ => rfl) rfl rfl) rfl rfl (bl rfl) ?_
  refine TrL.v (v_max rfl rfl rfl) rfl rfl (bl rfl) ?_
  refine TrL.v (v_indexArr rfl ar49 ty23 rfl rfl (by decide) (by decide) rfl) rfl rfl (bl rfl) ?_
  refine TrL.v (v_load (k := 1) rfl rfl rfl ty23 (fun _ => rfl) rfl rfl) rfl rfl (bl rfl) ?_
  obtain ⟨r21, hr21, H⟩ := bnd H
  refine TrL.cons rfl (op_call0' (vs := [.agg #[.int .i64 r17.1, .int .i64 r17.2.1, .slice m17.1 r17.2.2.length m17.2], .int .u64 (max p3.1 p3.2.2.2), .int .u64 p3.2.1]) (cap := []) [1] rfl rfl (bl rfl) rfl rfl en42 (c_estimate_Of r17 (max p3.1 p3.2.2.2) p3.2.1 m17.1 m17.2 r21 hr21) rfl (fun ret M' F' hR21 => ?_))
  obtain ⟨rfl, rfl, rfl⟩ := hR21
  refine TrL.v (v_assign rfl rfl) rfl rfl (bl rfl) ?_
  refine TrL.nil (qthen_n ?_)
  refine Tr.seq ?_
  refine Tr.region ?_
  refine TrL.v (v_load (k := 0) rfl rfl rfl ty31 nofun rfl rfl) rfl rfl (bl rfl) ?_
  refine TrL.v (v_indexArr rfl ar49 ty23 rfl rfl (by decide) (by decide) rfl) rfl rfl (bl rfl) ?_
  refine TrL.v (v_load (k := 1) rfl rfl rfl ty23 (fun _ => rfl) rfl rfl) rfl rfl (bl rfl) ?_
  refine TrL.v (v_indexArr rfl ar49 ty23 rfl rfl (by decide) (by decide) rfl) rfl rfl (bl rfl) ?_
  refine TrL.v (v_load (k := 1) rfl rfl rfl ty23 (fun _ => rfl) rfl rfl) rfl rfl (bl rfl) ?_
  refine TrL.v (v_min rfl rfl rfl) rfl rfl (bl rfl) ?_
  refine TrL.v (v_indexArr rfl ar49 ty23 rfl rfl (by decide) (by decide) rfl) rfl rfl (bl rfl) ?_
  refine TrL.v (v_load (k := 1) rfl rfl rfl ty23 (fun _ => rfl) rfl rfl) rfl rfl (bl rfl) ?_
  obtain ⟨r22, hr22, H⟩ := bnd H
  refine TrL.cons rfl (op_call0' (vs := [.agg #[.int .i64 r17.1, .int .i64 r17.2.1, .slice m17.1 r17.2.2.length m17.2], .int .u64 (min p3.1 p3.2.2.2), .int .u64 p3.2.1]) (cap := []) [1] rfl rfl (bl rfl) rfl rfl en42 (c_estimate_Of r17 (min p3.1 p3.2.2.2) p3.2.1 m17.1 m17.2 r22 hr22) rfl (fun ret M' F' hR22 => ?_))
  obtain ⟨rfl, rfl, rfl⟩ := hR22
  refine TrL.v (v_assign rfl rfl) rfl rfl (bl rfl) ?_
  refine TrL.nil (qthen_n ?_)
  refine Tr.seq ?_
  refine Tr.re ⟨[(0, .int .i64 p1), (1, .slice A1 p2.length c1), (2, .agg #[.int .u64 p3.1, .int .u64 p3.2.1, .int .u64 p3.2.2.1, .int .u64 p3.2.2.2]), (5, .pointer (some ⟨b3, 0, none⟩)), (7, .bool r16), (8, .pointer (some ⟨b4, 0, none⟩)), (9, .int .u64 r19), (10, .int .u64 r20), (11, .int .u64 r21), (12, .int .u64 r22), (13, .bool r16), (14, .int .i64 p1), (15, .slice A1 p2.length c1), (16, .agg #[.int .i64 r17.1, .int .i64 r17.2.1, .slice m17.1 r17.2.2.length m17.2]), (17, .agg #[.int .i64 r17.1, .int .i64 r17.2.1, .slice m17.1 r17.2.2.length m17.2]), (18, .agg #[.int .i64 r17.1, .int .i64 r17.2.1, .slice m17.1 r17.2.2.length m17.2]), (19, .pointer (some ⟨b3, 0, none⟩)), (20, .int .u64 p3.1), (21, .pointer (some ⟨b3, 1, none⟩)), (22, .int .u64 p3.2.1), (23, .pointer (some ⟨b3, 2, none⟩)), (24, .int .u64 p3.2.2.1), (25, .int .u64 (min p3.2.1 p3.2.2.1)), (26, .int .u64 r19), (27, .agg #[.int .i64 r17.1, .int .i64 r17.2.1, .slice m17.1 r17.2.2.length m17.2]), (28, .pointer (some ⟨b3, 0, none⟩)), (29, .int .u64 p3.1), (30, .pointer (some ⟨b3, 1, none⟩)), (31, .int .u64 p3.2.1), (32, .pointer (some ⟨b3, 2, none⟩)), (33, .int .u64 p3.2.2.1), (34, .int .u64 (max p3.2.1 p3.2.2.1)), (35, .int .u64 r20), (36, .agg #[.int .i64 r17.1, .int .i64 r17.2.1, .slice m17.1 r17.2.2.length m17.2]), (37, .pointer (some ⟨b3, 0, none⟩)), (38, .int .u64 p3.1), (39, .pointer (some ⟨b3, 3, none⟩)), (40, .int .u64 p3.2.2.2), (41, .int .u64 (max p3.1 p3.2.2.2)), (42, .pointer (some ⟨b3, 1, none⟩)), (43, .int .u64 p3.2.1), (44, .int .u64 r21), (45, .agg #[.int .i64 r17.1, .int .i64 r17.2.1, .slice m17.1 r17.2.2.length m17.2]), (46, .pointer (some ⟨b3, 0, none⟩)), (47, .int .u64 p3.1), (48, .pointer (some ⟨b3, 3, none⟩)), (49, .int .u64 p3.2.2.2), (50, .int .u64 (min p3.1 p3.2.2.2)), (51, .pointer (some ⟨b3, 1, none⟩)), (52, .int .u64 p3.2.1), (53, .int .u64 r22)], [cells b4 [.int .i64 r17.1, .int .i64 r17.2.1, .slice m17.1 r17.2.2.length m17.2] 31, cells b3 [.int .u64 p3.1, .int .u64 p3.2.1, .int .u64 p3.2.2.1, .int .u64 p3.2.2.2] 49], [slF rp_u64_u64 A1 c1 p2, slF (rSl rp_u64_u64) m17.1 m17.2 r17.2.2, slF (rSl rp_u64_u64) m17.1 m17.2 r17.2.2], []⟩ [0, 1] [0, 1, 2] (sc rfl (sc rfl (sc rfl (sc rfl (sc rfl (sc rfl (sc rfl (sc rfl (sc rfl (sc rfl (sc rfl (sc rfl (sc rfl (sc rfl (sc rfl (sc rfl (sc rfl (sc rfl (sc rfl (sc rfl (sc rfl (sc rfl (sc rfl (sc rfl (sc rfl (sc rfl (sc rfl (sc rfl (sc rfl (sc rfl (sc rfl (sc rfl (sc rfl (sc rfl (sc rfl (sc rfl (sc rfl (sc rfl (sc rfl (sc rfl (sc rfl (sc rfl (sc rfl (sc rfl (sc rfl (sc rfl (sc rfl (sc rfl (sc rfl (sc rfl (sc rfl sn))))))))))))))))))))))))))))))))))))))))))))))))))) (by decide) rfl rfl rfl ?_
  refine Tr.regionD drawn (fun hok => ?_)
  refine TrAny.prom (i := 0) (d := 54) hok (OpVal.plain rfl rfl (v_move rfl rfl)) (by kernel_rfl) rfl (bl rfl) ?_
  clear hok
  intro hok
  refine TrAny.prom (i := 1) (d := 55) hok (OpVal.plain rfl rfl (v_move rfl rfl)) (by kernel_rfl) rfl (bl rfl) ?_
  clear hok
  intro hok
  rcases ifc H with ⟨h22, H⟩ | ⟨h22, H⟩
  · refine TrAny.prom (i := 2) (d := 56) hok (OpVal.yes rfl rfl rfl rfl h22 (v_move rfl rfl)) (by kernel_rfl) rfl (bl rfl) ?_
    clear hok
    intro hok
    refine TrAny.prom (i := 3) (d := 57) hok (OpVal.yes rfl rfl rfl rfl h22 (v_move rfl rfl)) (by kernel_rfl) rfl (bl rfl) ?_
    clear hok
    intro hok
    refine TrAny.prom (i := 4) (d := 58) hok (OpVal.yes rfl rfl rfl rfl h22 (v_arith rfl rfl rfl ar_leq)) (by kernel_rfl) rfl (bl rfl) ?_
    clear hok
    intro hok
    refine TrAny.prom (i := 5) (d := 59) hok (OpVal.plain rfl rfl (v_pick_t rfl rfl h22 rfl)) (by kernel_rfl) rfl (bl rfl) ?_
    clear hok
    intro hok
    refine TrAny.prom (i := 6) (d := 60) hok (OpVal.plain rfl rfl (v_move rfl rfl)) (by kernel_rfl) rfl (bl rfl) ?_
    clear hok
    intro hok
    rcases ifc H with ⟨h23, H⟩ | ⟨h23, H⟩
    · refine TrAny.prom (i := 7) (d := 61) hok (OpVal.yes rfl rfl rfl rfl (bt_dec h23) (v_move rfl rfl)) (by kernel_rfl) rfl (bl rfl) ?_
      clear hok
      intro hok
      refine TrAny.prom (i := 8) (d := 62) hok (OpVal.yes rfl rfl rfl rfl (bt_dec h23) (v_move rfl rfl)) (by kernel_rfl) rfl (bl rfl) ?_
      clear hok
      intro hok
      refine TrAny.prom (i := 9) (d := 63) hok (OpVal.yes rfl rfl rfl rfl (bt_dec h23) (v_arith rfl rfl rfl ar_leq)) (by kernel_rfl) rfl (bl rfl) ?_
      clear hok
      intro hok
      refine TrAny.prom (i := 10) (d := 64) hok (OpVal.plain rfl rfl (v_pick_t rfl rfl (bt_dec h23) rfl)) (by kernel_rfl) rfl (bl rfl) ?_
      clear hok
      intro hok
      refine TrAny.prom (i := 11) (d := 65) hok (OpVal.plain rfl rfl (v_move rfl rfl)) (by kernel_rfl) rfl (bl rfl) ?_
      clear hok
      intro hok
      rcases ifc H with ⟨h24, H⟩ | ⟨h24, H⟩
      · refine TrAny.prom (i := 12) (d := 66) hok (OpVal.yes rfl rfl rfl rfl (bt_dec h24) (v_load (k := 0) rfl rfl rfl ty31 nofun rfl rfl)) (by kernel_rfl) rfl (bl rfl) ?_
        clear hok
        intro hok
        refine TrAny.prom (i := 13) (d := 67) hok (OpVal.yes rfl rfl rfl rfl (bt_dec h24) (v_indexArr rfl ar49 ty23 rfl rfl (by decide) (by decide) rfl)) (by kernel_rfl) rfl (bl rfl) ?_
        clear hok
        intro hok
        refine TrAny.prom (i := 14) (d := 68) hok (OpVal.yes rfl rfl rfl rfl (bt_dec h24) (v_load (k := 1) rfl rfl rfl ty23 (fun _ => rfl) rfl rfl)) (by kernel_rfl) rfl (bl rfl) ?_
        clear hok
        intro hok
        refine TrAny.prom (i := 15) (d := 69) hok (OpVal.yes rfl rfl rfl rfl (bt_dec h24) (v_quo' rfl rfl rfl (by decide) wrap_u64')) (by kernel_rfl) rfl (bl rfl) ?_
        clear hok
        intro hok
        refine TrAny.prom (i := 16) (d := 70) hok (OpVal.yes rfl rfl rfl rfl (bt_dec h24) (v_indexArr rfl ar49 ty23 rfl rfl (by decide) (by decide) rfl)) (by kernel_rfl) rfl (bl rfl) ?_
        clear hok
        intro hok
        refine TrAny.prom (i := 17) (d := 71) hok (OpVal.yes rfl rfl rfl rfl (bt_dec h24) (v_load (k := 1) rfl rfl rfl ty23 (fun _ => rfl) rfl rfl)) (by kernel_rfl) rfl (bl rfl) ?_
        clear hok
        intro hok
        refine TrAny.prom (i := 18) (d := 72) hok (OpVal.yes rfl rfl rfl rfl (bt_dec h24) (v_quo' rfl rfl rfl (by decide) wrap_u64')) (by kernel_rfl) rfl (bl rfl) ?_
        clear hok
        intro hok
        refine TrAny.prom (i := 19) (d := 73) hok (OpVal.yes rfl rfl rfl rfl (bt_dec h24) (v_arith rfl rfl rfl ar_add_u64)) (by kernel_rfl) rfl (bl rfl) ?_
        clear hok
        intro hok
        refine TrAny.prom (i := 21) (d := 75) hok (OpVal.yes rfl rfl rfl rfl (bt_dec h24) (v_load (k := 0) rfl rfl rfl ty31 nofun rfl rfl)) (by kernel_rfl) rfl (bl rfl) ?_
        clear hok
        intro hok
        obtain ⟨r29, hr29, H⟩ := bnd H
        refine TrAny.nextY (j := 20) (by kernel_rfl) hok rfl (by kernel_rfl) rfl rfl rfl (bt_dec h24) (op_call0' (vs := [.agg #[.int .i64 r17.1, .int .i64 r17.2.1, .slice m17.1 r17.2.2.length m17.2], .int .u64 (wu64 (p3.1.tdiv 2)), .int .u64 (wu64 ((wu64 (p3.1.tdiv 2)) + 1))]) (cap := []) [1] rfl rfl (bl rfl) rfl rfl en42 (c_estimate_Of r17 (wu64 (p3.1.tdiv 2)) (wu64 ((wu64 (p3.1.tdiv 2)) + 1)) m17.1 m17.2 r29 hr29) rfl (fun ret M' F' hR29 => ?_))
        obtain ⟨rfl, rfl, rfl⟩ := hR29
        refine nxp hok (kp_imp (kp_c0 rfl)) rfl (by kernel_rfl) ?_
        clear hok
        intro hok
        obtain ⟨r30, hr30, H⟩ := bnd H
        refine TrAny.nextY (j := 22) (by kernel_rfl) hok rfl (by kernel_rfl) rfl rfl rfl (bt_dec h24) (op_call0' (vs := [.agg #[.int .i64 r17.1, .int .i64 r17.2.1, .slice m17.1 r17.2.2.length m17.2]]) (cap := []) [1] rfl rfl (bl rfl) rfl rfl en45 (c_hist_Total r17 m17.1 m17.2 r30 hr30) rfl (fun ret M' F' hR30 => ?_))
        obtain ⟨rfl, rfl, rfl⟩ := hR30
        refine nxp hok (kp_imp (kp_c0 rfl)) rfl (by kernel_rfl) ?_
        clear hok
        intro hok
        refine TrAny.prom (i := 23) (d := 77) hok (OpVal.yes rfl rfl rfl rfl (bt_dec h24) (v_arith rfl rfl rfl ar_eql)) (by kernel_rfl) rfl (bl rfl) ?_
        clear hok
        intro hok
        refine TrAny.prom (i := 24) (d := 78) hok (OpVal.plain rfl rfl (v_pick_t rfl rfl (bt_dec h24) rfl)) (by kernel_rfl) rfl (bl rfl) ?_
        clear hok
        intro hok
        refine TrAny.prom (i := 25) (d := 6) hok (OpVal.plain rfl rfl (v_assign rfl rfl)) (by kernel_rfl) rfl (bl rfl) ?_
        clear hok
        intro hok
        refine TrAny.done (by kernel_rfl) (by kernel_rfl) hok (by kernel_rfl) (qthen_n ?_)
        have hz := Option.some.inj H
        subst hz
        refine Tr.ret (ret_r ⟨[(6, .bool (decide (r29 = r30)))], [], [], []⟩ [.bool (decide (r29 = r30))] [] [] (Imp.re _ [] [] (sc rfl sn) (by decide) rfl rfl rfl) rfl rfl ⟨rfl, rfl, rfl⟩ (.cons (resv_tmp rfl) .nil))
      · refine TrAny.prom (i := 12) (d := 66) hok (OpVal.no rfl (fun c h => by cases h) rfl rfl rfl (gn_t (bf_dec h24))) (by kernel_rfl) rfl (bl rfl) ?_
        clear hok
        intro hok
        refine TrAny.prom (i := 13) (d := 67) hok (OpVal.no rfl (fun c h => by cases h) rfl rfl rfl (gn_t (bf_dec h24))) (by kernel_rfl) rfl (bl rfl) ?_
        clear hok
        intro hok
        refine TrAny.prom (i := 14) (d := 68) hok (OpVal.no rfl (fun c h => by cases h) rfl rfl rfl (gn_t (bf_dec h24))) (by kernel_rfl) rfl (bl rfl) ?_
        clear hok
        intro hok
        refine TrAny.prom (i := 15) (d := 69) hok (OpVal.no rfl (fun c h => by cases h) rfl rfl rfl (gn_t (bf_dec h24))) (by kernel_rfl) rfl (bl rfl) ?_
        clear hok
        intro hok
        refine TrAny.prom (i := 16) (d := 70) hok (OpVal.no rfl (fun c h => by cases h) rfl rfl rfl (gn_t (bf_dec h24))) (by kernel_rfl) rfl (bl rfl) ?_
        clear hok
        intro hok
        refine TrAny.prom (i := 17) (d := 71) hok (OpVal.no rfl (fun c h => by cases h) rfl rfl rfl (gn_t (bf_dec h24))) (by kernel_rfl) rfl (bl rfl) ?_
        clear hok
        intro hok
        refine TrAny.prom (i := 18) (d := 72) hok (OpVal.no rfl (fun c h => by cases h) rfl rfl rfl (gn_t (bf_dec h24))) (by kernel_rfl) rfl (bl rfl) ?_
        clear hok
        intro hok
        refine TrAny.prom (i := 19) (d := 73) hok (OpVal.no rfl (fun c h => by cases h) rfl rfl rfl (gn_t (bf_dec h24))) (by kernel_rfl) rfl (bl rfl) ?_
        clear hok
        intro hok
        refine TrAny.prom (i := 20) (d := 74) hok (OpVal.no rfl (fun c h => by cases h) rfl rfl rfl (gn_t (bf_dec h24))) (by kernel_rfl) rfl (bl rfl) ?_
        clear hok
        intro hok
        refine TrAny.prom (i := 21) (d := 75) hok (OpVal.no rfl (fun c h => by cases h) rfl rfl rfl (gn_t (bf_dec h24))) (by kernel_rfl) rfl (bl rfl) ?_
        clear hok
        intro hok
        refine TrAny.prom (i := 22) (d := 76) hok (OpVal.no rfl (fun c h => by cases h) rfl rfl rfl (gn_t (bf_dec h24))) (by kernel_rfl) rfl (bl rfl) ?_
        clear hok
        intro hok
        refine TrAny.prom (i := 23) (d := 77) hok (OpVal.no rfl (fun c h => by cases h) rfl rfl rfl (gn_t (bf_dec h24))) (by kernel_rfl) rfl (bl rfl) ?_
        clear hok
        intro hok
        refine TrAny.prom (i := 24) (d := 78) hok (OpVal.plain rfl rfl (v_pick_f rfl rfl (bf_dec h24) rfl)) (by kernel_rfl) rfl (bl rfl) ?_
        clear hok
        intro hok
        refine TrAny.prom (i := 25) (d := 6) hok (OpVal.plain rfl rfl (v_assign rfl rfl)) (by kernel_rfl) rfl (bl rfl) ?_
        clear hok
        intro hok
        refine TrAny.done (by kernel_rfl) (by kernel_rfl) hok (by kernel_rfl) (qthen_n ?_)
        have hz := Option.some.inj H
        subst hz
        refine Tr.ret (ret_r ⟨[(6, .bool false)], [], [], []⟩ [.bool false] [] [] (Imp.re _ [] [] (sc rfl sn) (by decide) rfl rfl rfl) rfl rfl ⟨rfl, rfl, rfl⟩ (.cons (resv_tmp rfl) .nil))
    · refine TrAny.prom (i := 7) (d := 61) hok (OpVal.no rfl (fun c h => by cases h) rfl rfl rfl (gn_t (bf_dec h23))) (by kernel_rfl) rfl (bl rfl) ?_
      clear hok
      intro hok
      refine TrAny.prom (i := 8) (d := 62) hok (OpVal.no rfl (fun c h => by cases h) rfl rfl rfl (gn_t (bf_dec h23))) (by kernel_rfl) rfl (bl rfl) ?_
      clear hok
      intro hok
      refine TrAny.prom (i := 9) (d := 63) hok (OpVal.no rfl (fun c h => by cases h) rfl rfl rfl (gn_t (bf_dec h23))) (by kernel_rfl) rfl (bl rfl) ?_
      clear hok
      intro hok
      refine TrAny.prom (i := 10) (d := 64) hok (OpVal.plain rfl rfl (v_pick_f rfl rfl (bf_dec h23) rfl)) (by kernel_rfl) rfl (bl rfl) ?_
      clear hok
      intro hok
      refine TrAny.prom (i := 11) (d := 65) hok (OpVal.plain rfl rfl (v_move rfl rfl)) (by kernel_rfl) rfl (bl rfl) ?_
      clear hok
      intro hok
      refine TrAny.prom (i := 12) (d := 66) hok (OpVal.no rfl (fun c h => by cases h) rfl rfl rfl (gn_t rfl)) (by kernel_rfl) rfl (bl rfl) ?_
      clear hok
      intro hok
      refine TrAny.prom (i := 13) (d := 67) hok (OpVal.no rfl (fun c h => by cases h) rfl rfl rfl (gn_t rfl)) (by kernel_rfl) rfl (bl rfl) ?_
      clear hok
      intro hok
      refine TrAny.prom (i := 14) (d := 68) hok (OpVal.no rfl (fun c h => by cases h) rfl rfl rfl (gn_t rfl)) (by kernel_rfl) rfl (bl rfl) ?_
      clear hok
      intro hok
      refine TrAny.prom (i := 15) (d := 69) hok (OpVal.no rfl (fun c h => by cases h) rfl rfl rfl (gn_t rfl)) (by kernel_rfl) rfl (bl rfl) ?_
      clear hok
      intro hok
      refine TrAny.prom (i := 16) (d := 70) hok (OpVal.no rfl (fun c h => by cases h) rfl rfl rfl (gn_t rfl)) (by kernel_rfl) rfl (bl rfl) ?_
      clear hok
      intro hok
      refine TrAny.prom (i := 17) (d := 71) hok (OpVal.no rfl (fun c h => by cases h) rfl rfl rfl (gn_t rfl)) (by kernel_rfl) rfl (bl rfl) ?_
      clear hok
      intro hok
      refine TrAny.prom (i := 18) (d := 72) hok (OpVal.no rfl (fun c h => by cases h) rfl rfl rfl (gn_t rfl)) (by kernel_rfl) rfl (bl rfl) ?_
      clear hok
      intro hok
      refine TrAny.prom (i := 19) (d := 73) hok (OpVal.no rfl (fun c h => by cases h) rfl rfl rfl (gn_t rfl)) (by kernel_rfl) rfl (bl rfl) ?_
      clear hok
      intro hok
      refine TrAny.prom (i := 20) (d := 74) hok (OpVal.no rfl (fun c h => by cases h) rfl rfl rfl (gn_t rfl)) (by kernel_rfl) rfl (bl rfl) ?_
      clear hok
      intro hok
      refine TrAny.prom (i := 21) (d := 75) hok (OpVal.no rfl (fun c h => by cases h) rfl rfl rfl (gn_t rfl)) (by kernel_rfl) rfl (bl rfl) ?_
      clear hok
      intro hok
      refine TrAny.prom (i := 22) (d := 76) hok (OpVal.no rfl (fun c h => by cases h) rfl rfl rfl (gn_t rfl)) (by kernel_rfl) rfl (bl rfl) ?_
      clear hok
      intro hok
      refine TrAny.prom (i := 23) (d := 77) hok (OpVal.no rfl (fun c h => by cases h) rfl rfl rfl (gn_t rfl)) (by kernel_rfl) rfl (bl rfl) ?_
      clear hok
      intro hok
      refine TrAny.prom (i := 24) (d := 78) hok (OpVal.plain rfl rfl (v_pick_f rfl rfl rfl rfl)) (by kernel_rfl) rfl (bl rfl) ?_
      clear hok
      intro hok
      refine TrAny.prom (i := 25) (d := 6) hok (OpVal.plain rfl rfl (v_assign rfl rfl)) (by kernel_rfl) rfl (bl rfl) ?_
      clear hok
      intro hok
      refine TrAny.done (by kernel_rfl) (by kernel_rfl) hok (by kernel_rfl) (qthen_n ?_)
      have hz := Option.some.inj H
      subst hz
      refine Tr.ret (ret_r ⟨[(6, .bool false)], [], [], []⟩ [.bool false] [] [] (Imp.re _ [] [] (sc rfl sn) (by decide) rfl rfl rfl) rfl rfl ⟨rfl, rfl, rfl⟩ (.cons (resv_tmp rfl) .nil))
  · refine TrAny.prom (i := 2) (d := 56) hok (OpVal.no rfl (fun c h => by cases h) rfl rfl rfl (gn_t (bf_b h22))) (by kernel_rfl) rfl (bl rfl) ?_
    clear hok
    intro hok
    refine TrAny.prom (i := 3) (d := 57) hok (OpVal.no rfl (fun c h => by cases h) rfl rfl rfl (gn_t (bf_b h22))) (by kernel_rfl) rfl (bl rfl) ?_
    clear hok
    intro hok
    refine TrAny.prom (i := 4) (d := 58) hok (OpVal.no rfl (fun c h => by cases h) rfl rfl rfl (gn_t (bf_b h22))) (by kernel_rfl) rfl (bl rfl) ?_
    clear hok
    intro hok
    refine TrAny.prom (i := 5) (d := 59) hok (OpVal.plain rfl rfl (v_pick_f rfl rfl (bf_b h22) rfl)) (by kernel_rfl) rfl (bl rfl) ?_
    clear hok
    intro hok
    refine TrAny.prom (i := 6) (d := 60) hok (OpVal.plain rfl rfl (v_move rfl rfl)) (by kernel_rfl) rfl (bl rfl) ?_
    clear hok
    intro hok
    refine TrAny.prom (i := 7) (d := 61) hok (OpVal.no rfl (fun c h => by cases h) rfl rfl rfl (gn_t rfl)) (by kernel_rfl) rfl (bl rfl) ?_
    clear hok
    intro hok
    refine TrAny.prom (i := 8) (d := 62) hok (OpVal.no rfl (fun c h => by cases h) rfl rfl rfl (gn_t rfl)) (by kernel_rfl) rfl (bl rfl) ?_
    clear hok
    intro hok
    refine TrAny.prom (i := 9) (d := 63) hok (OpVal.no rfl (fun c h => by cases h) rfl rfl rfl (gn_t rfl)) (by kernel_rfl) rfl (bl rfl) ?_
    clear hok
    intro hok
    refine TrAny.prom (i := 10) (d := 64) hok (OpVal.plain rfl rfl (v_pick_f rfl rfl rfl rfl)) (by kernel_rfl) rfl (bl rfl) ?_
    clear hok
    intro hok
    refine TrAny.prom (i := 11) (d := 65) hok (OpVal.plain rfl rfl (v_move rfl rfl)) (by kernel_rfl) rfl (bl rfl) ?_
    clear hok
    intro hok
    refine TrAny.prom (i := 12) (d := 66) hok (OpVal.no rfl (fun c h => by cases h) rfl rfl rfl (gn_t rfl)) (by kernel_rfl) rfl (bl rfl) ?_
    clear hok
    intro hok
    refine TrAny.prom (i := 13) (d := 67) hok (OpVal.no rfl (fun c h => by cases h) rfl rfl rfl (gn_t rfl)) (by kernel_rfl) rfl (bl rfl) ?_
    clear hok
    intro hok
    refine TrAny.prom (i := 14) (d := 68) hok (OpVal.no rfl (fun c h => by cases h) rfl rfl rfl (gn_t rfl)) (by kernel_rfl) rfl (bl rfl) ?_
    clear hok
    intro hok
    refine TrAny.prom (i := 15) (d := 69) hok (OpVal.no rfl (fun c h => by cases h) rfl rfl rfl (gn_t rfl)) (by kernel_rfl) rfl (bl rfl) ?_
    clear hok
    intro hok
    refine TrAny.prom (i := 16) (d := 70) hok (OpVal.no rfl (fun c h => by cases h) rfl rfl rfl (gn_t rfl)) (by kernel_rfl) rfl (bl rfl) ?_
    clear hok
    intro hok
    refine TrAny.prom (i := 17) (d := 71) hok (OpVal.no rfl (fun c h => by cases h) rfl rfl rfl (gn_t rfl)) (by kernel_rfl) rfl (bl rfl) ?_
    clear hok
    intro hok
    refine TrAny.prom (i := 18) (d := 72) hok (OpVal.no rfl (fun c h => by cases h) rfl rfl rfl (gn_t rfl)) (by kernel_rfl) rfl (bl rfl) ?_
    clear hok
    intro hok
    refine TrAny.prom (i := 19) (d := 73) hok (OpVal.no rfl (fun c h => by cases h) rfl rfl rfl (gn_t rfl)) (by kernel_rfl) rfl (bl rfl) ?_
    clear hok
    intro hok
    refine TrAny.prom (i := 20) (d := 74) hok (OpVal.no rfl (fun c h => by cases h) rfl rfl rfl (gn_t rfl)) (by kernel_rfl) rfl (bl rfl) ?_
    clear hok
    intro hok
    refine TrAny.prom (i := 21) (d := 75) hok (OpVal.no rfl (fun c h => by cases h) rfl rfl rfl (gn_t rfl)) (by kernel_rfl) rfl (bl rfl) ?_
    clear hok
    intro hok
    refine TrAny.prom (i := 22) (d := 76) hok (OpVal.no rfl (fun c h => by cases h) rfl rfl rfl (gn_t rfl)) (by kernel_rfl) rfl (bl rfl) ?_
    clear hok
    intro hok
    refine TrAny.prom (i := 23) (d := 77) hok (OpVal.no rfl (fun c h => by cases h) rfl rfl rfl (gn_t rfl)) (by kernel_rfl) rfl (bl rfl) ?_
    clear hok
    intro hok
    refine TrAny.prom (i := 24) (d := 78) hok (OpVal.plain rfl rfl (v_pick_f rfl rfl rfl rfl)) (by kernel_rfl) rfl (bl rfl) ?_
    clear hok
    intro hok
    refine TrAny.prom (i := 25) (d := 6) hok (OpVal.plain rfl rfl (v_assign rfl rfl)) (by kernel_rfl) rfl (bl rfl) ?_
    clear hok
    intro hok
    refine TrAny.done (by kernel_rfl) (by kernel_rfl) hok (by kernel_rfl) (qthen_n ?_)
    have hz := Option.some.inj H
    subst hz
    refine Tr.ret (ret_r ⟨[(6, .bool false)], [], [], []⟩ [.bool false] [] [] (Imp.re _ [] [] (sc rfl sn) (by decide) rfl rfl rfl) rfl rfl ⟨rfl, rfl, rfl⟩ (.cons (resv_tmp rfl) .nil))
end Go.Proofs.Ytbnjjpmlaknaoaa.W
