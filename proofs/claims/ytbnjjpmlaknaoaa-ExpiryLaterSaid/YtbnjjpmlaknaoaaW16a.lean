/- The contracts of the walked functions: the printed walks. -/
import Derived.Test.YtbnjjpmlaknaoaaKa
import Derived.Test.YtbnjjpmlaknaoaaQa
import Derived.Test.YtbnjjpmlaknaoaaWexpiryaa
import Derived.Test.YtbnjjpmlaknaoaaWhistaa
import Derived.Test.YtbnjjpmlaknaoaaWhistba
import Derived.Test.YtbnjjpmlaknaoaaWlaw07aa
import Derived.Test.YtbnjjpmlaknaoaaWlaw07ba
import Derived.Test.YtbnjjpmlaknaoaaWref06ba
namespace Go.Proofs.Ytbnjjpmlaknaoaa.W
open Go Go.Proofs Go.Proofs.Ytbnjjpmlaknaoaa.L Go.Proofs.Ytbnjjpmlaknaoaa.Pu
set_option linter.unusedVariables false
set_option maxHeartbeats 4000000

theorem c_law07_ExpiryLater (p1 : Int) (p2 : List (Int × Int)) (p3 : Int × Int × Int × Int) (A1 : Option Addr) (c1 : Nat) (r : Bool) (H : law07_ExpiryLater p1 p2 p3 = some r) :
    Ctr Try.prog 16 [.int .i64 p1, .slice A1 p2.length c1, .agg #[.int .u64 p3.1, .int .u64 p3.2.1, .int .u64 p3.2.2.1, .int .u64 p3.2.2.2]] [] [slF rp_u64_u64 A1 c1 p2] (fun ret M' F' => ret = .bool r ∧ M' = [] ∧ F' = []) := by
  unfold law07_ExpiryLater at H
  refine ctr_ofI (N := 63) Try.func16 rfl Try.ntmps16 rfl (Nat.le_of_ble_eq_true rfl) (fun γ0 w0 => ?_)
  refine Tr.seq ?_
  refine Tr.region ?_
  refine TrL.cons rfl (op_box' rfl (bl rfl) rfl rfl rfl (fun b6 => ?_))
  refine TrL.v (v_assign rfl rfl) rfl rfl (bl rfl) ?_
  refine TrL.nil (qthen_n ?_)
  refine Tr.seq ?_
  refine Tr.region ?_
  obtain ⟨r19, hr19, H⟩ := bnd H
  refine TrL.cons rfl (op_call0' (vs := []) (cap := []) [] rfl rfl (bl rfl) rfl rfl en29 (c_law07_awake r19 hr19) rfl (fun ret M' F' hR19 => ?_))
  obtain ⟨rfl, rfl, rfl⟩ := hR19
  refine TrL.v (v_assign rfl rfl) rfl rfl (bl rfl) ?_
  refine TrL.nil (qthen_n ?_)
  refine Tr.seq ?_
  refine Tr.region ?_
  refine TrL.v (v_move rfl rfl) rfl rfl (bl rfl) ?_
  refine TrL.v (v_move rfl rfl) rfl rfl (bl rfl) ?_
  obtain ⟨r20, hr20, H⟩ := bnd H
  refine TrL.cons rfl (op_call0' (vs := [.int .i64 p1, .slice A1 p2.length c1]) (cap := []) [0] rfl rfl (bl rfl) rfl rfl en30 (c_ref06_Made p1 p2 A1 c1 r20 hr20) rfl (fun ret M' F' hR20 => ?_))
  obtain ⟨m20, rfl, rfl, rfl⟩ := hR20
  obtain ⟨r21, hr21, H⟩ := bnd H
  refine TrL.cons rfl (op_call0' (vs := [.agg #[.int .i64 r20.1, .int .i64 r20.2.1, .slice m20.1 r20.2.2.length m20.2]]) (cap := []) [1] rfl rfl (bl rfl) rfl rfl en33 (c_law07_made r20 m20.1 m20.2 r21 hr21) rfl (fun ret M' F' hR21 => ?_))
  obtain ⟨rfl, rfl, rfl⟩ := hR21
  refine TrL.cons rfl (op_alloc' rfl (bl rfl) rfl ze31 (fun b7 => ?_))
  refine TrL.cons rfl (op_store' (k := 0) (c' := [.int .i64 r20.1, .int .i64 r20.2.1, .slice m20.1 r20.2.2.length m20.2]) rfl rfl rfl rfl rfl ty31 rfl (Nat.le_of_ble_eq_true rfl) (ones (oc rfl (oc rfl (oc rfl on)))) rfl ?_)
  refine TrL.nil (qthen_n ?_)
  refine Tr.seq ?_
  refine Tr.region ?_
  refine TrL.v (v_load (k := 0) rfl rfl rfl ty31 nofun rfl rfl) rfl rfl (bl rfl) ?_
  refine TrL.v (v_indexArr rfl ar49 ty23 rfl rfl (by decide) (by decide) rfl) rfl rfl (bl rfl) ?_
  refine TrL.v (v_load (k := 1) rfl rfl rfl ty23 (fun _ => rfl) rfl rfl) rfl rfl (bl rfl) ?_
  refine TrL.v (v_indexArr rfl ar49 ty23 rfl rfl (by decide) (by decide) rfl) rfl rfl (bl rfl) ?_
  refine TrL.v (v_load (k := 1) rfl rfl rfl ty23 (fun _ => rfl) rfl rfl) rfl rfl (bl rfl) ?_
  refine TrL.v (v_max rfl rfl rfl) rfl rfl (bl rfl) ?_
  refine TrL.v (v_indexArr rfl ar49 ty23 rfl rfl (by decide) (by decide) rfl) rfl rfl (bl rfl) ?_
  refine TrL.v (v_load (k := 1) rfl rfl rfl ty23 (fun _ => rfl) rfl rfl) rfl rfl (bl rfl) ?_
  refine TrL.v (v_indexArr rfl ar49 ty23 rfl rfl (by decide) (by decide) rfl) rfl rfl (bl rfl) ?_
  refine TrL.v (v_load (k := 1) rfl rfl rfl ty23 (fun _ => rfl) rfl rfl) rfl rfl (bl rfl) ?_
  refine TrL.v (v_min rfl rfl rfl) rfl rfl (bl rfl) ?_
  obtain ⟨r22, hr22, H⟩ := bnd H
  refine TrL.cons rfl (op_call0' (vs := [.agg #[.int .i64 r20.1, .int .i64 r20.2.1, .slice m20.1 r20.2.2.length m20.2], .int .u64 (max p3.1 p3.2.1), .int .u64 (min p3.2.2.1 p3.2.2.2)]) (cap := []) [1] rfl rfl (bl rfl) rfl rfl en32 (c_expiry_Drop r20 (max p3.1 p3.2.1) (min p3.2.2.1 p3.2.2.2) m20.1 m20.2 r22 hr22) rfl (fun ret M' F' hR22 => ?_))
  obtain ⟨m22, rfl, rfl, rfl⟩ := hR22
  refine TrL.cons rfl (op_alloc' rfl (bl rfl) rfl ze31 (fun b8 => ?_))
  refine TrL.cons rfl (op_store' (k := 0) (c' := [.int .i64 r20.1, .int .i64 r20.2.1, .slice m22.1 r22.length m22.2]) rfl rfl rfl rfl rfl ty31 rfl (Nat.le_of_ble_eq_true rfl) (ones (oc rfl (oc rfl (oc rfl on)))) rfl ?_)
  refine TrL.nil (qthen_n ?_)
  refine Tr.seq ?_
  refine Tr.region ?_
  refine TrL.v (v_load (k := 1) rfl rfl rfl ty31 nofun rfl rfl) rfl rfl (bl rfl) ?_
  refine TrL.v (v_indexArr rfl ar49 ty23 rfl rfl (by decide) (by decide) rfl) rfl rfl (bl rfl) ?_
  refine TrL.v (v_load (k := 2) rfl rfl rfl ty23 (fun _ => rfl) rfl rfl) rfl rfl (bl rfl) ?_
  refine TrL.v (v_indexArr rfl ar49 ty23 rfl rfl (by decide) (by decide) rfl) rfl rfl (bl rfl) ?_
  refine TrL.v (v_load (k := 2) rfl rfl rfl ty23 (fun _ => rfl) rfl rfl) rfl rfl (bl rfl) ?_
  refine TrL.v (v_min rfl rfl rfl) rfl rfl (bl rfl) ?_
  refine TrL.v (v_indexArr rfl ar49 ty23 rfl rfl (by decide) (by decide) rfl) rfl rfl (bl rfl) ?_
  refine TrL.v (v_load (k := 2) rfl rfl rfl ty23 (fun _ => rfl) rfl rfl) rfl rfl (bl rfl) ?_
  refine TrL.v (v_indexArr rfl ar49 ty23 rfl rfl (by decide) (by decide) rfl) rfl rfl (bl rfl) ?_
  refine TrL.v (v_load (k := 2) rfl rfl rfl ty23 (fun _ => rfl) rfl rfl) rfl rfl (bl rfl) ?_
  refine TrL.v (v_max rfl rfl rfl) rfl rfl (bl rfl) ?_
  obtain ⟨r23, hr23, H⟩ := bnd H
  refine TrL.cons rfl (op_call0' (vs := [.agg #[.int .i64 r20.1, .int .i64 r20.2.1, .slice m20.1 r20.2.2.length m20.2], .int .u64 (min p3.1 p3.2.1), .int .u64 (max p3.2.2.1 p3.2.2.2)]) (cap := []) [1] rfl rfl (bl rfl) rfl rfl en32 (c_expiry_Drop r20 (min p3.1 p3.2.1) (max p3.2.2.1 p3.2.2.2) m20.1 m20.2 r23 hr23) rfl (fun ret M' F' hR23 => ?_))
  obtain ⟨m23, rfl, rfl, rfl⟩ := hR23
  refine TrL.cons rfl (op_alloc' rfl (bl rfl) rfl ze31 (fun b9 => ?_))
  refine TrL.cons rfl (op_store' (k := 0) (c' := [.int .i64 r20.1, .int .i64 r20.2.1, .slice m23.1 r23.length m23.2]) rfl rfl rfl rfl rfl ty31 rfl (Nat.le_of_ble_eq_true rfl) (ones (oc rfl (oc rfl (oc rfl on)))) rfl ?_)
  refine TrL.nil (qthen_n ?_)
  refine Tr.seq ?_
  refine Tr.region ?_
  refine TrL.v (v_load (k := 2) rfl rfl rfl ty31 nofun rfl rfl) rfl rfl (bl rfl) ?_
  refine TrL.v (v_indexArr rfl ar49 ty23 rfl rfl (by decide) (by decide) rfl) rfl rfl (bl rfl) ?_
  refine TrL.v (v_load (k := 3) rfl rfl rfl ty23 (fun _ => rfl) rfl rfl) rfl rfl (bl rfl) ?_
  refine TrL.v (v_quo' rfl rfl rfl (by decide) wrap_u64') rfl rfl (bl rfl) ?_
  refine TrL.v (v_indexArr rfl ar49 ty23 rfl rfl (by decide) (by decide) rfl) rfl rfl (bl rfl) ?_
  refine TrL.v (v_load (k := 3) rfl rfl rfl ty23 (fun _ => rfl) rfl rfl) rfl rfl (bl rfl) ?_
  refine TrL.v (v_quo' rfl rfl rfl (by decide) wrap_u64') rfl rfl (bl rfl) ?_
  refine TrL.v (v_arith rfl rfl rfl ar_add_u64) rfl rfl (bl rfl) ?_
  obtain ⟨r24, hr24, H⟩ := bnd H
  refine TrL.cons rfl (op_call0' (vs := [.agg #[.int .i64 r20.1, .int .i64 r20.2.1, .slice m20.1 r20.2.2.length m20.2], .int .u64 (wu64 (p3.1.tdiv 2)), .int .u64 (wu64 ((wu64 (p3.1.tdiv 2)) + 1))]) (cap := []) [1] rfl rfl (bl rfl) rfl rfl en32 (c_expiry_Drop r20 (wu64 (p3.1.tdiv 2)) (wu64 ((wu64 (p3.1.tdiv 2)) + 1)) m20.1 m20.2 r24 hr24) rfl (fun ret M' F' hR24 => ?_))
  obtain ⟨m24, rfl, rfl, rfl⟩ := hR24
  refine TrL.cons rfl (op_alloc' rfl (bl rfl) rfl ze31 (fun b10 => ?_))
  refine TrL.cons rfl (op_store' (k := 0) (c' := [.int .i64 r20.1, .int .i64 r20.2.1, .slice m24.1 r24.length m24.2]) rfl rfl rfl rfl rfl ty31 rfl (Nat.le_of_ble_eq_true rfl) (ones (oc rfl (oc rfl (oc rfl on)))) rfl ?_)
  refine TrL.nil (qthen_n ?_)
  refine Tr.seq ?_
  refine Tr.re ⟨[(0, .int .i64 p1), (1, .slice A1 p2.length c1), (2, .agg #[.int .u64 p3.1, .int .u64 p3.2.1, .int .u64 p3.2.2.1, .int .u64 p3.2.2.2]), (5, .pointer (some ⟨b6, 0, none⟩)), (7, .bool r19), (8, .pointer (some ⟨b7, 0, none⟩)), (9, .pointer (some ⟨b8, 0, none⟩)), (10, .pointer (some ⟨b9, 0, none⟩)), (11, .pointer (some ⟨b10, 0, none⟩)), (12, .bool r19), (13, .int .i64 p1), (14, .slice A1 p2.length c1), (15, .agg #[.int .i64 r20.1, .int .i64 r20.2.1, .slice m20.1 r20.2.2.length m20.2]), (16, .agg #[.int .i64 r20.1, .int .i64 r20.2.1, .slice m20.1 r20.2.2.length m20.2]), (17, .agg #[.int .i64 r20.1, .int .i64 r20.2.1, .slice m20.1 r20.2.2.length m20.2]), (18, .pointer (some ⟨b6, 0, none⟩)), (19, .int .u64 p3.1), (20, .pointer (some ⟨b6, 1, none⟩)), (21, .int .u64 p3.2.1), (22, .int .u64 (max p3.1 p3.2.1)), (23, .pointer (some ⟨b6, 2, none⟩)), (24, .int .u64 p3.2.2.1), (25, .pointer (some ⟨b6, 3, none⟩)), (26, .int .u64 p3.2.2.2), (27, .int .u64 (min p3.2.2.1 p3.2.2.2)), (28, .agg #[.int .i64 r20.1, .int .i64 r20.2.1, .slice m22.1 r22.length m22.2]), (29, .agg #[.int .i64 r20.1, .int .i64 r20.2.1, .slice m20.1 r20.2.2.length m20.2]), (30, .pointer (some ⟨b6, 0, none⟩)), (31, .int .u64 p3.1), (32, .pointer (some ⟨b6, 1, none⟩)), (33, .int .u64 p3.2.1), (34, .int .u64 (min p3.1 p3.2.1)), (35, .pointer (some ⟨b6, 2, none⟩)), (36, .int .u64 p3.2.2.1), (37, .pointer (some ⟨b6, 3, none⟩)), (38, .int .u64 p3.2.2.2), (39, .int .u64 (max p3.2.2.1 p3.2.2.2)), (40, .agg #[.int .i64 r20.1, .int .i64 r20.2.1, .slice m23.1 r23.length m23.2]), (41, .agg #[.int .i64 r20.1, .int .i64 r20.2.1, .slice m20.1 r20.2.2.length m20.2]), (42, .pointer (some ⟨b6, 0, none⟩)), (43, .int .u64 p3.1), (44, .int .u64 (wu64 (p3.1.tdiv 2))), (45, .pointer (some ⟨b6, 0, none⟩)), (46, .int .u64 p3.1), (47, .int .u64 (wu64 (p3.1.tdiv 2))), (48, .int .u64 (wu64 ((wu64 (p3.1.tdiv 2)) + 1))), (49, .agg #[.int .i64 r20.1, .int .i64 r20.2.1, .slice m24.1 r24.length m24.2])], [cells b10 [.int .i64 r20.1, .int .i64 r20.2.1, .slice m24.1 r24.length m24.2] 31, cells b9 [.int .i64 r20.1, .int .i64 r20.2.1, .slice m23.1 r23.length m23.2] 31, cells b8 [.int .i64 r20.1, .int .i64 r20.2.1, .slice m22.1 r22.length m22.2] 31, cells b7 [.int .i64 r20.1, .int .i64 r20.2.1, .slice m20.1 r20.2.2.length m20.2] 31, cells b6 [.int .u64 p3.1, .int .u64 p3.2.1, .int .u64 p3.2.2.1, .int .u64 p3.2.2.2] 49], [slF rp_u64_u64 A1 c1 p2, slF (rSl rp_u64_u64) m20.1 m20.2 r20.2.2, slF (rSl rp_u64_u64) m20.1 m20.2 r20.2.2, slF (rSl rp_u64_u64) m22.1 m22.2 r22, slF (rSl rp_u64_u64) m23.1 m23.2 r23, slF (rSl rp_u64_u64) m24.1 m24.2 r24], []⟩ [0, 1, 2, 3, 4] [0, 1, 2, 3, 4, 5] (sc rfl (sc rfl (sc rfl (sc rfl (sc rfl (sc rfl (sc rfl (sc rfl (sc rfl (sc rfl (sc rfl (sc rfl (sc rfl (sc rfl (sc rfl (sc rfl (sc rfl (sc rfl (sc rfl (sc rfl (sc rfl (sc rfl (sc rfl (sc rfl (sc rfl (sc rfl (sc rfl (sc rfl (sc rfl (sc rfl (sc rfl (sc rfl (sc rfl (sc rfl (sc rfl (sc rfl (sc rfl (sc rfl (sc rfl (sc rfl (sc rfl (sc rfl (sc rfl (sc rfl (sc rfl (sc rfl (sc rfl sn))))))))))))))))))))))))))))))))))))))))))))))) (by decide) rfl rfl rfl ?_
  refine Tr.regionD drawn (fun hok => ?_)
  refine TrAny.prom (i := 0) (d := 50) hok (OpVal.plain rfl rfl (v_move rfl rfl)) (by kernel_rfl) rfl (bl rfl) ?_
  clear hok
  intro hok
  refine TrAny.prom (i := 1) (d := 51) hok (OpVal.plain rfl rfl (v_move rfl rfl)) (by kernel_rfl) rfl (bl rfl) ?_
  clear hok
  intro hok
  rcases ifc H with ⟨h15, H⟩ | ⟨h15, H⟩
  · refine TrAny.prom (i := 2) (d := 52) hok (OpVal.yes rfl rfl rfl rfl h15 (v_load (k := 2) rfl rfl rfl ty31 nofun rfl rfl)) (by kernel_rfl) rfl (bl rfl) ?_
    clear hok
    intro hok
    refine TrAny.prom (i := 4) (d := 54) hok (OpVal.yes rfl rfl rfl rfl h15 (v_load (k := 1) rfl rfl rfl ty31 nofun rfl rfl)) (by kernel_rfl) rfl (bl rfl) ?_
    clear hok
    intro hok
    obtain ⟨r34, hr34, H⟩ := bnd H
    refine TrAny.nextY (j := 3) (by kernel_rfl) hok rfl (by kernel_rfl) rfl rfl rfl h15 (op_call0' (vs := [.agg #[.int .i64 r20.1, .int .i64 r20.2.1, .slice m22.1 r22.length m22.2]]) (cap := []) [3] rfl rfl (bl rfl) rfl rfl en45 (c_hist_Total ((r20.1, r20.2.1, r22)) m22.1 m22.2 r34 hr34) rfl (fun ret M' F' hR34 => ?_))
    obtain ⟨rfl, rfl, rfl⟩ := hR34
    refine nxp hok (kp_imp (kp_c0 rfl)) rfl (by kernel_rfl) ?_
    clear hok
    intro hok
    obtain ⟨r35, hr35, H⟩ := bnd H
    refine TrAny.nextY (j := 5) (by kernel_rfl) hok rfl (by kernel_rfl) rfl rfl rfl h15 (op_call0' (vs := [.agg #[.int .i64 r20.1, .int .i64 r20.2.1, .slice m23.1 r23.length m23.2]]) (cap := []) [4] rfl rfl (bl rfl) rfl rfl en45 (c_hist_Total ((r20.1, r20.2.1, r23)) m23.1 m23.2 r35 hr35) rfl (fun ret M' F' hR35 => ?_))
    obtain ⟨rfl, rfl, rfl⟩ := hR35
    refine nxp hok (kp_imp (kp_c0 rfl)) rfl (by kernel_rfl) ?_
    clear hok
    intro hok
    refine TrAny.prom (i := 6) (d := 56) hok (OpVal.yes rfl rfl rfl rfl h15 (v_arith rfl rfl rfl ar_leq)) (by kernel_rfl) rfl (bl rfl) ?_
    clear hok
    intro hok
    refine TrAny.prom (i := 7) (d := 57) hok (OpVal.plain rfl rfl (v_pick_t rfl rfl h15 rfl)) (by kernel_rfl) rfl (bl rfl) ?_
    clear hok
    intro hok
    refine TrAny.prom (i := 8) (d := 58) hok (OpVal.plain rfl rfl (v_move rfl rfl)) (by kernel_rfl) rfl (bl rfl) ?_
    clear hok
    intro hok
    rcases ifc H with ⟨h16, H⟩ | ⟨h16, H⟩
    · refine TrAny.prom (i := 9) (d := 59) hok (OpVal.yes rfl rfl rfl rfl (bt_dec h16) (v_load (k := 0) rfl rfl rfl ty31 nofun rfl rfl)) (by kernel_rfl) rfl (bl rfl) ?_
      clear hok
      intro hok
      refine TrAny.prom (i := 10) (d := 60) hok (OpVal.yes rfl rfl rfl rfl (bt_dec h16) (v_load (k := 3) rfl rfl rfl ty31 nofun rfl rfl)) (by kernel_rfl) rfl (bl rfl) ?_
      clear hok
      intro hok
      obtain ⟨r36, hr36, H⟩ := bnd H
      refine TrAny.nextY (j := 11) (by kernel_rfl) hok rfl (by kernel_rfl) rfl rfl rfl (bt_dec h16) (op_call0' (vs := [.agg #[.int .i64 r20.1, .int .i64 r20.2.1, .slice m24.1 r24.length m24.2], .agg #[.int .i64 r20.1, .int .i64 r20.2.1, .slice m20.1 r20.2.2.length m20.2]]) (cap := []) [5, 1] rfl rfl (bl rfl) rfl rfl en56 (c_hist_Same ((r20.1, r20.2.1, r24)) r20 m24.1 m24.2 m20.1 m20.2 r36 hr36) rfl (fun ret M' F' hR36 => ?_))
      obtain ⟨rfl, rfl, rfl⟩ := hR36
      refine nxp hok (kp_imp (kp_c0 rfl)) rfl (by kernel_rfl) ?_
      clear hok
      intro hok
      refine TrAny.prom (i := 12) (d := 62) hok (OpVal.plain rfl rfl (v_pick_t rfl rfl (bt_dec h16) rfl)) (by kernel_rfl) rfl (bl rfl) ?_
      clear hok
      intro hok
      refine TrAny.prom (i := 13) (d := 6) hok (OpVal.plain rfl rfl (v_assign rfl rfl)) (by kernel_rfl) rfl (bl rfl) ?_
      clear hok
      intro hok
      refine TrAny.done (by kernel_rfl) (by kernel_rfl) hok (by kernel_rfl) (qthen_n ?_)
      have hz := Option.some.inj H
      subst hz
      refine Tr.ret (ret_r ⟨[(6, .bool r36)], [], [], []⟩ [.bool r36] [] [] (Imp.re _ [] [] (sc rfl sn) (by decide) rfl rfl rfl) rfl rfl ⟨rfl, rfl, rfl⟩ (.cons (resv_tmp rfl) .nil))
    · refine TrAny.prom (i := 9) (d := 59) hok (OpVal.no rfl (fun c h => by cases h) rfl rfl rfl (gn_t (bf_dec h16))) (by kernel_rfl) rfl (bl rfl) ?_
      clear hok
      intro hok
      refine TrAny.prom (i := 10) (d := 60) hok (OpVal.no rfl (fun c h => by cases h) rfl rfl rfl (gn_t (bf_dec h16))) (by kernel_rfl) rfl (bl rfl) ?_
      clear hok
      intro hok
      refine TrAny.prom (i := 11) (d := 61) hok (OpVal.no rfl (fun c h => by cases h) rfl rfl rfl (gn_t (bf_dec h16))) (by kernel_rfl) rfl (bl rfl) ?_
      clear hok
      intro hok
      refine TrAny.prom (i := 12) (d := 62) hok (OpVal.plain rfl rfl (v_pick_f rfl rfl (bf_dec h16) rfl)) (by kernel_rfl) rfl (bl rfl) ?_
      clear hok
      intro hok
      refine TrAny.prom (i := 13) (d := 6) hok (OpVal.plain rfl rfl (v_assign rfl rfl)) (by kernel_rfl) rfl (bl rfl) ?_
      clear hok
      intro hok
      refine TrAny.done (by kernel_rfl) (by kernel_rfl) hok (by kernel_rfl) (qthen_n ?_)
      have hz := Option.some.inj H
      subst hz
      refine Tr.ret (ret_r ⟨[(6, .bool false)], [], [], []⟩ [.bool false] [] [] (Imp.re _ [] [] (sc rfl sn) (by decide) rfl rfl rfl) rfl rfl ⟨rfl, rfl, rfl⟩ (.cons (resv_tmp rfl) .nil))
  · refine TrAny.prom (i := 2) (d := 52) hok (OpVal.no rfl (fun c h => by cases h) rfl rfl rfl (gn_t (bf_b h15))) (by kernel_rfl) rfl (bl rfl) ?_
    clear hok
    intro hok
    refine TrAny.prom (i := 3) (d := 53) hok (OpVal.no rfl (fun c h => by cases h) rfl rfl rfl (gn_t (bf_b h15))) (by kernel_rfl) rfl (bl rfl) ?_
    clear hok
    intro hok
    refine TrAny.prom (i := 4) (d := 54) hok (OpVal.no rfl (fun c h => by cases h) rfl rfl rfl (gn_t (bf_b h15))) (by kernel_rfl) rfl (bl rfl) ?_
    clear hok
    intro hok
    refine TrAny.prom (i := 5) (d := 55) hok (OpVal.no rfl (fun c h => by cases h) rfl rfl rfl (gn_t (bf_b h15))) (by kernel_rfl) rfl (bl rfl) ?_
    clear hok
    intro hok
    refine TrAny.prom (i := 6) (d := 56) hok (OpVal.no rfl (fun c h => by cases h) rfl rfl rfl (gn_t (bf_b h15))) (by kernel_rfl) rfl (bl rfl) ?_
    clear hok
    intro hok
    refine TrAny.prom (i := 7) (d := 57) hok (OpVal.plain rfl rfl (v_pick_f rfl rfl (bf_b h15) rfl)) (by kernel_rfl) rfl (bl rfl) ?_
    clear hok
    intro hok
    refine TrAny.prom (i := 8) (d := 58) hok (OpVal.plain rfl rfl (v_move rfl rfl)) (by kernel_rfl) rfl (bl rfl) ?_
    clear hok
    intro hok
    refine TrAny.prom (i := 9) (d := 59) hok (OpVal.no rfl (fun c h => by cases h) rfl rfl rfl (gn_t rfl)) (by kernel_rfl) rfl (bl rfl) ?_
    clear hok
    intro hok
    refine TrAny.prom (i := 10) (d := 60) hok (OpVal.no rfl (fun c h => by cases h) rfl rfl rfl (gn_t rfl)) (by kernel_rfl) rfl (bl rfl) ?_
    clear hok
    intro hok
    refine TrAny.prom (i := 11) (d := 61) hok (OpVal.no rfl (fun c h => by cases h) rfl rfl rfl (gn_t rfl)) (by kernel_rfl) rfl (bl rfl) ?_
    clear hok
    intro hok
    refine TrAny.prom (i := 12) (d := 62) hok (OpVal.plain rfl rfl (v_pick_f rfl rfl rfl rfl)) (by kernel_rfl) rfl (bl rfl) ?_
    clear hok
    intro hok
    refine TrAny.prom (i := 13) (d := 6) hok (OpVal.plain rfl rfl (v_assign rfl rfl)) (by kernel_rfl) rfl (bl rfl) ?_
    clear hok
    intro hok
    refine TrAny.done (by kernel_rfl) (by kernel_rfl) hok (by kernel_rfl) (qthen_n ?_)
    have hz := Option.some.inj H
    subst hz
    refine Tr.ret (ret_r ⟨[(6, .bool false)], [], [], []⟩ [.bool false] [] [] (Imp.re _ [] [] (sc rfl sn) (by decide) rfl rfl rfl) rfl rfl ⟨rfl, rfl, rfl⟩ (.cons (resv_tmp rfl) .nil))
end Go.Proofs.Ytbnjjpmlaknaoaa.W
