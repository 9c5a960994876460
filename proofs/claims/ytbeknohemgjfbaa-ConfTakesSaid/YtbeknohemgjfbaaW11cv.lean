import Derived.Test.YtbeknohemgjfbaaKcv
import Derived.Test.YtbeknohemgjfbaaQcv
import Derived.Test.YtbeknohemgjfbaaWcodecacv
import Derived.Test.YtbeknohemgjfbaaWconfgcv
import Derived.Test.YtbeknohemgjfbaaWlaw21acv
import Derived.Test.YtbeknohemgjfbaaWref21ccv
import Derived.Test.YtbeknohemgjfbaaWref21dcv
namespace Go.Proofs.Ytbeknohemgjfbaa.W
open Go Go.Proofs Go.Proofs.Ytbeknohemgjfbaa.L Go.Proofs.Ytbeknohemgjfbaa.Pu
set_option linter.unusedVariables false
set_option maxHeartbeats 4000000

theorem c_law21_ConfTakes (p1 : List Int) (A1 : Option Addr) (c1 : Nat) (r : Bool) (H : law21_ConfTakes p1 = some r) :
  Ctr Try.prog 11 [.slice A1 p1.length c1] [] [slF (rInt .u8) A1 c1 p1] (fun ret M' F' => ret = .bool r ∧ M' = [] ∧ F' = []) := by
 unfold law21_ConfTakes at H
 refine ctr_ofI (N := 44) Try.func11 rfl Try.ntmps11 rfl (Nat.le_of_ble_eq_true rfl) (fun γ0 w0 => ?_)
 refine Tr.seq ?_
 refine Tr.region ?_
 refine TrL.v (v_assign rfl rfl) rfl rfl (bl rfl) ?_
 refine TrL.nil (qthen_n ?_)
 refine Tr.seq ?_
 refine Tr.region ?_
 obtain ⟨r17, hr17, H⟩ := bnd H
 refine TrL.cons rfl (op_call0' (vs := []) (cap := []) [] rfl rfl (bl rfl) rfl rfl en46 (c_law21_awake r17 hr17) rfl (fun ret M' F' hR17 => ?_))
 obtain ⟨rfl, rfl, rfl⟩ := hR17
 refine TrL.v (v_assign rfl rfl) rfl rfl (bl rfl) ?_
 refine TrL.nil (qthen_n ?_)
 refine Tr.seq ?_
 refine Tr.seq ?_
 refine Tr.region ?_
 refine TrL.v (v_move rfl rfl) rfl rfl (bl rfl) ?_
 refine TrL.v (v_len rfl sl40 rfl) rfl rfl (bl rfl) ?_
 refine TrL.v (v_arith rfl rfl rfl ar_gtr) rfl rfl (bl rfl) ?_
 refine TrL.nil (qthen_n ?_)
 rcases ifc H with ⟨h14, H⟩ | ⟨h14, H⟩
 ·refine Tr.cond_t rfl (bt_dec h14) ?_
  refine Tr.seq ?_
  refine Tr.region ?_
  refine TrL.v (v_move rfl rfl) rfl rfl (bl rfl) ?_
  refine TrL.v (v_assign rfl rfl) rfl rfl (bl rfl) ?_
  refine TrL.nil (qthen_n ?_)
  have hz := Option.some.inj H
  subst hz
  refine Tr.ret (qthen_r (ret_r ⟨[(2, .bool r17)], [], [], []⟩ [.bool r17] [] [] (Imp.re _ [] [] (sc rfl sn) (by decide) rfl rfl rfl) rfl rfl ⟨rfl, rfl, rfl⟩ (.cons (resv_tmp rfl) .nil)))
 ·refine Tr.cond_f rfl (bf_dec h14) ?_
  refine Tr.skip (qthen_n ?_)
  refine Tr.seq ?_
  refine Tr.region ?_
  refine TrL.v (v_move rfl rfl) rfl rfl (bl rfl) ?_
  obtain ⟨r18, hr18, H⟩ := bnd H
  refine TrL.cons rfl (op_call0' (vs := [.slice A1 p1.length c1]) (cap := []) [0] rfl rfl (bl rfl) rfl rfl en27 (c_codec_New p1 A1 c1 r18 hr18) rfl (fun ret M' F' hR18 => ?_))
  obtain ⟨m18, rfl, rfl, rfl⟩ := hR18
  refine TrL.v (v_assign rfl rfl) rfl rfl (bl rfl) ?_
  refine TrL.nil (qthen_n ?_)
  refine Tr.seq ?_
  refine Tr.region ?_
  refine TrL.v (v_move rfl rfl) rfl rfl (bl rfl) ?_
  obtain ⟨r19, hr19, H⟩ := bnd H
  refine TrL.cons rfl (op_callg' (fs := []) (vs := [.pointer (some ⟨m18, 0, none⟩)]) (cap := []) (Mr := []) [0] [] [1] rfl rfl rfl en51 (c_conf_Take ((p1.take ((p1.length : Int)).toNat, (0 : Int))) m18 (slA A1 0 ((p1.length : Int)).toNat 1) (((p1.length : Int)).toNat) r19 hr19) (by decide) rfl rfl rfl (bl rfl) (fun ret M' F' hR19 => ?_))
  obtain ⟨m19, rfl, rfl, rfl⟩ := hR19
  refine TrL.cons rfl (op_alloc' rfl (bl rfl) rfl ze91 (fun b4 => ?_))
  refine TrL.cons rfl (op_store' (k := 0) (c' := [.int .i64 r19.1, .int .i64 r19.2.1, .int .u64 r19.2.2.1, .int .u64 r19.2.2.2.1, .int .i64 r19.2.2.2.2.1, .int .i64 r19.2.2.2.2.2.1, .slice m19.1 r19.2.2.2.2.2.2.1.length m19.2.1, .int .i64 r19.2.2.2.2.2.2.2.1, .int .i64 r19.2.2.2.2.2.2.2.2.1]) rfl rfl rfl rfl rfl ty91 rfl (Nat.le_of_ble_eq_true rfl) (ones (oc rfl (oc rfl (oc rfl (oc rfl (oc rfl (oc rfl (oc rfl (oc rfl (oc rfl on)))))))))) rfl ?_)
  refine TrL.nil (qthen_n ?_)
  refine Tr.seq ?_
  refine Tr.region ?_
  refine TrL.v (v_move rfl rfl) rfl rfl (bl rfl) ?_
  refine TrL.v (v_build (vs := [.slice A1 p1.length c1]) (out := [.slice A1 p1.length c1, .int .i64 0]) rfl pl51 ze51 rfl rfl) rfl rfl (bl rfl) ?_
  obtain ⟨r20, hr20, H⟩ := bnd H
  refine TrL.cons rfl (op_call0' (vs := [.agg #[.slice A1 p1.length c1, .int .i64 0]]) (cap := []) [0] rfl rfl (bl rfl) rfl rfl en52 (c_ref21_Take ((p1, (0 : Int))) A1 c1 r20 hr20) rfl (fun ret M' F' hR20 => ?_))
  obtain ⟨m20, rfl, rfl, rfl⟩ := hR20
  refine TrL.v (v_move rfl rfl) rfl rfl (bl rfl) ?_
  refine TrL.v (v_extract rfl rfl rfl) rfl rfl (bl rfl) ?_
  refine TrL.v (v_extract rfl rfl rfl) rfl rfl (bl rfl) ?_
  refine TrL.cons rfl (op_alloc' rfl (bl rfl) rfl ze51 (fun b5 => ?_))
  refine TrL.cons rfl (op_alloc' rfl (bl rfl) rfl ze91 (fun b6 => ?_))
  refine TrL.cons rfl (op_store' (k := 1) (c' := [.slice m20.1 r20.1.length m20.2.1, .int .i64 r20.2.1]) rfl rfl rfl rfl rfl ty51 rfl (Nat.le_of_ble_eq_true rfl) (ones (oc rfl (oc rfl on))) rfl ?_)
  refine TrL.cons rfl (op_store' (k := 0) (c' := [.int .i64 r20.2.2.1, .int .i64 r20.2.2.2.1, .int .u64 r20.2.2.2.2.1, .int .u64 r20.2.2.2.2.2.1, .int .i64 r20.2.2.2.2.2.2.1, .int .i64 r20.2.2.2.2.2.2.2.1, .slice m20.2.2.1 r20.2.2.2.2.2.2.2.2.1.length m20.2.2.2, .int .i64 r20.2.2.2.2.2.2.2.2.2.1, .int .i64 r20.2.2.2.2.2.2.2.2.2.2]) rfl rfl rfl rfl rfl ty91 rfl (Nat.le_of_ble_eq_true rfl) (ones (oc rfl (oc rfl (oc rfl (oc rfl (oc rfl (oc rfl (oc rfl (oc rfl (oc rfl on)))))))))) rfl ?_)
  refine TrL.nil (qthen_n ?_)
  refine Tr.seq ?_
  refine Tr.re ⟨[(0, .slice A1 p1.length c1), (3, .bool r17), (4, .pointer (some ⟨m18, 0, none⟩)), (5, .pointer (some ⟨b4, 0, none⟩)), (6, .pointer (some ⟨b5, 0, none⟩)), (7, .pointer (some ⟨b6, 0, none⟩)), (8, .bool r17), (9, .slice A1 p1.length c1), (10, .int .i64 ((p1.length : Int))), (11, .bool (decide (200 < ((p1.length : Int))))), (13, .slice A1 p1.length c1), (14, .pointer (some ⟨m18, 0, none⟩)), (15, .pointer (some ⟨m18, 0, none⟩)), (16, .agg #[.int .i64 r19.1, .int .i64 r19.2.1, .int .u64 r19.2.2.1, .int .u64 r19.2.2.2.1, .int .i64 r19.2.2.2.2.1, .int .i64 r19.2.2.2.2.2.1, .slice m19.1 r19.2.2.2.2.2.2.1.length m19.2.1, .int .i64 r19.2.2.2.2.2.2.2.1, .int .i64 r19.2.2.2.2.2.2.2.2.1]), (17, .tuple #[.agg #[.slice m20.1 r20.1.length m20.2.1, .int .i64 r20.2.1], .agg #[.int .i64 r20.2.2.1, .int .i64 r20.2.2.2.1, .int .u64 r20.2.2.2.2.1, .int .u64 r20.2.2.2.2.2.1, .int .i64 r20.2.2.2.2.2.2.1, .int .i64 r20.2.2.2.2.2.2.2.1, .slice m20.2.2.1 r20.2.2.2.2.2.2.2.2.1.length m20.2.2.2, .int .i64 r20.2.2.2.2.2.2.2.2.2.1, .int .i64 r20.2.2.2.2.2.2.2.2.2.2]]), (18, .slice A1 p1.length c1), (19, .agg #[.slice A1 p1.length c1, .int .i64 0]), (20, .tuple #[.agg #[.slice m20.1 r20.1.length m20.2.1, .int .i64 r20.2.1], .agg #[.int .i64 r20.2.2.1, .int .i64 r20.2.2.2.1, .int .u64 r20.2.2.2.2.1, .int .u64 r20.2.2.2.2.2.1, .int .i64 r20.2.2.2.2.2.2.1, .int .i64 r20.2.2.2.2.2.2.2.1, .slice m20.2.2.1 r20.2.2.2.2.2.2.2.2.1.length m20.2.2.2, .int .i64 r20.2.2.2.2.2.2.2.2.2.1, .int .i64 r20.2.2.2.2.2.2.2.2.2.2]]), (21, .agg #[.slice m20.1 r20.1.length m20.2.1, .int .i64 r20.2.1]), (22, .agg #[.int .i64 r20.2.2.1, .int .i64 r20.2.2.2.1, .int .u64 r20.2.2.2.2.1, .int .u64 r20.2.2.2.2.2.1, .int .i64 r20.2.2.2.2.2.2.1, .int .i64 r20.2.2.2.2.2.2.2.1, .slice m20.2.2.1 r20.2.2.2.2.2.2.2.2.1.length m20.2.2.2, .int .i64 r20.2.2.2.2.2.2.2.2.2.1, .int .i64 r20.2.2.2.2.2.2.2.2.2.2])], [cells b6 [.int .i64 r20.2.2.1, .int .i64 r20.2.2.2.1, .int .u64 r20.2.2.2.2.1, .int .u64 r20.2.2.2.2.2.1, .int .i64 r20.2.2.2.2.2.2.1, .int .i64 r20.2.2.2.2.2.2.2.1, .slice m20.2.2.1 r20.2.2.2.2.2.2.2.2.1.length m20.2.2.2, .int .i64 r20.2.2.2.2.2.2.2.2.2.1, .int .i64 r20.2.2.2.2.2.2.2.2.2.2] 91, cells b5 [.slice m20.1 r20.1.length m20.2.1, .int .i64 r20.2.1] 51, cells b4 [.int .i64 r19.1, .int .i64 r19.2.1, .int .u64 r19.2.2.1, .int .u64 r19.2.2.2.1, .int .i64 r19.2.2.2.2.1, .int .i64 r19.2.2.2.2.2.1, .slice m19.1 r19.2.2.2.2.2.2.1.length m19.2.1, .int .i64 r19.2.2.2.2.2.2.2.1, .int .i64 r19.2.2.2.2.2.2.2.2.1] 91, cells m18 [.slice m19.2.2.1 r19.2.2.2.2.2.2.2.2.2.1.length m19.2.2.2, .int .i64 r19.2.2.2.2.2.2.2.2.2.2] 116], [slF (rInt .u8) A1 c1 p1, slF (rInt .u8) (slA A1 0 ((p1.length : Int)).toNat 1) (((p1.length : Int)).toNat) (p1.take ((p1.length : Int)).toNat), slF rp_u64_u64 m19.1 m19.2.1 r19.2.2.2.2.2.2.1, slF (rInt .u8) m19.2.2.1 m19.2.2.2 r19.2.2.2.2.2.2.2.2.2.1, slF (rInt .u8) m20.1 m20.2.1 r20.1, slF rp_u64_u64 m20.2.2.1 m20.2.2.2 r20.2.2.2.2.2.2.2.2.1], []⟩ [0, 1, 2, 3] [0, 1, 2, 3, 4, 5] (sc rfl (sc rfl (sc rfl (sc rfl (sc rfl (sc rfl (sc rfl (sc rfl (sc rfl (sc rfl (sc rfl (sc rfl (sc rfl (sc rfl (sc rfl (sc rfl (sc rfl (sc rfl (sc rfl (sc rfl sn)))))))))))))))))))) (by decide) rfl rfl rfl ?_
  refine Tr.regionD drawn (fun hok => ?_)
  refine TrAny.prom (i := 0) (d := 23) hok (OpVal.plain rfl rfl (v_move rfl rfl)) (by kernel_rfl) rfl (bl rfl) ?_
  clear hok
  intro hok
  refine TrAny.prom (i := 1) (d := 24) hok (OpVal.plain rfl rfl (v_move rfl rfl)) (by kernel_rfl) rfl (bl rfl) ?_
  clear hok
  intro hok
  rcases ifc H with ⟨h24, H⟩ | ⟨h24, H⟩
  ·refine TrAny.prom (i := 2) (d := 25) hok (OpVal.yes rfl rfl rfl rfl h24 (v_load (k := 2) rfl rfl rfl ty91 nofun rfl rfl)) (by kernel_rfl) rfl (bl rfl) ?_
   clear hok
   intro hok
   refine TrAny.prom (i := 3) (d := 26) hok (OpVal.yes rfl rfl rfl rfl h24 (v_load (k := 0) rfl rfl rfl ty91 nofun rfl rfl)) (by kernel_rfl) rfl (bl rfl) ?_
   clear hok
   intro hok
   obtain ⟨r30, hr30, H⟩ := bnd H
   refine TrAny.nextY (j := 4) (by kernel_rfl) hok rfl (by kernel_rfl) rfl rfl rfl h24 (op_call0' (vs := [.agg #[.int .i64 r19.1, .int .i64 r19.2.1, .int .u64 r19.2.2.1, .int .u64 r19.2.2.2.1, .int .i64 r19.2.2.2.2.1, .int .i64 r19.2.2.2.2.2.1, .slice m19.1 r19.2.2.2.2.2.2.1.length m19.2.1, .int .i64 r19.2.2.2.2.2.2.2.1, .int .i64 r19.2.2.2.2.2.2.2.2.1], .agg #[.int .i64 r20.2.2.1, .int .i64 r20.2.2.2.1, .int .u64 r20.2.2.2.2.1, .int .u64 r20.2.2.2.2.2.1, .int .i64 r20.2.2.2.2.2.2.1, .int .i64 r20.2.2.2.2.2.2.2.1, .slice m20.2.2.1 r20.2.2.2.2.2.2.2.2.1.length m20.2.2.2, .int .i64 r20.2.2.2.2.2.2.2.2.2.1, .int .i64 r20.2.2.2.2.2.2.2.2.2.2]]) (cap := []) [2, 5] rfl rfl (bl rfl) rfl rfl en53 (c_ref21_Same ((r19.1, r19.2.1, r19.2.2.1, r19.2.2.2.1, r19.2.2.2.2.1, r19.2.2.2.2.2.1, r19.2.2.2.2.2.2.1, r19.2.2.2.2.2.2.2.1, r19.2.2.2.2.2.2.2.2.1)) r20.2.2 m19.1 m19.2.1 m20.2.2.1 m20.2.2.2 r30 hr30) rfl (fun ret M' F' hR30 => ?_))
   obtain ⟨rfl, rfl, rfl⟩ := hR30
   refine nxp hok (kp_imp (kp_c0 rfl)) rfl (by kernel_rfl) ?_
   clear hok
   intro hok
   refine TrAny.prom (i := 5) (d := 28) hok (OpVal.plain rfl rfl (v_pick_t rfl rfl h24 rfl)) (by kernel_rfl) rfl (bl rfl) ?_
   clear hok
   intro hok
   refine TrAny.prom (i := 6) (d := 29) hok (OpVal.plain rfl rfl (v_move rfl rfl)) (by kernel_rfl) rfl (bl rfl) ?_
   clear hok
   intro hok
   rcases ifc H with ⟨h25, H⟩ | ⟨h25, H⟩
   ·refine TrAny.prom (i := 7) (d := 30) hok (OpVal.yes rfl rfl rfl rfl h25 (v_move rfl rfl)) (by kernel_rfl) rfl (bl rfl) ?_
    clear hok
    intro hok
    refine TrAny.prom (i := 9) (d := 32) hok (OpVal.yes rfl rfl rfl rfl h25 (v_fieldAddr' rfl fo51_0 rfl rfl)) (by kernel_rfl) rfl (bl rfl) ?_
    clear hok
    intro hok
    refine TrAny.prom (i := 10) (d := 33) hok (OpVal.yes rfl rfl rfl rfl h25 (v_load (k := 1) rfl rfl rfl ty40 (fun _ => rfl) rfl rfl)) (by kernel_rfl) rfl (bl rfl) ?_
    clear hok
    intro hok
    refine TrAny.prom (i := 11) (d := 34) hok (OpVal.yes rfl rfl rfl rfl h25 (v_len rfl sl40 rfl)) (by kernel_rfl) rfl (bl rfl) ?_
    clear hok
    intro hok
    obtain ⟨r31, hr31, H⟩ := bnd H
    refine TrAny.nextY (j := 8) (by kernel_rfl) hok rfl (by kernel_rfl) rfl rfl rfl h25 (op_callg' (fs := []) (vs := [.pointer (some ⟨m18, 0, none⟩)]) (cap := []) (Mr := [cells b6 [.int .i64 r20.2.2.1, .int .i64 r20.2.2.2.1, .int .u64 r20.2.2.2.2.1, .int .u64 r20.2.2.2.2.2.1, .int .i64 r20.2.2.2.2.2.2.1, .int .i64 r20.2.2.2.2.2.2.2.1, .slice m20.2.2.1 r20.2.2.2.2.2.2.2.2.1.length m20.2.2.2, .int .i64 r20.2.2.2.2.2.2.2.2.2.1, .int .i64 r20.2.2.2.2.2.2.2.2.2.2] 91, cells b5 [.slice m20.1 r20.1.length m20.2.1, .int .i64 r20.2.1] 51, cells b4 [.int .i64 r19.1, .int .i64 r19.2.1, .int .u64 r19.2.2.1, .int .u64 r19.2.2.2.1, .int .i64 r19.2.2.2.2.1, .int .i64 r19.2.2.2.2.2.1, .slice m19.1 r19.2.2.2.2.2.2.1.length m19.2.1, .int .i64 r19.2.2.2.2.2.2.2.1, .int .i64 r19.2.2.2.2.2.2.2.2.1] 91]) [3] [0, 1, 2] [3] rfl rfl rfl en31 (c_codec_Reader_Left r19.2.2.2.2.2.2.2.2.2 m18 m19.2.2.1 m19.2.2.2 r31 hr31) (by decide) rfl rfl rfl (bl rfl) (fun ret M' F' hR31 => ?_))
    obtain ⟨rfl, rfl, rfl⟩ := hR31
    refine nxp hok (by first | exact (kp_imp (kp_cc [0, 1, 2, 3] rfl (by decide) rfl)) | exact (kp_allE [(0, 23, .bool r17), (1, 24, .bool r17), (2, 25, .agg #[.int .i64 r19.1, .int .i64 r19.2.1, .int .u64 r19.2.2.1, .int .u64 r19.2.2.2.1, .int .i64 r19.2.2.2.2.1, .int .i64 r19.2.2.2.2.2.1, .slice m19.1 r19.2.2.2.2.2.2.1.length m19.2.1, .int .i64 r19.2.2.2.2.2.2.2.1, .int .i64 r19.2.2.2.2.2.2.2.2.1]), (3, 26, .agg #[.int .i64 r20.2.2.1, .int .i64 r20.2.2.2.1, .int .u64 r20.2.2.2.2.1, .int .u64 r20.2.2.2.2.2.1, .int .i64 r20.2.2.2.2.2.2.1, .int .i64 r20.2.2.2.2.2.2.2.1, .slice m20.2.2.1 r20.2.2.2.2.2.2.2.2.1.length m20.2.2.2, .int .i64 r20.2.2.2.2.2.2.2.2.2.1, .int .i64 r20.2.2.2.2.2.2.2.2.2.2]), (5, 28, .bool r30), (6, 29, .bool r30), (7, 30, .pointer (some ⟨m18, 0, none⟩)), (9, 32, .pointer (some ⟨b5, 0, none⟩)), (10, 33, .slice m20.1 r20.1.length m20.2.1), (11, 34, .int .i64 ((r20.1.length : Int)))] (by kernel_rfl) (ac (.inr (OpVal.plain rfl rfl (v_move rfl rfl))) (ac (.inr (OpVal.plain rfl rfl (v_move rfl rfl))) (ac (.inr (OpVal.yes rfl rfl rfl rfl h24 (v_load (k := 3) rfl rfl rfl ty91 nofun rfl rfl))) (ac (.inr (OpVal.yes rfl rfl rfl rfl h24 (v_load (k := 1) rfl rfl rfl ty91 nofun rfl rfl))) (ac (.inr (OpVal.plain rfl rfl (v_pick_t rfl rfl h24 rfl))) (ac (.inl (by kernel_rfl)) (ac (.inl (by kernel_rfl)) (ac (.inr (OpVal.yes rfl rfl rfl rfl h25 (v_fieldAddr' rfl fo51_0 rfl rfl))) (ac (.inr (OpVal.yes rfl rfl rfl rfl h25 (v_load (k := 2) rfl rfl rfl ty40 (fun _ => rfl) rfl rfl))) (ac (.inr (OpVal.yes rfl rfl rfl rfl h25 (v_len rfl sl40 rfl))) an)))))))))))) rfl (by kernel_rfl) ?_
    clear hok
    intro hok
    refine TrAny.prom (i := 12) (d := 35) hok (OpVal.yes rfl rfl rfl rfl h25 (v_arith rfl rfl rfl ar_eql)) (by kernel_rfl) rfl (bl rfl) ?_
    clear hok
    intro hok
    refine TrAny.prom (i := 13) (d := 36) hok (OpVal.plain rfl rfl (v_pick_t rfl rfl h25 rfl)) (by kernel_rfl) rfl (bl rfl) ?_
    clear hok
    intro hok
    refine TrAny.prom (i := 14) (d := 37) hok (OpVal.plain rfl rfl (v_move rfl rfl)) (by kernel_rfl) rfl (bl rfl) ?_
    clear hok
    intro hok
    rcases ifc H with ⟨h26, H⟩ | ⟨h26, H⟩
    ·refine TrAny.prom (i := 15) (d := 38) hok (OpVal.yes rfl rfl rfl rfl (bt_dec h26) (v_move rfl rfl)) (by kernel_rfl) rfl (bl rfl) ?_
     clear hok
     intro hok
     refine TrAny.prom (i := 17) (d := 40) hok (OpVal.yes rfl rfl rfl rfl (bt_dec h26) (v_fieldAddr' rfl fo51_1 rfl rfl)) (by kernel_rfl) rfl (bl rfl) ?_
     clear hok
     intro hok
     refine TrAny.prom (i := 18) (d := 41) hok (OpVal.yes rfl rfl rfl rfl (bt_dec h26) (v_load (k := 2) rfl rfl rfl ty3 (fun _ => rfl) rfl rfl)) (by kernel_rfl) rfl (bl rfl) ?_
     clear hok
     intro hok
     obtain ⟨r32, hr32, H⟩ := bnd H
     refine TrAny.nextY (j := 16) (by kernel_rfl) hok rfl (by kernel_rfl) rfl rfl rfl (bt_dec h26) (op_callg' (fs := []) (vs := [.pointer (some ⟨m18, 0, none⟩)]) (cap := []) (Mr := [cells b6 [.int .i64 r20.2.2.1, .int .i64 r20.2.2.2.1, .int .u64 r20.2.2.2.2.1, .int .u64 r20.2.2.2.2.2.1, .int .i64 r20.2.2.2.2.2.2.1, .int .i64 r20.2.2.2.2.2.2.2.1, .slice m20.2.2.1 r20.2.2.2.2.2.2.2.2.1.length m20.2.2.2, .int .i64 r20.2.2.2.2.2.2.2.2.2.1, .int .i64 r20.2.2.2.2.2.2.2.2.2.2] 91, cells b5 [.slice m20.1 r20.1.length m20.2.1, .int .i64 r20.2.1] 51, cells b4 [.int .i64 r19.1, .int .i64 r19.2.1, .int .u64 r19.2.2.1, .int .u64 r19.2.2.2.1, .int .i64 r19.2.2.2.2.1, .int .i64 r19.2.2.2.2.2.1, .slice m19.1 r19.2.2.2.2.2.2.1.length m19.2.1, .int .i64 r19.2.2.2.2.2.2.2.1, .int .i64 r19.2.2.2.2.2.2.2.2.1] 91]) [0] [1, 2, 3] [3] rfl rfl rfl en32 (c_codec_Reader_Err r19.2.2.2.2.2.2.2.2.2 m18 m19.2.2.1 m19.2.2.2 r32 hr32) (by decide) rfl rfl rfl (bl rfl) (fun ret M' F' hR32 => ?_))
     obtain ⟨rfl, rfl, rfl⟩ := hR32
     refine nxp hok (by first | exact (kp_imp (kp_cc [0, 1, 2, 3] rfl (by decide) rfl)) | exact (kp_allE [(0, 23, .bool r17), (1, 24, .bool r17), (2, 25, .agg #[.int .i64 r19.1, .int .i64 r19.2.1, .int .u64 r19.2.2.1, .int .u64 r19.2.2.2.1, .int .i64 r19.2.2.2.2.1, .int .i64 r19.2.2.2.2.2.1, .slice m19.1 r19.2.2.2.2.2.2.1.length m19.2.1, .int .i64 r19.2.2.2.2.2.2.2.1, .int .i64 r19.2.2.2.2.2.2.2.2.1]), (3, 26, .agg #[.int .i64 r20.2.2.1, .int .i64 r20.2.2.2.1, .int .u64 r20.2.2.2.2.1, .int .u64 r20.2.2.2.2.2.1, .int .i64 r20.2.2.2.2.2.2.1, .int .i64 r20.2.2.2.2.2.2.2.1, .slice m20.2.2.1 r20.2.2.2.2.2.2.2.2.1.length m20.2.2.2, .int .i64 r20.2.2.2.2.2.2.2.2.2.1, .int .i64 r20.2.2.2.2.2.2.2.2.2.2]), (5, 28, .bool r30), (6, 29, .bool r30), (7, 30, .pointer (some ⟨m18, 0, none⟩)), (9, 32, .pointer (some ⟨b5, 0, none⟩)), (10, 33, .slice m20.1 r20.1.length m20.2.1), (11, 34, .int .i64 ((r20.1.length : Int))), (12, 35, .bool (decide (((r19.2.2.2.2.2.2.2.2.2.1.length : Int)) = ((r20.1.length : Int))))), (13, 36, .bool (decide (((r19.2.2.2.2.2.2.2.2.2.1.length : Int)) = ((r20.1.length : Int))))), (14, 37, .bool (decide (((r19.2.2.2.2.2.2.2.2.2.1.length : Int)) = ((r20.1.length : Int))))), (15, 38, .pointer (some ⟨m18, 0, none⟩)), (17, 40, .pointer (some ⟨b5, 1, none⟩)), (18, 41, .int .i64 r20.2.1)] (by kernel_rfl) (ac (.inr (OpVal.plain rfl rfl (v_move rfl rfl))) (ac (.inr (OpVal.plain rfl rfl (v_move rfl rfl))) (ac (.inr (OpVal.yes rfl rfl rfl rfl h24 (v_load (k := 3) rfl rfl rfl ty91 nofun rfl rfl))) (ac (.inr (OpVal.yes rfl rfl rfl rfl h24 (v_load (k := 1) rfl rfl rfl ty91 nofun rfl rfl))) (ac (.inr (OpVal.plain rfl rfl (v_pick_t rfl rfl h24 rfl))) (ac (.inr (OpVal.plain rfl rfl (v_move rfl rfl))) (ac (.inr (OpVal.yes rfl rfl rfl rfl h25 (v_move rfl rfl))) (ac (.inr (OpVal.yes rfl rfl rfl rfl h25 (v_fieldAddr' rfl fo51_0 rfl rfl))) (ac (.inr (OpVal.yes rfl rfl rfl rfl h25 (v_load (k := 2) rfl rfl rfl ty40 (fun _ => rfl) rfl rfl))) (ac (.inr (OpVal.yes rfl rfl rfl rfl h25 (v_len rfl sl40 rfl))) (ac (.inr (OpVal.yes rfl rfl rfl rfl h25 (v_arith rfl rfl rfl ar_eql))) (ac (.inr (OpVal.plain rfl rfl (v_pick_t rfl rfl h25 rfl))) (ac (.inl (by kernel_rfl)) (ac (.inl (by kernel_rfl)) (ac (.inr (OpVal.yes rfl rfl rfl rfl (bt_dec h26) (v_fieldAddr' rfl fo51_1 rfl rfl))) (ac (.inr (OpVal.yes rfl rfl rfl rfl (bt_dec h26) (v_load (k := 2) rfl rfl rfl ty3 (fun _ => rfl) rfl rfl))) an)))))))))))))))))) rfl (by kernel_rfl) ?_
     clear hok
     intro hok
     refine TrAny.prom (i := 19) (d := 42) hok (OpVal.yes rfl rfl rfl rfl (bt_dec h26) (v_arith rfl rfl rfl ar_eql)) (by kernel_rfl) rfl (bl rfl) ?_
     clear hok
     intro hok
     refine TrAny.prom (i := 20) (d := 43) hok (OpVal.plain rfl rfl (v_pick_t rfl rfl (bt_dec h26) rfl)) (by kernel_rfl) rfl (bl rfl) ?_
     clear hok
     intro hok
     refine TrAny.prom (i := 21) (d := 2) hok (OpVal.plain rfl rfl (v_assign rfl rfl)) (by kernel_rfl) rfl (bl rfl) ?_
     clear hok
     intro hok
     refine TrAny.done (by kernel_rfl) (by kernel_rfl) hok (by kernel_rfl) (qthen_n ?_)
     have hz := Option.some.inj H
     subst hz
     refine Tr.ret (ret_r ⟨[(2, .bool (decide (r19.2.2.2.2.2.2.2.2.2.2 = r20.2.1)))], [], [], []⟩ [.bool (decide (r19.2.2.2.2.2.2.2.2.2.2 = r20.2.1))] [] [] (Imp.re _ [] [] (sc rfl sn) (by decide) rfl rfl rfl) rfl rfl ⟨rfl, rfl, rfl⟩ (.cons (resv_tmp rfl) .nil))
    ·refine TrAny.prom (i := 15) (d := 38) hok (OpVal.no rfl (fun c h => by cases h) rfl rfl rfl (gn_t (bf_dec h26))) (by kernel_rfl) rfl (bl rfl) ?_
     clear hok
     intro hok
     refine TrAny.prom (i := 16) (d := 39) hok (OpVal.no rfl (fun c h => by cases h) rfl rfl rfl (gn_t (bf_dec h26))) (by kernel_rfl) rfl (bl rfl) ?_
     clear hok
     intro hok
     refine TrAny.prom (i := 17) (d := 40) hok (OpVal.no rfl (fun c h => by cases h) rfl rfl rfl (gn_t (bf_dec h26))) (by kernel_rfl) rfl (bl rfl) ?_
     clear hok
     intro hok
     refine TrAny.prom (i := 18) (d := 41) hok (OpVal.no rfl (fun c h => by cases h) rfl rfl rfl (gn_t (bf_dec h26))) (by kernel_rfl) rfl (bl rfl) ?_
     clear hok
     intro hok
     refine TrAny.prom (i := 19) (d := 42) hok (OpVal.no rfl (fun c h => by cases h) rfl rfl rfl (gn_t (bf_dec h26))) (by kernel_rfl) rfl (bl rfl) ?_
     clear hok
     intro hok
     refine TrAny.prom (i := 20) (d := 43) hok (OpVal.plain rfl rfl (v_pick_f rfl rfl (bf_dec h26) rfl)) (by kernel_rfl) rfl (bl rfl) ?_
     clear hok
     intro hok
     refine TrAny.prom (i := 21) (d := 2) hok (OpVal.plain rfl rfl (v_assign rfl rfl)) (by kernel_rfl) rfl (bl rfl) ?_
     clear hok
     intro hok
     refine TrAny.done (by kernel_rfl) (by kernel_rfl) hok (by kernel_rfl) (qthen_n ?_)
     have hz := Option.some.inj H
     subst hz
     refine Tr.ret (ret_r ⟨[(2, .bool false)], [], [], []⟩ [.bool false] [] [] (Imp.re _ [] [] (sc rfl sn) (by decide) rfl rfl rfl) rfl rfl ⟨rfl, rfl, rfl⟩ (.cons (resv_tmp rfl) .nil))
   ·refine TrAny.prom (i := 7) (d := 30) hok (OpVal.no rfl (fun c h => by cases h) rfl rfl rfl (gn_t (bf_b h25))) (by kernel_rfl) rfl (bl rfl) ?_
    clear hok
    intro hok
    refine TrAny.prom (i := 8) (d := 31) hok (OpVal.no rfl (fun c h => by cases h) rfl rfl rfl (gn_t (bf_b h25))) (by kernel_rfl) rfl (bl rfl) ?_
    clear hok
    intro hok
    refine TrAny.prom (i := 9) (d := 32) hok (OpVal.no rfl (fun c h => by cases h) rfl rfl rfl (gn_t (bf_b h25))) (by kernel_rfl) rfl (bl rfl) ?_
    clear hok
    intro hok
    refine TrAny.prom (i := 10) (d := 33) hok (OpVal.no rfl (fun c h => by cases h) rfl rfl rfl (gn_t (bf_b h25))) (by kernel_rfl) rfl (bl rfl) ?_
    clear hok
    intro hok
    refine TrAny.prom (i := 11) (d := 34) hok (OpVal.no rfl (fun c h => by cases h) rfl rfl rfl (gn_t (bf_b h25))) (by kernel_rfl) rfl (bl rfl) ?_
    clear hok
    intro hok
    refine TrAny.prom (i := 12) (d := 35) hok (OpVal.no rfl (fun c h => by cases h) rfl rfl rfl (gn_t (bf_b h25))) (by kernel_rfl) rfl (bl rfl) ?_
    clear hok
    intro hok
    refine TrAny.prom (i := 13) (d := 36) hok (OpVal.plain rfl rfl (v_pick_f rfl rfl (bf_b h25) rfl)) (by kernel_rfl) rfl (bl rfl) ?_
    clear hok
    intro hok
    refine TrAny.prom (i := 14) (d := 37) hok (OpVal.plain rfl rfl (v_move rfl rfl)) (by kernel_rfl) rfl (bl rfl) ?_
    clear hok
    intro hok
    refine TrAny.prom (i := 15) (d := 38) hok (OpVal.no rfl (fun c h => by cases h) rfl rfl rfl (gn_t rfl)) (by kernel_rfl) rfl (bl rfl) ?_
    clear hok
    intro hok
    refine TrAny.prom (i := 16) (d := 39) hok (OpVal.no rfl (fun c h => by cases h) rfl rfl rfl (gn_t rfl)) (by kernel_rfl) rfl (bl rfl) ?_
    clear hok
    intro hok
    refine TrAny.prom (i := 17) (d := 40) hok (OpVal.no rfl (fun c h => by cases h) rfl rfl rfl (gn_t rfl)) (by kernel_rfl) rfl (bl rfl) ?_
    clear hok
    intro hok
    refine TrAny.prom (i := 18) (d := 41) hok (OpVal.no rfl (fun c h => by cases h) rfl rfl rfl (gn_t rfl)) (by kernel_rfl) rfl (bl rfl) ?_
    clear hok
    intro hok
    refine TrAny.prom (i := 19) (d := 42) hok (OpVal.no rfl (fun c h => by cases h) rfl rfl rfl (gn_t rfl)) (by kernel_rfl) rfl (bl rfl) ?_
    clear hok
    intro hok
    refine TrAny.prom (i := 20) (d := 43) hok (OpVal.plain rfl rfl (v_pick_f rfl rfl rfl rfl)) (by kernel_rfl) rfl (bl rfl) ?_
    clear hok
    intro hok
    refine TrAny.prom (i := 21) (d := 2) hok (OpVal.plain rfl rfl (v_assign rfl rfl)) (by kernel_rfl) rfl (bl rfl) ?_
    clear hok
    intro hok
    refine TrAny.done (by kernel_rfl) (by kernel_rfl) hok (by kernel_rfl) (qthen_n ?_)
    have hz := Option.some.inj H
    subst hz
    refine Tr.ret (ret_r ⟨[(2, .bool false)], [], [], []⟩ [.bool false] [] [] (Imp.re _ [] [] (sc rfl sn) (by decide) rfl rfl rfl) rfl rfl ⟨rfl, rfl, rfl⟩ (.cons (resv_tmp rfl) .nil))
  ·refine TrAny.prom (i := 2) (d := 25) hok (OpVal.no rfl (fun c h => by cases h) rfl rfl rfl (gn_t (bf_b h24))) (by kernel_rfl) rfl (bl rfl) ?_
   clear hok
   intro hok
   refine TrAny.prom (i := 3) (d := 26) hok (OpVal.no rfl (fun c h => by cases h) rfl rfl rfl (gn_t (bf_b h24))) (by kernel_rfl) rfl (bl rfl) ?_
   clear hok
   intro hok
   refine TrAny.prom (i := 4) (d := 27) hok (OpVal.no rfl (fun c h => by cases h) rfl rfl rfl (gn_t (bf_b h24))) (by kernel_rfl) rfl (bl rfl) ?_
   clear hok
   intro hok
   refine TrAny.prom (i := 5) (d := 28) hok (OpVal.plain rfl rfl (v_pick_f rfl rfl (bf_b h24) rfl)) (by kernel_rfl) rfl (bl rfl) ?_
   clear hok
   intro hok
   refine TrAny.prom (i := 6) (d := 29) hok (OpVal.plain rfl rfl (v_move rfl rfl)) (by kernel_rfl) rfl (bl rfl) ?_
   clear hok
   intro hok
   refine TrAny.prom (i := 7) (d := 30) hok (OpVal.no rfl (fun c h => by cases h) rfl rfl rfl (gn_t rfl)) (by kernel_rfl) rfl (bl rfl) ?_
   clear hok
   intro hok
   refine TrAny.prom (i := 8) (d := 31) hok (OpVal.no rfl (fun c h => by cases h) rfl rfl rfl (gn_t rfl)) (by kernel_rfl) rfl (bl rfl) ?_
   clear hok
   intro hok
   refine TrAny.prom (i := 9) (d := 32) hok (OpVal.no rfl (fun c h => by cases h) rfl rfl rfl (gn_t rfl)) (by kernel_rfl) rfl (bl rfl) ?_
   clear hok
   intro hok
   refine TrAny.prom (i := 10) (d := 33) hok (OpVal.no rfl (fun c h => by cases h) rfl rfl rfl (gn_t rfl)) (by kernel_rfl) rfl (bl rfl) ?_
   clear hok
   intro hok
   refine TrAny.prom (i := 11) (d := 34) hok (OpVal.no rfl (fun c h => by cases h) rfl rfl rfl (gn_t rfl)) (by kernel_rfl) rfl (bl rfl) ?_
   clear hok
   intro hok
   refine TrAny.prom (i := 12) (d := 35) hok (OpVal.no rfl (fun c h => by cases h) rfl rfl rfl (gn_t rfl)) (by kernel_rfl) rfl (bl rfl) ?_
   clear hok
   intro hok
   refine TrAny.prom (i := 13) (d := 36) hok (OpVal.plain rfl rfl (v_pick_f rfl rfl rfl rfl)) (by kernel_rfl) rfl (bl rfl) ?_
   clear hok
   intro hok
   refine TrAny.prom (i := 14) (d := 37) hok (OpVal.plain rfl rfl (v_move rfl rfl)) (by kernel_rfl) rfl (bl rfl) ?_
   clear hok
   intro hok
   refine TrAny.prom (i := 15) (d := 38) hok (OpVal.no rfl (fun c h => by cases h) rfl rfl rfl (gn_t rfl)) (by kernel_rfl) rfl (bl rfl) ?_
   clear hok
   intro hok
   refine TrAny.prom (i := 16) (d := 39) hok (OpVal.no rfl (fun c h => by cases h) rfl rfl rfl (gn_t rfl)) (by kernel_rfl) rfl (bl rfl) ?_
   clear hok
   intro hok
   refine TrAny.prom (i := 17) (d := 40) hok (OpVal.no rfl (fun c h => by cases h) rfl rfl rfl (gn_t rfl)) (by kernel_rfl) rfl (bl rfl) ?_
   clear hok
   intro hok
   refine TrAny.prom (i := 18) (d := 41) hok (OpVal.no rfl (fun c h => by cases h) rfl rfl rfl (gn_t rfl)) (by kernel_rfl) rfl (bl rfl) ?_
   clear hok
   intro hok
   refine TrAny.prom (i := 19) (d := 42) hok (OpVal.no rfl (fun c h => by cases h) rfl rfl rfl (gn_t rfl)) (by kernel_rfl) rfl (bl rfl) ?_
   clear hok
   intro hok
   refine TrAny.prom (i := 20) (d := 43) hok (OpVal.plain rfl rfl (v_pick_f rfl rfl rfl rfl)) (by kernel_rfl) rfl (bl rfl) ?_
   clear hok
   intro hok
   refine TrAny.prom (i := 21) (d := 2) hok (OpVal.plain rfl rfl (v_assign rfl rfl)) (by kernel_rfl) rfl (bl rfl) ?_
   clear hok
   intro hok
   refine TrAny.done (by kernel_rfl) (by kernel_rfl) hok (by kernel_rfl) (qthen_n ?_)
   have hz := Option.some.inj H
   subst hz
   refine Tr.ret (ret_r ⟨[(2, .bool false)], [], [], []⟩ [.bool false] [] [] (Imp.re _ [] [] (sc rfl sn) (by decide) rfl rfl rfl) rfl rfl ⟨rfl, rfl, rfl⟩ (.cons (resv_tmp rfl) .nil))
end Go.Proofs.Ytbeknohemgjfbaa.W
