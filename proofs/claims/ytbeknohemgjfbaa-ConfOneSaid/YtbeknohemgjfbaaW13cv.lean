import Derived.Test.YtbeknohemgjfbaaKcv
import Derived.Test.YtbeknohemgjfbaaQcv
import Derived.Test.YtbeknohemgjfbaaWcodecacv
import Derived.Test.YtbeknohemgjfbaaWconffcv
import Derived.Test.YtbeknohemgjfbaaWconfgcv
import Derived.Test.YtbeknohemgjfbaaWlaw21acv
import Derived.Test.YtbeknohemgjfbaaWref21acv
import Derived.Test.YtbeknohemgjfbaaWref21dcv
namespace Go.Proofs.Ytbeknohemgjfbaa.W
open Go Go.Proofs Go.Proofs.Ytbeknohemgjfbaa.L Go.Proofs.Ytbeknohemgjfbaa.Pu
set_option linter.unusedVariables false
set_option maxHeartbeats 4000000

theorem c_law21_ConfOne (p1 : List Int) (A1 : Option Addr) (c1 : Nat) (r : Bool) (H : law21_ConfOne p1 = some r) :
  Ctr Try.prog 13 [.slice A1 p1.length c1] [] [slF (rInt .u8) A1 c1 p1] (fun ret M' F' => ret = .bool r ∧ M' = [] ∧ F' = []) := by
 unfold law21_ConfOne at H
 refine ctr_ofI (N := 44) Try.func13 rfl Try.ntmps13 rfl (Nat.le_of_ble_eq_true rfl) (fun γ0 w0 => ?_)
 refine Tr.seq ?_
 refine Tr.region ?_
 refine TrL.v (v_assign rfl rfl) rfl rfl (bl rfl) ?_
 refine TrL.nil (qthen_n ?_)
 refine Tr.seq ?_
 refine Tr.region ?_
 obtain ⟨r19, hr19, H⟩ := bnd H
 refine TrL.cons rfl (op_call0' (vs := []) (cap := []) [] rfl rfl (bl rfl) rfl rfl en46 (c_law21_awake r19 hr19) rfl (fun ret M' F' hR19 => ?_))
 obtain ⟨rfl, rfl, rfl⟩ := hR19
 refine TrL.v (v_assign rfl rfl) rfl rfl (bl rfl) ?_
 refine TrL.nil (qthen_n ?_)
 refine Tr.seq ?_
 refine Tr.seq ?_
 refine Tr.region ?_
 refine TrL.v (v_move rfl rfl) rfl rfl (bl rfl) ?_
 refine TrL.v (v_len rfl sl40 rfl) rfl rfl (bl rfl) ?_
 refine TrL.v (v_arith rfl rfl rfl ar_gtr) rfl rfl (bl rfl) ?_
 refine TrL.nil (qthen_n ?_)
 rcases ifc H with ⟨h17, H⟩ | ⟨h17, H⟩
 ·refine Tr.cond_t rfl (bt_dec h17) ?_
  refine Tr.seq ?_
  refine Tr.region ?_
  refine TrL.v (v_move rfl rfl) rfl rfl (bl rfl) ?_
  refine TrL.v (v_assign rfl rfl) rfl rfl (bl rfl) ?_
  refine TrL.nil (qthen_n ?_)
  have hz := Option.some.inj H
  subst hz
  refine Tr.ret (qthen_r (ret_r ⟨[(2, .bool r19)], [], [], []⟩ [.bool r19] [] [] (Imp.re _ [] [] (sc rfl sn) (by decide) rfl rfl rfl) rfl rfl ⟨rfl, rfl, rfl⟩ (.cons (resv_tmp rfl) .nil)))
 ·refine Tr.cond_f rfl (bf_dec h17) ?_
  refine Tr.skip (qthen_n ?_)
  refine Tr.seq ?_
  refine Tr.region ?_
  refine TrL.v (v_move rfl rfl) rfl rfl (bl rfl) ?_
  obtain ⟨r20, hr20, H⟩ := bnd H
  refine TrL.cons rfl (op_call0' (vs := [.slice A1 p1.length c1]) (cap := []) [0] rfl rfl (bl rfl) rfl rfl en27 (c_codec_New p1 A1 c1 r20 hr20) rfl (fun ret M' F' hR20 => ?_))
  obtain ⟨m20, rfl, rfl, rfl⟩ := hR20
  refine TrL.v (v_assign rfl rfl) rfl rfl (bl rfl) ?_
  refine TrL.nil (qthen_n ?_)
  refine Tr.seq ?_
  refine Tr.region ?_
  refine TrL.v (v_move rfl rfl) rfl rfl (bl rfl) ?_
  obtain ⟨r21, hr21, H⟩ := bnd H
  refine TrL.cons rfl (op_callg' (fs := []) (vs := [.pointer (some ⟨m20, 0, none⟩)]) (cap := []) (Mr := []) [0] [] [1] rfl rfl rfl en51 (c_conf_Take ((p1.take ((p1.length : Int)).toNat, (0 : Int))) m20 (slA A1 0 ((p1.length : Int)).toNat 1) (((p1.length : Int)).toNat) r21 hr21) (by decide) rfl rfl rfl (bl rfl) (fun ret M' F' hR21 => ?_))
  obtain ⟨m21, rfl, rfl, rfl⟩ := hR21
  refine TrL.cons rfl (op_alloc' rfl (bl rfl) rfl ze91 (fun b2 => ?_))
  refine TrL.cons rfl (op_store' (k := 0) (c' := [.int .i64 r21.1, .int .i64 r21.2.1, .int .u64 r21.2.2.1, .int .u64 r21.2.2.2.1, .int .i64 r21.2.2.2.2.1, .int .i64 r21.2.2.2.2.2.1, .slice m21.1 r21.2.2.2.2.2.2.1.length m21.2.1, .int .i64 r21.2.2.2.2.2.2.2.1, .int .i64 r21.2.2.2.2.2.2.2.2.1]) rfl rfl rfl rfl rfl ty91 rfl (Nat.le_of_ble_eq_true rfl) (ones (oc rfl (oc rfl (oc rfl (oc rfl (oc rfl (oc rfl (oc rfl (oc rfl (oc rfl on)))))))))) rfl ?_)
  refine TrL.nil (qthen_n ?_)
  refine Tr.seq ?_
  refine Tr.seq ?_
  refine Tr.region ?_
  refine TrL.v (v_move rfl rfl) rfl rfl (bl rfl) ?_
  obtain ⟨r22, hr22, H⟩ := bnd H
  refine TrL.cons rfl (op_callg' (fs := []) (vs := [.pointer (some ⟨m20, 0, none⟩)]) (cap := []) (Mr := [cells b2 [.int .i64 r21.1, .int .i64 r21.2.1, .int .u64 r21.2.2.1, .int .u64 r21.2.2.2.1, .int .i64 r21.2.2.2.2.1, .int .i64 r21.2.2.2.2.2.1, .slice m21.1 r21.2.2.2.2.2.2.1.length m21.2.1, .int .i64 r21.2.2.2.2.2.2.2.1, .int .i64 r21.2.2.2.2.2.2.2.2.1] 91]) [1] [0] [3] rfl rfl rfl en32 (c_codec_Reader_Err r21.2.2.2.2.2.2.2.2.2 m20 m21.2.2.1 m21.2.2.2 r22 hr22) (by decide) rfl rfl rfl (bl rfl) (fun ret M' F' hR22 => ?_))
  obtain ⟨rfl, rfl, rfl⟩ := hR22
  refine TrL.v (v_arith rfl rfl rfl ar_neq) rfl rfl (bl rfl) ?_
  refine TrL.nil (qthen_n ?_)
  rcases ifc H with ⟨h18, H⟩ | ⟨h18, H⟩
  ·refine Tr.cond_t rfl (bt_dec h18) ?_
   refine Tr.seq ?_
   refine Tr.region ?_
   refine TrL.v (v_move rfl rfl) rfl rfl (bl rfl) ?_
   refine TrL.v (v_move rfl rfl) rfl rfl (bl rfl) ?_
   rcases ifc H with ⟨h20, H⟩ | ⟨h20, H⟩
   ·refine TrL.cons_yes rfl rfl rfl h20 (OpTr.v (v_load (k := 1) rfl rfl rfl ty91 nofun rfl rfl) rfl (bl rfl) ?_)
    refine TrL.cons_yes rfl rfl rfl h20 (OpTr.v (v_build (vs := []) (out := [.int .i64 0, .int .i64 0, .int .u64 0, .int .u64 0, .int .i64 0, .int .i64 0, .slice none 0 0, .int .i64 0, .int .i64 0]) rfl pl91 ze91 rfl rfl) rfl (bl rfl) ?_)
    refine TrL.addF' (slF rp_u64_u64 none 0 []) (nilF rp_u64_u64) ?_
    obtain ⟨r24, hr24, H⟩ := bnd H
    refine TrL.cons_yes rfl rfl rfl h20 (op_call0' (vs := [.agg #[.int .i64 r21.1, .int .i64 r21.2.1, .int .u64 r21.2.2.1, .int .u64 r21.2.2.2.1, .int .i64 r21.2.2.2.2.1, .int .i64 r21.2.2.2.2.2.1, .slice m21.1 r21.2.2.2.2.2.2.1.length m21.2.1, .int .i64 r21.2.2.2.2.2.2.2.1, .int .i64 r21.2.2.2.2.2.2.2.2.1], .agg #[.int .i64 0, .int .i64 0, .int .u64 0, .int .u64 0, .int .i64 0, .int .i64 0, .slice none 0 0, .int .i64 0, .int .i64 0]]) (cap := []) [2, 5] rfl rfl (bl rfl) rfl rfl en53 (c_ref21_Same ((r21.1, r21.2.1, r21.2.2.1, r21.2.2.2.1, r21.2.2.2.2.1, r21.2.2.2.2.2.1, r21.2.2.2.2.2.2.1, r21.2.2.2.2.2.2.2.1, r21.2.2.2.2.2.2.2.2.1)) (((0 : Int), (0 : Int), (0 : Int), (0 : Int), (0 : Int), (0 : Int), ([] : List (Int × Int)), (0 : Int), (0 : Int))) m21.1 m21.2.1 none 0 r24 hr24) rfl (fun ret M' F' hR24 => ?_))
    obtain ⟨rfl, rfl, rfl⟩ := hR24
    refine TrL.v (v_pick_t rfl rfl h20 rfl) rfl rfl (bl rfl) ?_
    refine TrL.v (v_assign rfl rfl) rfl rfl (bl rfl) ?_
    refine TrL.nil (qthen_n ?_)
    have hz := Option.some.inj H
    subst hz
    refine Tr.ret (qthen_r (ret_r ⟨[(2, .bool r24)], [], [], []⟩ [.bool r24] [] [] (Imp.re _ [] [] (sc rfl sn) (by decide) rfl rfl rfl) rfl rfl ⟨rfl, rfl, rfl⟩ (.cons (resv_tmp rfl) .nil)))
   ·refine TrL.cons_no rfl rfl rfl (gn_t (bf_b h20)) rfl (bl rfl) ?_
    refine TrL.cons_no rfl rfl rfl (gn_t (bf_b h20)) rfl (bl rfl) ?_
    refine TrL.cons_no rfl rfl rfl (gn_t (bf_b h20)) rfl (bl rfl) ?_
    refine TrL.v (v_pick_f rfl rfl (bf_b h20) rfl) rfl rfl (bl rfl) ?_
    refine TrL.v (v_assign rfl rfl) rfl rfl (bl rfl) ?_
    refine TrL.nil (qthen_n ?_)
    have hz := Option.some.inj H
    subst hz
    refine Tr.ret (qthen_r (ret_r ⟨[(2, .bool false)], [], [], []⟩ [.bool false] [] [] (Imp.re _ [] [] (sc rfl sn) (by decide) rfl rfl rfl) rfl rfl ⟨rfl, rfl, rfl⟩ (.cons (resv_tmp rfl) .nil)))
  ·refine Tr.cond_f rfl (bf_dec h18) ?_
   refine Tr.skip (qthen_n ?_)
   refine Tr.seq ?_
   refine Tr.re ⟨[(0, .slice A1 p1.length c1), (3, .bool r19), (4, .pointer (some ⟨m20, 0, none⟩)), (5, .pointer (some ⟨b2, 0, none⟩)), (6, .bool r19), (7, .slice A1 p1.length c1), (8, .int .i64 ((p1.length : Int))), (9, .bool (decide (200 < ((p1.length : Int))))), (11, .slice A1 p1.length c1), (12, .pointer (some ⟨m20, 0, none⟩)), (13, .pointer (some ⟨m20, 0, none⟩)), (14, .agg #[.int .i64 r21.1, .int .i64 r21.2.1, .int .u64 r21.2.2.1, .int .u64 r21.2.2.2.1, .int .i64 r21.2.2.2.2.1, .int .i64 r21.2.2.2.2.2.1, .slice m21.1 r21.2.2.2.2.2.2.1.length m21.2.1, .int .i64 r21.2.2.2.2.2.2.2.1, .int .i64 r21.2.2.2.2.2.2.2.2.1]), (15, .pointer (some ⟨m20, 0, none⟩)), (16, .int .i64 r21.2.2.2.2.2.2.2.2.2.2), (17, .bool (decide (¬ r21.2.2.2.2.2.2.2.2.2.2 = 0)))], [cells m20 [.slice m21.2.2.1 r21.2.2.2.2.2.2.2.2.2.1.length m21.2.2.2, .int .i64 r21.2.2.2.2.2.2.2.2.2.2] 116, cells b2 [.int .i64 r21.1, .int .i64 r21.2.1, .int .u64 r21.2.2.1, .int .u64 r21.2.2.2.1, .int .i64 r21.2.2.2.2.1, .int .i64 r21.2.2.2.2.2.1, .slice m21.1 r21.2.2.2.2.2.2.1.length m21.2.1, .int .i64 r21.2.2.2.2.2.2.2.1, .int .i64 r21.2.2.2.2.2.2.2.2.1] 91], [slF (rInt .u8) A1 c1 p1, slF (rInt .u8) (slA A1 0 ((p1.length : Int)).toNat 1) (((p1.length : Int)).toNat) (p1.take ((p1.length : Int)).toNat), slF rp_u64_u64 m21.1 m21.2.1 r21.2.2.2.2.2.2.1, slF (rInt .u8) m21.2.2.1 m21.2.2.2 r21.2.2.2.2.2.2.2.2.2.1, slF (rInt .u8) m21.2.2.1 m21.2.2.2 r21.2.2.2.2.2.2.2.2.2.1], []⟩ [0, 1] [0, 1, 2, 3, 4] (sc rfl (sc rfl (sc rfl (sc rfl (sc rfl (sc rfl (sc rfl (sc rfl (sc rfl (sc rfl (sc rfl (sc rfl (sc rfl (sc rfl (sc rfl sn))))))))))))))) (by decide) rfl rfl rfl ?_
   refine Tr.regionD drawn (fun hok => ?_)
   refine TrAny.prom (i := 0) (d := 24) hok (OpVal.plain rfl rfl (v_move rfl rfl)) (by kernel_rfl) rfl (bl rfl) ?_
   clear hok
   intro hok
   refine TrAny.prom (i := 1) (d := 25) hok (OpVal.plain rfl rfl (v_move rfl rfl)) (by kernel_rfl) rfl (bl rfl) ?_
   clear hok
   intro hok
   rcases ifc H with ⟨h30, H⟩ | ⟨h30, H⟩
   ·refine TrAny.prom (i := 2) (d := 26) hok (OpVal.yes rfl rfl rfl rfl h30 (v_load (k := 1) rfl rfl rfl ty91 nofun rfl rfl)) (by kernel_rfl) rfl (bl rfl) ?_
    clear hok
    intro hok
    obtain ⟨r34, hr34, H⟩ := bnd H
    refine TrAny.nextY (j := 3) (by kernel_rfl) hok rfl (by kernel_rfl) rfl rfl rfl h30 (op_call0' (vs := [.agg #[.int .i64 r21.1, .int .i64 r21.2.1, .int .u64 r21.2.2.1, .int .u64 r21.2.2.2.1, .int .i64 r21.2.2.2.2.1, .int .i64 r21.2.2.2.2.2.1, .slice m21.1 r21.2.2.2.2.2.2.1.length m21.2.1, .int .i64 r21.2.2.2.2.2.2.2.1, .int .i64 r21.2.2.2.2.2.2.2.2.1]]) (cap := []) [2] rfl rfl (bl rfl) rfl rfl en48 (c_ref21_Check ((r21.1, r21.2.1, r21.2.2.1, r21.2.2.2.1, r21.2.2.2.2.1, r21.2.2.2.2.2.1, r21.2.2.2.2.2.2.1, r21.2.2.2.2.2.2.2.1, r21.2.2.2.2.2.2.2.2.1)) m21.1 m21.2.1 r34 hr34) rfl (fun ret M' F' hR34 => ?_))
    obtain ⟨rfl, rfl, rfl⟩ := hR34
    refine nxp hok (kp_imp (kp_c0 rfl)) rfl (by kernel_rfl) ?_
    clear hok
    intro hok
    refine TrAny.prom (i := 4) (d := 28) hok (OpVal.yes rfl rfl rfl rfl h30 (v_arith rfl rfl rfl ar_eql)) (by kernel_rfl) rfl (bl rfl) ?_
    clear hok
    intro hok
    refine TrAny.prom (i := 5) (d := 29) hok (OpVal.plain rfl rfl (v_pick_t rfl rfl h30 rfl)) (by kernel_rfl) rfl (bl rfl) ?_
    clear hok
    intro hok
    refine TrAny.prom (i := 6) (d := 30) hok (OpVal.plain rfl rfl (v_move rfl rfl)) (by kernel_rfl) rfl (bl rfl) ?_
    clear hok
    intro hok
    rcases ifc H with ⟨h31, H⟩ | ⟨h31, H⟩
    ·refine TrAny.prom (i := 7) (d := 31) hok (OpVal.yes rfl rfl rfl rfl (bt_dec h31) (v_load (k := 1) rfl rfl rfl ty91 nofun rfl rfl)) (by kernel_rfl) rfl (bl rfl) ?_
     clear hok
     intro hok
     refine TrAny.prom (i := 10) (d := 34) hok (OpVal.yes rfl rfl rfl rfl (bt_dec h31) (v_move rfl rfl)) (by kernel_rfl) rfl (bl rfl) ?_
     clear hok
     intro hok
     refine TrAny.prom (i := 11) (d := 35) hok (OpVal.yes rfl rfl rfl rfl (bt_dec h31) (v_move rfl rfl)) (by kernel_rfl) rfl (bl rfl) ?_
     clear hok
     intro hok
     refine TrAny.prom (i := 12) (d := 36) hok (OpVal.yes rfl rfl rfl rfl (bt_dec h31) (v_len rfl sl40 rfl)) (by kernel_rfl) rfl (bl rfl) ?_
     clear hok
     intro hok
     refine TrAny.prom (i := 13) (d := 37) hok (OpVal.yes rfl rfl rfl rfl (bt_dec h31) (v_move rfl rfl)) (by kernel_rfl) rfl (bl rfl) ?_
     clear hok
     intro hok
     obtain ⟨r35, hr35, H⟩ := bnd H
     refine TrAny.nextY (j := 8) (by kernel_rfl) hok rfl (by kernel_rfl) rfl rfl rfl (bt_dec h31) (op_call0' (vs := [.agg #[.int .i64 r21.1, .int .i64 r21.2.1, .int .u64 r21.2.2.1, .int .u64 r21.2.2.2.1, .int .i64 r21.2.2.2.2.1, .int .i64 r21.2.2.2.2.2.1, .slice m21.1 r21.2.2.2.2.2.2.1.length m21.2.1, .int .i64 r21.2.2.2.2.2.2.2.1, .int .i64 r21.2.2.2.2.2.2.2.2.1]]) (cap := []) [2] rfl rfl (bl rfl) rfl rfl en49 (c_conf_Put ((r21.1, r21.2.1, r21.2.2.1, r21.2.2.2.1, r21.2.2.2.2.1, r21.2.2.2.2.2.1, r21.2.2.2.2.2.2.1, r21.2.2.2.2.2.2.2.1, r21.2.2.2.2.2.2.2.2.1)) m21.1 m21.2.1 r35 hr35) rfl (fun ret M' F' hR35 => ?_))
     obtain ⟨m35, rfl, rfl, rfl⟩ := hR35
     refine nxp hok (kp_imp (kp_c0 rfl)) rfl (by kernel_rfl) ?_
     clear hok
     intro hok
     refine TrAny.prom (i := 9) (d := 33) hok (OpVal.yes rfl rfl rfl rfl (bt_dec h31) (v_bstr (k := 5) rfl Try.underlying40 Try.underlying5 Try.underlying9 rfl rfl rfl)) (by kernel_rfl) rfl (bl rfl) ?_
     clear hok
     intro hok
     obtain ⟨r36, hr36, H⟩ := bnd H
     refine TrAny.nextY (j := 14) (by kernel_rfl) hok rfl (by kernel_rfl) rfl rfl rfl (bt_dec h31) (op_callg' (fs := []) (vs := [.pointer (some ⟨m20, 0, none⟩)]) (cap := []) (Mr := [cells b2 [.int .i64 r21.1, .int .i64 r21.2.1, .int .u64 r21.2.2.1, .int .u64 r21.2.2.2.1, .int .i64 r21.2.2.2.2.1, .int .i64 r21.2.2.2.2.2.1, .slice m21.1 r21.2.2.2.2.2.2.1.length m21.2.1, .int .i64 r21.2.2.2.2.2.2.2.1, .int .i64 r21.2.2.2.2.2.2.2.2.1] 91]) [0] [1] [3] rfl rfl rfl en31 (c_codec_Reader_Left r21.2.2.2.2.2.2.2.2.2 m20 m21.2.2.1 m21.2.2.2 r36 hr36) (by decide) rfl rfl rfl (bl rfl) (fun ret M' F' hR36 => ?_))
     obtain ⟨rfl, rfl, rfl⟩ := hR36
     refine nxp hok (by first | exact (kp_imp (kp_cc [0, 1] rfl (by decide) rfl)) | exact (kp_allE [(0, 24, .bool r19), (1, 25, .bool r19), (2, 26, .agg #[.int .i64 r21.1, .int .i64 r21.2.1, .int .u64 r21.2.2.1, .int .u64 r21.2.2.2.1, .int .i64 r21.2.2.2.2.1, .int .i64 r21.2.2.2.2.2.1, .slice m21.1 r21.2.2.2.2.2.2.1.length m21.2.1, .int .i64 r21.2.2.2.2.2.2.2.1, .int .i64 r21.2.2.2.2.2.2.2.2.1]), (4, 28, .bool (decide (r34 = 0))), (5, 29, .bool (decide (r34 = 0))), (6, 30, .bool (decide (r34 = 0))), (7, 31, .agg #[.int .i64 r21.1, .int .i64 r21.2.1, .int .u64 r21.2.2.1, .int .u64 r21.2.2.2.1, .int .i64 r21.2.2.2.2.1, .int .i64 r21.2.2.2.2.2.1, .slice m21.1 r21.2.2.2.2.2.2.1.length m21.2.1, .int .i64 r21.2.2.2.2.2.2.2.1, .int .i64 r21.2.2.2.2.2.2.2.2.1]), (10, 34, .slice A1 p1.length c1), (11, 35, .slice A1 p1.length c1), (12, 36, .int .i64 ((p1.length : Int))), (13, 37, .pointer (some ⟨m20, 0, none⟩)), (9, 33, .string (bstr r35))] (by kernel_rfl) (ac (.inr (OpVal.plain rfl rfl (v_move rfl rfl))) (ac (.inr (OpVal.plain rfl rfl (v_move rfl rfl))) (ac (.inr (OpVal.yes rfl rfl rfl rfl h30 (v_load (k := 1) rfl rfl rfl ty91 nofun rfl rfl))) (ac (.inr (OpVal.yes rfl rfl rfl rfl h30 (v_arith rfl rfl rfl ar_eql))) (ac (.inr (OpVal.plain rfl rfl (v_pick_t rfl rfl h30 rfl))) (ac (.inl (by kernel_rfl)) (ac (.inr (OpVal.yes rfl rfl rfl rfl (bt_dec h31) (v_load (k := 1) rfl rfl rfl ty91 nofun rfl rfl))) (ac (.inr (OpVal.yes rfl rfl rfl rfl (bt_dec h31) (v_move rfl rfl))) (ac (.inr (OpVal.yes rfl rfl rfl rfl (bt_dec h31) (v_move rfl rfl))) (ac (.inr (OpVal.yes rfl rfl rfl rfl (bt_dec h31) (v_len rfl sl40 rfl))) (ac (.inl (by kernel_rfl)) (ac (.inr (OpVal.yes rfl rfl rfl rfl (bt_dec h31) (v_bstr (k := 5) rfl Try.underlying40 Try.underlying5 Try.underlying9 rfl rfl rfl))) an)))))))))))))) rfl (by kernel_rfl) ?_
     clear hok
     intro hok
     refine TrAny.prom (i := 15) (d := 39) hok (OpVal.yes rfl rfl rfl rfl (bt_dec h31) (v_arith rfl rfl rfl ar_sub_i64)) (by kernel_rfl) rfl (bl rfl) ?_
     clear hok
     intro hok
     obtain ⟨h32, H⟩ := mst H
     refine TrAny.addF' (slF (rInt .u8) (slA A1 0 c1 1) c1 (p1.take (wi64 (((p1.length : Int)) - ((r21.2.2.2.2.2.2.2.2.2.1.length : Int)))).toNat)) (slx2_f (k := 0) rfl h32) hok (fun hok => ?_)
     refine TrAny.prom (i := 16) (d := 40) hok (OpVal.yes rfl rfl rfl rfl (bt_dec h31) (slx2_v (rp := (rInt .u8)) (xs := p1) (k := 0) rfl sl40 ty5 rfl rfl rfl h32 rfl)) (by kernel_rfl) rfl (bl rfl) ?_
     clear hok
     intro hok
     refine TrAny.prom (i := 17) (d := 41) hok (OpVal.yes rfl rfl rfl rfl (bt_dec h31) (v_bstr (k := 7) rfl Try.underlying40 Try.underlying5 Try.underlying9 rfl rfl rfl)) (by kernel_rfl) rfl (bl rfl) ?_
     clear hok
     intro hok
     refine TrAny.prom (i := 18) (d := 42) hok (OpVal.yes rfl rfl rfl rfl (bt_dec h31) (v_streq rfl rfl rfl)) (by kernel_rfl) rfl (bl rfl) ?_
     clear hok
     intro hok
     refine TrAny.prom (i := 19) (d := 43) hok (OpVal.plain rfl rfl (v_pick_t rfl rfl (bt_dec h31) rfl)) (by kernel_rfl) rfl (bl rfl) ?_
     clear hok
     intro hok
     refine TrAny.prom (i := 20) (d := 2) hok (OpVal.plain rfl rfl (v_assign rfl rfl)) (by kernel_rfl) rfl (bl rfl) ?_
     clear hok
     intro hok
     refine TrAny.done (by kernel_rfl) (by kernel_rfl) hok (by kernel_rfl) (qthen_n ?_)
     have hz := Option.some.inj H
     subst hz
     refine Tr.ret (ret_r ⟨[(2, .bool (decide ((bstr r35) = (bstr (p1.take (wi64 (((p1.length : Int)) - ((r21.2.2.2.2.2.2.2.2.2.1.length : Int)))).toNat)))))], [], [], []⟩ [.bool (decide ((bstr r35) = (bstr (p1.take (wi64 (((p1.length : Int)) - ((r21.2.2.2.2.2.2.2.2.2.1.length : Int)))).toNat))))] [] [] (Imp.re _ [] [] (sc rfl sn) (by decide) rfl rfl rfl) rfl rfl ⟨rfl, rfl, rfl⟩ (.cons (resv_tmp rfl) .nil))
    ·refine TrAny.prom (i := 7) (d := 31) hok (OpVal.no rfl (fun c h => by cases h) rfl rfl rfl (gn_t (bf_dec h31))) (by kernel_rfl) rfl (bl rfl) ?_
     clear hok
     intro hok
     refine TrAny.prom (i := 8) (d := 32) hok (OpVal.no rfl (fun c h => by cases h) rfl rfl rfl (gn_t (bf_dec h31))) (by kernel_rfl) rfl (bl rfl) ?_
     clear hok
     intro hok
     refine TrAny.prom (i := 9) (d := 33) hok (OpVal.no rfl (fun c h => by cases h) rfl rfl rfl (gn_t (bf_dec h31))) (by kernel_rfl) rfl (bl rfl) ?_
     clear hok
     intro hok
     refine TrAny.prom (i := 10) (d := 34) hok (OpVal.no rfl (fun c h => by cases h) rfl rfl rfl (gn_t (bf_dec h31))) (by kernel_rfl) rfl (bl rfl) ?_
     clear hok
     intro hok
     refine TrAny.prom (i := 11) (d := 35) hok (OpVal.no rfl (fun c h => by cases h) rfl rfl rfl (gn_t (bf_dec h31))) (by kernel_rfl) rfl (bl rfl) ?_
     clear hok
     intro hok
     refine TrAny.prom (i := 12) (d := 36) hok (OpVal.no rfl (fun c h => by cases h) rfl rfl rfl (gn_t (bf_dec h31))) (by kernel_rfl) rfl (bl rfl) ?_
     clear hok
     intro hok
     refine TrAny.prom (i := 13) (d := 37) hok (OpVal.no rfl (fun c h => by cases h) rfl rfl rfl (gn_t (bf_dec h31))) (by kernel_rfl) rfl (bl rfl) ?_
     clear hok
     intro hok
     refine TrAny.prom (i := 14) (d := 38) hok (OpVal.no rfl (fun c h => by cases h) rfl rfl rfl (gn_t (bf_dec h31))) (by kernel_rfl) rfl (bl rfl) ?_
     clear hok
     intro hok
     refine TrAny.prom (i := 15) (d := 39) hok (OpVal.no rfl (fun c h => by cases h) rfl rfl rfl (gn_t (bf_dec h31))) (by kernel_rfl) rfl (bl rfl) ?_
     clear hok
     intro hok
     refine TrAny.prom (i := 16) (d := 40) hok (OpVal.no rfl (fun c h => by cases h) rfl rfl rfl (gn_t (bf_dec h31))) (by kernel_rfl) rfl (bl rfl) ?_
     clear hok
     intro hok
     refine TrAny.prom (i := 17) (d := 41) hok (OpVal.no rfl (fun c h => by cases h) rfl rfl rfl (gn_t (bf_dec h31))) (by kernel_rfl) rfl (bl rfl) ?_
     clear hok
     intro hok
     refine TrAny.prom (i := 18) (d := 42) hok (OpVal.no rfl (fun c h => by cases h) rfl rfl rfl (gn_t (bf_dec h31))) (by kernel_rfl) rfl (bl rfl) ?_
     clear hok
     intro hok
     refine TrAny.prom (i := 19) (d := 43) hok (OpVal.plain rfl rfl (v_pick_f rfl rfl (bf_dec h31) rfl)) (by kernel_rfl) rfl (bl rfl) ?_
     clear hok
     intro hok
     refine TrAny.prom (i := 20) (d := 2) hok (OpVal.plain rfl rfl (v_assign rfl rfl)) (by kernel_rfl) rfl (bl rfl) ?_
     clear hok
     intro hok
     refine TrAny.done (by kernel_rfl) (by kernel_rfl) hok (by kernel_rfl) (qthen_n ?_)
     have hz := Option.some.inj H
     subst hz
     refine Tr.ret (ret_r ⟨[(2, .bool false)], [], [], []⟩ [.bool false] [] [] (Imp.re _ [] [] (sc rfl sn) (by decide) rfl rfl rfl) rfl rfl ⟨rfl, rfl, rfl⟩ (.cons (resv_tmp rfl) .nil))
   ·refine TrAny.prom (i := 2) (d := 26) hok (OpVal.no rfl (fun c h => by cases h) rfl rfl rfl (gn_t (bf_b h30))) (by kernel_rfl) rfl (bl rfl) ?_
    clear hok
    intro hok
    refine TrAny.prom (i := 3) (d := 27) hok (OpVal.no rfl (fun c h => by cases h) rfl rfl rfl (gn_t (bf_b h30))) (by kernel_rfl) rfl (bl rfl) ?_
    clear hok
    intro hok
    refine TrAny.prom (i := 4) (d := 28) hok (OpVal.no rfl (fun c h => by cases h) rfl rfl rfl (gn_t (bf_b h30))) (by kernel_rfl) rfl (bl rfl) ?_
    clear hok
    intro hok
    refine TrAny.prom (i := 5) (d := 29) hok (OpVal.plain rfl rfl (v_pick_f rfl rfl (bf_b h30) rfl)) (by kernel_rfl) rfl (bl rfl) ?_
    clear hok
    intro hok
    refine TrAny.prom (i := 6) (d := 30) hok (OpVal.plain rfl rfl (v_move rfl rfl)) (by kernel_rfl) rfl (bl rfl) ?_
    clear hok
    intro hok
    refine TrAny.prom (i := 7) (d := 31) hok (OpVal.no rfl (fun c h => by cases h) rfl rfl rfl (gn_t rfl)) (by kernel_rfl) rfl (bl rfl) ?_
    clear hok
    intro hok
    refine TrAny.prom (i := 8) (d := 32) hok (OpVal.no rfl (fun c h => by cases h) rfl rfl rfl (gn_t rfl)) (by kernel_rfl) rfl (bl rfl) ?_
    clear hok
    intro hok
    refine TrAny.prom (i := 9) (d := 33) hok (OpVal.no rfl (fun c h => by cases h) rfl rfl rfl (gn_t rfl)) (by kernel_rfl) rfl (bl rfl) ?_
    clear hok
    intro hok
    refine TrAny.prom (i := 10) (d := 34) hok (OpVal.no rfl (fun c h => by cases h) rfl rfl rfl (gn_t rfl)) (by kernel_rfl) rfl (bl rfl) ?_
    clear hok
    intro hok
    refine TrAny.prom (i := 11) (d := 35) hok (OpVal.no rfl (fun c h => by cases h) rfl rfl rfl (gn_t rfl)) (by kernel_rfl) rfl (bl rfl) ?_
    clear hok
    intro hok
    refine TrAny.prom (i := 12) (d := 36) hok (OpVal.no rfl (fun c h => by cases h) rfl rfl rfl (gn_t rfl)) (by kernel_rfl) rfl (bl rfl) ?_
    clear hok
    intro hok
    refine TrAny.prom (i := 13) (d := 37) hok (OpVal.no rfl (fun c h => by cases h) rfl rfl rfl (gn_t rfl)) (by kernel_rfl) rfl (bl rfl) ?_
    clear hok
    intro hok
    refine TrAny.prom (i := 14) (d := 38) hok (OpVal.no rfl (fun c h => by cases h) rfl rfl rfl (gn_t rfl)) (by kernel_rfl) rfl (bl rfl) ?_
    clear hok
    intro hok
    refine TrAny.prom (i := 15) (d := 39) hok (OpVal.no rfl (fun c h => by cases h) rfl rfl rfl (gn_t rfl)) (by kernel_rfl) rfl (bl rfl) ?_
    clear hok
    intro hok
    refine TrAny.prom (i := 16) (d := 40) hok (OpVal.no rfl (fun c h => by cases h) rfl rfl rfl (gn_t rfl)) (by kernel_rfl) rfl (bl rfl) ?_
    clear hok
    intro hok
    refine TrAny.prom (i := 17) (d := 41) hok (OpVal.no rfl (fun c h => by cases h) rfl rfl rfl (gn_t rfl)) (by kernel_rfl) rfl (bl rfl) ?_
    clear hok
    intro hok
    refine TrAny.prom (i := 18) (d := 42) hok (OpVal.no rfl (fun c h => by cases h) rfl rfl rfl (gn_t rfl)) (by kernel_rfl) rfl (bl rfl) ?_
    clear hok
    intro hok
    refine TrAny.prom (i := 19) (d := 43) hok (OpVal.plain rfl rfl (v_pick_f rfl rfl rfl rfl)) (by kernel_rfl) rfl (bl rfl) ?_
    clear hok
    intro hok
    refine TrAny.prom (i := 20) (d := 2) hok (OpVal.plain rfl rfl (v_assign rfl rfl)) (by kernel_rfl) rfl (bl rfl) ?_
    clear hok
    intro hok
    refine TrAny.done (by kernel_rfl) (by kernel_rfl) hok (by kernel_rfl) (qthen_n ?_)
    have hz := Option.some.inj H
    subst hz
    refine Tr.ret (ret_r ⟨[(2, .bool false)], [], [], []⟩ [.bool false] [] [] (Imp.re _ [] [] (sc rfl sn) (by decide) rfl rfl rfl) rfl rfl ⟨rfl, rfl, rfl⟩ (.cons (resv_tmp rfl) .nil))
end Go.Proofs.Ytbeknohemgjfbaa.W
