import Derived.Test.YtbeknohemgjfbaaKcv
import Derived.Test.YtbeknohemgjfbaaQcv
import Derived.Test.YtbeknohemgjfbaaWconfecv
import Derived.Test.YtbeknohemgjfbaaWconffcv
import Derived.Test.YtbeknohemgjfbaaWlaw21acv
import Derived.Test.YtbeknohemgjfbaaWref21acv
namespace Go.Proofs.Ytbeknohemgjfbaa.W
open Go Go.Proofs Go.Proofs.Ytbeknohemgjfbaa.L Go.Proofs.Ytbeknohemgjfbaa.Pu
set_option linter.unusedVariables false
set_option maxHeartbeats 4000000

theorem c_law21_ConfChecks (p1 : Int × Int × Int × Int × Int × Int × (List (Int × Int)) × Int × Int) (A1 : Option Addr) (c1 : Nat) (r : Bool) (H : law21_ConfChecks p1 = some r) :
  Ctr Try.prog 10 [.agg #[.int .i64 p1.1, .int .i64 p1.2.1, .int .u64 p1.2.2.1, .int .u64 p1.2.2.2.1, .int .i64 p1.2.2.2.2.1, .int .i64 p1.2.2.2.2.2.1, .slice A1 p1.2.2.2.2.2.2.1.length c1, .int .i64 p1.2.2.2.2.2.2.2.1, .int .i64 p1.2.2.2.2.2.2.2.2]] [] [slF rp_u64_u64 A1 c1 p1.2.2.2.2.2.2.1] (fun ret M' F' => ret = .bool r ∧ M' = [] ∧ F' = []) := by
 unfold law21_ConfChecks at H
 refine ctr_ofI (N := 27) Try.func10 rfl Try.ntmps10 rfl (Nat.le_of_ble_eq_true rfl) (fun γ0 w0 => ?_)
 refine Tr.seq ?_
 refine Tr.region ?_
 refine TrL.cons rfl (op_box' rfl (bl rfl) rfl rfl rfl (fun b2 => ?_))
 refine TrL.v (v_assign rfl rfl) rfl rfl (bl rfl) ?_
 refine TrL.nil (qthen_n ?_)
 refine Tr.seq ?_
 refine Tr.region ?_
 obtain ⟨r18, hr18, H⟩ := bnd H
 refine TrL.cons rfl (op_call0' (vs := []) (cap := []) [] rfl rfl (bl rfl) rfl rfl en46 (c_law21_awake r18 hr18) rfl (fun ret M' F' hR18 => ?_))
 obtain ⟨rfl, rfl, rfl⟩ := hR18
 refine TrL.v (v_assign rfl rfl) rfl rfl (bl rfl) ?_
 refine TrL.nil (qthen_n ?_)
 refine Tr.seq ?_
 refine Tr.seq ?_
 refine Tr.region ?_
 refine TrL.v (v_fieldAddr' rfl fo91_6 rfl rfl) rfl rfl (bl rfl) ?_
 refine TrL.v (v_load (k := 0) rfl rfl rfl ty89 (fun _ => rfl) rfl rfl) rfl rfl (bl rfl) ?_
 refine TrL.v (v_len rfl sl89 rfl) rfl rfl (bl rfl) ?_
 refine TrL.v (v_arith rfl rfl rfl ar_gtr) rfl rfl (bl rfl) ?_
 refine TrL.nil (qthen_n ?_)
 rcases ifc H with ⟨h10, H⟩ | ⟨h10, H⟩
 ·refine Tr.cond_t rfl (bt_dec h10) ?_
  refine Tr.seq ?_
  refine Tr.region ?_
  refine TrL.v (v_move rfl rfl) rfl rfl (bl rfl) ?_
  refine TrL.v (v_assign rfl rfl) rfl rfl (bl rfl) ?_
  refine TrL.nil (qthen_n ?_)
  have hz := Option.some.inj H
  subst hz
  refine Tr.ret (qthen_r (ret_r ⟨[(2, .bool r18)], [], [], []⟩ [.bool r18] [] [] (Imp.re _ [] [] (sc rfl sn) (by decide) rfl rfl rfl) rfl rfl ⟨rfl, rfl, rfl⟩ (.cons (resv_tmp rfl) .nil)))
 ·refine Tr.cond_f rfl (bf_dec h10) ?_
  refine Tr.skip (qthen_n ?_)
  refine Tr.seq ?_
  refine Tr.re ⟨[(0, .agg #[.int .i64 p1.1, .int .i64 p1.2.1, .int .u64 p1.2.2.1, .int .u64 p1.2.2.2.1, .int .i64 p1.2.2.2.2.1, .int .i64 p1.2.2.2.2.2.1, .slice A1 p1.2.2.2.2.2.2.1.length c1, .int .i64 p1.2.2.2.2.2.2.2.1, .int .i64 p1.2.2.2.2.2.2.2.2]), (1, .pointer (some ⟨b2, 0, none⟩)), (3, .bool r18), (4, .bool r18), (5, .pointer (some ⟨b2, 6, none⟩)), (6, .slice A1 p1.2.2.2.2.2.2.1.length c1), (7, .int .i64 ((p1.2.2.2.2.2.2.1.length : Int))), (8, .bool (decide (20 < ((p1.2.2.2.2.2.2.1.length : Int)))))], [cells b2 [.int .i64 p1.1, .int .i64 p1.2.1, .int .u64 p1.2.2.1, .int .u64 p1.2.2.2.1, .int .i64 p1.2.2.2.2.1, .int .i64 p1.2.2.2.2.2.1, .slice A1 p1.2.2.2.2.2.2.1.length c1, .int .i64 p1.2.2.2.2.2.2.2.1, .int .i64 p1.2.2.2.2.2.2.2.2] 91], [slF rp_u64_u64 A1 c1 p1.2.2.2.2.2.2.1], []⟩ [0] [0] (sc rfl (sc rfl (sc rfl (sc rfl (sc rfl (sc rfl (sc rfl (sc rfl sn)))))))) (by decide) rfl rfl rfl ?_
  refine Tr.regionD drawn (fun hok => ?_)
  refine TrAny.prom (i := 0) (d := 10) hok (OpVal.plain rfl rfl (v_move rfl rfl)) (by kernel_rfl) rfl (bl rfl) ?_
  clear hok
  intro hok
  refine TrAny.prom (i := 1) (d := 11) hok (OpVal.plain rfl rfl (v_move rfl rfl)) (by kernel_rfl) rfl (bl rfl) ?_
  clear hok
  intro hok
  rcases ifc H with ⟨h17, H⟩ | ⟨h17, H⟩
  ·refine TrAny.prom (i := 2) (d := 12) hok (OpVal.yes rfl rfl rfl rfl h17 (v_load (k := 0) rfl rfl rfl ty91 nofun rfl rfl)) (by kernel_rfl) rfl (bl rfl) ?_
   clear hok
   intro hok
   refine TrAny.prom (i := 4) (d := 14) hok (OpVal.yes rfl rfl rfl rfl h17 (v_load (k := 0) rfl rfl rfl ty91 nofun rfl rfl)) (by kernel_rfl) rfl (bl rfl) ?_
   clear hok
   intro hok
   obtain ⟨r31, hr31, H⟩ := bnd H
   refine TrAny.nextY (j := 3) (by kernel_rfl) hok rfl (by kernel_rfl) rfl rfl rfl h17 (op_call0' (vs := [.agg #[.int .i64 p1.1, .int .i64 p1.2.1, .int .u64 p1.2.2.1, .int .u64 p1.2.2.2.1, .int .i64 p1.2.2.2.2.1, .int .i64 p1.2.2.2.2.2.1, .slice A1 p1.2.2.2.2.2.2.1.length c1, .int .i64 p1.2.2.2.2.2.2.2.1, .int .i64 p1.2.2.2.2.2.2.2.2]]) (cap := []) [0] rfl rfl (bl rfl) rfl rfl en47 (c_conf_Check p1 A1 c1 r31 hr31) rfl (fun ret M' F' hR31 => ?_))
   obtain ⟨rfl, rfl, rfl⟩ := hR31
   refine nxp hok (kp_imp (kp_c0 rfl)) rfl (by kernel_rfl) ?_
   clear hok
   intro hok
   obtain ⟨r32, hr32, H⟩ := bnd H
   refine TrAny.nextY (j := 5) (by kernel_rfl) hok rfl (by kernel_rfl) rfl rfl rfl h17 (op_call0' (vs := [.agg #[.int .i64 p1.1, .int .i64 p1.2.1, .int .u64 p1.2.2.1, .int .u64 p1.2.2.2.1, .int .i64 p1.2.2.2.2.1, .int .i64 p1.2.2.2.2.2.1, .slice A1 p1.2.2.2.2.2.2.1.length c1, .int .i64 p1.2.2.2.2.2.2.2.1, .int .i64 p1.2.2.2.2.2.2.2.2]]) (cap := []) [0] rfl rfl (bl rfl) rfl rfl en48 (c_ref21_Check p1 A1 c1 r32 hr32) rfl (fun ret M' F' hR32 => ?_))
   obtain ⟨rfl, rfl, rfl⟩ := hR32
   refine nxp hok (kp_imp (kp_c0 rfl)) rfl (by kernel_rfl) ?_
   clear hok
   intro hok
   refine TrAny.prom (i := 6) (d := 16) hok (OpVal.yes rfl rfl rfl rfl h17 (v_arith rfl rfl rfl ar_eql)) (by kernel_rfl) rfl (bl rfl) ?_
   clear hok
   intro hok
   refine TrAny.prom (i := 7) (d := 17) hok (OpVal.plain rfl rfl (v_pick_t rfl rfl h17 rfl)) (by kernel_rfl) rfl (bl rfl) ?_
   clear hok
   intro hok
   refine TrAny.prom (i := 8) (d := 18) hok (OpVal.plain rfl rfl (v_move rfl rfl)) (by kernel_rfl) rfl (bl rfl) ?_
   clear hok
   intro hok
   rcases ifc H with ⟨h18, H⟩ | ⟨h18, H⟩
   ·refine TrAny.prom (i := 9) (d := 19) hok (OpVal.yes rfl rfl rfl rfl (bt_dec h18) (v_load (k := 0) rfl rfl rfl ty91 nofun rfl rfl)) (by kernel_rfl) rfl (bl rfl) ?_
    clear hok
    intro hok
    refine TrAny.prom (i := 12) (d := 22) hok (OpVal.yes rfl rfl rfl rfl (bt_dec h18) (v_load (k := 0) rfl rfl rfl ty91 nofun rfl rfl)) (by kernel_rfl) rfl (bl rfl) ?_
    clear hok
    intro hok
    obtain ⟨r33, hr33, H⟩ := bnd H
    refine TrAny.nextY (j := 10) (by kernel_rfl) hok rfl (by kernel_rfl) rfl rfl rfl (bt_dec h18) (op_call0' (vs := [.agg #[.int .i64 p1.1, .int .i64 p1.2.1, .int .u64 p1.2.2.1, .int .u64 p1.2.2.2.1, .int .i64 p1.2.2.2.2.1, .int .i64 p1.2.2.2.2.2.1, .slice A1 p1.2.2.2.2.2.2.1.length c1, .int .i64 p1.2.2.2.2.2.2.2.1, .int .i64 p1.2.2.2.2.2.2.2.2]]) (cap := []) [0] rfl rfl (bl rfl) rfl rfl en49 (c_conf_Put p1 A1 c1 r33 hr33) rfl (fun ret M' F' hR33 => ?_))
    obtain ⟨m33, rfl, rfl, rfl⟩ := hR33
    refine nxp hok (kp_imp (kp_c0 rfl)) rfl (by kernel_rfl) ?_
    clear hok
    intro hok
    refine TrAny.prom (i := 11) (d := 21) hok (OpVal.yes rfl rfl rfl rfl (bt_dec h18) (v_bstr (k := 1) rfl Try.underlying40 Try.underlying5 Try.underlying9 rfl rfl rfl)) (by kernel_rfl) rfl (bl rfl) ?_
    clear hok
    intro hok
    obtain ⟨r34, hr34, H⟩ := bnd H
    refine TrAny.nextY (j := 13) (by kernel_rfl) hok rfl (by kernel_rfl) rfl rfl rfl (bt_dec h18) (op_call0' (vs := [.agg #[.int .i64 p1.1, .int .i64 p1.2.1, .int .u64 p1.2.2.1, .int .u64 p1.2.2.2.1, .int .i64 p1.2.2.2.2.1, .int .i64 p1.2.2.2.2.2.1, .slice A1 p1.2.2.2.2.2.2.1.length c1, .int .i64 p1.2.2.2.2.2.2.2.1, .int .i64 p1.2.2.2.2.2.2.2.2]]) (cap := []) [0] rfl rfl (bl rfl) rfl rfl en50 (c_ref21_Put p1 A1 c1 r34 hr34) rfl (fun ret M' F' hR34 => ?_))
    obtain ⟨m34, rfl, rfl, rfl⟩ := hR34
    refine nxp hok (kp_imp (kp_c0 rfl)) rfl (by kernel_rfl) ?_
    clear hok
    intro hok
    refine TrAny.prom (i := 14) (d := 24) hok (OpVal.yes rfl rfl rfl rfl (bt_dec h18) (v_bstr (k := 2) rfl Try.underlying40 Try.underlying5 Try.underlying9 rfl rfl rfl)) (by kernel_rfl) rfl (bl rfl) ?_
    clear hok
    intro hok
    refine TrAny.prom (i := 15) (d := 25) hok (OpVal.yes rfl rfl rfl rfl (bt_dec h18) (v_streq rfl rfl rfl)) (by kernel_rfl) rfl (bl rfl) ?_
    clear hok
    intro hok
    refine TrAny.prom (i := 16) (d := 26) hok (OpVal.plain rfl rfl (v_pick_t rfl rfl (bt_dec h18) rfl)) (by kernel_rfl) rfl (bl rfl) ?_
    clear hok
    intro hok
    refine TrAny.prom (i := 17) (d := 2) hok (OpVal.plain rfl rfl (v_assign rfl rfl)) (by kernel_rfl) rfl (bl rfl) ?_
    clear hok
    intro hok
    refine TrAny.done (by kernel_rfl) (by kernel_rfl) hok (by kernel_rfl) (qthen_n ?_)
    have hz := Option.some.inj H
    subst hz
    refine Tr.ret (ret_r ⟨[(2, .bool (decide ((bstr r33) = (bstr r34))))], [], [], []⟩ [.bool (decide ((bstr r33) = (bstr r34)))] [] [] (Imp.re _ [] [] (sc rfl sn) (by decide) rfl rfl rfl) rfl rfl ⟨rfl, rfl, rfl⟩ (.cons (resv_tmp rfl) .nil))
   ·refine TrAny.prom (i := 9) (d := 19) hok (OpVal.no rfl (fun c h => by cases h) rfl rfl rfl (gn_t (bf_dec h18))) (by kernel_rfl) rfl (bl rfl) ?_
    clear hok
    intro hok
    refine TrAny.prom (i := 10) (d := 20) hok (OpVal.no rfl (fun c h => by cases h) rfl rfl rfl (gn_t (bf_dec h18))) (by kernel_rfl) rfl (bl rfl) ?_
    clear hok
    intro hok
    refine TrAny.prom (i := 11) (d := 21) hok (OpVal.no rfl (fun c h => by cases h) rfl rfl rfl (gn_t (bf_dec h18))) (by kernel_rfl) rfl (bl rfl) ?_
    clear hok
    intro hok
    refine TrAny.prom (i := 12) (d := 22) hok (OpVal.no rfl (fun c h => by cases h) rfl rfl rfl (gn_t (bf_dec h18))) (by kernel_rfl) rfl (bl rfl) ?_
    clear hok
    intro hok
    refine TrAny.prom (i := 13) (d := 23) hok (OpVal.no rfl (fun c h => by cases h) rfl rfl rfl (gn_t (bf_dec h18))) (by kernel_rfl) rfl (bl rfl) ?_
    clear hok
    intro hok
    refine TrAny.prom (i := 14) (d := 24) hok (OpVal.no rfl (fun c h => by cases h) rfl rfl rfl (gn_t (bf_dec h18))) (by kernel_rfl) rfl (bl rfl) ?_
    clear hok
    intro hok
    refine TrAny.prom (i := 15) (d := 25) hok (OpVal.no rfl (fun c h => by cases h) rfl rfl rfl (gn_t (bf_dec h18))) (by kernel_rfl) rfl (bl rfl) ?_
    clear hok
    intro hok
    refine TrAny.prom (i := 16) (d := 26) hok (OpVal.plain rfl rfl (v_pick_f rfl rfl (bf_dec h18) rfl)) (by kernel_rfl) rfl (bl rfl) ?_
    clear hok
    intro hok
    refine TrAny.prom (i := 17) (d := 2) hok (OpVal.plain rfl rfl (v_assign rfl rfl)) (by kernel_rfl) rfl (bl rfl) ?_
    clear hok
    intro hok
    refine TrAny.done (by kernel_rfl) (by kernel_rfl) hok (by kernel_rfl) (qthen_n ?_)
    have hz := Option.some.inj H
    subst hz
    refine Tr.ret (ret_r ⟨[(2, .bool false)], [], [], []⟩ [.bool false] [] [] (Imp.re _ [] [] (sc rfl sn) (by decide) rfl rfl rfl) rfl rfl ⟨rfl, rfl, rfl⟩ (.cons (resv_tmp rfl) .nil))
  ·refine TrAny.prom (i := 2) (d := 12) hok (OpVal.no rfl (fun c h => by cases h) rfl rfl rfl (gn_t (bf_b h17))) (by kernel_rfl) rfl (bl rfl) ?_
   clear hok
   intro hok
   refine TrAny.prom (i := 3) (d := 13) hok (OpVal.no rfl (fun c h => by cases h) rfl rfl rfl (gn_t (bf_b h17))) (by kernel_rfl) rfl (bl rfl) ?_
   clear hok
   intro hok
   refine TrAny.prom (i := 4) (d := 14) hok (OpVal.no rfl (fun c h => by cases h) rfl rfl rfl (gn_t (bf_b h17))) (by kernel_rfl) rfl (bl rfl) ?_
   clear hok
   intro hok
   refine TrAny.prom (i := 5) (d := 15) hok (OpVal.no rfl (fun c h => by cases h) rfl rfl rfl (gn_t (bf_b h17))) (by kernel_rfl) rfl (bl rfl) ?_
   clear hok
   intro hok
   refine TrAny.prom (i := 6) (d := 16) hok (OpVal.no rfl (fun c h => by cases h) rfl rfl rfl (gn_t (bf_b h17))) (by kernel_rfl) rfl (bl rfl) ?_
   clear hok
   intro hok
   refine TrAny.prom (i := 7) (d := 17) hok (OpVal.plain rfl rfl (v_pick_f rfl rfl (bf_b h17) rfl)) (by kernel_rfl) rfl (bl rfl) ?_
   clear hok
   intro hok
   refine TrAny.prom (i := 8) (d := 18) hok (OpVal.plain rfl rfl (v_move rfl rfl)) (by kernel_rfl) rfl (bl rfl) ?_
   clear hok
   intro hok
   refine TrAny.prom (i := 9) (d := 19) hok (OpVal.no rfl (fun c h => by cases h) rfl rfl rfl (gn_t rfl)) (by kernel_rfl) rfl (bl rfl) ?_
   clear hok
   intro hok
   refine TrAny.prom (i := 10) (d := 20) hok (OpVal.no rfl (fun c h => by cases h) rfl rfl rfl (gn_t rfl)) (by kernel_rfl) rfl (bl rfl) ?_
   clear hok
   intro hok
   refine TrAny.prom (i := 11) (d := 21) hok (OpVal.no rfl (fun c h => by cases h) rfl rfl rfl (gn_t rfl)) (by kernel_rfl) rfl (bl rfl) ?_
   clear hok
   intro hok
   refine TrAny.prom (i := 12) (d := 22) hok (OpVal.no rfl (fun c h => by cases h) rfl rfl rfl (gn_t rfl)) (by kernel_rfl) rfl (bl rfl) ?_
   clear hok
   intro hok
   refine TrAny.prom (i := 13) (d := 23) hok (OpVal.no rfl (fun c h => by cases h) rfl rfl rfl (gn_t rfl)) (by kernel_rfl) rfl (bl rfl) ?_
   clear hok
   intro hok
   refine TrAny.prom (i := 14) (d := 24) hok (OpVal.no rfl (fun c h => by cases h) rfl rfl rfl (gn_t rfl)) (by kernel_rfl) rfl (bl rfl) ?_
   clear hok
   intro hok
   refine TrAny.prom (i := 15) (d := 25) hok (OpVal.no rfl (fun c h => by cases h) rfl rfl rfl (gn_t rfl)) (by kernel_rfl) rfl (bl rfl) ?_
   clear hok
   intro hok
   refine TrAny.prom (i := 16) (d := 26) hok (OpVal.plain rfl rfl (v_pick_f rfl rfl rfl rfl)) (by kernel_rfl) rfl (bl rfl) ?_
   clear hok
   intro hok
   refine TrAny.prom (i := 17) (d := 2) hok (OpVal.plain rfl rfl (v_assign rfl rfl)) (by kernel_rfl) rfl (bl rfl) ?_
   clear hok
   intro hok
   refine TrAny.done (by kernel_rfl) (by kernel_rfl) hok (by kernel_rfl) (qthen_n ?_)
   have hz := Option.some.inj H
   subst hz
   refine Tr.ret (ret_r ⟨[(2, .bool false)], [], [], []⟩ [.bool false] [] [] (Imp.re _ [] [] (sc rfl sn) (by decide) rfl rfl rfl) rfl rfl ⟨rfl, rfl, rfl⟩ (.cons (resv_tmp rfl) .nil))
end Go.Proofs.Ytbeknohemgjfbaa.W
