import Derived.Test.YtbeknohemgjfbaaKcv
import Derived.Test.YtbeknohemgjfbaaQcv
import Derived.Test.YtbeknohemgjfbaaWconffcv
import Derived.Test.YtbeknohemgjfbaaWconfhcv
import Derived.Test.YtbeknohemgjfbaaWlaw21acv
import Derived.Test.YtbeknohemgjfbaaWref21dcv
namespace Go.Proofs.Ytbeknohemgjfbaa.W
open Go Go.Proofs Go.Proofs.Ytbeknohemgjfbaa.L Go.Proofs.Ytbeknohemgjfbaa.Pu
set_option linter.unusedVariables false
set_option maxHeartbeats 4000000

theorem c_law21_ConfSame (p1 : Int × Int × Int × Int × Int × Int × (List (Int × Int)) × Int × Int) (p2 : Int × Int × Int × Int × Int × Int × (List (Int × Int)) × Int × Int) (A1 : Option Addr) (c1 : Nat) (A2 : Option Addr) (c2 : Nat) (r : Bool) (H : law21_ConfSame p1 p2 = some r) :
  Ctr Try.prog 14 [.agg #[.int .i64 p1.1, .int .i64 p1.2.1, .int .u64 p1.2.2.1, .int .u64 p1.2.2.2.1, .int .i64 p1.2.2.2.2.1, .int .i64 p1.2.2.2.2.2.1, .slice A1 p1.2.2.2.2.2.2.1.length c1, .int .i64 p1.2.2.2.2.2.2.2.1, .int .i64 p1.2.2.2.2.2.2.2.2], .agg #[.int .i64 p2.1, .int .i64 p2.2.1, .int .u64 p2.2.2.1, .int .u64 p2.2.2.2.1, .int .i64 p2.2.2.2.2.1, .int .i64 p2.2.2.2.2.2.1, .slice A2 p2.2.2.2.2.2.2.1.length c2, .int .i64 p2.2.2.2.2.2.2.2.1, .int .i64 p2.2.2.2.2.2.2.2.2]] [] [slF rp_u64_u64 A1 c1 p1.2.2.2.2.2.2.1, slF rp_u64_u64 A2 c2 p2.2.2.2.2.2.2.1] (fun ret M' F' => ret = .bool r ∧ M' = [] ∧ F' = []) := by
 unfold law21_ConfSame at H
 refine ctr_ofI (N := 60) Try.func14 rfl Try.ntmps14 rfl (Nat.le_of_ble_eq_true rfl) (fun γ0 w0 => ?_)
 refine Tr.seq ?_
 refine Tr.region ?_
 refine TrL.cons rfl (op_box' rfl (bl rfl) rfl rfl rfl (fun b3 => ?_))
 refine TrL.cons rfl (op_box' rfl (bl rfl) rfl rfl rfl (fun b4 => ?_))
 refine TrL.v (v_assign rfl rfl) rfl rfl (bl rfl) ?_
 refine TrL.nil (qthen_n ?_)
 refine Tr.seq ?_
 refine Tr.region ?_
 obtain ⟨r9, hr9, H⟩ := bnd H
 refine TrL.cons rfl (op_call0' (vs := []) (cap := []) [] rfl rfl (bl rfl) rfl rfl en46 (c_law21_awake r9 hr9) rfl (fun ret M' F' hR9 => ?_))
 obtain ⟨rfl, rfl, rfl⟩ := hR9
 refine TrL.v (v_assign rfl rfl) rfl rfl (bl rfl) ?_
 refine TrL.nil (qthen_n ?_)
 refine Tr.seq ?_
 refine Tr.seq ?_
 refine Tr.region ?_
 refine TrL.v (v_fieldAddr' rfl fo91_6 rfl rfl) rfl rfl (bl rfl) ?_
 refine TrL.v (v_load (k := 1) rfl rfl rfl ty89 (fun _ => rfl) rfl rfl) rfl rfl (bl rfl) ?_
 refine TrL.v (v_len rfl sl89 rfl) rfl rfl (bl rfl) ?_
 refine TrL.v (v_arith rfl rfl rfl ar_gtr) rfl rfl (bl rfl) ?_
 refine TrL.v (v_move rfl rfl) rfl rfl (bl rfl) ?_
 rcases ifc H with ⟨h15, H⟩ | ⟨h15, H⟩
 ·refine TrL.cons_no rfl rfl rfl (gn_f (bt_dec h15)) rfl (bl rfl) ?_
  refine TrL.cons_no rfl rfl rfl (gn_f (bt_dec h15)) rfl (bl rfl) ?_
  refine TrL.cons_no rfl rfl rfl (gn_f (bt_dec h15)) rfl (bl rfl) ?_
  refine TrL.cons_no rfl rfl rfl (gn_f (bt_dec h15)) rfl (bl rfl) ?_
  refine TrL.v (v_pick_t rfl rfl (bt_dec h15) rfl) rfl rfl (bl rfl) ?_
  refine TrL.nil (qthen_n ?_)
  refine Tr.cond_t rfl rfl ?_
  refine Tr.seq ?_
  refine Tr.region ?_
  refine TrL.v (v_move rfl rfl) rfl rfl (bl rfl) ?_
  refine TrL.v (v_assign rfl rfl) rfl rfl (bl rfl) ?_
  refine TrL.nil (qthen_n ?_)
  have hz := Option.some.inj H
  subst hz
  refine Tr.ret (qthen_r (ret_r ⟨[(4, .bool r9)], [], [], []⟩ [.bool r9] [] [] (Imp.re _ [] [] (sc rfl sn) (by decide) rfl rfl rfl) rfl rfl ⟨rfl, rfl, rfl⟩ (.cons (resv_tmp rfl) .nil)))
 ·refine TrL.cons_yes rfl rfl rfl (bf_dec h15) (OpTr.v (v_fieldAddr' rfl fo91_6 rfl rfl) rfl (bl rfl) ?_)
  refine TrL.cons_yes rfl rfl rfl (bf_dec h15) (OpTr.v (v_load (k := 0) rfl rfl rfl ty89 (fun _ => rfl) rfl rfl) rfl (bl rfl) ?_)
  refine TrL.cons_yes rfl rfl rfl (bf_dec h15) (OpTr.v (v_len rfl sl89 rfl) rfl (bl rfl) ?_)
  refine TrL.cons_yes rfl rfl rfl (bf_dec h15) (OpTr.v (v_arith rfl rfl rfl ar_gtr) rfl (bl rfl) ?_)
  refine TrL.v (v_pick_f rfl rfl (bf_dec h15) rfl) rfl rfl (bl rfl) ?_
  refine TrL.nil (qthen_n ?_)
  rcases ifc H with ⟨h16, H⟩ | ⟨h16, H⟩
  ·refine Tr.cond_t rfl (bt_dec h16) ?_
   refine Tr.seq ?_
   refine Tr.region ?_
   refine TrL.v (v_move rfl rfl) rfl rfl (bl rfl) ?_
   refine TrL.v (v_assign rfl rfl) rfl rfl (bl rfl) ?_
   refine TrL.nil (qthen_n ?_)
   have hz := Option.some.inj H
   subst hz
   refine Tr.ret (qthen_r (ret_r ⟨[(4, .bool r9)], [], [], []⟩ [.bool r9] [] [] (Imp.re _ [] [] (sc rfl sn) (by decide) rfl rfl rfl) rfl rfl ⟨rfl, rfl, rfl⟩ (.cons (resv_tmp rfl) .nil)))
  ·refine Tr.cond_f rfl (bf_dec h16) ?_
   refine Tr.skip (qthen_n ?_)
   refine Tr.seq ?_
   refine Tr.region ?_
   refine TrL.v (v_load (k := 1) rfl rfl rfl ty91 nofun rfl rfl) rfl rfl (bl rfl) ?_
   refine TrL.v (v_load (k := 0) rfl rfl rfl ty91 nofun rfl rfl) rfl rfl (bl rfl) ?_
   obtain ⟨r10, hr10, H⟩ := bnd H
   refine TrL.cons rfl (op_call0' (vs := [.agg #[.int .i64 p1.1, .int .i64 p1.2.1, .int .u64 p1.2.2.1, .int .u64 p1.2.2.2.1, .int .i64 p1.2.2.2.2.1, .int .i64 p1.2.2.2.2.2.1, .slice A1 p1.2.2.2.2.2.2.1.length c1, .int .i64 p1.2.2.2.2.2.2.2.1, .int .i64 p1.2.2.2.2.2.2.2.2], .agg #[.int .i64 p2.1, .int .i64 p2.2.1, .int .u64 p2.2.2.1, .int .u64 p2.2.2.2.1, .int .i64 p2.2.2.2.2.1, .int .i64 p2.2.2.2.2.2.1, .slice A2 p2.2.2.2.2.2.2.1.length c2, .int .i64 p2.2.2.2.2.2.2.2.1, .int .i64 p2.2.2.2.2.2.2.2.2]]) (cap := []) [0, 1] rfl rfl (bl rfl) rfl rfl en53 (c_ref21_Same p1 p2 A1 c1 A2 c2 r10 hr10) rfl (fun ret M' F' hR10 => ?_))
   obtain ⟨rfl, rfl, rfl⟩ := hR10
   refine TrL.v (v_assign rfl rfl) rfl rfl (bl rfl) ?_
   refine TrL.nil (qthen_n ?_)
   refine Tr.seq ?_
   refine Tr.region ?_
   refine TrL.v (v_load (k := 1) rfl rfl rfl ty91 nofun rfl rfl) rfl rfl (bl rfl) ?_
   obtain ⟨r11, hr11, H⟩ := bnd H
   refine TrL.cons rfl (op_call0' (vs := [.agg #[.int .i64 p1.1, .int .i64 p1.2.1, .int .u64 p1.2.2.1, .int .u64 p1.2.2.2.1, .int .i64 p1.2.2.2.2.1, .int .i64 p1.2.2.2.2.2.1, .slice A1 p1.2.2.2.2.2.2.1.length c1, .int .i64 p1.2.2.2.2.2.2.2.1, .int .i64 p1.2.2.2.2.2.2.2.2]]) (cap := []) [0] rfl rfl (bl rfl) rfl rfl en49 (c_conf_Put p1 A1 c1 r11 hr11) rfl (fun ret M' F' hR11 => ?_))
   obtain ⟨m11, rfl, rfl, rfl⟩ := hR11
   refine TrL.v (v_assign rfl rfl) rfl rfl (bl rfl) ?_
   refine TrL.nil (qthen_n ?_)
   refine Tr.seq ?_
   refine Tr.region ?_
   refine TrL.v (v_load (k := 0) rfl rfl rfl ty91 nofun rfl rfl) rfl rfl (bl rfl) ?_
   obtain ⟨r12, hr12, H⟩ := bnd H
   refine TrL.cons rfl (op_call0' (vs := [.agg #[.int .i64 p2.1, .int .i64 p2.2.1, .int .u64 p2.2.2.1, .int .u64 p2.2.2.2.1, .int .i64 p2.2.2.2.2.1, .int .i64 p2.2.2.2.2.2.1, .slice A2 p2.2.2.2.2.2.2.1.length c2, .int .i64 p2.2.2.2.2.2.2.2.1, .int .i64 p2.2.2.2.2.2.2.2.2]]) (cap := []) [1] rfl rfl (bl rfl) rfl rfl en49 (c_conf_Put p2 A2 c2 r12 hr12) rfl (fun ret M' F' hR12 => ?_))
   obtain ⟨m12, rfl, rfl, rfl⟩ := hR12
   refine TrL.v (v_assign rfl rfl) rfl rfl (bl rfl) ?_
   refine TrL.nil (qthen_n ?_)
   refine Tr.seq ?_
   refine Tr.region ?_
   refine TrL.v (v_move rfl rfl) rfl rfl (bl rfl) ?_
   refine TrL.v (v_move rfl rfl) rfl rfl (bl rfl) ?_
   rcases ifc H with ⟨h22, H⟩ | ⟨h22, H⟩
   ·refine TrL.cons_yes rfl rfl rfl h22 (OpTr.v (v_load (k := 1) rfl rfl rfl ty91 nofun rfl rfl) rfl (bl rfl) ?_)
    refine TrL.cons_yes rfl rfl rfl h22 (OpTr.v (v_load (k := 0) rfl rfl rfl ty91 nofun rfl rfl) rfl (bl rfl) ?_)
    obtain ⟨r15, hr15, H⟩ := bnd H
    refine TrL.cons_yes rfl rfl rfl h22 (op_call0' (vs := [.agg #[.int .i64 p1.1, .int .i64 p1.2.1, .int .u64 p1.2.2.1, .int .u64 p1.2.2.2.1, .int .i64 p1.2.2.2.2.1, .int .i64 p1.2.2.2.2.2.1, .slice A1 p1.2.2.2.2.2.2.1.length c1, .int .i64 p1.2.2.2.2.2.2.2.1, .int .i64 p1.2.2.2.2.2.2.2.2], .agg #[.int .i64 p2.1, .int .i64 p2.2.1, .int .u64 p2.2.2.1, .int .u64 p2.2.2.2.1, .int .i64 p2.2.2.2.2.1, .int .i64 p2.2.2.2.2.2.1, .slice A2 p2.2.2.2.2.2.2.1.length c2, .int .i64 p2.2.2.2.2.2.2.2.1, .int .i64 p2.2.2.2.2.2.2.2.2]]) (cap := []) [0, 1] rfl rfl (bl rfl) rfl rfl en55 (c_conf_Same p1 p2 A1 c1 A2 c2 r15 hr15) rfl (fun ret M' F' hR15 => ?_))
    obtain ⟨rfl, rfl, rfl⟩ := hR15
    refine TrL.cons_yes rfl rfl rfl h22 (OpTr.v (v_move rfl rfl) rfl (bl rfl) ?_)
    refine TrL.cons_yes rfl rfl rfl h22 (OpTr.v (v_eqd rfl Try.underlying4 rfl rfl) rfl (bl rfl) ?_)
    refine TrL.v (v_pick_t rfl rfl h22 rfl) rfl rfl (bl rfl) ?_
    refine TrL.v (v_move rfl rfl) rfl rfl (bl rfl) ?_
    rcases ifc H with ⟨h23, H⟩ | ⟨h23, H⟩
    ·refine TrL.cons_yes rfl rfl rfl (bt_dec h23) (OpTr.v (v_load (k := 1) rfl rfl rfl ty91 nofun rfl rfl) rfl (bl rfl) ?_)
     refine TrL.cons_yes rfl rfl rfl (bt_dec h23) (OpTr.v (v_load (k := 1) rfl rfl rfl ty91 nofun rfl rfl) rfl (bl rfl) ?_)
     obtain ⟨r16, hr16, H⟩ := bnd H
     refine TrL.cons_yes rfl rfl rfl (bt_dec h23) (op_call0' (vs := [.agg #[.int .i64 p1.1, .int .i64 p1.2.1, .int .u64 p1.2.2.1, .int .u64 p1.2.2.2.1, .int .i64 p1.2.2.2.2.1, .int .i64 p1.2.2.2.2.2.1, .slice A1 p1.2.2.2.2.2.2.1.length c1, .int .i64 p1.2.2.2.2.2.2.2.1, .int .i64 p1.2.2.2.2.2.2.2.2], .agg #[.int .i64 p1.1, .int .i64 p1.2.1, .int .u64 p1.2.2.1, .int .u64 p1.2.2.2.1, .int .i64 p1.2.2.2.2.1, .int .i64 p1.2.2.2.2.2.1, .slice A1 p1.2.2.2.2.2.2.1.length c1, .int .i64 p1.2.2.2.2.2.2.2.1, .int .i64 p1.2.2.2.2.2.2.2.2]]) (cap := []) [0, 0] rfl rfl (bl rfl) rfl rfl en55 (c_conf_Same p1 p1 A1 c1 A1 c1 r16 hr16) rfl (fun ret M' F' hR16 => ?_))
     obtain ⟨rfl, rfl, rfl⟩ := hR16
     refine TrL.v (v_pick_t rfl rfl (bt_dec h23) rfl) rfl rfl (bl rfl) ?_
     refine TrL.v (v_move rfl rfl) rfl rfl (bl rfl) ?_
     rcases ifc H with ⟨h24, H⟩ | ⟨h24, H⟩
     ·refine TrL.cons_yes rfl rfl rfl h24 (OpTr.v (v_move rfl rfl) rfl (bl rfl) ?_)
      refine TrL.cons_yes rfl rfl rfl h24 (OpTr.v (v_len rfl sl40 rfl) rfl (bl rfl) ?_)
      refine TrL.cons_yes rfl rfl rfl h24 (OpTr.v (v_arith rfl rfl rfl ar_eql) rfl (bl rfl) ?_)
      refine TrL.cons_yes rfl rfl rfl h24 (OpTr.v (v_move rfl rfl) rfl (bl rfl) ?_)
      rcases ifc H with ⟨h25, H⟩ | ⟨h25, H⟩
      ·refine TrL.cons_no rfl rfl rfl (gn_f (bt_dec h25)) rfl (bl rfl) ?_
       refine TrL.cons_no rfl rfl rfl (gn_f (bt_dec h25)) rfl (bl rfl) ?_
       refine TrL.cons_no rfl rfl rfl (gn_f (bt_dec h25)) rfl (bl rfl) ?_
       refine TrL.cons_yes rfl rfl rfl h24 (OpTr.v (v_pick_t rfl rfl (bt_dec h25) rfl) rfl (bl rfl) ?_)
       refine TrL.cons_yes rfl rfl rfl h24 (OpTr.v (v_move rfl rfl) rfl (bl rfl) ?_)
       refine TrL.cons_no rfl rfl rfl (gn_f rfl) rfl (bl rfl) ?_
       refine TrL.cons_no rfl rfl rfl (gn_f rfl) rfl (bl rfl) ?_
       refine TrL.cons_no rfl rfl rfl (gn_f rfl) rfl (bl rfl) ?_
       refine TrL.cons_no rfl rfl rfl (gn_f rfl) rfl (bl rfl) ?_
       refine TrL.cons_no rfl rfl rfl (gn_f rfl) rfl (bl rfl) ?_
       refine TrL.cons_no rfl rfl rfl (gn_f rfl) rfl (bl rfl) ?_
       refine TrL.cons_no rfl rfl rfl (gn_f rfl) rfl (bl rfl) ?_
       refine TrL.cons_yes rfl rfl rfl h24 (OpTr.v (v_pick_t rfl rfl rfl rfl) rfl (bl rfl) ?_)
       refine TrL.v (v_pick_t rfl rfl h24 rfl) rfl rfl (bl rfl) ?_
       refine TrL.v (v_assign rfl rfl) rfl rfl (bl rfl) ?_
       refine TrL.nil (qthen_n ?_)
       have hz := Option.some.inj H
       subst hz
       refine Tr.ret (ret_r ⟨[(4, .bool true)], [], [], []⟩ [.bool true] [] [] (Imp.re _ [] [] (sc rfl sn) (by decide) rfl rfl rfl) rfl rfl ⟨rfl, rfl, rfl⟩ (.cons (resv_tmp rfl) .nil))
      ·refine TrL.cons_yes rfl rfl rfl (bf_dec h25) (OpTr.v (v_move rfl rfl) rfl (bl rfl) ?_)
       refine TrL.cons_yes rfl rfl rfl (bf_dec h25) (OpTr.v (v_len rfl sl40 rfl) rfl (bl rfl) ?_)
       refine TrL.cons_yes rfl rfl rfl (bf_dec h25) (OpTr.v (v_arith rfl rfl rfl ar_eql) rfl (bl rfl) ?_)
       refine TrL.cons_yes rfl rfl rfl h24 (OpTr.v (v_pick_f rfl rfl (bf_dec h25) rfl) rfl (bl rfl) ?_)
       refine TrL.cons_yes rfl rfl rfl h24 (OpTr.v (v_move rfl rfl) rfl (bl rfl) ?_)
       rcases ifc H with ⟨h26, H⟩ | ⟨h26, H⟩
       ·refine TrL.cons_no rfl rfl rfl (gn_f (bt_dec h26)) rfl (bl rfl) ?_
        refine TrL.cons_no rfl rfl rfl (gn_f (bt_dec h26)) rfl (bl rfl) ?_
        refine TrL.cons_no rfl rfl rfl (gn_f (bt_dec h26)) rfl (bl rfl) ?_
        refine TrL.cons_no rfl rfl rfl (gn_f (bt_dec h26)) rfl (bl rfl) ?_
        refine TrL.cons_no rfl rfl rfl (gn_f (bt_dec h26)) rfl (bl rfl) ?_
        refine TrL.cons_no rfl rfl rfl (gn_f (bt_dec h26)) rfl (bl rfl) ?_
        refine TrL.cons_no rfl rfl rfl (gn_f (bt_dec h26)) rfl (bl rfl) ?_
        refine TrL.cons_yes rfl rfl rfl h24 (OpTr.v (v_pick_t rfl rfl (bt_dec h26) rfl) rfl (bl rfl) ?_)
        refine TrL.v (v_pick_t rfl rfl h24 rfl) rfl rfl (bl rfl) ?_
        refine TrL.v (v_assign rfl rfl) rfl rfl (bl rfl) ?_
        refine TrL.nil (qthen_n ?_)
        have hz := Option.some.inj H
        subst hz
        refine Tr.ret (ret_r ⟨[(4, .bool true)], [], [], []⟩ [.bool true] [] [] (Imp.re _ [] [] (sc rfl sn) (by decide) rfl rfl rfl) rfl rfl ⟨rfl, rfl, rfl⟩ (.cons (resv_tmp rfl) .nil))
       ·refine TrL.cons_yes rfl rfl rfl (bf_dec h26) (OpTr.v (v_move rfl rfl) rfl (bl rfl) ?_)
        refine TrL.cons_yes rfl rfl rfl (bf_dec h26) (OpTr.v (v_bstr (k := 2) rfl Try.underlying40 Try.underlying5 Try.underlying9 rfl rfl rfl) rfl (bl rfl) ?_)
        refine TrL.cons_yes rfl rfl rfl (bf_dec h26) (OpTr.v (v_move rfl rfl) rfl (bl rfl) ?_)
        refine TrL.cons_yes rfl rfl rfl (bf_dec h26) (OpTr.v (v_bstr (k := 3) rfl Try.underlying40 Try.underlying5 Try.underlying9 rfl rfl rfl) rfl (bl rfl) ?_)
        refine TrL.cons_yes rfl rfl rfl (bf_dec h26) (OpTr.v (v_streq rfl rfl rfl) rfl (bl rfl) ?_)
        refine TrL.cons_yes rfl rfl rfl (bf_dec h26) (OpTr.v (v_move rfl rfl) rfl (bl rfl) ?_)
        refine TrL.cons_yes rfl rfl rfl (bf_dec h26) (OpTr.v (v_eqd rfl Try.underlying4 rfl rfl) rfl (bl rfl) ?_)
        refine TrL.cons_yes rfl rfl rfl h24 (OpTr.v (v_pick_f rfl rfl (bf_dec h26) rfl) rfl (bl rfl) ?_)
        refine TrL.v (v_pick_t rfl rfl h24 rfl) rfl rfl (bl rfl) ?_
        refine TrL.v (v_assign rfl rfl) rfl rfl (bl rfl) ?_
        refine TrL.nil (qthen_n ?_)
        have hz := Option.some.inj H
        subst hz
        refine Tr.ret (ret_r ⟨[(4, .bool (decide ((decide ((bstr r11) = (bstr r12))) = r10)))], [], [], []⟩ [.bool (decide ((decide ((bstr r11) = (bstr r12))) = r10))] [] [] (Imp.re _ [] [] (sc rfl sn) (by decide) rfl rfl rfl) rfl rfl ⟨rfl, rfl, rfl⟩ (.cons (resv_tmp rfl) .nil))
     ·refine TrL.cons_no rfl rfl rfl (gn_t (bf_b h24)) rfl (bl rfl) ?_
      refine TrL.cons_no rfl rfl rfl (gn_t (bf_b h24)) rfl (bl rfl) ?_
      refine TrL.cons_no rfl rfl rfl (gn_t (bf_b h24)) rfl (bl rfl) ?_
      refine TrL.cons_no rfl rfl rfl (gn_t (bf_b h24)) rfl (bl rfl) ?_
      refine TrL.cons_un rfl rfl rfl rfl (bl rfl) ?_
      refine TrL.cons_un rfl rfl rfl rfl (bl rfl) ?_
      refine TrL.cons_un rfl rfl rfl rfl (bl rfl) ?_
      refine TrL.cons_no rfl rfl rfl (gn_t (bf_b h24)) rfl (bl rfl) ?_
      refine TrL.cons_no rfl rfl rfl (gn_t (bf_b h24)) rfl (bl rfl) ?_
      refine TrL.cons_un rfl rfl rfl rfl (bl rfl) ?_
      refine TrL.cons_un rfl rfl rfl rfl (bl rfl) ?_
      refine TrL.cons_un rfl rfl rfl rfl (bl rfl) ?_
      refine TrL.cons_un rfl rfl rfl rfl (bl rfl) ?_
      refine TrL.cons_un rfl rfl rfl rfl (bl rfl) ?_
      refine TrL.cons_un rfl rfl rfl rfl (bl rfl) ?_
      refine TrL.cons_un rfl rfl rfl rfl (bl rfl) ?_
      refine TrL.cons_no rfl rfl rfl (gn_t (bf_b h24)) rfl (bl rfl) ?_
      refine TrL.v (v_pick_f rfl rfl (bf_b h24) rfl) rfl rfl (bl rfl) ?_
      refine TrL.v (v_assign rfl rfl) rfl rfl (bl rfl) ?_
      refine TrL.nil (qthen_n ?_)
      have hz := Option.some.inj H
      subst hz
      refine Tr.ret (ret_r ⟨[(4, .bool false)], [], [], []⟩ [.bool false] [] [] (Imp.re _ [] [] (sc rfl sn) (by decide) rfl rfl rfl) rfl rfl ⟨rfl, rfl, rfl⟩ (.cons (resv_tmp rfl) .nil))
    ·refine TrL.cons_no rfl rfl rfl (gn_t (bf_dec h23)) rfl (bl rfl) ?_
     refine TrL.cons_no rfl rfl rfl (gn_t (bf_dec h23)) rfl (bl rfl) ?_
     refine TrL.cons_no rfl rfl rfl (gn_t (bf_dec h23)) rfl (bl rfl) ?_
     refine TrL.v (v_pick_f rfl rfl (bf_dec h23) rfl) rfl rfl (bl rfl) ?_
     refine TrL.v (v_move rfl rfl) rfl rfl (bl rfl) ?_
     refine TrL.cons_no rfl rfl rfl (gn_t rfl) rfl (bl rfl) ?_
     refine TrL.cons_no rfl rfl rfl (gn_t rfl) rfl (bl rfl) ?_
     refine TrL.cons_no rfl rfl rfl (gn_t rfl) rfl (bl rfl) ?_
     refine TrL.cons_no rfl rfl rfl (gn_t rfl) rfl (bl rfl) ?_
     refine TrL.cons_un rfl rfl rfl rfl (bl rfl) ?_
     refine TrL.cons_un rfl rfl rfl rfl (bl rfl) ?_
     refine TrL.cons_un rfl rfl rfl rfl (bl rfl) ?_
     refine TrL.cons_no rfl rfl rfl (gn_t rfl) rfl (bl rfl) ?_
     refine TrL.cons_no rfl rfl rfl (gn_t rfl) rfl (bl rfl) ?_
     refine TrL.cons_un rfl rfl rfl rfl (bl rfl) ?_
     refine TrL.cons_un rfl rfl rfl rfl (bl rfl) ?_
     refine TrL.cons_un rfl rfl rfl rfl (bl rfl) ?_
     refine TrL.cons_un rfl rfl rfl rfl (bl rfl) ?_
     refine TrL.cons_un rfl rfl rfl rfl (bl rfl) ?_
     refine TrL.cons_un rfl rfl rfl rfl (bl rfl) ?_
     refine TrL.cons_un rfl rfl rfl rfl (bl rfl) ?_
     refine TrL.cons_no rfl rfl rfl (gn_t rfl) rfl (bl rfl) ?_
     refine TrL.v (v_pick_f rfl rfl rfl rfl) rfl rfl (bl rfl) ?_
     refine TrL.v (v_assign rfl rfl) rfl rfl (bl rfl) ?_
     refine TrL.nil (qthen_n ?_)
     have hz := Option.some.inj H
     subst hz
     refine Tr.ret (ret_r ⟨[(4, .bool false)], [], [], []⟩ [.bool false] [] [] (Imp.re _ [] [] (sc rfl sn) (by decide) rfl rfl rfl) rfl rfl ⟨rfl, rfl, rfl⟩ (.cons (resv_tmp rfl) .nil))
   ·refine TrL.cons_no rfl rfl rfl (gn_t (bf_b h22)) rfl (bl rfl) ?_
    refine TrL.cons_no rfl rfl rfl (gn_t (bf_b h22)) rfl (bl rfl) ?_
    refine TrL.cons_no rfl rfl rfl (gn_t (bf_b h22)) rfl (bl rfl) ?_
    refine TrL.cons_no rfl rfl rfl (gn_t (bf_b h22)) rfl (bl rfl) ?_
    refine TrL.cons_no rfl rfl rfl (gn_t (bf_b h22)) rfl (bl rfl) ?_
    refine TrL.v (v_pick_f rfl rfl (bf_b h22) rfl) rfl rfl (bl rfl) ?_
    refine TrL.v (v_move rfl rfl) rfl rfl (bl rfl) ?_
    refine TrL.cons_no rfl rfl rfl (gn_t rfl) rfl (bl rfl) ?_
    refine TrL.cons_no rfl rfl rfl (gn_t rfl) rfl (bl rfl) ?_
    refine TrL.cons_no rfl rfl rfl (gn_t rfl) rfl (bl rfl) ?_
    refine TrL.v (v_pick_f rfl rfl rfl rfl) rfl rfl (bl rfl) ?_
    refine TrL.v (v_move rfl rfl) rfl rfl (bl rfl) ?_
    refine TrL.cons_no rfl rfl rfl (gn_t rfl) rfl (bl rfl) ?_
    refine TrL.cons_no rfl rfl rfl (gn_t rfl) rfl (bl rfl) ?_
    refine TrL.cons_no rfl rfl rfl (gn_t rfl) rfl (bl rfl) ?_
    refine TrL.cons_no rfl rfl rfl (gn_t rfl) rfl (bl rfl) ?_
    refine TrL.cons_un rfl rfl rfl rfl (bl rfl) ?_
    refine TrL.cons_un rfl rfl rfl rfl (bl rfl) ?_
    refine TrL.cons_un rfl rfl rfl rfl (bl rfl) ?_
    refine TrL.cons_no rfl rfl rfl (gn_t rfl) rfl (bl rfl) ?_
    refine TrL.cons_no rfl rfl rfl (gn_t rfl) rfl (bl rfl) ?_
    refine TrL.cons_un rfl rfl rfl rfl (bl rfl) ?_
    refine TrL.cons_un rfl rfl rfl rfl (bl rfl) ?_
    refine TrL.cons_un rfl rfl rfl rfl (bl rfl) ?_
    refine TrL.cons_un rfl rfl rfl rfl (bl rfl) ?_
    refine TrL.cons_un rfl rfl rfl rfl (bl rfl) ?_
    refine TrL.cons_un rfl rfl rfl rfl (bl rfl) ?_
    refine TrL.cons_un rfl rfl rfl rfl (bl rfl) ?_
    refine TrL.cons_no rfl rfl rfl (gn_t rfl) rfl (bl rfl) ?_
    refine TrL.v (v_pick_f rfl rfl rfl rfl) rfl rfl (bl rfl) ?_
    refine TrL.v (v_assign rfl rfl) rfl rfl (bl rfl) ?_
    refine TrL.nil (qthen_n ?_)
    have hz := Option.some.inj H
    subst hz
    refine Tr.ret (ret_r ⟨[(4, .bool false)], [], [], []⟩ [.bool false] [] [] (Imp.re _ [] [] (sc rfl sn) (by decide) rfl rfl rfl) rfl rfl ⟨rfl, rfl, rfl⟩ (.cons (resv_tmp rfl) .nil))
end Go.Proofs.Ytbeknohemgjfbaa.W
