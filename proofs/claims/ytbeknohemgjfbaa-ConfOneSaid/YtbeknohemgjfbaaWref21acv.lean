import Derived.Test.YtbeknohemgjfbaaKcv
import Derived.Test.YtbeknohemgjfbaaQcv
import Derived.Test.YtbeknohemgjfbaaWref02acv
import Derived.Test.YtbeknohemgjfbaaWref14acv
import Derived.Test.YtbeknohemgjfbaaWref16acv
import Derived.Test.YtbeknohemgjfbaaWref20acv
namespace Go.Proofs.Ytbeknohemgjfbaa.W
open Go Go.Proofs Go.Proofs.Ytbeknohemgjfbaa.L Go.Proofs.Ytbeknohemgjfbaa.Pu
set_option linter.unusedVariables false
set_option maxHeartbeats 4000000

theorem c_ref21_Check (p1 : Int × Int × Int × Int × Int × Int × (List (Int × Int)) × Int × Int) (A1 : Option Addr) (c1 : Nat) (r : Int) (H : ref21_Check p1 = some r) :
  Ctr Try.prog 48 [.agg #[.int .i64 p1.1, .int .i64 p1.2.1, .int .u64 p1.2.2.1, .int .u64 p1.2.2.2.1, .int .i64 p1.2.2.2.2.1, .int .i64 p1.2.2.2.2.2.1, .slice A1 p1.2.2.2.2.2.2.1.length c1, .int .i64 p1.2.2.2.2.2.2.2.1, .int .i64 p1.2.2.2.2.2.2.2.2]] [] [slF rp_u64_u64 A1 c1 p1.2.2.2.2.2.2.1] (fun ret M' F' => ret = .int .i64 r ∧ M' = [] ∧ F' = []) := by
 unfold ref21_Check at H
 refine ctr_ofI (N := 71) Try.func48 rfl Try.ntmps48 rfl (Nat.le_of_ble_eq_true rfl) (fun γ0 w0 => ?_)
 refine Tr.seq ?_
 refine Tr.region ?_
 refine TrL.cons rfl (op_box' rfl (bl rfl) rfl rfl rfl (fun b2 => ?_))
 refine TrL.v (v_assign rfl rfl) rfl rfl (bl rfl) ?_
 refine TrL.nil (qthen_n ?_)
 refine Tr.seq ?_
 refine Tr.seq ?_
 refine Tr.region ?_
 refine TrL.v (v_fieldAddr' rfl fo91_0 rfl rfl) rfl rfl (bl rfl) ?_
 refine TrL.v (v_load (k := 0) rfl rfl rfl ty3 (fun _ => rfl) rfl rfl) rfl rfl (bl rfl) ?_
 refine TrL.nil (qthen_n ?_)
 refine Tr.block ?_
 refine Tr.seq ?_
 refine Tr.region ?_
 refine TrL.v (v_arith rfl rfl rfl ar_eql) rfl rfl (bl rfl) ?_
 refine TrL.v (v_assign rfl rfl) rfl rfl (bl rfl) ?_
 refine TrL.nil (qthen_n ?_)
 rcases ifc H with ⟨h23, H⟩ | ⟨h23, H⟩
 ·refine Tr.cond_t rfl (bt_dec h23) ?_
  refine Tr.seq ?_
  refine Tr.seq ?_
  refine Tr.region ?_
  refine TrL.v (v_fieldAddr' rfl fo91_5 rfl rfl) rfl rfl (bl rfl) ?_
  refine TrL.v (v_load (k := 0) rfl rfl rfl ty3 (fun _ => rfl) rfl rfl) rfl rfl (bl rfl) ?_
  refine TrL.v (v_arith rfl rfl rfl ar_neq) rfl rfl (bl rfl) ?_
  refine TrL.v (v_move rfl rfl) rfl rfl (bl rfl) ?_
  rcases ifc H with ⟨h28, H⟩ | ⟨h28, H⟩
  ·refine TrL.cons_no rfl rfl rfl (gn_f (bt_dec h28)) rfl (bl rfl) ?_
   refine TrL.cons_no rfl rfl rfl (gn_f (bt_dec h28)) rfl (bl rfl) ?_
   refine TrL.cons_no rfl rfl rfl (gn_f (bt_dec h28)) rfl (bl rfl) ?_
   refine TrL.v (v_pick_t rfl rfl (bt_dec h28) rfl) rfl rfl (bl rfl) ?_
   refine TrL.v (v_move rfl rfl) rfl rfl (bl rfl) ?_
   refine TrL.cons_no rfl rfl rfl (gn_f rfl) rfl (bl rfl) ?_
   refine TrL.cons_no rfl rfl rfl (gn_f rfl) rfl (bl rfl) ?_
   refine TrL.cons_no rfl rfl rfl (gn_f rfl) rfl (bl rfl) ?_
   refine TrL.v (v_pick_t rfl rfl rfl rfl) rfl rfl (bl rfl) ?_
   refine TrL.v (v_move rfl rfl) rfl rfl (bl rfl) ?_
   refine TrL.cons_no rfl rfl rfl (gn_f rfl) rfl (bl rfl) ?_
   refine TrL.cons_no rfl rfl rfl (gn_f rfl) rfl (bl rfl) ?_
   refine TrL.cons_no rfl rfl rfl (gn_f rfl) rfl (bl rfl) ?_
   refine TrL.cons_no rfl rfl rfl (gn_f rfl) rfl (bl rfl) ?_
   refine TrL.v (v_pick_t rfl rfl rfl rfl) rfl rfl (bl rfl) ?_
   refine TrL.v (v_move rfl rfl) rfl rfl (bl rfl) ?_
   refine TrL.cons_no rfl rfl rfl (gn_f rfl) rfl (bl rfl) ?_
   refine TrL.cons_no rfl rfl rfl (gn_f rfl) rfl (bl rfl) ?_
   refine TrL.cons_no rfl rfl rfl (gn_f rfl) rfl (bl rfl) ?_
   refine TrL.cons_no rfl rfl rfl (gn_f rfl) rfl (bl rfl) ?_
   refine TrL.cons_no rfl rfl rfl (gn_f rfl) rfl (bl rfl) ?_
   refine TrL.cons_no rfl rfl rfl (gn_f rfl) rfl (bl rfl) ?_
   refine TrL.cons_no rfl rfl rfl (gn_f rfl) rfl (bl rfl) ?_
   refine TrL.cons_no rfl rfl rfl (gn_f rfl) rfl (bl rfl) ?_
   refine TrL.cons_no rfl rfl rfl (gn_f rfl) rfl (bl rfl) ?_
   refine TrL.cons_no rfl rfl rfl (gn_f rfl) rfl (bl rfl) ?_
   refine TrL.v (v_pick_t rfl rfl rfl rfl) rfl rfl (bl rfl) ?_
   refine TrL.nil (qthen_n ?_)
   refine Tr.cond_t rfl rfl ?_
   refine Tr.seq ?_
   refine Tr.region ?_
   refine TrL.v (v_assign rfl rfl) rfl rfl (bl rfl) ?_
   refine TrL.nil (qthen_n ?_)
   have hz := Option.some.inj H
   subst hz
   refine Tr.ret (qthen_r (qblock_r (qthen_r (ret_r ⟨[(2, .int .i64 9)], [], [], []⟩ [.int .i64 9] [] [] (Imp.re _ [] [] (sc rfl sn) (by decide) rfl rfl rfl) rfl rfl ⟨rfl, rfl, rfl⟩ (.cons (resv_tmp rfl) .nil)))))
  ·refine TrL.cons_yes rfl rfl rfl (bf_dec h28) (OpTr.v (v_fieldAddr' rfl fo91_7 rfl rfl) rfl (bl rfl) ?_)
   refine TrL.cons_yes rfl rfl rfl (bf_dec h28) (OpTr.v (v_load (k := 0) rfl rfl rfl ty3 (fun _ => rfl) rfl rfl) rfl (bl rfl) ?_)
   refine TrL.cons_yes rfl rfl rfl (bf_dec h28) (OpTr.v (v_arith rfl rfl rfl ar_neq) rfl (bl rfl) ?_)
   refine TrL.v (v_pick_f rfl rfl (bf_dec h28) rfl) rfl rfl (bl rfl) ?_
   refine TrL.v (v_move rfl rfl) rfl rfl (bl rfl) ?_
   rcases ifc H with ⟨h29, H⟩ | ⟨h29, H⟩
   ·refine TrL.cons_no rfl rfl rfl (gn_f (bt_dec h29)) rfl (bl rfl) ?_
    refine TrL.cons_no rfl rfl rfl (gn_f (bt_dec h29)) rfl (bl rfl) ?_
    refine TrL.cons_no rfl rfl rfl (gn_f (bt_dec h29)) rfl (bl rfl) ?_
    refine TrL.v (v_pick_t rfl rfl (bt_dec h29) rfl) rfl rfl (bl rfl) ?_
    refine TrL.v (v_move rfl rfl) rfl rfl (bl rfl) ?_
    refine TrL.cons_no rfl rfl rfl (gn_f rfl) rfl (bl rfl) ?_
    refine TrL.cons_no rfl rfl rfl (gn_f rfl) rfl (bl rfl) ?_
    refine TrL.cons_no rfl rfl rfl (gn_f rfl) rfl (bl rfl) ?_
    refine TrL.cons_no rfl rfl rfl (gn_f rfl) rfl (bl rfl) ?_
    refine TrL.v (v_pick_t rfl rfl rfl rfl) rfl rfl (bl rfl) ?_
    refine TrL.v (v_move rfl rfl) rfl rfl (bl rfl) ?_
    refine TrL.cons_no rfl rfl rfl (gn_f rfl) rfl (bl rfl) ?_
    refine TrL.cons_no rfl rfl rfl (gn_f rfl) rfl (bl rfl) ?_
    refine TrL.cons_no rfl rfl rfl (gn_f rfl) rfl (bl rfl) ?_
    refine TrL.cons_no rfl rfl rfl (gn_f rfl) rfl (bl rfl) ?_
    refine TrL.cons_no rfl rfl rfl (gn_f rfl) rfl (bl rfl) ?_
    refine TrL.cons_no rfl rfl rfl (gn_f rfl) rfl (bl rfl) ?_
    refine TrL.cons_no rfl rfl rfl (gn_f rfl) rfl (bl rfl) ?_
    refine TrL.cons_no rfl rfl rfl (gn_f rfl) rfl (bl rfl) ?_
    refine TrL.cons_no rfl rfl rfl (gn_f rfl) rfl (bl rfl) ?_
    refine TrL.cons_no rfl rfl rfl (gn_f rfl) rfl (bl rfl) ?_
    refine TrL.v (v_pick_t rfl rfl rfl rfl) rfl rfl (bl rfl) ?_
    refine TrL.nil (qthen_n ?_)
    refine Tr.cond_t rfl rfl ?_
    refine Tr.seq ?_
    refine Tr.region ?_
    refine TrL.v (v_assign rfl rfl) rfl rfl (bl rfl) ?_
    refine TrL.nil (qthen_n ?_)
    have hz := Option.some.inj H
    subst hz
    refine Tr.ret (qthen_r (qblock_r (qthen_r (ret_r ⟨[(2, .int .i64 9)], [], [], []⟩ [.int .i64 9] [] [] (Imp.re _ [] [] (sc rfl sn) (by decide) rfl rfl rfl) rfl rfl ⟨rfl, rfl, rfl⟩ (.cons (resv_tmp rfl) .nil)))))
   ·refine TrL.cons_yes rfl rfl rfl (bf_dec h29) (OpTr.v (v_fieldAddr' rfl fo91_8 rfl rfl) rfl (bl rfl) ?_)
    refine TrL.cons_yes rfl rfl rfl (bf_dec h29) (OpTr.v (v_load (k := 0) rfl rfl rfl ty3 (fun _ => rfl) rfl rfl) rfl (bl rfl) ?_)
    refine TrL.cons_yes rfl rfl rfl (bf_dec h29) (OpTr.v (v_arith rfl rfl rfl ar_neq) rfl (bl rfl) ?_)
    refine TrL.v (v_pick_f rfl rfl (bf_dec h29) rfl) rfl rfl (bl rfl) ?_
    refine TrL.v (v_move rfl rfl) rfl rfl (bl rfl) ?_
    rcases ifc H with ⟨h30, H⟩ | ⟨h30, H⟩
    ·refine TrL.cons_no rfl rfl rfl (gn_f (bt_dec h30)) rfl (bl rfl) ?_
     refine TrL.cons_no rfl rfl rfl (gn_f (bt_dec h30)) rfl (bl rfl) ?_
     refine TrL.cons_no rfl rfl rfl (gn_f (bt_dec h30)) rfl (bl rfl) ?_
     refine TrL.cons_no rfl rfl rfl (gn_f (bt_dec h30)) rfl (bl rfl) ?_
     refine TrL.v (v_pick_t rfl rfl (bt_dec h30) rfl) rfl rfl (bl rfl) ?_
     refine TrL.v (v_move rfl rfl) rfl rfl (bl rfl) ?_
     refine TrL.cons_no rfl rfl rfl (gn_f rfl) rfl (bl rfl) ?_
     refine TrL.cons_no rfl rfl rfl (gn_f rfl) rfl (bl rfl) ?_
     refine TrL.cons_no rfl rfl rfl (gn_f rfl) rfl (bl rfl) ?_
     refine TrL.cons_no rfl rfl rfl (gn_f rfl) rfl (bl rfl) ?_
     refine TrL.cons_no rfl rfl rfl (gn_f rfl) rfl (bl rfl) ?_
     refine TrL.cons_no rfl rfl rfl (gn_f rfl) rfl (bl rfl) ?_
     refine TrL.cons_no rfl rfl rfl (gn_f rfl) rfl (bl rfl) ?_
     refine TrL.cons_no rfl rfl rfl (gn_f rfl) rfl (bl rfl) ?_
     refine TrL.cons_no rfl rfl rfl (gn_f rfl) rfl (bl rfl) ?_
     refine TrL.cons_no rfl rfl rfl (gn_f rfl) rfl (bl rfl) ?_
     refine TrL.v (v_pick_t rfl rfl rfl rfl) rfl rfl (bl rfl) ?_
     refine TrL.nil (qthen_n ?_)
     refine Tr.cond_t rfl rfl ?_
     refine Tr.seq ?_
     refine Tr.region ?_
     refine TrL.v (v_assign rfl rfl) rfl rfl (bl rfl) ?_
     refine TrL.nil (qthen_n ?_)
     have hz := Option.some.inj H
     subst hz
     refine Tr.ret (qthen_r (qblock_r (qthen_r (ret_r ⟨[(2, .int .i64 9)], [], [], []⟩ [.int .i64 9] [] [] (Imp.re _ [] [] (sc rfl sn) (by decide) rfl rfl rfl) rfl rfl ⟨rfl, rfl, rfl⟩ (.cons (resv_tmp rfl) .nil)))))
    ·refine TrL.cons_yes rfl rfl rfl (bf_dec h30) (OpTr.v (v_fieldAddr' rfl fo91_6 rfl rfl) rfl (bl rfl) ?_)
     refine TrL.cons_yes rfl rfl rfl (bf_dec h30) (OpTr.v (v_load (k := 0) rfl rfl rfl ty89 (fun _ => rfl) rfl rfl) rfl (bl rfl) ?_)
     refine TrL.cons_yes rfl rfl rfl (bf_dec h30) (OpTr.v (v_len rfl sl89 rfl) rfl (bl rfl) ?_)
     refine TrL.cons_yes rfl rfl rfl (bf_dec h30) (OpTr.v (v_arith rfl rfl rfl ar_gtr) rfl (bl rfl) ?_)
     refine TrL.v (v_pick_f rfl rfl (bf_dec h30) rfl) rfl rfl (bl rfl) ?_
     refine TrL.v (v_move rfl rfl) rfl rfl (bl rfl) ?_
     rcases ifc H with ⟨h31, H⟩ | ⟨h31, H⟩
     ·refine TrL.cons_no rfl rfl rfl (gn_f (bt_dec h31)) rfl (bl rfl) ?_
      refine TrL.cons_no rfl rfl rfl (gn_f (bt_dec h31)) rfl (bl rfl) ?_
      refine TrL.cons_no rfl rfl rfl (gn_f (bt_dec h31)) rfl (bl rfl) ?_
      refine TrL.cons_no rfl rfl rfl (gn_f (bt_dec h31)) rfl (bl rfl) ?_
      refine TrL.cons_no rfl rfl rfl (gn_f (bt_dec h31)) rfl (bl rfl) ?_
      refine TrL.cons_no rfl rfl rfl (gn_f (bt_dec h31)) rfl (bl rfl) ?_
      refine TrL.cons_no rfl rfl rfl (gn_f (bt_dec h31)) rfl (bl rfl) ?_
      refine TrL.cons_no rfl rfl rfl (gn_f (bt_dec h31)) rfl (bl rfl) ?_
      refine TrL.cons_no rfl rfl rfl (gn_f (bt_dec h31)) rfl (bl rfl) ?_
      refine TrL.cons_no rfl rfl rfl (gn_f (bt_dec h31)) rfl (bl rfl) ?_
      refine TrL.v (v_pick_t rfl rfl (bt_dec h31) rfl) rfl rfl (bl rfl) ?_
      refine TrL.nil (qthen_n ?_)
      refine Tr.cond_t rfl rfl ?_
      refine Tr.seq ?_
      refine Tr.region ?_
      refine TrL.v (v_assign rfl rfl) rfl rfl (bl rfl) ?_
      refine TrL.nil (qthen_n ?_)
      have hz := Option.some.inj H
      subst hz
      refine Tr.ret (qthen_r (qblock_r (qthen_r (ret_r ⟨[(2, .int .i64 9)], [], [], []⟩ [.int .i64 9] [] [] (Imp.re _ [] [] (sc rfl sn) (by decide) rfl rfl rfl) rfl rfl ⟨rfl, rfl, rfl⟩ (.cons (resv_tmp rfl) .nil)))))
     ·refine TrL.cons_yes rfl rfl rfl (bf_dec h31) (OpTr.v (v_fieldAddr' rfl fo91_1 rfl rfl) rfl (bl rfl) ?_)
      refine TrL.cons_yes rfl rfl rfl (bf_dec h31) (OpTr.v (v_load (k := 0) rfl rfl rfl ty3 (fun _ => rfl) rfl rfl) rfl (bl rfl) ?_)
      refine TrL.cons_yes rfl rfl rfl (bf_dec h31) (OpTr.v (v_fieldAddr' rfl fo91_2 rfl rfl) rfl (bl rfl) ?_)
      refine TrL.cons_yes rfl rfl rfl (bf_dec h31) (OpTr.v (v_load (k := 0) rfl rfl rfl ty28 (fun _ => rfl) rfl rfl) rfl (bl rfl) ?_)
      refine TrL.cons_yes rfl rfl rfl (bf_dec h31) (OpTr.v (v_fieldAddr' rfl fo91_3 rfl rfl) rfl (bl rfl) ?_)
      refine TrL.cons_yes rfl rfl rfl (bf_dec h31) (OpTr.v (v_load (k := 0) rfl rfl rfl ty28 (fun _ => rfl) rfl rfl) rfl (bl rfl) ?_)
      refine TrL.cons_yes rfl rfl rfl (bf_dec h31) (OpTr.v (v_fieldAddr' rfl fo91_4 rfl rfl) rfl (bl rfl) ?_)
      refine TrL.cons_yes rfl rfl rfl (bf_dec h31) (OpTr.v (v_load (k := 0) rfl rfl rfl ty3 (fun _ => rfl) rfl rfl) rfl (bl rfl) ?_)
      obtain ⟨r7, hr7, H⟩ := bnd H
      refine TrL.cons_yes rfl rfl rfl (bf_dec h31) (op_call0' (vs := [.int .i64 p1.2.1, .int .u64 p1.2.2.1, .int .u64 p1.2.2.2.1, .int .i64 p1.2.2.2.2.1]) (cap := []) [] rfl rfl (bl rfl) rfl rfl en102 (c_ref14_Conf p1.2.1 p1.2.2.1 p1.2.2.2.1 p1.2.2.2.2.1 r7 hr7) rfl (fun ret M' F' hR7 => ?_))
      obtain ⟨rfl, rfl, rfl⟩ := hR7
      refine TrL.cons_yes rfl rfl rfl (bf_dec h31) (OpTr.v (v_notd rfl (bdec rfl)) rfl (bl rfl) ?_)
      refine TrL.v (v_pick_f rfl rfl (bf_dec h31) rfl) rfl rfl (bl rfl) ?_
      refine TrL.nil (qthen_n ?_)
      rcases ifc H with ⟨h32, H⟩ | ⟨h32, H⟩
      ·refine Tr.cond_t rfl (bt_dec h32) ?_
       refine Tr.seq ?_
       refine Tr.region ?_
       refine TrL.v (v_assign rfl rfl) rfl rfl (bl rfl) ?_
       refine TrL.nil (qthen_n ?_)
       have hz := Option.some.inj H
       subst hz
       refine Tr.ret (qthen_r (qblock_r (qthen_r (ret_r ⟨[(2, .int .i64 9)], [], [], []⟩ [.int .i64 9] [] [] (Imp.re _ [] [] (sc rfl sn) (by decide) rfl rfl rfl) rfl rfl ⟨rfl, rfl, rfl⟩ (.cons (resv_tmp rfl) .nil)))))
      ·refine Tr.cond_f rfl (bf_dec h32) ?_
       refine Tr.skip (qthen_n ?_)
       refine Tr.seq ?_
       refine Tr.region ?_
       refine TrL.v (v_assign rfl rfl) rfl rfl (bl rfl) ?_
       refine TrL.nil (qthen_n ?_)
       have hz := Option.some.inj H
       subst hz
       refine Tr.ret (qblock_r (qthen_r (ret_r ⟨[(2, .int .i64 0)], [], [], []⟩ [.int .i64 0] [] [] (Imp.re _ [] [] (sc rfl sn) (by decide) rfl rfl rfl) rfl rfl ⟨rfl, rfl, rfl⟩ (.cons (resv_tmp rfl) .nil))))
 ·refine Tr.cond_f rfl (bf_dec h23) ?_
  refine Tr.seq ?_
  refine Tr.region ?_
  refine TrL.v (v_arith rfl rfl rfl ar_eql) rfl rfl (bl rfl) ?_
  refine TrL.v (v_assign rfl rfl) rfl rfl (bl rfl) ?_
  refine TrL.nil (qthen_n ?_)
  rcases ifc H with ⟨h33, H⟩ | ⟨h33, H⟩
  ·refine Tr.cond_t rfl (bt_dec h33) ?_
   refine Tr.seq ?_
   refine Tr.seq ?_
   refine Tr.region ?_
   refine TrL.v (v_fieldAddr' rfl fo91_7 rfl rfl) rfl rfl (bl rfl) ?_
   refine TrL.v (v_load (k := 0) rfl rfl rfl ty3 (fun _ => rfl) rfl rfl) rfl rfl (bl rfl) ?_
   refine TrL.v (v_arith rfl rfl rfl ar_neq) rfl rfl (bl rfl) ?_
   refine TrL.v (v_move rfl rfl) rfl rfl (bl rfl) ?_
   rcases ifc H with ⟨h35, H⟩ | ⟨h35, H⟩
   ·refine TrL.cons_no rfl rfl rfl (gn_f (bt_dec h35)) rfl (bl rfl) ?_
    refine TrL.cons_no rfl rfl rfl (gn_f (bt_dec h35)) rfl (bl rfl) ?_
    refine TrL.cons_no rfl rfl rfl (gn_f (bt_dec h35)) rfl (bl rfl) ?_
    refine TrL.v (v_pick_t rfl rfl (bt_dec h35) rfl) rfl rfl (bl rfl) ?_
    refine TrL.nil (qthen_n ?_)
    refine Tr.cond_t rfl rfl ?_
    refine Tr.seq ?_
    refine Tr.region ?_
    refine TrL.v (v_assign rfl rfl) rfl rfl (bl rfl) ?_
    refine TrL.nil (qthen_n ?_)
    have hz := Option.some.inj H
    subst hz
    refine Tr.ret (qthen_r (qblock_r (qthen_r (ret_r ⟨[(2, .int .i64 9)], [], [], []⟩ [.int .i64 9] [] [] (Imp.re _ [] [] (sc rfl sn) (by decide) rfl rfl rfl) rfl rfl ⟨rfl, rfl, rfl⟩ (.cons (resv_tmp rfl) .nil)))))
   ·refine TrL.cons_yes rfl rfl rfl (bf_dec h35) (OpTr.v (v_fieldAddr' rfl fo91_8 rfl rfl) rfl (bl rfl) ?_)
    refine TrL.cons_yes rfl rfl rfl (bf_dec h35) (OpTr.v (v_load (k := 0) rfl rfl rfl ty3 (fun _ => rfl) rfl rfl) rfl (bl rfl) ?_)
    refine TrL.cons_yes rfl rfl rfl (bf_dec h35) (OpTr.v (v_arith rfl rfl rfl ar_neq) rfl (bl rfl) ?_)
    refine TrL.v (v_pick_f rfl rfl (bf_dec h35) rfl) rfl rfl (bl rfl) ?_
    refine TrL.nil (qthen_n ?_)
    rcases ifc H with ⟨h36, H⟩ | ⟨h36, H⟩
    ·refine Tr.cond_t rfl (bt_dec h36) ?_
     refine Tr.seq ?_
     refine Tr.region ?_
     refine TrL.v (v_assign rfl rfl) rfl rfl (bl rfl) ?_
     refine TrL.nil (qthen_n ?_)
     have hz := Option.some.inj H
     subst hz
     refine Tr.ret (qthen_r (qblock_r (qthen_r (ret_r ⟨[(2, .int .i64 9)], [], [], []⟩ [.int .i64 9] [] [] (Imp.re _ [] [] (sc rfl sn) (by decide) rfl rfl rfl) rfl rfl ⟨rfl, rfl, rfl⟩ (.cons (resv_tmp rfl) .nil)))))
    ·refine Tr.cond_f rfl (bf_dec h36) ?_
     refine Tr.skip (qthen_n ?_)
     refine Tr.seq ?_
     refine Tr.region ?_
     refine TrL.v (v_load (k := 0) rfl rfl rfl ty91 nofun rfl rfl) rfl rfl (bl rfl) ?_
     obtain ⟨r8, hr8, H⟩ := bnd H
     refine TrL.cons rfl (op_call0' (vs := [.agg #[.int .i64 p1.1, .int .i64 p1.2.1, .int .u64 p1.2.2.1, .int .u64 p1.2.2.2.1, .int .i64 p1.2.2.2.2.1, .int .i64 p1.2.2.2.2.2.1, .slice A1 p1.2.2.2.2.2.2.1.length c1, .int .i64 p1.2.2.2.2.2.2.2.1, .int .i64 p1.2.2.2.2.2.2.2.2]]) (cap := []) [0] rfl rfl (bl rfl) rfl rfl en103 (c_ref16_Conf p1 A1 c1 r8 hr8) rfl (fun ret M' F' hR8 => ?_))
     obtain ⟨rfl, rfl, rfl⟩ := hR8
     refine TrL.v (v_assign rfl rfl) rfl rfl (bl rfl) ?_
     refine TrL.nil (qthen_n ?_)
     have hz := Option.some.inj H
     subst hz
     refine Tr.ret (qblock_r (qthen_r (ret_r ⟨[(2, .int .i64 r8)], [], [], []⟩ [.int .i64 r8] [] [] (Imp.re _ [] [] (sc rfl sn) (by decide) rfl rfl rfl) rfl rfl ⟨rfl, rfl, rfl⟩ (.cons (resv_tmp rfl) .nil))))
  ·refine Tr.cond_f rfl (bf_dec h33) ?_
   refine Tr.seq ?_
   refine Tr.region ?_
   refine TrL.v (v_arith rfl rfl rfl ar_eql) rfl rfl (bl rfl) ?_
   refine TrL.v (v_assign rfl rfl) rfl rfl (bl rfl) ?_
   refine TrL.nil (qthen_n ?_)
   rcases ifc H with ⟨h37, H⟩ | ⟨h37, H⟩
   ·refine Tr.cond_t rfl (bt_dec h37) ?_
    refine Tr.seq ?_
    refine Tr.seq ?_
    refine Tr.region ?_
    refine TrL.v (v_fieldAddr' rfl fo91_1 rfl rfl) rfl rfl (bl rfl) ?_
    refine TrL.v (v_load (k := 0) rfl rfl rfl ty3 (fun _ => rfl) rfl rfl) rfl rfl (bl rfl) ?_
    refine TrL.v (v_arith rfl rfl rfl ar_neq) rfl rfl (bl rfl) ?_
    refine TrL.v (v_move rfl rfl) rfl rfl (bl rfl) ?_
    rcases ifc H with ⟨h41, H⟩ | ⟨h41, H⟩
    ·refine TrL.cons_no rfl rfl rfl (gn_f (bt_dec h41)) rfl (bl rfl) ?_
     refine TrL.cons_no rfl rfl rfl (gn_f (bt_dec h41)) rfl (bl rfl) ?_
     refine TrL.cons_no rfl rfl rfl (gn_f (bt_dec h41)) rfl (bl rfl) ?_
     refine TrL.v (v_pick_t rfl rfl (bt_dec h41) rfl) rfl rfl (bl rfl) ?_
     refine TrL.v (v_move rfl rfl) rfl rfl (bl rfl) ?_
     refine TrL.cons_no rfl rfl rfl (gn_f rfl) rfl (bl rfl) ?_
     refine TrL.cons_no rfl rfl rfl (gn_f rfl) rfl (bl rfl) ?_
     refine TrL.cons_no rfl rfl rfl (gn_f rfl) rfl (bl rfl) ?_
     refine TrL.cons_no rfl rfl rfl (gn_f rfl) rfl (bl rfl) ?_
     refine TrL.v (v_pick_t rfl rfl rfl rfl) rfl rfl (bl rfl) ?_
     refine TrL.v (v_move rfl rfl) rfl rfl (bl rfl) ?_
     refine TrL.cons_no rfl rfl rfl (gn_f rfl) rfl (bl rfl) ?_
     refine TrL.cons_no rfl rfl rfl (gn_f rfl) rfl (bl rfl) ?_
     refine TrL.cons_no rfl rfl rfl (gn_f rfl) rfl (bl rfl) ?_
     refine TrL.v (v_pick_t rfl rfl rfl rfl) rfl rfl (bl rfl) ?_
     refine TrL.nil (qthen_n ?_)
     refine Tr.cond_t rfl rfl ?_
     refine Tr.seq ?_
     refine Tr.region ?_
     refine TrL.v (v_assign rfl rfl) rfl rfl (bl rfl) ?_
     refine TrL.nil (qthen_n ?_)
     have hz := Option.some.inj H
     subst hz
     refine Tr.ret (qthen_r (qblock_r (qthen_r (ret_r ⟨[(2, .int .i64 9)], [], [], []⟩ [.int .i64 9] [] [] (Imp.re _ [] [] (sc rfl sn) (by decide) rfl rfl rfl) rfl rfl ⟨rfl, rfl, rfl⟩ (.cons (resv_tmp rfl) .nil)))))
    ·refine TrL.cons_yes rfl rfl rfl (bf_dec h41) (OpTr.v (v_fieldAddr' rfl fo91_5 rfl rfl) rfl (bl rfl) ?_)
     refine TrL.cons_yes rfl rfl rfl (bf_dec h41) (OpTr.v (v_load (k := 0) rfl rfl rfl ty3 (fun _ => rfl) rfl rfl) rfl (bl rfl) ?_)
     refine TrL.cons_yes rfl rfl rfl (bf_dec h41) (OpTr.v (v_arith rfl rfl rfl ar_neq) rfl (bl rfl) ?_)
     refine TrL.v (v_pick_f rfl rfl (bf_dec h41) rfl) rfl rfl (bl rfl) ?_
     refine TrL.v (v_move rfl rfl) rfl rfl (bl rfl) ?_
     rcases ifc H with ⟨h42, H⟩ | ⟨h42, H⟩
     ·refine TrL.cons_no rfl rfl rfl (gn_f (bt_dec h42)) rfl (bl rfl) ?_
      refine TrL.cons_no rfl rfl rfl (gn_f (bt_dec h42)) rfl (bl rfl) ?_
      refine TrL.cons_no rfl rfl rfl (gn_f (bt_dec h42)) rfl (bl rfl) ?_
      refine TrL.cons_no rfl rfl rfl (gn_f (bt_dec h42)) rfl (bl rfl) ?_
      refine TrL.v (v_pick_t rfl rfl (bt_dec h42) rfl) rfl rfl (bl rfl) ?_
      refine TrL.v (v_move rfl rfl) rfl rfl (bl rfl) ?_
      refine TrL.cons_no rfl rfl rfl (gn_f rfl) rfl (bl rfl) ?_
      refine TrL.cons_no rfl rfl rfl (gn_f rfl) rfl (bl rfl) ?_
      refine TrL.cons_no rfl rfl rfl (gn_f rfl) rfl (bl rfl) ?_
      refine TrL.v (v_pick_t rfl rfl rfl rfl) rfl rfl (bl rfl) ?_
      refine TrL.nil (qthen_n ?_)
      refine Tr.cond_t rfl rfl ?_
      refine Tr.seq ?_
      refine Tr.region ?_
      refine TrL.v (v_assign rfl rfl) rfl rfl (bl rfl) ?_
      refine TrL.nil (qthen_n ?_)
      have hz := Option.some.inj H
      subst hz
      refine Tr.ret (qthen_r (qblock_r (qthen_r (ret_r ⟨[(2, .int .i64 9)], [], [], []⟩ [.int .i64 9] [] [] (Imp.re _ [] [] (sc rfl sn) (by decide) rfl rfl rfl) rfl rfl ⟨rfl, rfl, rfl⟩ (.cons (resv_tmp rfl) .nil)))))
     ·refine TrL.cons_yes rfl rfl rfl (bf_dec h42) (OpTr.v (v_fieldAddr' rfl fo91_6 rfl rfl) rfl (bl rfl) ?_)
      refine TrL.cons_yes rfl rfl rfl (bf_dec h42) (OpTr.v (v_load (k := 0) rfl rfl rfl ty89 (fun _ => rfl) rfl rfl) rfl (bl rfl) ?_)
      refine TrL.cons_yes rfl rfl rfl (bf_dec h42) (OpTr.v (v_len rfl sl89 rfl) rfl (bl rfl) ?_)
      refine TrL.cons_yes rfl rfl rfl (bf_dec h42) (OpTr.v (v_arith rfl rfl rfl ar_gtr) rfl (bl rfl) ?_)
      refine TrL.v (v_pick_f rfl rfl (bf_dec h42) rfl) rfl rfl (bl rfl) ?_
      refine TrL.v (v_move rfl rfl) rfl rfl (bl rfl) ?_
      rcases ifc H with ⟨h43, H⟩ | ⟨h43, H⟩
      ·refine TrL.cons_no rfl rfl rfl (gn_f (bt_dec h43)) rfl (bl rfl) ?_
       refine TrL.cons_no rfl rfl rfl (gn_f (bt_dec h43)) rfl (bl rfl) ?_
       refine TrL.cons_no rfl rfl rfl (gn_f (bt_dec h43)) rfl (bl rfl) ?_
       refine TrL.v (v_pick_t rfl rfl (bt_dec h43) rfl) rfl rfl (bl rfl) ?_
       refine TrL.nil (qthen_n ?_)
       refine Tr.cond_t rfl rfl ?_
       refine Tr.seq ?_
       refine Tr.region ?_
       refine TrL.v (v_assign rfl rfl) rfl rfl (bl rfl) ?_
       refine TrL.nil (qthen_n ?_)
       have hz := Option.some.inj H
       subst hz
       refine Tr.ret (qthen_r (qblock_r (qthen_r (ret_r ⟨[(2, .int .i64 9)], [], [], []⟩ [.int .i64 9] [] [] (Imp.re _ [] [] (sc rfl sn) (by decide) rfl rfl rfl) rfl rfl ⟨rfl, rfl, rfl⟩ (.cons (resv_tmp rfl) .nil)))))
      ·refine TrL.cons_yes rfl rfl rfl (bf_dec h43) (OpTr.v (v_load (k := 0) rfl rfl rfl ty91 nofun rfl rfl) rfl (bl rfl) ?_)
       obtain ⟨r10, hr10, H⟩ := bnd H
       refine TrL.cons_yes rfl rfl rfl (bf_dec h43) (op_call0' (vs := [.agg #[.int .i64 p1.1, .int .i64 p1.2.1, .int .u64 p1.2.2.1, .int .u64 p1.2.2.2.1, .int .i64 p1.2.2.2.2.1, .int .i64 p1.2.2.2.2.2.1, .slice A1 p1.2.2.2.2.2.2.1.length c1, .int .i64 p1.2.2.2.2.2.2.2.1, .int .i64 p1.2.2.2.2.2.2.2.2]]) (cap := []) [0] rfl rfl (bl rfl) rfl rfl en104 (c_ref20_Conf p1 A1 c1 r10 hr10) rfl (fun ret M' F' hR10 => ?_))
       obtain ⟨rfl, rfl, rfl⟩ := hR10
       refine TrL.cons_yes rfl rfl rfl (bf_dec h43) (OpTr.v (v_notd rfl (bdec rfl)) rfl (bl rfl) ?_)
       refine TrL.v (v_pick_f rfl rfl (bf_dec h43) rfl) rfl rfl (bl rfl) ?_
       refine TrL.nil (qthen_n ?_)
       rcases ifc H with ⟨h44, H⟩ | ⟨h44, H⟩
       ·refine Tr.cond_t rfl (bt_dec h44) ?_
        refine Tr.seq ?_
        refine Tr.region ?_
        refine TrL.v (v_assign rfl rfl) rfl rfl (bl rfl) ?_
        refine TrL.nil (qthen_n ?_)
        have hz := Option.some.inj H
        subst hz
        refine Tr.ret (qthen_r (qblock_r (qthen_r (ret_r ⟨[(2, .int .i64 9)], [], [], []⟩ [.int .i64 9] [] [] (Imp.re _ [] [] (sc rfl sn) (by decide) rfl rfl rfl) rfl rfl ⟨rfl, rfl, rfl⟩ (.cons (resv_tmp rfl) .nil)))))
       ·refine Tr.cond_f rfl (bf_dec h44) ?_
        refine Tr.skip (qthen_n ?_)
        refine Tr.seq ?_
        refine Tr.region ?_
        refine TrL.v (v_assign rfl rfl) rfl rfl (bl rfl) ?_
        refine TrL.nil (qthen_n ?_)
        have hz := Option.some.inj H
        subst hz
        refine Tr.ret (qblock_r (qthen_r (ret_r ⟨[(2, .int .i64 0)], [], [], []⟩ [.int .i64 0] [] [] (Imp.re _ [] [] (sc rfl sn) (by decide) rfl rfl rfl) rfl rfl ⟨rfl, rfl, rfl⟩ (.cons (resv_tmp rfl) .nil))))
   ·refine Tr.cond_f rfl (bf_dec h37) ?_
    refine Tr.skip (qblock_n (qthen_n ?_))
    refine Tr.seq ?_
    refine Tr.region ?_
    refine TrL.v (v_assign rfl rfl) rfl rfl (bl rfl) ?_
    refine TrL.nil (qthen_n ?_)
    have hz := Option.some.inj H
    subst hz
    refine Tr.ret (ret_r ⟨[(2, .int .i64 14)], [], [], []⟩ [.int .i64 14] [] [] (Imp.re _ [] [] (sc rfl sn) (by decide) rfl rfl rfl) rfl rfl ⟨rfl, rfl, rfl⟩ (.cons (resv_tmp rfl) .nil))

theorem c_ref21_nums (p1 : List Int) (A1 : Option Addr) (c1 : Nat) (r : List Int) (H : ref21_nums p1 = some r) :
  Ctr Try.prog 107 [.slice A1 p1.length c1] [] [slF (rInt .u64) A1 c1 p1] (fun ret M' F' => ∃ m : Option Addr × Nat × Option Nat, ret = .slice m.1 r.length m.2.1 ∧ M' = [grow 5 1 (.slice m.1 r.length m.2.1) r.length m.2.2] ∧ F' = [slF (rInt .u8) m.1 m.2.1 r]) := by
 unfold ref21_nums at H
 refine ctr_ofI (N := 19) Try.func107 rfl Try.ntmps107 rfl (Nat.le_of_ble_eq_true rfl) (fun γ0 w0 => ?_)
 refine Tr.seq ?_
 refine Tr.region ?_
 refine TrL.v (v_assign rfl rfl) rfl rfl (bl rfl) ?_
 refine TrL.nil (qthen_n ?_)
 refine Tr.seq ?_
 refine Tr.region ?_
 refine TrL.v (v_assign rfl rfl) rfl rfl (bl rfl) ?_
 refine TrL.nil (qthen_n ?_)
 refine Tr.seq ?_
 refine Tr.seq ?_
 refine Tr.region ?_
 refine TrL.v (v_assign rfl rfl) rfl rfl (bl rfl) ?_
 refine TrL.nil (qthen_n ?_)
 obtain ⟨x2, hx3, H⟩ := bnd H
 refine Tr.cutE (D := List Int) (M := Option Addr × Nat × Option Nat) .normal (fun _d => x2 = _d) (fun x2 m13 => ⟨[(3, .slice m13.1 x2.length m13.2.1)], [grow 5 1 (.slice m13.1 x2.length m13.2.1) x2.length m13.2.2], [slF (rInt .u8) m13.1 m13.2.1 x2], []⟩) ?_ (fun x2 m13 hd2 => ?_)
 ·refine Tr.block (Tr.loopI (ι := Option Addr × Nat × Option Nat) (step := ref21_nums_s0 p1) (fun s5 m10 => ⟨[(0, .slice A1 p1.length c1), (3, .slice m10.1 s5.1.length m10.2.1), (4, .int .i64 s5.2)], [grow 5 1 (.slice m10.1 s5.1.length m10.2.1) s5.1.length m10.2.2], [slF (rInt .u64) A1 c1 p1, slF (rInt .u8) m10.1 m10.2.1 s5.1], []⟩) ((none, 0, none)) hx3 (Imp.full' (E := 5) (sz := 1) (A := none) (n := 0) (Imp.addF' _ (nilF (rInt .u8)) (Imp.re _ [0] [0, 1] (sc rfl (sc rfl (sc rfl sn))) (by decide) rfl rfl rfl))) (fun s5 m10 y2 hy2 hx4 => ?_))
  unfold ref21_nums_s0 at hy2
  refine Tr.seq ?_
  refine Tr.seq ?_
  refine Tr.region ?_
  refine TrL.v (v_move rfl rfl) rfl rfl (bl rfl) ?_
  refine TrL.v (v_move rfl rfl) rfl rfl (bl rfl) ?_
  refine TrL.v (v_len rfl sl182 rfl) rfl rfl (bl rfl) ?_
  refine TrL.v (v_arith rfl rfl rfl ar_lss) rfl rfl (bl rfl) ?_
  refine TrL.nil (qthen_n ?_)
  rcases ifc hy2 with ⟨h11, hy2⟩ | ⟨h11, hy2⟩
  ·refine Tr.cond_t rfl (bt_dec h11) ?_
   refine Tr.skip (qthen_n ?_)
   refine Tr.seq ?_
   refine Tr.block ?_
   refine Tr.region ?_
   refine TrL.v (v_move rfl rfl) rfl rfl (bl rfl) ?_
   refine TrL.v (v_move rfl rfl) rfl rfl (bl rfl) ?_
   refine TrL.v (v_move rfl rfl) rfl rfl (bl rfl) ?_
   obtain ⟨z6, hz6, hy2⟩ := bnd hy2
   refine TrL.v (v_indexAddr (k := 0) rfl sl182 ty28 rfl rfl rfl rfl hz6) rfl rfl (bl rfl) ?_
   refine TrL.v (v_loadg (A := A1) (i := s5.2) (j := 0) (k := 0) rfl ty28 (fun _ => rfl) rfl rfl hz6 rfl rfl) rfl rfl (bl rfl) ?_
   obtain ⟨r6, hr6, hy2⟩ := bnd hy2
   refine TrL.cons rfl (op_call0' (vs := [.int .u64 z6]) (cap := []) [] rfl rfl (bl rfl) rfl rfl en67 (c_ref02_Num z6 r6 hr6) rfl (fun ret M' F' hR6 => ?_))
   obtain ⟨m14, rfl, rfl, rfl⟩ := hR6
   obtain ⟨h12, hy2⟩ := rom hy2
   refine TrL.cons rfl (op_append' (rp := (rInt .u8)) (xs := s5.1) (ys := r6) (k := 0) (kx := 1) (ky := 2) rfl (bl rfl) rfl sl40 ty5 ze5 rfl by5 rfl rfl rfl rfl rfl rfl rfl h12.1 h12.2 (fun A7 c7 o6 => ?_))
   refine TrL.v (v_assign rfl rfl) rfl rfl (bl rfl) ?_
   refine TrL.nil (qblock_n (qthen_n ?_))
   refine Tr.region ?_
   refine TrL.v (v_move rfl rfl) rfl rfl (bl rfl) ?_
   refine TrL.v (v_arith rfl rfl rfl ar_add_i64) rfl rfl (bl rfl) ?_
   refine TrL.v (v_assign rfl rfl) rfl rfl (bl rfl) ?_
   have hz := Option.some.inj hy2
   subst hz
   refine TrL.nil (qloop_n ((A7, c7, o6)) (Imp.re _ [0] [0, 3] (sc rfl (sc rfl (sc rfl sn))) (by decide) rfl rfl rfl))
  ·refine Tr.cond_f rfl (bf_dec h11) ?_
   have hz := Option.some.inj hy2
   subst hz
   refine Tr.exit (qthen_x (qloop_x (qblock_hit (qcut_hit s5.1 ((m10.1, m10.2.1, m10.2.2)) (hx4 _ rfl).symm (Imp.re _ [0] [1] (sc rfl sn) (by decide) rfl rfl rfl)))))
 ·subst hd2
  refine (qthen_n ?_)
  refine Tr.seq ?_
  refine Tr.region ?_
  refine TrL.v (v_move rfl rfl) rfl rfl (bl rfl) ?_
  refine TrL.v (v_assign rfl rfl) rfl rfl (bl rfl) ?_
  refine TrL.nil (qthen_n ?_)
  have hz := Option.some.inj H
  subst hz
  refine Tr.ret (ret_r ⟨[(2, .slice m13.1 x2.length m13.2.1)], [grow 5 1 (.slice m13.1 x2.length m13.2.1) x2.length m13.2.2], [slF (rInt .u8) m13.1 m13.2.1 x2], []⟩ [.slice m13.1 x2.length m13.2.1] [grow 5 1 (.slice m13.1 x2.length m13.2.1) x2.length m13.2.2] [] (Imp.re _ [0] [0] (sc rfl sn) (by decide) rfl rfl rfl) rfl rfl ⟨((m13.1, m13.2.1, m13.2.2)), rfl, rfl, rfl⟩ (.cons (resv_tmp rfl) .nil))

theorem c_ref21_Put (p1 : Int × Int × Int × Int × Int × Int × (List (Int × Int)) × Int × Int) (A1 : Option Addr) (c1 : Nat) (r : List Int) (H : ref21_Put p1 = some r) :
  Ctr Try.prog 50 [.agg #[.int .i64 p1.1, .int .i64 p1.2.1, .int .u64 p1.2.2.1, .int .u64 p1.2.2.2.1, .int .i64 p1.2.2.2.2.1, .int .i64 p1.2.2.2.2.2.1, .slice A1 p1.2.2.2.2.2.2.1.length c1, .int .i64 p1.2.2.2.2.2.2.2.1, .int .i64 p1.2.2.2.2.2.2.2.2]] [] [slF rp_u64_u64 A1 c1 p1.2.2.2.2.2.2.1] (fun ret M' F' => ∃ m : Option Addr × Nat, ret = .slice m.1 r.length m.2 ∧ M' = [] ∧ F' = [slF (rInt .u8) m.1 m.2 r]) := by
 unfold ref21_Put at H
 refine ctr_ofI (N := 83) Try.func50 rfl Try.ntmps50 rfl (Nat.le_of_ble_eq_true rfl) (fun γ0 w0 => ?_)
 refine Tr.seq ?_
 refine Tr.region ?_
 refine TrL.cons rfl (op_box' rfl (bl rfl) rfl rfl rfl (fun b2 => ?_))
 refine TrL.v (v_assign rfl rfl) rfl rfl (bl rfl) ?_
 refine TrL.nil (qthen_n ?_)
 refine Tr.seq ?_
 refine Tr.seq ?_
 refine Tr.region ?_
 refine TrL.v (v_load (k := 0) rfl rfl rfl ty91 nofun rfl rfl) rfl rfl (bl rfl) ?_
 obtain ⟨r12, hr12, H⟩ := bnd H
 refine TrL.cons rfl (op_call0' (vs := [.agg #[.int .i64 p1.1, .int .i64 p1.2.1, .int .u64 p1.2.2.1, .int .u64 p1.2.2.2.1, .int .i64 p1.2.2.2.2.1, .int .i64 p1.2.2.2.2.2.1, .slice A1 p1.2.2.2.2.2.2.1.length c1, .int .i64 p1.2.2.2.2.2.2.2.1, .int .i64 p1.2.2.2.2.2.2.2.2]]) (cap := []) [0] rfl rfl (bl rfl) rfl rfl en48 (c_ref21_Check p1 A1 c1 r12 hr12) rfl (fun ret M' F' hR12 => ?_))
 obtain ⟨rfl, rfl, rfl⟩ := hR12
 refine TrL.v (v_arith rfl rfl rfl ar_neq) rfl rfl (bl rfl) ?_
 refine TrL.nil (qthen_n ?_)
 rcases ifc H with ⟨h16, H⟩ | ⟨h16, H⟩
 ·refine Tr.cond_t rfl (bt_dec h16) ?_
  refine Tr.seq ?_
  refine Tr.region ?_
  refine TrL.v (v_assign rfl rfl) rfl rfl (bl rfl) ?_
  refine TrL.nil (qthen_n ?_)
  have hz := Option.some.inj H
  subst hz
  refine Tr.ret (qthen_r (ret_r ⟨[(2, .slice none 0 0)], [], [slF (rInt .u8) none 0 (([] : List Int))], []⟩ [.slice none 0 0] [] [] (Imp.addF' _ (nilF (rInt .u8)) (Imp.re _ [] [1] (sc rfl sn) (by decide) rfl rfl rfl)) rfl rfl ⟨((none, 0)), rfl, rfl, rfl⟩ (.cons (resv_tmp rfl) .nil)))
 ·refine Tr.cond_f rfl (bf_dec h16) ?_
  refine Tr.skip (qthen_n ?_)
  refine Tr.seq ?_
  refine Tr.region ?_
  refine TrL.v (v_fieldAddr' rfl fo91_0 rfl rfl) rfl rfl (bl rfl) ?_
  refine TrL.v (v_load (k := 0) rfl rfl rfl ty3 (fun _ => rfl) rfl rfl) rfl rfl (bl rfl) ?_
  refine TrL.v (v_conv' rfl ⟨_, Try.underlying3⟩ Try.underlying28 rfl wrap_u64') rfl rfl (bl rfl) ?_
  refine TrL.v (v_fieldAddr' rfl fo91_2 rfl rfl) rfl rfl (bl rfl) ?_
  refine TrL.v (v_load (k := 0) rfl rfl rfl ty28 (fun _ => rfl) rfl rfl) rfl rfl (bl rfl) ?_
  refine TrL.v (v_fieldAddr' rfl fo91_3 rfl rfl) rfl rfl (bl rfl) ?_
  refine TrL.v (v_load (k := 0) rfl rfl rfl ty28 (fun _ => rfl) rfl rfl) rfl rfl (bl rfl) ?_
  refine TrL.v (v_fieldAddr' rfl fo91_4 rfl rfl) rfl rfl (bl rfl) ?_
  refine TrL.v (v_load (k := 0) rfl rfl rfl ty3 (fun _ => rfl) rfl rfl) rfl rfl (bl rfl) ?_
  refine TrL.v (v_conv' rfl ⟨_, Try.underlying3⟩ Try.underlying28 rfl wrap_u64') rfl rfl (bl rfl) ?_
  refine TrL.cons rfl (op_buildSlice' (rp := (rInt .u64)) (xs := [wu64 p1.1, p1.2.2.1, p1.2.2.2.1, wu64 p1.2.2.2.2.1]) (vs := [.int .u64 (wu64 p1.1), .int .u64 p1.2.2.1, .int .u64 p1.2.2.2.1, .int .u64 (wu64 p1.2.2.2.2.1)]) (out := [.int .u64 (wu64 p1.1), .int .u64 p1.2.2.1, .int .u64 p1.2.2.2.1, .int .u64 (wu64 p1.2.2.2.2.1)]) rfl (bl rfl) rfl sl182 ty28 ze28 rfl rfl (by decide) (by decide) rfl (fun γ w hF => (rowc rfl (rowc rfl (rowc rfl (rowc rfl rown rfl) rfl) rfl) rfl)) (fun A15 => ?_))
  obtain ⟨r13, hr13, H⟩ := bnd H
  refine TrL.cons rfl (op_call0' (vs := [.slice A15 4 4]) (cap := []) [1] rfl rfl (bl rfl) rfl rfl en107 (c_ref21_nums ([wu64 p1.1, p1.2.2.1, p1.2.2.2.1, wu64 p1.2.2.2.2.1]) A15 4 r13 hr13) rfl (fun ret M' F' hR13 => ?_))
  obtain ⟨m17, rfl, rfl, rfl⟩ := hR13
  refine TrL.v (v_assign rfl rfl) rfl rfl (bl rfl) ?_
  refine TrL.nil (qthen_n ?_)
  refine Tr.seq ?_
  refine Tr.seq ?_
  refine Tr.region ?_
  refine TrL.v (v_fieldAddr' rfl fo91_0 rfl rfl) rfl rfl (bl rfl) ?_
  refine TrL.v (v_load (k := 1) rfl rfl rfl ty3 (fun _ => rfl) rfl rfl) rfl rfl (bl rfl) ?_
  refine TrL.nil (qthen_n ?_)
  refine Tr.block ?_
  refine Tr.seq ?_
  refine Tr.region ?_
  refine TrL.v (v_arith rfl rfl rfl ar_eql) rfl rfl (bl rfl) ?_
  refine TrL.v (v_assign rfl rfl) rfl rfl (bl rfl) ?_
  refine TrL.nil (qthen_n ?_)
  rcases ifc H with ⟨h17, H⟩ | ⟨h17, H⟩
  ·refine Tr.cond_t rfl (bt_dec h17) ?_
   refine Tr.region ?_
   refine TrL.v (v_move rfl rfl) rfl rfl (bl rfl) ?_
   refine TrL.v (v_fieldAddr' rfl fo91_1 rfl rfl) rfl rfl (bl rfl) ?_
   refine TrL.v (v_load (k := 1) rfl rfl rfl ty3 (fun _ => rfl) rfl rfl) rfl rfl (bl rfl) ?_
   refine TrL.v (v_conv' rfl ⟨_, Try.underlying3⟩ Try.underlying28 rfl wrap_u64') rfl rfl (bl rfl) ?_
   refine TrL.cons rfl (op_buildSlice' (rp := (rInt .u64)) (xs := [wu64 p1.2.1]) (vs := [.int .u64 (wu64 p1.2.1)]) (out := [.int .u64 (wu64 p1.2.1)]) rfl (bl rfl) rfl sl182 ty28 ze28 rfl rfl (by decide) (by decide) rfl (fun γ w hF => (rowc rfl rown rfl)) (fun A16 => ?_))
   obtain ⟨r14, hr14, H⟩ := bnd H
   refine TrL.cons rfl (op_call0' (vs := [.slice A16 1 1]) (cap := []) [3] rfl rfl (bl rfl) rfl rfl en107 (c_ref21_nums ([wu64 p1.2.1]) A16 1 r14 hr14) rfl (fun ret M' F' hR14 => ?_))
   obtain ⟨m18, rfl, rfl, rfl⟩ := hR14
   obtain ⟨h18, H⟩ := rom H
   refine TrL.cons rfl (op_append' (rp := (rInt .u8)) (xs := r13) (ys := r14) (k := 1) (kx := 2) (ky := 4) rfl (bl rfl) rfl sl40 ty5 ze5 rfl by5 rfl rfl rfl rfl rfl rfl rfl h18.1 h18.2 (fun A17 c11 o10 => ?_))
   refine TrL.v (v_assign rfl rfl) rfl rfl (bl rfl) ?_
   refine TrL.nil (qblock_n (qthen_n ?_))
   refine Tr.seq ?_
   refine Tr.region ?_
   refine TrL.v (v_move rfl rfl) rfl rfl (bl rfl) ?_
   refine TrL.v (v_assign rfl rfl) rfl rfl (bl rfl) ?_
   refine TrL.nil (qthen_n ?_)
   have hz := Option.some.inj H
   subst hz
   refine Tr.ret (ret_r ⟨[(2, .slice A17 ((r13 ++ r14).length) c11)], [], [slF (rInt .u8) A17 c11 (r13 ++ r14)], []⟩ [.slice A17 ((r13 ++ r14).length) c11] [] [] (Imp.re _ [] [5] (sc rfl sn) (by decide) rfl rfl rfl) rfl rfl ⟨((A17, c11)), rfl, rfl, rfl⟩ (.cons (resv_tmp rfl) .nil))
  ·refine Tr.cond_f rfl (bf_dec h17) ?_
   refine Tr.seq ?_
   refine Tr.region ?_
   refine TrL.v (v_arith rfl rfl rfl ar_eql) rfl rfl (bl rfl) ?_
   refine TrL.v (v_assign rfl rfl) rfl rfl (bl rfl) ?_
   refine TrL.nil (qthen_n ?_)
   rcases ifc H with ⟨h19, H⟩ | ⟨h19, H⟩
   ·refine Tr.cond_t rfl (bt_dec h19) ?_
    refine Tr.seq ?_
    refine Tr.region ?_
    refine TrL.v (v_move rfl rfl) rfl rfl (bl rfl) ?_
    refine TrL.v (v_fieldAddr' rfl fo91_1 rfl rfl) rfl rfl (bl rfl) ?_
    refine TrL.v (v_load (k := 1) rfl rfl rfl ty3 (fun _ => rfl) rfl rfl) rfl rfl (bl rfl) ?_
    refine TrL.v (v_conv' rfl ⟨_, Try.underlying3⟩ Try.underlying28 rfl wrap_u64') rfl rfl (bl rfl) ?_
    refine TrL.v (v_fieldAddr' rfl fo91_5 rfl rfl) rfl rfl (bl rfl) ?_
    refine TrL.v (v_load (k := 1) rfl rfl rfl ty3 (fun _ => rfl) rfl rfl) rfl rfl (bl rfl) ?_
    refine TrL.v (v_conv' rfl ⟨_, Try.underlying3⟩ Try.underlying28 rfl wrap_u64') rfl rfl (bl rfl) ?_
    refine TrL.v (v_fieldAddr' rfl fo91_6 rfl rfl) rfl rfl (bl rfl) ?_
    refine TrL.v (v_load (k := 1) rfl rfl rfl ty89 (fun _ => rfl) rfl rfl) rfl rfl (bl rfl) ?_
    refine TrL.v (v_len rfl sl89 rfl) rfl rfl (bl rfl) ?_
    refine TrL.v (v_conv' rfl ⟨_, Try.underlying3⟩ Try.underlying28 rfl wrap_u64') rfl rfl (bl rfl) ?_
    refine TrL.cons rfl (op_buildSlice' (rp := (rInt .u64)) (xs := [wu64 p1.2.1, wu64 p1.2.2.2.2.2.1, wu64 ((p1.2.2.2.2.2.2.1.length : Int))]) (vs := [.int .u64 (wu64 p1.2.1), .int .u64 (wu64 p1.2.2.2.2.2.1), .int .u64 (wu64 ((p1.2.2.2.2.2.2.1.length : Int)))]) (out := [.int .u64 (wu64 p1.2.1), .int .u64 (wu64 p1.2.2.2.2.2.1), .int .u64 (wu64 ((p1.2.2.2.2.2.2.1.length : Int)))]) rfl (bl rfl) rfl sl182 ty28 ze28 rfl rfl (by decide) (by decide) rfl (fun γ w hF => (rowc rfl (rowc rfl (rowc rfl rown rfl) rfl) rfl)) (fun A18 => ?_))
    obtain ⟨r15, hr15, H⟩ := bnd H
    refine TrL.cons rfl (op_call0' (vs := [.slice A18 3 3]) (cap := []) [3] rfl rfl (bl rfl) rfl rfl en107 (c_ref21_nums ([wu64 p1.2.1, wu64 p1.2.2.2.2.2.1, wu64 ((p1.2.2.2.2.2.2.1.length : Int))]) A18 3 r15 hr15) rfl (fun ret M' F' hR15 => ?_))
    obtain ⟨m19, rfl, rfl, rfl⟩ := hR15
    obtain ⟨h20, H⟩ := rom H
    refine TrL.cons rfl (op_append' (rp := (rInt .u8)) (xs := r13) (ys := r15) (k := 1) (kx := 2) (ky := 4) rfl (bl rfl) rfl sl40 ty5 ze5 rfl by5 rfl rfl rfl rfl rfl rfl rfl h20.1 h20.2 (fun A19 c12 o11 => ?_))
    refine TrL.v (v_assign rfl rfl) rfl rfl (bl rfl) ?_
    refine TrL.nil (qthen_n ?_)
    refine Tr.seq ?_
    refine Tr.region ?_
    refine TrL.v (v_assign rfl rfl) rfl rfl (bl rfl) ?_
    refine TrL.nil (qthen_n ?_)
    obtain ⟨x2, hx3, H⟩ := bnd H
    refine Tr.cutE (D := List Int) (M := Option Addr × Nat × Option Nat) .normal (fun _d => x2 = _d) (fun x2 m27 => ⟨[(3, .slice m27.1 x2.length m27.2.1)], [grow 5 1 (.slice m27.1 x2.length m27.2.1) x2.length m27.2.2], [slF (rInt .u8) m27.1 m27.2.1 x2], []⟩) ?_ (fun x2 m27 hd2 => ?_)
    ·refine Tr.block (Tr.loopI (ι := Option Addr × Nat × Option Nat) (step := ref21_Put_s0 p1) (fun s5 m23 => ⟨[(1, .pointer (some ⟨b2, 0, none⟩)), (3, .slice m23.1 s5.1.length m23.2.1), (4, .int .i64 s5.2)], [cells b2 [.int .i64 p1.1, .int .i64 p1.2.1, .int .u64 p1.2.2.1, .int .u64 p1.2.2.2.1, .int .i64 p1.2.2.2.2.1, .int .i64 p1.2.2.2.2.2.1, .slice A1 p1.2.2.2.2.2.2.1.length c1, .int .i64 p1.2.2.2.2.2.2.2.1, .int .i64 p1.2.2.2.2.2.2.2.2] 91, grow 5 1 (.slice m23.1 s5.1.length m23.2.1) s5.1.length m23.2.2], [slF (rInt .u8) m23.1 m23.2.1 s5.1, slF rp_u64_u64 A1 c1 p1.2.2.2.2.2.2.1], []⟩) ((A19, c12, o11)) hx3 (Imp.re _ [2, 1] [5, 0] (sc rfl (sc rfl (sc rfl sn))) (by decide) rfl rfl rfl) (fun s5 m23 y2 hy2 hx4 => ?_))
     unfold ref21_Put_s0 at hy2
     refine Tr.seq ?_
     refine Tr.seq ?_
     refine Tr.region ?_
     refine TrL.v (v_move rfl rfl) rfl rfl (bl rfl) ?_
     refine TrL.v (v_fieldAddr' rfl fo91_6 rfl rfl) rfl rfl (bl rfl) ?_
     refine TrL.v (v_load (k := 0) rfl rfl rfl ty89 (fun _ => rfl) rfl rfl) rfl rfl (bl rfl) ?_
     refine TrL.v (v_len rfl sl89 rfl) rfl rfl (bl rfl) ?_
     refine TrL.v (v_arith rfl rfl rfl ar_lss) rfl rfl (bl rfl) ?_
     refine TrL.nil (qthen_n ?_)
     rcases ifc hy2 with ⟨h27, hy2⟩ | ⟨h27, hy2⟩
     ·refine Tr.cond_t rfl (bt_dec h27) ?_
      refine Tr.skip (qthen_n ?_)
      refine Tr.seq ?_
      refine Tr.block ?_
      refine Tr.seq ?_
      refine Tr.region ?_
      refine TrL.v (v_move rfl rfl) rfl rfl (bl rfl) ?_
      refine TrL.v (v_fieldAddr' rfl fo91_6 rfl rfl) rfl rfl (bl rfl) ?_
      refine TrL.v (v_load (k := 0) rfl rfl rfl ty89 (fun _ => rfl) rfl rfl) rfl rfl (bl rfl) ?_
      refine TrL.v (v_move rfl rfl) rfl rfl (bl rfl) ?_
      obtain ⟨z6, hz6, hy2⟩ := bnd hy2
      refine TrL.v (v_indexAddr (k := 1) rfl sl89 ty184 rfl rfl rfl rfl hz6) rfl rfl (bl rfl) ?_
      refine TrL.v (v_fieldAddr rfl fo184_0 rfl) rfl rfl (bl rfl) ?_
      refine TrL.v (v_loadg (A := A1) (i := s5.2) (j := 0) (k := 1) rfl ty28 (fun _ => rfl) rfl rfl hz6 rfl rfl) rfl rfl (bl rfl) ?_
      obtain ⟨r20, hr20, hy2⟩ := bnd hy2
      refine TrL.cons rfl (op_call0' (vs := [.int .u64 z6.1]) (cap := []) [] rfl rfl (bl rfl) rfl rfl en108 (c_ref02_Fixed z6.1 r20 hr20) rfl (fun ret M' F' hR20 => ?_))
      obtain ⟨m28, rfl, rfl, rfl⟩ := hR20
      obtain ⟨h28, hy2⟩ := rom hy2
      refine TrL.cons rfl (op_append' (rp := (rInt .u8)) (xs := s5.1) (ys := r20) (k := 1) (kx := 0) (ky := 2) rfl (bl rfl) rfl sl40 ty5 ze5 rfl by5 rfl rfl rfl rfl rfl rfl rfl h28.1 h28.2 (fun A24 c17 o16 => ?_))
      refine TrL.v (v_assign rfl rfl) rfl rfl (bl rfl) ?_
      refine TrL.nil (qthen_n ?_)
      refine Tr.region ?_
      refine TrL.v (v_move rfl rfl) rfl rfl (bl rfl) ?_
      refine TrL.v (v_fieldAddr' rfl fo91_6 rfl rfl) rfl rfl (bl rfl) ?_
      refine TrL.v (v_load (k := 0) rfl rfl rfl ty89 (fun _ => rfl) rfl rfl) rfl rfl (bl rfl) ?_
      refine TrL.v (v_move rfl rfl) rfl rfl (bl rfl) ?_
      refine TrL.v (v_indexAddr (k := 1) rfl sl89 ty184 rfl rfl rfl rfl hz6) rfl rfl (bl rfl) ?_
      refine TrL.v (v_fieldAddr rfl fo184_1 rfl) rfl rfl (bl rfl) ?_
      refine TrL.v (v_loadg (A := A1) (i := s5.2) (j := 1) (k := 1) rfl ty28 (fun _ => rfl) rfl rfl hz6 rfl rfl) rfl rfl (bl rfl) ?_
      obtain ⟨r21, hr21, hy2⟩ := bnd hy2
      refine TrL.cons rfl (op_call0' (vs := [.int .u64 z6.2]) (cap := []) [] rfl rfl (bl rfl) rfl rfl en108 (c_ref02_Fixed z6.2 r21 hr21) rfl (fun ret M' F' hR21 => ?_))
      obtain ⟨m29, rfl, rfl, rfl⟩ := hR21
      obtain ⟨h29, hy2⟩ := rom hy2
      refine TrL.cons rfl (op_append' (rp := (rInt .u8)) (xs := s5.1 ++ r20) (ys := r21) (k := 1) (kx := 3) (ky := 4) rfl (bl rfl) rfl sl40 ty5 ze5 rfl by5 rfl rfl rfl rfl rfl rfl rfl h29.1 h29.2 (fun A25 c18 o17 => ?_))
      refine TrL.v (v_assign rfl rfl) rfl rfl (bl rfl) ?_
      refine TrL.nil (qblock_n (qthen_n ?_))
      refine Tr.region ?_
      refine TrL.v (v_move rfl rfl) rfl rfl (bl rfl) ?_
      refine TrL.v (v_arith rfl rfl rfl ar_add_i64) rfl rfl (bl rfl) ?_
      refine TrL.v (v_assign rfl rfl) rfl rfl (bl rfl) ?_
      have hz := Option.some.inj hy2
      subst hz
      refine TrL.nil (qloop_n ((A25, c18, o17)) (Imp.re _ [0, 1] [5, 1] (sc rfl (sc rfl (sc rfl sn))) (by decide) rfl rfl rfl))
     ·refine Tr.cond_f rfl (bf_dec h27) ?_
      have hz := Option.some.inj hy2
      subst hz
      refine Tr.exit (qthen_x (qloop_x (qblock_hit (qcut_hit s5.1 ((m23.1, m23.2.1, m23.2.2)) (hx4 _ rfl).symm (Imp.re _ [1] [0] (sc rfl sn) (by decide) rfl rfl rfl)))))
    ·subst hd2
     refine (qblock_n (qthen_n ?_))
     refine Tr.seq ?_
     refine Tr.region ?_
     refine TrL.v (v_move rfl rfl) rfl rfl (bl rfl) ?_
     refine TrL.v (v_assign rfl rfl) rfl rfl (bl rfl) ?_
     refine TrL.nil (qthen_n ?_)
     have hz := Option.some.inj H
     subst hz
     refine Tr.ret (ret_r ⟨[(2, .slice m27.1 x2.length m27.2.1)], [], [slF (rInt .u8) m27.1 m27.2.1 x2], []⟩ [.slice m27.1 x2.length m27.2.1] [] [] (Imp.re _ [] [0] (sc rfl sn) (by decide) rfl rfl rfl) rfl rfl ⟨((m27.1, m27.2.1)), rfl, rfl, rfl⟩ (.cons (resv_tmp rfl) .nil))
   ·refine Tr.cond_f rfl (bf_dec h19) ?_
    refine Tr.region ?_
    refine TrL.v (v_move rfl rfl) rfl rfl (bl rfl) ?_
    refine TrL.v (v_fieldAddr' rfl fo91_7 rfl rfl) rfl rfl (bl rfl) ?_
    refine TrL.v (v_load (k := 1) rfl rfl rfl ty3 (fun _ => rfl) rfl rfl) rfl rfl (bl rfl) ?_
    refine TrL.v (v_conv' rfl ⟨_, Try.underlying3⟩ Try.underlying28 rfl wrap_u64') rfl rfl (bl rfl) ?_
    refine TrL.v (v_fieldAddr' rfl fo91_8 rfl rfl) rfl rfl (bl rfl) ?_
    refine TrL.v (v_load (k := 1) rfl rfl rfl ty3 (fun _ => rfl) rfl rfl) rfl rfl (bl rfl) ?_
    refine TrL.v (v_conv' rfl ⟨_, Try.underlying3⟩ Try.underlying28 rfl wrap_u64') rfl rfl (bl rfl) ?_
    refine TrL.cons rfl (op_buildSlice' (rp := (rInt .u64)) (xs := [wu64 p1.2.2.2.2.2.2.2.1, wu64 p1.2.2.2.2.2.2.2.2]) (vs := [.int .u64 (wu64 p1.2.2.2.2.2.2.2.1), .int .u64 (wu64 p1.2.2.2.2.2.2.2.2)]) (out := [.int .u64 (wu64 p1.2.2.2.2.2.2.2.1), .int .u64 (wu64 p1.2.2.2.2.2.2.2.2)]) rfl (bl rfl) rfl sl182 ty28 ze28 rfl rfl (by decide) (by decide) rfl (fun γ w hF => (rowc rfl (rowc rfl rown rfl) rfl)) (fun A26 => ?_))
    obtain ⟨r22, hr22, H⟩ := bnd H
    refine TrL.cons rfl (op_call0' (vs := [.slice A26 2 2]) (cap := []) [3] rfl rfl (bl rfl) rfl rfl en107 (c_ref21_nums ([wu64 p1.2.2.2.2.2.2.2.1, wu64 p1.2.2.2.2.2.2.2.2]) A26 2 r22 hr22) rfl (fun ret M' F' hR22 => ?_))
    obtain ⟨m30, rfl, rfl, rfl⟩ := hR22
    obtain ⟨h30, H⟩ := rom H
    refine TrL.cons rfl (op_append' (rp := (rInt .u8)) (xs := r13) (ys := r22) (k := 1) (kx := 2) (ky := 4) rfl (bl rfl) rfl sl40 ty5 ze5 rfl by5 rfl rfl rfl rfl rfl rfl rfl h30.1 h30.2 (fun A27 c19 o18 => ?_))
    refine TrL.v (v_assign rfl rfl) rfl rfl (bl rfl) ?_
    refine TrL.nil (qblock_n (qthen_n ?_))
    refine Tr.seq ?_
    refine Tr.region ?_
    refine TrL.v (v_move rfl rfl) rfl rfl (bl rfl) ?_
    refine TrL.v (v_assign rfl rfl) rfl rfl (bl rfl) ?_
    refine TrL.nil (qthen_n ?_)
    have hz := Option.some.inj H
    subst hz
    refine Tr.ret (ret_r ⟨[(2, .slice A27 ((r13 ++ r22).length) c19)], [], [slF (rInt .u8) A27 c19 (r13 ++ r22)], []⟩ [.slice A27 ((r13 ++ r22).length) c19] [] [] (Imp.re _ [] [5] (sc rfl sn) (by decide) rfl rfl rfl) rfl rfl ⟨((A27, c19)), rfl, rfl, rfl⟩ (.cons (resv_tmp rfl) .nil))
end Go.Proofs.Ytbeknohemgjfbaa.W
