import Derived.Test.YtbeknohemgjfbaaKcv
import Derived.Test.YtbeknohemgjfbaaQcv
import Derived.Test.YtbeknohemgjfbaaWref06bcv
import Derived.Test.YtbeknohemgjfbaaWref12ccv
namespace Go.Proofs.Ytbeknohemgjfbaa.W
open Go Go.Proofs Go.Proofs.Ytbeknohemgjfbaa.L Go.Proofs.Ytbeknohemgjfbaa.Pu
set_option linter.unusedVariables false
set_option maxHeartbeats 4000000

theorem c_ref14_Conf (p1 : Int) (p2 : Int) (p3 : Int) (p4 : Int) (r : Bool) (H : ref14_Conf p1 p2 p3 p4 = some r) :
  Ctr Try.prog 102 [.int .i64 p1, .int .u64 p2, .int .u64 p3, .int .i64 p4] [] [] (fun ret M' F' => ret = .bool r ∧ M' = [] ∧ F' = []) := by
 unfold ref14_Conf at H
 refine ctr_ofI (N := 24) Try.func102 rfl Try.ntmps102 rfl (Nat.le_of_ble_eq_true rfl) (fun γ0 w0 => ?_)
 refine Tr.seq ?_
 refine Tr.region ?_
 refine TrL.v (v_assign rfl rfl) rfl rfl (bl rfl) ?_
 refine TrL.nil (qthen_n ?_)
 refine Tr.seq ?_
 refine Tr.region ?_
 refine TrL.v (v_move rfl rfl) rfl rfl (bl rfl) ?_
 refine TrL.v (v_arith rfl rfl rfl ar_geq) rfl rfl (bl rfl) ?_
 refine TrL.v (v_move rfl rfl) rfl rfl (bl rfl) ?_
 rcases ifc H with ⟨h10, H⟩ | ⟨h10, H⟩
 ·refine TrL.cons_yes rfl rfl rfl (bt_dec h10) (OpTr.v (v_move rfl rfl) rfl (bl rfl) ?_)
  refine TrL.cons_yes rfl rfl rfl (bt_dec h10) (OpTr.v (v_arith rfl rfl rfl ar_leq) rfl (bl rfl) ?_)
  refine TrL.v (v_pick_t rfl rfl (bt_dec h10) rfl) rfl rfl (bl rfl) ?_
  refine TrL.v (v_move rfl rfl) rfl rfl (bl rfl) ?_
  rcases ifc H with ⟨h11, H⟩ | ⟨h11, H⟩
  ·refine TrL.cons_yes rfl rfl rfl (bt_dec h11) (OpTr.v (v_move rfl rfl) rfl (bl rfl) ?_)
   obtain ⟨r7, hr7, H⟩ := bnd H
   refine TrL.cons_yes rfl rfl rfl (bt_dec h11) (op_call0' (vs := [.int .i64 p1]) (cap := []) [] rfl rfl (bl rfl) rfl rfl en78 (c_ref06_May p1 r7 hr7) rfl (fun ret M' F' hR7 => ?_))
   obtain ⟨rfl, rfl, rfl⟩ := hR7
   refine TrL.v (v_pick_t rfl rfl (bt_dec h11) rfl) rfl rfl (bl rfl) ?_
   refine TrL.v (v_move rfl rfl) rfl rfl (bl rfl) ?_
   rcases ifc H with ⟨h12, H⟩ | ⟨h12, H⟩
   ·refine TrL.cons_yes rfl rfl rfl h12 (OpTr.v (v_move rfl rfl) rfl (bl rfl) ?_)
    refine TrL.cons_yes rfl rfl rfl h12 (OpTr.v (v_move rfl rfl) rfl (bl rfl) ?_)
    obtain ⟨r8, hr8, H⟩ := bnd H
    refine TrL.cons_yes rfl rfl rfl h12 (op_call0' (vs := [.int .u64 p3, .int .i64 p4]) (cap := []) [] rfl rfl (bl rfl) rfl rfl en153 (c_ref12_Conf p3 p4 r8 hr8) rfl (fun ret M' F' hR8 => ?_))
    obtain ⟨rfl, rfl, rfl⟩ := hR8
    refine TrL.v (v_pick_t rfl rfl h12 rfl) rfl rfl (bl rfl) ?_
    refine TrL.v (v_assign rfl rfl) rfl rfl (bl rfl) ?_
    refine TrL.nil (qthen_n ?_)
    have hz := Option.some.inj H
    subst hz
    refine Tr.ret (ret_r ⟨[(8, .bool r8)], [], [], []⟩ [.bool r8] [] [] (Imp.re _ [] [] (sc rfl sn) (by decide) rfl rfl rfl) rfl rfl ⟨rfl, rfl, rfl⟩ (.cons (resv_tmp rfl) .nil))
   ·refine TrL.cons_no rfl rfl rfl (gn_t (bf_b h12)) rfl (bl rfl) ?_
    refine TrL.cons_no rfl rfl rfl (gn_t (bf_b h12)) rfl (bl rfl) ?_
    refine TrL.cons_no rfl rfl rfl (gn_t (bf_b h12)) rfl (bl rfl) ?_
    refine TrL.v (v_pick_f rfl rfl (bf_b h12) rfl) rfl rfl (bl rfl) ?_
    refine TrL.v (v_assign rfl rfl) rfl rfl (bl rfl) ?_
    refine TrL.nil (qthen_n ?_)
    have hz := Option.some.inj H
    subst hz
    refine Tr.ret (ret_r ⟨[(8, .bool false)], [], [], []⟩ [.bool false] [] [] (Imp.re _ [] [] (sc rfl sn) (by decide) rfl rfl rfl) rfl rfl ⟨rfl, rfl, rfl⟩ (.cons (resv_tmp rfl) .nil))
  ·refine TrL.cons_no rfl rfl rfl (gn_t (bf_dec h11)) rfl (bl rfl) ?_
   refine TrL.cons_no rfl rfl rfl (gn_t (bf_dec h11)) rfl (bl rfl) ?_
   refine TrL.v (v_pick_f rfl rfl (bf_dec h11) rfl) rfl rfl (bl rfl) ?_
   refine TrL.v (v_move rfl rfl) rfl rfl (bl rfl) ?_
   refine TrL.cons_no rfl rfl rfl (gn_t rfl) rfl (bl rfl) ?_
   refine TrL.cons_no rfl rfl rfl (gn_t rfl) rfl (bl rfl) ?_
   refine TrL.cons_no rfl rfl rfl (gn_t rfl) rfl (bl rfl) ?_
   refine TrL.v (v_pick_f rfl rfl rfl rfl) rfl rfl (bl rfl) ?_
   refine TrL.v (v_assign rfl rfl) rfl rfl (bl rfl) ?_
   refine TrL.nil (qthen_n ?_)
   have hz := Option.some.inj H
   subst hz
   refine Tr.ret (ret_r ⟨[(8, .bool false)], [], [], []⟩ [.bool false] [] [] (Imp.re _ [] [] (sc rfl sn) (by decide) rfl rfl rfl) rfl rfl ⟨rfl, rfl, rfl⟩ (.cons (resv_tmp rfl) .nil))
 ·refine TrL.cons_no rfl rfl rfl (gn_t (bf_dec h10)) rfl (bl rfl) ?_
  refine TrL.cons_no rfl rfl rfl (gn_t (bf_dec h10)) rfl (bl rfl) ?_
  refine TrL.v (v_pick_f rfl rfl (bf_dec h10) rfl) rfl rfl (bl rfl) ?_
  refine TrL.v (v_move rfl rfl) rfl rfl (bl rfl) ?_
  refine TrL.cons_no rfl rfl rfl (gn_t rfl) rfl (bl rfl) ?_
  refine TrL.cons_no rfl rfl rfl (gn_t rfl) rfl (bl rfl) ?_
  refine TrL.v (v_pick_f rfl rfl rfl rfl) rfl rfl (bl rfl) ?_
  refine TrL.v (v_move rfl rfl) rfl rfl (bl rfl) ?_
  refine TrL.cons_no rfl rfl rfl (gn_t rfl) rfl (bl rfl) ?_
  refine TrL.cons_no rfl rfl rfl (gn_t rfl) rfl (bl rfl) ?_
  refine TrL.cons_no rfl rfl rfl (gn_t rfl) rfl (bl rfl) ?_
  refine TrL.v (v_pick_f rfl rfl rfl rfl) rfl rfl (bl rfl) ?_
  refine TrL.v (v_assign rfl rfl) rfl rfl (bl rfl) ?_
  refine TrL.nil (qthen_n ?_)
  have hz := Option.some.inj H
  subst hz
  refine Tr.ret (ret_r ⟨[(8, .bool false)], [], [], []⟩ [.bool false] [] [] (Imp.re _ [] [] (sc rfl sn) (by decide) rfl rfl rfl) rfl rfl ⟨rfl, rfl, rfl⟩ (.cons (resv_tmp rfl) .nil))
end Go.Proofs.Ytbeknohemgjfbaa.W
