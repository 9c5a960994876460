import Derived.Test.YtbeknohemgjfbaaKcv
import Derived.Test.YtbeknohemgjfbaaQcv
namespace Go.Proofs.Ytbeknohemgjfbaa.W
open Go Go.Proofs Go.Proofs.Ytbeknohemgjfbaa.L Go.Proofs.Ytbeknohemgjfbaa.Pu
set_option linter.unusedVariables false
set_option maxHeartbeats 4000000

theorem c_ref06_May (p1 : Int) (r : Bool) (H : ref06_May p1 = some r) :
  Ctr Try.prog 78 [.int .i64 p1] [] [] (fun ret M' F' => ret = .bool r ∧ M' = [] ∧ F' = []) := by
 unfold ref06_May at H
 refine ctr_ofI (N := 9) Try.func78 rfl Try.ntmps78 rfl (Nat.le_of_ble_eq_true rfl) (fun γ0 w0 => ?_)
 refine Tr.seq ?_
 refine Tr.region ?_
 refine TrL.v (v_assign rfl rfl) rfl rfl (bl rfl) ?_
 refine TrL.nil (qthen_n ?_)
 refine Tr.seq ?_
 refine Tr.region ?_
 refine TrL.v (v_move rfl rfl) rfl rfl (bl rfl) ?_
 refine TrL.v (v_arith rfl rfl rfl ar_geq) rfl rfl (bl rfl) ?_
 refine TrL.v (v_move rfl rfl) rfl rfl (bl rfl) ?_
 rcases ifc H with ⟨h4, H⟩ | ⟨h4, H⟩
 ·refine TrL.cons_yes rfl rfl rfl (bt_dec h4) (OpTr.v (v_move rfl rfl) rfl (bl rfl) ?_)
  refine TrL.cons_yes rfl rfl rfl (bt_dec h4) (OpTr.v (v_arith rfl rfl rfl ar_leq) rfl (bl rfl) ?_)
  refine TrL.v (v_pick_t rfl rfl (bt_dec h4) rfl) rfl rfl (bl rfl) ?_
  refine TrL.v (v_assign rfl rfl) rfl rfl (bl rfl) ?_
  refine TrL.nil (qthen_n ?_)
  have hz := Option.some.inj H
  subst hz
  refine Tr.ret (ret_r ⟨[(2, .bool (decide (p1 ≤ 1024)))], [], [], []⟩ [.bool (decide (p1 ≤ 1024))] [] [] (Imp.re _ [] [] (sc rfl sn) (by decide) rfl rfl rfl) rfl rfl ⟨rfl, rfl, rfl⟩ (.cons (resv_tmp rfl) .nil))
 ·refine TrL.cons_no rfl rfl rfl (gn_t (bf_dec h4)) rfl (bl rfl) ?_
  refine TrL.cons_no rfl rfl rfl (gn_t (bf_dec h4)) rfl (bl rfl) ?_
  refine TrL.v (v_pick_f rfl rfl (bf_dec h4) rfl) rfl rfl (bl rfl) ?_
  refine TrL.v (v_assign rfl rfl) rfl rfl (bl rfl) ?_
  refine TrL.nil (qthen_n ?_)
  have hz := Option.some.inj H
  subst hz
  refine Tr.ret (ret_r ⟨[(2, .bool false)], [], [], []⟩ [.bool false] [] [] (Imp.re _ [] [] (sc rfl sn) (by decide) rfl rfl rfl) rfl rfl ⟨rfl, rfl, rfl⟩ (.cons (resv_tmp rfl) .nil))
end Go.Proofs.Ytbeknohemgjfbaa.W
