/- The contracts of the walked functions: the printed walks. -/
import Derived.Test.YtbeknohemgjfbaaKc
import Derived.Test.YtbeknohemgjfbaaQc
namespace Go.Proofs.Ytbeknohemgjfbaa.W
open Go Go.Proofs Go.Proofs.Ytbeknohemgjfbaa.L Go.Proofs.Ytbeknohemgjfbaa.Pu
set_option linter.unusedVariables false
set_option maxHeartbeats 4000000

theorem c_level_Most (p1 : Int) (p2 : Int) (r : Int) (H : level_Most p1 p2 = some r) :
    Ctr Try.prog 121 [.int .i64 p1, .int .i64 p2] [] [] (fun ret M' F' => ret = .int .i64 r ∧ M' = [] ∧ F' = []) := by
  unfold level_Most at H
  refine ctr_ofI (N := 15) Try.func121 rfl Try.ntmps121 rfl (Nat.le_of_ble_eq_true rfl) (fun γ0 w0 => ?_)
  refine Tr.seq ?_
  refine Tr.region ?_
  refine TrL.v (v_assign rfl rfl) rfl rfl (bl rfl) ?_
  refine TrL.nil (qthen_n ?_)
  refine Tr.seq ?_
  refine Tr.region ?_
  refine TrL.v (v_move rfl rfl) rfl rfl (bl rfl) ?_
  refine TrL.v (v_max rfl rfl rfl) rfl rfl (bl rfl) ?_
  refine TrL.v (v_assign rfl rfl) rfl rfl (bl rfl) ?_
  refine TrL.nil (qthen_n ?_)
  refine Tr.seq ?_
  refine Tr.seq ?_
  refine Tr.region ?_
  refine TrL.v (v_move rfl rfl) rfl rfl (bl rfl) ?_
  refine TrL.v (v_arith rfl rfl rfl ar_eql) rfl rfl (bl rfl) ?_
  refine TrL.nil (qthen_n ?_)
  rcases ifc H with ⟨h2, H⟩ | ⟨h2, H⟩
  · refine Tr.cond_t rfl (bt_dec h2) ?_
    refine Tr.seq ?_
    refine Tr.region ?_
    refine TrL.v (v_move rfl rfl) rfl rfl (bl rfl) ?_
    refine TrL.v (v_arith rfl rfl rfl ar_add_i64) rfl rfl (bl rfl) ?_
    refine TrL.v (v_assign rfl rfl) rfl rfl (bl rfl) ?_
    refine TrL.nil (qthen_n ?_)
    have hz := Option.some.inj H
    subst hz
    refine Tr.ret (qthen_r (ret_r ⟨[(4, .int .i64 (wi64 ((max p1 0) + 1)))], [], [], []⟩ [.int .i64 (wi64 ((max p1 0) + 1))] [] [] (Imp.re _ [] [] (sc rfl sn) (by decide) rfl rfl rfl) rfl rfl ⟨rfl, rfl, rfl⟩ (.cons (resv_tmp rfl) .nil)))
  · refine Tr.cond_f rfl (bf_dec h2) ?_
    refine Tr.skip (qthen_n ?_)
    refine Tr.seq ?_
    refine Tr.region ?_
    refine TrL.v (v_move rfl rfl) rfl rfl (bl rfl) ?_
    refine TrL.v (v_arith rfl rfl rfl ar_add_i64) rfl rfl (bl rfl) ?_
    refine TrL.v (v_quo' rfl rfl rfl (by decide) wrap_i64') rfl rfl (bl rfl) ?_
    refine TrL.v (v_arith rfl rfl rfl ar_add_i64) rfl rfl (bl rfl) ?_
    refine TrL.v (v_assign rfl rfl) rfl rfl (bl rfl) ?_
    refine TrL.nil (qthen_n ?_)
    have hz := Option.some.inj H
    subst hz
    refine Tr.ret (ret_r ⟨[(4, .int .i64 (wi64 ((wi64 ((wi64 ((max p1 0) + 1)).tdiv 2)) + 1)))], [], [], []⟩ [.int .i64 (wi64 ((wi64 ((wi64 ((max p1 0) + 1)).tdiv 2)) + 1))] [] [] (Imp.re _ [] [] (sc rfl sn) (by decide) rfl rfl rfl) rfl rfl ⟨rfl, rfl, rfl⟩ (.cons (resv_tmp rfl) .nil))

theorem c_level_Least (p1 : Int) (p2 : Int) (r : Int) (H : level_Least p1 p2 = some r) :
    Ctr Try.prog 120 [.int .i64 p1, .int .i64 p2] [] [] (fun ret M' F' => ret = .int .i64 r ∧ M' = [] ∧ F' = []) := by
  unfold level_Least at H
  refine ctr_ofI (N := 9) Try.func120 rfl Try.ntmps120 rfl (Nat.le_of_ble_eq_true rfl) (fun γ0 w0 => ?_)
  refine Tr.seq ?_
  refine Tr.region ?_
  refine TrL.v (v_assign rfl rfl) rfl rfl (bl rfl) ?_
  refine TrL.nil (qthen_n ?_)
  refine Tr.seq ?_
  refine Tr.region ?_
  refine TrL.v (v_move rfl rfl) rfl rfl (bl rfl) ?_
  refine TrL.v (v_move rfl rfl) rfl rfl (bl rfl) ?_
  obtain ⟨r2, hr2, H⟩ := bnd H
  refine TrL.cons rfl (op_call0' (vs := [.int .i64 p1, .int .i64 p2]) (cap := []) [] rfl rfl (bl rfl) rfl rfl en121 (c_level_Most p1 p2 r2 hr2) rfl (fun ret M' F' hR2 => ?_))
  obtain ⟨rfl, rfl, rfl⟩ := hR2
  refine TrL.v (v_arith rfl rfl rfl ar_sub_i64) rfl rfl (bl rfl) ?_
  refine TrL.v (v_assign rfl rfl) rfl rfl (bl rfl) ?_
  refine TrL.nil (qthen_n ?_)
  have hz := Option.some.inj H
  subst hz
  refine Tr.ret (ret_r ⟨[(4, .int .i64 (wi64 (r2 - 1)))], [], [], []⟩ [.int .i64 (wi64 (r2 - 1))] [] [] (Imp.re _ [] [] (sc rfl sn) (by decide) rfl rfl rfl) rfl rfl ⟨rfl, rfl, rfl⟩ (.cons (resv_tmp rfl) .nil))
end Go.Proofs.Ytbeknohemgjfbaa.W
