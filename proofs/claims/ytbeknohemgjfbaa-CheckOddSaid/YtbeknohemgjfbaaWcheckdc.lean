/- The contracts of the walked functions: the printed walks. -/
import Derived.Test.YtbeknohemgjfbaaKc
import Derived.Test.YtbeknohemgjfbaaQc
import Derived.Test.YtbeknohemgjfbaaWbitsac
import Derived.Test.YtbeknohemgjfbaaWcheckac
namespace Go.Proofs.Ytbeknohemgjfbaa.W
open Go Go.Proofs Go.Proofs.Ytbeknohemgjfbaa.L Go.Proofs.Ytbeknohemgjfbaa.Pu
set_option linter.unusedVariables false
set_option maxHeartbeats 4000000

theorem c_check_Bound (p1 : Int) (p2 : Int) (p3 : Int) (r : Int) (H : check_Bound p1 p2 p3 = some r) :
    Ctr Try.prog 57 [.int .i64 p1, .int .i64 p2, .int .u64 p3] [] [] (fun ret M' F' => ret = .int .i64 r ∧ M' = [] ∧ F' = []) := by
  unfold check_Bound at H
  refine ctr_ofI (N := 22) Try.func57 rfl Try.ntmps57 rfl (Nat.le_of_ble_eq_true rfl) (fun γ0 w0 => ?_)
  refine Tr.seq ?_
  refine Tr.region ?_
  refine TrL.v (v_assign rfl rfl) rfl rfl (bl rfl) ?_
  refine TrL.nil (qthen_n ?_)
  refine Tr.seq ?_
  refine Tr.seq ?_
  refine Tr.region ?_
  refine TrL.v (v_move rfl rfl) rfl rfl (bl rfl) ?_
  refine TrL.v (v_arith rfl rfl rfl ar_eql) rfl rfl (bl rfl) ?_
  refine TrL.v (v_move rfl rfl) rfl rfl (bl rfl) ?_
  rcases ifc H with ⟨h5, H⟩ | ⟨h5, H⟩
  · refine TrL.cons_no rfl rfl rfl (gn_f (bt_dec h5)) rfl (bl rfl) ?_
    refine TrL.cons_no rfl rfl rfl (gn_f (bt_dec h5)) rfl (bl rfl) ?_
    refine TrL.cons_no rfl rfl rfl (gn_f (bt_dec h5)) rfl (bl rfl) ?_
    refine TrL.cons_no rfl rfl rfl (gn_f (bt_dec h5)) rfl (bl rfl) ?_
    refine TrL.v (v_pick_t rfl rfl (bt_dec h5) rfl) rfl rfl (bl rfl) ?_
    refine TrL.nil (qthen_n ?_)
    refine Tr.cond_t rfl rfl ?_
    refine Tr.seq ?_
    refine Tr.region ?_
    refine TrL.v (v_assign rfl rfl) rfl rfl (bl rfl) ?_
    refine TrL.nil (qthen_n ?_)
    have hz := Option.some.inj H
    subst hz
    refine Tr.ret (qthen_r (ret_r ⟨[(6, .int .i64 0)], [], [], []⟩ [.int .i64 0] [] [] (Imp.re _ [] [] (sc rfl sn) (by decide) rfl rfl rfl) rfl rfl ⟨rfl, rfl, rfl⟩ (.cons (resv_tmp rfl) .nil)))
  · refine TrL.cons_yes rfl rfl rfl (bf_dec h5) (OpTr.v (v_move rfl rfl) rfl (bl rfl) ?_)
    refine TrL.cons_yes rfl rfl rfl (bf_dec h5) (OpTr.v (v_move rfl rfl) rfl (bl rfl) ?_)
    obtain ⟨r5, hr5, H⟩ := bnd H
    refine TrL.cons_yes rfl rfl rfl (bf_dec h5) (op_call0' (vs := [.int .i64 p1, .int .i64 p2]) (cap := []) [] rfl rfl (bl rfl) rfl rfl en59 (c_check_conf p1 p2 r5 hr5) rfl (fun ret M' F' hR5 => ?_))
    obtain ⟨rfl, rfl, rfl⟩ := hR5
    refine TrL.cons_yes rfl rfl rfl (bf_dec h5) (OpTr.v (v_notd rfl (bdec rfl)) rfl (bl rfl) ?_)
    refine TrL.v (v_pick_f rfl rfl (bf_dec h5) rfl) rfl rfl (bl rfl) ?_
    refine TrL.nil (qthen_n ?_)
    rcases ifc H with ⟨h6, H⟩ | ⟨h6, H⟩
    · refine Tr.cond_t rfl (bt_dec h6) ?_
      refine Tr.seq ?_
      refine Tr.region ?_
      refine TrL.v (v_assign rfl rfl) rfl rfl (bl rfl) ?_
      refine TrL.nil (qthen_n ?_)
      have hz := Option.some.inj H
      subst hz
      refine Tr.ret (qthen_r (ret_r ⟨[(6, .int .i64 0)], [], [], []⟩ [.int .i64 0] [] [] (Imp.re _ [] [] (sc rfl sn) (by decide) rfl rfl rfl) rfl rfl ⟨rfl, rfl, rfl⟩ (.cons (resv_tmp rfl) .nil)))
    · refine Tr.cond_f rfl (bf_dec h6) ?_
      refine Tr.skip (qthen_n ?_)
      refine Tr.seq ?_
      refine Tr.region ?_
      refine TrL.v (v_move rfl rfl) rfl rfl (bl rfl) ?_
      refine TrL.v (v_arith rfl rfl rfl ar_add_i64) rfl rfl (bl rfl) ?_
      refine TrL.v (v_move rfl rfl) rfl rfl (bl rfl) ?_
      obtain ⟨r6, hr6, H⟩ := bnd H
      refine TrL.cons rfl (op_call0' (vs := [.int .u64 p3]) (cap := []) [] rfl rfl (bl rfl) rfl rfl en115 (c_bits_Len64 p3 r6 hr6) rfl (fun ret M' F' hR6 => ?_))
      obtain ⟨rfl, rfl, rfl⟩ := hR6
      refine TrL.v (v_move rfl rfl) rfl rfl (bl rfl) ?_
      refine TrL.v (v_arith rfl rfl rfl ar_add_i64) rfl rfl (bl rfl) ?_
      refine TrL.v (v_arith rfl rfl rfl ar_mul_i64) rfl rfl (bl rfl) ?_
      refine TrL.v (v_assign rfl rfl) rfl rfl (bl rfl) ?_
      refine TrL.nil (qthen_n ?_)
      have hz := Option.some.inj H
      subst hz
      refine Tr.ret (ret_r ⟨[(6, .int .i64 (wi64 ((wi64 (p1 + 1)) * (wi64 (r6 + p2)))))], [], [], []⟩ [.int .i64 (wi64 ((wi64 (p1 + 1)) * (wi64 (r6 + p2))))] [] [] (Imp.re _ [] [] (sc rfl sn) (by decide) rfl rfl rfl) rfl rfl ⟨rfl, rfl, rfl⟩ (.cons (resv_tmp rfl) .nil))
end Go.Proofs.Ytbeknohemgjfbaa.W
