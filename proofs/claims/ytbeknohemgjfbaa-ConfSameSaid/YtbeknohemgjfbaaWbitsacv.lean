import Derived.Test.YtbeknohemgjfbaaKcv
import Derived.Test.YtbeknohemgjfbaaQcv
namespace Go.Proofs.Ytbeknohemgjfbaa.W
open Go Go.Proofs Go.Proofs.Ytbeknohemgjfbaa.L Go.Proofs.Ytbeknohemgjfbaa.Pu
set_option linter.unusedVariables false
set_option maxHeartbeats 4000000

theorem c_bits_Mul64 (p1 : Int) (p2 : Int) (r : Unit) (H : bits_Mul64 p1 p2 = some r) :
  Ctr Try.prog 190 [.int .u64 p1, .int .u64 p2] [] [] (fun ret M' F' => ret = .tuple #[.int .u64 (wu64 ((wu64 ((wu64 ((shrk 64 p1 32) * (shrk 64 p2 32))) + (shrk 64 (wu64 ((wu64 ((shrk 64 p1 32) * (wu64 (andk 64 p2 4294967295)))) + (shrk 64 (wu64 ((wu64 (andk 64 p1 4294967295)) * (wu64 (andk 64 p2 4294967295)))) 32))) 32))) + (shrk 64 (wu64 ((wu64 (andk 64 (wu64 ((wu64 ((shrk 64 p1 32) * (wu64 (andk 64 p2 4294967295)))) + (shrk 64 (wu64 ((wu64 (andk 64 p1 4294967295)) * (wu64 (andk 64 p2 4294967295)))) 32))) 4294967295)) + (wu64 ((wu64 (andk 64 p1 4294967295)) * (shrk 64 p2 32))))) 32))), .int .u64 (wu64 (p1 * p2))] ∧ M' = [] ∧ F' = []) := by
 unfold bits_Mul64 at H
 refine ctr_ofI (N := 51) Try.func190 rfl Try.ntmps190 rfl (Nat.le_of_ble_eq_true rfl) (fun γ0 w0 => ?_)
 refine Tr.seq ?_
 refine Tr.region ?_
 refine TrL.v (v_assign rfl rfl) rfl rfl (bl rfl) ?_
 refine TrL.v (v_assign rfl rfl) rfl rfl (bl rfl) ?_
 refine TrL.nil (qthen_n ?_)
 refine Tr.seq ?_
 refine Tr.region ?_
 refine TrL.v (v_move rfl rfl) rfl rfl (bl rfl) ?_
 refine TrL.v (v_arith rfl rfl rfl ar_and_u64) rfl rfl (bl rfl) ?_
 refine TrL.v (v_assign rfl rfl) rfl rfl (bl rfl) ?_
 refine TrL.nil (qthen_n ?_)
 refine Tr.seq ?_
 refine Tr.region ?_
 refine TrL.v (v_move rfl rfl) rfl rfl (bl rfl) ?_
 refine TrL.v (v_shr' rfl rfl rfl (by decide) rfl) rfl rfl (bl rfl) ?_
 refine TrL.v (v_assign rfl rfl) rfl rfl (bl rfl) ?_
 refine TrL.nil (qthen_n ?_)
 refine Tr.seq ?_
 refine Tr.region ?_
 refine TrL.v (v_move rfl rfl) rfl rfl (bl rfl) ?_
 refine TrL.v (v_arith rfl rfl rfl ar_and_u64) rfl rfl (bl rfl) ?_
 refine TrL.v (v_assign rfl rfl) rfl rfl (bl rfl) ?_
 refine TrL.nil (qthen_n ?_)
 refine Tr.seq ?_
 refine Tr.region ?_
 refine TrL.v (v_move rfl rfl) rfl rfl (bl rfl) ?_
 refine TrL.v (v_shr' rfl rfl rfl (by decide) rfl) rfl rfl (bl rfl) ?_
 refine TrL.v (v_assign rfl rfl) rfl rfl (bl rfl) ?_
 refine TrL.nil (qthen_n ?_)
 refine Tr.seq ?_
 refine Tr.region ?_
 refine TrL.v (v_move rfl rfl) rfl rfl (bl rfl) ?_
 refine TrL.v (v_move rfl rfl) rfl rfl (bl rfl) ?_
 refine TrL.v (v_arith rfl rfl rfl ar_mul_u64) rfl rfl (bl rfl) ?_
 refine TrL.v (v_assign rfl rfl) rfl rfl (bl rfl) ?_
 refine TrL.nil (qthen_n ?_)
 refine Tr.seq ?_
 refine Tr.region ?_
 refine TrL.v (v_move rfl rfl) rfl rfl (bl rfl) ?_
 refine TrL.v (v_move rfl rfl) rfl rfl (bl rfl) ?_
 refine TrL.v (v_arith rfl rfl rfl ar_mul_u64) rfl rfl (bl rfl) ?_
 refine TrL.v (v_move rfl rfl) rfl rfl (bl rfl) ?_
 refine TrL.v (v_shr' rfl rfl rfl (by decide) rfl) rfl rfl (bl rfl) ?_
 refine TrL.v (v_arith rfl rfl rfl ar_add_u64) rfl rfl (bl rfl) ?_
 refine TrL.v (v_assign rfl rfl) rfl rfl (bl rfl) ?_
 refine TrL.nil (qthen_n ?_)
 refine Tr.seq ?_
 refine Tr.region ?_
 refine TrL.v (v_move rfl rfl) rfl rfl (bl rfl) ?_
 refine TrL.v (v_arith rfl rfl rfl ar_and_u64) rfl rfl (bl rfl) ?_
 refine TrL.v (v_assign rfl rfl) rfl rfl (bl rfl) ?_
 refine TrL.nil (qthen_n ?_)
 refine Tr.seq ?_
 refine Tr.region ?_
 refine TrL.v (v_move rfl rfl) rfl rfl (bl rfl) ?_
 refine TrL.v (v_shr' rfl rfl rfl (by decide) rfl) rfl rfl (bl rfl) ?_
 refine TrL.v (v_assign rfl rfl) rfl rfl (bl rfl) ?_
 refine TrL.nil (qthen_n ?_)
 refine Tr.seq ?_
 refine Tr.region ?_
 refine TrL.v (v_move rfl rfl) rfl rfl (bl rfl) ?_
 refine TrL.v (v_move rfl rfl) rfl rfl (bl rfl) ?_
 refine TrL.v (v_move rfl rfl) rfl rfl (bl rfl) ?_
 refine TrL.v (v_arith rfl rfl rfl ar_mul_u64) rfl rfl (bl rfl) ?_
 refine TrL.v (v_arith rfl rfl rfl ar_add_u64) rfl rfl (bl rfl) ?_
 refine TrL.v (v_assign rfl rfl) rfl rfl (bl rfl) ?_
 refine TrL.nil (qthen_n ?_)
 refine Tr.seq ?_
 refine Tr.region ?_
 refine TrL.v (v_move rfl rfl) rfl rfl (bl rfl) ?_
 refine TrL.v (v_move rfl rfl) rfl rfl (bl rfl) ?_
 refine TrL.v (v_arith rfl rfl rfl ar_mul_u64) rfl rfl (bl rfl) ?_
 refine TrL.v (v_move rfl rfl) rfl rfl (bl rfl) ?_
 refine TrL.v (v_arith rfl rfl rfl ar_add_u64) rfl rfl (bl rfl) ?_
 refine TrL.v (v_move rfl rfl) rfl rfl (bl rfl) ?_
 refine TrL.v (v_shr' rfl rfl rfl (by decide) rfl) rfl rfl (bl rfl) ?_
 refine TrL.v (v_arith rfl rfl rfl ar_add_u64) rfl rfl (bl rfl) ?_
 refine TrL.v (v_assign rfl rfl) rfl rfl (bl rfl) ?_
 refine TrL.nil (qthen_n ?_)
 refine Tr.seq ?_
 refine Tr.region ?_
 refine TrL.v (v_move rfl rfl) rfl rfl (bl rfl) ?_
 refine TrL.v (v_move rfl rfl) rfl rfl (bl rfl) ?_
 refine TrL.v (v_arith rfl rfl rfl ar_mul_u64) rfl rfl (bl rfl) ?_
 refine TrL.v (v_assign rfl rfl) rfl rfl (bl rfl) ?_
 refine TrL.nil (qthen_n ?_)
 have hz := Option.some.inj H
 subst hz
 refine Tr.ret (ret_r ⟨[(4, .int .u64 (wu64 ((wu64 ((wu64 ((shrk 64 p1 32) * (shrk 64 p2 32))) + (shrk 64 (wu64 ((wu64 ((shrk 64 p1 32) * (wu64 (andk 64 p2 4294967295)))) + (shrk 64 (wu64 ((wu64 (andk 64 p1 4294967295)) * (wu64 (andk 64 p2 4294967295)))) 32))) 32))) + (shrk 64 (wu64 ((wu64 (andk 64 (wu64 ((wu64 ((shrk 64 p1 32) * (wu64 (andk 64 p2 4294967295)))) + (shrk 64 (wu64 ((wu64 (andk 64 p1 4294967295)) * (wu64 (andk 64 p2 4294967295)))) 32))) 4294967295)) + (wu64 ((wu64 (andk 64 p1 4294967295)) * (shrk 64 p2 32))))) 32)))), (5, .int .u64 (wu64 (p1 * p2)))], [], [], []⟩ [.int .u64 (wu64 ((wu64 ((wu64 ((shrk 64 p1 32) * (shrk 64 p2 32))) + (shrk 64 (wu64 ((wu64 ((shrk 64 p1 32) * (wu64 (andk 64 p2 4294967295)))) + (shrk 64 (wu64 ((wu64 (andk 64 p1 4294967295)) * (wu64 (andk 64 p2 4294967295)))) 32))) 32))) + (shrk 64 (wu64 ((wu64 (andk 64 (wu64 ((wu64 ((shrk 64 p1 32) * (wu64 (andk 64 p2 4294967295)))) + (shrk 64 (wu64 ((wu64 (andk 64 p1 4294967295)) * (wu64 (andk 64 p2 4294967295)))) 32))) 4294967295)) + (wu64 ((wu64 (andk 64 p1 4294967295)) * (shrk 64 p2 32))))) 32))), .int .u64 (wu64 (p1 * p2))] [] [] (Imp.re _ [] [] (sc rfl (sc rfl sn)) (by decide) rfl rfl rfl) rfl rfl ⟨rfl, rfl, rfl⟩ (.cons (resv_tmp rfl) (.cons (resv_tmp rfl) .nil)))

theorem c_bits_Mul (p1 : Int) (p2 : Int) (r : Unit) (H : bits_Mul p1 p2 = some r) :
  Ctr Try.prog 187 [.int .u64 p1, .int .u64 p2] [] [] (fun ret M' F' => ret = .tuple #[.int .u64 (wu64 ((wu64 ((wu64 ((shrk 64 p1 32) * (shrk 64 p2 32))) + (shrk 64 (wu64 ((wu64 ((shrk 64 p1 32) * (wu64 (andk 64 p2 4294967295)))) + (shrk 64 (wu64 ((wu64 (andk 64 p1 4294967295)) * (wu64 (andk 64 p2 4294967295)))) 32))) 32))) + (shrk 64 (wu64 ((wu64 (andk 64 (wu64 ((wu64 ((shrk 64 p1 32) * (wu64 (andk 64 p2 4294967295)))) + (shrk 64 (wu64 ((wu64 (andk 64 p1 4294967295)) * (wu64 (andk 64 p2 4294967295)))) 32))) 4294967295)) + (wu64 ((wu64 (andk 64 p1 4294967295)) * (shrk 64 p2 32))))) 32))), .int .u64 (wu64 (p1 * p2))] ∧ M' = [] ∧ F' = []) := by
 unfold bits_Mul at H
 refine ctr_ofI (N := 30) Try.func187 rfl Try.ntmps187 rfl (Nat.le_of_ble_eq_true rfl) (fun γ0 w0 => ?_)
 refine Tr.seq ?_
 refine Tr.region ?_
 refine TrL.v (v_assign rfl rfl) rfl rfl (bl rfl) ?_
 refine TrL.v (v_assign rfl rfl) rfl rfl (bl rfl) ?_
 refine TrL.nil (qthen_n ?_)
 refine Tr.seq ?_
 refine Tr.cond_f rfl rfl ?_
 refine Tr.skip (qthen_n ?_)
 refine Tr.seq ?_
 refine Tr.region ?_
 refine TrL.v (v_move rfl rfl) rfl rfl (bl rfl) ?_
 refine TrL.v (v_move rfl rfl) rfl rfl (bl rfl) ?_
 obtain ⟨r2, hr2, H⟩ := bnd H
 refine TrL.cons rfl (op_call0' (vs := [.int .u64 p1, .int .u64 p2]) (cap := []) [] rfl rfl (bl rfl) rfl rfl en190 (c_bits_Mul64 p1 p2 r2 hr2) rfl (fun ret M' F' hR2 => ?_))
 obtain ⟨rfl, rfl, rfl⟩ := hR2
 refine TrL.v (v_move rfl rfl) rfl rfl (bl rfl) ?_
 refine TrL.v (v_extract rfl rfl rfl) rfl rfl (bl rfl) ?_
 refine TrL.v (v_extract rfl rfl rfl) rfl rfl (bl rfl) ?_
 refine TrL.v (v_assign rfl rfl) rfl rfl (bl rfl) ?_
 refine TrL.v (v_assign rfl rfl) rfl rfl (bl rfl) ?_
 refine TrL.nil (qthen_n ?_)
 refine Tr.seq ?_
 refine Tr.region ?_
 refine TrL.v (v_move rfl rfl) rfl rfl (bl rfl) ?_
 refine TrL.v (v_move rfl rfl) rfl rfl (bl rfl) ?_
 refine TrL.v (v_assign rfl rfl) rfl rfl (bl rfl) ?_
 refine TrL.v (v_assign rfl rfl) rfl rfl (bl rfl) ?_
 refine TrL.nil (qthen_n ?_)
 have hz := Option.some.inj H
 subst hz
 refine Tr.ret (ret_r ⟨[(4, .int .u64 (wu64 ((wu64 ((wu64 ((shrk 64 p1 32) * (shrk 64 p2 32))) + (shrk 64 (wu64 ((wu64 ((shrk 64 p1 32) * (wu64 (andk 64 p2 4294967295)))) + (shrk 64 (wu64 ((wu64 (andk 64 p1 4294967295)) * (wu64 (andk 64 p2 4294967295)))) 32))) 32))) + (shrk 64 (wu64 ((wu64 (andk 64 (wu64 ((wu64 ((shrk 64 p1 32) * (wu64 (andk 64 p2 4294967295)))) + (shrk 64 (wu64 ((wu64 (andk 64 p1 4294967295)) * (wu64 (andk 64 p2 4294967295)))) 32))) 4294967295)) + (wu64 ((wu64 (andk 64 p1 4294967295)) * (shrk 64 p2 32))))) 32)))), (5, .int .u64 (wu64 (p1 * p2)))], [], [], []⟩ [.int .u64 (wu64 ((wu64 ((wu64 ((shrk 64 p1 32) * (shrk 64 p2 32))) + (shrk 64 (wu64 ((wu64 ((shrk 64 p1 32) * (wu64 (andk 64 p2 4294967295)))) + (shrk 64 (wu64 ((wu64 (andk 64 p1 4294967295)) * (wu64 (andk 64 p2 4294967295)))) 32))) 32))) + (shrk 64 (wu64 ((wu64 (andk 64 (wu64 ((wu64 ((shrk 64 p1 32) * (wu64 (andk 64 p2 4294967295)))) + (shrk 64 (wu64 ((wu64 (andk 64 p1 4294967295)) * (wu64 (andk 64 p2 4294967295)))) 32))) 4294967295)) + (wu64 ((wu64 (andk 64 p1 4294967295)) * (shrk 64 p2 32))))) 32))), .int .u64 (wu64 (p1 * p2))] [] [] (Imp.re _ [] [] (sc rfl (sc rfl sn)) (by decide) rfl rfl rfl) rfl rfl ⟨rfl, rfl, rfl⟩ (.cons (resv_tmp rfl) (.cons (resv_tmp rfl) .nil)))
end Go.Proofs.Ytbeknohemgjfbaa.W
