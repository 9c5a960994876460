import Derived.Test.YtbeknohemgjfbaaKcv
import Derived.Test.YtbeknohemgjfbaaQcv
import Derived.Test.YtbeknohemgjfbaaWslicesgcv
namespace Go.Proofs.Ytbeknohemgjfbaa.W
open Go Go.Proofs Go.Proofs.Ytbeknohemgjfbaa.L Go.Proofs.Ytbeknohemgjfbaa.Pu
set_option linter.unusedVariables false
set_option maxHeartbeats 4000000

theorem c_conf_bare (p1 : List Int) (A1 : Option Addr) (c1 : Nat) (r : Bool) (H : conf_bare p1 = some r) :
  Ctr Try.prog 96 [.slice A1 p1.length c1] [] [slF (rInt .i64) A1 c1 p1] (fun ret M' F' => ret = .bool r ∧ M' = [] ∧ F' = []) := by
 unfold conf_bare at H
 refine ctr_ofI (N := 6) Try.func96 rfl Try.ntmps96 rfl (Nat.le_of_ble_eq_true rfl) (fun γ0 w0 => ?_)
 refine Tr.seq ?_
 refine Tr.region ?_
 refine TrL.v (v_assign rfl rfl) rfl rfl (bl rfl) ?_
 refine TrL.nil (qthen_n ?_)
 refine Tr.seq ?_
 refine Tr.region ?_
 refine TrL.v (v_move rfl rfl) rfl rfl (bl rfl) ?_
 obtain ⟨r2, hr2, H⟩ := bnd H
 refine TrL.cons rfl (op_call0' (vs := [.slice A1 p1.length c1, .func (.func 149) #[] #[]]) (cap := []) [0] rfl rfl (bl rfl) rfl rfl en148 (c_slices_ContainsFunc_int p1 A1 c1 r2 hr2) rfl (fun ret M' F' hR2 => ?_))
 obtain ⟨rfl, rfl, rfl⟩ := hR2
 refine TrL.v (v_notd rfl (bdec rfl)) rfl rfl (bl rfl) ?_
 refine TrL.v (v_assign rfl rfl) rfl rfl (bl rfl) ?_
 refine TrL.nil (qthen_n ?_)
 have hz := Option.some.inj H
 subst hz
 refine Tr.ret (ret_r ⟨[(2, .bool (decide (¬ (r2 = true))))], [], [], []⟩ [.bool (decide (¬ (r2 = true)))] [] [] (Imp.re _ [] [] (sc rfl sn) (by decide) rfl rfl rfl) rfl rfl ⟨rfl, rfl, rfl⟩ (.cons (resv_tmp rfl) .nil))
end Go.Proofs.Ytbeknohemgjfbaa.W
