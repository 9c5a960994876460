import Derived.Test.YtbeknohemgjfbaaKcv
import Derived.Test.YtbeknohemgjfbaaQcv
import Derived.Test.YtbeknohemgjfbaaWhashacv
namespace Go.Proofs.Ytbeknohemgjfbaa.W
open Go Go.Proofs Go.Proofs.Ytbeknohemgjfbaa.L Go.Proofs.Ytbeknohemgjfbaa.Pu
set_option linter.unusedVariables false
set_option maxHeartbeats 4000000

theorem c_grid_New_1 (p1 : Int × Int) (r : Bool) (H : grid_New_1 p1 = some r) :
  Ctr Try.prog 175 [.agg #[.int .u64 p1.1, .int .u64 p1.2]] [] [] (fun ret M' F' => ret = .bool r ∧ M' = [] ∧ F' = []) := by
 unfold grid_New_1 at H
 refine ctr_ofI (N := 6) Try.func175 rfl Try.ntmps175 rfl (Nat.le_of_ble_eq_true rfl) (fun γ0 w0 => ?_)
 refine Tr.seq ?_
 refine Tr.region ?_
 refine TrL.cons rfl (op_box' rfl (bl rfl) rfl rfl rfl (fun b2 => ?_))
 refine TrL.v (v_assign rfl rfl) rfl rfl (bl rfl) ?_
 refine TrL.nil (qthen_n ?_)
 refine Tr.seq ?_
 refine Tr.region ?_
 refine TrL.v (v_load (k := 0) rfl rfl rfl ty184 nofun rfl rfl) rfl rfl (bl rfl) ?_
 obtain ⟨r2, hr2, H⟩ := bnd H
 refine TrL.cons rfl (op_call0' (vs := [.agg #[.int .u64 p1.1, .int .u64 p1.2]]) (cap := []) [] rfl rfl (bl rfl) rfl rfl en176 (c_hash_May p1 r2 hr2) rfl (fun ret M' F' hR2 => ?_))
 obtain ⟨rfl, rfl, rfl⟩ := hR2
 refine TrL.v (v_notd rfl (bdec rfl)) rfl rfl (bl rfl) ?_
 refine TrL.v (v_assign rfl rfl) rfl rfl (bl rfl) ?_
 refine TrL.nil (qthen_n ?_)
 have hz := Option.some.inj H
 subst hz
 refine Tr.ret (ret_r ⟨[(2, .bool (decide (¬ (r2 = true))))], [], [], []⟩ [.bool (decide (¬ (r2 = true)))] [] [] (Imp.re _ [] [] (sc rfl sn) (by decide) rfl rfl rfl) rfl rfl ⟨rfl, rfl, rfl⟩ (.cons (resv_tmp rfl) .nil))
end Go.Proofs.Ytbeknohemgjfbaa.W
