/- The contracts of the walked functions: the printed walks. -/
import Derived.Test.YtbeknohemgjfbaaKc
import Derived.Test.YtbeknohemgjfbaaQc
import Derived.Test.YtbeknohemgjfbaaWcmpac
namespace Go.Proofs.Ytbeknohemgjfbaa.W
open Go Go.Proofs Go.Proofs.Ytbeknohemgjfbaa.L Go.Proofs.Ytbeknohemgjfbaa.Pu
set_option linter.unusedVariables false
set_option maxHeartbeats 4000000

theorem c_buffer_Join_1 (p1 : Int × Int × Int) (p2 : Int × Int × Int) (r : Int) (H : buffer_Join_1 p1 p2 = some r) :
    Ctr Try.prog 89 [.agg #[.int .u64 p1.1, .int .u64 p1.2.1, .int .u64 p1.2.2], .agg #[.int .u64 p2.1, .int .u64 p2.2.1, .int .u64 p2.2.2]] [] [] (fun ret M' F' => ret = .int .i64 r ∧ M' = [] ∧ F' = []) := by
  unfold buffer_Join_1 at H
  refine ctr_ofI (N := 10) Try.func89 rfl Try.ntmps89 rfl (Nat.le_of_ble_eq_true rfl) (fun γ0 w0 => ?_)
  refine Tr.seq ?_
  refine Tr.region ?_
  refine TrL.cons rfl (op_box' rfl (bl rfl) rfl rfl rfl (fun b3 => ?_))
  refine TrL.cons rfl (op_box' rfl (bl rfl) rfl rfl rfl (fun b4 => ?_))
  refine TrL.v (v_assign rfl rfl) rfl rfl (bl rfl) ?_
  refine TrL.nil (qthen_n ?_)
  refine Tr.seq ?_
  refine Tr.region ?_
  refine TrL.v (v_fieldAddr' rfl fo85_0 rfl rfl) rfl rfl (bl rfl) ?_
  refine TrL.v (v_load (k := 1) rfl rfl rfl ty28 (fun _ => rfl) rfl rfl) rfl rfl (bl rfl) ?_
  refine TrL.v (v_fieldAddr' rfl fo85_0 rfl rfl) rfl rfl (bl rfl) ?_
  refine TrL.v (v_load (k := 0) rfl rfl rfl ty28 (fun _ => rfl) rfl rfl) rfl rfl (bl rfl) ?_
  obtain ⟨r2, hr2, H⟩ := bnd H
  refine TrL.cons rfl (op_call0' (vs := [.int .u64 p1.1, .int .u64 p2.1]) (cap := []) [] rfl rfl (bl rfl) rfl rfl en90 (c_cmp_Compare_uint64 p1.1 p2.1 r2 hr2) rfl (fun ret M' F' hR2 => ?_))
  obtain ⟨rfl, rfl, rfl⟩ := hR2
  refine TrL.v (v_assign rfl rfl) rfl rfl (bl rfl) ?_
  refine TrL.nil (qthen_n ?_)
  have hz := Option.some.inj H
  subst hz
  refine Tr.ret (ret_r ⟨[(4, .int .i64 r2)], [], [], []⟩ [.int .i64 r2] [] [] (Imp.re _ [] [] (sc rfl sn) (by decide) rfl rfl rfl) rfl rfl ⟨rfl, rfl, rfl⟩ (.cons (resv_tmp rfl) .nil))
end Go.Proofs.Ytbeknohemgjfbaa.W
