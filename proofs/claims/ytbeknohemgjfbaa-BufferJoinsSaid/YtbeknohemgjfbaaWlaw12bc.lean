/- The contracts of the walked functions: the printed walks. -/
import Derived.Test.YtbeknohemgjfbaaKc
import Derived.Test.YtbeknohemgjfbaaQc
import Derived.Test.YtbeknohemgjfbaaWref12cc
namespace Go.Proofs.Ytbeknohemgjfbaa.W
open Go Go.Proofs Go.Proofs.Ytbeknohemgjfbaa.L Go.Proofs.Ytbeknohemgjfbaa.Pu
set_option linter.unusedVariables false
set_option maxHeartbeats 4000000

theorem c_law12_same (p1 : Int × Int × Int × Int × List (Int × Int × Int)) (p2 : Int × Int × Int × Int × List (Int × Int × Int)) (A1 : Option Addr) (c1 : Nat) (A2 : Option Addr) (c2 : Nat) (r : Bool) (H : law12_same p1 p2 = some r) :
    Ctr Try.prog 44 [.agg #[.int .u64 p1.1, .int .i64 p1.2.1, .int .u64 p1.2.2.1, .int .u64 p1.2.2.2.1, .slice A1 p1.2.2.2.2.length c1], .agg #[.int .u64 p2.1, .int .i64 p2.2.1, .int .u64 p2.2.2.1, .int .u64 p2.2.2.2.1, .slice A2 p2.2.2.2.2.length c2]] [] [slF rp_u64_u64_u64 A1 c1 p1.2.2.2.2, slF rp_u64_u64_u64 A2 c2 p2.2.2.2.2] (fun ret M' F' => ret = .bool r ∧ M' = [] ∧ F' = []) := by
  unfold law12_same at H
  refine ctr_ofI (N := 18) Try.func44 rfl Try.ntmps44 rfl (Nat.le_of_ble_eq_true rfl) (fun γ0 w0 => ?_)
  refine Tr.seq ?_
  refine Tr.region ?_
  refine TrL.cons rfl (op_box' rfl (bl rfl) rfl rfl rfl (fun b3 => ?_))
  refine TrL.cons rfl (op_box' rfl (bl rfl) rfl rfl rfl (fun b4 => ?_))
  refine TrL.v (v_assign rfl rfl) rfl rfl (bl rfl) ?_
  refine TrL.nil (qthen_n ?_)
  refine Tr.seq ?_
  refine Tr.region ?_
  refine TrL.v (v_fieldAddr' rfl fo77_0 rfl rfl) rfl rfl (bl rfl) ?_
  refine TrL.v (v_load (k := 1) rfl rfl rfl ty28 (fun _ => rfl) rfl rfl) rfl rfl (bl rfl) ?_
  refine TrL.v (v_fieldAddr' rfl fo77_1 rfl rfl) rfl rfl (bl rfl) ?_
  refine TrL.v (v_load (k := 1) rfl rfl rfl ty3 (fun _ => rfl) rfl rfl) rfl rfl (bl rfl) ?_
  refine TrL.v (v_fieldAddr' rfl fo77_2 rfl rfl) rfl rfl (bl rfl) ?_
  refine TrL.v (v_load (k := 1) rfl rfl rfl ty28 (fun _ => rfl) rfl rfl) rfl rfl (bl rfl) ?_
  refine TrL.v (v_fieldAddr' rfl fo77_3 rfl rfl) rfl rfl (bl rfl) ?_
  refine TrL.v (v_load (k := 1) rfl rfl rfl ty28 (fun _ => rfl) rfl rfl) rfl rfl (bl rfl) ?_
  refine TrL.v (v_fieldAddr' rfl fo77_4 rfl rfl) rfl rfl (bl rfl) ?_
  refine TrL.v (v_load (k := 1) rfl rfl rfl ty71 (fun _ => rfl) rfl rfl) rfl rfl (bl rfl) ?_
  refine TrL.v (v_build (vs := [.int .u64 p1.1, .int .i64 p1.2.1, .int .u64 p1.2.2.1, .int .u64 p1.2.2.2.1, .slice A1 p1.2.2.2.2.length c1]) (out := [.int .u64 p1.1, .int .i64 p1.2.1, .int .u64 p1.2.2.1, .int .u64 p1.2.2.2.1, .slice A1 p1.2.2.2.2.length c1]) rfl pl73 ze73 rfl rfl) rfl rfl (bl rfl) ?_
  refine TrL.v (v_load (k := 0) rfl rfl rfl ty73 nofun rfl rfl) rfl rfl (bl rfl) ?_
  obtain ⟨r2, hr2, H⟩ := bnd H
  refine TrL.cons rfl (op_call0' (vs := [.agg #[.int .u64 p1.1, .int .i64 p1.2.1, .int .u64 p1.2.2.1, .int .u64 p1.2.2.2.1, .slice A1 p1.2.2.2.2.length c1], .agg #[.int .u64 p2.1, .int .i64 p2.2.1, .int .u64 p2.2.2.1, .int .u64 p2.2.2.2.1, .slice A2 p2.2.2.2.2.length c2]]) (cap := []) [0, 1] rfl rfl (bl rfl) rfl rfl en94 (c_ref12_Same p1 p2 A1 c1 A2 c2 r2 hr2) rfl (fun ret M' F' hR2 => ?_))
  obtain ⟨rfl, rfl, rfl⟩ := hR2
  refine TrL.v (v_assign rfl rfl) rfl rfl (bl rfl) ?_
  refine TrL.nil (qthen_n ?_)
  have hz := Option.some.inj H
  subst hz
  refine Tr.ret (ret_r ⟨[(4, .bool r2)], [], [], []⟩ [.bool r2] [] [] (Imp.re _ [] [] (sc rfl sn) (by decide) rfl rfl rfl) rfl rfl ⟨rfl, rfl, rfl⟩ (.cons (resv_tmp rfl) .nil))
end Go.Proofs.Ytbeknohemgjfbaa.W
