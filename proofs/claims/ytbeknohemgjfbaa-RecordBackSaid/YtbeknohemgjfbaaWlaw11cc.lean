/- The contracts of the walked functions: the printed walks. -/
import Derived.Test.YtbeknohemgjfbaaKc
import Derived.Test.YtbeknohemgjfbaaQc
import Derived.Test.YtbeknohemgjfbaaWref06cc
namespace Go.Proofs.Ytbeknohemgjfbaa.W
open Go Go.Proofs Go.Proofs.Ytbeknohemgjfbaa.L Go.Proofs.Ytbeknohemgjfbaa.Pu
set_option linter.unusedVariables false
set_option maxHeartbeats 4000000

theorem c_law11_same (p1 : Int × Int × List (List (Int × Int))) (p2 : Int × Int × List (List (Int × Int))) (A1 : Option Addr) (c1 : Nat) (A2 : Option Addr) (c2 : Nat) (r : Bool) (H : law11_same p1 p2 = some r) :
    Ctr Try.prog 30 [.agg #[.int .i64 p1.1, .int .i64 p1.2.1, .slice A1 p1.2.2.length c1], .agg #[.int .i64 p2.1, .int .i64 p2.2.1, .slice A2 p2.2.2.length c2]] [] [slF (rSl rp_u64_u64) A1 c1 p1.2.2, slF (rSl rp_u64_u64) A2 c2 p2.2.2] (fun ret M' F' => ret = .bool r ∧ M' = [] ∧ F' = []) := by
  unfold law11_same at H
  refine ctr_ofI (N := 14) Try.func30 rfl Try.ntmps30 rfl (Nat.le_of_ble_eq_true rfl) (fun γ0 w0 => ?_)
  refine Tr.seq ?_
  refine Tr.region ?_
  refine TrL.cons rfl (op_box' rfl (bl rfl) rfl rfl rfl (fun b3 => ?_))
  refine TrL.cons rfl (op_box' rfl (bl rfl) rfl rfl rfl (fun b4 => ?_))
  refine TrL.v (v_assign rfl rfl) rfl rfl (bl rfl) ?_
  refine TrL.nil (qthen_n ?_)
  refine Tr.seq ?_
  refine Tr.region ?_
  refine TrL.v (v_fieldAddr' rfl fo35_0 rfl rfl) rfl rfl (bl rfl) ?_
  refine TrL.v (v_load (k := 1) rfl rfl rfl ty3 (fun _ => rfl) rfl rfl) rfl rfl (bl rfl) ?_
  refine TrL.v (v_fieldAddr' rfl fo35_1 rfl rfl) rfl rfl (bl rfl) ?_
  refine TrL.v (v_load (k := 1) rfl rfl rfl ty3 (fun _ => rfl) rfl rfl) rfl rfl (bl rfl) ?_
  refine TrL.v (v_fieldAddr' rfl fo35_2 rfl rfl) rfl rfl (bl rfl) ?_
  refine TrL.v (v_load (k := 1) rfl rfl rfl ty24 (fun _ => rfl) rfl rfl) rfl rfl (bl rfl) ?_
  refine TrL.v (v_build (vs := [.int .i64 p1.1, .int .i64 p1.2.1, .slice A1 p1.2.2.length c1]) (out := [.int .i64 p1.1, .int .i64 p1.2.1, .slice A1 p1.2.2.length c1]) rfl pl26 ze26 rfl rfl) rfl rfl (bl rfl) ?_
  refine TrL.v (v_load (k := 0) rfl rfl rfl ty26 nofun rfl rfl) rfl rfl (bl rfl) ?_
  obtain ⟨r2, hr2, H⟩ := bnd H
  refine TrL.cons rfl (op_call0' (vs := [.agg #[.int .i64 p1.1, .int .i64 p1.2.1, .slice A1 p1.2.2.length c1], .agg #[.int .i64 p2.1, .int .i64 p2.2.1, .slice A2 p2.2.2.length c2]]) (cap := []) [0, 1] rfl rfl (bl rfl) rfl rfl en76 (c_ref06_Same p1 p2 A1 c1 A2 c2 r2 hr2) rfl (fun ret M' F' hR2 => ?_))
  obtain ⟨rfl, rfl, rfl⟩ := hR2
  refine TrL.v (v_assign rfl rfl) rfl rfl (bl rfl) ?_
  refine TrL.nil (qthen_n ?_)
  have hz := Option.some.inj H
  subst hz
  refine Tr.ret (ret_r ⟨[(4, .bool r2)], [], [], []⟩ [.bool r2] [] [] (Imp.re _ [] [] (sc rfl sn) (by decide) rfl rfl rfl) rfl rfl ⟨rfl, rfl, rfl⟩ (.cons (resv_tmp rfl) .nil))
end Go.Proofs.Ytbeknohemgjfbaa.W
