/- The contracts of the walked functions: the printed walks. -/
import Derived.Test.YtbeknohemgjfbaaKc
import Derived.Test.YtbeknohemgjfbaaQc
namespace Go.Proofs.Ytbeknohemgjfbaa.W
open Go Go.Proofs Go.Proofs.Ytbeknohemgjfbaa.L Go.Proofs.Ytbeknohemgjfbaa.Pu
set_option linter.unusedVariables false
set_option maxHeartbeats 4000000

theorem c_law09_made (p1 : Int × Int × List (List (Int × Int))) (A1 : Option Addr) (c1 : Nat) (r : Unit) (H : law09_made p1 = some r) :
    Ctr Try.prog 19 [.agg #[.int .i64 p1.1, .int .i64 p1.2.1, .slice A1 p1.2.2.length c1]] [] [slF (rSl rp_u64_u64) A1 c1 p1.2.2] (fun ret M' F' => ret = .agg #[.int .i64 p1.1, .int .i64 p1.2.1, .slice A1 p1.2.2.length c1] ∧ M' = [] ∧ F' = [slF (rSl rp_u64_u64) A1 c1 p1.2.2]) := by
  unfold law09_made at H
  refine ctr_ofI (N := 10) Try.func19 rfl Try.ntmps19 rfl (Nat.le_of_ble_eq_true rfl) (fun γ0 w0 => ?_)
  refine Tr.seq ?_
  refine Tr.region ?_
  refine TrL.cons rfl (op_box' rfl (bl rfl) rfl rfl rfl (fun b3 => ?_))
  refine TrL.cons rfl (op_alloc' rfl (bl rfl) rfl ze35 (fun b4 => ?_))
  refine TrL.nil (qthen_n ?_)
  refine Tr.seq ?_
  refine Tr.region ?_
  refine TrL.v (v_fieldAddr' rfl fo26_0 rfl rfl) rfl rfl (bl rfl) ?_
  refine TrL.v (v_load (k := 1) rfl rfl rfl ty3 (fun _ => rfl) rfl rfl) rfl rfl (bl rfl) ?_
  refine TrL.v (v_fieldAddr' rfl fo26_1 rfl rfl) rfl rfl (bl rfl) ?_
  refine TrL.v (v_load (k := 1) rfl rfl rfl ty3 (fun _ => rfl) rfl rfl) rfl rfl (bl rfl) ?_
  refine TrL.v (v_fieldAddr' rfl fo26_2 rfl rfl) rfl rfl (bl rfl) ?_
  refine TrL.v (v_load (k := 1) rfl rfl rfl ty24 (fun _ => rfl) rfl rfl) rfl rfl (bl rfl) ?_
  refine TrL.v (v_build (vs := [.int .i64 p1.1, .int .i64 p1.2.1, .slice A1 p1.2.2.length c1]) (out := [.int .i64 p1.1, .int .i64 p1.2.1, .slice A1 p1.2.2.length c1]) rfl pl35 ze35 rfl rfl) rfl rfl (bl rfl) ?_
  refine TrL.cons rfl (op_store' (k := 0) (c' := [.int .i64 p1.1, .int .i64 p1.2.1, .slice A1 p1.2.2.length c1]) rfl rfl rfl rfl rfl ty35 rfl (Nat.le_of_ble_eq_true rfl) (ones (oc rfl (oc rfl (oc rfl on)))) rfl ?_)
  refine TrL.nil (qthen_n ?_)
  have hz := Option.some.inj H
  subst hz
  refine Tr.ret (ret_r ⟨[(2, .pointer (some ⟨b4, 0, none⟩))], [cells b4 [.int .i64 p1.1, .int .i64 p1.2.1, .slice A1 p1.2.2.length c1] 35], [slF (rSl rp_u64_u64) A1 c1 p1.2.2], []⟩ [.agg #[.int .i64 p1.1, .int .i64 p1.2.1, .slice A1 p1.2.2.length c1]] [] [cells b4 [.int .i64 p1.1, .int .i64 p1.2.1, .slice A1 p1.2.2.length c1] 35] (Imp.re _ [0] [0] (sc rfl sn) (by decide) rfl rfl rfl) rfl rfl ⟨rfl, rfl, rfl⟩ (.cons (resv_cell (k := 0) rfl rfl ty35 nofun rfl rfl) .nil))
end Go.Proofs.Ytbeknohemgjfbaa.W
