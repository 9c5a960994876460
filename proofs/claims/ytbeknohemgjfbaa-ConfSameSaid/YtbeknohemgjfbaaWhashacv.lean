import Derived.Test.YtbeknohemgjfbaaKcv
import Derived.Test.YtbeknohemgjfbaaQcv
namespace Go.Proofs.Ytbeknohemgjfbaa.W
open Go Go.Proofs Go.Proofs.Ytbeknohemgjfbaa.L Go.Proofs.Ytbeknohemgjfbaa.Pu
set_option linter.unusedVariables false
set_option maxHeartbeats 4000000

theorem c_hash_May (p1 : Int × Int) (r : Bool) (H : hash_May p1 = some r) :
  Ctr Try.prog 176 [.agg #[.int .u64 p1.1, .int .u64 p1.2]] [] [] (fun ret M' F' => ret = .bool r ∧ M' = [] ∧ F' = []) := by
 unfold hash_May at H
 refine ctr_ofI (N := 19) Try.func176 rfl Try.ntmps176 rfl (Nat.le_of_ble_eq_true rfl) (fun γ0 w0 => ?_)
 refine Tr.seq ?_
 refine Tr.region ?_
 refine TrL.cons rfl (op_box' rfl (bl rfl) rfl rfl rfl (fun b3 => ?_))
 refine TrL.v (v_assign rfl rfl) rfl rfl (bl rfl) ?_
 refine TrL.nil (qthen_n ?_)
 refine Tr.seq ?_
 refine Tr.region ?_
 refine TrL.v (v_fieldAddr' rfl fo184_0 rfl rfl) rfl rfl (bl rfl) ?_
 refine TrL.v (v_load (k := 0) rfl rfl rfl ty28 (fun _ => rfl) rfl rfl) rfl rfl (bl rfl) ?_
 refine TrL.v (v_rem rfl rfl rfl (by decide)) rfl rfl (bl rfl) ?_
 refine TrL.v (v_fieldAddr' rfl fo184_1 rfl rfl) rfl rfl (bl rfl) ?_
 refine TrL.v (v_load (k := 0) rfl rfl rfl ty28 (fun _ => rfl) rfl rfl) rfl rfl (bl rfl) ?_
 refine TrL.v (v_rem rfl rfl rfl (by decide)) rfl rfl (bl rfl) ?_
 refine TrL.v (v_build (vs := [.int .u64 (p1.1.tmod 2305843009213693951), .int .u64 (p1.2.tmod 2305843009213693951)]) (out := [.int .u64 (p1.1.tmod 2305843009213693951), .int .u64 (p1.2.tmod 2305843009213693951)]) rfl pl184 ze184 rfl rfl) rfl rfl (bl rfl) ?_
 refine TrL.cons rfl (op_alloc' rfl (bl rfl) rfl ze184 (fun b4 => ?_))
 refine TrL.cons rfl (op_store' (k := 0) (c' := [.int .u64 (p1.1.tmod 2305843009213693951), .int .u64 (p1.2.tmod 2305843009213693951)]) rfl rfl rfl rfl rfl ty184 rfl (Nat.le_of_ble_eq_true rfl) (ones (oc rfl (oc rfl on))) rfl ?_)
 refine TrL.nil (qthen_n ?_)
 refine Tr.seq ?_
 refine Tr.region ?_
 refine TrL.v (v_load (k := 1) rfl rfl rfl ty184 nofun rfl rfl) rfl rfl (bl rfl) ?_
 refine TrL.v (v_load (k := 0) rfl rfl rfl ty184 nofun rfl rfl) rfl rfl (bl rfl) ?_
 refine TrL.v (v_eqs rfl if184 eg184 rfl rfl (eqc_cons rfl rfl (eqc_cons rfl rfl eqc_nil))) rfl rfl (bl rfl) ?_
 refine TrL.v (v_move rfl rfl) rfl rfl (bl rfl) ?_
 rcases ifc H with ⟨h4, H⟩ | ⟨h4, H⟩
 ·refine TrL.cons_yes rfl rfl rfl (bt_dec h4) (OpTr.v (v_fieldAddr' rfl fo184_0 rfl rfl) rfl (bl rfl) ?_)
  refine TrL.cons_yes rfl rfl rfl (bt_dec h4) (OpTr.v (v_load (k := 1) rfl rfl rfl ty28 (fun _ => rfl) rfl rfl) rfl (bl rfl) ?_)
  refine TrL.cons_yes rfl rfl rfl (bt_dec h4) (OpTr.v (v_arith rfl rfl rfl ar_gtr) rfl (bl rfl) ?_)
  refine TrL.v (v_pick_t rfl rfl (bt_dec h4) rfl) rfl rfl (bl rfl) ?_
  refine TrL.v (v_assign rfl rfl) rfl rfl (bl rfl) ?_
  refine TrL.nil (qthen_n ?_)
  have hz := Option.some.inj H
  subst hz
  refine Tr.ret (ret_r ⟨[(2, .bool (decide (0 < p1.1)))], [], [], []⟩ [.bool (decide (0 < p1.1))] [] [] (Imp.re _ [] [] (sc rfl sn) (by decide) rfl rfl rfl) rfl rfl ⟨rfl, rfl, rfl⟩ (.cons (resv_tmp rfl) .nil))
 ·refine TrL.cons_no rfl rfl rfl (gn_t (bf_dec h4)) rfl (bl rfl) ?_
  refine TrL.cons_no rfl rfl rfl (gn_t (bf_dec h4)) rfl (bl rfl) ?_
  refine TrL.cons_no rfl rfl rfl (gn_t (bf_dec h4)) rfl (bl rfl) ?_
  refine TrL.v (v_pick_f rfl rfl (bf_dec h4) rfl) rfl rfl (bl rfl) ?_
  refine TrL.v (v_assign rfl rfl) rfl rfl (bl rfl) ?_
  refine TrL.nil (qthen_n ?_)
  have hz := Option.some.inj H
  subst hz
  refine Tr.ret (ret_r ⟨[(2, .bool false)], [], [], []⟩ [.bool false] [] [] (Imp.re _ [] [] (sc rfl sn) (by decide) rfl rfl rfl) rfl rfl ⟨rfl, rfl, rfl⟩ (.cons (resv_tmp rfl) .nil))
end Go.Proofs.Ytbeknohemgjfbaa.W
