import Derived.Test.YtbeknohemgjfbaaKcv
import Derived.Test.YtbeknohemgjfbaaQcv
import Derived.Test.YtbeknohemgjfbaaWconfbcv
import Derived.Test.YtbeknohemgjfbaaWcountacv
namespace Go.Proofs.Ytbeknohemgjfbaa.W
open Go Go.Proofs Go.Proofs.Ytbeknohemgjfbaa.L Go.Proofs.Ytbeknohemgjfbaa.Pu
set_option linter.unusedVariables false
set_option maxHeartbeats 4000000

theorem c_conf_Check_1 (p1 : Int × Int × Int × Int × Int × Int × (List (Int × Int)) × Int × Int) (A1 : Option Addr) (c1 : Nat) (r : Int) (H : conf_Check_1 p1 = some r) :
  Ctr Try.prog 95 [.agg #[.int .i64 p1.1, .int .i64 p1.2.1, .int .u64 p1.2.2.1, .int .u64 p1.2.2.2.1, .int .i64 p1.2.2.2.2.1, .int .i64 p1.2.2.2.2.2.1, .slice A1 p1.2.2.2.2.2.2.1.length c1, .int .i64 p1.2.2.2.2.2.2.2.1, .int .i64 p1.2.2.2.2.2.2.2.2]] [] [slF rp_u64_u64 A1 c1 p1.2.2.2.2.2.2.1] (fun ret M' F' => ret = .int .i64 r ∧ M' = [] ∧ F' = []) := by
 unfold conf_Check_1 at H
 refine ctr_ofI (N := 30) Try.func95 rfl Try.ntmps95 rfl (Nat.le_of_ble_eq_true rfl) (fun γ0 w0 => ?_)
 refine Tr.seq ?_
 refine Tr.region ?_
 refine TrL.cons rfl (op_box' rfl (bl rfl) rfl rfl rfl (fun b3 => ?_))
 refine TrL.v (v_assign rfl rfl) rfl rfl (bl rfl) ?_
 refine TrL.nil (qthen_n ?_)
 refine Tr.seq ?_
 refine Tr.seq ?_
 refine Tr.region ?_
 refine TrL.v (v_fieldAddr' rfl fo91_5 rfl rfl) rfl rfl (bl rfl) ?_
 refine TrL.v (v_load (k := 0) rfl rfl rfl ty3 (fun _ => rfl) rfl rfl) rfl rfl (bl rfl) ?_
 refine TrL.v (v_fieldAddr' rfl fo91_6 rfl rfl) rfl rfl (bl rfl) ?_
 refine TrL.v (v_load (k := 0) rfl rfl rfl ty89 (fun _ => rfl) rfl rfl) rfl rfl (bl rfl) ?_
 refine TrL.v (v_len rfl sl89 rfl) rfl rfl (bl rfl) ?_
 refine TrL.v (v_fieldAddr' rfl fo91_7 rfl rfl) rfl rfl (bl rfl) ?_
 refine TrL.v (v_load (k := 0) rfl rfl rfl ty3 (fun _ => rfl) rfl rfl) rfl rfl (bl rfl) ?_
 refine TrL.v (v_fieldAddr' rfl fo91_8 rfl rfl) rfl rfl (bl rfl) ?_
 refine TrL.v (v_load (k := 0) rfl rfl rfl ty3 (fun _ => rfl) rfl rfl) rfl rfl (bl rfl) ?_
 refine TrL.cons rfl (op_buildSlice' (rp := (rInt .i64)) (xs := [p1.2.2.2.2.2.1, (p1.2.2.2.2.2.2.1.length : Int), p1.2.2.2.2.2.2.2.1, p1.2.2.2.2.2.2.2.2]) (vs := [.int .i64 p1.2.2.2.2.2.1, .int .i64 ((p1.2.2.2.2.2.2.1.length : Int)), .int .i64 p1.2.2.2.2.2.2.2.1, .int .i64 p1.2.2.2.2.2.2.2.2]) (out := [.int .i64 p1.2.2.2.2.2.1, .int .i64 ((p1.2.2.2.2.2.2.1.length : Int)), .int .i64 p1.2.2.2.2.2.2.2.1, .int .i64 p1.2.2.2.2.2.2.2.2]) rfl (bl rfl) rfl sl221 ty3 ze3 rfl rfl (by decide) (by decide) rfl (fun γ w hF => (rowc rfl (rowc rfl (rowc rfl (rowc rfl rown rfl) rfl) rfl) rfl)) (fun A3 => ?_))
 obtain ⟨r3, hr3, H⟩ := bnd H
 refine TrL.cons rfl (op_call0' (vs := [.slice A3 4 4]) (cap := []) [1] rfl rfl (bl rfl) rfl rfl en96 (c_conf_bare ([p1.2.2.2.2.2.1, (p1.2.2.2.2.2.2.1.length : Int), p1.2.2.2.2.2.2.2.1, p1.2.2.2.2.2.2.2.2]) A3 4 r3 hr3) rfl (fun ret M' F' hR3 => ?_))
 obtain ⟨rfl, rfl, rfl⟩ := hR3
 refine TrL.v (v_notd rfl (bdec rfl)) rfl rfl (bl rfl) ?_
 refine TrL.nil (qthen_n ?_)
 rcases ifc H with ⟨h2, H⟩ | ⟨h2, H⟩
 ·refine Tr.cond_t rfl (bt_dec h2) ?_
  refine Tr.seq ?_
  refine Tr.region ?_
  refine TrL.v (v_assign rfl rfl) rfl rfl (bl rfl) ?_
  refine TrL.nil (qthen_n ?_)
  have hz := Option.some.inj H
  subst hz
  refine Tr.ret (qthen_r (ret_r ⟨[(2, .int .i64 9)], [], [], []⟩ [.int .i64 9] [] [] (Imp.re _ [] [] (sc rfl sn) (by decide) rfl rfl rfl) rfl rfl ⟨rfl, rfl, rfl⟩ (.cons (resv_tmp rfl) .nil)))
 ·refine Tr.cond_f rfl (bf_dec h2) ?_
  refine Tr.skip (qthen_n ?_)
  refine Tr.seq ?_
  refine Tr.region ?_
  refine TrL.v (v_fieldAddr' rfl fo91_1 rfl rfl) rfl rfl (bl rfl) ?_
  refine TrL.v (v_load (k := 0) rfl rfl rfl ty3 (fun _ => rfl) rfl rfl) rfl rfl (bl rfl) ?_
  refine TrL.v (v_fieldAddr' rfl fo91_2 rfl rfl) rfl rfl (bl rfl) ?_
  refine TrL.v (v_load (k := 0) rfl rfl rfl ty28 (fun _ => rfl) rfl rfl) rfl rfl (bl rfl) ?_
  refine TrL.v (v_fieldAddr' rfl fo91_3 rfl rfl) rfl rfl (bl rfl) ?_
  refine TrL.v (v_load (k := 0) rfl rfl rfl ty28 (fun _ => rfl) rfl rfl) rfl rfl (bl rfl) ?_
  refine TrL.v (v_fieldAddr' rfl fo91_4 rfl rfl) rfl rfl (bl rfl) ?_
  refine TrL.v (v_load (k := 0) rfl rfl rfl ty3 (fun _ => rfl) rfl rfl) rfl rfl (bl rfl) ?_
  obtain ⟨r4, hr4, H⟩ := bnd H
  refine TrL.cons rfl (op_call0' (vs := [.int .i64 p1.2.1, .int .u64 p1.2.2.1, .int .u64 p1.2.2.2.1, .int .i64 p1.2.2.2.2.1]) (cap := []) [] rfl rfl (bl rfl) rfl rfl en97 (c_count_New p1.2.1 p1.2.2.1 p1.2.2.2.1 p1.2.2.2.2.1 r4 hr4) rfl (fun ret M' F' hR4 => ?_))
  obtain ⟨rfl, rfl, rfl⟩ := hR4
  refine TrL.v (v_move rfl rfl) rfl rfl (bl rfl) ?_
  refine TrL.v (v_extract rfl rfl rfl) rfl rfl (bl rfl) ?_
  refine TrL.v (v_extract rfl rfl rfl) rfl rfl (bl rfl) ?_
  refine TrL.cons rfl (op_alloc' rfl (bl rfl) rfl ze157 (fun b4 => ?_))
  refine TrL.cons rfl (op_store' (k := 0) (c' := [.int .u64 r4.1, .int .u64 r4.2.1, .int .i64 r4.2.2.1, .int .u64 0, .int .u64 0, .slice none 0 0, .int .i64 r4.2.2.2.1, .int .i64 0, .slice none 0 0]) rfl rfl rfl rfl rfl ty157 rfl (Nat.le_of_ble_eq_true rfl) (ones (oc rfl (oc rfl (oc rfl (oc rfl (oc rfl (oc rfl (oc rfl (oc rfl (oc rfl on)))))))))) rfl ?_)
  refine TrL.v (v_assign rfl rfl) rfl rfl (bl rfl) ?_
  refine TrL.nil (qthen_n ?_)
  refine Tr.seq ?_
  refine Tr.region ?_
  refine TrL.v (v_move rfl rfl) rfl rfl (bl rfl) ?_
  refine TrL.v (v_assign rfl rfl) rfl rfl (bl rfl) ?_
  refine TrL.nil (qthen_n ?_)
  have hz := Option.some.inj H
  subst hz
  refine Tr.ret (ret_r ⟨[(2, .int .i64 r4.2.2.2.2)], [], [], []⟩ [.int .i64 r4.2.2.2.2] [] [] (Imp.re _ [] [] (sc rfl sn) (by decide) rfl rfl rfl) rfl rfl ⟨rfl, rfl, rfl⟩ (.cons (resv_tmp rfl) .nil))
end Go.Proofs.Ytbeknohemgjfbaa.W
