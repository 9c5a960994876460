import Derived.Test.YtbeknohemgjfbaaKcv
import Derived.Test.YtbeknohemgjfbaaQcv
import Derived.Test.YtbeknohemgjfbaaWref16acv
import Derived.Test.YtbeknohemgjfbaaWref20acv
namespace Go.Proofs.Ytbeknohemgjfbaa.W
open Go Go.Proofs Go.Proofs.Ytbeknohemgjfbaa.L Go.Proofs.Ytbeknohemgjfbaa.Pu
set_option linter.unusedVariables false
set_option maxHeartbeats 4000000

theorem c_ref21_Same (p1 : Int × Int × Int × Int × Int × Int × (List (Int × Int)) × Int × Int) (p2 : Int × Int × Int × Int × Int × Int × (List (Int × Int)) × Int × Int) (A1 : Option Addr) (c1 : Nat) (A2 : Option Addr) (c2 : Nat) (r : Bool) (H : ref21_Same p1 p2 = some r) :
  Ctr Try.prog 53 [.agg #[.int .i64 p1.1, .int .i64 p1.2.1, .int .u64 p1.2.2.1, .int .u64 p1.2.2.2.1, .int .i64 p1.2.2.2.2.1, .int .i64 p1.2.2.2.2.2.1, .slice A1 p1.2.2.2.2.2.2.1.length c1, .int .i64 p1.2.2.2.2.2.2.2.1, .int .i64 p1.2.2.2.2.2.2.2.2], .agg #[.int .i64 p2.1, .int .i64 p2.2.1, .int .u64 p2.2.2.1, .int .u64 p2.2.2.2.1, .int .i64 p2.2.2.2.2.1, .int .i64 p2.2.2.2.2.2.1, .slice A2 p2.2.2.2.2.2.2.1.length c2, .int .i64 p2.2.2.2.2.2.2.2.1, .int .i64 p2.2.2.2.2.2.2.2.2]] [] [slF rp_u64_u64 A1 c1 p1.2.2.2.2.2.2.1, slF rp_u64_u64 A2 c2 p2.2.2.2.2.2.2.1] (fun ret M' F' => ret = .bool r ∧ M' = [] ∧ F' = []) := by
 unfold ref21_Same at H
 refine ctr_ofI (N := 87) Try.func53 rfl Try.ntmps53 rfl (Nat.le_of_ble_eq_true rfl) (fun γ0 w0 => ?_)
 refine Tr.seq ?_
 refine Tr.region ?_
 refine TrL.cons rfl (op_box' rfl (bl rfl) rfl rfl rfl (fun b3 => ?_))
 refine TrL.cons rfl (op_box' rfl (bl rfl) rfl rfl rfl (fun b4 => ?_))
 refine TrL.v (v_assign rfl rfl) rfl rfl (bl rfl) ?_
 refine TrL.nil (qthen_n ?_)
 refine Tr.seq ?_
 refine Tr.seq ?_
 refine Tr.region ?_
 refine TrL.v (v_fieldAddr' rfl fo91_0 rfl rfl) rfl rfl (bl rfl) ?_
 refine TrL.v (v_load (k := 1) rfl rfl rfl ty3 (fun _ => rfl) rfl rfl) rfl rfl (bl rfl) ?_
 refine TrL.v (v_fieldAddr' rfl fo91_0 rfl rfl) rfl rfl (bl rfl) ?_
 refine TrL.v (v_load (k := 0) rfl rfl rfl ty3 (fun _ => rfl) rfl rfl) rfl rfl (bl rfl) ?_
 refine TrL.v (v_arith rfl rfl rfl ar_neq) rfl rfl (bl rfl) ?_
 refine TrL.v (v_move rfl rfl) rfl rfl (bl rfl) ?_
 rcases ifc H with ⟨h32, H⟩ | ⟨h32, H⟩
 ·refine TrL.cons_no rfl rfl rfl (gn_f (bt_dec h32)) rfl (bl rfl) ?_
  refine TrL.cons_no rfl rfl rfl (gn_f (bt_dec h32)) rfl (bl rfl) ?_
  refine TrL.cons_no rfl rfl rfl (gn_f (bt_dec h32)) rfl (bl rfl) ?_
  refine TrL.cons_no rfl rfl rfl (gn_f (bt_dec h32)) rfl (bl rfl) ?_
  refine TrL.cons_no rfl rfl rfl (gn_f (bt_dec h32)) rfl (bl rfl) ?_
  refine TrL.v (v_pick_t rfl rfl (bt_dec h32) rfl) rfl rfl (bl rfl) ?_
  refine TrL.v (v_move rfl rfl) rfl rfl (bl rfl) ?_
  refine TrL.cons_no rfl rfl rfl (gn_f rfl) rfl (bl rfl) ?_
  refine TrL.cons_no rfl rfl rfl (gn_f rfl) rfl (bl rfl) ?_
  refine TrL.cons_no rfl rfl rfl (gn_f rfl) rfl (bl rfl) ?_
  refine TrL.cons_no rfl rfl rfl (gn_f rfl) rfl (bl rfl) ?_
  refine TrL.cons_no rfl rfl rfl (gn_f rfl) rfl (bl rfl) ?_
  refine TrL.v (v_pick_t rfl rfl rfl rfl) rfl rfl (bl rfl) ?_
  refine TrL.v (v_move rfl rfl) rfl rfl (bl rfl) ?_
  refine TrL.cons_no rfl rfl rfl (gn_f rfl) rfl (bl rfl) ?_
  refine TrL.cons_no rfl rfl rfl (gn_f rfl) rfl (bl rfl) ?_
  refine TrL.cons_no rfl rfl rfl (gn_f rfl) rfl (bl rfl) ?_
  refine TrL.cons_no rfl rfl rfl (gn_f rfl) rfl (bl rfl) ?_
  refine TrL.cons_no rfl rfl rfl (gn_f rfl) rfl (bl rfl) ?_
  refine TrL.v (v_pick_t rfl rfl rfl rfl) rfl rfl (bl rfl) ?_
  refine TrL.v (v_move rfl rfl) rfl rfl (bl rfl) ?_
  refine TrL.cons_no rfl rfl rfl (gn_f rfl) rfl (bl rfl) ?_
  refine TrL.cons_no rfl rfl rfl (gn_f rfl) rfl (bl rfl) ?_
  refine TrL.cons_no rfl rfl rfl (gn_f rfl) rfl (bl rfl) ?_
  refine TrL.cons_no rfl rfl rfl (gn_f rfl) rfl (bl rfl) ?_
  refine TrL.cons_no rfl rfl rfl (gn_f rfl) rfl (bl rfl) ?_
  refine TrL.v (v_pick_t rfl rfl rfl rfl) rfl rfl (bl rfl) ?_
  refine TrL.v (v_move rfl rfl) rfl rfl (bl rfl) ?_
  refine TrL.cons_no rfl rfl rfl (gn_f rfl) rfl (bl rfl) ?_
  refine TrL.cons_no rfl rfl rfl (gn_f rfl) rfl (bl rfl) ?_
  refine TrL.cons_no rfl rfl rfl (gn_f rfl) rfl (bl rfl) ?_
  refine TrL.cons_no rfl rfl rfl (gn_f rfl) rfl (bl rfl) ?_
  refine TrL.cons_no rfl rfl rfl (gn_f rfl) rfl (bl rfl) ?_
  refine TrL.v (v_pick_t rfl rfl rfl rfl) rfl rfl (bl rfl) ?_
  refine TrL.v (v_move rfl rfl) rfl rfl (bl rfl) ?_
  refine TrL.cons_no rfl rfl rfl (gn_f rfl) rfl (bl rfl) ?_
  refine TrL.cons_no rfl rfl rfl (gn_f rfl) rfl (bl rfl) ?_
  refine TrL.cons_no rfl rfl rfl (gn_f rfl) rfl (bl rfl) ?_
  refine TrL.cons_no rfl rfl rfl (gn_f rfl) rfl (bl rfl) ?_
  refine TrL.cons_no rfl rfl rfl (gn_f rfl) rfl (bl rfl) ?_
  refine TrL.v (v_pick_t rfl rfl rfl rfl) rfl rfl (bl rfl) ?_
  refine TrL.v (v_move rfl rfl) rfl rfl (bl rfl) ?_
  refine TrL.cons_no rfl rfl rfl (gn_f rfl) rfl (bl rfl) ?_
  refine TrL.cons_no rfl rfl rfl (gn_f rfl) rfl (bl rfl) ?_
  refine TrL.cons_no rfl rfl rfl (gn_f rfl) rfl (bl rfl) ?_
  refine TrL.cons_no rfl rfl rfl (gn_f rfl) rfl (bl rfl) ?_
  refine TrL.cons_no rfl rfl rfl (gn_f rfl) rfl (bl rfl) ?_
  refine TrL.v (v_pick_t rfl rfl rfl rfl) rfl rfl (bl rfl) ?_
  refine TrL.v (v_move rfl rfl) rfl rfl (bl rfl) ?_
  refine TrL.cons_no rfl rfl rfl (gn_f rfl) rfl (bl rfl) ?_
  refine TrL.cons_no rfl rfl rfl (gn_f rfl) rfl (bl rfl) ?_
  refine TrL.cons_no rfl rfl rfl (gn_f rfl) rfl (bl rfl) ?_
  refine TrL.cons_no rfl rfl rfl (gn_f rfl) rfl (bl rfl) ?_
  refine TrL.cons_no rfl rfl rfl (gn_f rfl) rfl (bl rfl) ?_
  refine TrL.cons_no rfl rfl rfl (gn_f rfl) rfl (bl rfl) ?_
  refine TrL.cons_no rfl rfl rfl (gn_f rfl) rfl (bl rfl) ?_
  refine TrL.v (v_pick_t rfl rfl rfl rfl) rfl rfl (bl rfl) ?_
  refine TrL.nil (qthen_n ?_)
  refine Tr.cond_t rfl rfl ?_
  refine Tr.seq ?_
  refine Tr.region ?_
  refine TrL.v (v_assign rfl rfl) rfl rfl (bl rfl) ?_
  refine TrL.nil (qthen_n ?_)
  have hz := Option.some.inj H
  subst hz
  refine Tr.ret (qthen_r (ret_r ⟨[(4, .bool false)], [], [], []⟩ [.bool false] [] [] (Imp.re _ [] [] (sc rfl sn) (by decide) rfl rfl rfl) rfl rfl ⟨rfl, rfl, rfl⟩ (.cons (resv_tmp rfl) .nil)))
 ·refine TrL.cons_yes rfl rfl rfl (bf_dec h32) (OpTr.v (v_fieldAddr' rfl fo91_1 rfl rfl) rfl (bl rfl) ?_)
  refine TrL.cons_yes rfl rfl rfl (bf_dec h32) (OpTr.v (v_load (k := 1) rfl rfl rfl ty3 (fun _ => rfl) rfl rfl) rfl (bl rfl) ?_)
  refine TrL.cons_yes rfl rfl rfl (bf_dec h32) (OpTr.v (v_fieldAddr' rfl fo91_1 rfl rfl) rfl (bl rfl) ?_)
  refine TrL.cons_yes rfl rfl rfl (bf_dec h32) (OpTr.v (v_load (k := 0) rfl rfl rfl ty3 (fun _ => rfl) rfl rfl) rfl (bl rfl) ?_)
  refine TrL.cons_yes rfl rfl rfl (bf_dec h32) (OpTr.v (v_arith rfl rfl rfl ar_neq) rfl (bl rfl) ?_)
  refine TrL.v (v_pick_f rfl rfl (bf_dec h32) rfl) rfl rfl (bl rfl) ?_
  refine TrL.v (v_move rfl rfl) rfl rfl (bl rfl) ?_
  rcases ifc H with ⟨h33, H⟩ | ⟨h33, H⟩
  ·refine TrL.cons_no rfl rfl rfl (gn_f (bt_dec h33)) rfl (bl rfl) ?_
   refine TrL.cons_no rfl rfl rfl (gn_f (bt_dec h33)) rfl (bl rfl) ?_
   refine TrL.cons_no rfl rfl rfl (gn_f (bt_dec h33)) rfl (bl rfl) ?_
   refine TrL.cons_no rfl rfl rfl (gn_f (bt_dec h33)) rfl (bl rfl) ?_
   refine TrL.cons_no rfl rfl rfl (gn_f (bt_dec h33)) rfl (bl rfl) ?_
   refine TrL.v (v_pick_t rfl rfl (bt_dec h33) rfl) rfl rfl (bl rfl) ?_
   refine TrL.v (v_move rfl rfl) rfl rfl (bl rfl) ?_
   refine TrL.cons_no rfl rfl rfl (gn_f rfl) rfl (bl rfl) ?_
   refine TrL.cons_no rfl rfl rfl (gn_f rfl) rfl (bl rfl) ?_
   refine TrL.cons_no rfl rfl rfl (gn_f rfl) rfl (bl rfl) ?_
   refine TrL.cons_no rfl rfl rfl (gn_f rfl) rfl (bl rfl) ?_
   refine TrL.cons_no rfl rfl rfl (gn_f rfl) rfl (bl rfl) ?_
   refine TrL.v (v_pick_t rfl rfl rfl rfl) rfl rfl (bl rfl) ?_
   refine TrL.v (v_move rfl rfl) rfl rfl (bl rfl) ?_
   refine TrL.cons_no rfl rfl rfl (gn_f rfl) rfl (bl rfl) ?_
   refine TrL.cons_no rfl rfl rfl (gn_f rfl) rfl (bl rfl) ?_
   refine TrL.cons_no rfl rfl rfl (gn_f rfl) rfl (bl rfl) ?_
   refine TrL.cons_no rfl rfl rfl (gn_f rfl) rfl (bl rfl) ?_
   refine TrL.cons_no rfl rfl rfl (gn_f rfl) rfl (bl rfl) ?_
   refine TrL.v (v_pick_t rfl rfl rfl rfl) rfl rfl (bl rfl) ?_
   refine TrL.v (v_move rfl rfl) rfl rfl (bl rfl) ?_
   refine TrL.cons_no rfl rfl rfl (gn_f rfl) rfl (bl rfl) ?_
   refine TrL.cons_no rfl rfl rfl (gn_f rfl) rfl (bl rfl) ?_
   refine TrL.cons_no rfl rfl rfl (gn_f rfl) rfl (bl rfl) ?_
   refine TrL.cons_no rfl rfl rfl (gn_f rfl) rfl (bl rfl) ?_
   refine TrL.cons_no rfl rfl rfl (gn_f rfl) rfl (bl rfl) ?_
   refine TrL.v (v_pick_t rfl rfl rfl rfl) rfl rfl (bl rfl) ?_
   refine TrL.v (v_move rfl rfl) rfl rfl (bl rfl) ?_
   refine TrL.cons_no rfl rfl rfl (gn_f rfl) rfl (bl rfl) ?_
   refine TrL.cons_no rfl rfl rfl (gn_f rfl) rfl (bl rfl) ?_
   refine TrL.cons_no rfl rfl rfl (gn_f rfl) rfl (bl rfl) ?_
   refine TrL.cons_no rfl rfl rfl (gn_f rfl) rfl (bl rfl) ?_
   refine TrL.cons_no rfl rfl rfl (gn_f rfl) rfl (bl rfl) ?_
   refine TrL.v (v_pick_t rfl rfl rfl rfl) rfl rfl (bl rfl) ?_
   refine TrL.v (v_move rfl rfl) rfl rfl (bl rfl) ?_
   refine TrL.cons_no rfl rfl rfl (gn_f rfl) rfl (bl rfl) ?_
   refine TrL.cons_no rfl rfl rfl (gn_f rfl) rfl (bl rfl) ?_
   refine TrL.cons_no rfl rfl rfl (gn_f rfl) rfl (bl rfl) ?_
   refine TrL.cons_no rfl rfl rfl (gn_f rfl) rfl (bl rfl) ?_
   refine TrL.cons_no rfl rfl rfl (gn_f rfl) rfl (bl rfl) ?_
   refine TrL.v (v_pick_t rfl rfl rfl rfl) rfl rfl (bl rfl) ?_
   refine TrL.v (v_move rfl rfl) rfl rfl (bl rfl) ?_
   refine TrL.cons_no rfl rfl rfl (gn_f rfl) rfl (bl rfl) ?_
   refine TrL.cons_no rfl rfl rfl (gn_f rfl) rfl (bl rfl) ?_
   refine TrL.cons_no rfl rfl rfl (gn_f rfl) rfl (bl rfl) ?_
   refine TrL.cons_no rfl rfl rfl (gn_f rfl) rfl (bl rfl) ?_
   refine TrL.cons_no rfl rfl rfl (gn_f rfl) rfl (bl rfl) ?_
   refine TrL.cons_no rfl rfl rfl (gn_f rfl) rfl (bl rfl) ?_
   refine TrL.cons_no rfl rfl rfl (gn_f rfl) rfl (bl rfl) ?_
   refine TrL.v (v_pick_t rfl rfl rfl rfl) rfl rfl (bl rfl) ?_
   refine TrL.nil (qthen_n ?_)
   refine Tr.cond_t rfl rfl ?_
   refine Tr.seq ?_
   refine Tr.region ?_
   refine TrL.v (v_assign rfl rfl) rfl rfl (bl rfl) ?_
   refine TrL.nil (qthen_n ?_)
   have hz := Option.some.inj H
   subst hz
   refine Tr.ret (qthen_r (ret_r ⟨[(4, .bool false)], [], [], []⟩ [.bool false] [] [] (Imp.re _ [] [] (sc rfl sn) (by decide) rfl rfl rfl) rfl rfl ⟨rfl, rfl, rfl⟩ (.cons (resv_tmp rfl) .nil)))
  ·refine TrL.cons_yes rfl rfl rfl (bf_dec h33) (OpTr.v (v_fieldAddr' rfl fo91_2 rfl rfl) rfl (bl rfl) ?_)
   refine TrL.cons_yes rfl rfl rfl (bf_dec h33) (OpTr.v (v_load (k := 1) rfl rfl rfl ty28 (fun _ => rfl) rfl rfl) rfl (bl rfl) ?_)
   refine TrL.cons_yes rfl rfl rfl (bf_dec h33) (OpTr.v (v_fieldAddr' rfl fo91_2 rfl rfl) rfl (bl rfl) ?_)
   refine TrL.cons_yes rfl rfl rfl (bf_dec h33) (OpTr.v (v_load (k := 0) rfl rfl rfl ty28 (fun _ => rfl) rfl rfl) rfl (bl rfl) ?_)
   refine TrL.cons_yes rfl rfl rfl (bf_dec h33) (OpTr.v (v_arith rfl rfl rfl ar_neq) rfl (bl rfl) ?_)
   refine TrL.v (v_pick_f rfl rfl (bf_dec h33) rfl) rfl rfl (bl rfl) ?_
   refine TrL.v (v_move rfl rfl) rfl rfl (bl rfl) ?_
   rcases ifc H with ⟨h34, H⟩ | ⟨h34, H⟩
   ·refine TrL.cons_no rfl rfl rfl (gn_f (bt_dec h34)) rfl (bl rfl) ?_
    refine TrL.cons_no rfl rfl rfl (gn_f (bt_dec h34)) rfl (bl rfl) ?_
    refine TrL.cons_no rfl rfl rfl (gn_f (bt_dec h34)) rfl (bl rfl) ?_
    refine TrL.cons_no rfl rfl rfl (gn_f (bt_dec h34)) rfl (bl rfl) ?_
    refine TrL.cons_no rfl rfl rfl (gn_f (bt_dec h34)) rfl (bl rfl) ?_
    refine TrL.v (v_pick_t rfl rfl (bt_dec h34) rfl) rfl rfl (bl rfl) ?_
    refine TrL.v (v_move rfl rfl) rfl rfl (bl rfl) ?_
    refine TrL.cons_no rfl rfl rfl (gn_f rfl) rfl (bl rfl) ?_
    refine TrL.cons_no rfl rfl rfl (gn_f rfl) rfl (bl rfl) ?_
    refine TrL.cons_no rfl rfl rfl (gn_f rfl) rfl (bl rfl) ?_
    refine TrL.cons_no rfl rfl rfl (gn_f rfl) rfl (bl rfl) ?_
    refine TrL.cons_no rfl rfl rfl (gn_f rfl) rfl (bl rfl) ?_
    refine TrL.v (v_pick_t rfl rfl rfl rfl) rfl rfl (bl rfl) ?_
    refine TrL.v (v_move rfl rfl) rfl rfl (bl rfl) ?_
    refine TrL.cons_no rfl rfl rfl (gn_f rfl) rfl (bl rfl) ?_
    refine TrL.cons_no rfl rfl rfl (gn_f rfl) rfl (bl rfl) ?_
    refine TrL.cons_no rfl rfl rfl (gn_f rfl) rfl (bl rfl) ?_
    refine TrL.cons_no rfl rfl rfl (gn_f rfl) rfl (bl rfl) ?_
    refine TrL.cons_no rfl rfl rfl (gn_f rfl) rfl (bl rfl) ?_
    refine TrL.v (v_pick_t rfl rfl rfl rfl) rfl rfl (bl rfl) ?_
    refine TrL.v (v_move rfl rfl) rfl rfl (bl rfl) ?_
    refine TrL.cons_no rfl rfl rfl (gn_f rfl) rfl (bl rfl) ?_
    refine TrL.cons_no rfl rfl rfl (gn_f rfl) rfl (bl rfl) ?_
    refine TrL.cons_no rfl rfl rfl (gn_f rfl) rfl (bl rfl) ?_
    refine TrL.cons_no rfl rfl rfl (gn_f rfl) rfl (bl rfl) ?_
    refine TrL.cons_no rfl rfl rfl (gn_f rfl) rfl (bl rfl) ?_
    refine TrL.v (v_pick_t rfl rfl rfl rfl) rfl rfl (bl rfl) ?_
    refine TrL.v (v_move rfl rfl) rfl rfl (bl rfl) ?_
    refine TrL.cons_no rfl rfl rfl (gn_f rfl) rfl (bl rfl) ?_
    refine TrL.cons_no rfl rfl rfl (gn_f rfl) rfl (bl rfl) ?_
    refine TrL.cons_no rfl rfl rfl (gn_f rfl) rfl (bl rfl) ?_
    refine TrL.cons_no rfl rfl rfl (gn_f rfl) rfl (bl rfl) ?_
    refine TrL.cons_no rfl rfl rfl (gn_f rfl) rfl (bl rfl) ?_
    refine TrL.v (v_pick_t rfl rfl rfl rfl) rfl rfl (bl rfl) ?_
    refine TrL.v (v_move rfl rfl) rfl rfl (bl rfl) ?_
    refine TrL.cons_no rfl rfl rfl (gn_f rfl) rfl (bl rfl) ?_
    refine TrL.cons_no rfl rfl rfl (gn_f rfl) rfl (bl rfl) ?_
    refine TrL.cons_no rfl rfl rfl (gn_f rfl) rfl (bl rfl) ?_
    refine TrL.cons_no rfl rfl rfl (gn_f rfl) rfl (bl rfl) ?_
    refine TrL.cons_no rfl rfl rfl (gn_f rfl) rfl (bl rfl) ?_
    refine TrL.cons_no rfl rfl rfl (gn_f rfl) rfl (bl rfl) ?_
    refine TrL.cons_no rfl rfl rfl (gn_f rfl) rfl (bl rfl) ?_
    refine TrL.v (v_pick_t rfl rfl rfl rfl) rfl rfl (bl rfl) ?_
    refine TrL.nil (qthen_n ?_)
    refine Tr.cond_t rfl rfl ?_
    refine Tr.seq ?_
    refine Tr.region ?_
    refine TrL.v (v_assign rfl rfl) rfl rfl (bl rfl) ?_
    refine TrL.nil (qthen_n ?_)
    have hz := Option.some.inj H
    subst hz
    refine Tr.ret (qthen_r (ret_r ⟨[(4, .bool false)], [], [], []⟩ [.bool false] [] [] (Imp.re _ [] [] (sc rfl sn) (by decide) rfl rfl rfl) rfl rfl ⟨rfl, rfl, rfl⟩ (.cons (resv_tmp rfl) .nil)))
   ·refine TrL.cons_yes rfl rfl rfl (bf_dec h34) (OpTr.v (v_fieldAddr' rfl fo91_3 rfl rfl) rfl (bl rfl) ?_)
    refine TrL.cons_yes rfl rfl rfl (bf_dec h34) (OpTr.v (v_load (k := 1) rfl rfl rfl ty28 (fun _ => rfl) rfl rfl) rfl (bl rfl) ?_)
    refine TrL.cons_yes rfl rfl rfl (bf_dec h34) (OpTr.v (v_fieldAddr' rfl fo91_3 rfl rfl) rfl (bl rfl) ?_)
    refine TrL.cons_yes rfl rfl rfl (bf_dec h34) (OpTr.v (v_load (k := 0) rfl rfl rfl ty28 (fun _ => rfl) rfl rfl) rfl (bl rfl) ?_)
    refine TrL.cons_yes rfl rfl rfl (bf_dec h34) (OpTr.v (v_arith rfl rfl rfl ar_neq) rfl (bl rfl) ?_)
    refine TrL.v (v_pick_f rfl rfl (bf_dec h34) rfl) rfl rfl (bl rfl) ?_
    refine TrL.v (v_move rfl rfl) rfl rfl (bl rfl) ?_
    rcases ifc H with ⟨h35, H⟩ | ⟨h35, H⟩
    ·refine TrL.cons_no rfl rfl rfl (gn_f (bt_dec h35)) rfl (bl rfl) ?_
     refine TrL.cons_no rfl rfl rfl (gn_f (bt_dec h35)) rfl (bl rfl) ?_
     refine TrL.cons_no rfl rfl rfl (gn_f (bt_dec h35)) rfl (bl rfl) ?_
     refine TrL.cons_no rfl rfl rfl (gn_f (bt_dec h35)) rfl (bl rfl) ?_
     refine TrL.cons_no rfl rfl rfl (gn_f (bt_dec h35)) rfl (bl rfl) ?_
     refine TrL.v (v_pick_t rfl rfl (bt_dec h35) rfl) rfl rfl (bl rfl) ?_
     refine TrL.v (v_move rfl rfl) rfl rfl (bl rfl) ?_
     refine TrL.cons_no rfl rfl rfl (gn_f rfl) rfl (bl rfl) ?_
     refine TrL.cons_no rfl rfl rfl (gn_f rfl) rfl (bl rfl) ?_
     refine TrL.cons_no rfl rfl rfl (gn_f rfl) rfl (bl rfl) ?_
     refine TrL.cons_no rfl rfl rfl (gn_f rfl) rfl (bl rfl) ?_
     refine TrL.cons_no rfl rfl rfl (gn_f rfl) rfl (bl rfl) ?_
     refine TrL.v (v_pick_t rfl rfl rfl rfl) rfl rfl (bl rfl) ?_
     refine TrL.v (v_move rfl rfl) rfl rfl (bl rfl) ?_
     refine TrL.cons_no rfl rfl rfl (gn_f rfl) rfl (bl rfl) ?_
     refine TrL.cons_no rfl rfl rfl (gn_f rfl) rfl (bl rfl) ?_
     refine TrL.cons_no rfl rfl rfl (gn_f rfl) rfl (bl rfl) ?_
     refine TrL.cons_no rfl rfl rfl (gn_f rfl) rfl (bl rfl) ?_
     refine TrL.cons_no rfl rfl rfl (gn_f rfl) rfl (bl rfl) ?_
     refine TrL.v (v_pick_t rfl rfl rfl rfl) rfl rfl (bl rfl) ?_
     refine TrL.v (v_move rfl rfl) rfl rfl (bl rfl) ?_
     refine TrL.cons_no rfl rfl rfl (gn_f rfl) rfl (bl rfl) ?_
     refine TrL.cons_no rfl rfl rfl (gn_f rfl) rfl (bl rfl) ?_
     refine TrL.cons_no rfl rfl rfl (gn_f rfl) rfl (bl rfl) ?_
     refine TrL.cons_no rfl rfl rfl (gn_f rfl) rfl (bl rfl) ?_
     refine TrL.cons_no rfl rfl rfl (gn_f rfl) rfl (bl rfl) ?_
     refine TrL.v (v_pick_t rfl rfl rfl rfl) rfl rfl (bl rfl) ?_
     refine TrL.v (v_move rfl rfl) rfl rfl (bl rfl) ?_
     refine TrL.cons_no rfl rfl rfl (gn_f rfl) rfl (bl rfl) ?_
     refine TrL.cons_no rfl rfl rfl (gn_f rfl) rfl (bl rfl) ?_
     refine TrL.cons_no rfl rfl rfl (gn_f rfl) rfl (bl rfl) ?_
     refine TrL.cons_no rfl rfl rfl (gn_f rfl) rfl (bl rfl) ?_
     refine TrL.cons_no rfl rfl rfl (gn_f rfl) rfl (bl rfl) ?_
     refine TrL.cons_no rfl rfl rfl (gn_f rfl) rfl (bl rfl) ?_
     refine TrL.cons_no rfl rfl rfl (gn_f rfl) rfl (bl rfl) ?_
     refine TrL.v (v_pick_t rfl rfl rfl rfl) rfl rfl (bl rfl) ?_
     refine TrL.nil (qthen_n ?_)
     refine Tr.cond_t rfl rfl ?_
     refine Tr.seq ?_
     refine Tr.region ?_
     refine TrL.v (v_assign rfl rfl) rfl rfl (bl rfl) ?_
     refine TrL.nil (qthen_n ?_)
     have hz := Option.some.inj H
     subst hz
     refine Tr.ret (qthen_r (ret_r ⟨[(4, .bool false)], [], [], []⟩ [.bool false] [] [] (Imp.re _ [] [] (sc rfl sn) (by decide) rfl rfl rfl) rfl rfl ⟨rfl, rfl, rfl⟩ (.cons (resv_tmp rfl) .nil)))
    ·refine TrL.cons_yes rfl rfl rfl (bf_dec h35) (OpTr.v (v_fieldAddr' rfl fo91_4 rfl rfl) rfl (bl rfl) ?_)
     refine TrL.cons_yes rfl rfl rfl (bf_dec h35) (OpTr.v (v_load (k := 1) rfl rfl rfl ty3 (fun _ => rfl) rfl rfl) rfl (bl rfl) ?_)
     refine TrL.cons_yes rfl rfl rfl (bf_dec h35) (OpTr.v (v_fieldAddr' rfl fo91_4 rfl rfl) rfl (bl rfl) ?_)
     refine TrL.cons_yes rfl rfl rfl (bf_dec h35) (OpTr.v (v_load (k := 0) rfl rfl rfl ty3 (fun _ => rfl) rfl rfl) rfl (bl rfl) ?_)
     refine TrL.cons_yes rfl rfl rfl (bf_dec h35) (OpTr.v (v_arith rfl rfl rfl ar_neq) rfl (bl rfl) ?_)
     refine TrL.v (v_pick_f rfl rfl (bf_dec h35) rfl) rfl rfl (bl rfl) ?_
     refine TrL.v (v_move rfl rfl) rfl rfl (bl rfl) ?_
     rcases ifc H with ⟨h36, H⟩ | ⟨h36, H⟩
     ·refine TrL.cons_no rfl rfl rfl (gn_f (bt_dec h36)) rfl (bl rfl) ?_
      refine TrL.cons_no rfl rfl rfl (gn_f (bt_dec h36)) rfl (bl rfl) ?_
      refine TrL.cons_no rfl rfl rfl (gn_f (bt_dec h36)) rfl (bl rfl) ?_
      refine TrL.cons_no rfl rfl rfl (gn_f (bt_dec h36)) rfl (bl rfl) ?_
      refine TrL.cons_no rfl rfl rfl (gn_f (bt_dec h36)) rfl (bl rfl) ?_
      refine TrL.v (v_pick_t rfl rfl (bt_dec h36) rfl) rfl rfl (bl rfl) ?_
      refine TrL.v (v_move rfl rfl) rfl rfl (bl rfl) ?_
      refine TrL.cons_no rfl rfl rfl (gn_f rfl) rfl (bl rfl) ?_
      refine TrL.cons_no rfl rfl rfl (gn_f rfl) rfl (bl rfl) ?_
      refine TrL.cons_no rfl rfl rfl (gn_f rfl) rfl (bl rfl) ?_
      refine TrL.cons_no rfl rfl rfl (gn_f rfl) rfl (bl rfl) ?_
      refine TrL.cons_no rfl rfl rfl (gn_f rfl) rfl (bl rfl) ?_
      refine TrL.v (v_pick_t rfl rfl rfl rfl) rfl rfl (bl rfl) ?_
      refine TrL.v (v_move rfl rfl) rfl rfl (bl rfl) ?_
      refine TrL.cons_no rfl rfl rfl (gn_f rfl) rfl (bl rfl) ?_
      refine TrL.cons_no rfl rfl rfl (gn_f rfl) rfl (bl rfl) ?_
      refine TrL.cons_no rfl rfl rfl (gn_f rfl) rfl (bl rfl) ?_
      refine TrL.cons_no rfl rfl rfl (gn_f rfl) rfl (bl rfl) ?_
      refine TrL.cons_no rfl rfl rfl (gn_f rfl) rfl (bl rfl) ?_
      refine TrL.v (v_pick_t rfl rfl rfl rfl) rfl rfl (bl rfl) ?_
      refine TrL.v (v_move rfl rfl) rfl rfl (bl rfl) ?_
      refine TrL.cons_no rfl rfl rfl (gn_f rfl) rfl (bl rfl) ?_
      refine TrL.cons_no rfl rfl rfl (gn_f rfl) rfl (bl rfl) ?_
      refine TrL.cons_no rfl rfl rfl (gn_f rfl) rfl (bl rfl) ?_
      refine TrL.cons_no rfl rfl rfl (gn_f rfl) rfl (bl rfl) ?_
      refine TrL.cons_no rfl rfl rfl (gn_f rfl) rfl (bl rfl) ?_
      refine TrL.cons_no rfl rfl rfl (gn_f rfl) rfl (bl rfl) ?_
      refine TrL.cons_no rfl rfl rfl (gn_f rfl) rfl (bl rfl) ?_
      refine TrL.v (v_pick_t rfl rfl rfl rfl) rfl rfl (bl rfl) ?_
      refine TrL.nil (qthen_n ?_)
      refine Tr.cond_t rfl rfl ?_
      refine Tr.seq ?_
      refine Tr.region ?_
      refine TrL.v (v_assign rfl rfl) rfl rfl (bl rfl) ?_
      refine TrL.nil (qthen_n ?_)
      have hz := Option.some.inj H
      subst hz
      refine Tr.ret (qthen_r (ret_r ⟨[(4, .bool false)], [], [], []⟩ [.bool false] [] [] (Imp.re _ [] [] (sc rfl sn) (by decide) rfl rfl rfl) rfl rfl ⟨rfl, rfl, rfl⟩ (.cons (resv_tmp rfl) .nil)))
     ·refine TrL.cons_yes rfl rfl rfl (bf_dec h36) (OpTr.v (v_fieldAddr' rfl fo91_5 rfl rfl) rfl (bl rfl) ?_)
      refine TrL.cons_yes rfl rfl rfl (bf_dec h36) (OpTr.v (v_load (k := 1) rfl rfl rfl ty3 (fun _ => rfl) rfl rfl) rfl (bl rfl) ?_)
      refine TrL.cons_yes rfl rfl rfl (bf_dec h36) (OpTr.v (v_fieldAddr' rfl fo91_5 rfl rfl) rfl (bl rfl) ?_)
      refine TrL.cons_yes rfl rfl rfl (bf_dec h36) (OpTr.v (v_load (k := 0) rfl rfl rfl ty3 (fun _ => rfl) rfl rfl) rfl (bl rfl) ?_)
      refine TrL.cons_yes rfl rfl rfl (bf_dec h36) (OpTr.v (v_arith rfl rfl rfl ar_neq) rfl (bl rfl) ?_)
      refine TrL.v (v_pick_f rfl rfl (bf_dec h36) rfl) rfl rfl (bl rfl) ?_
      refine TrL.v (v_move rfl rfl) rfl rfl (bl rfl) ?_
      rcases ifc H with ⟨h37, H⟩ | ⟨h37, H⟩
      ·refine TrL.cons_no rfl rfl rfl (gn_f (bt_dec h37)) rfl (bl rfl) ?_
       refine TrL.cons_no rfl rfl rfl (gn_f (bt_dec h37)) rfl (bl rfl) ?_
       refine TrL.cons_no rfl rfl rfl (gn_f (bt_dec h37)) rfl (bl rfl) ?_
       refine TrL.cons_no rfl rfl rfl (gn_f (bt_dec h37)) rfl (bl rfl) ?_
       refine TrL.cons_no rfl rfl rfl (gn_f (bt_dec h37)) rfl (bl rfl) ?_
       refine TrL.v (v_pick_t rfl rfl (bt_dec h37) rfl) rfl rfl (bl rfl) ?_
       refine TrL.v (v_move rfl rfl) rfl rfl (bl rfl) ?_
       refine TrL.cons_no rfl rfl rfl (gn_f rfl) rfl (bl rfl) ?_
       refine TrL.cons_no rfl rfl rfl (gn_f rfl) rfl (bl rfl) ?_
       refine TrL.cons_no rfl rfl rfl (gn_f rfl) rfl (bl rfl) ?_
       refine TrL.cons_no rfl rfl rfl (gn_f rfl) rfl (bl rfl) ?_
       refine TrL.cons_no rfl rfl rfl (gn_f rfl) rfl (bl rfl) ?_
       refine TrL.v (v_pick_t rfl rfl rfl rfl) rfl rfl (bl rfl) ?_
       refine TrL.v (v_move rfl rfl) rfl rfl (bl rfl) ?_
       refine TrL.cons_no rfl rfl rfl (gn_f rfl) rfl (bl rfl) ?_
       refine TrL.cons_no rfl rfl rfl (gn_f rfl) rfl (bl rfl) ?_
       refine TrL.cons_no rfl rfl rfl (gn_f rfl) rfl (bl rfl) ?_
       refine TrL.cons_no rfl rfl rfl (gn_f rfl) rfl (bl rfl) ?_
       refine TrL.cons_no rfl rfl rfl (gn_f rfl) rfl (bl rfl) ?_
       refine TrL.cons_no rfl rfl rfl (gn_f rfl) rfl (bl rfl) ?_
       refine TrL.cons_no rfl rfl rfl (gn_f rfl) rfl (bl rfl) ?_
       refine TrL.v (v_pick_t rfl rfl rfl rfl) rfl rfl (bl rfl) ?_
       refine TrL.nil (qthen_n ?_)
       refine Tr.cond_t rfl rfl ?_
       refine Tr.seq ?_
       refine Tr.region ?_
       refine TrL.v (v_assign rfl rfl) rfl rfl (bl rfl) ?_
       refine TrL.nil (qthen_n ?_)
       have hz := Option.some.inj H
       subst hz
       refine Tr.ret (qthen_r (ret_r ⟨[(4, .bool false)], [], [], []⟩ [.bool false] [] [] (Imp.re _ [] [] (sc rfl sn) (by decide) rfl rfl rfl) rfl rfl ⟨rfl, rfl, rfl⟩ (.cons (resv_tmp rfl) .nil)))
      ·refine TrL.cons_yes rfl rfl rfl (bf_dec h37) (OpTr.v (v_fieldAddr' rfl fo91_7 rfl rfl) rfl (bl rfl) ?_)
       refine TrL.cons_yes rfl rfl rfl (bf_dec h37) (OpTr.v (v_load (k := 1) rfl rfl rfl ty3 (fun _ => rfl) rfl rfl) rfl (bl rfl) ?_)
       refine TrL.cons_yes rfl rfl rfl (bf_dec h37) (OpTr.v (v_fieldAddr' rfl fo91_7 rfl rfl) rfl (bl rfl) ?_)
       refine TrL.cons_yes rfl rfl rfl (bf_dec h37) (OpTr.v (v_load (k := 0) rfl rfl rfl ty3 (fun _ => rfl) rfl rfl) rfl (bl rfl) ?_)
       refine TrL.cons_yes rfl rfl rfl (bf_dec h37) (OpTr.v (v_arith rfl rfl rfl ar_neq) rfl (bl rfl) ?_)
       refine TrL.v (v_pick_f rfl rfl (bf_dec h37) rfl) rfl rfl (bl rfl) ?_
       refine TrL.v (v_move rfl rfl) rfl rfl (bl rfl) ?_
       rcases ifc H with ⟨h38, H⟩ | ⟨h38, H⟩
       ·refine TrL.cons_no rfl rfl rfl (gn_f (bt_dec h38)) rfl (bl rfl) ?_
        refine TrL.cons_no rfl rfl rfl (gn_f (bt_dec h38)) rfl (bl rfl) ?_
        refine TrL.cons_no rfl rfl rfl (gn_f (bt_dec h38)) rfl (bl rfl) ?_
        refine TrL.cons_no rfl rfl rfl (gn_f (bt_dec h38)) rfl (bl rfl) ?_
        refine TrL.cons_no rfl rfl rfl (gn_f (bt_dec h38)) rfl (bl rfl) ?_
        refine TrL.v (v_pick_t rfl rfl (bt_dec h38) rfl) rfl rfl (bl rfl) ?_
        refine TrL.v (v_move rfl rfl) rfl rfl (bl rfl) ?_
        refine TrL.cons_no rfl rfl rfl (gn_f rfl) rfl (bl rfl) ?_
        refine TrL.cons_no rfl rfl rfl (gn_f rfl) rfl (bl rfl) ?_
        refine TrL.cons_no rfl rfl rfl (gn_f rfl) rfl (bl rfl) ?_
        refine TrL.cons_no rfl rfl rfl (gn_f rfl) rfl (bl rfl) ?_
        refine TrL.cons_no rfl rfl rfl (gn_f rfl) rfl (bl rfl) ?_
        refine TrL.cons_no rfl rfl rfl (gn_f rfl) rfl (bl rfl) ?_
        refine TrL.cons_no rfl rfl rfl (gn_f rfl) rfl (bl rfl) ?_
        refine TrL.v (v_pick_t rfl rfl rfl rfl) rfl rfl (bl rfl) ?_
        refine TrL.nil (qthen_n ?_)
        refine Tr.cond_t rfl rfl ?_
        refine Tr.seq ?_
        refine Tr.region ?_
        refine TrL.v (v_assign rfl rfl) rfl rfl (bl rfl) ?_
        refine TrL.nil (qthen_n ?_)
        have hz := Option.some.inj H
        subst hz
        refine Tr.ret (qthen_r (ret_r ⟨[(4, .bool false)], [], [], []⟩ [.bool false] [] [] (Imp.re _ [] [] (sc rfl sn) (by decide) rfl rfl rfl) rfl rfl ⟨rfl, rfl, rfl⟩ (.cons (resv_tmp rfl) .nil)))
       ·refine TrL.cons_yes rfl rfl rfl (bf_dec h38) (OpTr.v (v_fieldAddr' rfl fo91_8 rfl rfl) rfl (bl rfl) ?_)
        refine TrL.cons_yes rfl rfl rfl (bf_dec h38) (OpTr.v (v_load (k := 1) rfl rfl rfl ty3 (fun _ => rfl) rfl rfl) rfl (bl rfl) ?_)
        refine TrL.cons_yes rfl rfl rfl (bf_dec h38) (OpTr.v (v_fieldAddr' rfl fo91_8 rfl rfl) rfl (bl rfl) ?_)
        refine TrL.cons_yes rfl rfl rfl (bf_dec h38) (OpTr.v (v_load (k := 0) rfl rfl rfl ty3 (fun _ => rfl) rfl rfl) rfl (bl rfl) ?_)
        refine TrL.cons_yes rfl rfl rfl (bf_dec h38) (OpTr.v (v_arith rfl rfl rfl ar_neq) rfl (bl rfl) ?_)
        refine TrL.v (v_pick_f rfl rfl (bf_dec h38) rfl) rfl rfl (bl rfl) ?_
        refine TrL.v (v_move rfl rfl) rfl rfl (bl rfl) ?_
        rcases ifc H with ⟨h39, H⟩ | ⟨h39, H⟩
        ·refine TrL.cons_no rfl rfl rfl (gn_f (bt_dec h39)) rfl (bl rfl) ?_
         refine TrL.cons_no rfl rfl rfl (gn_f (bt_dec h39)) rfl (bl rfl) ?_
         refine TrL.cons_no rfl rfl rfl (gn_f (bt_dec h39)) rfl (bl rfl) ?_
         refine TrL.cons_no rfl rfl rfl (gn_f (bt_dec h39)) rfl (bl rfl) ?_
         refine TrL.cons_no rfl rfl rfl (gn_f (bt_dec h39)) rfl (bl rfl) ?_
         refine TrL.cons_no rfl rfl rfl (gn_f (bt_dec h39)) rfl (bl rfl) ?_
         refine TrL.cons_no rfl rfl rfl (gn_f (bt_dec h39)) rfl (bl rfl) ?_
         refine TrL.v (v_pick_t rfl rfl (bt_dec h39) rfl) rfl rfl (bl rfl) ?_
         refine TrL.nil (qthen_n ?_)
         refine Tr.cond_t rfl rfl ?_
         refine Tr.seq ?_
         refine Tr.region ?_
         refine TrL.v (v_assign rfl rfl) rfl rfl (bl rfl) ?_
         refine TrL.nil (qthen_n ?_)
         have hz := Option.some.inj H
         subst hz
         refine Tr.ret (qthen_r (ret_r ⟨[(4, .bool false)], [], [], []⟩ [.bool false] [] [] (Imp.re _ [] [] (sc rfl sn) (by decide) rfl rfl rfl) rfl rfl ⟨rfl, rfl, rfl⟩ (.cons (resv_tmp rfl) .nil)))
        ·refine TrL.cons_yes rfl rfl rfl (bf_dec h39) (OpTr.v (v_fieldAddr' rfl fo91_6 rfl rfl) rfl (bl rfl) ?_)
         refine TrL.cons_yes rfl rfl rfl (bf_dec h39) (OpTr.v (v_load (k := 1) rfl rfl rfl ty89 (fun _ => rfl) rfl rfl) rfl (bl rfl) ?_)
         refine TrL.cons_yes rfl rfl rfl (bf_dec h39) (OpTr.v (v_len rfl sl89 rfl) rfl (bl rfl) ?_)
         refine TrL.cons_yes rfl rfl rfl (bf_dec h39) (OpTr.v (v_fieldAddr' rfl fo91_6 rfl rfl) rfl (bl rfl) ?_)
         refine TrL.cons_yes rfl rfl rfl (bf_dec h39) (OpTr.v (v_load (k := 0) rfl rfl rfl ty89 (fun _ => rfl) rfl rfl) rfl (bl rfl) ?_)
         refine TrL.cons_yes rfl rfl rfl (bf_dec h39) (OpTr.v (v_len rfl sl89 rfl) rfl (bl rfl) ?_)
         refine TrL.cons_yes rfl rfl rfl (bf_dec h39) (OpTr.v (v_arith rfl rfl rfl ar_neq) rfl (bl rfl) ?_)
         refine TrL.v (v_pick_f rfl rfl (bf_dec h39) rfl) rfl rfl (bl rfl) ?_
         refine TrL.nil (qthen_n ?_)
         rcases ifc H with ⟨h40, H⟩ | ⟨h40, H⟩
         ·refine Tr.cond_t rfl (bt_dec h40) ?_
          refine Tr.seq ?_
          refine Tr.region ?_
          refine TrL.v (v_assign rfl rfl) rfl rfl (bl rfl) ?_
          refine TrL.nil (qthen_n ?_)
          have hz := Option.some.inj H
          subst hz
          refine Tr.ret (qthen_r (ret_r ⟨[(4, .bool false)], [], [], []⟩ [.bool false] [] [] (Imp.re _ [] [] (sc rfl sn) (by decide) rfl rfl rfl) rfl rfl ⟨rfl, rfl, rfl⟩ (.cons (resv_tmp rfl) .nil)))
         ·refine Tr.cond_f rfl (bf_dec h40) ?_
          refine Tr.skip (qthen_n ?_)
          refine Tr.seq ?_
          refine Tr.seq ?_
          refine Tr.region ?_
          refine TrL.v (v_assign rfl rfl) rfl rfl (bl rfl) ?_
          refine TrL.nil (qthen_n ?_)
          obtain ⟨x2, hx3, H⟩ := bnd H
          refine Tr.cutE (D := Unit) (M := Unit) .ret (fun d3 => x2 = .inl d3) (fun d3 m9 => ⟨[(4, .bool false)], [], [], []⟩) ?_ (fun d3 m9 hd3 => ?_)
          ·refine Tr.cutE (D := Unit) (M := Unit) .normal (fun d4 => x2 = .inr d4) (fun d4 m10 => ⟨[], [], [], []⟩) ?_ (fun d4 m10 hd4 => ?_)
           ·refine Tr.block (Tr.loopI (ι := Unit) (step := ref21_Same_s0 p1 p2) (fun s5 m7 => ⟨[(2, .pointer (some ⟨b3, 0, none⟩)), (3, .pointer (some ⟨b4, 0, none⟩)), (5, .int .i64 s5)], [cells b3 [.int .i64 p1.1, .int .i64 p1.2.1, .int .u64 p1.2.2.1, .int .u64 p1.2.2.2.1, .int .i64 p1.2.2.2.2.1, .int .i64 p1.2.2.2.2.2.1, .slice A1 p1.2.2.2.2.2.2.1.length c1, .int .i64 p1.2.2.2.2.2.2.2.1, .int .i64 p1.2.2.2.2.2.2.2.2] 91, cells b4 [.int .i64 p2.1, .int .i64 p2.2.1, .int .u64 p2.2.2.1, .int .u64 p2.2.2.2.1, .int .i64 p2.2.2.2.2.1, .int .i64 p2.2.2.2.2.2.1, .slice A2 p2.2.2.2.2.2.2.1.length c2, .int .i64 p2.2.2.2.2.2.2.2.1, .int .i64 p2.2.2.2.2.2.2.2.2] 91], [slF rp_u64_u64 A1 c1 p1.2.2.2.2.2.2.1, slF rp_u64_u64 A2 c2 p2.2.2.2.2.2.2.1], []⟩) (()) hx3 (Imp.re _ [1, 0] [0, 1] (sc rfl (sc rfl (sc rfl sn))) (by decide) rfl rfl rfl) (fun s5 m7 y2 hy2 hx4 => ?_))
            unfold ref21_Same_s0 at hy2
            refine Tr.seq ?_
            refine Tr.seq ?_
            refine Tr.region ?_
            refine TrL.v (v_move rfl rfl) rfl rfl (bl rfl) ?_
            refine TrL.v (v_fieldAddr' rfl fo91_6 rfl rfl) rfl rfl (bl rfl) ?_
            refine TrL.v (v_load (k := 0) rfl rfl rfl ty89 (fun _ => rfl) rfl rfl) rfl rfl (bl rfl) ?_
            refine TrL.v (v_len rfl sl89 rfl) rfl rfl (bl rfl) ?_
            refine TrL.v (v_arith rfl rfl rfl ar_lss) rfl rfl (bl rfl) ?_
            refine TrL.nil (qthen_n ?_)
            rcases ifc hy2 with ⟨h45, hy2⟩ | ⟨h45, hy2⟩
            ·refine Tr.cond_t rfl (bt_dec h45) ?_
             refine Tr.skip (qthen_n ?_)
             refine Tr.seq ?_
             refine Tr.block ?_
             refine Tr.seq ?_
             refine Tr.regionD drawn (fun hok => ?_)
             refine TrAny.prom (i := 0) (d := 76) hok (OpVal.plain rfl rfl (v_fieldAddr' rfl fo91_6 rfl rfl)) (by kernel_rfl) rfl (bl rfl) ?_
             clear hok
             intro hok
             refine TrAny.prom (i := 1) (d := 77) hok (OpVal.plain rfl rfl (v_load (k := 0) rfl rfl rfl ty89 (fun _ => rfl) rfl rfl)) (by kernel_rfl) rfl (bl rfl) ?_
             clear hok
             intro hok
             refine TrAny.prom (i := 2) (d := 78) hok (OpVal.plain rfl rfl (v_move rfl rfl)) (by kernel_rfl) rfl (bl rfl) ?_
             clear hok
             intro hok
             obtain ⟨z23, hz23, hy2⟩ := bnd hy2
             refine TrAny.prom (i := 3) (d := 79) hok (OpVal.plain rfl rfl (v_indexAddr (k := 0) rfl sl89 ty184 rfl rfl rfl rfl hz23)) (by kernel_rfl) rfl (bl rfl) ?_
             clear hok
             intro hok
             refine TrAny.prom (i := 4) (d := 80) hok (OpVal.plain rfl rfl (v_loadg (A := A1) (i := s5) (j := 0) (k := 0) rfl ty184 nofun rfl rfl hz23 rfl rfl)) (by kernel_rfl) rfl (bl rfl) ?_
             clear hok
             intro hok
             refine TrAny.prom (i := 5) (d := 81) hok (OpVal.plain rfl rfl (v_fieldAddr' rfl fo91_6 rfl rfl)) (by kernel_rfl) rfl (bl rfl) ?_
             clear hok
             intro hok
             refine TrAny.prom (i := 6) (d := 82) hok (OpVal.plain rfl rfl (v_load (k := 1) rfl rfl rfl ty89 (fun _ => rfl) rfl rfl)) (by kernel_rfl) rfl (bl rfl) ?_
             clear hok
             intro hok
             refine TrAny.prom (i := 7) (d := 83) hok (OpVal.plain rfl rfl (v_move rfl rfl)) (by kernel_rfl) rfl (bl rfl) ?_
             clear hok
             intro hok
             obtain ⟨z24, hz24, hy2⟩ := bnd hy2
             refine TrAny.prom (i := 8) (d := 84) hok (OpVal.plain rfl rfl (v_indexAddr (k := 1) rfl sl89 ty184 rfl rfl rfl rfl hz24)) (by kernel_rfl) rfl (bl rfl) ?_
             clear hok
             intro hok
             refine TrAny.prom (i := 9) (d := 85) hok (OpVal.plain rfl rfl (v_loadg (A := A2) (i := s5) (j := 0) (k := 1) rfl ty184 nofun rfl rfl hz24 rfl rfl)) (by kernel_rfl) rfl (bl rfl) ?_
             clear hok
             intro hok
             refine TrAny.prom (i := 10) (d := 86) hok (OpVal.plain rfl rfl (v_nes rfl if184 eg184 rfl rfl (eqc_cons rfl rfl (eqc_cons rfl rfl eqc_nil)))) (by kernel_rfl) rfl (bl rfl) ?_
             clear hok
             intro hok
             refine TrAny.done (by kernel_rfl) (by kernel_rfl) hok (by kernel_rfl) (qthen_n ?_)
             rcases ifc hy2 with ⟨h46, hy2⟩ | ⟨h46, hy2⟩
             ·refine Tr.cond_t rfl (bt_dec h46) ?_
              refine Tr.seq ?_
              refine Tr.region ?_
              refine TrL.v (v_assign rfl rfl) rfl rfl (bl rfl) ?_
              refine TrL.nil (qthen_n ?_)
              have hz := Option.some.inj hy2
              subst hz
              refine Tr.ret (qblock_r (qthen_r (qloop_r (qblock_r (qcut_miss (by simp) (qcut_hit (()) (()) (hx4 _ rfl).symm (Imp.re _ [] [] (sc rfl sn) (by decide) rfl rfl rfl)))))))
             ·refine Tr.cond_f rfl (bf_dec h46) ?_
              refine Tr.skip (qblock_n (qthen_n ?_))
              refine Tr.region ?_
              refine TrL.v (v_move rfl rfl) rfl rfl (bl rfl) ?_
              refine TrL.v (v_arith rfl rfl rfl ar_add_i64) rfl rfl (bl rfl) ?_
              refine TrL.v (v_assign rfl rfl) rfl rfl (bl rfl) ?_
              have hz := Option.some.inj hy2
              subst hz
              refine TrL.nil (qloop_n (()) (Imp.re _ [0, 1] [0, 1] (sc rfl (sc rfl (sc rfl sn))) (by decide) rfl rfl rfl))
            ·refine Tr.cond_f rfl (bf_dec h45) ?_
             have hz := Option.some.inj hy2
             subst hz
             refine Tr.exit (qthen_x (qloop_x (qblock_hit (qcut_hit (()) (()) (hx4 _ rfl).symm (Imp.re _ [] [] sn (by decide) rfl rfl rfl)))))
           ·subst hd4
            replace H := sumr H
            refine (qcut_miss (by simp) (qthen_n ?_))
            refine Tr.seq ?_
            refine Tr.region ?_
            refine TrL.v (v_assign rfl rfl) rfl rfl (bl rfl) ?_
            refine TrL.nil (qthen_n ?_)
            have hz := Option.some.inj H
            subst hz
            refine Tr.ret (ret_r ⟨[(4, .bool true)], [], [], []⟩ [.bool true] [] [] (Imp.re _ [] [] (sc rfl sn) (by decide) rfl rfl rfl) rfl rfl ⟨rfl, rfl, rfl⟩ (.cons (resv_tmp rfl) .nil))
          ·subst hd3
           replace H := suml H
           have hz := Option.some.inj H
           subst hz
           refine (qthen_r (ret_r ⟨[(4, .bool false)], [], [], []⟩ [.bool false] [] [] (Imp.re _ [] [] (sc rfl sn) (by decide) rfl rfl rfl) rfl rfl ⟨rfl, rfl, rfl⟩ (.cons (resv_tmp rfl) .nil)))

theorem c_ref21_Tame (p1 : Int) (p2 : Int × Int × Int × Int × Int × Int × (List (Int × Int)) × Int × Int) (A1 : Option Addr) (c1 : Nat) (r : Int × Int × Int × Int × (List (Int × Int)) × Int × Int) (H : ref21_Tame p1 p2 = some r) :
  Ctr Try.prog 54 [.int .i64 p1, .agg #[.int .i64 p2.1, .int .i64 p2.2.1, .int .u64 p2.2.2.1, .int .u64 p2.2.2.2.1, .int .i64 p2.2.2.2.2.1, .int .i64 p2.2.2.2.2.2.1, .slice A1 p2.2.2.2.2.2.2.1.length c1, .int .i64 p2.2.2.2.2.2.2.2.1, .int .i64 p2.2.2.2.2.2.2.2.2]] [] [slF rp_u64_u64 A1 c1 p2.2.2.2.2.2.2.1] (fun ret M' F' => ∃ m : Option Addr × Nat, ret = .agg #[.int .i64 r.1, .int .i64 r.2.1, .int .u64 r.2.2.1, .int .u64 (p2.2.2.2.1.tmod 100), .int .i64 (wi64 (1 + ((max p2.2.2.2.2.1 0).tmod 7))), .int .i64 r.2.2.2.1, .slice m.1 r.2.2.2.2.1.length m.2, .int .i64 r.2.2.2.2.2.1, .int .i64 r.2.2.2.2.2.2] ∧ M' = [] ∧ F' = [slF rp_u64_u64 m.1 m.2 r.2.2.2.2.1]) := by
 unfold ref21_Tame at H
 refine ctr_ofI (N := 29) Try.func54 rfl Try.ntmps54 rfl (Nat.le_of_ble_eq_true rfl) (fun γ0 w0 => ?_)
 refine Tr.seq ?_
 refine Tr.region ?_
 refine TrL.cons rfl (op_box' rfl (bl rfl) rfl rfl rfl (fun b4 => ?_))
 refine TrL.cons rfl (op_alloc' rfl (bl rfl) rfl ze91 (fun b5 => ?_))
 refine TrL.nil (qthen_n ?_)
 refine Tr.seq ?_
 refine Tr.seq ?_
 refine Tr.region ?_
 refine TrL.v (v_move rfl rfl) rfl rfl (bl rfl) ?_
 refine TrL.v (v_max rfl rfl rfl) rfl rfl (bl rfl) ?_
 refine TrL.v (v_rem rfl rfl rfl (by decide)) rfl rfl (bl rfl) ?_
 refine TrL.v (v_arith rfl rfl rfl ar_add_i64) rfl rfl (bl rfl) ?_
 refine TrL.nil (qthen_n ?_)
 refine Tr.block ?_
 refine Tr.seq ?_
 refine Tr.region ?_
 refine TrL.v (v_arith rfl rfl rfl ar_eql) rfl rfl (bl rfl) ?_
 refine TrL.v (v_assign rfl rfl) rfl rfl (bl rfl) ?_
 refine TrL.nil (qthen_n ?_)
 rcases ifc H with ⟨h3, H⟩ | ⟨h3, H⟩
 ·refine Tr.cond_t rfl (bt_dec h3) ?_
  refine Tr.seq ?_
  refine Tr.region ?_
  refine TrL.v (v_load (k := 1) rfl rfl rfl ty91 nofun rfl rfl) rfl rfl (bl rfl) ?_
  obtain ⟨r4, hr4, H⟩ := bnd H
  refine TrL.cons rfl (op_call0' (vs := [.agg #[.int .i64 p2.1, .int .i64 p2.2.1, .int .u64 p2.2.2.1, .int .u64 p2.2.2.2.1, .int .i64 p2.2.2.2.2.1, .int .i64 p2.2.2.2.2.2.1, .slice A1 p2.2.2.2.2.2.2.1.length c1, .int .i64 p2.2.2.2.2.2.2.2.1, .int .i64 p2.2.2.2.2.2.2.2.2]]) (cap := []) [0] rfl rfl (bl rfl) rfl rfl en112 (c_ref16_Tame p2 A1 c1 r4 hr4) rfl (fun ret M' F' hR4 => ?_))
  obtain ⟨m4, rfl, rfl, rfl⟩ := hR4
  refine TrL.cons rfl (op_alloc' rfl (bl rfl) rfl ze91 (fun b6 => ?_))
  refine TrL.cons rfl (op_store' (k := 0) (c' := [.int .i64 2, .int .i64 ((wi64 (2 + ((max ((p2.2.1, p2.2.2.2.2.2.1, p2.2.2.2.2.2.2.1)).1 0).tmod 10)))), .int .u64 (wu64 (1 + (p2.2.2.1.tmod 1000))), .int .u64 (p2.2.2.2.1.tmod 100), .int .i64 (wi64 (1 + ((max p2.2.2.2.2.1 0).tmod 7))), .int .i64 ((wi64 (1 + ((max ((p2.2.1, p2.2.2.2.2.2.1, p2.2.2.2.2.2.2.1)).2.1 0).tmod 7)))), .slice m4.1 r4.length m4.2, .int .i64 0, .int .i64 0]) rfl rfl rfl rfl rfl ty91 rfl (Nat.le_of_ble_eq_true rfl) (ones (oc rfl (oc rfl (oc rfl (oc rfl (oc rfl (oc rfl (oc rfl (oc rfl (oc rfl on)))))))))) rfl ?_)
  refine TrL.nil (qthen_n ?_)
  refine Tr.seq ?_
  refine Tr.region ?_
  refine TrL.v (v_fieldAddr' rfl fo91_1 rfl rfl) rfl rfl (bl rfl) ?_
  refine TrL.v (v_load (k := 0) rfl rfl rfl ty3 (fun _ => rfl) rfl rfl) rfl rfl (bl rfl) ?_
  refine TrL.v (v_fieldAddr' rfl fo91_2 rfl rfl) rfl rfl (bl rfl) ?_
  refine TrL.v (v_load (k := 0) rfl rfl rfl ty28 (fun _ => rfl) rfl rfl) rfl rfl (bl rfl) ?_
  refine TrL.v (v_fieldAddr' rfl fo91_3 rfl rfl) rfl rfl (bl rfl) ?_
  refine TrL.v (v_load (k := 0) rfl rfl rfl ty28 (fun _ => rfl) rfl rfl) rfl rfl (bl rfl) ?_
  refine TrL.v (v_fieldAddr' rfl fo91_4 rfl rfl) rfl rfl (bl rfl) ?_
  refine TrL.v (v_load (k := 0) rfl rfl rfl ty3 (fun _ => rfl) rfl rfl) rfl rfl (bl rfl) ?_
  refine TrL.v (v_build (vs := [.int .i64 1, .int .i64 ((wi64 (2 + ((max ((p2.2.1, p2.2.2.2.2.2.1, p2.2.2.2.2.2.2.1)).1 0).tmod 10)))), .int .u64 (wu64 (1 + (p2.2.2.1.tmod 1000))), .int .u64 (p2.2.2.2.1.tmod 100), .int .i64 (wi64 (1 + ((max p2.2.2.2.2.1 0).tmod 7)))]) (out := [.int .i64 1, .int .i64 ((wi64 (2 + ((max ((p2.2.1, p2.2.2.2.2.2.1, p2.2.2.2.2.2.2.1)).1 0).tmod 10)))), .int .u64 (wu64 (1 + (p2.2.2.1.tmod 1000))), .int .u64 (p2.2.2.2.1.tmod 100), .int .i64 (wi64 (1 + ((max p2.2.2.2.2.1 0).tmod 7))), .int .i64 0, .slice none 0 0, .int .i64 0, .int .i64 0]) rfl pl91 ze91 rfl rfl) rfl rfl (bl rfl) ?_
  refine TrL.cons rfl (op_store' (k := 1) (c' := [.int .i64 1, .int .i64 ((wi64 (2 + ((max ((p2.2.1, p2.2.2.2.2.2.1, p2.2.2.2.2.2.2.1)).1 0).tmod 10)))), .int .u64 (wu64 (1 + (p2.2.2.1.tmod 1000))), .int .u64 (p2.2.2.2.1.tmod 100), .int .i64 (wi64 (1 + ((max p2.2.2.2.2.1 0).tmod 7))), .int .i64 0, .slice none 0 0, .int .i64 0, .int .i64 0]) rfl rfl rfl rfl rfl ty91 rfl (Nat.le_of_ble_eq_true rfl) (ones (oc rfl (oc rfl (oc rfl (oc rfl (oc rfl (oc rfl (oc rfl (oc rfl (oc rfl on)))))))))) rfl ?_)
  refine TrL.nil (qthen_n ?_)
  have hz := Option.some.inj H
  subst hz
  refine Tr.ret (qblock_r (qthen_r (ret_r ⟨[(4, .pointer (some ⟨b5, 0, none⟩))], [cells b5 [.int .i64 1, .int .i64 ((wi64 (2 + ((max ((p2.2.1, p2.2.2.2.2.2.1, p2.2.2.2.2.2.2.1)).1 0).tmod 10)))), .int .u64 (wu64 (1 + (p2.2.2.1.tmod 1000))), .int .u64 (p2.2.2.2.1.tmod 100), .int .i64 (wi64 (1 + ((max p2.2.2.2.2.1 0).tmod 7))), .int .i64 0, .slice none 0 0, .int .i64 0, .int .i64 0] 91], [slF rp_u64_u64 none 0 (([] : List (Int × Int)))], []⟩ [.agg #[.int .i64 1, .int .i64 ((wi64 (2 + ((max ((p2.2.1, p2.2.2.2.2.2.1, p2.2.2.2.2.2.2.1)).1 0).tmod 10)))), .int .u64 (wu64 (1 + (p2.2.2.1.tmod 1000))), .int .u64 (p2.2.2.2.1.tmod 100), .int .i64 (wi64 (1 + ((max p2.2.2.2.2.1 0).tmod 7))), .int .i64 0, .slice none 0 0, .int .i64 0, .int .i64 0]] [] [cells b5 [.int .i64 1, .int .i64 ((wi64 (2 + ((max ((p2.2.1, p2.2.2.2.2.2.1, p2.2.2.2.2.2.2.1)).1 0).tmod 10)))), .int .u64 (wu64 (1 + (p2.2.2.1.tmod 1000))), .int .u64 (p2.2.2.2.1.tmod 100), .int .i64 (wi64 (1 + ((max p2.2.2.2.2.1 0).tmod 7))), .int .i64 0, .slice none 0 0, .int .i64 0, .int .i64 0] 91] (Imp.addF' _ (nilF rp_u64_u64) (Imp.re _ [1] [2] (sc rfl sn) (by decide) rfl rfl rfl)) rfl rfl ⟨((none, 0)), rfl, rfl, rfl⟩ (.cons (resv_cell (k := 0) rfl rfl ty91 nofun rfl rfl) .nil))))
 ·refine Tr.cond_f rfl (bf_dec h3) ?_
  refine Tr.seq ?_
  refine Tr.region ?_
  refine TrL.v (v_arith rfl rfl rfl ar_eql) rfl rfl (bl rfl) ?_
  refine TrL.v (v_assign rfl rfl) rfl rfl (bl rfl) ?_
  refine TrL.nil (qthen_n ?_)
  rcases ifc H with ⟨h4, H⟩ | ⟨h4, H⟩
  ·refine Tr.cond_t rfl (bt_dec h4) ?_
   refine Tr.seq ?_
   refine Tr.region ?_
   refine TrL.v (v_load (k := 1) rfl rfl rfl ty91 nofun rfl rfl) rfl rfl (bl rfl) ?_
   obtain ⟨r5, hr5, H⟩ := bnd H
   refine TrL.cons rfl (op_call0' (vs := [.agg #[.int .i64 p2.1, .int .i64 p2.2.1, .int .u64 p2.2.2.1, .int .u64 p2.2.2.2.1, .int .i64 p2.2.2.2.2.1, .int .i64 p2.2.2.2.2.2.1, .slice A1 p2.2.2.2.2.2.2.1.length c1, .int .i64 p2.2.2.2.2.2.2.2.1, .int .i64 p2.2.2.2.2.2.2.2.2]]) (cap := []) [0] rfl rfl (bl rfl) rfl rfl en112 (c_ref16_Tame p2 A1 c1 r5 hr5) rfl (fun ret M' F' hR5 => ?_))
   obtain ⟨m5, rfl, rfl, rfl⟩ := hR5
   refine TrL.cons rfl (op_store' (k := 0) (c' := [.int .i64 2, .int .i64 ((wi64 (2 + ((max ((p2.2.1, p2.2.2.2.2.2.1, p2.2.2.2.2.2.2.1)).1 0).tmod 10)))), .int .u64 (wu64 (1 + (p2.2.2.1.tmod 1000))), .int .u64 (p2.2.2.2.1.tmod 100), .int .i64 (wi64 (1 + ((max p2.2.2.2.2.1 0).tmod 7))), .int .i64 ((wi64 (1 + ((max ((p2.2.1, p2.2.2.2.2.2.1, p2.2.2.2.2.2.2.1)).2.1 0).tmod 7)))), .slice m5.1 r5.length m5.2, .int .i64 0, .int .i64 0]) rfl rfl rfl rfl rfl ty91 rfl (Nat.le_of_ble_eq_true rfl) (ones (oc rfl (oc rfl (oc rfl (oc rfl (oc rfl (oc rfl (oc rfl (oc rfl (oc rfl on)))))))))) rfl ?_)
   refine TrL.nil (qthen_n ?_)
   have hz := Option.some.inj H
   subst hz
   refine Tr.ret (qblock_r (qthen_r (ret_r ⟨[(4, .pointer (some ⟨b5, 0, none⟩))], [cells b5 [.int .i64 2, .int .i64 ((wi64 (2 + ((max ((p2.2.1, p2.2.2.2.2.2.1, p2.2.2.2.2.2.2.1)).1 0).tmod 10)))), .int .u64 (wu64 (1 + (p2.2.2.1.tmod 1000))), .int .u64 (p2.2.2.2.1.tmod 100), .int .i64 (wi64 (1 + ((max p2.2.2.2.2.1 0).tmod 7))), .int .i64 ((wi64 (1 + ((max ((p2.2.1, p2.2.2.2.2.2.1, p2.2.2.2.2.2.2.1)).2.1 0).tmod 7)))), .slice m5.1 r5.length m5.2, .int .i64 0, .int .i64 0] 91], [slF rp_u64_u64 m5.1 m5.2 r5], []⟩ [.agg #[.int .i64 2, .int .i64 ((wi64 (2 + ((max ((p2.2.1, p2.2.2.2.2.2.1, p2.2.2.2.2.2.2.1)).1 0).tmod 10)))), .int .u64 (wu64 (1 + (p2.2.2.1.tmod 1000))), .int .u64 (p2.2.2.2.1.tmod 100), .int .i64 (wi64 (1 + ((max p2.2.2.2.2.1 0).tmod 7))), .int .i64 ((wi64 (1 + ((max ((p2.2.1, p2.2.2.2.2.2.1, p2.2.2.2.2.2.2.1)).2.1 0).tmod 7)))), .slice m5.1 r5.length m5.2, .int .i64 0, .int .i64 0]] [] [cells b5 [.int .i64 2, .int .i64 ((wi64 (2 + ((max ((p2.2.1, p2.2.2.2.2.2.1, p2.2.2.2.2.2.2.1)).1 0).tmod 10)))), .int .u64 (wu64 (1 + (p2.2.2.1.tmod 1000))), .int .u64 (p2.2.2.2.1.tmod 100), .int .i64 (wi64 (1 + ((max p2.2.2.2.2.1 0).tmod 7))), .int .i64 ((wi64 (1 + ((max ((p2.2.1, p2.2.2.2.2.2.1, p2.2.2.2.2.2.2.1)).2.1 0).tmod 7)))), .slice m5.1 r5.length m5.2, .int .i64 0, .int .i64 0] 91] (Imp.re _ [0] [1] (sc rfl sn) (by decide) rfl rfl rfl) rfl rfl ⟨((m5.1, m5.2)), rfl, rfl, rfl⟩ (.cons (resv_cell (k := 0) rfl rfl ty91 nofun rfl rfl) .nil))))
  ·refine Tr.cond_f rfl (bf_dec h4) ?_
   refine Tr.skip (qblock_n (qthen_n ?_))
   refine Tr.seq ?_
   refine Tr.region ?_
   refine TrL.v (v_load (k := 1) rfl rfl rfl ty91 nofun rfl rfl) rfl rfl (bl rfl) ?_
   obtain ⟨r6, hr6, H⟩ := bnd H
   refine TrL.cons rfl (op_call0' (vs := [.agg #[.int .i64 p2.1, .int .i64 p2.2.1, .int .u64 p2.2.2.1, .int .u64 p2.2.2.2.1, .int .i64 p2.2.2.2.2.1, .int .i64 p2.2.2.2.2.2.1, .slice A1 p2.2.2.2.2.2.2.1.length c1, .int .i64 p2.2.2.2.2.2.2.2.1, .int .i64 p2.2.2.2.2.2.2.2.2]]) (cap := []) [0] rfl rfl (bl rfl) rfl rfl en113 (c_ref20_Tame p2 A1 c1 r6 hr6) rfl (fun ret M' F' hR6 => ?_))
   obtain ⟨rfl, rfl, rfl⟩ := hR6
   refine TrL.cons rfl (op_store' (k := 0) (c' := [.int .i64 3, .int .i64 0, .int .u64 (wu64 ((wu64 (wi64 (1 + ((max p2.2.2.2.2.2.2.2.2 0).tmod 6)))) * (wu64 (1 + (p2.2.2.1.tmod 40))))), .int .u64 (p2.2.2.2.1.tmod 100), .int .i64 (wi64 (1 + ((max p2.2.2.2.2.1 0).tmod 7))), .int .i64 0, .slice none 0 0, .int .i64 (wi64 (1 + ((max p2.2.2.2.2.2.2.2.1 0).tmod 8))), .int .i64 (wi64 (1 + ((max p2.2.2.2.2.2.2.2.2 0).tmod 6)))]) rfl rfl rfl rfl rfl ty91 rfl (Nat.le_of_ble_eq_true rfl) (ones (oc rfl (oc rfl (oc rfl (oc rfl (oc rfl (oc rfl (oc rfl (oc rfl (oc rfl on)))))))))) rfl ?_)
   refine TrL.nil (qthen_n ?_)
   have hz := Option.some.inj H
   subst hz
   refine Tr.ret (ret_r ⟨[(4, .pointer (some ⟨b5, 0, none⟩))], [cells b5 [.int .i64 3, .int .i64 0, .int .u64 (wu64 ((wu64 (wi64 (1 + ((max p2.2.2.2.2.2.2.2.2 0).tmod 6)))) * (wu64 (1 + (p2.2.2.1.tmod 40))))), .int .u64 (p2.2.2.2.1.tmod 100), .int .i64 (wi64 (1 + ((max p2.2.2.2.2.1 0).tmod 7))), .int .i64 0, .slice none 0 0, .int .i64 (wi64 (1 + ((max p2.2.2.2.2.2.2.2.1 0).tmod 8))), .int .i64 (wi64 (1 + ((max p2.2.2.2.2.2.2.2.2 0).tmod 6)))] 91], [slF rp_u64_u64 none 0 (([] : List (Int × Int)))], []⟩ [.agg #[.int .i64 3, .int .i64 0, .int .u64 (wu64 ((wu64 (wi64 (1 + ((max p2.2.2.2.2.2.2.2.2 0).tmod 6)))) * (wu64 (1 + (p2.2.2.1.tmod 40))))), .int .u64 (p2.2.2.2.1.tmod 100), .int .i64 (wi64 (1 + ((max p2.2.2.2.2.1 0).tmod 7))), .int .i64 0, .slice none 0 0, .int .i64 (wi64 (1 + ((max p2.2.2.2.2.2.2.2.1 0).tmod 8))), .int .i64 (wi64 (1 + ((max p2.2.2.2.2.2.2.2.2 0).tmod 6)))]] [] [cells b5 [.int .i64 3, .int .i64 0, .int .u64 (wu64 ((wu64 (wi64 (1 + ((max p2.2.2.2.2.2.2.2.2 0).tmod 6)))) * (wu64 (1 + (p2.2.2.1.tmod 40))))), .int .u64 (p2.2.2.2.1.tmod 100), .int .i64 (wi64 (1 + ((max p2.2.2.2.2.1 0).tmod 7))), .int .i64 0, .slice none 0 0, .int .i64 (wi64 (1 + ((max p2.2.2.2.2.2.2.2.1 0).tmod 8))), .int .i64 (wi64 (1 + ((max p2.2.2.2.2.2.2.2.2 0).tmod 6)))] 91] (Imp.re _ [0] [1] (sc rfl sn) (by decide) rfl rfl rfl) rfl rfl ⟨((none, 0)), rfl, rfl, rfl⟩ (.cons (resv_cell (k := 0) rfl rfl ty91 nofun rfl rfl) .nil))
end Go.Proofs.Ytbeknohemgjfbaa.W
