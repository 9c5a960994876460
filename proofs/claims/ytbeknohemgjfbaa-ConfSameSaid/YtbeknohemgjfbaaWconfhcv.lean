import Derived.Test.YtbeknohemgjfbaaKcv
import Derived.Test.YtbeknohemgjfbaaQcv
import Derived.Test.YtbeknohemgjfbaaWsliceshcv
namespace Go.Proofs.Ytbeknohemgjfbaa.W
open Go Go.Proofs Go.Proofs.Ytbeknohemgjfbaa.L Go.Proofs.Ytbeknohemgjfbaa.Pu
set_option linter.unusedVariables false
set_option maxHeartbeats 4000000

theorem c_conf_Same (p1 : Int × Int × Int × Int × Int × Int × (List (Int × Int)) × Int × Int) (p2 : Int × Int × Int × Int × Int × Int × (List (Int × Int)) × Int × Int) (A1 : Option Addr) (c1 : Nat) (A2 : Option Addr) (c2 : Nat) (r : Bool) (H : conf_Same p1 p2 = some r) :
  Ctr Try.prog 55 [.agg #[.int .i64 p1.1, .int .i64 p1.2.1, .int .u64 p1.2.2.1, .int .u64 p1.2.2.2.1, .int .i64 p1.2.2.2.2.1, .int .i64 p1.2.2.2.2.2.1, .slice A1 p1.2.2.2.2.2.2.1.length c1, .int .i64 p1.2.2.2.2.2.2.2.1, .int .i64 p1.2.2.2.2.2.2.2.2], .agg #[.int .i64 p2.1, .int .i64 p2.2.1, .int .u64 p2.2.2.1, .int .u64 p2.2.2.2.1, .int .i64 p2.2.2.2.2.1, .int .i64 p2.2.2.2.2.2.1, .slice A2 p2.2.2.2.2.2.2.1.length c2, .int .i64 p2.2.2.2.2.2.2.2.1, .int .i64 p2.2.2.2.2.2.2.2.2]] [] [slF rp_u64_u64 A1 c1 p1.2.2.2.2.2.2.1, slF rp_u64_u64 A2 c2 p2.2.2.2.2.2.2.1] (fun ret M' F' => ret = .bool r ∧ M' = [] ∧ F' = []) := by
 unfold conf_Same at H
 refine ctr_ofI (N := 70) Try.func55 rfl Try.ntmps55 rfl (Nat.le_of_ble_eq_true rfl) (fun γ0 w0 => ?_)
 refine Tr.seq ?_
 refine Tr.region ?_
 refine TrL.cons rfl (op_box' rfl (bl rfl) rfl rfl rfl (fun b3 => ?_))
 refine TrL.cons rfl (op_box' rfl (bl rfl) rfl rfl rfl (fun b4 => ?_))
 refine TrL.v (v_assign rfl rfl) rfl rfl (bl rfl) ?_
 refine TrL.nil (qthen_n ?_)
 refine Tr.seq ?_
 obtain ⟨j3, hj3, H⟩ := bnd H
 refine Tr.cutE (D := Bool) (M := Unit) .normal (fun _d => j3 = _d) (fun j3 m5 => ⟨[(2, .pointer (some ⟨b3, 0, none⟩)), (3, .pointer (some ⟨b4, 0, none⟩)), (5, .bool j3)], [cells b3 [.int .i64 p1.1, .int .i64 p1.2.1, .int .u64 p1.2.2.1, .int .u64 p1.2.2.2.1, .int .i64 p1.2.2.2.2.1, .int .i64 p1.2.2.2.2.2.1, .slice A1 p1.2.2.2.2.2.2.1.length c1, .int .i64 p1.2.2.2.2.2.2.2.1, .int .i64 p1.2.2.2.2.2.2.2.2] 91, cells b4 [.int .i64 p2.1, .int .i64 p2.2.1, .int .u64 p2.2.2.1, .int .u64 p2.2.2.2.1, .int .i64 p2.2.2.2.2.1, .int .i64 p2.2.2.2.2.2.1, .slice A2 p2.2.2.2.2.2.2.1.length c2, .int .i64 p2.2.2.2.2.2.2.2.1, .int .i64 p2.2.2.2.2.2.2.2.2] 91], [slF rp_u64_u64 A1 c1 p1.2.2.2.2.2.2.1, slF rp_u64_u64 A2 c2 p2.2.2.2.2.2.2.1], []⟩) ?_ (fun j3 m5 hd3 => ?_)
 ·refine Tr.region ?_
  refine TrL.v (v_fieldAddr' rfl fo91_2 rfl rfl) rfl rfl (bl rfl) ?_
  refine TrL.v (v_load (k := 1) rfl rfl rfl ty28 (fun _ => rfl) rfl rfl) rfl rfl (bl rfl) ?_
  refine TrL.v (v_fieldAddr' rfl fo91_2 rfl rfl) rfl rfl (bl rfl) ?_
  refine TrL.v (v_load (k := 0) rfl rfl rfl ty28 (fun _ => rfl) rfl rfl) rfl rfl (bl rfl) ?_
  refine TrL.v (v_arith rfl rfl rfl ar_eql) rfl rfl (bl rfl) ?_
  refine TrL.v (v_move rfl rfl) rfl rfl (bl rfl) ?_
  rcases ifc hj3 with ⟨h26, hj3⟩ | ⟨h26, hj3⟩
  ·refine TrL.cons_yes rfl rfl rfl (bt_dec h26) (OpTr.v (v_fieldAddr' rfl fo91_3 rfl rfl) rfl (bl rfl) ?_)
   refine TrL.cons_yes rfl rfl rfl (bt_dec h26) (OpTr.v (v_load (k := 1) rfl rfl rfl ty28 (fun _ => rfl) rfl rfl) rfl (bl rfl) ?_)
   refine TrL.cons_yes rfl rfl rfl (bt_dec h26) (OpTr.v (v_fieldAddr' rfl fo91_3 rfl rfl) rfl (bl rfl) ?_)
   refine TrL.cons_yes rfl rfl rfl (bt_dec h26) (OpTr.v (v_load (k := 0) rfl rfl rfl ty28 (fun _ => rfl) rfl rfl) rfl (bl rfl) ?_)
   refine TrL.cons_yes rfl rfl rfl (bt_dec h26) (OpTr.v (v_arith rfl rfl rfl ar_eql) rfl (bl rfl) ?_)
   refine TrL.v (v_pick_t rfl rfl (bt_dec h26) rfl) rfl rfl (bl rfl) ?_
   refine TrL.v (v_move rfl rfl) rfl rfl (bl rfl) ?_
   rcases ifc hj3 with ⟨h27, hj3⟩ | ⟨h27, hj3⟩
   ·refine TrL.cons_yes rfl rfl rfl (bt_dec h27) (OpTr.v (v_fieldAddr' rfl fo91_4 rfl rfl) rfl (bl rfl) ?_)
    refine TrL.cons_yes rfl rfl rfl (bt_dec h27) (OpTr.v (v_load (k := 1) rfl rfl rfl ty3 (fun _ => rfl) rfl rfl) rfl (bl rfl) ?_)
    refine TrL.cons_yes rfl rfl rfl (bt_dec h27) (OpTr.v (v_fieldAddr' rfl fo91_4 rfl rfl) rfl (bl rfl) ?_)
    refine TrL.cons_yes rfl rfl rfl (bt_dec h27) (OpTr.v (v_load (k := 0) rfl rfl rfl ty3 (fun _ => rfl) rfl rfl) rfl (bl rfl) ?_)
    refine TrL.cons_yes rfl rfl rfl (bt_dec h27) (OpTr.v (v_arith rfl rfl rfl ar_eql) rfl (bl rfl) ?_)
    refine TrL.v (v_pick_t rfl rfl (bt_dec h27) rfl) rfl rfl (bl rfl) ?_
    refine TrL.v (v_assign rfl rfl) rfl rfl (bl rfl) ?_
    refine TrL.nil (qcut_hit (decide (p1.2.2.2.2.1 = p2.2.2.2.2.1)) (()) (Option.some.inj hj3).symm (Imp.re _ [1, 0] [0, 1] (sc rfl (sc rfl (sc rfl sn))) (by decide) rfl rfl rfl))
   ·refine TrL.cons_no rfl rfl rfl (gn_t (bf_dec h27)) rfl (bl rfl) ?_
    refine TrL.cons_no rfl rfl rfl (gn_t (bf_dec h27)) rfl (bl rfl) ?_
    refine TrL.cons_no rfl rfl rfl (gn_t (bf_dec h27)) rfl (bl rfl) ?_
    refine TrL.cons_no rfl rfl rfl (gn_t (bf_dec h27)) rfl (bl rfl) ?_
    refine TrL.cons_no rfl rfl rfl (gn_t (bf_dec h27)) rfl (bl rfl) ?_
    refine TrL.v (v_pick_f rfl rfl (bf_dec h27) rfl) rfl rfl (bl rfl) ?_
    refine TrL.v (v_assign rfl rfl) rfl rfl (bl rfl) ?_
    refine TrL.nil (qcut_hit false (()) (Option.some.inj hj3).symm (Imp.re _ [1, 0] [0, 1] (sc rfl (sc rfl (sc rfl sn))) (by decide) rfl rfl rfl))
  ·refine TrL.cons_no rfl rfl rfl (gn_t (bf_dec h26)) rfl (bl rfl) ?_
   refine TrL.cons_no rfl rfl rfl (gn_t (bf_dec h26)) rfl (bl rfl) ?_
   refine TrL.cons_no rfl rfl rfl (gn_t (bf_dec h26)) rfl (bl rfl) ?_
   refine TrL.cons_no rfl rfl rfl (gn_t (bf_dec h26)) rfl (bl rfl) ?_
   refine TrL.cons_no rfl rfl rfl (gn_t (bf_dec h26)) rfl (bl rfl) ?_
   refine TrL.v (v_pick_f rfl rfl (bf_dec h26) rfl) rfl rfl (bl rfl) ?_
   refine TrL.v (v_move rfl rfl) rfl rfl (bl rfl) ?_
   refine TrL.cons_no rfl rfl rfl (gn_t rfl) rfl (bl rfl) ?_
   refine TrL.cons_no rfl rfl rfl (gn_t rfl) rfl (bl rfl) ?_
   refine TrL.cons_no rfl rfl rfl (gn_t rfl) rfl (bl rfl) ?_
   refine TrL.cons_no rfl rfl rfl (gn_t rfl) rfl (bl rfl) ?_
   refine TrL.cons_no rfl rfl rfl (gn_t rfl) rfl (bl rfl) ?_
   refine TrL.v (v_pick_f rfl rfl rfl rfl) rfl rfl (bl rfl) ?_
   refine TrL.v (v_assign rfl rfl) rfl rfl (bl rfl) ?_
   refine TrL.nil (qcut_hit false (()) (Option.some.inj hj3).symm (Imp.re _ [1, 0] [0, 1] (sc rfl (sc rfl (sc rfl sn))) (by decide) rfl rfl rfl))
 ·subst hd3
  refine (qthen_n ?_)
  refine Tr.seq ?_
  obtain ⟨j4, hj4, H⟩ := bnd H
  refine Tr.cutE (D := Bool) (M := Unit) .normal (fun _d => j4 = _d) (fun j4 m6 => ⟨[(2, .pointer (some ⟨b3, 0, none⟩)), (3, .pointer (some ⟨b4, 0, none⟩)), (5, .bool j3), (6, .bool j4)], [cells b3 [.int .i64 p1.1, .int .i64 p1.2.1, .int .u64 p1.2.2.1, .int .u64 p1.2.2.2.1, .int .i64 p1.2.2.2.2.1, .int .i64 p1.2.2.2.2.2.1, .slice A1 p1.2.2.2.2.2.2.1.length c1, .int .i64 p1.2.2.2.2.2.2.2.1, .int .i64 p1.2.2.2.2.2.2.2.2] 91, cells b4 [.int .i64 p2.1, .int .i64 p2.2.1, .int .u64 p2.2.2.1, .int .u64 p2.2.2.2.1, .int .i64 p2.2.2.2.2.1, .int .i64 p2.2.2.2.2.2.1, .slice A2 p2.2.2.2.2.2.2.1.length c2, .int .i64 p2.2.2.2.2.2.2.2.1, .int .i64 p2.2.2.2.2.2.2.2.2] 91], [slF rp_u64_u64 A1 c1 p1.2.2.2.2.2.2.1, slF rp_u64_u64 A2 c2 p2.2.2.2.2.2.2.1], []⟩) ?_ (fun j4 m6 hd4 => ?_)
  ·refine Tr.region ?_
   refine TrL.v (v_fieldAddr' rfl fo91_0 rfl rfl) rfl rfl (bl rfl) ?_
   refine TrL.v (v_load (k := 0) rfl rfl rfl ty3 (fun _ => rfl) rfl rfl) rfl rfl (bl rfl) ?_
   refine TrL.v (v_fieldAddr' rfl fo91_0 rfl rfl) rfl rfl (bl rfl) ?_
   refine TrL.v (v_load (k := 1) rfl rfl rfl ty3 (fun _ => rfl) rfl rfl) rfl rfl (bl rfl) ?_
   refine TrL.v (v_arith rfl rfl rfl ar_eql) rfl rfl (bl rfl) ?_
   refine TrL.v (v_move rfl rfl) rfl rfl (bl rfl) ?_
   rcases ifc hj4 with ⟨h34, hj4⟩ | ⟨h34, hj4⟩
   ·refine TrL.cons_yes rfl rfl rfl (bt_dec h34) (OpTr.v (v_fieldAddr' rfl fo91_1 rfl rfl) rfl (bl rfl) ?_)
    refine TrL.cons_yes rfl rfl rfl (bt_dec h34) (OpTr.v (v_load (k := 0) rfl rfl rfl ty3 (fun _ => rfl) rfl rfl) rfl (bl rfl) ?_)
    refine TrL.cons_yes rfl rfl rfl (bt_dec h34) (OpTr.v (v_fieldAddr' rfl fo91_1 rfl rfl) rfl (bl rfl) ?_)
    refine TrL.cons_yes rfl rfl rfl (bt_dec h34) (OpTr.v (v_load (k := 1) rfl rfl rfl ty3 (fun _ => rfl) rfl rfl) rfl (bl rfl) ?_)
    refine TrL.cons_yes rfl rfl rfl (bt_dec h34) (OpTr.v (v_arith rfl rfl rfl ar_eql) rfl (bl rfl) ?_)
    refine TrL.v (v_pick_t rfl rfl (bt_dec h34) rfl) rfl rfl (bl rfl) ?_
    refine TrL.v (v_move rfl rfl) rfl rfl (bl rfl) ?_
    rcases ifc hj4 with ⟨h35, hj4⟩ | ⟨h35, hj4⟩
    ·refine TrL.cons_yes rfl rfl rfl (bt_dec h35) (OpTr.v (v_fieldAddr' rfl fo91_7 rfl rfl) rfl (bl rfl) ?_)
     refine TrL.cons_yes rfl rfl rfl (bt_dec h35) (OpTr.v (v_load (k := 0) rfl rfl rfl ty3 (fun _ => rfl) rfl rfl) rfl (bl rfl) ?_)
     refine TrL.cons_yes rfl rfl rfl (bt_dec h35) (OpTr.v (v_fieldAddr' rfl fo91_7 rfl rfl) rfl (bl rfl) ?_)
     refine TrL.cons_yes rfl rfl rfl (bt_dec h35) (OpTr.v (v_load (k := 1) rfl rfl rfl ty3 (fun _ => rfl) rfl rfl) rfl (bl rfl) ?_)
     refine TrL.cons_yes rfl rfl rfl (bt_dec h35) (OpTr.v (v_arith rfl rfl rfl ar_eql) rfl (bl rfl) ?_)
     refine TrL.v (v_pick_t rfl rfl (bt_dec h35) rfl) rfl rfl (bl rfl) ?_
     refine TrL.v (v_move rfl rfl) rfl rfl (bl rfl) ?_
     rcases ifc hj4 with ⟨h36, hj4⟩ | ⟨h36, hj4⟩
     ·refine TrL.cons_yes rfl rfl rfl (bt_dec h36) (OpTr.v (v_fieldAddr' rfl fo91_8 rfl rfl) rfl (bl rfl) ?_)
      refine TrL.cons_yes rfl rfl rfl (bt_dec h36) (OpTr.v (v_load (k := 0) rfl rfl rfl ty3 (fun _ => rfl) rfl rfl) rfl (bl rfl) ?_)
      refine TrL.cons_yes rfl rfl rfl (bt_dec h36) (OpTr.v (v_fieldAddr' rfl fo91_8 rfl rfl) rfl (bl rfl) ?_)
      refine TrL.cons_yes rfl rfl rfl (bt_dec h36) (OpTr.v (v_load (k := 1) rfl rfl rfl ty3 (fun _ => rfl) rfl rfl) rfl (bl rfl) ?_)
      refine TrL.cons_yes rfl rfl rfl (bt_dec h36) (OpTr.v (v_arith rfl rfl rfl ar_eql) rfl (bl rfl) ?_)
      refine TrL.v (v_pick_t rfl rfl (bt_dec h36) rfl) rfl rfl (bl rfl) ?_
      refine TrL.v (v_assign rfl rfl) rfl rfl (bl rfl) ?_
      refine TrL.nil (qcut_hit (decide (p1.2.2.2.2.2.2.2.2 = p2.2.2.2.2.2.2.2.2)) (()) (Option.some.inj hj4).symm (Imp.re _ [0, 1] [0, 1] (sc rfl (sc rfl (sc rfl (sc rfl sn)))) (by decide) rfl rfl rfl))
     ·refine TrL.cons_no rfl rfl rfl (gn_t (bf_dec h36)) rfl (bl rfl) ?_
      refine TrL.cons_no rfl rfl rfl (gn_t (bf_dec h36)) rfl (bl rfl) ?_
      refine TrL.cons_no rfl rfl rfl (gn_t (bf_dec h36)) rfl (bl rfl) ?_
      refine TrL.cons_no rfl rfl rfl (gn_t (bf_dec h36)) rfl (bl rfl) ?_
      refine TrL.cons_no rfl rfl rfl (gn_t (bf_dec h36)) rfl (bl rfl) ?_
      refine TrL.v (v_pick_f rfl rfl (bf_dec h36) rfl) rfl rfl (bl rfl) ?_
      refine TrL.v (v_assign rfl rfl) rfl rfl (bl rfl) ?_
      refine TrL.nil (qcut_hit false (()) (Option.some.inj hj4).symm (Imp.re _ [0, 1] [0, 1] (sc rfl (sc rfl (sc rfl (sc rfl sn)))) (by decide) rfl rfl rfl))
    ·refine TrL.cons_no rfl rfl rfl (gn_t (bf_dec h35)) rfl (bl rfl) ?_
     refine TrL.cons_no rfl rfl rfl (gn_t (bf_dec h35)) rfl (bl rfl) ?_
     refine TrL.cons_no rfl rfl rfl (gn_t (bf_dec h35)) rfl (bl rfl) ?_
     refine TrL.cons_no rfl rfl rfl (gn_t (bf_dec h35)) rfl (bl rfl) ?_
     refine TrL.cons_no rfl rfl rfl (gn_t (bf_dec h35)) rfl (bl rfl) ?_
     refine TrL.v (v_pick_f rfl rfl (bf_dec h35) rfl) rfl rfl (bl rfl) ?_
     refine TrL.v (v_move rfl rfl) rfl rfl (bl rfl) ?_
     refine TrL.cons_no rfl rfl rfl (gn_t rfl) rfl (bl rfl) ?_
     refine TrL.cons_no rfl rfl rfl (gn_t rfl) rfl (bl rfl) ?_
     refine TrL.cons_no rfl rfl rfl (gn_t rfl) rfl (bl rfl) ?_
     refine TrL.cons_no rfl rfl rfl (gn_t rfl) rfl (bl rfl) ?_
     refine TrL.cons_no rfl rfl rfl (gn_t rfl) rfl (bl rfl) ?_
     refine TrL.v (v_pick_f rfl rfl rfl rfl) rfl rfl (bl rfl) ?_
     refine TrL.v (v_assign rfl rfl) rfl rfl (bl rfl) ?_
     refine TrL.nil (qcut_hit false (()) (Option.some.inj hj4).symm (Imp.re _ [0, 1] [0, 1] (sc rfl (sc rfl (sc rfl (sc rfl sn)))) (by decide) rfl rfl rfl))
   ·refine TrL.cons_no rfl rfl rfl (gn_t (bf_dec h34)) rfl (bl rfl) ?_
    refine TrL.cons_no rfl rfl rfl (gn_t (bf_dec h34)) rfl (bl rfl) ?_
    refine TrL.cons_no rfl rfl rfl (gn_t (bf_dec h34)) rfl (bl rfl) ?_
    refine TrL.cons_no rfl rfl rfl (gn_t (bf_dec h34)) rfl (bl rfl) ?_
    refine TrL.cons_no rfl rfl rfl (gn_t (bf_dec h34)) rfl (bl rfl) ?_
    refine TrL.v (v_pick_f rfl rfl (bf_dec h34) rfl) rfl rfl (bl rfl) ?_
    refine TrL.v (v_move rfl rfl) rfl rfl (bl rfl) ?_
    refine TrL.cons_no rfl rfl rfl (gn_t rfl) rfl (bl rfl) ?_
    refine TrL.cons_no rfl rfl rfl (gn_t rfl) rfl (bl rfl) ?_
    refine TrL.cons_no rfl rfl rfl (gn_t rfl) rfl (bl rfl) ?_
    refine TrL.cons_no rfl rfl rfl (gn_t rfl) rfl (bl rfl) ?_
    refine TrL.cons_no rfl rfl rfl (gn_t rfl) rfl (bl rfl) ?_
    refine TrL.v (v_pick_f rfl rfl rfl rfl) rfl rfl (bl rfl) ?_
    refine TrL.v (v_move rfl rfl) rfl rfl (bl rfl) ?_
    refine TrL.cons_no rfl rfl rfl (gn_t rfl) rfl (bl rfl) ?_
    refine TrL.cons_no rfl rfl rfl (gn_t rfl) rfl (bl rfl) ?_
    refine TrL.cons_no rfl rfl rfl (gn_t rfl) rfl (bl rfl) ?_
    refine TrL.cons_no rfl rfl rfl (gn_t rfl) rfl (bl rfl) ?_
    refine TrL.cons_no rfl rfl rfl (gn_t rfl) rfl (bl rfl) ?_
    refine TrL.v (v_pick_f rfl rfl rfl rfl) rfl rfl (bl rfl) ?_
    refine TrL.v (v_assign rfl rfl) rfl rfl (bl rfl) ?_
    refine TrL.nil (qcut_hit false (()) (Option.some.inj hj4).symm (Imp.re _ [0, 1] [0, 1] (sc rfl (sc rfl (sc rfl (sc rfl sn)))) (by decide) rfl rfl rfl))
  ·subst hd4
   refine (qthen_n ?_)
   refine Tr.seq ?_
   refine Tr.region ?_
   refine TrL.v (v_move rfl rfl) rfl rfl (bl rfl) ?_
   refine TrL.v (v_move rfl rfl) rfl rfl (bl rfl) ?_
   rcases ifc H with ⟨h40, H⟩ | ⟨h40, H⟩
   ·refine TrL.cons_yes rfl rfl rfl h40 (OpTr.v (v_move rfl rfl) rfl (bl rfl) ?_)
    refine TrL.v (v_pick_t rfl rfl h40 rfl) rfl rfl (bl rfl) ?_
    refine TrL.v (v_move rfl rfl) rfl rfl (bl rfl) ?_
    rcases ifc H with ⟨h41, H⟩ | ⟨h41, H⟩
    ·refine TrL.cons_yes rfl rfl rfl h41 (OpTr.v (v_fieldAddr' rfl fo91_5 rfl rfl) rfl (bl rfl) ?_)
     refine TrL.cons_yes rfl rfl rfl h41 (OpTr.v (v_load (k := 0) rfl rfl rfl ty3 (fun _ => rfl) rfl rfl) rfl (bl rfl) ?_)
     refine TrL.cons_yes rfl rfl rfl h41 (OpTr.v (v_fieldAddr' rfl fo91_5 rfl rfl) rfl (bl rfl) ?_)
     refine TrL.cons_yes rfl rfl rfl h41 (OpTr.v (v_load (k := 1) rfl rfl rfl ty3 (fun _ => rfl) rfl rfl) rfl (bl rfl) ?_)
     refine TrL.cons_yes rfl rfl rfl h41 (OpTr.v (v_arith rfl rfl rfl ar_eql) rfl (bl rfl) ?_)
     refine TrL.v (v_pick_t rfl rfl h41 rfl) rfl rfl (bl rfl) ?_
     refine TrL.v (v_move rfl rfl) rfl rfl (bl rfl) ?_
     rcases ifc H with ⟨h42, H⟩ | ⟨h42, H⟩
     ·refine TrL.cons_yes rfl rfl rfl (bt_dec h42) (OpTr.v (v_fieldAddr' rfl fo91_6 rfl rfl) rfl (bl rfl) ?_)
      refine TrL.cons_yes rfl rfl rfl (bt_dec h42) (OpTr.v (v_load (k := 0) rfl rfl rfl ty89 (fun _ => rfl) rfl rfl) rfl (bl rfl) ?_)
      refine TrL.cons_yes rfl rfl rfl (bt_dec h42) (OpTr.v (v_fieldAddr' rfl fo91_6 rfl rfl) rfl (bl rfl) ?_)
      refine TrL.cons_yes rfl rfl rfl (bt_dec h42) (OpTr.v (v_load (k := 1) rfl rfl rfl ty89 (fun _ => rfl) rfl rfl) rfl (bl rfl) ?_)
      obtain ⟨r4, hr4, H⟩ := bnd H
      refine TrL.cons_yes rfl rfl rfl (bt_dec h42) (op_call0' (vs := [.slice A1 p1.2.2.2.2.2.2.1.length c1, .slice A2 p2.2.2.2.2.2.2.1.length c2]) (cap := []) [0, 1] rfl rfl (bl rfl) rfl rfl en114 (c_slices_Equal_Seed p1.2.2.2.2.2.2.1 p2.2.2.2.2.2.2.1 A1 c1 A2 c2 r4 hr4) rfl (fun ret M' F' hR4 => ?_))
      obtain ⟨rfl, rfl, rfl⟩ := hR4
      refine TrL.v (v_pick_t rfl rfl (bt_dec h42) rfl) rfl rfl (bl rfl) ?_
      refine TrL.v (v_assign rfl rfl) rfl rfl (bl rfl) ?_
      refine TrL.nil (qthen_n ?_)
      have hz := Option.some.inj H
      subst hz
      refine Tr.ret (ret_r ⟨[(4, .bool r4)], [], [], []⟩ [.bool r4] [] [] (Imp.re _ [] [] (sc rfl sn) (by decide) rfl rfl rfl) rfl rfl ⟨rfl, rfl, rfl⟩ (.cons (resv_tmp rfl) .nil))
     ·refine TrL.cons_no rfl rfl rfl (gn_t (bf_dec h42)) rfl (bl rfl) ?_
      refine TrL.cons_no rfl rfl rfl (gn_t (bf_dec h42)) rfl (bl rfl) ?_
      refine TrL.cons_no rfl rfl rfl (gn_t (bf_dec h42)) rfl (bl rfl) ?_
      refine TrL.cons_no rfl rfl rfl (gn_t (bf_dec h42)) rfl (bl rfl) ?_
      refine TrL.cons_no rfl rfl rfl (gn_t (bf_dec h42)) rfl (bl rfl) ?_
      refine TrL.v (v_pick_f rfl rfl (bf_dec h42) rfl) rfl rfl (bl rfl) ?_
      refine TrL.v (v_assign rfl rfl) rfl rfl (bl rfl) ?_
      refine TrL.nil (qthen_n ?_)
      have hz := Option.some.inj H
      subst hz
      refine Tr.ret (ret_r ⟨[(4, .bool false)], [], [], []⟩ [.bool false] [] [] (Imp.re _ [] [] (sc rfl sn) (by decide) rfl rfl rfl) rfl rfl ⟨rfl, rfl, rfl⟩ (.cons (resv_tmp rfl) .nil))
    ·refine TrL.cons_no rfl rfl rfl (gn_t (bf_b h41)) rfl (bl rfl) ?_
     refine TrL.cons_no rfl rfl rfl (gn_t (bf_b h41)) rfl (bl rfl) ?_
     refine TrL.cons_no rfl rfl rfl (gn_t (bf_b h41)) rfl (bl rfl) ?_
     refine TrL.cons_no rfl rfl rfl (gn_t (bf_b h41)) rfl (bl rfl) ?_
     refine TrL.cons_no rfl rfl rfl (gn_t (bf_b h41)) rfl (bl rfl) ?_
     refine TrL.v (v_pick_f rfl rfl (bf_b h41) rfl) rfl rfl (bl rfl) ?_
     refine TrL.v (v_move rfl rfl) rfl rfl (bl rfl) ?_
     refine TrL.cons_no rfl rfl rfl (gn_t rfl) rfl (bl rfl) ?_
     refine TrL.cons_no rfl rfl rfl (gn_t rfl) rfl (bl rfl) ?_
     refine TrL.cons_no rfl rfl rfl (gn_t rfl) rfl (bl rfl) ?_
     refine TrL.cons_no rfl rfl rfl (gn_t rfl) rfl (bl rfl) ?_
     refine TrL.cons_no rfl rfl rfl (gn_t rfl) rfl (bl rfl) ?_
     refine TrL.v (v_pick_f rfl rfl rfl rfl) rfl rfl (bl rfl) ?_
     refine TrL.v (v_assign rfl rfl) rfl rfl (bl rfl) ?_
     refine TrL.nil (qthen_n ?_)
     have hz := Option.some.inj H
     subst hz
     refine Tr.ret (ret_r ⟨[(4, .bool false)], [], [], []⟩ [.bool false] [] [] (Imp.re _ [] [] (sc rfl sn) (by decide) rfl rfl rfl) rfl rfl ⟨rfl, rfl, rfl⟩ (.cons (resv_tmp rfl) .nil))
   ·refine TrL.cons_no rfl rfl rfl (gn_t (bf_b h40)) rfl (bl rfl) ?_
    refine TrL.v (v_pick_f rfl rfl (bf_b h40) rfl) rfl rfl (bl rfl) ?_
    refine TrL.v (v_move rfl rfl) rfl rfl (bl rfl) ?_
    refine TrL.cons_no rfl rfl rfl (gn_t rfl) rfl (bl rfl) ?_
    refine TrL.cons_no rfl rfl rfl (gn_t rfl) rfl (bl rfl) ?_
    refine TrL.cons_no rfl rfl rfl (gn_t rfl) rfl (bl rfl) ?_
    refine TrL.cons_no rfl rfl rfl (gn_t rfl) rfl (bl rfl) ?_
    refine TrL.cons_no rfl rfl rfl (gn_t rfl) rfl (bl rfl) ?_
    refine TrL.v (v_pick_f rfl rfl rfl rfl) rfl rfl (bl rfl) ?_
    refine TrL.v (v_move rfl rfl) rfl rfl (bl rfl) ?_
    refine TrL.cons_no rfl rfl rfl (gn_t rfl) rfl (bl rfl) ?_
    refine TrL.cons_no rfl rfl rfl (gn_t rfl) rfl (bl rfl) ?_
    refine TrL.cons_no rfl rfl rfl (gn_t rfl) rfl (bl rfl) ?_
    refine TrL.cons_no rfl rfl rfl (gn_t rfl) rfl (bl rfl) ?_
    refine TrL.cons_no rfl rfl rfl (gn_t rfl) rfl (bl rfl) ?_
    refine TrL.v (v_pick_f rfl rfl rfl rfl) rfl rfl (bl rfl) ?_
    refine TrL.v (v_assign rfl rfl) rfl rfl (bl rfl) ?_
    refine TrL.nil (qthen_n ?_)
    have hz := Option.some.inj H
    subst hz
    refine Tr.ret (ret_r ⟨[(4, .bool false)], [], [], []⟩ [.bool false] [] [] (Imp.re _ [] [] (sc rfl sn) (by decide) rfl rfl rfl) rfl rfl ⟨rfl, rfl, rfl⟩ (.cons (resv_tmp rfl) .nil))
end Go.Proofs.Ytbeknohemgjfbaa.W
