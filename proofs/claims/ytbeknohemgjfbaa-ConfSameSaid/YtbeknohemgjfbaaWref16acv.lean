import Derived.Test.YtbeknohemgjfbaaKcv
import Derived.Test.YtbeknohemgjfbaaQcv
import Derived.Test.YtbeknohemgjfbaaWref12ccv
import Derived.Test.YtbeknohemgjfbaaWref15acv
namespace Go.Proofs.Ytbeknohemgjfbaa.W
open Go Go.Proofs Go.Proofs.Ytbeknohemgjfbaa.L Go.Proofs.Ytbeknohemgjfbaa.Pu
set_option linter.unusedVariables false
set_option maxHeartbeats 4000000

theorem c_ref16_Conf (p1 : Int × Int × Int × Int × Int × Int × (List (Int × Int)) × Int × Int) (A1 : Option Addr) (c1 : Nat) (r : Int) (H : ref16_Conf p1 = some r) :
  Ctr Try.prog 103 [.agg #[.int .i64 p1.1, .int .i64 p1.2.1, .int .u64 p1.2.2.1, .int .u64 p1.2.2.2.1, .int .i64 p1.2.2.2.2.1, .int .i64 p1.2.2.2.2.2.1, .slice A1 p1.2.2.2.2.2.2.1.length c1, .int .i64 p1.2.2.2.2.2.2.2.1, .int .i64 p1.2.2.2.2.2.2.2.2]] [] [slF rp_u64_u64 A1 c1 p1.2.2.2.2.2.2.1] (fun ret M' F' => ret = .int .i64 r ∧ M' = [] ∧ F' = []) := by
 unfold ref16_Conf at H
 refine ctr_ofI (N := 26) Try.func103 rfl Try.ntmps103 rfl (Nat.le_of_ble_eq_true rfl) (fun γ0 w0 => ?_)
 refine Tr.seq ?_
 refine Tr.region ?_
 refine TrL.cons rfl (op_box' rfl (bl rfl) rfl rfl rfl (fun b2 => ?_))
 refine TrL.v (v_assign rfl rfl) rfl rfl (bl rfl) ?_
 refine TrL.nil (qthen_n ?_)
 refine Tr.seq ?_
 refine Tr.seq ?_
 refine Tr.region ?_
 refine TrL.v (v_fieldAddr' rfl fo91_2 rfl rfl) rfl rfl (bl rfl) ?_
 refine TrL.v (v_load (k := 0) rfl rfl rfl ty28 (fun _ => rfl) rfl rfl) rfl rfl (bl rfl) ?_
 refine TrL.v (v_arith rfl rfl rfl ar_eql) rfl rfl (bl rfl) ?_
 refine TrL.v (v_move rfl rfl) rfl rfl (bl rfl) ?_
 rcases ifc H with ⟨h8, H⟩ | ⟨h8, H⟩
 ·refine TrL.cons_no rfl rfl rfl (gn_f (bt_dec h8)) rfl (bl rfl) ?_
  refine TrL.cons_no rfl rfl rfl (gn_f (bt_dec h8)) rfl (bl rfl) ?_
  refine TrL.cons_no rfl rfl rfl (gn_f (bt_dec h8)) rfl (bl rfl) ?_
  refine TrL.v (v_pick_t rfl rfl (bt_dec h8) rfl) rfl rfl (bl rfl) ?_
  refine TrL.v (v_move rfl rfl) rfl rfl (bl rfl) ?_
  refine TrL.cons_no rfl rfl rfl (gn_f rfl) rfl (bl rfl) ?_
  refine TrL.cons_no rfl rfl rfl (gn_f rfl) rfl (bl rfl) ?_
  refine TrL.cons_no rfl rfl rfl (gn_f rfl) rfl (bl rfl) ?_
  refine TrL.cons_no rfl rfl rfl (gn_f rfl) rfl (bl rfl) ?_
  refine TrL.cons_no rfl rfl rfl (gn_f rfl) rfl (bl rfl) ?_
  refine TrL.cons_no rfl rfl rfl (gn_f rfl) rfl (bl rfl) ?_
  refine TrL.v (v_pick_t rfl rfl rfl rfl) rfl rfl (bl rfl) ?_
  refine TrL.nil (qthen_n ?_)
  refine Tr.cond_t rfl rfl ?_
  refine Tr.seq ?_
  refine Tr.region ?_
  refine TrL.v (v_assign rfl rfl) rfl rfl (bl rfl) ?_
  refine TrL.nil (qthen_n ?_)
  have hz := Option.some.inj H
  subst hz
  refine Tr.ret (qthen_r (ret_r ⟨[(2, .int .i64 9)], [], [], []⟩ [.int .i64 9] [] [] (Imp.re _ [] [] (sc rfl sn) (by decide) rfl rfl rfl) rfl rfl ⟨rfl, rfl, rfl⟩ (.cons (resv_tmp rfl) .nil)))
 ·refine TrL.cons_yes rfl rfl rfl (bf_dec h8) (OpTr.v (v_fieldAddr' rfl fo91_2 rfl rfl) rfl (bl rfl) ?_)
  refine TrL.cons_yes rfl rfl rfl (bf_dec h8) (OpTr.v (v_load (k := 0) rfl rfl rfl ty28 (fun _ => rfl) rfl rfl) rfl (bl rfl) ?_)
  refine TrL.cons_yes rfl rfl rfl (bf_dec h8) (OpTr.v (v_arith rfl rfl rfl ar_gtr) rfl (bl rfl) ?_)
  refine TrL.v (v_pick_f rfl rfl (bf_dec h8) rfl) rfl rfl (bl rfl) ?_
  refine TrL.v (v_move rfl rfl) rfl rfl (bl rfl) ?_
  rcases ifc H with ⟨h9, H⟩ | ⟨h9, H⟩
  ·refine TrL.cons_no rfl rfl rfl (gn_f (bt_dec h9)) rfl (bl rfl) ?_
   refine TrL.cons_no rfl rfl rfl (gn_f (bt_dec h9)) rfl (bl rfl) ?_
   refine TrL.cons_no rfl rfl rfl (gn_f (bt_dec h9)) rfl (bl rfl) ?_
   refine TrL.cons_no rfl rfl rfl (gn_f (bt_dec h9)) rfl (bl rfl) ?_
   refine TrL.cons_no rfl rfl rfl (gn_f (bt_dec h9)) rfl (bl rfl) ?_
   refine TrL.cons_no rfl rfl rfl (gn_f (bt_dec h9)) rfl (bl rfl) ?_
   refine TrL.v (v_pick_t rfl rfl (bt_dec h9) rfl) rfl rfl (bl rfl) ?_
   refine TrL.nil (qthen_n ?_)
   refine Tr.cond_t rfl rfl ?_
   refine Tr.seq ?_
   refine Tr.region ?_
   refine TrL.v (v_assign rfl rfl) rfl rfl (bl rfl) ?_
   refine TrL.nil (qthen_n ?_)
   have hz := Option.some.inj H
   subst hz
   refine Tr.ret (qthen_r (ret_r ⟨[(2, .int .i64 9)], [], [], []⟩ [.int .i64 9] [] [] (Imp.re _ [] [] (sc rfl sn) (by decide) rfl rfl rfl) rfl rfl ⟨rfl, rfl, rfl⟩ (.cons (resv_tmp rfl) .nil)))
  ·refine TrL.cons_yes rfl rfl rfl (bf_dec h9) (OpTr.v (v_fieldAddr' rfl fo91_3 rfl rfl) rfl (bl rfl) ?_)
   refine TrL.cons_yes rfl rfl rfl (bf_dec h9) (OpTr.v (v_load (k := 0) rfl rfl rfl ty28 (fun _ => rfl) rfl rfl) rfl (bl rfl) ?_)
   refine TrL.cons_yes rfl rfl rfl (bf_dec h9) (OpTr.v (v_fieldAddr' rfl fo91_4 rfl rfl) rfl (bl rfl) ?_)
   refine TrL.cons_yes rfl rfl rfl (bf_dec h9) (OpTr.v (v_load (k := 0) rfl rfl rfl ty3 (fun _ => rfl) rfl rfl) rfl (bl rfl) ?_)
   obtain ⟨r5, hr5, H⟩ := bnd H
   refine TrL.cons_yes rfl rfl rfl (bf_dec h9) (op_call0' (vs := [.int .u64 p1.2.2.2.1, .int .i64 p1.2.2.2.2.1]) (cap := []) [] rfl rfl (bl rfl) rfl rfl en153 (c_ref12_Conf p1.2.2.2.1 p1.2.2.2.2.1 r5 hr5) rfl (fun ret M' F' hR5 => ?_))
   obtain ⟨rfl, rfl, rfl⟩ := hR5
   refine TrL.cons_yes rfl rfl rfl (bf_dec h9) (OpTr.v (v_notd rfl (bdec rfl)) rfl (bl rfl) ?_)
   refine TrL.v (v_pick_f rfl rfl (bf_dec h9) rfl) rfl rfl (bl rfl) ?_
   refine TrL.nil (qthen_n ?_)
   rcases ifc H with ⟨h10, H⟩ | ⟨h10, H⟩
   ·refine Tr.cond_t rfl (bt_dec h10) ?_
    refine Tr.seq ?_
    refine Tr.region ?_
    refine TrL.v (v_assign rfl rfl) rfl rfl (bl rfl) ?_
    refine TrL.nil (qthen_n ?_)
    have hz := Option.some.inj H
    subst hz
    refine Tr.ret (qthen_r (ret_r ⟨[(2, .int .i64 9)], [], [], []⟩ [.int .i64 9] [] [] (Imp.re _ [] [] (sc rfl sn) (by decide) rfl rfl rfl) rfl rfl ⟨rfl, rfl, rfl⟩ (.cons (resv_tmp rfl) .nil)))
   ·refine Tr.cond_f rfl (bf_dec h10) ?_
    refine Tr.skip (qthen_n ?_)
    refine Tr.seq ?_
    refine Tr.region ?_
    refine TrL.v (v_fieldAddr' rfl fo91_1 rfl rfl) rfl rfl (bl rfl) ?_
    refine TrL.v (v_load (k := 0) rfl rfl rfl ty3 (fun _ => rfl) rfl rfl) rfl rfl (bl rfl) ?_
    refine TrL.v (v_fieldAddr' rfl fo91_5 rfl rfl) rfl rfl (bl rfl) ?_
    refine TrL.v (v_load (k := 0) rfl rfl rfl ty3 (fun _ => rfl) rfl rfl) rfl rfl (bl rfl) ?_
    refine TrL.v (v_fieldAddr' rfl fo91_6 rfl rfl) rfl rfl (bl rfl) ?_
    refine TrL.v (v_load (k := 0) rfl rfl rfl ty89 (fun _ => rfl) rfl rfl) rfl rfl (bl rfl) ?_
    obtain ⟨r6, hr6, H⟩ := bnd H
    refine TrL.cons rfl (op_call0' (vs := [.int .i64 p1.2.1, .int .i64 p1.2.2.2.2.2.1, .slice A1 p1.2.2.2.2.2.2.1.length c1]) (cap := []) [0] rfl rfl (bl rfl) rfl rfl en154 (c_ref15_Conf p1.2.1 p1.2.2.2.2.2.1 p1.2.2.2.2.2.2.1 A1 c1 r6 hr6) rfl (fun ret M' F' hR6 => ?_))
    obtain ⟨rfl, rfl, rfl⟩ := hR6
    refine TrL.v (v_assign rfl rfl) rfl rfl (bl rfl) ?_
    refine TrL.nil (qthen_n ?_)
    have hz := Option.some.inj H
    subst hz
    refine Tr.ret (ret_r ⟨[(2, .int .i64 r6)], [], [], []⟩ [.int .i64 r6] [] [] (Imp.re _ [] [] (sc rfl sn) (by decide) rfl rfl rfl) rfl rfl ⟨rfl, rfl, rfl⟩ (.cons (resv_tmp rfl) .nil))

theorem c_ref16_Tame (p1 : Int × Int × Int × Int × Int × Int × (List (Int × Int)) × Int × Int) (A1 : Option Addr) (c1 : Nat) (r : List (Int × Int)) (H : ref16_Tame p1 = some r) :
  Ctr Try.prog 112 [.agg #[.int .i64 p1.1, .int .i64 p1.2.1, .int .u64 p1.2.2.1, .int .u64 p1.2.2.2.1, .int .i64 p1.2.2.2.2.1, .int .i64 p1.2.2.2.2.2.1, .slice A1 p1.2.2.2.2.2.2.1.length c1, .int .i64 p1.2.2.2.2.2.2.2.1, .int .i64 p1.2.2.2.2.2.2.2.2]] [] [slF rp_u64_u64 A1 c1 p1.2.2.2.2.2.2.1] (fun ret M' F' => ∃ m : Option Addr × Nat, ret = .agg #[.int .i64 2, .int .i64 ((wi64 (2 + ((max ((p1.2.1, p1.2.2.2.2.2.1, p1.2.2.2.2.2.2.1)).1 0).tmod 10)))), .int .u64 (wu64 (1 + (p1.2.2.1.tmod 1000))), .int .u64 (p1.2.2.2.1.tmod 100), .int .i64 (wi64 (1 + ((max p1.2.2.2.2.1 0).tmod 7))), .int .i64 ((wi64 (1 + ((max ((p1.2.1, p1.2.2.2.2.2.1, p1.2.2.2.2.2.2.1)).2.1 0).tmod 7)))), .slice m.1 r.length m.2, .int .i64 0, .int .i64 0] ∧ M' = [] ∧ F' = [slF rp_u64_u64 m.1 m.2 r]) := by
 unfold ref16_Tame at H
 refine ctr_ofI (N := 32) Try.func112 rfl Try.ntmps112 rfl (Nat.le_of_ble_eq_true rfl) (fun γ0 w0 => ?_)
 refine Tr.seq ?_
 refine Tr.region ?_
 refine TrL.cons rfl (op_box' rfl (bl rfl) rfl rfl rfl (fun b4 => ?_))
 refine TrL.cons rfl (op_alloc' rfl (bl rfl) rfl ze91 (fun b5 => ?_))
 refine TrL.nil (qthen_n ?_)
 refine Tr.seq ?_
 refine Tr.region ?_
 refine TrL.v (v_fieldAddr' rfl fo91_1 rfl rfl) rfl rfl (bl rfl) ?_
 refine TrL.v (v_load (k := 1) rfl rfl rfl ty3 (fun _ => rfl) rfl rfl) rfl rfl (bl rfl) ?_
 refine TrL.v (v_fieldAddr' rfl fo91_5 rfl rfl) rfl rfl (bl rfl) ?_
 refine TrL.v (v_load (k := 1) rfl rfl rfl ty3 (fun _ => rfl) rfl rfl) rfl rfl (bl rfl) ?_
 refine TrL.v (v_fieldAddr' rfl fo91_6 rfl rfl) rfl rfl (bl rfl) ?_
 refine TrL.v (v_load (k := 1) rfl rfl rfl ty89 (fun _ => rfl) rfl rfl) rfl rfl (bl rfl) ?_
 refine TrL.v (v_build (vs := [.int .i64 p1.2.1, .int .i64 p1.2.2.2.2.2.1, .slice A1 p1.2.2.2.2.2.2.1.length c1]) (out := [.int .i64 p1.2.1, .int .i64 p1.2.2.2.2.2.1, .slice A1 p1.2.2.2.2.2.2.1.length c1]) rfl pl238 ze238 rfl rfl) rfl rfl (bl rfl) ?_
 obtain ⟨r2, hr2, H⟩ := bnd H
 refine TrL.cons rfl (op_call0' (vs := [.agg #[.int .i64 p1.2.1, .int .i64 p1.2.2.2.2.2.1, .slice A1 p1.2.2.2.2.2.2.1.length c1]]) (cap := []) [0] rfl rfl (bl rfl) rfl rfl en159 (c_ref15_Tame ((p1.2.1, p1.2.2.2.2.2.1, p1.2.2.2.2.2.2.1)) A1 c1 r2 hr2) rfl (fun ret M' F' hR2 => ?_))
 obtain ⟨m2, rfl, rfl, rfl⟩ := hR2
 refine TrL.cons rfl (op_alloc' rfl (bl rfl) rfl ze235 (fun b6 => ?_))
 refine TrL.cons rfl (op_store' (k := 0) (c' := [.int .i64 ((wi64 (1 + ((max ((p1.2.1, p1.2.2.2.2.2.1, p1.2.2.2.2.2.2.1)).2.1 0).tmod 7)))), .slice m2.1 r2.1.length m2.2.1, .slice m2.2.2.1 r2.2.length m2.2.2.2, .int .i64 ((wi64 (2 + ((max ((p1.2.1, p1.2.2.2.2.2.1, p1.2.2.2.2.2.2.1)).1 0).tmod 10)))), .int .i64 0, .slice none 0 0]) rfl rfl rfl rfl rfl ty235 rfl (Nat.le_of_ble_eq_true rfl) (ones (oc rfl (oc rfl (oc rfl (oc rfl (oc rfl (oc rfl on))))))) rfl ?_)
 refine TrL.nil (qthen_n ?_)
 refine Tr.seq ?_
 refine Tr.region ?_
 refine TrL.v (v_fieldAddr' rfl fo235_3 rfl rfl) rfl rfl (bl rfl) ?_
 refine TrL.v (v_fieldAddr' rfl fo26_0 rfl rfl) rfl rfl (bl rfl) ?_
 refine TrL.v (v_load (k := 0) rfl rfl rfl ty3 (fun _ => rfl) rfl rfl) rfl rfl (bl rfl) ?_
 refine TrL.v (v_fieldAddr' rfl fo235_0 rfl rfl) rfl rfl (bl rfl) ?_
 refine TrL.v (v_load (k := 0) rfl rfl rfl ty3 (fun _ => rfl) rfl rfl) rfl rfl (bl rfl) ?_
 refine TrL.v (v_fieldAddr' rfl fo235_1 rfl rfl) rfl rfl (bl rfl) ?_
 refine TrL.v (v_load (k := 0) rfl rfl rfl ty89 (fun _ => rfl) rfl rfl) rfl rfl (bl rfl) ?_
 refine TrL.v (v_fieldAddr' rfl fo91_2 rfl rfl) rfl rfl (bl rfl) ?_
 refine TrL.v (v_load (k := 2) rfl rfl rfl ty28 (fun _ => rfl) rfl rfl) rfl rfl (bl rfl) ?_
 refine TrL.v (v_rem rfl rfl rfl (by decide)) rfl rfl (bl rfl) ?_
 refine TrL.v (v_arith rfl rfl rfl ar_add_u64) rfl rfl (bl rfl) ?_
 refine TrL.v (v_fieldAddr' rfl fo91_3 rfl rfl) rfl rfl (bl rfl) ?_
 refine TrL.v (v_load (k := 2) rfl rfl rfl ty28 (fun _ => rfl) rfl rfl) rfl rfl (bl rfl) ?_
 refine TrL.v (v_rem rfl rfl rfl (by decide)) rfl rfl (bl rfl) ?_
 refine TrL.v (v_fieldAddr' rfl fo91_4 rfl rfl) rfl rfl (bl rfl) ?_
 refine TrL.v (v_load (k := 2) rfl rfl rfl ty3 (fun _ => rfl) rfl rfl) rfl rfl (bl rfl) ?_
 refine TrL.v (v_max rfl rfl rfl) rfl rfl (bl rfl) ?_
 refine TrL.v (v_rem rfl rfl rfl (by decide)) rfl rfl (bl rfl) ?_
 refine TrL.v (v_arith rfl rfl rfl ar_add_i64) rfl rfl (bl rfl) ?_
 refine TrL.v (v_build (vs := [.int .i64 2, .int .i64 ((wi64 (2 + ((max ((p1.2.1, p1.2.2.2.2.2.1, p1.2.2.2.2.2.2.1)).1 0).tmod 10)))), .int .i64 ((wi64 (1 + ((max ((p1.2.1, p1.2.2.2.2.2.1, p1.2.2.2.2.2.2.1)).2.1 0).tmod 7)))), .slice m2.1 r2.1.length m2.2.1, .int .u64 (wu64 (1 + (p1.2.2.1.tmod 1000))), .int .u64 (p1.2.2.2.1.tmod 100), .int .i64 (wi64 (1 + ((max p1.2.2.2.2.1 0).tmod 7)))]) (out := [.int .i64 2, .int .i64 ((wi64 (2 + ((max ((p1.2.1, p1.2.2.2.2.2.1, p1.2.2.2.2.2.2.1)).1 0).tmod 10)))), .int .u64 (wu64 (1 + (p1.2.2.1.tmod 1000))), .int .u64 (p1.2.2.2.1.tmod 100), .int .i64 (wi64 (1 + ((max p1.2.2.2.2.1 0).tmod 7))), .int .i64 ((wi64 (1 + ((max ((p1.2.1, p1.2.2.2.2.2.1, p1.2.2.2.2.2.2.1)).2.1 0).tmod 7)))), .slice m2.1 r2.1.length m2.2.1, .int .i64 0, .int .i64 0]) rfl pl91 ze91 rfl rfl) rfl rfl (bl rfl) ?_
 refine TrL.cons rfl (op_store' (k := 1) (c' := [.int .i64 2, .int .i64 ((wi64 (2 + ((max ((p1.2.1, p1.2.2.2.2.2.1, p1.2.2.2.2.2.2.1)).1 0).tmod 10)))), .int .u64 (wu64 (1 + (p1.2.2.1.tmod 1000))), .int .u64 (p1.2.2.2.1.tmod 100), .int .i64 (wi64 (1 + ((max p1.2.2.2.2.1 0).tmod 7))), .int .i64 ((wi64 (1 + ((max ((p1.2.1, p1.2.2.2.2.2.1, p1.2.2.2.2.2.2.1)).2.1 0).tmod 7)))), .slice m2.1 r2.1.length m2.2.1, .int .i64 0, .int .i64 0]) rfl rfl rfl rfl rfl ty91 rfl (Nat.le_of_ble_eq_true rfl) (ones (oc rfl (oc rfl (oc rfl (oc rfl (oc rfl (oc rfl (oc rfl (oc rfl (oc rfl on)))))))))) rfl ?_)
 refine TrL.nil (qthen_n ?_)
 have hz := Option.some.inj H
 subst hz
 refine Tr.ret (ret_r ⟨[(2, .pointer (some ⟨b5, 0, none⟩))], [cells b5 [.int .i64 2, .int .i64 ((wi64 (2 + ((max ((p1.2.1, p1.2.2.2.2.2.1, p1.2.2.2.2.2.2.1)).1 0).tmod 10)))), .int .u64 (wu64 (1 + (p1.2.2.1.tmod 1000))), .int .u64 (p1.2.2.2.1.tmod 100), .int .i64 (wi64 (1 + ((max p1.2.2.2.2.1 0).tmod 7))), .int .i64 ((wi64 (1 + ((max ((p1.2.1, p1.2.2.2.2.2.1, p1.2.2.2.2.2.2.1)).2.1 0).tmod 7)))), .slice m2.1 r2.1.length m2.2.1, .int .i64 0, .int .i64 0] 91], [slF rp_u64_u64 m2.1 m2.2.1 r2.1], []⟩ [.agg #[.int .i64 2, .int .i64 ((wi64 (2 + ((max ((p1.2.1, p1.2.2.2.2.2.1, p1.2.2.2.2.2.2.1)).1 0).tmod 10)))), .int .u64 (wu64 (1 + (p1.2.2.1.tmod 1000))), .int .u64 (p1.2.2.2.1.tmod 100), .int .i64 (wi64 (1 + ((max p1.2.2.2.2.1 0).tmod 7))), .int .i64 ((wi64 (1 + ((max ((p1.2.1, p1.2.2.2.2.2.1, p1.2.2.2.2.2.2.1)).2.1 0).tmod 7)))), .slice m2.1 r2.1.length m2.2.1, .int .i64 0, .int .i64 0]] [] [cells b5 [.int .i64 2, .int .i64 ((wi64 (2 + ((max ((p1.2.1, p1.2.2.2.2.2.1, p1.2.2.2.2.2.2.1)).1 0).tmod 10)))), .int .u64 (wu64 (1 + (p1.2.2.1.tmod 1000))), .int .u64 (p1.2.2.2.1.tmod 100), .int .i64 (wi64 (1 + ((max p1.2.2.2.2.1 0).tmod 7))), .int .i64 ((wi64 (1 + ((max ((p1.2.1, p1.2.2.2.2.2.1, p1.2.2.2.2.2.2.1)).2.1 0).tmod 7)))), .slice m2.1 r2.1.length m2.2.1, .int .i64 0, .int .i64 0] 91] (Imp.re _ [1] [1] (sc rfl sn) (by decide) rfl rfl rfl) rfl rfl ⟨((m2.1, m2.2.1)), rfl, rfl, rfl⟩ (.cons (resv_cell (k := 0) rfl rfl ty91 nofun rfl rfl) .nil))
end Go.Proofs.Ytbeknohemgjfbaa.W
