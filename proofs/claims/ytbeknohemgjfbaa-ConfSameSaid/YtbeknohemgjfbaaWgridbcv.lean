import Derived.Test.YtbeknohemgjfbaaKcv
import Derived.Test.YtbeknohemgjfbaaQcv
import Derived.Test.YtbeknohemgjfbaaWhistbcv
import Derived.Test.YtbeknohemgjfbaaWsliceshcv
namespace Go.Proofs.Ytbeknohemgjfbaa.W
open Go Go.Proofs Go.Proofs.Ytbeknohemgjfbaa.L Go.Proofs.Ytbeknohemgjfbaa.Pu
set_option linter.unusedVariables false
set_option maxHeartbeats 4000000

theorem c_grid_New (p1 : Int) (p2 : Int) (p3 : List (Int × Int)) (A1 : Option Addr) (c1 : Nat) (r : Int × (List (Int × Int)) × (List (List (Int × Int × List (List (Int × Int))))) × Int × Int) (H : grid_New p1 p2 p3 = some r) :
  Ctr Try.prog 151 [.int .i64 p1, .int .i64 p2, .slice A1 p3.length c1] [] [slF rp_u64_u64 A1 c1 p3] (fun ret M' F' => ∃ m : Option Addr × Nat × Option Addr × Nat, ret = .tuple #[.agg #[.int .i64 r.1, .slice m.1 r.2.1.length m.2.1, .slice m.2.2.1 r.2.2.1.length m.2.2.2, .int .i64 r.2.2.2.1, .int .i64 0, .slice none 0 0], .int .i64 r.2.2.2.2] ∧ M' = [] ∧ F' = [slF rp_u64_u64 m.1 m.2.1 r.2.1, slF (rSl rp_i64_i64_LLOu64_u64_C) m.2.2.1 m.2.2.2 r.2.2.1, slF (rSl rp_u64_u64) none 0 (([] : List (List (Int × Int))))]) := by
 unfold grid_New at H
 refine ctr_ofI (N := 65) Try.func151 rfl Try.ntmps151 rfl (Nat.le_of_ble_eq_true rfl) (fun γ0 w0 => ?_)
 refine Tr.seq ?_
 refine Tr.region ?_
 refine TrL.cons rfl (op_alloc' rfl (bl rfl) rfl ze162 (fun b8 => ?_))
 refine TrL.v (v_assign rfl rfl) rfl rfl (bl rfl) ?_
 refine TrL.nil (qthen_n ?_)
 refine Tr.seq ?_
 refine Tr.region ?_
 refine TrL.v (v_move rfl rfl) rfl rfl (bl rfl) ?_
 obtain ⟨r10, hr10, H⟩ := bnd H
 refine TrL.cons rfl (op_call0' (vs := [.int .i64 p1]) (cap := []) [] rfl rfl (bl rfl) rfl rfl en150 (c_hist_New p1 r10 hr10) rfl (fun ret M' F' hR14 => ?_))
 obtain ⟨rfl, rfl, rfl⟩ := hR14
 refine TrL.v (v_move rfl rfl) rfl rfl (bl rfl) ?_
 refine TrL.v (v_extract rfl rfl rfl) rfl rfl (bl rfl) ?_
 refine TrL.v (v_extract rfl rfl rfl) rfl rfl (bl rfl) ?_
 refine TrL.cons rfl (op_alloc' rfl (bl rfl) rfl ze35 (fun b9 => ?_))
 refine TrL.cons rfl (op_store' (k := 0) (c' := [.int .i64 r10.1, .int .i64 0, .slice none 0 0]) rfl rfl rfl rfl rfl ty35 rfl (Nat.le_of_ble_eq_true rfl) (ones (oc rfl (oc rfl (oc rfl on)))) rfl ?_)
 refine TrL.v (v_assign rfl rfl) rfl rfl (bl rfl) ?_
 refine TrL.nil (qthen_n ?_)
 refine Tr.seq ?_
 obtain ⟨j2, hj2, H⟩ := bnd H
 refine Tr.cutE (D := Bool) (M := Unit) .normal (fun _d => j2 = _d) (fun j2 m21 => ⟨[(1, .int .i64 p2), (2, .slice A1 p3.length c1), (6, .pointer (some ⟨b8, 0, none⟩)), (8, .pointer (some ⟨b9, 0, none⟩)), (9, .int .i64 r10.2), (10, .bool j2)], [cells b8 [.int .i64 0, .slice none 0 0, .slice none 0 0, .int .i64 0, .int .i64 0, .slice none 0 0] 162, cells b9 [.int .i64 r10.1, .int .i64 0, .slice none 0 0] 35], [slF rp_u64_u64 A1 c1 p3, slF rp_u64_u64 none 0 (([] : List (Int × Int))), slF (rSl rp_i64_i64_LLOu64_u64_C) none 0 (([] : List (List (Int × Int × List (List (Int × Int)))))), slF (rSl rp_u64_u64) none 0 (([] : List (List (Int × Int))))], []⟩) ?_ (fun j2 m21 hd3 => ?_)
 ·refine Tr.region ?_
  refine TrL.v (v_move rfl rfl) rfl rfl (bl rfl) ?_
  refine TrL.v (v_arith rfl rfl rfl ar_geq) rfl rfl (bl rfl) ?_
  refine TrL.v (v_move rfl rfl) rfl rfl (bl rfl) ?_
  rcases ifc hj2 with ⟨h29, hj2⟩ | ⟨h29, hj2⟩
  ·refine TrL.cons_yes rfl rfl rfl (bt_dec h29) (OpTr.v (v_move rfl rfl) rfl (bl rfl) ?_)
   refine TrL.cons_yes rfl rfl rfl (bt_dec h29) (OpTr.v (v_arith rfl rfl rfl ar_leq) rfl (bl rfl) ?_)
   refine TrL.v (v_pick_t rfl rfl (bt_dec h29) rfl) rfl rfl (bl rfl) ?_
   refine TrL.v (v_move rfl rfl) rfl rfl (bl rfl) ?_
   rcases ifc hj2 with ⟨h30, hj2⟩ | ⟨h30, hj2⟩
   ·refine TrL.cons_yes rfl rfl rfl (bt_dec h30) (OpTr.v (v_move rfl rfl) rfl (bl rfl) ?_)
    refine TrL.cons_yes rfl rfl rfl (bt_dec h30) (OpTr.v (v_len rfl sl89 rfl) rfl (bl rfl) ?_)
    refine TrL.cons_yes rfl rfl rfl (bt_dec h30) (OpTr.v (v_arith rfl rfl rfl ar_geq) rfl (bl rfl) ?_)
    refine TrL.v (v_pick_t rfl rfl (bt_dec h30) rfl) rfl rfl (bl rfl) ?_
    refine TrL.v (v_move rfl rfl) rfl rfl (bl rfl) ?_
    rcases ifc hj2 with ⟨h31, hj2⟩ | ⟨h31, hj2⟩
    ·refine TrL.cons_yes rfl rfl rfl (bt_dec h31) (OpTr.v (v_move rfl rfl) rfl (bl rfl) ?_)
     refine TrL.cons_yes rfl rfl rfl (bt_dec h31) (OpTr.v (v_len rfl sl89 rfl) rfl (bl rfl) ?_)
     refine TrL.cons_yes rfl rfl rfl (bt_dec h31) (OpTr.v (v_arith rfl rfl rfl ar_leq) rfl (bl rfl) ?_)
     refine TrL.v (v_pick_t rfl rfl (bt_dec h31) rfl) rfl rfl (bl rfl) ?_
     refine TrL.v (v_assign rfl rfl) rfl rfl (bl rfl) ?_
     refine TrL.nil (qcut_hit (decide (((p3.length : Int)) ≤ 8)) (()) (Option.some.inj hj2).symm (Imp.addF' _ (nilF rp_u64_u64) (Imp.addF' _ (nilF (rSl rp_i64_i64_LLOu64_u64_C)) (Imp.re _ [1, 0] [0, 2, 3, 1] (sc rfl (sc rfl (sc rfl (sc rfl (sc rfl (sc rfl sn)))))) (by decide) rfl rfl rfl))))
    ·refine TrL.cons_no rfl rfl rfl (gn_t (bf_dec h31)) rfl (bl rfl) ?_
     refine TrL.cons_no rfl rfl rfl (gn_t (bf_dec h31)) rfl (bl rfl) ?_
     refine TrL.cons_no rfl rfl rfl (gn_t (bf_dec h31)) rfl (bl rfl) ?_
     refine TrL.v (v_pick_f rfl rfl (bf_dec h31) rfl) rfl rfl (bl rfl) ?_
     refine TrL.v (v_assign rfl rfl) rfl rfl (bl rfl) ?_
     refine TrL.nil (qcut_hit false (()) (Option.some.inj hj2).symm (Imp.addF' _ (nilF rp_u64_u64) (Imp.addF' _ (nilF (rSl rp_i64_i64_LLOu64_u64_C)) (Imp.re _ [1, 0] [0, 2, 3, 1] (sc rfl (sc rfl (sc rfl (sc rfl (sc rfl (sc rfl sn)))))) (by decide) rfl rfl rfl))))
   ·refine TrL.cons_no rfl rfl rfl (gn_t (bf_dec h30)) rfl (bl rfl) ?_
    refine TrL.cons_no rfl rfl rfl (gn_t (bf_dec h30)) rfl (bl rfl) ?_
    refine TrL.cons_no rfl rfl rfl (gn_t (bf_dec h30)) rfl (bl rfl) ?_
    refine TrL.v (v_pick_f rfl rfl (bf_dec h30) rfl) rfl rfl (bl rfl) ?_
    refine TrL.v (v_move rfl rfl) rfl rfl (bl rfl) ?_
    refine TrL.cons_no rfl rfl rfl (gn_t rfl) rfl (bl rfl) ?_
    refine TrL.cons_no rfl rfl rfl (gn_t rfl) rfl (bl rfl) ?_
    refine TrL.cons_no rfl rfl rfl (gn_t rfl) rfl (bl rfl) ?_
    refine TrL.v (v_pick_f rfl rfl rfl rfl) rfl rfl (bl rfl) ?_
    refine TrL.v (v_assign rfl rfl) rfl rfl (bl rfl) ?_
    refine TrL.nil (qcut_hit false (()) (Option.some.inj hj2).symm (Imp.addF' _ (nilF rp_u64_u64) (Imp.addF' _ (nilF (rSl rp_i64_i64_LLOu64_u64_C)) (Imp.re _ [1, 0] [0, 2, 3, 1] (sc rfl (sc rfl (sc rfl (sc rfl (sc rfl (sc rfl sn)))))) (by decide) rfl rfl rfl))))
  ·refine TrL.cons_no rfl rfl rfl (gn_t (bf_dec h29)) rfl (bl rfl) ?_
   refine TrL.cons_no rfl rfl rfl (gn_t (bf_dec h29)) rfl (bl rfl) ?_
   refine TrL.v (v_pick_f rfl rfl (bf_dec h29) rfl) rfl rfl (bl rfl) ?_
   refine TrL.v (v_move rfl rfl) rfl rfl (bl rfl) ?_
   refine TrL.cons_no rfl rfl rfl (gn_t rfl) rfl (bl rfl) ?_
   refine TrL.cons_no rfl rfl rfl (gn_t rfl) rfl (bl rfl) ?_
   refine TrL.cons_no rfl rfl rfl (gn_t rfl) rfl (bl rfl) ?_
   refine TrL.v (v_pick_f rfl rfl rfl rfl) rfl rfl (bl rfl) ?_
   refine TrL.v (v_move rfl rfl) rfl rfl (bl rfl) ?_
   refine TrL.cons_no rfl rfl rfl (gn_t rfl) rfl (bl rfl) ?_
   refine TrL.cons_no rfl rfl rfl (gn_t rfl) rfl (bl rfl) ?_
   refine TrL.cons_no rfl rfl rfl (gn_t rfl) rfl (bl rfl) ?_
   refine TrL.v (v_pick_f rfl rfl rfl rfl) rfl rfl (bl rfl) ?_
   refine TrL.v (v_assign rfl rfl) rfl rfl (bl rfl) ?_
   refine TrL.nil (qcut_hit false (()) (Option.some.inj hj2).symm (Imp.addF' _ (nilF rp_u64_u64) (Imp.addF' _ (nilF (rSl rp_i64_i64_LLOu64_u64_C)) (Imp.re _ [1, 0] [0, 2, 3, 1] (sc rfl (sc rfl (sc rfl (sc rfl (sc rfl (sc rfl sn)))))) (by decide) rfl rfl rfl))))
 ·subst hd3
  refine (qthen_n ?_)
  refine Tr.seq ?_
  refine Tr.block ?_
  refine Tr.seq ?_
  refine Tr.region ?_
  refine TrL.v (v_move rfl rfl) rfl rfl (bl rfl) ?_
  refine TrL.v (v_arith rfl rfl rfl ar_neq) rfl rfl (bl rfl) ?_
  refine TrL.v (v_move rfl rfl) rfl rfl (bl rfl) ?_
  rcases ifc H with ⟨h33, H⟩ | ⟨h33, H⟩
  ·refine TrL.cons_no rfl rfl rfl (gn_f (bt_dec h33)) rfl (bl rfl) ?_
   refine TrL.cons_no rfl rfl rfl (gn_f (bt_dec h33)) rfl (bl rfl) ?_
   refine TrL.v (v_pick_t rfl rfl (bt_dec h33) rfl) rfl rfl (bl rfl) ?_
   refine TrL.v (v_assign rfl rfl) rfl rfl (bl rfl) ?_
   refine TrL.nil (qthen_n ?_)
   refine Tr.cond_t rfl rfl ?_
   refine Tr.seq ?_
   refine Tr.region ?_
   refine TrL.v (v_build (vs := []) (out := [.int .i64 0, .slice none 0 0, .slice none 0 0, .int .i64 0, .int .i64 0, .slice none 0 0]) rfl pl162 ze162 rfl rfl) rfl rfl (bl rfl) ?_
   refine TrL.cons rfl (op_store' (k := 0) (c' := [.int .i64 0, .slice none 0 0, .slice none 0 0, .int .i64 0, .int .i64 0, .slice none 0 0]) rfl rfl rfl rfl rfl ty162 rfl (Nat.le_of_ble_eq_true rfl) (ones (oc rfl (oc rfl (oc rfl (oc rfl (oc rfl (oc rfl on))))))) rfl ?_)
   refine TrL.v (v_assign rfl rfl) rfl rfl (bl rfl) ?_
   refine TrL.nil (qthen_n ?_)
   have hz := Option.some.inj H
   subst hz
   refine Tr.ret (qblock_r (qthen_r (ret_r ⟨[(6, .pointer (some ⟨b8, 0, none⟩)), (7, .int .i64 9)], [cells b8 [.int .i64 0, .slice none 0 0, .slice none 0 0, .int .i64 0, .int .i64 0, .slice none 0 0] 162], [slF rp_u64_u64 none 0 (([] : List (Int × Int))), slF (rSl rp_i64_i64_LLOu64_u64_C) none 0 (([] : List (List (Int × Int × List (List (Int × Int)))))), slF (rSl rp_u64_u64) none 0 (([] : List (List (Int × Int))))], []⟩ [.agg #[.int .i64 0, .slice none 0 0, .slice none 0 0, .int .i64 0, .int .i64 0, .slice none 0 0], .int .i64 9] [] [cells b8 [.int .i64 0, .slice none 0 0, .slice none 0 0, .int .i64 0, .int .i64 0, .slice none 0 0] 162] (Imp.re _ [0] [1, 2, 3] (sc rfl (sc rfl sn)) (by decide) rfl rfl rfl) rfl rfl ⟨((none, 0, none, 0)), rfl, rfl, rfl⟩ (.cons (resv_cell (k := 0) rfl rfl ty162 nofun rfl rfl) (.cons (resv_tmp rfl) .nil)))))
  ·refine TrL.cons_yes rfl rfl rfl (bf_dec h33) (OpTr.v (v_move rfl rfl) rfl (bl rfl) ?_)
   refine TrL.cons_yes rfl rfl rfl (bf_dec h33) (OpTr.v (v_notd rfl (bdec rfl)) rfl (bl rfl) ?_)
   refine TrL.v (v_pick_f rfl rfl (bf_dec h33) rfl) rfl rfl (bl rfl) ?_
   refine TrL.v (v_assign rfl rfl) rfl rfl (bl rfl) ?_
   refine TrL.nil (qthen_n ?_)
   rcases ifc H with ⟨h34, H⟩ | ⟨h34, H⟩
   ·refine Tr.cond_t rfl (bt_dec h34) ?_
    refine Tr.seq ?_
    refine Tr.region ?_
    refine TrL.v (v_build (vs := []) (out := [.int .i64 0, .slice none 0 0, .slice none 0 0, .int .i64 0, .int .i64 0, .slice none 0 0]) rfl pl162 ze162 rfl rfl) rfl rfl (bl rfl) ?_
    refine TrL.cons rfl (op_store' (k := 0) (c' := [.int .i64 0, .slice none 0 0, .slice none 0 0, .int .i64 0, .int .i64 0, .slice none 0 0]) rfl rfl rfl rfl rfl ty162 rfl (Nat.le_of_ble_eq_true rfl) (ones (oc rfl (oc rfl (oc rfl (oc rfl (oc rfl (oc rfl on))))))) rfl ?_)
    refine TrL.v (v_assign rfl rfl) rfl rfl (bl rfl) ?_
    refine TrL.nil (qthen_n ?_)
    have hz := Option.some.inj H
    subst hz
    refine Tr.ret (qblock_r (qthen_r (ret_r ⟨[(6, .pointer (some ⟨b8, 0, none⟩)), (7, .int .i64 9)], [cells b8 [.int .i64 0, .slice none 0 0, .slice none 0 0, .int .i64 0, .int .i64 0, .slice none 0 0] 162], [slF rp_u64_u64 none 0 (([] : List (Int × Int))), slF (rSl rp_i64_i64_LLOu64_u64_C) none 0 (([] : List (List (Int × Int × List (List (Int × Int)))))), slF (rSl rp_u64_u64) none 0 (([] : List (List (Int × Int))))], []⟩ [.agg #[.int .i64 0, .slice none 0 0, .slice none 0 0, .int .i64 0, .int .i64 0, .slice none 0 0], .int .i64 9] [] [cells b8 [.int .i64 0, .slice none 0 0, .slice none 0 0, .int .i64 0, .int .i64 0, .slice none 0 0] 162] (Imp.re _ [0] [1, 2, 3] (sc rfl (sc rfl sn)) (by decide) rfl rfl rfl) rfl rfl ⟨((none, 0, none, 0)), rfl, rfl, rfl⟩ (.cons (resv_cell (k := 0) rfl rfl ty162 nofun rfl rfl) (.cons (resv_tmp rfl) .nil)))))
   ·refine Tr.cond_f rfl (bf_dec h34) ?_
    refine Tr.seq ?_
    refine Tr.region ?_
    refine TrL.v (v_move rfl rfl) rfl rfl (bl rfl) ?_
    obtain ⟨r11, hr11, H⟩ := bnd H
    refine TrL.cons rfl (op_call0' (vs := [.slice A1 p3.length c1, .func (.func 175) #[] #[]]) (cap := []) [0] rfl rfl (bl rfl) rfl rfl en174 (c_slices_ContainsFunc_Seed p3 A1 c1 r11 hr11) rfl (fun ret M' F' hR15 => ?_))
    obtain ⟨rfl, rfl, rfl⟩ := hR15
    refine TrL.v (v_assign rfl rfl) rfl rfl (bl rfl) ?_
    refine TrL.nil (qthen_n ?_)
    rcases ifc H with ⟨h35, H⟩ | ⟨h35, H⟩
    ·refine Tr.cond_t rfl h35 ?_
     refine Tr.seq ?_
     refine Tr.region ?_
     refine TrL.v (v_build (vs := []) (out := [.int .i64 0, .slice none 0 0, .slice none 0 0, .int .i64 0, .int .i64 0, .slice none 0 0]) rfl pl162 ze162 rfl rfl) rfl rfl (bl rfl) ?_
     refine TrL.cons rfl (op_store' (k := 0) (c' := [.int .i64 0, .slice none 0 0, .slice none 0 0, .int .i64 0, .int .i64 0, .slice none 0 0]) rfl rfl rfl rfl rfl ty162 rfl (Nat.le_of_ble_eq_true rfl) (ones (oc rfl (oc rfl (oc rfl (oc rfl (oc rfl (oc rfl on))))))) rfl ?_)
     refine TrL.v (v_assign rfl rfl) rfl rfl (bl rfl) ?_
     refine TrL.nil (qthen_n ?_)
     have hz := Option.some.inj H
     subst hz
     refine Tr.ret (qblock_r (qthen_r (ret_r ⟨[(6, .pointer (some ⟨b8, 0, none⟩)), (7, .int .i64 1)], [cells b8 [.int .i64 0, .slice none 0 0, .slice none 0 0, .int .i64 0, .int .i64 0, .slice none 0 0] 162], [slF rp_u64_u64 none 0 (([] : List (Int × Int))), slF (rSl rp_i64_i64_LLOu64_u64_C) none 0 (([] : List (List (Int × Int × List (List (Int × Int)))))), slF (rSl rp_u64_u64) none 0 (([] : List (List (Int × Int))))], []⟩ [.agg #[.int .i64 0, .slice none 0 0, .slice none 0 0, .int .i64 0, .int .i64 0, .slice none 0 0], .int .i64 1] [] [cells b8 [.int .i64 0, .slice none 0 0, .slice none 0 0, .int .i64 0, .int .i64 0, .slice none 0 0] 162] (Imp.re _ [0] [1, 2, 3] (sc rfl (sc rfl sn)) (by decide) rfl rfl rfl) rfl rfl ⟨((none, 0, none, 0)), rfl, rfl, rfl⟩ (.cons (resv_cell (k := 0) rfl rfl ty162 nofun rfl rfl) (.cons (resv_tmp rfl) .nil)))))
    ·refine Tr.cond_f rfl (bf_b h35) ?_
     refine Tr.skip (qblock_n (qthen_n ?_))
     refine Tr.seq ?_
     refine Tr.regionD drawn (fun hok => ?_)
     obtain ⟨r12, hr12, H⟩ := bnd H
     refine TrAny.cut (ι := Nat × Option Addr × Nat) (fun m26 => ⟨[(1, .int .i64 p2), (2, .slice A1 p3.length c1), (6, .pointer (some ⟨b8, 0, none⟩)), (8, .pointer (some ⟨b9, 0, none⟩)), (11, .pointer (some ⟨m26.1, 0, none⟩))], [cells b8 [.int .i64 0, .slice none 0 0, .slice none 0 0, .int .i64 0, .int .i64 0, .slice none 0 0] 162, cells b9 [.int .i64 r10.1, .int .i64 0, .slice none 0 0] 35, cells m26.1 [.int .i64 p2, .slice m26.2.1 r12.length m26.2.2, .slice none 0 0, .int .i64 r10.1, .int .i64 0, .slice none 0 0] 162], [slF rp_u64_u64 A1 c1 p3, slF rp_u64_u64 none 0 (([] : List (Int × Int))), slF (rSl rp_i64_i64_LLOu64_u64_C) none 0 (([] : List (List (Int × Int × List (List (Int × Int)))))), slF (rSl rp_u64_u64) none 0 (([] : List (List (Int × Int)))), slF rp_u64_u64 m26.2.1 m26.2.2 r12], []⟩) ?_ (fun m26 => ?_)
     ·refine TrAny.prom (i := 0) (d := 45) hok (OpVal.plain rfl rfl (v_move rfl rfl)) (by kernel_rfl) rfl (bl rfl) ?_
      clear hok
      intro hok
      refine TrAny.prom (i := 1) (d := 46) hok (OpVal.plain rfl rfl (v_move rfl rfl)) (by kernel_rfl) rfl (bl rfl) ?_
      clear hok
      intro hok
      refine TrAny.prom (i := 3) (d := 48) hok (OpVal.plain rfl rfl (v_load (k := 1) rfl rfl rfl ty35 nofun rfl rfl)) (by kernel_rfl) rfl (bl rfl) ?_
      clear hok
      intro hok
      refine TrAny.fork [2, 5] (by kernel_rfl) hok ⟨2, by decide, bl rfl⟩ (by kernel_rfl) (.cons ?_ (.cons ?_ .nil))
      ·refine step_n rfl (by kernel_rfl) rfl (op_call0' (vs := [.slice A1 p3.length c1]) (cap := []) [0] rfl rfl (bl rfl) rfl rfl en177 (c_slices_Clone_Seed p3 A1 c1 r12 hr12) rfl (fun ret M' F' hR19 => ?_))
       obtain ⟨m27, rfl, rfl, rfl⟩ := hR19
       refine nxp hok (kp_imp (kp_c0 rfl)) rfl (by kernel_rfl) ?_
       clear hok
       intro hok
       refine TrAny.prom (i := 4) (d := 49) hok (OpVal.plain rfl rfl (v_build (vs := [.int .i64 p2, .slice m27.1 r12.length m27.2, .agg #[.int .i64 r10.1, .int .i64 0, .slice none 0 0]]) (out := [.int .i64 p2, .slice m27.1 r12.length m27.2, .slice none 0 0, .int .i64 r10.1, .int .i64 0, .slice none 0 0]) rfl pl162 ze162 rfl rfl)) (by kernel_rfl) rfl (bl rfl) ?_
       clear hok
       intro hok
       refine TrAny.next (j := 5) (by kernel_rfl) hok rfl (by kernel_rfl) (op_alloc' rfl (bl rfl) rfl ze162 (fun b13 => ?_))
       refine nxp hok (kp_imp (kp_cm rfl)) rfl (by kernel_rfl) ?_
       clear hok
       intro hok
       refine TrAny.next (j := 6) (by kernel_rfl) hok rfl (by kernel_rfl) (op_store' (k := 0) (c' := [.int .i64 p2, .slice m27.1 r12.length m27.2, .slice none 0 0, .int .i64 r10.1, .int .i64 0, .slice none 0 0]) rfl rfl rfl rfl rfl ty162 rfl (Nat.le_of_ble_eq_true rfl) (ones (oc rfl (oc rfl (oc rfl (oc rfl (oc rfl (oc rfl on))))))) rfl ?_)
       refine nxs hok (kp_aw (by kernel_rfl)) rfl ?_
       clear hok
       intro hok
       refine TrAny.done (by kernel_rfl) (by kernel_rfl) hok (by kernel_rfl) (⟨(b13, m27.1, m27.2), Imp.re _ [1, 2, 0] [0, 1, 2, 3, 4] (sc rfl (sc rfl (sc rfl (sc rfl (sc rfl sn))))) (by decide) rfl rfl rfl⟩)
      ·refine step_n rfl (by kernel_rfl) rfl (op_alloc' rfl (bl rfl) rfl ze162 (fun b14 => ?_))
       refine nxp hok (kp_imp (kp_cm rfl)) rfl (by kernel_rfl) ?_
       clear hok
       intro hok
       refine TrAny.next (j := 2) (by kernel_rfl) hok rfl (by kernel_rfl) (op_call0' (vs := [.slice A1 p3.length c1]) (cap := []) [0] rfl rfl (bl rfl) rfl rfl en177 (c_slices_Clone_Seed p3 A1 c1 r12 hr12) rfl (fun ret M' F' hR20 => ?_))
       obtain ⟨m28, rfl, rfl, rfl⟩ := hR20
       refine nxp hok (kp_imp (kp_c0 rfl)) rfl (by kernel_rfl) ?_
       clear hok
       intro hok
       refine TrAny.prom (i := 4) (d := 49) hok (OpVal.plain rfl rfl (v_build (vs := [.int .i64 p2, .slice m28.1 r12.length m28.2, .agg #[.int .i64 r10.1, .int .i64 0, .slice none 0 0]]) (out := [.int .i64 p2, .slice m28.1 r12.length m28.2, .slice none 0 0, .int .i64 r10.1, .int .i64 0, .slice none 0 0]) rfl pl162 ze162 rfl rfl)) (by kernel_rfl) rfl (bl rfl) ?_
       clear hok
       intro hok
       refine TrAny.next (j := 6) (by kernel_rfl) hok rfl (by kernel_rfl) (op_store' (k := 0) (c' := [.int .i64 p2, .slice m28.1 r12.length m28.2, .slice none 0 0, .int .i64 r10.1, .int .i64 0, .slice none 0 0]) rfl rfl rfl rfl rfl ty162 rfl (Nat.le_of_ble_eq_true rfl) (ones (oc rfl (oc rfl (oc rfl (oc rfl (oc rfl (oc rfl on))))))) rfl ?_)
       refine nxs hok (kp_aw (by kernel_rfl)) rfl ?_
       clear hok
       intro hok
       refine TrAny.done (by kernel_rfl) (by kernel_rfl) hok (by kernel_rfl) (⟨(b14, m28.1, m28.2), Imp.re _ [1, 2, 0] [0, 1, 2, 3, 4] (sc rfl (sc rfl (sc rfl (sc rfl (sc rfl sn))))) (by decide) rfl rfl rfl⟩)
     ·refine (qthen_n ?_)
      refine Tr.seq ?_
      refine Tr.seq ?_
      refine Tr.region ?_
      refine TrL.v (v_move rfl rfl) rfl rfl (bl rfl) ?_
      refine TrL.v (v_len rfl sl89 rfl) rfl rfl (bl rfl) ?_
      refine TrL.v (v_move rfl rfl) rfl rfl (bl rfl) ?_
      refine TrL.nil (qthen_n ?_)
      obtain ⟨x2, hx3, H⟩ := bnd H
      refine Tr.cutE (D := List (List (Int × Int × List (List (Int × Int))))) (M := Option Addr × Nat × Option Nat) .normal (fun _d => x2 = _d) (fun x2 m36 => ⟨[(6, .pointer (some ⟨b8, 0, none⟩)), (11, .pointer (some ⟨m26.1, 0, none⟩))], [cells b8 [.int .i64 0, .slice none 0 0, .slice none 0 0, .int .i64 0, .int .i64 0, .slice none 0 0] 162, cells m26.1 [.int .i64 p2, .slice m26.2.1 r12.length m26.2.2, .slice m36.1 x2.length m36.2.1, .int .i64 r10.1, .int .i64 0, .slice none 0 0] 162, grow 266 1 (.slice m36.1 x2.length m36.2.1) x2.length m36.2.2], [slF rp_u64_u64 none 0 (([] : List (Int × Int))), slF (rSl rp_i64_i64_LLOu64_u64_C) none 0 (([] : List (List (Int × Int × List (List (Int × Int)))))), slF (rSl rp_u64_u64) none 0 (([] : List (List (Int × Int)))), slF rp_u64_u64 m26.2.1 m26.2.2 r12, slF (rSl rp_i64_i64_LLOu64_u64_C) m36.1 m36.2.1 x2], []⟩) ?_ (fun x2 m36 hd4 => ?_)
      ·refine Tr.block (Tr.loopI (ι := Option Addr × Nat × Option Nat) (step := grid_New_s0 p2 p3 r10) (fun s5 m32 => ⟨[(1, .int .i64 p2), (6, .pointer (some ⟨b8, 0, none⟩)), (8, .pointer (some ⟨b9, 0, none⟩)), (11, .pointer (some ⟨m26.1, 0, none⟩)), (51, .int .i64 ((p3.length : Int))), (52, .int .i64 s5.1)], [cells b8 [.int .i64 0, .slice none 0 0, .slice none 0 0, .int .i64 0, .int .i64 0, .slice none 0 0] 162, cells b9 [.int .i64 r10.1, .int .i64 0, .slice none 0 0] 35, cells m26.1 [.int .i64 p2, .slice m26.2.1 r12.length m26.2.2, .slice m32.1 s5.2.length m32.2.1, .int .i64 r10.1, .int .i64 0, .slice none 0 0] 162, grow 266 1 (.slice m32.1 s5.2.length m32.2.1) s5.2.length m32.2.2], [slF rp_u64_u64 none 0 (([] : List (Int × Int))), slF (rSl rp_i64_i64_LLOu64_u64_C) none 0 (([] : List (List (Int × Int × List (List (Int × Int)))))), slF (rSl rp_u64_u64) none 0 (([] : List (List (Int × Int)))), slF rp_u64_u64 m26.2.1 m26.2.2 r12, slF (rSl rp_i64_i64_LLOu64_u64_C) m32.1 m32.2.1 s5.2], []⟩) ((none, 0, none)) hx3 (Imp.full' (E := 266) (sz := 1) (A := none) (n := 0) (Imp.re _ [1, 2, 3, 0] [1, 2, 3, 4, 2] (sc rfl (sc rfl (sc rfl (sc rfl (sc rfl (sc rfl sn)))))) (by decide) rfl rfl rfl)) (fun s5 m32 y2 hy2 hx4 => ?_))
       unfold grid_New_s0 at hy2
       refine Tr.seq ?_
       refine Tr.region ?_
       refine TrL.v (v_arith rfl rfl rfl ar_lss) rfl rfl (bl rfl) ?_
       refine TrL.nil (qthen_n ?_)
       refine Tr.seq ?_
       rcases ifc hy2 with ⟨h42, hy2⟩ | ⟨h42, hy2⟩
       ·refine Tr.cond_t rfl (bt_dec h42) ?_
        refine Tr.skip (qthen_n ?_)
        refine Tr.seq ?_
        refine Tr.block ?_
        refine Tr.regionD drawn (fun hok => ?_)
        refine TrAny.prom (i := 0) (d := 54) hok (OpVal.plain rfl rfl (v_fieldAddr' rfl fo162_2 rfl rfl)) (by kernel_rfl) rfl (bl rfl) ?_
        clear hok
        intro hok
        refine TrAny.prom (i := 1) (d := 55) hok (OpVal.plain rfl rfl (v_load (k := 2) rfl rfl rfl ty160 (fun _ => rfl) rfl rfl)) (by kernel_rfl) rfl (bl rfl) ?_
        clear hok
        intro hok
        refine TrAny.prom (i := 2) (d := 56) hok (OpVal.plain rfl rfl (v_load (k := 1) rfl rfl rfl ty35 nofun rfl rfl)) (by kernel_rfl) rfl (bl rfl) ?_
        clear hok
        intro hok
        refine TrAny.prom (i := 4) (d := 58) hok (OpVal.plain rfl rfl (v_move rfl rfl)) (by kernel_rfl) rfl (bl rfl) ?_
        clear hok
        intro hok
        refine TrAny.prom (i := 8) (d := 62) hok (OpVal.plain rfl rfl (v_fieldAddr' rfl fo162_2 rfl rfl)) (by kernel_rfl) rfl (bl rfl) ?_
        clear hok
        intro hok
        refine TrAny.next (j := 3) (by kernel_rfl) hok rfl (by kernel_rfl) (op_buildSlice' (rp := rp_i64_i64_LLOu64_u64_C) (xs := [(r10.1, (0 : Int), ([] : List (List (Int × Int))))]) (vs := [.agg #[.int .i64 r10.1, .int .i64 0, .slice none 0 0]]) (out := [.int .i64 r10.1, .int .i64 0, .slice none 0 0]) rfl (bl rfl) rfl sl266 ty35 ze35 rfl rfl (by decide) (by decide) rfl (fun γ w hF => (rowc ⟨(none, 0), rfl, (fcc (hF _ (List.mem_of_getElem? (i := 2) rfl)) fcn)⟩ rown rfl)) (fun A35 => ?_))
        refine nxp hok (kp_imp (kp_cf rfl)) rfl (by kernel_rfl) ?_
        clear hok
        intro hok
        obtain ⟨r18, hr18, hy2⟩ := bnd hy2
        refine TrAny.next (j := 5) (by kernel_rfl) hok rfl (by kernel_rfl) (op_call0' (vs := [.slice A35 1 1, .int .i64 p2]) (cap := []) [5] rfl rfl (bl rfl) rfl rfl en178 (c_slices_Repeat_Hist ([(r10.1, (0 : Int), ([] : List (List (Int × Int))))]) p2 A35 1 r18 hr18) rfl (fun ret M' F' hR26 => ?_))
        obtain ⟨m38, rfl, rfl, rfl⟩ := hR26
        refine nxp hok (kp_imp (kp_c0 rfl)) rfl (by kernel_rfl) ?_
        clear hok
        intro hok
        refine TrAny.next (j := 6) (by kernel_rfl) hok rfl (by kernel_rfl) (op_buildSlice' (rp := (rSl rp_i64_i64_LLOu64_u64_C)) (xs := [r18]) (vs := [.slice m38.1 r18.length m38.2]) (out := [.slice m38.1 r18.length m38.2]) rfl (bl rfl) rfl sl160 ty266 ze266 rfl rfl (by decide) (by decide) rfl (fun γ w hF => (rowc ⟨_, _, rfl, hF _ (List.mem_of_getElem? (i := 6) rfl)⟩ rown rfl)) (fun A36 => ?_))
        refine nxp hok (kp_imp (kp_cf rfl)) rfl (by kernel_rfl) ?_
        clear hok
        intro hok
        obtain ⟨h44, hy2⟩ := rom hy2
        refine TrAny.next (j := 7) (by kernel_rfl) hok rfl (by kernel_rfl) (op_append' (rp := (rSl rp_i64_i64_LLOu64_u64_C)) (xs := s5.2) (ys := [r18]) (k := 3) (kx := 4) (ky := 7) rfl (bl rfl) rfl sl160 ty266 ze266 rfl by266 rfl rfl rfl rfl rfl rfl rfl h44.1 h44.2 (fun A37 c13 o12 => ?_))
        refine nxp hok (kp_all (ac (.inr (OpVal.plain rfl rfl (v_fieldAddr' rfl fo162_2 rfl rfl))) (ac (.inl (by kernel_rfl)) (ac (.inr (OpVal.plain rfl rfl (v_load (k := 1) rfl rfl rfl ty35 nofun rfl rfl))) (ac (.inr (OpVal.plain rfl rfl (v_move rfl rfl))) (ac (.inr (OpVal.plain rfl rfl (v_fieldAddr' rfl fo162_2 rfl rfl))) an)))))) rfl (by kernel_rfl) ?_
        clear hok
        intro hok
        refine TrAny.next (j := 9) (by kernel_rfl) hok rfl (by kernel_rfl) (op_store' (k := 2) (c' := [.int .i64 p2, .slice m26.2.1 r12.length m26.2.2, .slice A37 ((s5.2 ++ ([r18])).length) c13, .int .i64 r10.1, .int .i64 0, .slice none 0 0]) rfl rfl rfl rfl rfl ty160 rfl (Nat.le_of_ble_eq_true rfl) (ones (oc rfl on)) rfl ?_)
        refine nxs hok (kp_aw (by kernel_rfl)) rfl ?_
        clear hok
        intro hok
        refine TrAny.done (by kernel_rfl) (by kernel_rfl) hok (by kernel_rfl) (qblock_n (qthen_n ?_))
        refine Tr.region ?_
        refine TrL.v (v_arith rfl rfl rfl ar_add_i64) rfl rfl (bl rfl) ?_
        refine TrL.v (v_move rfl rfl) rfl rfl (bl rfl) ?_
        have hz := Option.some.inj hy2
        subst hz
        refine TrL.nil (qloop_n ((A37, c13, o12)) (Imp.re _ [0, 1, 2, 3] [0, 1, 2, 3, 8] (sc rfl (sc rfl (sc rfl (sc rfl (sc rfl (sc rfl sn)))))) (by decide) rfl rfl rfl))
       ·refine Tr.cond_f rfl (bf_dec h42) ?_
        have hz := Option.some.inj hy2
        subst hz
        refine Tr.exit (qthen_x (qloop_x (qblock_hit (qcut_hit s5.2 ((m32.1, m32.2.1, m32.2.2)) (hx4 _ rfl).symm (Imp.re _ [0, 2, 3] [0, 1, 2, 3, 4] (sc rfl (sc rfl sn)) (by decide) rfl rfl rfl)))))
      ·subst hd4
       refine (qthen_n ?_)
       refine Tr.seq ?_
       refine Tr.region ?_
       refine TrL.v (v_load (k := 1) rfl rfl rfl ty162 nofun rfl rfl) rfl rfl (bl rfl) ?_
       refine TrL.cons rfl (op_store' (k := 0) (c' := [.int .i64 p2, .slice m26.2.1 r12.length m26.2.2, .slice m36.1 x2.length m36.2.1, .int .i64 r10.1, .int .i64 0, .slice none 0 0]) rfl rfl rfl rfl rfl ty162 rfl (Nat.le_of_ble_eq_true rfl) (ones (oc rfl (oc rfl (oc rfl (oc rfl (oc rfl (oc rfl on))))))) rfl ?_)
       refine TrL.v (v_assign rfl rfl) rfl rfl (bl rfl) ?_
       refine TrL.nil (qthen_n ?_)
       have hz := Option.some.inj H
       subst hz
       refine Tr.ret (ret_r ⟨[(6, .pointer (some ⟨b8, 0, none⟩)), (7, .int .i64 0)], [cells b8 [.int .i64 p2, .slice m26.2.1 r12.length m26.2.2, .slice m36.1 x2.length m36.2.1, .int .i64 r10.1, .int .i64 0, .slice none 0 0] 162], [slF rp_u64_u64 m26.2.1 m26.2.2 r12, slF (rSl rp_i64_i64_LLOu64_u64_C) m36.1 m36.2.1 x2, slF (rSl rp_u64_u64) none 0 (([] : List (List (Int × Int))))], []⟩ [.agg #[.int .i64 p2, .slice m26.2.1 r12.length m26.2.2, .slice m36.1 x2.length m36.2.1, .int .i64 r10.1, .int .i64 0, .slice none 0 0], .int .i64 0] [] [cells b8 [.int .i64 p2, .slice m26.2.1 r12.length m26.2.2, .slice m36.1 x2.length m36.2.1, .int .i64 r10.1, .int .i64 0, .slice none 0 0] 162] (Imp.re _ [0] [3, 4, 2] (sc rfl (sc rfl sn)) (by decide) rfl rfl rfl) rfl rfl ⟨((m26.2.1, m26.2.2, m36.1, m36.2.1)), rfl, rfl, rfl⟩ (.cons (resv_cell (k := 0) rfl rfl ty162 nofun rfl rfl) (.cons (resv_tmp rfl) .nil)))
end Go.Proofs.Ytbeknohemgjfbaa.W
