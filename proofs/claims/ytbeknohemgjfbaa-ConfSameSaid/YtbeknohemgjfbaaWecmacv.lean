import Derived.Test.YtbeknohemgjfbaaKcv
import Derived.Test.YtbeknohemgjfbaaQcv
import Derived.Test.YtbeknohemgjfbaaWbufferacv
import Derived.Test.YtbeknohemgjfbaaWgridbcv
namespace Go.Proofs.Ytbeknohemgjfbaa.W
open Go Go.Proofs Go.Proofs.Ytbeknohemgjfbaa.L Go.Proofs.Ytbeknohemgjfbaa.Pu
set_option linter.unusedVariables false
set_option maxHeartbeats 4000000

theorem c_ecm_New (p1 : Int × Int × Int × Int × Int × Int × (List (Int × Int)) × Int × Int) (A1 : Option Addr) (c1 : Nat) (r : Int × Int × Int × Int × (List (Int × Int)) × (List (List (Int × Int × List (List (Int × Int))))) × Int × Int) (H : ecm_New p1 = some r) :
  Ctr Try.prog 99 [.agg #[.int .i64 p1.1, .int .i64 p1.2.1, .int .u64 p1.2.2.1, .int .u64 p1.2.2.2.1, .int .i64 p1.2.2.2.2.1, .int .i64 p1.2.2.2.2.2.1, .slice A1 p1.2.2.2.2.2.2.1.length c1, .int .i64 p1.2.2.2.2.2.2.2.1, .int .i64 p1.2.2.2.2.2.2.2.2]] [] [slF rp_u64_u64 A1 c1 p1.2.2.2.2.2.2.1] (fun ret M' F' => ∃ m : Option Addr × Nat × Option Addr × Nat, ret = .tuple #[.agg #[.int .u64 r.1, .int .u64 r.2.1, .int .i64 r.2.2.1, .int .u64 0, .int .u64 0, .slice none 0 0, .int .i64 r.2.2.2.1, .slice m.1 r.2.2.2.2.1.length m.2.1, .slice m.2.2.1 r.2.2.2.2.2.1.length m.2.2.2, .int .i64 r.2.2.2.2.2.2.1, .int .i64 0, .slice none 0 0], .int .i64 r.2.2.2.2.2.2.2] ∧ M' = [] ∧ F' = [slF rp_u64_u64_u64 none 0 (([] : List (Int × Int × Int))), slF rp_u64_u64 m.1 m.2.1 r.2.2.2.2.1, slF (rSl rp_i64_i64_LLOu64_u64_C) m.2.2.1 m.2.2.2 r.2.2.2.2.2.1, slF (rSl rp_u64_u64) none 0 (([] : List (List (Int × Int))))]) := by
 unfold ecm_New at H
 refine ctr_ofI (N := 47) Try.func99 rfl Try.ntmps99 rfl (Nat.le_of_ble_eq_true rfl) (fun γ0 w0 => ?_)
 refine Tr.seq ?_
 refine Tr.region ?_
 refine TrL.cons rfl (op_box' rfl (bl rfl) rfl rfl rfl (fun b5 => ?_))
 refine TrL.cons rfl (op_alloc' rfl (bl rfl) rfl ze164 (fun b6 => ?_))
 refine TrL.v (v_assign rfl rfl) rfl rfl (bl rfl) ?_
 refine TrL.nil (qthen_n ?_)
 refine Tr.seq ?_
 refine Tr.region ?_
 refine TrL.v (v_fieldAddr' rfl fo91_3 rfl rfl) rfl rfl (bl rfl) ?_
 refine TrL.v (v_load (k := 1) rfl rfl rfl ty28 (fun _ => rfl) rfl rfl) rfl rfl (bl rfl) ?_
 refine TrL.v (v_fieldAddr' rfl fo91_4 rfl rfl) rfl rfl (bl rfl) ?_
 refine TrL.v (v_load (k := 1) rfl rfl rfl ty3 (fun _ => rfl) rfl rfl) rfl rfl (bl rfl) ?_
 obtain ⟨r3, hr3, H⟩ := bnd H
 refine TrL.cons rfl (op_call0' (vs := [.int .u64 p1.2.2.2.1, .int .i64 p1.2.2.2.2.1]) (cap := []) [] rfl rfl (bl rfl) rfl rfl en82 (c_buffer_New p1.2.2.2.1 p1.2.2.2.2.1 r3 hr3) rfl (fun ret M' F' hR3 => ?_))
 obtain ⟨rfl, rfl, rfl⟩ := hR3
 refine TrL.v (v_move rfl rfl) rfl rfl (bl rfl) ?_
 refine TrL.v (v_extract rfl rfl rfl) rfl rfl (bl rfl) ?_
 refine TrL.v (v_extract rfl rfl rfl) rfl rfl (bl rfl) ?_
 refine TrL.cons rfl (op_alloc' rfl (bl rfl) rfl ze77 (fun b7 => ?_))
 refine TrL.cons rfl (op_store' (k := 0) (c' := [.int .u64 r3.1, .int .i64 r3.2.1, .int .u64 0, .int .u64 0, .slice none 0 0]) rfl rfl rfl rfl rfl ty77 rfl (Nat.le_of_ble_eq_true rfl) (ones (oc rfl (oc rfl (oc rfl (oc rfl (oc rfl on)))))) rfl ?_)
 refine TrL.v (v_assign rfl rfl) rfl rfl (bl rfl) ?_
 refine TrL.nil (qthen_n ?_)
 refine Tr.seq ?_
 refine Tr.seq ?_
 refine Tr.region ?_
 refine TrL.v (v_move rfl rfl) rfl rfl (bl rfl) ?_
 refine TrL.v (v_arith rfl rfl rfl ar_neq) rfl rfl (bl rfl) ?_
 refine TrL.v (v_move rfl rfl) rfl rfl (bl rfl) ?_
 rcases ifc H with ⟨h9, H⟩ | ⟨h9, H⟩
 ·refine TrL.cons_no rfl rfl rfl (gn_f (bt_dec h9)) rfl (bl rfl) ?_
  refine TrL.cons_no rfl rfl rfl (gn_f (bt_dec h9)) rfl (bl rfl) ?_
  refine TrL.cons_no rfl rfl rfl (gn_f (bt_dec h9)) rfl (bl rfl) ?_
  refine TrL.v (v_pick_t rfl rfl (bt_dec h9) rfl) rfl rfl (bl rfl) ?_
  refine TrL.v (v_move rfl rfl) rfl rfl (bl rfl) ?_
  refine TrL.cons_no rfl rfl rfl (gn_f rfl) rfl (bl rfl) ?_
  refine TrL.cons_no rfl rfl rfl (gn_f rfl) rfl (bl rfl) ?_
  refine TrL.cons_no rfl rfl rfl (gn_f rfl) rfl (bl rfl) ?_
  refine TrL.v (v_pick_t rfl rfl rfl rfl) rfl rfl (bl rfl) ?_
  refine TrL.nil (qthen_n ?_)
  refine Tr.cond_t rfl rfl ?_
  refine Tr.seq ?_
  refine Tr.region ?_
  refine TrL.v (v_build (vs := []) (out := [.int .u64 0, .int .u64 0, .int .i64 0, .int .u64 0, .int .u64 0, .slice none 0 0, .int .i64 0, .slice none 0 0, .slice none 0 0, .int .i64 0, .int .i64 0, .slice none 0 0]) rfl pl164 ze164 rfl rfl) rfl rfl (bl rfl) ?_
  refine TrL.cons rfl (op_store' (k := 1) (c' := [.int .u64 0, .int .u64 0, .int .i64 0, .int .u64 0, .int .u64 0, .slice none 0 0, .int .i64 0, .slice none 0 0, .slice none 0 0, .int .i64 0, .int .i64 0, .slice none 0 0]) rfl rfl rfl rfl rfl ty164 rfl (Nat.le_of_ble_eq_true rfl) (ones (oc rfl (oc rfl (oc rfl (oc rfl (oc rfl (oc rfl (oc rfl (oc rfl (oc rfl (oc rfl (oc rfl (oc rfl on))))))))))))) rfl ?_)
  refine TrL.v (v_assign rfl rfl) rfl rfl (bl rfl) ?_
  refine TrL.nil (qthen_n ?_)
  have hz := Option.some.inj H
  subst hz
  refine Tr.ret (qthen_r (ret_r ⟨[(2, .pointer (some ⟨b6, 0, none⟩)), (3, .int .i64 9)], [cells b6 [.int .u64 0, .int .u64 0, .int .i64 0, .int .u64 0, .int .u64 0, .slice none 0 0, .int .i64 0, .slice none 0 0, .slice none 0 0, .int .i64 0, .int .i64 0, .slice none 0 0] 164], [slF rp_u64_u64_u64 none 0 (([] : List (Int × Int × Int))), slF rp_u64_u64 none 0 (([] : List (Int × Int))), slF (rSl rp_i64_i64_LLOu64_u64_C) none 0 (([] : List (List (Int × Int × List (List (Int × Int)))))), slF (rSl rp_u64_u64) none 0 (([] : List (List (Int × Int))))], []⟩ [.agg #[.int .u64 0, .int .u64 0, .int .i64 0, .int .u64 0, .int .u64 0, .slice none 0 0, .int .i64 0, .slice none 0 0, .slice none 0 0, .int .i64 0, .int .i64 0, .slice none 0 0], .int .i64 9] [] [cells b6 [.int .u64 0, .int .u64 0, .int .i64 0, .int .u64 0, .int .u64 0, .slice none 0 0, .int .i64 0, .slice none 0 0, .slice none 0 0, .int .i64 0, .int .i64 0, .slice none 0 0] 164] (Imp.addF' _ (nilF rp_u64_u64) (Imp.addF' _ (nilF (rSl rp_i64_i64_LLOu64_u64_C)) (Imp.addF' _ (nilF (rSl rp_u64_u64)) (Imp.re _ [1] [1, 2, 3, 4] (sc rfl (sc rfl sn)) (by decide) rfl rfl rfl)))) rfl rfl ⟨((none, 0, none, 0)), rfl, rfl, rfl⟩ (.cons (resv_cell (k := 0) rfl rfl ty164 nofun rfl rfl) (.cons (resv_tmp rfl) .nil))))
 ·refine TrL.cons_yes rfl rfl rfl (bf_dec h9) (OpTr.v (v_fieldAddr' rfl fo91_2 rfl rfl) rfl (bl rfl) ?_)
  refine TrL.cons_yes rfl rfl rfl (bf_dec h9) (OpTr.v (v_load (k := 2) rfl rfl rfl ty28 (fun _ => rfl) rfl rfl) rfl (bl rfl) ?_)
  refine TrL.cons_yes rfl rfl rfl (bf_dec h9) (OpTr.v (v_arith rfl rfl rfl ar_lss) rfl (bl rfl) ?_)
  refine TrL.v (v_pick_f rfl rfl (bf_dec h9) rfl) rfl rfl (bl rfl) ?_
  refine TrL.v (v_move rfl rfl) rfl rfl (bl rfl) ?_
  rcases ifc H with ⟨h10, H⟩ | ⟨h10, H⟩
  ·refine TrL.cons_no rfl rfl rfl (gn_f (bt_dec h10)) rfl (bl rfl) ?_
   refine TrL.cons_no rfl rfl rfl (gn_f (bt_dec h10)) rfl (bl rfl) ?_
   refine TrL.cons_no rfl rfl rfl (gn_f (bt_dec h10)) rfl (bl rfl) ?_
   refine TrL.v (v_pick_t rfl rfl (bt_dec h10) rfl) rfl rfl (bl rfl) ?_
   refine TrL.nil (qthen_n ?_)
   refine Tr.cond_t rfl rfl ?_
   refine Tr.seq ?_
   refine Tr.region ?_
   refine TrL.v (v_build (vs := []) (out := [.int .u64 0, .int .u64 0, .int .i64 0, .int .u64 0, .int .u64 0, .slice none 0 0, .int .i64 0, .slice none 0 0, .slice none 0 0, .int .i64 0, .int .i64 0, .slice none 0 0]) rfl pl164 ze164 rfl rfl) rfl rfl (bl rfl) ?_
   refine TrL.cons rfl (op_store' (k := 1) (c' := [.int .u64 0, .int .u64 0, .int .i64 0, .int .u64 0, .int .u64 0, .slice none 0 0, .int .i64 0, .slice none 0 0, .slice none 0 0, .int .i64 0, .int .i64 0, .slice none 0 0]) rfl rfl rfl rfl rfl ty164 rfl (Nat.le_of_ble_eq_true rfl) (ones (oc rfl (oc rfl (oc rfl (oc rfl (oc rfl (oc rfl (oc rfl (oc rfl (oc rfl (oc rfl (oc rfl (oc rfl on))))))))))))) rfl ?_)
   refine TrL.v (v_assign rfl rfl) rfl rfl (bl rfl) ?_
   refine TrL.nil (qthen_n ?_)
   have hz := Option.some.inj H
   subst hz
   refine Tr.ret (qthen_r (ret_r ⟨[(2, .pointer (some ⟨b6, 0, none⟩)), (3, .int .i64 9)], [cells b6 [.int .u64 0, .int .u64 0, .int .i64 0, .int .u64 0, .int .u64 0, .slice none 0 0, .int .i64 0, .slice none 0 0, .slice none 0 0, .int .i64 0, .int .i64 0, .slice none 0 0] 164], [slF rp_u64_u64_u64 none 0 (([] : List (Int × Int × Int))), slF rp_u64_u64 none 0 (([] : List (Int × Int))), slF (rSl rp_i64_i64_LLOu64_u64_C) none 0 (([] : List (List (Int × Int × List (List (Int × Int)))))), slF (rSl rp_u64_u64) none 0 (([] : List (List (Int × Int))))], []⟩ [.agg #[.int .u64 0, .int .u64 0, .int .i64 0, .int .u64 0, .int .u64 0, .slice none 0 0, .int .i64 0, .slice none 0 0, .slice none 0 0, .int .i64 0, .int .i64 0, .slice none 0 0], .int .i64 9] [] [cells b6 [.int .u64 0, .int .u64 0, .int .i64 0, .int .u64 0, .int .u64 0, .slice none 0 0, .int .i64 0, .slice none 0 0, .slice none 0 0, .int .i64 0, .int .i64 0, .slice none 0 0] 164] (Imp.addF' _ (nilF rp_u64_u64) (Imp.addF' _ (nilF (rSl rp_i64_i64_LLOu64_u64_C)) (Imp.addF' _ (nilF (rSl rp_u64_u64)) (Imp.re _ [1] [1, 2, 3, 4] (sc rfl (sc rfl sn)) (by decide) rfl rfl rfl)))) rfl rfl ⟨((none, 0, none, 0)), rfl, rfl, rfl⟩ (.cons (resv_cell (k := 0) rfl rfl ty164 nofun rfl rfl) (.cons (resv_tmp rfl) .nil))))
  ·refine TrL.cons_yes rfl rfl rfl (bf_dec h10) (OpTr.v (v_fieldAddr' rfl fo91_2 rfl rfl) rfl (bl rfl) ?_)
   refine TrL.cons_yes rfl rfl rfl (bf_dec h10) (OpTr.v (v_load (k := 2) rfl rfl rfl ty28 (fun _ => rfl) rfl rfl) rfl (bl rfl) ?_)
   refine TrL.cons_yes rfl rfl rfl (bf_dec h10) (OpTr.v (v_arith rfl rfl rfl ar_gtr) rfl (bl rfl) ?_)
   refine TrL.v (v_pick_f rfl rfl (bf_dec h10) rfl) rfl rfl (bl rfl) ?_
   refine TrL.nil (qthen_n ?_)
   rcases ifc H with ⟨h11, H⟩ | ⟨h11, H⟩
   ·refine Tr.cond_t rfl (bt_dec h11) ?_
    refine Tr.seq ?_
    refine Tr.region ?_
    refine TrL.v (v_build (vs := []) (out := [.int .u64 0, .int .u64 0, .int .i64 0, .int .u64 0, .int .u64 0, .slice none 0 0, .int .i64 0, .slice none 0 0, .slice none 0 0, .int .i64 0, .int .i64 0, .slice none 0 0]) rfl pl164 ze164 rfl rfl) rfl rfl (bl rfl) ?_
    refine TrL.cons rfl (op_store' (k := 1) (c' := [.int .u64 0, .int .u64 0, .int .i64 0, .int .u64 0, .int .u64 0, .slice none 0 0, .int .i64 0, .slice none 0 0, .slice none 0 0, .int .i64 0, .int .i64 0, .slice none 0 0]) rfl rfl rfl rfl rfl ty164 rfl (Nat.le_of_ble_eq_true rfl) (ones (oc rfl (oc rfl (oc rfl (oc rfl (oc rfl (oc rfl (oc rfl (oc rfl (oc rfl (oc rfl (oc rfl (oc rfl on))))))))))))) rfl ?_)
    refine TrL.v (v_assign rfl rfl) rfl rfl (bl rfl) ?_
    refine TrL.nil (qthen_n ?_)
    have hz := Option.some.inj H
    subst hz
    refine Tr.ret (qthen_r (ret_r ⟨[(2, .pointer (some ⟨b6, 0, none⟩)), (3, .int .i64 9)], [cells b6 [.int .u64 0, .int .u64 0, .int .i64 0, .int .u64 0, .int .u64 0, .slice none 0 0, .int .i64 0, .slice none 0 0, .slice none 0 0, .int .i64 0, .int .i64 0, .slice none 0 0] 164], [slF rp_u64_u64_u64 none 0 (([] : List (Int × Int × Int))), slF rp_u64_u64 none 0 (([] : List (Int × Int))), slF (rSl rp_i64_i64_LLOu64_u64_C) none 0 (([] : List (List (Int × Int × List (List (Int × Int)))))), slF (rSl rp_u64_u64) none 0 (([] : List (List (Int × Int))))], []⟩ [.agg #[.int .u64 0, .int .u64 0, .int .i64 0, .int .u64 0, .int .u64 0, .slice none 0 0, .int .i64 0, .slice none 0 0, .slice none 0 0, .int .i64 0, .int .i64 0, .slice none 0 0], .int .i64 9] [] [cells b6 [.int .u64 0, .int .u64 0, .int .i64 0, .int .u64 0, .int .u64 0, .slice none 0 0, .int .i64 0, .slice none 0 0, .slice none 0 0, .int .i64 0, .int .i64 0, .slice none 0 0] 164] (Imp.addF' _ (nilF rp_u64_u64) (Imp.addF' _ (nilF (rSl rp_i64_i64_LLOu64_u64_C)) (Imp.addF' _ (nilF (rSl rp_u64_u64)) (Imp.re _ [1] [1, 2, 3, 4] (sc rfl (sc rfl sn)) (by decide) rfl rfl rfl)))) rfl rfl ⟨((none, 0, none, 0)), rfl, rfl, rfl⟩ (.cons (resv_cell (k := 0) rfl rfl ty164 nofun rfl rfl) (.cons (resv_tmp rfl) .nil))))
   ·refine Tr.cond_f rfl (bf_dec h11) ?_
    refine Tr.skip (qthen_n ?_)
    refine Tr.seq ?_
    refine Tr.region ?_
    refine TrL.v (v_fieldAddr' rfl fo91_1 rfl rfl) rfl rfl (bl rfl) ?_
    refine TrL.v (v_load (k := 2) rfl rfl rfl ty3 (fun _ => rfl) rfl rfl) rfl rfl (bl rfl) ?_
    refine TrL.v (v_fieldAddr' rfl fo91_5 rfl rfl) rfl rfl (bl rfl) ?_
    refine TrL.v (v_load (k := 2) rfl rfl rfl ty3 (fun _ => rfl) rfl rfl) rfl rfl (bl rfl) ?_
    refine TrL.v (v_fieldAddr' rfl fo91_6 rfl rfl) rfl rfl (bl rfl) ?_
    refine TrL.v (v_load (k := 2) rfl rfl rfl ty89 (fun _ => rfl) rfl rfl) rfl rfl (bl rfl) ?_
    obtain ⟨r4, hr4, H⟩ := bnd H
    refine TrL.cons rfl (op_call0' (vs := [.int .i64 p1.2.1, .int .i64 p1.2.2.2.2.2.1, .slice A1 p1.2.2.2.2.2.2.1.length c1]) (cap := []) [0] rfl rfl (bl rfl) rfl rfl en151 (c_grid_New p1.2.1 p1.2.2.2.2.2.1 p1.2.2.2.2.2.2.1 A1 c1 r4 hr4) rfl (fun ret M' F' hR4 => ?_))
    obtain ⟨m4, rfl, rfl, rfl⟩ := hR4
    refine TrL.v (v_move rfl rfl) rfl rfl (bl rfl) ?_
    refine TrL.v (v_extract rfl rfl rfl) rfl rfl (bl rfl) ?_
    refine TrL.v (v_extract rfl rfl rfl) rfl rfl (bl rfl) ?_
    refine TrL.cons rfl (op_alloc' rfl (bl rfl) rfl ze162 (fun b8 => ?_))
    refine TrL.cons rfl (op_store' (k := 0) (c' := [.int .i64 r4.1, .slice m4.1 r4.2.1.length m4.2.1, .slice m4.2.2.1 r4.2.2.1.length m4.2.2.2, .int .i64 r4.2.2.2.1, .int .i64 0, .slice none 0 0]) rfl rfl rfl rfl rfl ty162 rfl (Nat.le_of_ble_eq_true rfl) (ones (oc rfl (oc rfl (oc rfl (oc rfl (oc rfl (oc rfl on))))))) rfl ?_)
    refine TrL.v (v_assign rfl rfl) rfl rfl (bl rfl) ?_
    refine TrL.nil (qthen_n ?_)
    refine Tr.seq ?_
    refine Tr.seq ?_
    refine Tr.region ?_
    refine TrL.v (v_move rfl rfl) rfl rfl (bl rfl) ?_
    refine TrL.v (v_arith rfl rfl rfl ar_neq) rfl rfl (bl rfl) ?_
    refine TrL.nil (qthen_n ?_)
    rcases ifc H with ⟨h12, H⟩ | ⟨h12, H⟩
    ·refine Tr.cond_t rfl (bt_dec h12) ?_
     refine Tr.seq ?_
     refine Tr.region ?_
     refine TrL.v (v_build (vs := []) (out := [.int .u64 0, .int .u64 0, .int .i64 0, .int .u64 0, .int .u64 0, .slice none 0 0, .int .i64 0, .slice none 0 0, .slice none 0 0, .int .i64 0, .int .i64 0, .slice none 0 0]) rfl pl164 ze164 rfl rfl) rfl rfl (bl rfl) ?_
     refine TrL.v (v_move rfl rfl) rfl rfl (bl rfl) ?_
     refine TrL.cons rfl (op_store' (k := 2) (c' := [.int .u64 0, .int .u64 0, .int .i64 0, .int .u64 0, .int .u64 0, .slice none 0 0, .int .i64 0, .slice none 0 0, .slice none 0 0, .int .i64 0, .int .i64 0, .slice none 0 0]) rfl rfl rfl rfl rfl ty164 rfl (Nat.le_of_ble_eq_true rfl) (ones (oc rfl (oc rfl (oc rfl (oc rfl (oc rfl (oc rfl (oc rfl (oc rfl (oc rfl (oc rfl (oc rfl (oc rfl on))))))))))))) rfl ?_)
     refine TrL.v (v_assign rfl rfl) rfl rfl (bl rfl) ?_
     refine TrL.nil (qthen_n ?_)
     have hz := Option.some.inj H
     subst hz
     refine Tr.ret (qthen_r (ret_r ⟨[(2, .pointer (some ⟨b6, 0, none⟩)), (3, .int .i64 r4.2.2.2.2)], [cells b6 [.int .u64 0, .int .u64 0, .int .i64 0, .int .u64 0, .int .u64 0, .slice none 0 0, .int .i64 0, .slice none 0 0, .slice none 0 0, .int .i64 0, .int .i64 0, .slice none 0 0] 164], [slF rp_u64_u64_u64 none 0 (([] : List (Int × Int × Int))), slF rp_u64_u64 none 0 (([] : List (Int × Int))), slF (rSl rp_i64_i64_LLOu64_u64_C) none 0 (([] : List (List (Int × Int × List (List (Int × Int)))))), slF (rSl rp_u64_u64) none 0 (([] : List (List (Int × Int))))], []⟩ [.agg #[.int .u64 0, .int .u64 0, .int .i64 0, .int .u64 0, .int .u64 0, .slice none 0 0, .int .i64 0, .slice none 0 0, .slice none 0 0, .int .i64 0, .int .i64 0, .slice none 0 0], .int .i64 r4.2.2.2.2] [] [cells b6 [.int .u64 0, .int .u64 0, .int .i64 0, .int .u64 0, .int .u64 0, .slice none 0 0, .int .i64 0, .slice none 0 0, .slice none 0 0, .int .i64 0, .int .i64 0, .slice none 0 0] 164] (Imp.addF' _ (nilF rp_u64_u64) (Imp.addF' _ (nilF (rSl rp_i64_i64_LLOu64_u64_C)) (Imp.re _ [2] [1, 5, 6, 4] (sc rfl (sc rfl sn)) (by decide) rfl rfl rfl))) rfl rfl ⟨((none, 0, none, 0)), rfl, rfl, rfl⟩ (.cons (resv_cell (k := 0) rfl rfl ty164 nofun rfl rfl) (.cons (resv_tmp rfl) .nil))))
    ·refine Tr.cond_f rfl (bf_dec h12) ?_
     refine Tr.skip (qthen_n ?_)
     refine Tr.seq ?_
     refine Tr.region ?_
     refine TrL.v (v_fieldAddr' rfl fo91_2 rfl rfl) rfl rfl (bl rfl) ?_
     refine TrL.v (v_load (k := 3) rfl rfl rfl ty28 (fun _ => rfl) rfl rfl) rfl rfl (bl rfl) ?_
     refine TrL.v (v_load (k := 1) rfl rfl rfl ty77 nofun rfl rfl) rfl rfl (bl rfl) ?_
     refine TrL.v (v_load (k := 0) rfl rfl rfl ty162 nofun rfl rfl) rfl rfl (bl rfl) ?_
     refine TrL.v (v_build (vs := [.int .u64 p1.2.2.1, .agg #[.int .u64 r3.1, .int .i64 r3.2.1, .int .u64 0, .int .u64 0, .slice none 0 0], .agg #[.int .i64 r4.1, .slice m4.1 r4.2.1.length m4.2.1, .slice m4.2.2.1 r4.2.2.1.length m4.2.2.2, .int .i64 r4.2.2.2.1, .int .i64 0, .slice none 0 0]]) (out := [.int .u64 p1.2.2.1, .int .u64 r3.1, .int .i64 r3.2.1, .int .u64 0, .int .u64 0, .slice none 0 0, .int .i64 r4.1, .slice m4.1 r4.2.1.length m4.2.1, .slice m4.2.2.1 r4.2.2.1.length m4.2.2.2, .int .i64 r4.2.2.2.1, .int .i64 0, .slice none 0 0]) rfl pl164 ze164 rfl rfl) rfl rfl (bl rfl) ?_
     refine TrL.cons rfl (op_store' (k := 2) (c' := [.int .u64 p1.2.2.1, .int .u64 r3.1, .int .i64 r3.2.1, .int .u64 0, .int .u64 0, .slice none 0 0, .int .i64 r4.1, .slice m4.1 r4.2.1.length m4.2.1, .slice m4.2.2.1 r4.2.2.1.length m4.2.2.2, .int .i64 r4.2.2.2.1, .int .i64 0, .slice none 0 0]) rfl rfl rfl rfl rfl ty164 rfl (Nat.le_of_ble_eq_true rfl) (ones (oc rfl (oc rfl (oc rfl (oc rfl (oc rfl (oc rfl (oc rfl (oc rfl (oc rfl (oc rfl (oc rfl (oc rfl on))))))))))))) rfl ?_)
     refine TrL.v (v_assign rfl rfl) rfl rfl (bl rfl) ?_
     refine TrL.nil (qthen_n ?_)
     have hz := Option.some.inj H
     subst hz
     refine Tr.ret (ret_r ⟨[(2, .pointer (some ⟨b6, 0, none⟩)), (3, .int .i64 0)], [cells b6 [.int .u64 p1.2.2.1, .int .u64 r3.1, .int .i64 r3.2.1, .int .u64 0, .int .u64 0, .slice none 0 0, .int .i64 r4.1, .slice m4.1 r4.2.1.length m4.2.1, .slice m4.2.2.1 r4.2.2.1.length m4.2.2.2, .int .i64 r4.2.2.2.1, .int .i64 0, .slice none 0 0] 164], [slF rp_u64_u64_u64 none 0 (([] : List (Int × Int × Int))), slF rp_u64_u64 m4.1 m4.2.1 r4.2.1, slF (rSl rp_i64_i64_LLOu64_u64_C) m4.2.2.1 m4.2.2.2 r4.2.2.1, slF (rSl rp_u64_u64) none 0 (([] : List (List (Int × Int))))], []⟩ [.agg #[.int .u64 p1.2.2.1, .int .u64 r3.1, .int .i64 r3.2.1, .int .u64 0, .int .u64 0, .slice none 0 0, .int .i64 r4.1, .slice m4.1 r4.2.1.length m4.2.1, .slice m4.2.2.1 r4.2.2.1.length m4.2.2.2, .int .i64 r4.2.2.2.1, .int .i64 0, .slice none 0 0], .int .i64 0] [] [cells b6 [.int .u64 p1.2.2.1, .int .u64 r3.1, .int .i64 r3.2.1, .int .u64 0, .int .u64 0, .slice none 0 0, .int .i64 r4.1, .slice m4.1 r4.2.1.length m4.2.1, .slice m4.2.2.1 r4.2.2.1.length m4.2.2.2, .int .i64 r4.2.2.2.1, .int .i64 0, .slice none 0 0] 164] (Imp.re _ [2] [1, 2, 3, 4] (sc rfl (sc rfl sn)) (by decide) rfl rfl rfl) rfl rfl ⟨((m4.1, m4.2.1, m4.2.2.1, m4.2.2.2)), rfl, rfl, rfl⟩ (.cons (resv_cell (k := 0) rfl rfl ty164 nofun rfl rfl) (.cons (resv_tmp rfl) .nil)))
end Go.Proofs.Ytbeknohemgjfbaa.W
