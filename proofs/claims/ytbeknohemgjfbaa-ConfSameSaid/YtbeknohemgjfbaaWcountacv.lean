import Derived.Test.YtbeknohemgjfbaaKcv
import Derived.Test.YtbeknohemgjfbaaQcv
import Derived.Test.YtbeknohemgjfbaaWbufferacv
import Derived.Test.YtbeknohemgjfbaaWhistbcv
namespace Go.Proofs.Ytbeknohemgjfbaa.W
open Go Go.Proofs Go.Proofs.Ytbeknohemgjfbaa.L Go.Proofs.Ytbeknohemgjfbaa.Pu
set_option linter.unusedVariables false
set_option maxHeartbeats 4000000

theorem c_count_New (p1 : Int) (p2 : Int) (p3 : Int) (p4 : Int) (r : Int × Int × Int × Int × Int) (H : count_New p1 p2 p3 p4 = some r) :
  Ctr Try.prog 97 [.int .i64 p1, .int .u64 p2, .int .u64 p3, .int .i64 p4] [] [] (fun ret M' F' => ret = .tuple #[.agg #[.int .u64 r.1, .int .u64 r.2.1, .int .i64 r.2.2.1, .int .u64 0, .int .u64 0, .slice none 0 0, .int .i64 r.2.2.2.1, .int .i64 0, .slice none 0 0], .int .i64 r.2.2.2.2] ∧ M' = [] ∧ F' = [slF rp_u64_u64_u64 none 0 (([] : List (Int × Int × Int))), slF (rSl rp_u64_u64) none 0 (([] : List (List (Int × Int))))]) := by
 unfold count_New at H
 refine ctr_ofI (N := 44) Try.func97 rfl Try.ntmps97 rfl (Nat.le_of_ble_eq_true rfl) (fun γ0 w0 => ?_)
 refine Tr.seq ?_
 refine Tr.region ?_
 refine TrL.cons rfl (op_alloc' rfl (bl rfl) rfl ze157 (fun b4 => ?_))
 refine TrL.v (v_assign rfl rfl) rfl rfl (bl rfl) ?_
 refine TrL.nil (qthen_n ?_)
 refine Tr.seq ?_
 refine Tr.region ?_
 refine TrL.v (v_move rfl rfl) rfl rfl (bl rfl) ?_
 obtain ⟨r3, hr3, H⟩ := bnd H
 refine TrL.cons rfl (op_call0' (vs := [.int .i64 p1]) (cap := []) [] rfl rfl (bl rfl) rfl rfl en150 (c_hist_New p1 r3 hr3) rfl (fun ret M' F' hR3 => ?_))
 obtain ⟨rfl, rfl, rfl⟩ := hR3
 refine TrL.v (v_move rfl rfl) rfl rfl (bl rfl) ?_
 refine TrL.v (v_extract rfl rfl rfl) rfl rfl (bl rfl) ?_
 refine TrL.v (v_extract rfl rfl rfl) rfl rfl (bl rfl) ?_
 refine TrL.cons rfl (op_alloc' rfl (bl rfl) rfl ze35 (fun b5 => ?_))
 refine TrL.cons rfl (op_store' (k := 0) (c' := [.int .i64 r3.1, .int .i64 0, .slice none 0 0]) rfl rfl rfl rfl rfl ty35 rfl (Nat.le_of_ble_eq_true rfl) (ones (oc rfl (oc rfl (oc rfl on)))) rfl ?_)
 refine TrL.v (v_assign rfl rfl) rfl rfl (bl rfl) ?_
 refine TrL.nil (qthen_n ?_)
 refine Tr.seq ?_
 refine Tr.region ?_
 refine TrL.v (v_move rfl rfl) rfl rfl (bl rfl) ?_
 refine TrL.v (v_move rfl rfl) rfl rfl (bl rfl) ?_
 obtain ⟨r4, hr4, H⟩ := bnd H
 refine TrL.cons rfl (op_call0' (vs := [.int .u64 p3, .int .i64 p4]) (cap := []) [] rfl rfl (bl rfl) rfl rfl en82 (c_buffer_New p3 p4 r4 hr4) rfl (fun ret M' F' hR4 => ?_))
 obtain ⟨rfl, rfl, rfl⟩ := hR4
 refine TrL.v (v_move rfl rfl) rfl rfl (bl rfl) ?_
 refine TrL.v (v_extract rfl rfl rfl) rfl rfl (bl rfl) ?_
 refine TrL.v (v_extract rfl rfl rfl) rfl rfl (bl rfl) ?_
 refine TrL.cons rfl (op_alloc' rfl (bl rfl) rfl ze77 (fun b6 => ?_))
 refine TrL.cons rfl (op_store' (k := 0) (c' := [.int .u64 r4.1, .int .i64 r4.2.1, .int .u64 0, .int .u64 0, .slice none 0 0]) rfl rfl rfl rfl rfl ty77 rfl (Nat.le_of_ble_eq_true rfl) (ones (oc rfl (oc rfl (oc rfl (oc rfl (oc rfl on)))))) rfl ?_)
 refine TrL.v (v_assign rfl rfl) rfl rfl (bl rfl) ?_
 refine TrL.nil (qthen_n ?_)
 refine Tr.seq ?_
 refine Tr.seq ?_
 refine Tr.region ?_
 refine TrL.v (v_move rfl rfl) rfl rfl (bl rfl) ?_
 refine TrL.v (v_arith rfl rfl rfl ar_neq) rfl rfl (bl rfl) ?_
 refine TrL.v (v_move rfl rfl) rfl rfl (bl rfl) ?_
 rcases ifc H with ⟨h11, H⟩ | ⟨h11, H⟩
 ·refine TrL.cons_no rfl rfl rfl (gn_f (bt_dec h11)) rfl (bl rfl) ?_
  refine TrL.cons_no rfl rfl rfl (gn_f (bt_dec h11)) rfl (bl rfl) ?_
  refine TrL.v (v_pick_t rfl rfl (bt_dec h11) rfl) rfl rfl (bl rfl) ?_
  refine TrL.v (v_move rfl rfl) rfl rfl (bl rfl) ?_
  refine TrL.cons_no rfl rfl rfl (gn_f rfl) rfl (bl rfl) ?_
  refine TrL.cons_no rfl rfl rfl (gn_f rfl) rfl (bl rfl) ?_
  refine TrL.v (v_pick_t rfl rfl rfl rfl) rfl rfl (bl rfl) ?_
  refine TrL.v (v_move rfl rfl) rfl rfl (bl rfl) ?_
  refine TrL.cons_no rfl rfl rfl (gn_f rfl) rfl (bl rfl) ?_
  refine TrL.cons_no rfl rfl rfl (gn_f rfl) rfl (bl rfl) ?_
  refine TrL.v (v_pick_t rfl rfl rfl rfl) rfl rfl (bl rfl) ?_
  refine TrL.nil (qthen_n ?_)
  refine Tr.cond_t rfl rfl ?_
  refine Tr.seq ?_
  refine Tr.region ?_
  refine TrL.v (v_build (vs := []) (out := [.int .u64 0, .int .u64 0, .int .i64 0, .int .u64 0, .int .u64 0, .slice none 0 0, .int .i64 0, .int .i64 0, .slice none 0 0]) rfl pl157 ze157 rfl rfl) rfl rfl (bl rfl) ?_
  refine TrL.cons rfl (op_store' (k := 2) (c' := [.int .u64 0, .int .u64 0, .int .i64 0, .int .u64 0, .int .u64 0, .slice none 0 0, .int .i64 0, .int .i64 0, .slice none 0 0]) rfl rfl rfl rfl rfl ty157 rfl (Nat.le_of_ble_eq_true rfl) (ones (oc rfl (oc rfl (oc rfl (oc rfl (oc rfl (oc rfl (oc rfl (oc rfl (oc rfl on)))))))))) rfl ?_)
  refine TrL.v (v_assign rfl rfl) rfl rfl (bl rfl) ?_
  refine TrL.nil (qthen_n ?_)
  have hz := Option.some.inj H
  subst hz
  refine Tr.ret (qthen_r (ret_r ⟨[(8, .pointer (some ⟨b4, 0, none⟩)), (9, .int .i64 9)], [cells b4 [.int .u64 0, .int .u64 0, .int .i64 0, .int .u64 0, .int .u64 0, .slice none 0 0, .int .i64 0, .int .i64 0, .slice none 0 0] 157], [slF rp_u64_u64_u64 none 0 (([] : List (Int × Int × Int))), slF (rSl rp_u64_u64) none 0 (([] : List (List (Int × Int))))], []⟩ [.agg #[.int .u64 0, .int .u64 0, .int .i64 0, .int .u64 0, .int .u64 0, .slice none 0 0, .int .i64 0, .int .i64 0, .slice none 0 0], .int .i64 9] [] [cells b4 [.int .u64 0, .int .u64 0, .int .i64 0, .int .u64 0, .int .u64 0, .slice none 0 0, .int .i64 0, .int .i64 0, .slice none 0 0] 157] (Imp.re _ [2] [1, 0] (sc rfl (sc rfl sn)) (by decide) rfl rfl rfl) rfl rfl ⟨rfl, rfl, rfl⟩ (.cons (resv_cell (k := 0) rfl rfl ty157 nofun rfl rfl) (.cons (resv_tmp rfl) .nil))))
 ·refine TrL.cons_yes rfl rfl rfl (bf_dec h11) (OpTr.v (v_move rfl rfl) rfl (bl rfl) ?_)
  refine TrL.cons_yes rfl rfl rfl (bf_dec h11) (OpTr.v (v_arith rfl rfl rfl ar_neq) rfl (bl rfl) ?_)
  refine TrL.v (v_pick_f rfl rfl (bf_dec h11) rfl) rfl rfl (bl rfl) ?_
  refine TrL.v (v_move rfl rfl) rfl rfl (bl rfl) ?_
  rcases ifc H with ⟨h12, H⟩ | ⟨h12, H⟩
  ·refine TrL.cons_no rfl rfl rfl (gn_f (bt_dec h12)) rfl (bl rfl) ?_
   refine TrL.cons_no rfl rfl rfl (gn_f (bt_dec h12)) rfl (bl rfl) ?_
   refine TrL.v (v_pick_t rfl rfl (bt_dec h12) rfl) rfl rfl (bl rfl) ?_
   refine TrL.v (v_move rfl rfl) rfl rfl (bl rfl) ?_
   refine TrL.cons_no rfl rfl rfl (gn_f rfl) rfl (bl rfl) ?_
   refine TrL.cons_no rfl rfl rfl (gn_f rfl) rfl (bl rfl) ?_
   refine TrL.v (v_pick_t rfl rfl rfl rfl) rfl rfl (bl rfl) ?_
   refine TrL.nil (qthen_n ?_)
   refine Tr.cond_t rfl rfl ?_
   refine Tr.seq ?_
   refine Tr.region ?_
   refine TrL.v (v_build (vs := []) (out := [.int .u64 0, .int .u64 0, .int .i64 0, .int .u64 0, .int .u64 0, .slice none 0 0, .int .i64 0, .int .i64 0, .slice none 0 0]) rfl pl157 ze157 rfl rfl) rfl rfl (bl rfl) ?_
   refine TrL.cons rfl (op_store' (k := 2) (c' := [.int .u64 0, .int .u64 0, .int .i64 0, .int .u64 0, .int .u64 0, .slice none 0 0, .int .i64 0, .int .i64 0, .slice none 0 0]) rfl rfl rfl rfl rfl ty157 rfl (Nat.le_of_ble_eq_true rfl) (ones (oc rfl (oc rfl (oc rfl (oc rfl (oc rfl (oc rfl (oc rfl (oc rfl (oc rfl on)))))))))) rfl ?_)
   refine TrL.v (v_assign rfl rfl) rfl rfl (bl rfl) ?_
   refine TrL.nil (qthen_n ?_)
   have hz := Option.some.inj H
   subst hz
   refine Tr.ret (qthen_r (ret_r ⟨[(8, .pointer (some ⟨b4, 0, none⟩)), (9, .int .i64 9)], [cells b4 [.int .u64 0, .int .u64 0, .int .i64 0, .int .u64 0, .int .u64 0, .slice none 0 0, .int .i64 0, .int .i64 0, .slice none 0 0] 157], [slF rp_u64_u64_u64 none 0 (([] : List (Int × Int × Int))), slF (rSl rp_u64_u64) none 0 (([] : List (List (Int × Int))))], []⟩ [.agg #[.int .u64 0, .int .u64 0, .int .i64 0, .int .u64 0, .int .u64 0, .slice none 0 0, .int .i64 0, .int .i64 0, .slice none 0 0], .int .i64 9] [] [cells b4 [.int .u64 0, .int .u64 0, .int .i64 0, .int .u64 0, .int .u64 0, .slice none 0 0, .int .i64 0, .int .i64 0, .slice none 0 0] 157] (Imp.re _ [2] [1, 0] (sc rfl (sc rfl sn)) (by decide) rfl rfl rfl) rfl rfl ⟨rfl, rfl, rfl⟩ (.cons (resv_cell (k := 0) rfl rfl ty157 nofun rfl rfl) (.cons (resv_tmp rfl) .nil))))
  ·refine TrL.cons_yes rfl rfl rfl (bf_dec h12) (OpTr.v (v_move rfl rfl) rfl (bl rfl) ?_)
   refine TrL.cons_yes rfl rfl rfl (bf_dec h12) (OpTr.v (v_arith rfl rfl rfl ar_lss) rfl (bl rfl) ?_)
   refine TrL.v (v_pick_f rfl rfl (bf_dec h12) rfl) rfl rfl (bl rfl) ?_
   refine TrL.v (v_move rfl rfl) rfl rfl (bl rfl) ?_
   rcases ifc H with ⟨h13, H⟩ | ⟨h13, H⟩
   ·refine TrL.cons_no rfl rfl rfl (gn_f (bt_dec h13)) rfl (bl rfl) ?_
    refine TrL.cons_no rfl rfl rfl (gn_f (bt_dec h13)) rfl (bl rfl) ?_
    refine TrL.v (v_pick_t rfl rfl (bt_dec h13) rfl) rfl rfl (bl rfl) ?_
    refine TrL.nil (qthen_n ?_)
    refine Tr.cond_t rfl rfl ?_
    refine Tr.seq ?_
    refine Tr.region ?_
    refine TrL.v (v_build (vs := []) (out := [.int .u64 0, .int .u64 0, .int .i64 0, .int .u64 0, .int .u64 0, .slice none 0 0, .int .i64 0, .int .i64 0, .slice none 0 0]) rfl pl157 ze157 rfl rfl) rfl rfl (bl rfl) ?_
    refine TrL.cons rfl (op_store' (k := 2) (c' := [.int .u64 0, .int .u64 0, .int .i64 0, .int .u64 0, .int .u64 0, .slice none 0 0, .int .i64 0, .int .i64 0, .slice none 0 0]) rfl rfl rfl rfl rfl ty157 rfl (Nat.le_of_ble_eq_true rfl) (ones (oc rfl (oc rfl (oc rfl (oc rfl (oc rfl (oc rfl (oc rfl (oc rfl (oc rfl on)))))))))) rfl ?_)
    refine TrL.v (v_assign rfl rfl) rfl rfl (bl rfl) ?_
    refine TrL.nil (qthen_n ?_)
    have hz := Option.some.inj H
    subst hz
    refine Tr.ret (qthen_r (ret_r ⟨[(8, .pointer (some ⟨b4, 0, none⟩)), (9, .int .i64 9)], [cells b4 [.int .u64 0, .int .u64 0, .int .i64 0, .int .u64 0, .int .u64 0, .slice none 0 0, .int .i64 0, .int .i64 0, .slice none 0 0] 157], [slF rp_u64_u64_u64 none 0 (([] : List (Int × Int × Int))), slF (rSl rp_u64_u64) none 0 (([] : List (List (Int × Int))))], []⟩ [.agg #[.int .u64 0, .int .u64 0, .int .i64 0, .int .u64 0, .int .u64 0, .slice none 0 0, .int .i64 0, .int .i64 0, .slice none 0 0], .int .i64 9] [] [cells b4 [.int .u64 0, .int .u64 0, .int .i64 0, .int .u64 0, .int .u64 0, .slice none 0 0, .int .i64 0, .int .i64 0, .slice none 0 0] 157] (Imp.re _ [2] [1, 0] (sc rfl (sc rfl sn)) (by decide) rfl rfl rfl) rfl rfl ⟨rfl, rfl, rfl⟩ (.cons (resv_cell (k := 0) rfl rfl ty157 nofun rfl rfl) (.cons (resv_tmp rfl) .nil))))
   ·refine TrL.cons_yes rfl rfl rfl (bf_dec h13) (OpTr.v (v_move rfl rfl) rfl (bl rfl) ?_)
    refine TrL.cons_yes rfl rfl rfl (bf_dec h13) (OpTr.v (v_arith rfl rfl rfl ar_gtr) rfl (bl rfl) ?_)
    refine TrL.v (v_pick_f rfl rfl (bf_dec h13) rfl) rfl rfl (bl rfl) ?_
    refine TrL.nil (qthen_n ?_)
    rcases ifc H with ⟨h14, H⟩ | ⟨h14, H⟩
    ·refine Tr.cond_t rfl (bt_dec h14) ?_
     refine Tr.seq ?_
     refine Tr.region ?_
     refine TrL.v (v_build (vs := []) (out := [.int .u64 0, .int .u64 0, .int .i64 0, .int .u64 0, .int .u64 0, .slice none 0 0, .int .i64 0, .int .i64 0, .slice none 0 0]) rfl pl157 ze157 rfl rfl) rfl rfl (bl rfl) ?_
     refine TrL.cons rfl (op_store' (k := 2) (c' := [.int .u64 0, .int .u64 0, .int .i64 0, .int .u64 0, .int .u64 0, .slice none 0 0, .int .i64 0, .int .i64 0, .slice none 0 0]) rfl rfl rfl rfl rfl ty157 rfl (Nat.le_of_ble_eq_true rfl) (ones (oc rfl (oc rfl (oc rfl (oc rfl (oc rfl (oc rfl (oc rfl (oc rfl (oc rfl on)))))))))) rfl ?_)
     refine TrL.v (v_assign rfl rfl) rfl rfl (bl rfl) ?_
     refine TrL.nil (qthen_n ?_)
     have hz := Option.some.inj H
     subst hz
     refine Tr.ret (qthen_r (ret_r ⟨[(8, .pointer (some ⟨b4, 0, none⟩)), (9, .int .i64 9)], [cells b4 [.int .u64 0, .int .u64 0, .int .i64 0, .int .u64 0, .int .u64 0, .slice none 0 0, .int .i64 0, .int .i64 0, .slice none 0 0] 157], [slF rp_u64_u64_u64 none 0 (([] : List (Int × Int × Int))), slF (rSl rp_u64_u64) none 0 (([] : List (List (Int × Int))))], []⟩ [.agg #[.int .u64 0, .int .u64 0, .int .i64 0, .int .u64 0, .int .u64 0, .slice none 0 0, .int .i64 0, .int .i64 0, .slice none 0 0], .int .i64 9] [] [cells b4 [.int .u64 0, .int .u64 0, .int .i64 0, .int .u64 0, .int .u64 0, .slice none 0 0, .int .i64 0, .int .i64 0, .slice none 0 0] 157] (Imp.re _ [2] [1, 0] (sc rfl (sc rfl sn)) (by decide) rfl rfl rfl) rfl rfl ⟨rfl, rfl, rfl⟩ (.cons (resv_cell (k := 0) rfl rfl ty157 nofun rfl rfl) (.cons (resv_tmp rfl) .nil))))
    ·refine Tr.cond_f rfl (bf_dec h14) ?_
     refine Tr.skip (qthen_n ?_)
     refine Tr.seq ?_
     refine Tr.region ?_
     refine TrL.v (v_move rfl rfl) rfl rfl (bl rfl) ?_
     refine TrL.v (v_load (k := 0) rfl rfl rfl ty77 nofun rfl rfl) rfl rfl (bl rfl) ?_
     refine TrL.v (v_load (k := 1) rfl rfl rfl ty35 nofun rfl rfl) rfl rfl (bl rfl) ?_
     refine TrL.v (v_build (vs := [.int .u64 p2, .agg #[.int .u64 r4.1, .int .i64 r4.2.1, .int .u64 0, .int .u64 0, .slice none 0 0], .agg #[.int .i64 r3.1, .int .i64 0, .slice none 0 0]]) (out := [.int .u64 p2, .int .u64 r4.1, .int .i64 r4.2.1, .int .u64 0, .int .u64 0, .slice none 0 0, .int .i64 r3.1, .int .i64 0, .slice none 0 0]) rfl pl157 ze157 rfl rfl) rfl rfl (bl rfl) ?_
     refine TrL.cons rfl (op_store' (k := 2) (c' := [.int .u64 p2, .int .u64 r4.1, .int .i64 r4.2.1, .int .u64 0, .int .u64 0, .slice none 0 0, .int .i64 r3.1, .int .i64 0, .slice none 0 0]) rfl rfl rfl rfl rfl ty157 rfl (Nat.le_of_ble_eq_true rfl) (ones (oc rfl (oc rfl (oc rfl (oc rfl (oc rfl (oc rfl (oc rfl (oc rfl (oc rfl on)))))))))) rfl ?_)
     refine TrL.v (v_assign rfl rfl) rfl rfl (bl rfl) ?_
     refine TrL.nil (qthen_n ?_)
     have hz := Option.some.inj H
     subst hz
     refine Tr.ret (ret_r ⟨[(8, .pointer (some ⟨b4, 0, none⟩)), (9, .int .i64 0)], [cells b4 [.int .u64 p2, .int .u64 r4.1, .int .i64 r4.2.1, .int .u64 0, .int .u64 0, .slice none 0 0, .int .i64 r3.1, .int .i64 0, .slice none 0 0] 157], [slF rp_u64_u64_u64 none 0 (([] : List (Int × Int × Int))), slF (rSl rp_u64_u64) none 0 (([] : List (List (Int × Int))))], []⟩ [.agg #[.int .u64 p2, .int .u64 r4.1, .int .i64 r4.2.1, .int .u64 0, .int .u64 0, .slice none 0 0, .int .i64 r3.1, .int .i64 0, .slice none 0 0], .int .i64 0] [] [cells b4 [.int .u64 p2, .int .u64 r4.1, .int .i64 r4.2.1, .int .u64 0, .int .u64 0, .slice none 0 0, .int .i64 r3.1, .int .i64 0, .slice none 0 0] 157] (Imp.re _ [2] [1, 0] (sc rfl (sc rfl sn)) (by decide) rfl rfl rfl) rfl rfl ⟨rfl, rfl, rfl⟩ (.cons (resv_cell (k := 0) rfl rfl ty157 nofun rfl rfl) (.cons (resv_tmp rfl) .nil)))
end Go.Proofs.Ytbeknohemgjfbaa.W
