import Derived.Test.YtbeknohemgjfbaaKcv
import Derived.Test.YtbeknohemgjfbaaQcv
namespace Go.Proofs.Ytbeknohemgjfbaa.W
open Go Go.Proofs Go.Proofs.Ytbeknohemgjfbaa.L Go.Proofs.Ytbeknohemgjfbaa.Pu
set_option linter.unusedVariables false
set_option maxHeartbeats 4000000

theorem c_buffer_New (p1 : Int) (p2 : Int) (r : Int × Int × Int) (H : buffer_New p1 p2 = some r) :
  Ctr Try.prog 82 [.int .u64 p1, .int .i64 p2] [] [] (fun ret M' F' => ret = .tuple #[.agg #[.int .u64 r.1, .int .i64 r.2.1, .int .u64 0, .int .u64 0, .slice none 0 0], .int .i64 r.2.2] ∧ M' = [] ∧ F' = [slF rp_u64_u64_u64 none 0 (([] : List (Int × Int × Int)))]) := by
 unfold buffer_New at H
 refine ctr_ofI (N := 20) Try.func82 rfl Try.ntmps82 rfl (Nat.le_of_ble_eq_true rfl) (fun γ0 w0 => ?_)
 refine Tr.seq ?_
 refine Tr.region ?_
 refine TrL.cons rfl (op_alloc' rfl (bl rfl) rfl ze77 (fun b2 => ?_))
 refine TrL.v (v_assign rfl rfl) rfl rfl (bl rfl) ?_
 refine TrL.nil (qthen_n ?_)
 refine Tr.seq ?_
 refine Tr.seq ?_
 refine Tr.region ?_
 refine TrL.v (v_move rfl rfl) rfl rfl (bl rfl) ?_
 refine TrL.v (v_arith rfl rfl rfl ar_gtr) rfl rfl (bl rfl) ?_
 refine TrL.v (v_move rfl rfl) rfl rfl (bl rfl) ?_
 rcases ifc H with ⟨h8, H⟩ | ⟨h8, H⟩
 ·refine TrL.cons_no rfl rfl rfl (gn_f (bt_dec h8)) rfl (bl rfl) ?_
  refine TrL.cons_no rfl rfl rfl (gn_f (bt_dec h8)) rfl (bl rfl) ?_
  refine TrL.v (v_pick_t rfl rfl (bt_dec h8) rfl) rfl rfl (bl rfl) ?_
  refine TrL.v (v_move rfl rfl) rfl rfl (bl rfl) ?_
  refine TrL.cons_no rfl rfl rfl (gn_f rfl) rfl (bl rfl) ?_
  refine TrL.cons_no rfl rfl rfl (gn_f rfl) rfl (bl rfl) ?_
  refine TrL.v (v_pick_t rfl rfl rfl rfl) rfl rfl (bl rfl) ?_
  refine TrL.nil (qthen_n ?_)
  refine Tr.cond_t rfl rfl ?_
  refine Tr.seq ?_
  refine Tr.region ?_
  refine TrL.v (v_build (vs := []) (out := [.int .u64 0, .int .i64 0, .int .u64 0, .int .u64 0, .slice none 0 0]) rfl pl77 ze77 rfl rfl) rfl rfl (bl rfl) ?_
  refine TrL.cons rfl (op_store' (k := 0) (c' := [.int .u64 0, .int .i64 0, .int .u64 0, .int .u64 0, .slice none 0 0]) rfl rfl rfl rfl rfl ty77 rfl (Nat.le_of_ble_eq_true rfl) (ones (oc rfl (oc rfl (oc rfl (oc rfl (oc rfl on)))))) rfl ?_)
  refine TrL.v (v_assign rfl rfl) rfl rfl (bl rfl) ?_
  refine TrL.nil (qthen_n ?_)
  have hz := Option.some.inj H
  subst hz
  refine Tr.ret (qthen_r (ret_r ⟨[(4, .pointer (some ⟨b2, 0, none⟩)), (5, .int .i64 9)], [cells b2 [.int .u64 0, .int .i64 0, .int .u64 0, .int .u64 0, .slice none 0 0] 77], [slF rp_u64_u64_u64 none 0 (([] : List (Int × Int × Int)))], []⟩ [.agg #[.int .u64 0, .int .i64 0, .int .u64 0, .int .u64 0, .slice none 0 0], .int .i64 9] [] [cells b2 [.int .u64 0, .int .i64 0, .int .u64 0, .int .u64 0, .slice none 0 0] 77] (Imp.addF' _ (nilF rp_u64_u64_u64) (Imp.re _ [0] [0] (sc rfl (sc rfl sn)) (by decide) rfl rfl rfl)) rfl rfl ⟨rfl, rfl, rfl⟩ (.cons (resv_cell (k := 0) rfl rfl ty77 nofun rfl rfl) (.cons (resv_tmp rfl) .nil))))
 ·refine TrL.cons_yes rfl rfl rfl (bf_dec h8) (OpTr.v (v_move rfl rfl) rfl (bl rfl) ?_)
  refine TrL.cons_yes rfl rfl rfl (bf_dec h8) (OpTr.v (v_arith rfl rfl rfl ar_lss) rfl (bl rfl) ?_)
  refine TrL.v (v_pick_f rfl rfl (bf_dec h8) rfl) rfl rfl (bl rfl) ?_
  refine TrL.v (v_move rfl rfl) rfl rfl (bl rfl) ?_
  rcases ifc H with ⟨h9, H⟩ | ⟨h9, H⟩
  ·refine TrL.cons_no rfl rfl rfl (gn_f (bt_dec h9)) rfl (bl rfl) ?_
   refine TrL.cons_no rfl rfl rfl (gn_f (bt_dec h9)) rfl (bl rfl) ?_
   refine TrL.v (v_pick_t rfl rfl (bt_dec h9) rfl) rfl rfl (bl rfl) ?_
   refine TrL.nil (qthen_n ?_)
   refine Tr.cond_t rfl rfl ?_
   refine Tr.seq ?_
   refine Tr.region ?_
   refine TrL.v (v_build (vs := []) (out := [.int .u64 0, .int .i64 0, .int .u64 0, .int .u64 0, .slice none 0 0]) rfl pl77 ze77 rfl rfl) rfl rfl (bl rfl) ?_
   refine TrL.cons rfl (op_store' (k := 0) (c' := [.int .u64 0, .int .i64 0, .int .u64 0, .int .u64 0, .slice none 0 0]) rfl rfl rfl rfl rfl ty77 rfl (Nat.le_of_ble_eq_true rfl) (ones (oc rfl (oc rfl (oc rfl (oc rfl (oc rfl on)))))) rfl ?_)
   refine TrL.v (v_assign rfl rfl) rfl rfl (bl rfl) ?_
   refine TrL.nil (qthen_n ?_)
   have hz := Option.some.inj H
   subst hz
   refine Tr.ret (qthen_r (ret_r ⟨[(4, .pointer (some ⟨b2, 0, none⟩)), (5, .int .i64 9)], [cells b2 [.int .u64 0, .int .i64 0, .int .u64 0, .int .u64 0, .slice none 0 0] 77], [slF rp_u64_u64_u64 none 0 (([] : List (Int × Int × Int)))], []⟩ [.agg #[.int .u64 0, .int .i64 0, .int .u64 0, .int .u64 0, .slice none 0 0], .int .i64 9] [] [cells b2 [.int .u64 0, .int .i64 0, .int .u64 0, .int .u64 0, .slice none 0 0] 77] (Imp.addF' _ (nilF rp_u64_u64_u64) (Imp.re _ [0] [0] (sc rfl (sc rfl sn)) (by decide) rfl rfl rfl)) rfl rfl ⟨rfl, rfl, rfl⟩ (.cons (resv_cell (k := 0) rfl rfl ty77 nofun rfl rfl) (.cons (resv_tmp rfl) .nil))))
  ·refine TrL.cons_yes rfl rfl rfl (bf_dec h9) (OpTr.v (v_move rfl rfl) rfl (bl rfl) ?_)
   refine TrL.cons_yes rfl rfl rfl (bf_dec h9) (OpTr.v (v_arith rfl rfl rfl ar_gtr) rfl (bl rfl) ?_)
   refine TrL.v (v_pick_f rfl rfl (bf_dec h9) rfl) rfl rfl (bl rfl) ?_
   refine TrL.nil (qthen_n ?_)
   rcases ifc H with ⟨h10, H⟩ | ⟨h10, H⟩
   ·refine Tr.cond_t rfl (bt_dec h10) ?_
    refine Tr.seq ?_
    refine Tr.region ?_
    refine TrL.v (v_build (vs := []) (out := [.int .u64 0, .int .i64 0, .int .u64 0, .int .u64 0, .slice none 0 0]) rfl pl77 ze77 rfl rfl) rfl rfl (bl rfl) ?_
    refine TrL.cons rfl (op_store' (k := 0) (c' := [.int .u64 0, .int .i64 0, .int .u64 0, .int .u64 0, .slice none 0 0]) rfl rfl rfl rfl rfl ty77 rfl (Nat.le_of_ble_eq_true rfl) (ones (oc rfl (oc rfl (oc rfl (oc rfl (oc rfl on)))))) rfl ?_)
    refine TrL.v (v_assign rfl rfl) rfl rfl (bl rfl) ?_
    refine TrL.nil (qthen_n ?_)
    have hz := Option.some.inj H
    subst hz
    refine Tr.ret (qthen_r (ret_r ⟨[(4, .pointer (some ⟨b2, 0, none⟩)), (5, .int .i64 9)], [cells b2 [.int .u64 0, .int .i64 0, .int .u64 0, .int .u64 0, .slice none 0 0] 77], [slF rp_u64_u64_u64 none 0 (([] : List (Int × Int × Int)))], []⟩ [.agg #[.int .u64 0, .int .i64 0, .int .u64 0, .int .u64 0, .slice none 0 0], .int .i64 9] [] [cells b2 [.int .u64 0, .int .i64 0, .int .u64 0, .int .u64 0, .slice none 0 0] 77] (Imp.addF' _ (nilF rp_u64_u64_u64) (Imp.re _ [0] [0] (sc rfl (sc rfl sn)) (by decide) rfl rfl rfl)) rfl rfl ⟨rfl, rfl, rfl⟩ (.cons (resv_cell (k := 0) rfl rfl ty77 nofun rfl rfl) (.cons (resv_tmp rfl) .nil))))
   ·refine Tr.cond_f rfl (bf_dec h10) ?_
    refine Tr.skip (qthen_n ?_)
    refine Tr.seq ?_
    refine Tr.region ?_
    refine TrL.v (v_move rfl rfl) rfl rfl (bl rfl) ?_
    refine TrL.v (v_move rfl rfl) rfl rfl (bl rfl) ?_
    refine TrL.v (v_build (vs := [.int .u64 p1, .int .i64 p2]) (out := [.int .u64 p1, .int .i64 p2, .int .u64 0, .int .u64 0, .slice none 0 0]) rfl pl77 ze77 rfl rfl) rfl rfl (bl rfl) ?_
    refine TrL.cons rfl (op_store' (k := 0) (c' := [.int .u64 p1, .int .i64 p2, .int .u64 0, .int .u64 0, .slice none 0 0]) rfl rfl rfl rfl rfl ty77 rfl (Nat.le_of_ble_eq_true rfl) (ones (oc rfl (oc rfl (oc rfl (oc rfl (oc rfl on)))))) rfl ?_)
    refine TrL.v (v_assign rfl rfl) rfl rfl (bl rfl) ?_
    refine TrL.nil (qthen_n ?_)
    have hz := Option.some.inj H
    subst hz
    refine Tr.ret (ret_r ⟨[(4, .pointer (some ⟨b2, 0, none⟩)), (5, .int .i64 0)], [cells b2 [.int .u64 p1, .int .i64 p2, .int .u64 0, .int .u64 0, .slice none 0 0] 77], [slF rp_u64_u64_u64 none 0 (([] : List (Int × Int × Int)))], []⟩ [.agg #[.int .u64 p1, .int .i64 p2, .int .u64 0, .int .u64 0, .slice none 0 0], .int .i64 0] [] [cells b2 [.int .u64 p1, .int .i64 p2, .int .u64 0, .int .u64 0, .slice none 0 0] 77] (Imp.addF' _ (nilF rp_u64_u64_u64) (Imp.re _ [0] [0] (sc rfl (sc rfl sn)) (by decide) rfl rfl rfl)) rfl rfl ⟨rfl, rfl, rfl⟩ (.cons (resv_cell (k := 0) rfl rfl ty77 nofun rfl rfl) (.cons (resv_tmp rfl) .nil)))

end Go.Proofs.Ytbeknohemgjfbaa.W
