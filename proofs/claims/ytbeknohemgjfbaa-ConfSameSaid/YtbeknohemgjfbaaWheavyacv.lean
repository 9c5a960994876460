import Derived.Test.YtbeknohemgjfbaaKcv
import Derived.Test.YtbeknohemgjfbaaQcv
namespace Go.Proofs.Ytbeknohemgjfbaa.W
open Go Go.Proofs Go.Proofs.Ytbeknohemgjfbaa.L Go.Proofs.Ytbeknohemgjfbaa.Pu
set_option linter.unusedVariables false
set_option maxHeartbeats 4000000

theorem c_heavy_New (p1 : Int) (r : Int × Int) (H : heavy_New p1 = some r) :
  Ctr Try.prog 179 [.int .i64 p1] [] [] (fun ret M' F' => ret = .tuple #[.agg #[.int .i64 r.1, .int .u64 0, .slice none 0 0], .int .i64 r.2] ∧ M' = [] ∧ F' = [slF rp_u64_u64 none 0 (([] : List (Int × Int)))]) := by
 unfold heavy_New at H
 refine ctr_ofI (N := 13) Try.func179 rfl Try.ntmps179 rfl (Nat.le_of_ble_eq_true rfl) (fun γ0 w0 => ?_)
 refine Tr.seq ?_
 refine Tr.region ?_
 refine TrL.cons rfl (op_alloc' rfl (bl rfl) rfl ze270 (fun b2 => ?_))
 refine TrL.v (v_assign rfl rfl) rfl rfl (bl rfl) ?_
 refine TrL.nil (qthen_n ?_)
 refine Tr.seq ?_
 refine Tr.seq ?_
 refine Tr.region ?_
 refine TrL.v (v_move rfl rfl) rfl rfl (bl rfl) ?_
 refine TrL.v (v_arith rfl rfl rfl ar_lss) rfl rfl (bl rfl) ?_
 refine TrL.v (v_move rfl rfl) rfl rfl (bl rfl) ?_
 rcases ifc H with ⟨h5, H⟩ | ⟨h5, H⟩
 ·refine TrL.cons_no rfl rfl rfl (gn_f (bt_dec h5)) rfl (bl rfl) ?_
  refine TrL.cons_no rfl rfl rfl (gn_f (bt_dec h5)) rfl (bl rfl) ?_
  refine TrL.v (v_pick_t rfl rfl (bt_dec h5) rfl) rfl rfl (bl rfl) ?_
  refine TrL.nil (qthen_n ?_)
  refine Tr.cond_t rfl rfl ?_
  refine Tr.seq ?_
  refine Tr.region ?_
  refine TrL.v (v_build (vs := []) (out := [.int .i64 0, .int .u64 0, .slice none 0 0]) rfl pl270 ze270 rfl rfl) rfl rfl (bl rfl) ?_
  refine TrL.cons rfl (op_store' (k := 0) (c' := [.int .i64 0, .int .u64 0, .slice none 0 0]) rfl rfl rfl rfl rfl ty270 rfl (Nat.le_of_ble_eq_true rfl) (ones (oc rfl (oc rfl (oc rfl on)))) rfl ?_)
  refine TrL.v (v_assign rfl rfl) rfl rfl (bl rfl) ?_
  refine TrL.nil (qthen_n ?_)
  have hz := Option.some.inj H
  subst hz
  refine Tr.ret (qthen_r (ret_r ⟨[(2, .pointer (some ⟨b2, 0, none⟩)), (3, .int .i64 9)], [cells b2 [.int .i64 0, .int .u64 0, .slice none 0 0] 270], [slF rp_u64_u64 none 0 (([] : List (Int × Int)))], []⟩ [.agg #[.int .i64 0, .int .u64 0, .slice none 0 0], .int .i64 9] [] [cells b2 [.int .i64 0, .int .u64 0, .slice none 0 0] 270] (Imp.addF' _ (nilF rp_u64_u64) (Imp.re _ [0] [0] (sc rfl (sc rfl sn)) (by decide) rfl rfl rfl)) rfl rfl ⟨rfl, rfl, rfl⟩ (.cons (resv_cell (k := 0) rfl rfl ty270 nofun rfl rfl) (.cons (resv_tmp rfl) .nil))))
 ·refine TrL.cons_yes rfl rfl rfl (bf_dec h5) (OpTr.v (v_move rfl rfl) rfl (bl rfl) ?_)
  refine TrL.cons_yes rfl rfl rfl (bf_dec h5) (OpTr.v (v_arith rfl rfl rfl ar_gtr) rfl (bl rfl) ?_)
  refine TrL.v (v_pick_f rfl rfl (bf_dec h5) rfl) rfl rfl (bl rfl) ?_
  refine TrL.nil (qthen_n ?_)
  rcases ifc H with ⟨h6, H⟩ | ⟨h6, H⟩
  ·refine Tr.cond_t rfl (bt_dec h6) ?_
   refine Tr.seq ?_
   refine Tr.region ?_
   refine TrL.v (v_build (vs := []) (out := [.int .i64 0, .int .u64 0, .slice none 0 0]) rfl pl270 ze270 rfl rfl) rfl rfl (bl rfl) ?_
   refine TrL.cons rfl (op_store' (k := 0) (c' := [.int .i64 0, .int .u64 0, .slice none 0 0]) rfl rfl rfl rfl rfl ty270 rfl (Nat.le_of_ble_eq_true rfl) (ones (oc rfl (oc rfl (oc rfl on)))) rfl ?_)
   refine TrL.v (v_assign rfl rfl) rfl rfl (bl rfl) ?_
   refine TrL.nil (qthen_n ?_)
   have hz := Option.some.inj H
   subst hz
   refine Tr.ret (qthen_r (ret_r ⟨[(2, .pointer (some ⟨b2, 0, none⟩)), (3, .int .i64 9)], [cells b2 [.int .i64 0, .int .u64 0, .slice none 0 0] 270], [slF rp_u64_u64 none 0 (([] : List (Int × Int)))], []⟩ [.agg #[.int .i64 0, .int .u64 0, .slice none 0 0], .int .i64 9] [] [cells b2 [.int .i64 0, .int .u64 0, .slice none 0 0] 270] (Imp.addF' _ (nilF rp_u64_u64) (Imp.re _ [0] [0] (sc rfl (sc rfl sn)) (by decide) rfl rfl rfl)) rfl rfl ⟨rfl, rfl, rfl⟩ (.cons (resv_cell (k := 0) rfl rfl ty270 nofun rfl rfl) (.cons (resv_tmp rfl) .nil))))
  ·refine Tr.cond_f rfl (bf_dec h6) ?_
   refine Tr.skip (qthen_n ?_)
   refine Tr.seq ?_
   refine Tr.region ?_
   refine TrL.v (v_move rfl rfl) rfl rfl (bl rfl) ?_
   refine TrL.v (v_build (vs := [.int .i64 p1]) (out := [.int .i64 p1, .int .u64 0, .slice none 0 0]) rfl pl270 ze270 rfl rfl) rfl rfl (bl rfl) ?_
   refine TrL.cons rfl (op_store' (k := 0) (c' := [.int .i64 p1, .int .u64 0, .slice none 0 0]) rfl rfl rfl rfl rfl ty270 rfl (Nat.le_of_ble_eq_true rfl) (ones (oc rfl (oc rfl (oc rfl on)))) rfl ?_)
   refine TrL.v (v_assign rfl rfl) rfl rfl (bl rfl) ?_
   refine TrL.nil (qthen_n ?_)
   have hz := Option.some.inj H
   subst hz
   refine Tr.ret (ret_r ⟨[(2, .pointer (some ⟨b2, 0, none⟩)), (3, .int .i64 0)], [cells b2 [.int .i64 p1, .int .u64 0, .slice none 0 0] 270], [slF rp_u64_u64 none 0 (([] : List (Int × Int)))], []⟩ [.agg #[.int .i64 p1, .int .u64 0, .slice none 0 0], .int .i64 0] [] [cells b2 [.int .i64 p1, .int .u64 0, .slice none 0 0] 270] (Imp.addF' _ (nilF rp_u64_u64) (Imp.re _ [0] [0] (sc rfl (sc rfl sn)) (by decide) rfl rfl rfl)) rfl rfl ⟨rfl, rfl, rfl⟩ (.cons (resv_cell (k := 0) rfl rfl ty270 nofun rfl rfl) (.cons (resv_tmp rfl) .nil)))
end Go.Proofs.Ytbeknohemgjfbaa.W
