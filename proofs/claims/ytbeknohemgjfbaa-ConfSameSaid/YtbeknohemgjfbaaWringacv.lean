import Derived.Test.YtbeknohemgjfbaaKcv
import Derived.Test.YtbeknohemgjfbaaQcv
import Derived.Test.YtbeknohemgjfbaaWheavyacv
namespace Go.Proofs.Ytbeknohemgjfbaa.W
open Go Go.Proofs Go.Proofs.Ytbeknohemgjfbaa.L Go.Proofs.Ytbeknohemgjfbaa.Pu
set_option linter.unusedVariables false
set_option maxHeartbeats 4000000

theorem c_ring_New (p1 : Int) (p2 : Int) (p3 : Int) (r : Int × Int × Int × Int) (H : ring_New p1 p2 p3 = some r) :
  Ctr Try.prog 152 [.int .i64 p1, .int .i64 p2, .int .u64 p3] [] [] (fun ret M' F' => ret = .tuple #[.agg #[.int .i64 r.1, .int .i64 r.2.1, .int .u64 r.2.2.1, .slice none 0 0], .int .i64 r.2.2.2] ∧ M' = [] ∧ F' = [slF rp_u64_i64_u64_LOu64_u64_C none 0 (([] : List (Int × Int × Int × List (Int × Int))))]) := by
 unfold ring_New at H
 refine ctr_ofI (N := 45) Try.func152 rfl Try.ntmps152 rfl (Nat.le_of_ble_eq_true rfl) (fun γ0 w0 => ?_)
 refine Tr.seq ?_
 refine Tr.region ?_
 refine TrL.cons rfl (op_alloc' rfl (bl rfl) rfl ze169 (fun b3 => ?_))
 refine TrL.v (v_assign rfl rfl) rfl rfl (bl rfl) ?_
 refine TrL.nil (qthen_n ?_)
 refine Tr.seq ?_
 refine Tr.seq ?_
 refine Tr.region ?_
 refine TrL.v (v_move rfl rfl) rfl rfl (bl rfl) ?_
 obtain ⟨r2, hr2, H⟩ := bnd H
 refine TrL.cons rfl (op_call0' (vs := [.int .i64 p1]) (cap := []) [] rfl rfl (bl rfl) rfl rfl en179 (c_heavy_New p1 r2 hr2) rfl (fun ret M' F' hR2 => ?_))
 obtain ⟨rfl, rfl, rfl⟩ := hR2
 refine TrL.v (v_move rfl rfl) rfl rfl (bl rfl) ?_
 refine TrL.v (v_extract rfl rfl rfl) rfl rfl (bl rfl) ?_
 refine TrL.v (v_extract rfl rfl rfl) rfl rfl (bl rfl) ?_
 refine TrL.cons rfl (op_alloc' rfl (bl rfl) rfl ze270 (fun b4 => ?_))
 refine TrL.cons rfl (op_store' (k := 0) (c' := [.int .i64 r2.1, .int .u64 0, .slice none 0 0]) rfl rfl rfl rfl rfl ty270 rfl (Nat.le_of_ble_eq_true rfl) (ones (oc rfl (oc rfl (oc rfl on)))) rfl ?_)
 refine TrL.v (v_assign rfl rfl) rfl rfl (bl rfl) ?_
 refine TrL.nil (qthen_n ?_)
 refine Tr.seq ?_
 refine Tr.region ?_
 refine TrL.v (v_move rfl rfl) rfl rfl (bl rfl) ?_
 refine TrL.v (v_arith rfl rfl rfl ar_neq) rfl rfl (bl rfl) ?_
 refine TrL.nil (qthen_n ?_)
 rcases ifc H with ⟨h13, H⟩ | ⟨h13, H⟩
 ·refine Tr.cond_t rfl (bt_dec h13) ?_
  refine Tr.seq ?_
  refine Tr.region ?_
  refine TrL.v (v_build (vs := []) (out := [.int .i64 0, .int .i64 0, .int .u64 0, .slice none 0 0]) rfl pl169 ze169 rfl rfl) rfl rfl (bl rfl) ?_
  refine TrL.v (v_move rfl rfl) rfl rfl (bl rfl) ?_
  refine TrL.cons rfl (op_store' (k := 1) (c' := [.int .i64 0, .int .i64 0, .int .u64 0, .slice none 0 0]) rfl rfl rfl rfl rfl ty169 rfl (Nat.le_of_ble_eq_true rfl) (ones (oc rfl (oc rfl (oc rfl (oc rfl on))))) rfl ?_)
  refine TrL.v (v_assign rfl rfl) rfl rfl (bl rfl) ?_
  refine TrL.nil (qthen_n ?_)
  have hz := Option.some.inj H
  subst hz
  refine Tr.ret (qthen_r (ret_r ⟨[(6, .pointer (some ⟨b3, 0, none⟩)), (7, .int .i64 r2.2)], [cells b3 [.int .i64 0, .int .i64 0, .int .u64 0, .slice none 0 0] 169], [slF rp_u64_i64_u64_LOu64_u64_C none 0 (([] : List (Int × Int × Int × List (Int × Int))))], []⟩ [.agg #[.int .i64 0, .int .i64 0, .int .u64 0, .slice none 0 0], .int .i64 r2.2] [] [cells b3 [.int .i64 0, .int .i64 0, .int .u64 0, .slice none 0 0] 169] (Imp.addF' _ (nilF rp_u64_i64_u64_LOu64_u64_C) (Imp.re _ [1] [1] (sc rfl (sc rfl sn)) (by decide) rfl rfl rfl)) rfl rfl ⟨rfl, rfl, rfl⟩ (.cons (resv_cell (k := 0) rfl rfl ty169 nofun rfl rfl) (.cons (resv_tmp rfl) .nil))))
 ·refine Tr.cond_f rfl (bf_dec h13) ?_
  refine Tr.skip (qthen_n ?_)
  refine Tr.seq ?_
  refine Tr.seq ?_
  refine Tr.region ?_
  refine TrL.v (v_move rfl rfl) rfl rfl (bl rfl) ?_
  refine TrL.v (v_arith rfl rfl rfl ar_lss) rfl rfl (bl rfl) ?_
  refine TrL.v (v_move rfl rfl) rfl rfl (bl rfl) ?_
  rcases ifc H with ⟨h19, H⟩ | ⟨h19, H⟩
  ·refine TrL.cons_no rfl rfl rfl (gn_f (bt_dec h19)) rfl (bl rfl) ?_
   refine TrL.cons_no rfl rfl rfl (gn_f (bt_dec h19)) rfl (bl rfl) ?_
   refine TrL.v (v_pick_t rfl rfl (bt_dec h19) rfl) rfl rfl (bl rfl) ?_
   refine TrL.v (v_move rfl rfl) rfl rfl (bl rfl) ?_
   refine TrL.cons_no rfl rfl rfl (gn_f rfl) rfl (bl rfl) ?_
   refine TrL.cons_no rfl rfl rfl (gn_f rfl) rfl (bl rfl) ?_
   refine TrL.v (v_pick_t rfl rfl rfl rfl) rfl rfl (bl rfl) ?_
   refine TrL.v (v_move rfl rfl) rfl rfl (bl rfl) ?_
   refine TrL.cons_no rfl rfl rfl (gn_f rfl) rfl (bl rfl) ?_
   refine TrL.cons_no rfl rfl rfl (gn_f rfl) rfl (bl rfl) ?_
   refine TrL.v (v_pick_t rfl rfl rfl rfl) rfl rfl (bl rfl) ?_
   refine TrL.v (v_move rfl rfl) rfl rfl (bl rfl) ?_
   refine TrL.cons_no rfl rfl rfl (gn_f rfl) rfl (bl rfl) ?_
   refine TrL.cons_no rfl rfl rfl (gn_f rfl) rfl (bl rfl) ?_
   refine TrL.cons_no rfl rfl rfl (gn_f rfl) rfl (bl rfl) ?_
   refine TrL.cons_no rfl rfl rfl (gn_f rfl) rfl (bl rfl) ?_
   refine TrL.cons_no rfl rfl rfl (gn_f rfl) rfl (bl rfl) ?_
   refine TrL.v (v_pick_t rfl rfl rfl rfl) rfl rfl (bl rfl) ?_
   refine TrL.nil (qthen_n ?_)
   refine Tr.cond_t rfl rfl ?_
   refine Tr.seq ?_
   refine Tr.region ?_
   refine TrL.v (v_build (vs := []) (out := [.int .i64 0, .int .i64 0, .int .u64 0, .slice none 0 0]) rfl pl169 ze169 rfl rfl) rfl rfl (bl rfl) ?_
   refine TrL.cons rfl (op_store' (k := 1) (c' := [.int .i64 0, .int .i64 0, .int .u64 0, .slice none 0 0]) rfl rfl rfl rfl rfl ty169 rfl (Nat.le_of_ble_eq_true rfl) (ones (oc rfl (oc rfl (oc rfl (oc rfl on))))) rfl ?_)
   refine TrL.v (v_assign rfl rfl) rfl rfl (bl rfl) ?_
   refine TrL.nil (qthen_n ?_)
   have hz := Option.some.inj H
   subst hz
   refine Tr.ret (qthen_r (ret_r ⟨[(6, .pointer (some ⟨b3, 0, none⟩)), (7, .int .i64 9)], [cells b3 [.int .i64 0, .int .i64 0, .int .u64 0, .slice none 0 0] 169], [slF rp_u64_i64_u64_LOu64_u64_C none 0 (([] : List (Int × Int × Int × List (Int × Int))))], []⟩ [.agg #[.int .i64 0, .int .i64 0, .int .u64 0, .slice none 0 0], .int .i64 9] [] [cells b3 [.int .i64 0, .int .i64 0, .int .u64 0, .slice none 0 0] 169] (Imp.addF' _ (nilF rp_u64_i64_u64_LOu64_u64_C) (Imp.re _ [1] [1] (sc rfl (sc rfl sn)) (by decide) rfl rfl rfl)) rfl rfl ⟨rfl, rfl, rfl⟩ (.cons (resv_cell (k := 0) rfl rfl ty169 nofun rfl rfl) (.cons (resv_tmp rfl) .nil))))
  ·refine TrL.cons_yes rfl rfl rfl (bf_dec h19) (OpTr.v (v_move rfl rfl) rfl (bl rfl) ?_)
   refine TrL.cons_yes rfl rfl rfl (bf_dec h19) (OpTr.v (v_arith rfl rfl rfl ar_gtr) rfl (bl rfl) ?_)
   refine TrL.v (v_pick_f rfl rfl (bf_dec h19) rfl) rfl rfl (bl rfl) ?_
   refine TrL.v (v_move rfl rfl) rfl rfl (bl rfl) ?_
   rcases ifc H with ⟨h20, H⟩ | ⟨h20, H⟩
   ·refine TrL.cons_no rfl rfl rfl (gn_f (bt_dec h20)) rfl (bl rfl) ?_
    refine TrL.cons_no rfl rfl rfl (gn_f (bt_dec h20)) rfl (bl rfl) ?_
    refine TrL.v (v_pick_t rfl rfl (bt_dec h20) rfl) rfl rfl (bl rfl) ?_
    refine TrL.v (v_move rfl rfl) rfl rfl (bl rfl) ?_
    refine TrL.cons_no rfl rfl rfl (gn_f rfl) rfl (bl rfl) ?_
    refine TrL.cons_no rfl rfl rfl (gn_f rfl) rfl (bl rfl) ?_
    refine TrL.v (v_pick_t rfl rfl rfl rfl) rfl rfl (bl rfl) ?_
    refine TrL.v (v_move rfl rfl) rfl rfl (bl rfl) ?_
    refine TrL.cons_no rfl rfl rfl (gn_f rfl) rfl (bl rfl) ?_
    refine TrL.cons_no rfl rfl rfl (gn_f rfl) rfl (bl rfl) ?_
    refine TrL.cons_no rfl rfl rfl (gn_f rfl) rfl (bl rfl) ?_
    refine TrL.cons_no rfl rfl rfl (gn_f rfl) rfl (bl rfl) ?_
    refine TrL.cons_no rfl rfl rfl (gn_f rfl) rfl (bl rfl) ?_
    refine TrL.v (v_pick_t rfl rfl rfl rfl) rfl rfl (bl rfl) ?_
    refine TrL.nil (qthen_n ?_)
    refine Tr.cond_t rfl rfl ?_
    refine Tr.seq ?_
    refine Tr.region ?_
    refine TrL.v (v_build (vs := []) (out := [.int .i64 0, .int .i64 0, .int .u64 0, .slice none 0 0]) rfl pl169 ze169 rfl rfl) rfl rfl (bl rfl) ?_
    refine TrL.cons rfl (op_store' (k := 1) (c' := [.int .i64 0, .int .i64 0, .int .u64 0, .slice none 0 0]) rfl rfl rfl rfl rfl ty169 rfl (Nat.le_of_ble_eq_true rfl) (ones (oc rfl (oc rfl (oc rfl (oc rfl on))))) rfl ?_)
    refine TrL.v (v_assign rfl rfl) rfl rfl (bl rfl) ?_
    refine TrL.nil (qthen_n ?_)
    have hz := Option.some.inj H
    subst hz
    refine Tr.ret (qthen_r (ret_r ⟨[(6, .pointer (some ⟨b3, 0, none⟩)), (7, .int .i64 9)], [cells b3 [.int .i64 0, .int .i64 0, .int .u64 0, .slice none 0 0] 169], [slF rp_u64_i64_u64_LOu64_u64_C none 0 (([] : List (Int × Int × Int × List (Int × Int))))], []⟩ [.agg #[.int .i64 0, .int .i64 0, .int .u64 0, .slice none 0 0], .int .i64 9] [] [cells b3 [.int .i64 0, .int .i64 0, .int .u64 0, .slice none 0 0] 169] (Imp.addF' _ (nilF rp_u64_i64_u64_LOu64_u64_C) (Imp.re _ [1] [1] (sc rfl (sc rfl sn)) (by decide) rfl rfl rfl)) rfl rfl ⟨rfl, rfl, rfl⟩ (.cons (resv_cell (k := 0) rfl rfl ty169 nofun rfl rfl) (.cons (resv_tmp rfl) .nil))))
   ·refine TrL.cons_yes rfl rfl rfl (bf_dec h20) (OpTr.v (v_move rfl rfl) rfl (bl rfl) ?_)
    refine TrL.cons_yes rfl rfl rfl (bf_dec h20) (OpTr.v (v_arith rfl rfl rfl ar_lss) rfl (bl rfl) ?_)
    refine TrL.v (v_pick_f rfl rfl (bf_dec h20) rfl) rfl rfl (bl rfl) ?_
    refine TrL.v (v_move rfl rfl) rfl rfl (bl rfl) ?_
    rcases ifc H with ⟨h21, H⟩ | ⟨h21, H⟩
    ·refine TrL.cons_no rfl rfl rfl (gn_f (bt_dec h21)) rfl (bl rfl) ?_
     refine TrL.cons_no rfl rfl rfl (gn_f (bt_dec h21)) rfl (bl rfl) ?_
     refine TrL.v (v_pick_t rfl rfl (bt_dec h21) rfl) rfl rfl (bl rfl) ?_
     refine TrL.v (v_move rfl rfl) rfl rfl (bl rfl) ?_
     refine TrL.cons_no rfl rfl rfl (gn_f rfl) rfl (bl rfl) ?_
     refine TrL.cons_no rfl rfl rfl (gn_f rfl) rfl (bl rfl) ?_
     refine TrL.cons_no rfl rfl rfl (gn_f rfl) rfl (bl rfl) ?_
     refine TrL.cons_no rfl rfl rfl (gn_f rfl) rfl (bl rfl) ?_
     refine TrL.cons_no rfl rfl rfl (gn_f rfl) rfl (bl rfl) ?_
     refine TrL.v (v_pick_t rfl rfl rfl rfl) rfl rfl (bl rfl) ?_
     refine TrL.nil (qthen_n ?_)
     refine Tr.cond_t rfl rfl ?_
     refine Tr.seq ?_
     refine Tr.region ?_
     refine TrL.v (v_build (vs := []) (out := [.int .i64 0, .int .i64 0, .int .u64 0, .slice none 0 0]) rfl pl169 ze169 rfl rfl) rfl rfl (bl rfl) ?_
     refine TrL.cons rfl (op_store' (k := 1) (c' := [.int .i64 0, .int .i64 0, .int .u64 0, .slice none 0 0]) rfl rfl rfl rfl rfl ty169 rfl (Nat.le_of_ble_eq_true rfl) (ones (oc rfl (oc rfl (oc rfl (oc rfl on))))) rfl ?_)
     refine TrL.v (v_assign rfl rfl) rfl rfl (bl rfl) ?_
     refine TrL.nil (qthen_n ?_)
     have hz := Option.some.inj H
     subst hz
     refine Tr.ret (qthen_r (ret_r ⟨[(6, .pointer (some ⟨b3, 0, none⟩)), (7, .int .i64 9)], [cells b3 [.int .i64 0, .int .i64 0, .int .u64 0, .slice none 0 0] 169], [slF rp_u64_i64_u64_LOu64_u64_C none 0 (([] : List (Int × Int × Int × List (Int × Int))))], []⟩ [.agg #[.int .i64 0, .int .i64 0, .int .u64 0, .slice none 0 0], .int .i64 9] [] [cells b3 [.int .i64 0, .int .i64 0, .int .u64 0, .slice none 0 0] 169] (Imp.addF' _ (nilF rp_u64_i64_u64_LOu64_u64_C) (Imp.re _ [1] [1] (sc rfl (sc rfl sn)) (by decide) rfl rfl rfl)) rfl rfl ⟨rfl, rfl, rfl⟩ (.cons (resv_cell (k := 0) rfl rfl ty169 nofun rfl rfl) (.cons (resv_tmp rfl) .nil))))
    ·refine TrL.cons_yes rfl rfl rfl (bf_dec h21) (OpTr.v (v_move rfl rfl) rfl (bl rfl) ?_)
     refine TrL.cons_yes rfl rfl rfl (bf_dec h21) (OpTr.v (v_arith rfl rfl rfl ar_gtr) rfl (bl rfl) ?_)
     refine TrL.v (v_pick_f rfl rfl (bf_dec h21) rfl) rfl rfl (bl rfl) ?_
     refine TrL.v (v_move rfl rfl) rfl rfl (bl rfl) ?_
     rcases ifc H with ⟨h22, H⟩ | ⟨h22, H⟩
     ·refine TrL.cons_no rfl rfl rfl (gn_f (bt_dec h22)) rfl (bl rfl) ?_
      refine TrL.cons_no rfl rfl rfl (gn_f (bt_dec h22)) rfl (bl rfl) ?_
      refine TrL.cons_no rfl rfl rfl (gn_f (bt_dec h22)) rfl (bl rfl) ?_
      refine TrL.cons_no rfl rfl rfl (gn_f (bt_dec h22)) rfl (bl rfl) ?_
      refine TrL.cons_no rfl rfl rfl (gn_f (bt_dec h22)) rfl (bl rfl) ?_
      refine TrL.v (v_pick_t rfl rfl (bt_dec h22) rfl) rfl rfl (bl rfl) ?_
      refine TrL.nil (qthen_n ?_)
      refine Tr.cond_t rfl rfl ?_
      refine Tr.seq ?_
      refine Tr.region ?_
      refine TrL.v (v_build (vs := []) (out := [.int .i64 0, .int .i64 0, .int .u64 0, .slice none 0 0]) rfl pl169 ze169 rfl rfl) rfl rfl (bl rfl) ?_
      refine TrL.cons rfl (op_store' (k := 1) (c' := [.int .i64 0, .int .i64 0, .int .u64 0, .slice none 0 0]) rfl rfl rfl rfl rfl ty169 rfl (Nat.le_of_ble_eq_true rfl) (ones (oc rfl (oc rfl (oc rfl (oc rfl on))))) rfl ?_)
      refine TrL.v (v_assign rfl rfl) rfl rfl (bl rfl) ?_
      refine TrL.nil (qthen_n ?_)
      have hz := Option.some.inj H
      subst hz
      refine Tr.ret (qthen_r (ret_r ⟨[(6, .pointer (some ⟨b3, 0, none⟩)), (7, .int .i64 9)], [cells b3 [.int .i64 0, .int .i64 0, .int .u64 0, .slice none 0 0] 169], [slF rp_u64_i64_u64_LOu64_u64_C none 0 (([] : List (Int × Int × Int × List (Int × Int))))], []⟩ [.agg #[.int .i64 0, .int .i64 0, .int .u64 0, .slice none 0 0], .int .i64 9] [] [cells b3 [.int .i64 0, .int .i64 0, .int .u64 0, .slice none 0 0] 169] (Imp.addF' _ (nilF rp_u64_i64_u64_LOu64_u64_C) (Imp.re _ [1] [1] (sc rfl (sc rfl sn)) (by decide) rfl rfl rfl)) rfl rfl ⟨rfl, rfl, rfl⟩ (.cons (resv_cell (k := 0) rfl rfl ty169 nofun rfl rfl) (.cons (resv_tmp rfl) .nil))))
     ·refine TrL.cons_yes rfl rfl rfl (bf_dec h22) (OpTr.v (v_move rfl rfl) rfl (bl rfl) ?_)
      refine TrL.cons_yes rfl rfl rfl (bf_dec h22) (OpTr.v (v_move rfl rfl) rfl (bl rfl) ?_)
      refine TrL.cons_yes rfl rfl rfl (bf_dec h22) (OpTr.v (v_conv' rfl ⟨_, Try.underlying3⟩ Try.underlying28 rfl wrap_u64') rfl (bl rfl) ?_)
      obtain ⟨h23, H⟩ := mst H
      refine TrL.cons_yes rfl rfl rfl (bf_dec h22) (OpTr.v (v_rem rfl rfl rfl h23) rfl (bl rfl) ?_)
      refine TrL.cons_yes rfl rfl rfl (bf_dec h22) (OpTr.v (v_arith rfl rfl rfl ar_neq) rfl (bl rfl) ?_)
      refine TrL.v (v_pick_f rfl rfl (bf_dec h22) rfl) rfl rfl (bl rfl) ?_
      refine TrL.nil (qthen_n ?_)
      rcases ifc H with ⟨h24, H⟩ | ⟨h24, H⟩
      ·refine Tr.cond_t rfl (bt_dec h24) ?_
       refine Tr.seq ?_
       refine Tr.region ?_
       refine TrL.v (v_build (vs := []) (out := [.int .i64 0, .int .i64 0, .int .u64 0, .slice none 0 0]) rfl pl169 ze169 rfl rfl) rfl rfl (bl rfl) ?_
       refine TrL.cons rfl (op_store' (k := 1) (c' := [.int .i64 0, .int .i64 0, .int .u64 0, .slice none 0 0]) rfl rfl rfl rfl rfl ty169 rfl (Nat.le_of_ble_eq_true rfl) (ones (oc rfl (oc rfl (oc rfl (oc rfl on))))) rfl ?_)
       refine TrL.v (v_assign rfl rfl) rfl rfl (bl rfl) ?_
       refine TrL.nil (qthen_n ?_)
       have hz := Option.some.inj H
       subst hz
       refine Tr.ret (qthen_r (ret_r ⟨[(6, .pointer (some ⟨b3, 0, none⟩)), (7, .int .i64 9)], [cells b3 [.int .i64 0, .int .i64 0, .int .u64 0, .slice none 0 0] 169], [slF rp_u64_i64_u64_LOu64_u64_C none 0 (([] : List (Int × Int × Int × List (Int × Int))))], []⟩ [.agg #[.int .i64 0, .int .i64 0, .int .u64 0, .slice none 0 0], .int .i64 9] [] [cells b3 [.int .i64 0, .int .i64 0, .int .u64 0, .slice none 0 0] 169] (Imp.addF' _ (nilF rp_u64_i64_u64_LOu64_u64_C) (Imp.re _ [1] [1] (sc rfl (sc rfl sn)) (by decide) rfl rfl rfl)) rfl rfl ⟨rfl, rfl, rfl⟩ (.cons (resv_cell (k := 0) rfl rfl ty169 nofun rfl rfl) (.cons (resv_tmp rfl) .nil))))
      ·refine Tr.cond_f rfl (bf_dec h24) ?_
       refine Tr.skip (qthen_n ?_)
       refine Tr.seq ?_
       refine Tr.region ?_
       refine TrL.v (v_move rfl rfl) rfl rfl (bl rfl) ?_
       refine TrL.v (v_move rfl rfl) rfl rfl (bl rfl) ?_
       refine TrL.v (v_move rfl rfl) rfl rfl (bl rfl) ?_
       refine TrL.v (v_build (vs := [.int .i64 p1, .int .i64 p2, .int .u64 p3]) (out := [.int .i64 p1, .int .i64 p2, .int .u64 p3, .slice none 0 0]) rfl pl169 ze169 rfl rfl) rfl rfl (bl rfl) ?_
       refine TrL.cons rfl (op_store' (k := 1) (c' := [.int .i64 p1, .int .i64 p2, .int .u64 p3, .slice none 0 0]) rfl rfl rfl rfl rfl ty169 rfl (Nat.le_of_ble_eq_true rfl) (ones (oc rfl (oc rfl (oc rfl (oc rfl on))))) rfl ?_)
       refine TrL.v (v_assign rfl rfl) rfl rfl (bl rfl) ?_
       refine TrL.nil (qthen_n ?_)
       have hz := Option.some.inj H
       subst hz
       refine Tr.ret (ret_r ⟨[(6, .pointer (some ⟨b3, 0, none⟩)), (7, .int .i64 0)], [cells b3 [.int .i64 p1, .int .i64 p2, .int .u64 p3, .slice none 0 0] 169], [slF rp_u64_i64_u64_LOu64_u64_C none 0 (([] : List (Int × Int × Int × List (Int × Int))))], []⟩ [.agg #[.int .i64 p1, .int .i64 p2, .int .u64 p3, .slice none 0 0], .int .i64 0] [] [cells b3 [.int .i64 p1, .int .i64 p2, .int .u64 p3, .slice none 0 0] 169] (Imp.addF' _ (nilF rp_u64_i64_u64_LOu64_u64_C) (Imp.re _ [1] [1] (sc rfl (sc rfl sn)) (by decide) rfl rfl rfl)) rfl rfl ⟨rfl, rfl, rfl⟩ (.cons (resv_cell (k := 0) rfl rfl ty169 nofun rfl rfl) (.cons (resv_tmp rfl) .nil)))
end Go.Proofs.Ytbeknohemgjfbaa.W
