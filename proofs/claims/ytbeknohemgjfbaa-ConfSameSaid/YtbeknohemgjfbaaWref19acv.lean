import Derived.Test.YtbeknohemgjfbaaKcv
import Derived.Test.YtbeknohemgjfbaaQcv
import Derived.Test.YtbeknohemgjfbaaWref17acv
namespace Go.Proofs.Ytbeknohemgjfbaa.W
open Go Go.Proofs Go.Proofs.Ytbeknohemgjfbaa.L Go.Proofs.Ytbeknohemgjfbaa.Pu
set_option linter.unusedVariables false
set_option maxHeartbeats 4000000

theorem c_ref19_Conf (p1 : Int) (p2 : Int) (p3 : Int) (r : Bool) (H : ref19_Conf p1 p2 p3 = some r) :
  Ctr Try.prog 155 [.int .i64 p1, .int .i64 p2, .int .u64 p3] [] [] (fun ret M' F' => ret = .bool r ∧ M' = [] ∧ F' = []) := by
 unfold ref19_Conf at H
 refine ctr_ofI (N := 32) Try.func155 rfl Try.ntmps155 rfl (Nat.le_of_ble_eq_true rfl) (fun γ0 w0 => ?_)
 refine Tr.seq ?_
 refine Tr.region ?_
 refine TrL.v (v_assign rfl rfl) rfl rfl (bl rfl) ?_
 refine TrL.nil (qthen_n ?_)
 refine Tr.seq ?_
 refine Tr.region ?_
 refine TrL.v (v_move rfl rfl) rfl rfl (bl rfl) ?_
 obtain ⟨r4, hr4, H⟩ := bnd H
 refine TrL.cons rfl (op_call0' (vs := [.int .i64 p1]) (cap := []) [] rfl rfl (bl rfl) rfl rfl en181 (c_ref17_Conf p1 r4 hr4) rfl (fun ret M' F' hR4 => ?_))
 obtain ⟨rfl, rfl, rfl⟩ := hR4
 refine TrL.v (v_move rfl rfl) rfl rfl (bl rfl) ?_
 rcases ifc H with ⟨h19, H⟩ | ⟨h19, H⟩
 ·refine TrL.cons_yes rfl rfl rfl h19 (OpTr.v (v_move rfl rfl) rfl (bl rfl) ?_)
  refine TrL.cons_yes rfl rfl rfl h19 (OpTr.v (v_arith rfl rfl rfl ar_geq) rfl (bl rfl) ?_)
  refine TrL.v (v_pick_t rfl rfl h19 rfl) rfl rfl (bl rfl) ?_
  refine TrL.v (v_move rfl rfl) rfl rfl (bl rfl) ?_
  rcases ifc H with ⟨h20, H⟩ | ⟨h20, H⟩
  ·refine TrL.cons_yes rfl rfl rfl (bt_dec h20) (OpTr.v (v_move rfl rfl) rfl (bl rfl) ?_)
   refine TrL.cons_yes rfl rfl rfl (bt_dec h20) (OpTr.v (v_arith rfl rfl rfl ar_leq) rfl (bl rfl) ?_)
   refine TrL.v (v_pick_t rfl rfl (bt_dec h20) rfl) rfl rfl (bl rfl) ?_
   refine TrL.v (v_move rfl rfl) rfl rfl (bl rfl) ?_
   rcases ifc H with ⟨h21, H⟩ | ⟨h21, H⟩
   ·refine TrL.cons_yes rfl rfl rfl (bt_dec h21) (OpTr.v (v_move rfl rfl) rfl (bl rfl) ?_)
    refine TrL.cons_yes rfl rfl rfl (bt_dec h21) (OpTr.v (v_arith rfl rfl rfl ar_geq) rfl (bl rfl) ?_)
    refine TrL.v (v_pick_t rfl rfl (bt_dec h21) rfl) rfl rfl (bl rfl) ?_
    refine TrL.v (v_move rfl rfl) rfl rfl (bl rfl) ?_
    rcases ifc H with ⟨h22, H⟩ | ⟨h22, H⟩
    ·refine TrL.cons_yes rfl rfl rfl (bt_dec h22) (OpTr.v (v_move rfl rfl) rfl (bl rfl) ?_)
     refine TrL.cons_yes rfl rfl rfl (bt_dec h22) (OpTr.v (v_arith rfl rfl rfl ar_leq) rfl (bl rfl) ?_)
     refine TrL.v (v_pick_t rfl rfl (bt_dec h22) rfl) rfl rfl (bl rfl) ?_
     refine TrL.v (v_move rfl rfl) rfl rfl (bl rfl) ?_
     rcases ifc H with ⟨h23, H⟩ | ⟨h23, H⟩
     ·refine TrL.cons_yes rfl rfl rfl (bt_dec h23) (OpTr.v (v_move rfl rfl) rfl (bl rfl) ?_)
      refine TrL.cons_yes rfl rfl rfl (bt_dec h23) (OpTr.v (v_move rfl rfl) rfl (bl rfl) ?_)
      refine TrL.cons_yes rfl rfl rfl (bt_dec h23) (OpTr.v (v_conv' rfl ⟨_, Try.underlying3⟩ Try.underlying28 rfl wrap_u64') rfl (bl rfl) ?_)
      obtain ⟨h24, H⟩ := mst H
      refine TrL.cons_yes rfl rfl rfl (bt_dec h23) (OpTr.v (v_rem rfl rfl rfl h24) rfl (bl rfl) ?_)
      refine TrL.cons_yes rfl rfl rfl (bt_dec h23) (OpTr.v (v_arith rfl rfl rfl ar_eql) rfl (bl rfl) ?_)
      refine TrL.v (v_pick_t rfl rfl (bt_dec h23) rfl) rfl rfl (bl rfl) ?_
      refine TrL.v (v_assign rfl rfl) rfl rfl (bl rfl) ?_
      refine TrL.nil (qthen_n ?_)
      have hz := Option.some.inj H
      subst hz
      refine Tr.ret (ret_r ⟨[(6, .bool (decide ((p3.tmod (wu64 p2)) = 0)))], [], [], []⟩ [.bool (decide ((p3.tmod (wu64 p2)) = 0))] [] [] (Imp.re _ [] [] (sc rfl sn) (by decide) rfl rfl rfl) rfl rfl ⟨rfl, rfl, rfl⟩ (.cons (resv_tmp rfl) .nil))
     ·refine TrL.cons_no rfl rfl rfl (gn_t (bf_dec h23)) rfl (bl rfl) ?_
      refine TrL.cons_no rfl rfl rfl (gn_t (bf_dec h23)) rfl (bl rfl) ?_
      refine TrL.cons_no rfl rfl rfl (gn_t (bf_dec h23)) rfl (bl rfl) ?_
      refine TrL.cons_no rfl rfl rfl (gn_t (bf_dec h23)) rfl (bl rfl) ?_
      refine TrL.cons_no rfl rfl rfl (gn_t (bf_dec h23)) rfl (bl rfl) ?_
      refine TrL.v (v_pick_f rfl rfl (bf_dec h23) rfl) rfl rfl (bl rfl) ?_
      refine TrL.v (v_assign rfl rfl) rfl rfl (bl rfl) ?_
      refine TrL.nil (qthen_n ?_)
      have hz := Option.some.inj H
      subst hz
      refine Tr.ret (ret_r ⟨[(6, .bool false)], [], [], []⟩ [.bool false] [] [] (Imp.re _ [] [] (sc rfl sn) (by decide) rfl rfl rfl) rfl rfl ⟨rfl, rfl, rfl⟩ (.cons (resv_tmp rfl) .nil))
    ·refine TrL.cons_no rfl rfl rfl (gn_t (bf_dec h22)) rfl (bl rfl) ?_
     refine TrL.cons_no rfl rfl rfl (gn_t (bf_dec h22)) rfl (bl rfl) ?_
     refine TrL.v (v_pick_f rfl rfl (bf_dec h22) rfl) rfl rfl (bl rfl) ?_
     refine TrL.v (v_move rfl rfl) rfl rfl (bl rfl) ?_
     refine TrL.cons_no rfl rfl rfl (gn_t rfl) rfl (bl rfl) ?_
     refine TrL.cons_no rfl rfl rfl (gn_t rfl) rfl (bl rfl) ?_
     refine TrL.cons_no rfl rfl rfl (gn_t rfl) rfl (bl rfl) ?_
     refine TrL.cons_no rfl rfl rfl (gn_t rfl) rfl (bl rfl) ?_
     refine TrL.cons_no rfl rfl rfl (gn_t rfl) rfl (bl rfl) ?_
     refine TrL.v (v_pick_f rfl rfl rfl rfl) rfl rfl (bl rfl) ?_
     refine TrL.v (v_assign rfl rfl) rfl rfl (bl rfl) ?_
     refine TrL.nil (qthen_n ?_)
     have hz := Option.some.inj H
     subst hz
     refine Tr.ret (ret_r ⟨[(6, .bool false)], [], [], []⟩ [.bool false] [] [] (Imp.re _ [] [] (sc rfl sn) (by decide) rfl rfl rfl) rfl rfl ⟨rfl, rfl, rfl⟩ (.cons (resv_tmp rfl) .nil))
   ·refine TrL.cons_no rfl rfl rfl (gn_t (bf_dec h21)) rfl (bl rfl) ?_
    refine TrL.cons_no rfl rfl rfl (gn_t (bf_dec h21)) rfl (bl rfl) ?_
    refine TrL.v (v_pick_f rfl rfl (bf_dec h21) rfl) rfl rfl (bl rfl) ?_
    refine TrL.v (v_move rfl rfl) rfl rfl (bl rfl) ?_
    refine TrL.cons_no rfl rfl rfl (gn_t rfl) rfl (bl rfl) ?_
    refine TrL.cons_no rfl rfl rfl (gn_t rfl) rfl (bl rfl) ?_
    refine TrL.v (v_pick_f rfl rfl rfl rfl) rfl rfl (bl rfl) ?_
    refine TrL.v (v_move rfl rfl) rfl rfl (bl rfl) ?_
    refine TrL.cons_no rfl rfl rfl (gn_t rfl) rfl (bl rfl) ?_
    refine TrL.cons_no rfl rfl rfl (gn_t rfl) rfl (bl rfl) ?_
    refine TrL.cons_no rfl rfl rfl (gn_t rfl) rfl (bl rfl) ?_
    refine TrL.cons_no rfl rfl rfl (gn_t rfl) rfl (bl rfl) ?_
    refine TrL.cons_no rfl rfl rfl (gn_t rfl) rfl (bl rfl) ?_
    refine TrL.v (v_pick_f rfl rfl rfl rfl) rfl rfl (bl rfl) ?_
    refine TrL.v (v_assign rfl rfl) rfl rfl (bl rfl) ?_
    refine TrL.nil (qthen_n ?_)
    have hz := Option.some.inj H
    subst hz
    refine Tr.ret (ret_r ⟨[(6, .bool false)], [], [], []⟩ [.bool false] [] [] (Imp.re _ [] [] (sc rfl sn) (by decide) rfl rfl rfl) rfl rfl ⟨rfl, rfl, rfl⟩ (.cons (resv_tmp rfl) .nil))
  ·refine TrL.cons_no rfl rfl rfl (gn_t (bf_dec h20)) rfl (bl rfl) ?_
   refine TrL.cons_no rfl rfl rfl (gn_t (bf_dec h20)) rfl (bl rfl) ?_
   refine TrL.v (v_pick_f rfl rfl (bf_dec h20) rfl) rfl rfl (bl rfl) ?_
   refine TrL.v (v_move rfl rfl) rfl rfl (bl rfl) ?_
   refine TrL.cons_no rfl rfl rfl (gn_t rfl) rfl (bl rfl) ?_
   refine TrL.cons_no rfl rfl rfl (gn_t rfl) rfl (bl rfl) ?_
   refine TrL.v (v_pick_f rfl rfl rfl rfl) rfl rfl (bl rfl) ?_
   refine TrL.v (v_move rfl rfl) rfl rfl (bl rfl) ?_
   refine TrL.cons_no rfl rfl rfl (gn_t rfl) rfl (bl rfl) ?_
   refine TrL.cons_no rfl rfl rfl (gn_t rfl) rfl (bl rfl) ?_
   refine TrL.v (v_pick_f rfl rfl rfl rfl) rfl rfl (bl rfl) ?_
   refine TrL.v (v_move rfl rfl) rfl rfl (bl rfl) ?_
   refine TrL.cons_no rfl rfl rfl (gn_t rfl) rfl (bl rfl) ?_
   refine TrL.cons_no rfl rfl rfl (gn_t rfl) rfl (bl rfl) ?_
   refine TrL.cons_no rfl rfl rfl (gn_t rfl) rfl (bl rfl) ?_
   refine TrL.cons_no rfl rfl rfl (gn_t rfl) rfl (bl rfl) ?_
   refine TrL.cons_no rfl rfl rfl (gn_t rfl) rfl (bl rfl) ?_
   refine TrL.v (v_pick_f rfl rfl rfl rfl) rfl rfl (bl rfl) ?_
   refine TrL.v (v_assign rfl rfl) rfl rfl (bl rfl) ?_
   refine TrL.nil (qthen_n ?_)
   have hz := Option.some.inj H
   subst hz
   refine Tr.ret (ret_r ⟨[(6, .bool false)], [], [], []⟩ [.bool false] [] [] (Imp.re _ [] [] (sc rfl sn) (by decide) rfl rfl rfl) rfl rfl ⟨rfl, rfl, rfl⟩ (.cons (resv_tmp rfl) .nil))
 ·refine TrL.cons_no rfl rfl rfl (gn_t (bf_b h19)) rfl (bl rfl) ?_
  refine TrL.cons_no rfl rfl rfl (gn_t (bf_b h19)) rfl (bl rfl) ?_
  refine TrL.v (v_pick_f rfl rfl (bf_b h19) rfl) rfl rfl (bl rfl) ?_
  refine TrL.v (v_move rfl rfl) rfl rfl (bl rfl) ?_
  refine TrL.cons_no rfl rfl rfl (gn_t rfl) rfl (bl rfl) ?_
  refine TrL.cons_no rfl rfl rfl (gn_t rfl) rfl (bl rfl) ?_
  refine TrL.v (v_pick_f rfl rfl rfl rfl) rfl rfl (bl rfl) ?_
  refine TrL.v (v_move rfl rfl) rfl rfl (bl rfl) ?_
  refine TrL.cons_no rfl rfl rfl (gn_t rfl) rfl (bl rfl) ?_
  refine TrL.cons_no rfl rfl rfl (gn_t rfl) rfl (bl rfl) ?_
  refine TrL.v (v_pick_f rfl rfl rfl rfl) rfl rfl (bl rfl) ?_
  refine TrL.v (v_move rfl rfl) rfl rfl (bl rfl) ?_
  refine TrL.cons_no rfl rfl rfl (gn_t rfl) rfl (bl rfl) ?_
  refine TrL.cons_no rfl rfl rfl (gn_t rfl) rfl (bl rfl) ?_
  refine TrL.v (v_pick_f rfl rfl rfl rfl) rfl rfl (bl rfl) ?_
  refine TrL.v (v_move rfl rfl) rfl rfl (bl rfl) ?_
  refine TrL.cons_no rfl rfl rfl (gn_t rfl) rfl (bl rfl) ?_
  refine TrL.cons_no rfl rfl rfl (gn_t rfl) rfl (bl rfl) ?_
  refine TrL.cons_no rfl rfl rfl (gn_t rfl) rfl (bl rfl) ?_
  refine TrL.cons_no rfl rfl rfl (gn_t rfl) rfl (bl rfl) ?_
  refine TrL.cons_no rfl rfl rfl (gn_t rfl) rfl (bl rfl) ?_
  refine TrL.v (v_pick_f rfl rfl rfl rfl) rfl rfl (bl rfl) ?_
  refine TrL.v (v_assign rfl rfl) rfl rfl (bl rfl) ?_
  refine TrL.nil (qthen_n ?_)
  have hz := Option.some.inj H
  subst hz
  refine Tr.ret (ret_r ⟨[(6, .bool false)], [], [], []⟩ [.bool false] [] [] (Imp.re _ [] [] (sc rfl sn) (by decide) rfl rfl rfl) rfl rfl ⟨rfl, rfl, rfl⟩ (.cons (resv_tmp rfl) .nil))

theorem c_ref19_Tame (p1 : Int) (p2 : Int) (p3 : Int) (r : Unit) (H : ref19_Tame p1 p2 p3 = some r) :
  Ctr Try.prog 160 [.int .i64 p1, .int .i64 p2, .int .u64 p3] [] [] (fun ret M' F' => ret = .agg #[.int .i64 (wi64 (1 + ((max p1 0).tmod 8))), .int .i64 (wi64 (1 + ((max p2 0).tmod 6))), .int .u64 (wu64 ((wu64 (wi64 (1 + ((max p2 0).tmod 6)))) * (wu64 (1 + (p3.tmod 40))))), .slice none 0 0] ∧ M' = [] ∧ F' = [slF rp_u64_i64_u64_LOu64_u64_C none 0 (([] : List (Int × Int × Int × List (Int × Int))))]) := by
 unfold ref19_Tame at H
 refine ctr_ofI (N := 24) Try.func160 rfl Try.ntmps160 rfl (Nat.le_of_ble_eq_true rfl) (fun γ0 w0 => ?_)
 refine Tr.seq ?_
 refine Tr.region ?_
 refine TrL.cons rfl (op_alloc' rfl (bl rfl) rfl ze241 (fun b2 => ?_))
 refine TrL.nil (qthen_n ?_)
 refine Tr.seq ?_
 refine Tr.region ?_
 refine TrL.v (v_move rfl rfl) rfl rfl (bl rfl) ?_
 refine TrL.v (v_max rfl rfl rfl) rfl rfl (bl rfl) ?_
 refine TrL.v (v_rem rfl rfl rfl (by decide)) rfl rfl (bl rfl) ?_
 refine TrL.v (v_arith rfl rfl rfl ar_add_i64) rfl rfl (bl rfl) ?_
 refine TrL.v (v_assign rfl rfl) rfl rfl (bl rfl) ?_
 refine TrL.nil (qthen_n ?_)
 refine Tr.seq ?_
 refine Tr.region ?_
 refine TrL.v (v_move rfl rfl) rfl rfl (bl rfl) ?_
 refine TrL.v (v_max rfl rfl rfl) rfl rfl (bl rfl) ?_
 refine TrL.v (v_rem rfl rfl rfl (by decide)) rfl rfl (bl rfl) ?_
 refine TrL.v (v_arith rfl rfl rfl ar_add_i64) rfl rfl (bl rfl) ?_
 refine TrL.v (v_move rfl rfl) rfl rfl (bl rfl) ?_
 refine TrL.v (v_move rfl rfl) rfl rfl (bl rfl) ?_
 refine TrL.v (v_conv' rfl ⟨_, Try.underlying3⟩ Try.underlying28 rfl wrap_u64') rfl rfl (bl rfl) ?_
 refine TrL.v (v_move rfl rfl) rfl rfl (bl rfl) ?_
 refine TrL.v (v_rem rfl rfl rfl (by decide)) rfl rfl (bl rfl) ?_
 refine TrL.v (v_arith rfl rfl rfl ar_add_u64) rfl rfl (bl rfl) ?_
 refine TrL.v (v_arith rfl rfl rfl ar_mul_u64) rfl rfl (bl rfl) ?_
 refine TrL.v (v_build (vs := [.int .i64 (wi64 (1 + ((max p1 0).tmod 8))), .int .i64 (wi64 (1 + ((max p2 0).tmod 6))), .int .u64 (wu64 ((wu64 (wi64 (1 + ((max p2 0).tmod 6)))) * (wu64 (1 + (p3.tmod 40)))))]) (out := [.int .i64 (wi64 (1 + ((max p1 0).tmod 8))), .int .i64 (wi64 (1 + ((max p2 0).tmod 6))), .int .u64 (wu64 ((wu64 (wi64 (1 + ((max p2 0).tmod 6)))) * (wu64 (1 + (p3.tmod 40))))), .slice none 0 0]) rfl pl241 ze241 rfl rfl) rfl rfl (bl rfl) ?_
 refine TrL.cons rfl (op_store' (k := 0) (c' := [.int .i64 (wi64 (1 + ((max p1 0).tmod 8))), .int .i64 (wi64 (1 + ((max p2 0).tmod 6))), .int .u64 (wu64 ((wu64 (wi64 (1 + ((max p2 0).tmod 6)))) * (wu64 (1 + (p3.tmod 40))))), .slice none 0 0]) rfl rfl rfl rfl rfl ty241 rfl (Nat.le_of_ble_eq_true rfl) (ones (oc rfl (oc rfl (oc rfl (oc rfl on))))) rfl ?_)
 refine TrL.nil (qthen_n ?_)
 have hz := Option.some.inj H
 subst hz
 refine Tr.ret (ret_r ⟨[(6, .pointer (some ⟨b2, 0, none⟩))], [cells b2 [.int .i64 (wi64 (1 + ((max p1 0).tmod 8))), .int .i64 (wi64 (1 + ((max p2 0).tmod 6))), .int .u64 (wu64 ((wu64 (wi64 (1 + ((max p2 0).tmod 6)))) * (wu64 (1 + (p3.tmod 40))))), .slice none 0 0] 241], [slF rp_u64_i64_u64_LOu64_u64_C none 0 (([] : List (Int × Int × Int × List (Int × Int))))], []⟩ [.agg #[.int .i64 (wi64 (1 + ((max p1 0).tmod 8))), .int .i64 (wi64 (1 + ((max p2 0).tmod 6))), .int .u64 (wu64 ((wu64 (wi64 (1 + ((max p2 0).tmod 6)))) * (wu64 (1 + (p3.tmod 40))))), .slice none 0 0]] [] [cells b2 [.int .i64 (wi64 (1 + ((max p1 0).tmod 8))), .int .i64 (wi64 (1 + ((max p2 0).tmod 6))), .int .u64 (wu64 ((wu64 (wi64 (1 + ((max p2 0).tmod 6)))) * (wu64 (1 + (p3.tmod 40))))), .slice none 0 0] 241] (Imp.addF' _ (nilF rp_u64_i64_u64_LOu64_u64_C) (Imp.re _ [0] [0] (sc rfl sn) (by decide) rfl rfl rfl)) rfl rfl ⟨rfl, rfl, rfl⟩ (.cons (resv_cell (k := 0) rfl rfl ty241 nofun rfl rfl) .nil))
end Go.Proofs.Ytbeknohemgjfbaa.W
