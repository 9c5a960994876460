/- The contracts of the walked functions: the printed walks. -/
import Derived.Test.YtbeknohemgjfbaaKc
import Derived.Test.YtbeknohemgjfbaaQc
import Derived.Test.YtbeknohemgjfbaaWslicesac
namespace Go.Proofs.Ytbeknohemgjfbaa.W
open Go Go.Proofs Go.Proofs.Ytbeknohemgjfbaa.L Go.Proofs.Ytbeknohemgjfbaa.Pu
set_option linter.unusedVariables false
set_option maxHeartbeats 4000000

theorem c_hist_Hist_equal (p1 : Int × Int × List (List (Int × Int))) (p2 : List (List (Int × Int))) (A1 : Option Addr) (c1 : Nat) (A2 : Option Addr) (c2 : Nat) (r : Bool) (H : hist_Hist_equal p1 p2 = some r) :
    Ctr Try.prog 124 [.agg #[.int .i64 p1.1, .int .i64 p1.2.1, .slice A1 p1.2.2.length c1], .slice A2 p2.length c2] [] [slF (rSl rp_u64_u64) A1 c1 p1.2.2, slF (rSl rp_u64_u64) A2 c2 p2] (fun ret M' F' => ret = .bool r ∧ M' = [] ∧ F' = []) := by
  unfold hist_Hist_equal at H
  refine ctr_ofI (N := 9) Try.func124 rfl Try.ntmps124 rfl (Nat.le_of_ble_eq_true rfl) (fun γ0 w0 => ?_)
  refine Tr.seq ?_
  refine Tr.region ?_
  refine TrL.cons rfl (op_box' rfl (bl rfl) rfl rfl rfl (fun b2 => ?_))
  refine TrL.v (v_assign rfl rfl) rfl rfl (bl rfl) ?_
  refine TrL.nil (qthen_n ?_)
  refine Tr.seq ?_
  refine Tr.region ?_
  refine TrL.v (v_fieldAddr' rfl fo35_2 rfl rfl) rfl rfl (bl rfl) ?_
  refine TrL.v (v_load (k := 0) rfl rfl rfl ty24 (fun _ => rfl) rfl rfl) rfl rfl (bl rfl) ?_
  refine TrL.v (v_move rfl rfl) rfl rfl (bl rfl) ?_
  obtain ⟨r2, hr2, H⟩ := bnd H
  refine TrL.cons rfl (op_call0' (vs := [.slice A1 p1.2.2.length c1, .slice A2 p2.length c2, .func (.func 162) #[] #[]]) (cap := []) [0, 1] rfl rfl (bl rfl) rfl rfl en161 (c_slices_EqualFunc_Spans p1.2.2 p2 A1 c1 A2 c2 r2 hr2) rfl (fun ret M' F' hR2 => ?_))
  obtain ⟨rfl, rfl, rfl⟩ := hR2
  refine TrL.v (v_assign rfl rfl) rfl rfl (bl rfl) ?_
  refine TrL.nil (qthen_n ?_)
  have hz := Option.some.inj H
  subst hz
  refine Tr.ret (ret_r ⟨[(4, .bool r2)], [], [], []⟩ [.bool r2] [] [] (Imp.re _ [] [] (sc rfl sn) (by decide) rfl rfl rfl) rfl rfl ⟨rfl, rfl, rfl⟩ (.cons (resv_tmp rfl) .nil))

theorem c_hist_Same (p1 : Int × Int × List (List (Int × Int))) (p2 : Int × Int × List (List (Int × Int))) (A1 : Option Addr) (c1 : Nat) (A2 : Option Addr) (c2 : Nat) (r : Bool) (H : hist_Same p1 p2 = some r) :
    Ctr Try.prog 63 [.agg #[.int .i64 p1.1, .int .i64 p1.2.1, .slice A1 p1.2.2.length c1], .agg #[.int .i64 p2.1, .int .i64 p2.2.1, .slice A2 p2.2.2.length c2]] [] [slF (rSl rp_u64_u64) A1 c1 p1.2.2, slF (rSl rp_u64_u64) A2 c2 p2.2.2] (fun ret M' F' => ret = .bool r ∧ M' = [] ∧ F' = []) := by
  unfold hist_Same at H
  refine ctr_ofI (N := 26) Try.func63 rfl Try.ntmps63 rfl (Nat.le_of_ble_eq_true rfl) (fun γ0 w0 => ?_)
  refine Tr.seq ?_
  refine Tr.region ?_
  refine TrL.cons rfl (op_box' rfl (bl rfl) rfl rfl rfl (fun b3 => ?_))
  refine TrL.cons rfl (op_box' rfl (bl rfl) rfl rfl rfl (fun b4 => ?_))
  refine TrL.v (v_assign rfl rfl) rfl rfl (bl rfl) ?_
  refine TrL.nil (qthen_n ?_)
  refine Tr.seq ?_
  refine Tr.region ?_
  refine TrL.v (v_load (k := 1) rfl rfl rfl ty35 nofun rfl rfl) rfl rfl (bl rfl) ?_
  refine TrL.v (v_makeFunc' (us := [.agg #[.int .i64 p1.1, .int .i64 p1.2.1, .slice A1 p1.2.2.length c1]]) (vs := []) rfl rfl rfl rfl) rfl rfl (bl rfl) ?_
  refine TrL.v (v_assign rfl rfl) rfl rfl (bl rfl) ?_
  refine TrL.nil (qthen_n ?_)
  refine Tr.seq ?_
  refine Tr.region ?_
  refine TrL.v (v_fieldAddr' rfl fo35_0 rfl rfl) rfl rfl (bl rfl) ?_
  refine TrL.v (v_load (k := 1) rfl rfl rfl ty3 (fun _ => rfl) rfl rfl) rfl rfl (bl rfl) ?_
  refine TrL.v (v_fieldAddr' rfl fo35_0 rfl rfl) rfl rfl (bl rfl) ?_
  refine TrL.v (v_load (k := 0) rfl rfl rfl ty3 (fun _ => rfl) rfl rfl) rfl rfl (bl rfl) ?_
  refine TrL.v (v_arith rfl rfl rfl ar_eql) rfl rfl (bl rfl) ?_
  refine TrL.v (v_move rfl rfl) rfl rfl (bl rfl) ?_
  rcases ifc H with ⟨h7, H⟩ | ⟨h7, H⟩
  · refine TrL.cons_yes rfl rfl rfl (bt_dec h7) (OpTr.v (v_fieldAddr' rfl fo35_1 rfl rfl) rfl (bl rfl) ?_)
    refine TrL.cons_yes rfl rfl rfl (bt_dec h7) (OpTr.v (v_load (k := 1) rfl rfl rfl ty3 (fun _ => rfl) rfl rfl) rfl (bl rfl) ?_)
    refine TrL.cons_yes rfl rfl rfl (bt_dec h7) (OpTr.v (v_fieldAddr' rfl fo35_1 rfl rfl) rfl (bl rfl) ?_)
    refine TrL.cons_yes rfl rfl rfl (bt_dec h7) (OpTr.v (v_load (k := 0) rfl rfl rfl ty3 (fun _ => rfl) rfl rfl) rfl (bl rfl) ?_)
    refine TrL.cons_yes rfl rfl rfl (bt_dec h7) (OpTr.v (v_arith rfl rfl rfl ar_eql) rfl (bl rfl) ?_)
    refine TrL.v (v_pick_t rfl rfl (bt_dec h7) rfl) rfl rfl (bl rfl) ?_
    refine TrL.v (v_move rfl rfl) rfl rfl (bl rfl) ?_
    rcases ifc H with ⟨h8, H⟩ | ⟨h8, H⟩
    · refine TrL.cons_yes rfl rfl rfl (bt_dec h8) (OpTr.v (v_move rfl rfl) rfl (bl rfl) ?_)
      refine TrL.cons_yes rfl rfl rfl (bt_dec h8) (OpTr.v (v_fieldAddr' rfl fo35_2 rfl rfl) rfl (bl rfl) ?_)
      refine TrL.cons_yes rfl rfl rfl (bt_dec h8) (OpTr.v (v_load (k := 0) rfl rfl rfl ty24 (fun _ => rfl) rfl rfl) rfl (bl rfl) ?_)
      obtain ⟨r4, hr4, H⟩ := bnd H
      refine TrL.cons_yes rfl rfl rfl (bt_dec h8) (op_callg' (fs := [.agg #[.int .i64 p1.1, .int .i64 p1.2.1, .slice A1 p1.2.2.length c1]]) (vs := [.slice A2 p2.2.2.length c2]) (cap := []) (Mr := [cells b4 [.int .i64 p2.1, .int .i64 p2.2.1, .slice A2 p2.2.2.length c2] 35, cells b3 [.int .i64 p1.1, .int .i64 p1.2.1, .slice A1 p1.2.2.length c1] 35]) [] [0, 1] [0, 1] rfl rfl rfl en124 (c_hist_Hist_equal p1 p2.2.2 A1 c1 A2 c2 r4 hr4) (by decide) rfl rfl rfl (bl rfl) (fun ret M' F' hR4 => ?_))
      obtain ⟨rfl, rfl, rfl⟩ := hR4
      refine TrL.v (v_pick_t rfl rfl (bt_dec h8) rfl) rfl rfl (bl rfl) ?_
      refine TrL.v (v_assign rfl rfl) rfl rfl (bl rfl) ?_
      refine TrL.nil (qthen_n ?_)
      have hz := Option.some.inj H
      subst hz
      refine Tr.ret (ret_r ⟨[(4, .bool r4)], [], [], []⟩ [.bool r4] [] [] (Imp.re _ [] [] (sc rfl sn) (by decide) rfl rfl rfl) rfl rfl ⟨rfl, rfl, rfl⟩ (.cons (resv_tmp rfl) .nil))
    · refine TrL.cons_no rfl rfl rfl (gn_t (bf_dec h8)) rfl (bl rfl) ?_
      refine TrL.cons_no rfl rfl rfl (gn_t (bf_dec h8)) rfl (bl rfl) ?_
      refine TrL.cons_no rfl rfl rfl (gn_t (bf_dec h8)) rfl (bl rfl) ?_
      refine TrL.cons_no rfl rfl rfl (gn_t (bf_dec h8)) rfl (bl rfl) ?_
      refine TrL.v (v_pick_f rfl rfl (bf_dec h8) rfl) rfl rfl (bl rfl) ?_
      refine TrL.v (v_assign rfl rfl) rfl rfl (bl rfl) ?_
      refine TrL.nil (qthen_n ?_)
      have hz := Option.some.inj H
      subst hz
      refine Tr.ret (ret_r ⟨[(4, .bool false)], [], [], []⟩ [.bool false] [] [] (Imp.re _ [] [] (sc rfl sn) (by decide) rfl rfl rfl) rfl rfl ⟨rfl, rfl, rfl⟩ (.cons (resv_tmp rfl) .nil))
  · refine TrL.cons_no rfl rfl rfl (gn_t (bf_dec h7)) rfl (bl rfl) ?_
    refine TrL.cons_no rfl rfl rfl (gn_t (bf_dec h7)) rfl (bl rfl) ?_
    refine TrL.cons_no rfl rfl rfl (gn_t (bf_dec h7)) rfl (bl rfl) ?_
    refine TrL.cons_no rfl rfl rfl (gn_t (bf_dec h7)) rfl (bl rfl) ?_
    refine TrL.cons_no rfl rfl rfl (gn_t (bf_dec h7)) rfl (bl rfl) ?_
    refine TrL.v (v_pick_f rfl rfl (bf_dec h7) rfl) rfl rfl (bl rfl) ?_
    refine TrL.v (v_move rfl rfl) rfl rfl (bl rfl) ?_
    refine TrL.cons_no rfl rfl rfl (gn_t rfl) rfl (bl rfl) ?_
    refine TrL.cons_no rfl rfl rfl (gn_t rfl) rfl (bl rfl) ?_
    refine TrL.cons_no rfl rfl rfl (gn_t rfl) rfl (bl rfl) ?_
    refine TrL.cons_no rfl rfl rfl (gn_t rfl) rfl (bl rfl) ?_
    refine TrL.v (v_pick_f rfl rfl rfl rfl) rfl rfl (bl rfl) ?_
    refine TrL.v (v_assign rfl rfl) rfl rfl (bl rfl) ?_
    refine TrL.nil (qthen_n ?_)
    have hz := Option.some.inj H
    subst hz
    refine Tr.ret (ret_r ⟨[(4, .bool false)], [], [], []⟩ [.bool false] [] [] (Imp.re _ [] [] (sc rfl sn) (by decide) rfl rfl rfl) rfl rfl ⟨rfl, rfl, rfl⟩ (.cons (resv_tmp rfl) .nil))

theorem c_hist_New (p1 : Int) (r : Int × Int) (H : hist_New p1 = some r) :
    Ctr Try.prog 150 [.int .i64 p1] [] [] (fun ret M' F' => ret = .tuple #[.agg #[.int .i64 r.1, .int .i64 0, .slice none 0 0], .int .i64 r.2] ∧ M' = [] ∧ F' = [slF (rSl rp_u64_u64) none 0 (([] : List (List (Int × Int))))]) := by
  unfold hist_New at H
  refine ctr_ofI (N := 13) Try.func150 rfl Try.ntmps150 rfl (Nat.le_of_ble_eq_true rfl) (fun γ0 w0 => ?_)
  refine Tr.seq ?_
  refine Tr.region ?_
  refine TrL.cons rfl (op_alloc' rfl (bl rfl) rfl ze35 (fun b2 => ?_))
  refine TrL.v (v_assign rfl rfl) rfl rfl (bl rfl) ?_
  refine TrL.nil (qthen_n ?_)
  refine Tr.seq ?_
  refine Tr.seq ?_
  refine Tr.region ?_
  refine TrL.v (v_move rfl rfl) rfl rfl (bl rfl) ?_
  refine TrL.v (v_arith rfl rfl rfl ar_lss) rfl rfl (bl rfl) ?_
  refine TrL.v (v_move rfl rfl) rfl rfl (bl rfl) ?_
  rcases ifc H with ⟨h5, H⟩ | ⟨h5, H⟩
  · refine TrL.cons_no rfl rfl rfl (gn_f (bt_dec h5)) rfl (bl rfl) ?_
    refine TrL.cons_no rfl rfl rfl (gn_f (bt_dec h5)) rfl (bl rfl) ?_
    refine TrL.v (v_pick_t rfl rfl (bt_dec h5) rfl) rfl rfl (bl rfl) ?_
    refine TrL.nil (qthen_n ?_)
    refine Tr.cond_t rfl rfl ?_
    refine Tr.seq ?_
    refine Tr.region ?_
    refine TrL.v (v_build (vs := []) (out := [.int .i64 0, .int .i64 0, .slice none 0 0]) rfl pl35 ze35 rfl rfl) rfl rfl (bl rfl) ?_
    refine TrL.cons rfl (op_store' (k := 0) (c' := [.int .i64 0, .int .i64 0, .slice none 0 0]) rfl rfl rfl rfl rfl ty35 rfl (Nat.le_of_ble_eq_true rfl) (ones (oc rfl (oc rfl (oc rfl on)))) rfl ?_)
    refine TrL.v (v_assign rfl rfl) rfl rfl (bl rfl) ?_
    refine TrL.nil (qthen_n ?_)
    have hz := Option.some.inj H
    subst hz
    refine Tr.ret (qthen_r (ret_r ⟨[(2, .pointer (some ⟨b2, 0, none⟩)), (3, .int .i64 9)], [cells b2 [.int .i64 0, .int .i64 0, .slice none 0 0] 35], [slF (rSl rp_u64_u64) none 0 (([] : List (List (Int × Int))))], []⟩ [.agg #[.int .i64 0, .int .i64 0, .slice none 0 0], .int .i64 9] [] [cells b2 [.int .i64 0, .int .i64 0, .slice none 0 0] 35] (Imp.addF' _ (nilF (rSl rp_u64_u64)) (Imp.re _ [0] [0] (sc rfl (sc rfl sn)) (by decide) rfl rfl rfl)) rfl rfl ⟨rfl, rfl, rfl⟩ (.cons (resv_cell (k := 0) rfl rfl ty35 nofun rfl rfl) (.cons (resv_tmp rfl) .nil))))
  · refine TrL.cons_yes rfl rfl rfl (bf_dec h5) (OpTr.v (v_move rfl rfl) rfl (bl rfl) ?_)
    refine TrL.cons_yes rfl rfl rfl (bf_dec h5) (OpTr.v (v_arith rfl rfl rfl ar_gtr) rfl (bl rfl) ?_)
    refine TrL.v (v_pick_f rfl rfl (bf_dec h5) rfl) rfl rfl (bl rfl) ?_
    refine TrL.nil (qthen_n ?_)
    rcases ifc H with ⟨h6, H⟩ | ⟨h6, H⟩
    · refine Tr.cond_t rfl (bt_dec h6) ?_
      refine Tr.seq ?_
      refine Tr.region ?_
      refine TrL.v (v_build (vs := []) (out := [.int .i64 0, .int .i64 0, .slice none 0 0]) rfl pl35 ze35 rfl rfl) rfl rfl (bl rfl) ?_
      refine TrL.cons rfl (op_store' (k := 0) (c' := [.int .i64 0, .int .i64 0, .slice none 0 0]) rfl rfl rfl rfl rfl ty35 rfl (Nat.le_of_ble_eq_true rfl) (ones (oc rfl (oc rfl (oc rfl on)))) rfl ?_)
      refine TrL.v (v_assign rfl rfl) rfl rfl (bl rfl) ?_
      refine TrL.nil (qthen_n ?_)
      have hz := Option.some.inj H
      subst hz
      refine Tr.ret (qthen_r (ret_r ⟨[(2, .pointer (some ⟨b2, 0, none⟩)), (3, .int .i64 9)], [cells b2 [.int .i64 0, .int .i64 0, .slice none 0 0] 35], [slF (rSl rp_u64_u64) none 0 (([] : List (List (Int × Int))))], []⟩ [.agg #[.int .i64 0, .int .i64 0, .slice none 0 0], .int .i64 9] [] [cells b2 [.int .i64 0, .int .i64 0, .slice none 0 0] 35] (Imp.addF' _ (nilF (rSl rp_u64_u64)) (Imp.re _ [0] [0] (sc rfl (sc rfl sn)) (by decide) rfl rfl rfl)) rfl rfl ⟨rfl, rfl, rfl⟩ (.cons (resv_cell (k := 0) rfl rfl ty35 nofun rfl rfl) (.cons (resv_tmp rfl) .nil))))
    · refine Tr.cond_f rfl (bf_dec h6) ?_
      refine Tr.skip (qthen_n ?_)
      refine Tr.seq ?_
      refine Tr.region ?_
      refine TrL.v (v_move rfl rfl) rfl rfl (bl rfl) ?_
      refine TrL.v (v_build (vs := [.int .i64 p1]) (out := [.int .i64 p1, .int .i64 0, .slice none 0 0]) rfl pl35 ze35 rfl rfl) rfl rfl (bl rfl) ?_
      refine TrL.cons rfl (op_store' (k := 0) (c' := [.int .i64 p1, .int .i64 0, .slice none 0 0]) rfl rfl rfl rfl rfl ty35 rfl (Nat.le_of_ble_eq_true rfl) (ones (oc rfl (oc rfl (oc rfl on)))) rfl ?_)
      refine TrL.v (v_assign rfl rfl) rfl rfl (bl rfl) ?_
      refine TrL.nil (qthen_n ?_)
      have hz := Option.some.inj H
      subst hz
      refine Tr.ret (ret_r ⟨[(2, .pointer (some ⟨b2, 0, none⟩)), (3, .int .i64 0)], [cells b2 [.int .i64 p1, .int .i64 0, .slice none 0 0] 35], [slF (rSl rp_u64_u64) none 0 (([] : List (List (Int × Int))))], []⟩ [.agg #[.int .i64 p1, .int .i64 0, .slice none 0 0], .int .i64 0] [] [cells b2 [.int .i64 p1, .int .i64 0, .slice none 0 0] 35] (Imp.addF' _ (nilF (rSl rp_u64_u64)) (Imp.re _ [0] [0] (sc rfl (sc rfl sn)) (by decide) rfl rfl rfl)) rfl rfl ⟨rfl, rfl, rfl⟩ (.cons (resv_cell (k := 0) rfl rfl ty35 nofun rfl rfl) (.cons (resv_tmp rfl) .nil)))
end Go.Proofs.Ytbeknohemgjfbaa.W
