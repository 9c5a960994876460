/- The contracts of the walked functions: the printed walks. -/
import Derived.Test.YtbeknohemgjfbaaKc
import Derived.Test.YtbeknohemgjfbaaQc
import Derived.Test.YtbeknohemgjfbaaWref05ac
import Derived.Test.YtbeknohemgjfbaaWref06ac
import Derived.Test.YtbeknohemgjfbaaWref06bc
namespace Go.Proofs.Ytbeknohemgjfbaa.W
open Go Go.Proofs Go.Proofs.Ytbeknohemgjfbaa.L Go.Proofs.Ytbeknohemgjfbaa.Pu
set_option linter.unusedVariables false
set_option maxHeartbeats 4000000

theorem c_ref09_Few (p1 : Int × Int × List (List (Int × Int))) (A1 : Option Addr) (c1 : Nat) (r : Bool) (H : ref09_Few p1 = some r) :
    Ctr Try.prog 21 [.agg #[.int .i64 p1.1, .int .i64 p1.2.1, .slice A1 p1.2.2.length c1]] [] [slF (rSl rp_u64_u64) A1 c1 p1.2.2] (fun ret M' F' => ret = .bool r ∧ M' = [] ∧ F' = []) := by
  unfold ref09_Few at H
  refine ctr_ofI (N := 26) Try.func21 rfl Try.ntmps21 rfl (Nat.le_of_ble_eq_true rfl) (fun γ0 w0 => ?_)
  refine Tr.seq ?_
  refine Tr.region ?_
  refine TrL.cons rfl (op_box' rfl (bl rfl) rfl rfl rfl (fun b2 => ?_))
  refine TrL.v (v_assign rfl rfl) rfl rfl (bl rfl) ?_
  refine TrL.nil (qthen_n ?_)
  refine Tr.seq ?_
  refine Tr.seq ?_
  refine Tr.region ?_
  refine TrL.v (v_assign rfl rfl) rfl rfl (bl rfl) ?_
  refine TrL.nil (qthen_n ?_)
  obtain ⟨x2, hx3, H⟩ := bnd H
  refine Tr.cutE (D := Unit) (M := Unit) .ret (fun d3 => x2 = .inl d3) (fun d3 m9 => ⟨[(2, .bool false)], [], [], []⟩) ?_ (fun d3 m9 hd3 => ?_)
  · refine Tr.cutE (D := Unit) (M := Unit) .normal (fun d4 => x2 = .inr d4) (fun d4 m10 => ⟨[(1, .pointer (some ⟨b2, 0, none⟩))], [cells b2 [.int .i64 p1.1, .int .i64 p1.2.1, .slice A1 p1.2.2.length c1] 38], [slF (rSl rp_u64_u64) A1 c1 p1.2.2], []⟩) ?_ (fun d4 m10 hd4 => ?_)
    · refine Tr.block (Tr.loopI (ι := Unit) (step := ref09_Few_s0 p1) (fun s5 m7 => ⟨[(1, .pointer (some ⟨b2, 0, none⟩)), (3, .int .i64 s5)], [cells b2 [.int .i64 p1.1, .int .i64 p1.2.1, .slice A1 p1.2.2.length c1] 38], [slF (rSl rp_u64_u64) A1 c1 p1.2.2], []⟩) (()) hx3 (Imp.re _ [0] [0] (sc rfl (sc rfl sn)) (by decide) rfl rfl rfl) (fun s5 m7 y2 hy2 hx4 => ?_))
      unfold ref09_Few_s0 at hy2
      refine Tr.seq ?_
      refine Tr.seq ?_
      refine Tr.region ?_
      refine TrL.v (v_move rfl rfl) rfl rfl (bl rfl) ?_
      refine TrL.v (v_fieldAddr' rfl fo38_2 rfl rfl) rfl rfl (bl rfl) ?_
      refine TrL.v (v_load (k := 0) rfl rfl rfl ty24 (fun _ => rfl) rfl rfl) rfl rfl (bl rfl) ?_
      refine TrL.v (v_len rfl sl24 rfl) rfl rfl (bl rfl) ?_
      refine TrL.v (v_arith rfl rfl rfl ar_lss) rfl rfl (bl rfl) ?_
      refine TrL.v (v_move rfl rfl) rfl rfl (bl rfl) ?_
      rcases ifc hy2 with ⟨h20, hy2⟩ | ⟨h20, hy2⟩
      · refine TrL.cons_yes rfl rfl rfl (bt_dec h20) (OpTr.v (v_move rfl rfl) rfl (bl rfl) ?_)
        refine TrL.cons_yes rfl rfl rfl (bt_dec h20) (OpTr.v (v_arith rfl rfl rfl ar_lss) rfl (bl rfl) ?_)
        refine TrL.v (v_pick_t rfl rfl (bt_dec h20) rfl) rfl rfl (bl rfl) ?_
        refine TrL.nil (qthen_n ?_)
        rcases ifc hy2 with ⟨h21, hy2⟩ | ⟨h21, hy2⟩
        · refine Tr.cond_t rfl (bt_dec h21) ?_
          refine Tr.skip (qthen_n ?_)
          refine Tr.seq ?_
          refine Tr.block ?_
          refine Tr.seq ?_
          refine Tr.region ?_
          refine TrL.v (v_fieldAddr' rfl fo38_2 rfl rfl) rfl rfl (bl rfl) ?_
          refine TrL.v (v_load (k := 0) rfl rfl rfl ty24 (fun _ => rfl) rfl rfl) rfl rfl (bl rfl) ?_
          refine TrL.v (v_move rfl rfl) rfl rfl (bl rfl) ?_
          obtain ⟨z6, hz6, hy2⟩ := bnd hy2
          refine TrL.v (v_indexAddr (k := 0) rfl sl24 ty31 rfl rfl rfl rfl hz6) rfl rfl (bl rfl) ?_
          refine TrL.openS' (k := 0) rfl hz6 (fun A7 c7 => ?_)
          refine TrL.v (v_loadF (k := 2) rfl ty31 rfl rfl) rfl rfl (bl rfl) ?_
          refine TrL.v (v_len rfl sl31 rfl) rfl rfl (bl rfl) ?_
          refine TrL.v (v_arith rfl rfl rfl ar_gtr) rfl rfl (bl rfl) ?_
          refine TrL.nil (qthen_n ?_)
          rcases ifc hy2 with ⟨h22, hy2⟩ | ⟨h22, hy2⟩
          · refine Tr.cond_t rfl (bt_dec h22) ?_
            refine Tr.seq ?_
            refine Tr.region ?_
            refine TrL.v (v_assign rfl rfl) rfl rfl (bl rfl) ?_
            refine TrL.nil (qthen_n ?_)
            have hz := Option.some.inj hy2
            subst hz
            refine Tr.ret (qblock_r (qthen_r (qloop_r (qblock_r (qcut_miss (by simp) (qcut_hit (()) (()) (hx4 _ rfl).symm (Imp.re _ [] [] (sc rfl sn) (by decide) rfl rfl rfl)))))))
          · refine Tr.cond_f rfl (bf_dec h22) ?_
            refine Tr.skip (qblock_n (qthen_n ?_))
            refine Tr.region ?_
            refine TrL.v (v_move rfl rfl) rfl rfl (bl rfl) ?_
            refine TrL.v (v_arith rfl rfl rfl ar_add_i64) rfl rfl (bl rfl) ?_
            refine TrL.v (v_assign rfl rfl) rfl rfl (bl rfl) ?_
            have hz := Option.some.inj hy2
            subst hz
            refine TrL.nil (qloop_n (()) (Imp.re _ [0] [0] (sc rfl (sc rfl sn)) (by decide) rfl rfl rfl))
        · refine Tr.cond_f rfl (bf_dec h21) ?_
          have hz := Option.some.inj hy2
          subst hz
          refine Tr.exit (qthen_x (qloop_x (qblock_hit (qcut_hit (()) (()) (hx4 _ rfl).symm (Imp.re _ [0] [0] (sc rfl sn) (by decide) rfl rfl rfl)))))
      · refine TrL.cons_no rfl rfl rfl (gn_t (bf_dec h20)) rfl (bl rfl) ?_
        refine TrL.cons_no rfl rfl rfl (gn_t (bf_dec h20)) rfl (bl rfl) ?_
        refine TrL.v (v_pick_f rfl rfl (bf_dec h20) rfl) rfl rfl (bl rfl) ?_
        refine TrL.nil (qthen_n ?_)
        refine Tr.cond_f rfl rfl ?_
        have hz := Option.some.inj hy2
        subst hz
        refine Tr.exit (qthen_x (qloop_x (qblock_hit (qcut_hit (()) (()) (hx4 _ rfl).symm (Imp.re _ [0] [0] (sc rfl sn) (by decide) rfl rfl rfl)))))
    · subst hd4
      replace H := sumr H
      refine (qcut_miss (by simp) (qthen_n ?_))
      refine Tr.seq ?_
      refine Tr.region ?_
      refine TrL.v (v_fieldAddr' rfl fo38_2 rfl rfl) rfl rfl (bl rfl) ?_
      refine TrL.v (v_load (k := 0) rfl rfl rfl ty24 (fun _ => rfl) rfl rfl) rfl rfl (bl rfl) ?_
      refine TrL.v (v_len rfl sl24 rfl) rfl rfl (bl rfl) ?_
      refine TrL.v (v_arith rfl rfl rfl ar_leq) rfl rfl (bl rfl) ?_
      refine TrL.v (v_assign rfl rfl) rfl rfl (bl rfl) ?_
      refine TrL.nil (qthen_n ?_)
      have hz := Option.some.inj H
      subst hz
      refine Tr.ret (ret_r ⟨[(2, .bool (decide (((p1.2.2.length : Int)) ≤ 60)))], [], [], []⟩ [.bool (decide (((p1.2.2.length : Int)) ≤ 60))] [] [] (Imp.re _ [] [] (sc rfl sn) (by decide) rfl rfl rfl) rfl rfl ⟨rfl, rfl, rfl⟩ (.cons (resv_tmp rfl) .nil))
  · subst hd3
    replace H := suml H
    have hz := Option.some.inj H
    subst hz
    refine (qthen_r (ret_r ⟨[(2, .bool false)], [], [], []⟩ [.bool false] [] [] (Imp.re _ [] [] (sc rfl sn) (by decide) rfl rfl rfl) rfl rfl ⟨rfl, rfl, rfl⟩ (.cons (resv_tmp rfl) .nil)))

theorem c_ref09_shaped (p1 : Int × Int × List (List (Int × Int))) (A1 : Option Addr) (c1 : Nat) (r : Bool) (H : ref09_shaped p1 = some r) :
    Ctr Try.prog 79 [.agg #[.int .i64 p1.1, .int .i64 p1.2.1, .slice A1 p1.2.2.length c1]] [] [slF (rSl rp_u64_u64) A1 c1 p1.2.2] (fun ret M' F' => ret = .bool r ∧ M' = [] ∧ F' = []) := by
  unfold ref09_shaped at H
  refine ctr_ofI (N := 51) Try.func79 rfl Try.ntmps79 rfl (Nat.le_of_ble_eq_true rfl) (fun γ0 w0 => ?_)
  refine Tr.seq ?_
  refine Tr.region ?_
  refine TrL.cons rfl (op_box' rfl (bl rfl) rfl rfl rfl (fun b2 => ?_))
  refine TrL.v (v_assign rfl rfl) rfl rfl (bl rfl) ?_
  refine TrL.nil (qthen_n ?_)
  refine Tr.seq ?_
  refine Tr.seq ?_
  refine Tr.region ?_
  refine TrL.v (v_assign rfl rfl) rfl rfl (bl rfl) ?_
  refine TrL.nil (qthen_n ?_)
  obtain ⟨x2, hx3, H⟩ := bnd H
  refine Tr.cutE (D := Unit) (M := Unit) .ret (fun d3 => x2 = .inl d3) (fun d3 m29 => ⟨[(2, .bool false)], [], [], []⟩) ?_ (fun d3 m29 hd3 => ?_)
  · refine Tr.cutE (D := Unit) (M := Unit) .normal (fun d4 => x2 = .inr d4) (fun d4 m30 => ⟨[(1, .pointer (some ⟨b2, 0, none⟩))], [cells b2 [.int .i64 p1.1, .int .i64 p1.2.1, .slice A1 p1.2.2.length c1] 26], [slF (rSl rp_u64_u64) A1 c1 p1.2.2], []⟩) ?_ (fun d4 m30 hd4 => ?_)
    · refine Tr.block (Tr.loopI (ι := Unit) (step := ref09_shaped_s0 p1) (fun s5 m23 => ⟨[(1, .pointer (some ⟨b2, 0, none⟩)), (3, .int .i64 s5)], [cells b2 [.int .i64 p1.1, .int .i64 p1.2.1, .slice A1 p1.2.2.length c1] 26], [slF (rSl rp_u64_u64) A1 c1 p1.2.2], []⟩) (()) hx3 (Imp.re _ [0] [0] (sc rfl (sc rfl sn)) (by decide) rfl rfl rfl) (fun s5 m23 y2 hy2 hx4 => ?_))
      unfold ref09_shaped_s0 at hy2
      refine Tr.seq ?_
      refine Tr.seq ?_
      refine Tr.region ?_
      refine TrL.v (v_move rfl rfl) rfl rfl (bl rfl) ?_
      refine TrL.v (v_fieldAddr' rfl fo26_2 rfl rfl) rfl rfl (bl rfl) ?_
      refine TrL.v (v_load (k := 0) rfl rfl rfl ty24 (fun _ => rfl) rfl rfl) rfl rfl (bl rfl) ?_
      refine TrL.v (v_len rfl sl24 rfl) rfl rfl (bl rfl) ?_
      refine TrL.v (v_arith rfl rfl rfl ar_lss) rfl rfl (bl rfl) ?_
      refine TrL.nil (qthen_n ?_)
      rcases ifc hy2 with ⟨h41, hy2⟩ | ⟨h41, hy2⟩
      · refine Tr.cond_t rfl (bt_dec h41) ?_
        refine Tr.skip (qthen_n ?_)
        refine Tr.seq ?_
        refine Tr.block ?_
        refine Tr.seq ?_
        refine Tr.region ?_
        refine TrL.v (v_fieldAddr' rfl fo26_2 rfl rfl) rfl rfl (bl rfl) ?_
        refine TrL.v (v_load (k := 0) rfl rfl rfl ty24 (fun _ => rfl) rfl rfl) rfl rfl (bl rfl) ?_
        refine TrL.v (v_move rfl rfl) rfl rfl (bl rfl) ?_
        obtain ⟨z6, hz6, hy2⟩ := bnd hy2
        refine TrL.v (v_indexAddr (k := 0) rfl sl24 ty31 rfl rfl rfl rfl hz6) rfl rfl (bl rfl) ?_
        refine TrL.openS' (k := 0) rfl hz6 (fun A7 c7 => ?_)
        refine TrL.v (v_loadF (k := 2) rfl ty31 rfl rfl) rfl rfl (bl rfl) ?_
        refine TrL.v (v_len rfl sl31 rfl) rfl rfl (bl rfl) ?_
        refine TrL.v (v_assign rfl rfl) rfl rfl (bl rfl) ?_
        refine TrL.nil (qthen_n ?_)
        refine Tr.seq ?_
        refine Tr.region ?_
        refine TrL.v (v_move rfl rfl) rfl rfl (bl rfl) ?_
        refine TrL.v (v_fieldAddr' rfl fo26_2 rfl rfl) rfl rfl (bl rfl) ?_
        refine TrL.v (v_load (k := 0) rfl rfl rfl ty24 (fun _ => rfl) rfl rfl) rfl rfl (bl rfl) ?_
        refine TrL.v (v_len rfl sl24 rfl) rfl rfl (bl rfl) ?_
        refine TrL.v (v_arith rfl rfl rfl ar_sub_i64) rfl rfl (bl rfl) ?_
        refine TrL.v (v_arith rfl rfl rfl ar_eql) rfl rfl (bl rfl) ?_
        refine TrL.v (v_assign rfl rfl) rfl rfl (bl rfl) ?_
        refine TrL.nil (qthen_n ?_)
        refine Tr.seq ?_
        refine Tr.region ?_
        refine TrL.v (v_move rfl rfl) rfl rfl (bl rfl) ?_
        refine TrL.v (v_arith rfl rfl rfl ar_lss) rfl rfl (bl rfl) ?_
        refine TrL.v (v_move rfl rfl) rfl rfl (bl rfl) ?_
        rcases ifc hy2 with ⟨h45, hy2⟩ | ⟨h45, hy2⟩
        · refine TrL.cons_no rfl rfl rfl (gn_f (bt_dec h45)) rfl (bl rfl) ?_
          refine TrL.cons_no rfl rfl rfl (gn_f (bt_dec h45)) rfl (bl rfl) ?_
          refine TrL.cons_no rfl rfl rfl (gn_f (bt_dec h45)) rfl (bl rfl) ?_
          refine TrL.cons_no rfl rfl rfl (gn_f (bt_dec h45)) rfl (bl rfl) ?_
          refine TrL.cons_no rfl rfl rfl (gn_f (bt_dec h45)) rfl (bl rfl) ?_
          refine TrL.cons_no rfl rfl rfl (gn_f (bt_dec h45)) rfl (bl rfl) ?_
          refine TrL.v (v_pick_t rfl rfl (bt_dec h45) rfl) rfl rfl (bl rfl) ?_
          refine TrL.v (v_move rfl rfl) rfl rfl (bl rfl) ?_
          refine TrL.cons_no rfl rfl rfl (gn_f rfl) rfl (bl rfl) ?_
          refine TrL.cons_no rfl rfl rfl (gn_f rfl) rfl (bl rfl) ?_
          refine TrL.cons_no rfl rfl rfl (gn_f rfl) rfl (bl rfl) ?_
          refine TrL.cons_un rfl rfl rfl rfl (bl rfl) ?_
          refine TrL.cons_un rfl rfl rfl rfl (bl rfl) ?_
          refine TrL.cons_un rfl rfl rfl rfl (bl rfl) ?_
          refine TrL.cons_un rfl rfl rfl rfl (bl rfl) ?_
          refine TrL.cons_un rfl rfl rfl rfl (bl rfl) ?_
          refine TrL.cons_un rfl rfl rfl rfl (bl rfl) ?_
          refine TrL.cons_no rfl rfl rfl (gn_f rfl) rfl (bl rfl) ?_
          refine TrL.v (v_pick_t rfl rfl rfl rfl) rfl rfl (bl rfl) ?_
          refine TrL.nil (qthen_n ?_)
          refine Tr.cond_t rfl rfl ?_
          refine Tr.seq ?_
          refine Tr.region ?_
          refine TrL.v (v_assign rfl rfl) rfl rfl (bl rfl) ?_
          refine TrL.nil (qthen_n ?_)
          have hz := Option.some.inj hy2
          subst hz
          refine Tr.ret (qblock_r (qthen_r (qloop_r (qblock_r (qcut_miss (by simp) (qcut_hit (()) (()) (hx4 _ rfl).symm (Imp.re _ [] [] (sc rfl sn) (by decide) rfl rfl rfl)))))))
        · refine TrL.cons_yes rfl rfl rfl (bf_dec h45) (OpTr.v (v_move rfl rfl) rfl (bl rfl) ?_)
          refine TrL.cons_yes rfl rfl rfl (bf_dec h45) (OpTr.v (v_fieldAddr' rfl fo26_0 rfl rfl) rfl (bl rfl) ?_)
          refine TrL.cons_yes rfl rfl rfl (bf_dec h45) (OpTr.v (v_load (k := 0) rfl rfl rfl ty3 (fun _ => rfl) rfl rfl) rfl (bl rfl) ?_)
          refine TrL.cons_yes rfl rfl rfl (bf_dec h45) (OpTr.v (v_move rfl rfl) rfl (bl rfl) ?_)
          obtain ⟨r23, hr23, hy2⟩ := bnd hy2
          refine TrL.cons_yes rfl rfl rfl (bf_dec h45) (op_call0' (vs := [.int .i64 p1.1, .int .i64 s5]) (cap := []) [] rfl rfl (bl rfl) rfl rfl en119 (c_ref05_Most p1.1 s5 r23 hr23) rfl (fun ret M' F' hR23 => ?_))
          obtain ⟨rfl, rfl, rfl⟩ := hR23
          refine TrL.cons_yes rfl rfl rfl (bf_dec h45) (OpTr.v (v_arith rfl rfl rfl ar_gtr) rfl (bl rfl) ?_)
          refine TrL.v (v_pick_f rfl rfl (bf_dec h45) rfl) rfl rfl (bl rfl) ?_
          refine TrL.v (v_move rfl rfl) rfl rfl (bl rfl) ?_
          rcases ifc hy2 with ⟨h46, hy2⟩ | ⟨h46, hy2⟩
          · refine TrL.cons_no rfl rfl rfl (gn_f (bt_dec h46)) rfl (bl rfl) ?_
            refine TrL.cons_no rfl rfl rfl (gn_f (bt_dec h46)) rfl (bl rfl) ?_
            refine TrL.cons_no rfl rfl rfl (gn_f (bt_dec h46)) rfl (bl rfl) ?_
            refine TrL.cons_un rfl rfl rfl rfl (bl rfl) ?_
            refine TrL.cons_un rfl rfl rfl rfl (bl rfl) ?_
            refine TrL.cons_un rfl rfl rfl rfl (bl rfl) ?_
            refine TrL.cons_un rfl rfl rfl rfl (bl rfl) ?_
            refine TrL.cons_un rfl rfl rfl rfl (bl rfl) ?_
            refine TrL.cons_un rfl rfl rfl rfl (bl rfl) ?_
            refine TrL.cons_no rfl rfl rfl (gn_f (bt_dec h46)) rfl (bl rfl) ?_
            refine TrL.v (v_pick_t rfl rfl (bt_dec h46) rfl) rfl rfl (bl rfl) ?_
            refine TrL.nil (qthen_n ?_)
            refine Tr.cond_t rfl rfl ?_
            refine Tr.seq ?_
            refine Tr.region ?_
            refine TrL.v (v_assign rfl rfl) rfl rfl (bl rfl) ?_
            refine TrL.nil (qthen_n ?_)
            have hz := Option.some.inj hy2
            subst hz
            refine Tr.ret (qblock_r (qthen_r (qloop_r (qblock_r (qcut_miss (by simp) (qcut_hit (()) (()) (hx4 _ rfl).symm (Imp.re _ [] [] (sc rfl sn) (by decide) rfl rfl rfl)))))))
          · refine TrL.cons_yes rfl rfl rfl (bf_dec h46) (OpTr.v (v_move rfl rfl) rfl (bl rfl) ?_)
            refine TrL.cons_yes rfl rfl rfl (bf_dec h46) (OpTr.v (v_notd rfl rfl) rfl (bl rfl) ?_)
            refine TrL.cons_yes rfl rfl rfl (bf_dec h46) (OpTr.v (v_move rfl rfl) rfl (bl rfl) ?_)
            rcases ifc hy2 with ⟨h47, hy2⟩ | ⟨h47, hy2⟩
            · refine TrL.cons_yes rfl rfl rfl (bt_dec h47) (OpTr.v (v_move rfl rfl) rfl (bl rfl) ?_)
              refine TrL.cons_yes rfl rfl rfl (bt_dec h47) (OpTr.v (v_fieldAddr' rfl fo26_0 rfl rfl) rfl (bl rfl) ?_)
              refine TrL.cons_yes rfl rfl rfl (bt_dec h47) (OpTr.v (v_load (k := 0) rfl rfl rfl ty3 (fun _ => rfl) rfl rfl) rfl (bl rfl) ?_)
              refine TrL.cons_yes rfl rfl rfl (bt_dec h47) (OpTr.v (v_move rfl rfl) rfl (bl rfl) ?_)
              obtain ⟨r24, hr24, hy2⟩ := bnd hy2
              refine TrL.cons_yes rfl rfl rfl (bt_dec h47) (op_call0' (vs := [.int .i64 p1.1, .int .i64 s5]) (cap := []) [] rfl rfl (bl rfl) rfl rfl en136 (c_ref05_Least p1.1 s5 r24 hr24) rfl (fun ret M' F' hR24 => ?_))
              obtain ⟨rfl, rfl, rfl⟩ := hR24
              refine TrL.cons_yes rfl rfl rfl (bt_dec h47) (OpTr.v (v_arith rfl rfl rfl ar_lss) rfl (bl rfl) ?_)
              refine TrL.cons_yes rfl rfl rfl (bf_dec h46) (OpTr.v (v_pick_t rfl rfl (bt_dec h47) rfl) rfl (bl rfl) ?_)
              refine TrL.v (v_pick_f rfl rfl (bf_dec h46) rfl) rfl rfl (bl rfl) ?_
              refine TrL.nil (qthen_n ?_)
              rcases ifc hy2 with ⟨h48, hy2⟩ | ⟨h48, hy2⟩
              · refine Tr.cond_t rfl (bt_dec h48) ?_
                refine Tr.seq ?_
                refine Tr.region ?_
                refine TrL.v (v_assign rfl rfl) rfl rfl (bl rfl) ?_
                refine TrL.nil (qthen_n ?_)
                have hz := Option.some.inj hy2
                subst hz
                refine Tr.ret (qblock_r (qthen_r (qloop_r (qblock_r (qcut_miss (by simp) (qcut_hit (()) (()) (hx4 _ rfl).symm (Imp.re _ [] [] (sc rfl sn) (by decide) rfl rfl rfl)))))))
              · refine Tr.cond_f rfl (bf_dec h48) ?_
                refine Tr.skip (qblock_n (qthen_n ?_))
                refine Tr.region ?_
                refine TrL.v (v_move rfl rfl) rfl rfl (bl rfl) ?_
                refine TrL.v (v_arith rfl rfl rfl ar_add_i64) rfl rfl (bl rfl) ?_
                refine TrL.v (v_assign rfl rfl) rfl rfl (bl rfl) ?_
                have hz := Option.some.inj hy2
                subst hz
                refine TrL.nil (qloop_n (()) (Imp.re _ [0] [0] (sc rfl (sc rfl sn)) (by decide) rfl rfl rfl))
            · refine TrL.cons_no rfl rfl rfl (gn_t (bf_dec h47)) rfl (bl rfl) ?_
              refine TrL.cons_no rfl rfl rfl (gn_t (bf_dec h47)) rfl (bl rfl) ?_
              refine TrL.cons_no rfl rfl rfl (gn_t (bf_dec h47)) rfl (bl rfl) ?_
              refine TrL.cons_no rfl rfl rfl (gn_t (bf_dec h47)) rfl (bl rfl) ?_
              refine TrL.cons_no rfl rfl rfl (gn_t (bf_dec h47)) rfl (bl rfl) ?_
              refine TrL.cons_no rfl rfl rfl (gn_t (bf_dec h47)) rfl (bl rfl) ?_
              refine TrL.cons_yes rfl rfl rfl (bf_dec h46) (OpTr.v (v_pick_f rfl rfl (bf_dec h47) rfl) rfl (bl rfl) ?_)
              refine TrL.v (v_pick_f rfl rfl (bf_dec h46) rfl) rfl rfl (bl rfl) ?_
              refine TrL.nil (qthen_n ?_)
              refine Tr.cond_f rfl rfl ?_
              refine Tr.skip (qblock_n (qthen_n ?_))
              refine Tr.region ?_
              refine TrL.v (v_move rfl rfl) rfl rfl (bl rfl) ?_
              refine TrL.v (v_arith rfl rfl rfl ar_add_i64) rfl rfl (bl rfl) ?_
              refine TrL.v (v_assign rfl rfl) rfl rfl (bl rfl) ?_
              have hz := Option.some.inj hy2
              subst hz
              refine TrL.nil (qloop_n (()) (Imp.re _ [0] [0] (sc rfl (sc rfl sn)) (by decide) rfl rfl rfl))
      · refine Tr.cond_f rfl (bf_dec h41) ?_
        have hz := Option.some.inj hy2
        subst hz
        refine Tr.exit (qthen_x (qloop_x (qblock_hit (qcut_hit (()) (()) (hx4 _ rfl).symm (Imp.re _ [0] [0] (sc rfl sn) (by decide) rfl rfl rfl)))))
    · subst hd4
      replace H := sumr H
      refine (qcut_miss (by simp) (qthen_n ?_))
      refine Tr.seq ?_
      refine Tr.region ?_
      refine TrL.v (v_fieldAddr' rfl fo26_2 rfl rfl) rfl rfl (bl rfl) ?_
      refine TrL.v (v_load (k := 0) rfl rfl rfl ty24 (fun _ => rfl) rfl rfl) rfl rfl (bl rfl) ?_
      refine TrL.v (v_len rfl sl24 rfl) rfl rfl (bl rfl) ?_
      refine TrL.v (v_arith rfl rfl rfl ar_leq) rfl rfl (bl rfl) ?_
      refine TrL.v (v_assign rfl rfl) rfl rfl (bl rfl) ?_
      refine TrL.nil (qthen_n ?_)
      have hz := Option.some.inj H
      subst hz
      refine Tr.ret (ret_r ⟨[(2, .bool (decide (((p1.2.2.length : Int)) ≤ 52)))], [], [], []⟩ [.bool (decide (((p1.2.2.length : Int)) ≤ 52))] [] [] (Imp.re _ [] [] (sc rfl sn) (by decide) rfl rfl rfl) rfl rfl ⟨rfl, rfl, rfl⟩ (.cons (resv_tmp rfl) .nil))
  · subst hd3
    replace H := suml H
    have hz := Option.some.inj H
    subst hz
    refine (qthen_r (ret_r ⟨[(2, .bool false)], [], [], []⟩ [.bool false] [] [] (Imp.re _ [] [] (sc rfl sn) (by decide) rfl rfl rfl) rfl rfl ⟨rfl, rfl, rfl⟩ (.cons (resv_tmp rfl) .nil)))

theorem c_ref09_turned (p1 : Int × Int × List (List (Int × Int))) (A1 : Option Addr) (c1 : Nat) (r : Bool) (H : ref09_turned p1 = some r) :
    Ctr Try.prog 80 [.agg #[.int .i64 p1.1, .int .i64 p1.2.1, .slice A1 p1.2.2.length c1]] [] [slF (rSl rp_u64_u64) A1 c1 p1.2.2] (fun ret M' F' => ret = .bool r ∧ M' = [] ∧ F' = []) := by
  unfold ref09_turned at H
  refine ctr_ofI (N := 62) Try.func80 rfl Try.ntmps80 rfl (Nat.le_of_ble_eq_true rfl) (fun γ0 w0 => ?_)
  refine Tr.seq ?_
  refine Tr.region ?_
  refine TrL.cons rfl (op_box' rfl (bl rfl) rfl rfl rfl (fun b11 => ?_))
  refine TrL.v (v_assign rfl rfl) rfl rfl (bl rfl) ?_
  refine TrL.nil (qthen_n ?_)
  refine Tr.seq ?_
  refine Tr.region ?_
  refine TrL.v (v_assign rfl rfl) rfl rfl (bl rfl) ?_
  refine TrL.nil (qthen_n ?_)
  refine Tr.seq ?_
  refine Tr.seq ?_
  refine Tr.region ?_
  refine TrL.v (v_fieldAddr' rfl fo26_2 rfl rfl) rfl rfl (bl rfl) ?_
  refine TrL.v (v_load (k := 0) rfl rfl rfl ty24 (fun _ => rfl) rfl rfl) rfl rfl (bl rfl) ?_
  refine TrL.v (v_len rfl sl24 rfl) rfl rfl (bl rfl) ?_
  refine TrL.v (v_arith rfl rfl rfl ar_sub_i64) rfl rfl (bl rfl) ?_
  refine TrL.v (v_assign rfl rfl) rfl rfl (bl rfl) ?_
  refine TrL.nil (qthen_n ?_)
  obtain ⟨x7, hx13, H⟩ := bnd H
  refine Tr.cutE (D := Unit) (M := Unit) .ret (fun d13 => x7 = .inl d13) (fun d13 m34 => ⟨[(2, .bool false)], [], [], []⟩) ?_ (fun d13 m34 hd15 => ?_)
  · refine Tr.cutE (D := Unit) (M := Unit) .normal (fun d14 => x7 = .inr d14) (fun d14 m35 => ⟨[], [], [], []⟩) ?_ (fun d14 m35 hd16 => ?_)
    · refine Tr.block (Tr.loopI (ι := Unit) (step := ref09_turned_s0 p1) (fun s17 m27 => ⟨[(1, .pointer (some ⟨b11, 0, none⟩)), (3, .int .u64 s17.1), (4, .int .i64 s17.2)], [cells b11 [.int .i64 p1.1, .int .i64 p1.2.1, .slice A1 p1.2.2.length c1] 26], [slF (rSl rp_u64_u64) A1 c1 p1.2.2], []⟩) (()) hx13 (Imp.re _ [0] [0] (sc rfl (sc rfl (sc rfl sn))) (by decide) rfl rfl rfl) (fun s17 m27 y7 hy7 hx14 => ?_))
      unfold ref09_turned_s0 at hy7
      refine Tr.seq ?_
      refine Tr.seq ?_
      refine Tr.region ?_
      refine TrL.v (v_move rfl rfl) rfl rfl (bl rfl) ?_
      refine TrL.v (v_arith rfl rfl rfl ar_geq) rfl rfl (bl rfl) ?_
      refine TrL.nil (qthen_n ?_)
      rcases ifc hy7 with ⟨h156, hy7⟩ | ⟨h156, hy7⟩
      · refine Tr.cond_t rfl (bt_dec h156) ?_
        refine Tr.skip (qthen_n ?_)
        refine Tr.seq ?_
        refine Tr.block ?_
        refine Tr.seq ?_
        refine Tr.region ?_
        refine TrL.v (v_assign rfl rfl) rfl rfl (bl rfl) ?_
        refine TrL.nil (qthen_n ?_)
        obtain ⟨x8, hx15, hy7⟩ := bnd hy7
        refine Tr.cutE (D := Unit) (M := Unit) .ret (fun d15 => x8 = .inl d15) (fun d15 m39 => ⟨[(2, .bool false)], [], [], []⟩) ?_ (fun d15 m39 hd13 => ?_)
        · refine Tr.cutE (D := Int) (M := Unit) .normal (fun d16 => x8 = .inr d16) (fun d16 m40 => ⟨[(1, .pointer (some ⟨b11, 0, none⟩)), (3, .int .u64 d16), (4, .int .i64 s17.2)], [cells b11 [.int .i64 p1.1, .int .i64 p1.2.1, .slice A1 p1.2.2.length c1] 26], [slF (rSl rp_u64_u64) A1 c1 p1.2.2], []⟩) ?_ (fun d16 m40 hd14 => ?_)
          · refine Tr.block (Tr.loopI (ι := Unit) (step := ref09_turned_s1 p1 s17) (fun s23 m37 => ⟨[(1, .pointer (some ⟨b11, 0, none⟩)), (3, .int .u64 s23.1), (4, .int .i64 s17.2), (5, .int .i64 s23.2)], [cells b11 [.int .i64 p1.1, .int .i64 p1.2.1, .slice A1 p1.2.2.length c1] 26], [slF (rSl rp_u64_u64) A1 c1 p1.2.2], []⟩) (()) hx15 (Imp.re _ [0] [0] (sc rfl (sc rfl (sc rfl (sc rfl sn)))) (by decide) rfl rfl rfl) (fun s23 m37 y8 hy8 hx16 => ?_))
            unfold ref09_turned_s1 at hy8
            refine Tr.seq ?_
            refine Tr.seq ?_
            refine Tr.region ?_
            refine TrL.v (v_move rfl rfl) rfl rfl (bl rfl) ?_
            refine TrL.v (v_fieldAddr' rfl fo26_2 rfl rfl) rfl rfl (bl rfl) ?_
            refine TrL.v (v_load (k := 0) rfl rfl rfl ty24 (fun _ => rfl) rfl rfl) rfl rfl (bl rfl) ?_
            refine TrL.v (v_move rfl rfl) rfl rfl (bl rfl) ?_
            obtain ⟨z35, hz35, hy8⟩ := bnd hy8
            refine TrL.v (v_indexAddr (k := 0) rfl sl24 ty31 rfl rfl rfl rfl hz35) rfl rfl (bl rfl) ?_
            refine TrL.openS' (k := 0) rfl hz35 (fun A19 c19 => ?_)
            refine TrL.v (v_loadF (k := 2) rfl ty31 rfl rfl) rfl rfl (bl rfl) ?_
            refine TrL.v (v_len rfl sl31 rfl) rfl rfl (bl rfl) ?_
            refine TrL.v (v_arith rfl rfl rfl ar_lss) rfl rfl (bl rfl) ?_
            refine TrL.nil (qthen_n ?_)
            rcases ifc hy8 with ⟨h177, hy8⟩ | ⟨h177, hy8⟩
            · refine Tr.cond_t rfl (bt_dec h177) ?_
              refine Tr.skip (qthen_n ?_)
              refine Tr.seq ?_
              refine Tr.block ?_
              refine Tr.seq ?_
              refine Tr.region ?_
              refine TrL.v (v_fieldAddr' rfl fo26_2 rfl rfl) rfl rfl (bl rfl) ?_
              refine TrL.v (v_load (k := 0) rfl rfl rfl ty24 (fun _ => rfl) rfl rfl) rfl rfl (bl rfl) ?_
              refine TrL.v (v_move rfl rfl) rfl rfl (bl rfl) ?_
              refine TrL.v (v_indexAddr (k := 0) rfl sl24 ty31 rfl rfl rfl rfl hz35) rfl rfl (bl rfl) ?_
              refine TrL.v (v_loadF (k := 2) rfl ty31 rfl rfl) rfl rfl (bl rfl) ?_
              refine TrL.v (v_move rfl rfl) rfl rfl (bl rfl) ?_
              obtain ⟨z36, hz36, hy8⟩ := bnd hy8
              refine TrL.v (v_indexAddr (k := 1) rfl sl31 ty30 rfl rfl rfl rfl hz36) rfl rfl (bl rfl) ?_
              refine TrL.v (v_loadg (A := A19) (i := s23.2) (j := 0) (k := 1) rfl ty30 nofun rfl rfl hz36 rfl rfl) rfl rfl (bl rfl) ?_
              refine TrL.cons rfl (op_alloc' rfl (bl rfl) rfl ze30 (fun b20 => ?_))
              refine TrL.cons rfl (op_store' (k := 0) (c' := [.int .u64 z36.1, .int .u64 z36.2]) rfl rfl rfl rfl rfl ty30 rfl (Nat.le_of_ble_eq_true rfl) (ones (oc rfl (oc rfl on))) rfl ?_)
              refine TrL.nil (qthen_n ?_)
              refine Tr.seq ?_
              refine Tr.seq ?_
              refine Tr.region ?_
              refine TrL.v (v_fieldAddr' rfl fo30_0 rfl rfl) rfl rfl (bl rfl) ?_
              refine TrL.v (v_load (k := 0) rfl rfl rfl ty28 (fun _ => rfl) rfl rfl) rfl rfl (bl rfl) ?_
              refine TrL.v (v_fieldAddr' rfl fo30_1 rfl rfl) rfl rfl (bl rfl) ?_
              refine TrL.v (v_load (k := 0) rfl rfl rfl ty28 (fun _ => rfl) rfl rfl) rfl rfl (bl rfl) ?_
              refine TrL.v (v_arith rfl rfl rfl ar_gtr) rfl rfl (bl rfl) ?_
              refine TrL.v (v_move rfl rfl) rfl rfl (bl rfl) ?_
              rcases ifc hy8 with ⟨h182, hy8⟩ | ⟨h182, hy8⟩
              · refine TrL.cons_no rfl rfl rfl (gn_f (bt_dec h182)) rfl (bl rfl) ?_
                refine TrL.cons_no rfl rfl rfl (gn_f (bt_dec h182)) rfl (bl rfl) ?_
                refine TrL.cons_no rfl rfl rfl (gn_f (bt_dec h182)) rfl (bl rfl) ?_
                refine TrL.cons_no rfl rfl rfl (gn_f (bt_dec h182)) rfl (bl rfl) ?_
                refine TrL.v (v_pick_t rfl rfl (bt_dec h182) rfl) rfl rfl (bl rfl) ?_
                refine TrL.v (v_move rfl rfl) rfl rfl (bl rfl) ?_
                refine TrL.cons_no rfl rfl rfl (gn_f rfl) rfl (bl rfl) ?_
                refine TrL.cons_no rfl rfl rfl (gn_f rfl) rfl (bl rfl) ?_
                refine TrL.cons_no rfl rfl rfl (gn_f rfl) rfl (bl rfl) ?_
                refine TrL.v (v_pick_t rfl rfl rfl rfl) rfl rfl (bl rfl) ?_
                refine TrL.v (v_move rfl rfl) rfl rfl (bl rfl) ?_
                refine TrL.cons_no rfl rfl rfl (gn_f rfl) rfl (bl rfl) ?_
                refine TrL.cons_no rfl rfl rfl (gn_f rfl) rfl (bl rfl) ?_
                refine TrL.cons_no rfl rfl rfl (gn_f rfl) rfl (bl rfl) ?_
                refine TrL.cons_un rfl rfl rfl rfl (bl rfl) ?_
                refine TrL.cons_un rfl rfl rfl rfl (bl rfl) ?_
                refine TrL.cons_un rfl rfl rfl rfl (bl rfl) ?_
                refine TrL.cons_un rfl rfl rfl rfl (bl rfl) ?_
                refine TrL.cons_un rfl rfl rfl rfl (bl rfl) ?_
                refine TrL.cons_no rfl rfl rfl (gn_f rfl) rfl (bl rfl) ?_
                refine TrL.v (v_pick_t rfl rfl rfl rfl) rfl rfl (bl rfl) ?_
                refine TrL.nil (qthen_n ?_)
                refine Tr.cond_t rfl rfl ?_
                refine Tr.seq ?_
                refine Tr.region ?_
                refine TrL.v (v_assign rfl rfl) rfl rfl (bl rfl) ?_
                refine TrL.nil (qthen_n ?_)
                have hz := Option.some.inj hy8
                subst hz
                refine Tr.ret (qthen_r (qblock_r (qthen_r (qloop_r (qblock_r (qcut_miss (by simp) (qcut_hit (()) (()) (hx16 _ rfl).symm (Imp.re _ [] [] (sc rfl sn) (by decide) rfl rfl rfl))))))))
              · refine TrL.cons_yes rfl rfl rfl (bf_dec h182) (OpTr.v (v_fieldAddr' rfl fo30_0 rfl rfl) rfl (bl rfl) ?_)
                refine TrL.cons_yes rfl rfl rfl (bf_dec h182) (OpTr.v (v_load (k := 0) rfl rfl rfl ty28 (fun _ => rfl) rfl rfl) rfl (bl rfl) ?_)
                refine TrL.cons_yes rfl rfl rfl (bf_dec h182) (OpTr.v (v_move rfl rfl) rfl (bl rfl) ?_)
                refine TrL.cons_yes rfl rfl rfl (bf_dec h182) (OpTr.v (v_arith rfl rfl rfl ar_lss) rfl (bl rfl) ?_)
                refine TrL.v (v_pick_f rfl rfl (bf_dec h182) rfl) rfl rfl (bl rfl) ?_
                refine TrL.v (v_move rfl rfl) rfl rfl (bl rfl) ?_
                rcases ifc hy8 with ⟨h183, hy8⟩ | ⟨h183, hy8⟩
                · refine TrL.cons_no rfl rfl rfl (gn_f (bt_dec h183)) rfl (bl rfl) ?_
                  refine TrL.cons_no rfl rfl rfl (gn_f (bt_dec h183)) rfl (bl rfl) ?_
                  refine TrL.cons_no rfl rfl rfl (gn_f (bt_dec h183)) rfl (bl rfl) ?_
                  refine TrL.v (v_pick_t rfl rfl (bt_dec h183) rfl) rfl rfl (bl rfl) ?_
                  refine TrL.v (v_move rfl rfl) rfl rfl (bl rfl) ?_
                  refine TrL.cons_no rfl rfl rfl (gn_f rfl) rfl (bl rfl) ?_
                  refine TrL.cons_no rfl rfl rfl (gn_f rfl) rfl (bl rfl) ?_
                  refine TrL.cons_no rfl rfl rfl (gn_f rfl) rfl (bl rfl) ?_
                  refine TrL.cons_un rfl rfl rfl rfl (bl rfl) ?_
                  refine TrL.cons_un rfl rfl rfl rfl (bl rfl) ?_
                  refine TrL.cons_un rfl rfl rfl rfl (bl rfl) ?_
                  refine TrL.cons_un rfl rfl rfl rfl (bl rfl) ?_
                  refine TrL.cons_un rfl rfl rfl rfl (bl rfl) ?_
                  refine TrL.cons_no rfl rfl rfl (gn_f rfl) rfl (bl rfl) ?_
                  refine TrL.v (v_pick_t rfl rfl rfl rfl) rfl rfl (bl rfl) ?_
                  refine TrL.nil (qthen_n ?_)
                  refine Tr.cond_t rfl rfl ?_
                  refine Tr.seq ?_
                  refine Tr.region ?_
                  refine TrL.v (v_assign rfl rfl) rfl rfl (bl rfl) ?_
                  refine TrL.nil (qthen_n ?_)
                  have hz := Option.some.inj hy8
                  subst hz
                  refine Tr.ret (qthen_r (qblock_r (qthen_r (qloop_r (qblock_r (qcut_miss (by simp) (qcut_hit (()) (()) (hx16 _ rfl).symm (Imp.re _ [] [] (sc rfl sn) (by decide) rfl rfl rfl))))))))
                · refine TrL.cons_yes rfl rfl rfl (bf_dec h183) (OpTr.v (v_fieldAddr' rfl fo30_1 rfl rfl) rfl (bl rfl) ?_)
                  refine TrL.cons_yes rfl rfl rfl (bf_dec h183) (OpTr.v (v_load (k := 0) rfl rfl rfl ty28 (fun _ => rfl) rfl rfl) rfl (bl rfl) ?_)
                  refine TrL.cons_yes rfl rfl rfl (bf_dec h183) (OpTr.v (v_arith rfl rfl rfl ar_gtr) rfl (bl rfl) ?_)
                  refine TrL.v (v_pick_f rfl rfl (bf_dec h183) rfl) rfl rfl (bl rfl) ?_
                  refine TrL.v (v_move rfl rfl) rfl rfl (bl rfl) ?_
                  rcases ifc hy8 with ⟨h184, hy8⟩ | ⟨h184, hy8⟩
                  · refine TrL.cons_no rfl rfl rfl (gn_f (bt_dec h184)) rfl (bl rfl) ?_
                    refine TrL.cons_no rfl rfl rfl (gn_f (bt_dec h184)) rfl (bl rfl) ?_
                    refine TrL.cons_no rfl rfl rfl (gn_f (bt_dec h184)) rfl (bl rfl) ?_
                    refine TrL.cons_un rfl rfl rfl rfl (bl rfl) ?_
                    refine TrL.cons_un rfl rfl rfl rfl (bl rfl) ?_
                    refine TrL.cons_un rfl rfl rfl rfl (bl rfl) ?_
                    refine TrL.cons_un rfl rfl rfl rfl (bl rfl) ?_
                    refine TrL.cons_un rfl rfl rfl rfl (bl rfl) ?_
                    refine TrL.cons_no rfl rfl rfl (gn_f (bt_dec h184)) rfl (bl rfl) ?_
                    refine TrL.v (v_pick_t rfl rfl (bt_dec h184) rfl) rfl rfl (bl rfl) ?_
                    refine TrL.nil (qthen_n ?_)
                    refine Tr.cond_t rfl rfl ?_
                    refine Tr.seq ?_
                    refine Tr.region ?_
                    refine TrL.v (v_assign rfl rfl) rfl rfl (bl rfl) ?_
                    refine TrL.nil (qthen_n ?_)
                    have hz := Option.some.inj hy8
                    subst hz
                    refine Tr.ret (qthen_r (qblock_r (qthen_r (qloop_r (qblock_r (qcut_miss (by simp) (qcut_hit (()) (()) (hx16 _ rfl).symm (Imp.re _ [] [] (sc rfl sn) (by decide) rfl rfl rfl))))))))
                  · refine TrL.cons_yes rfl rfl rfl (bf_dec h184) (OpTr.v (v_move rfl rfl) rfl (bl rfl) ?_)
                    refine TrL.cons_yes rfl rfl rfl (bf_dec h184) (OpTr.v (v_arith rfl rfl rfl ar_eql) rfl (bl rfl) ?_)
                    refine TrL.cons_yes rfl rfl rfl (bf_dec h184) (OpTr.v (v_move rfl rfl) rfl (bl rfl) ?_)
                    rcases ifc hy8 with ⟨h185, hy8⟩ | ⟨h185, hy8⟩
                    · refine TrL.cons_yes rfl rfl rfl (bt_dec h185) (OpTr.v (v_fieldAddr' rfl fo30_0 rfl rfl) rfl (bl rfl) ?_)
                      refine TrL.cons_yes rfl rfl rfl (bt_dec h185) (OpTr.v (v_load (k := 0) rfl rfl rfl ty28 (fun _ => rfl) rfl rfl) rfl (bl rfl) ?_)
                      refine TrL.cons_yes rfl rfl rfl (bt_dec h185) (OpTr.v (v_fieldAddr' rfl fo30_1 rfl rfl) rfl (bl rfl) ?_)
                      refine TrL.cons_yes rfl rfl rfl (bt_dec h185) (OpTr.v (v_load (k := 0) rfl rfl rfl ty28 (fun _ => rfl) rfl rfl) rfl (bl rfl) ?_)
                      refine TrL.cons_yes rfl rfl rfl (bt_dec h185) (OpTr.v (v_arith rfl rfl rfl ar_neq) rfl (bl rfl) ?_)
                      refine TrL.cons_yes rfl rfl rfl (bf_dec h184) (OpTr.v (v_pick_t rfl rfl (bt_dec h185) rfl) rfl (bl rfl) ?_)
                      refine TrL.v (v_pick_f rfl rfl (bf_dec h184) rfl) rfl rfl (bl rfl) ?_
                      refine TrL.nil (qthen_n ?_)
                      rcases ifc hy8 with ⟨h186, hy8⟩ | ⟨h186, hy8⟩
                      · refine Tr.cond_t rfl (bt_dec h186) ?_
                        refine Tr.seq ?_
                        refine Tr.region ?_
                        refine TrL.v (v_assign rfl rfl) rfl rfl (bl rfl) ?_
                        refine TrL.nil (qthen_n ?_)
                        have hz := Option.some.inj hy8
                        subst hz
                        refine Tr.ret (qthen_r (qblock_r (qthen_r (qloop_r (qblock_r (qcut_miss (by simp) (qcut_hit (()) (()) (hx16 _ rfl).symm (Imp.re _ [] [] (sc rfl sn) (by decide) rfl rfl rfl))))))))
                      · refine Tr.cond_f rfl (bf_dec h186) ?_
                        refine Tr.skip (qthen_n ?_)
                        refine Tr.region ?_
                        refine TrL.v (v_fieldAddr' rfl fo30_1 rfl rfl) rfl rfl (bl rfl) ?_
                        refine TrL.v (v_load (k := 0) rfl rfl rfl ty28 (fun _ => rfl) rfl rfl) rfl rfl (bl rfl) ?_
                        refine TrL.v (v_assign rfl rfl) rfl rfl (bl rfl) ?_
                        refine TrL.nil (qblock_n (qthen_n ?_))
                        refine Tr.region ?_
                        refine TrL.v (v_move rfl rfl) rfl rfl (bl rfl) ?_
                        refine TrL.v (v_arith rfl rfl rfl ar_add_i64) rfl rfl (bl rfl) ?_
                        refine TrL.v (v_assign rfl rfl) rfl rfl (bl rfl) ?_
                        have hz := Option.some.inj hy8
                        subst hz
                        refine TrL.nil (qloop_n (()) (Imp.re _ [1] [0] (sc rfl (sc rfl (sc rfl (sc rfl sn)))) (by decide) rfl rfl rfl))
                    · refine TrL.cons_no rfl rfl rfl (gn_t (bf_dec h185)) rfl (bl rfl) ?_
                      refine TrL.cons_no rfl rfl rfl (gn_t (bf_dec h185)) rfl (bl rfl) ?_
                      refine TrL.cons_no rfl rfl rfl (gn_t (bf_dec h185)) rfl (bl rfl) ?_
                      refine TrL.cons_no rfl rfl rfl (gn_t (bf_dec h185)) rfl (bl rfl) ?_
                      refine TrL.cons_no rfl rfl rfl (gn_t (bf_dec h185)) rfl (bl rfl) ?_
                      refine TrL.cons_yes rfl rfl rfl (bf_dec h184) (OpTr.v (v_pick_f rfl rfl (bf_dec h185) rfl) rfl (bl rfl) ?_)
                      refine TrL.v (v_pick_f rfl rfl (bf_dec h184) rfl) rfl rfl (bl rfl) ?_
                      refine TrL.nil (qthen_n ?_)
                      refine Tr.cond_f rfl rfl ?_
                      refine Tr.skip (qthen_n ?_)
                      refine Tr.region ?_
                      refine TrL.v (v_fieldAddr' rfl fo30_1 rfl rfl) rfl rfl (bl rfl) ?_
                      refine TrL.v (v_load (k := 0) rfl rfl rfl ty28 (fun _ => rfl) rfl rfl) rfl rfl (bl rfl) ?_
                      refine TrL.v (v_assign rfl rfl) rfl rfl (bl rfl) ?_
                      refine TrL.nil (qblock_n (qthen_n ?_))
                      refine Tr.region ?_
                      refine TrL.v (v_move rfl rfl) rfl rfl (bl rfl) ?_
                      refine TrL.v (v_arith rfl rfl rfl ar_add_i64) rfl rfl (bl rfl) ?_
                      refine TrL.v (v_assign rfl rfl) rfl rfl (bl rfl) ?_
                      have hz := Option.some.inj hy8
                      subst hz
                      refine TrL.nil (qloop_n (()) (Imp.re _ [1] [0] (sc rfl (sc rfl (sc rfl (sc rfl sn)))) (by decide) rfl rfl rfl))
            · refine Tr.cond_f rfl (bf_dec h177) ?_
              have hz := Option.some.inj hy8
              subst hz
              refine Tr.exit (qthen_x (qloop_x (qblock_hit (qcut_hit s23.1 (()) (hx16 _ rfl).symm (Imp.re _ [0] [0] (sc rfl (sc rfl (sc rfl sn))) (by decide) rfl rfl rfl)))))
          · subst hd14
            replace hy7 := sumr hy7
            refine (qcut_miss (by simp) (qblock_n (qthen_n ?_)))
            refine Tr.region ?_
            refine TrL.v (v_move rfl rfl) rfl rfl (bl rfl) ?_
            refine TrL.v (v_arith rfl rfl rfl ar_sub_i64) rfl rfl (bl rfl) ?_
            refine TrL.v (v_assign rfl rfl) rfl rfl (bl rfl) ?_
            have hz := Option.some.inj hy7
            subst hz
            refine TrL.nil (qloop_n (()) (Imp.re _ [0] [0] (sc rfl (sc rfl (sc rfl sn))) (by decide) rfl rfl rfl))
        · subst hd13
          replace hy7 := suml hy7
          have hz := Option.some.inj hy7
          subst hz
          refine (qblock_r (qthen_r (qloop_r (qblock_r (qcut_miss (by simp) (qcut_hit (()) (()) (hx14 _ rfl).symm (Imp.re _ [] [] (sc rfl sn) (by decide) rfl rfl rfl)))))))
      · refine Tr.cond_f rfl (bf_dec h156) ?_
        have hz := Option.some.inj hy7
        subst hz
        refine Tr.exit (qthen_x (qloop_x (qblock_hit (qcut_hit (()) (()) (hx14 _ rfl).symm (Imp.re _ [] [] sn (by decide) rfl rfl rfl)))))
    · subst hd16
      replace H := sumr H
      refine (qcut_miss (by simp) (qthen_n ?_))
      refine Tr.seq ?_
      refine Tr.region ?_
      refine TrL.v (v_assign rfl rfl) rfl rfl (bl rfl) ?_
      refine TrL.nil (qthen_n ?_)
      have hz := Option.some.inj H
      subst hz
      refine Tr.ret (ret_r ⟨[(2, .bool true)], [], [], []⟩ [.bool true] [] [] (Imp.re _ [] [] (sc rfl sn) (by decide) rfl rfl rfl) rfl rfl ⟨rfl, rfl, rfl⟩ (.cons (resv_tmp rfl) .nil))
  · subst hd15
    replace H := suml H
    have hz := Option.some.inj H
    subst hz
    refine (qthen_r (ret_r ⟨[(2, .bool false)], [], [], []⟩ [.bool false] [] [] (Imp.re _ [] [] (sc rfl sn) (by decide) rfl rfl rfl) rfl rfl ⟨rfl, rfl, rfl⟩ (.cons (resv_tmp rfl) .nil)))

theorem c_ref09_Hist (p1 : Int × Int × List (List (Int × Int))) (A1 : Option Addr) (c1 : Nat) (r : Int) (H : ref09_Hist p1 = some r) :
    Ctr Try.prog 35 [.agg #[.int .i64 p1.1, .int .i64 p1.2.1, .slice A1 p1.2.2.length c1]] [] [slF (rSl rp_u64_u64) A1 c1 p1.2.2] (fun ret M' F' => ret = .int .i64 r ∧ M' = [] ∧ F' = []) := by
  unfold ref09_Hist at H
  refine ctr_ofI (N := 30) Try.func35 rfl Try.ntmps35 rfl (Nat.le_of_ble_eq_true rfl) (fun γ0 w0 => ?_)
  refine Tr.seq ?_
  refine Tr.region ?_
  refine TrL.cons rfl (op_box' rfl (bl rfl) rfl rfl rfl (fun b2 => ?_))
  refine TrL.v (v_assign rfl rfl) rfl rfl (bl rfl) ?_
  refine TrL.nil (qthen_n ?_)
  refine Tr.seq ?_
  refine Tr.seq ?_
  refine Tr.region ?_
  refine TrL.v (v_fieldAddr' rfl fo26_0 rfl rfl) rfl rfl (bl rfl) ?_
  refine TrL.v (v_load (k := 0) rfl rfl rfl ty3 (fun _ => rfl) rfl rfl) rfl rfl (bl rfl) ?_
  obtain ⟨r10, hr10, H⟩ := bnd H
  refine TrL.cons rfl (op_call0' (vs := [.int .i64 p1.1]) (cap := []) [] rfl rfl (bl rfl) rfl rfl en78 (c_ref06_May p1.1 r10 hr10) rfl (fun ret M' F' hR10 => ?_))
  obtain ⟨rfl, rfl, rfl⟩ := hR10
  refine TrL.v (v_notd rfl (bdec rfl)) rfl rfl (bl rfl) ?_
  refine TrL.v (v_move rfl rfl) rfl rfl (bl rfl) ?_
  rcases ifc H with ⟨h13, H⟩ | ⟨h13, H⟩
  · refine TrL.cons_no rfl rfl rfl (gn_f (bt_dec h13)) rfl (bl rfl) ?_
    refine TrL.cons_no rfl rfl rfl (gn_f (bt_dec h13)) rfl (bl rfl) ?_
    refine TrL.cons_no rfl rfl rfl (gn_f (bt_dec h13)) rfl (bl rfl) ?_
    refine TrL.v (v_pick_t rfl rfl (bt_dec h13) rfl) rfl rfl (bl rfl) ?_
    refine TrL.v (v_move rfl rfl) rfl rfl (bl rfl) ?_
    refine TrL.cons_no rfl rfl rfl (gn_f rfl) rfl (bl rfl) ?_
    refine TrL.cons_no rfl rfl rfl (gn_f rfl) rfl (bl rfl) ?_
    refine TrL.cons_no rfl rfl rfl (gn_f rfl) rfl (bl rfl) ?_
    refine TrL.v (v_pick_t rfl rfl rfl rfl) rfl rfl (bl rfl) ?_
    refine TrL.nil (qthen_n ?_)
    refine Tr.cond_t rfl rfl ?_
    refine Tr.seq ?_
    refine Tr.region ?_
    refine TrL.v (v_assign rfl rfl) rfl rfl (bl rfl) ?_
    refine TrL.nil (qthen_n ?_)
    have hz := Option.some.inj H
    subst hz
    refine Tr.ret (qthen_r (ret_r ⟨[(2, .int .i64 9)], [], [], []⟩ [.int .i64 9] [] [] (Imp.re _ [] [] (sc rfl sn) (by decide) rfl rfl rfl) rfl rfl ⟨rfl, rfl, rfl⟩ (.cons (resv_tmp rfl) .nil)))
  · refine TrL.cons_yes rfl rfl rfl (bf_dec h13) (OpTr.v (v_fieldAddr' rfl fo26_1 rfl rfl) rfl (bl rfl) ?_)
    refine TrL.cons_yes rfl rfl rfl (bf_dec h13) (OpTr.v (v_load (k := 0) rfl rfl rfl ty3 (fun _ => rfl) rfl rfl) rfl (bl rfl) ?_)
    refine TrL.cons_yes rfl rfl rfl (bf_dec h13) (OpTr.v (v_arith rfl rfl rfl ar_lss) rfl (bl rfl) ?_)
    refine TrL.v (v_pick_f rfl rfl (bf_dec h13) rfl) rfl rfl (bl rfl) ?_
    refine TrL.v (v_move rfl rfl) rfl rfl (bl rfl) ?_
    rcases ifc H with ⟨h14, H⟩ | ⟨h14, H⟩
    · refine TrL.cons_no rfl rfl rfl (gn_f (bt_dec h14)) rfl (bl rfl) ?_
      refine TrL.cons_no rfl rfl rfl (gn_f (bt_dec h14)) rfl (bl rfl) ?_
      refine TrL.cons_no rfl rfl rfl (gn_f (bt_dec h14)) rfl (bl rfl) ?_
      refine TrL.v (v_pick_t rfl rfl (bt_dec h14) rfl) rfl rfl (bl rfl) ?_
      refine TrL.nil (qthen_n ?_)
      refine Tr.cond_t rfl rfl ?_
      refine Tr.seq ?_
      refine Tr.region ?_
      refine TrL.v (v_assign rfl rfl) rfl rfl (bl rfl) ?_
      refine TrL.nil (qthen_n ?_)
      have hz := Option.some.inj H
      subst hz
      refine Tr.ret (qthen_r (ret_r ⟨[(2, .int .i64 9)], [], [], []⟩ [.int .i64 9] [] [] (Imp.re _ [] [] (sc rfl sn) (by decide) rfl rfl rfl) rfl rfl ⟨rfl, rfl, rfl⟩ (.cons (resv_tmp rfl) .nil)))
    · refine TrL.cons_yes rfl rfl rfl (bf_dec h14) (OpTr.v (v_fieldAddr' rfl fo26_1 rfl rfl) rfl (bl rfl) ?_)
      refine TrL.cons_yes rfl rfl rfl (bf_dec h14) (OpTr.v (v_load (k := 0) rfl rfl rfl ty3 (fun _ => rfl) rfl rfl) rfl (bl rfl) ?_)
      refine TrL.cons_yes rfl rfl rfl (bf_dec h14) (OpTr.v (v_arith rfl rfl rfl ar_gtr) rfl (bl rfl) ?_)
      refine TrL.v (v_pick_f rfl rfl (bf_dec h14) rfl) rfl rfl (bl rfl) ?_
      refine TrL.nil (qthen_n ?_)
      rcases ifc H with ⟨h15, H⟩ | ⟨h15, H⟩
      · refine Tr.cond_t rfl (bt_dec h15) ?_
        refine Tr.seq ?_
        refine Tr.region ?_
        refine TrL.v (v_assign rfl rfl) rfl rfl (bl rfl) ?_
        refine TrL.nil (qthen_n ?_)
        have hz := Option.some.inj H
        subst hz
        refine Tr.ret (qthen_r (ret_r ⟨[(2, .int .i64 9)], [], [], []⟩ [.int .i64 9] [] [] (Imp.re _ [] [] (sc rfl sn) (by decide) rfl rfl rfl) rfl rfl ⟨rfl, rfl, rfl⟩ (.cons (resv_tmp rfl) .nil)))
      · refine Tr.cond_f rfl (bf_dec h15) ?_
        refine Tr.skip (qthen_n ?_)
        refine Tr.seq ?_
        refine Tr.seq ?_
        refine Tr.region ?_
        refine TrL.v (v_load (k := 0) rfl rfl rfl ty26 nofun rfl rfl) rfl rfl (bl rfl) ?_
        obtain ⟨r14, hr14, H⟩ := bnd H
        refine TrL.cons rfl (op_call0' (vs := [.agg #[.int .i64 p1.1, .int .i64 p1.2.1, .slice A1 p1.2.2.length c1]]) (cap := []) [0] rfl rfl (bl rfl) rfl rfl en79 (c_ref09_shaped p1 A1 c1 r14 hr14) rfl (fun ret M' F' hR14 => ?_))
        obtain ⟨rfl, rfl, rfl⟩ := hR14
        refine TrL.v (v_notd rfl (bdec rfl)) rfl rfl (bl rfl) ?_
        refine TrL.v (v_move rfl rfl) rfl rfl (bl rfl) ?_
        rcases ifc H with ⟨h18, H⟩ | ⟨h18, H⟩
        · refine TrL.cons_no rfl rfl rfl (gn_f (bt_dec h18)) rfl (bl rfl) ?_
          refine TrL.cons_no rfl rfl rfl (gn_f (bt_dec h18)) rfl (bl rfl) ?_
          refine TrL.cons_no rfl rfl rfl (gn_f (bt_dec h18)) rfl (bl rfl) ?_
          refine TrL.v (v_pick_t rfl rfl (bt_dec h18) rfl) rfl rfl (bl rfl) ?_
          refine TrL.v (v_move rfl rfl) rfl rfl (bl rfl) ?_
          refine TrL.cons_no rfl rfl rfl (gn_f rfl) rfl (bl rfl) ?_
          refine TrL.cons_no rfl rfl rfl (gn_f rfl) rfl (bl rfl) ?_
          refine TrL.cons_no rfl rfl rfl (gn_f rfl) rfl (bl rfl) ?_
          refine TrL.v (v_pick_t rfl rfl rfl rfl) rfl rfl (bl rfl) ?_
          refine TrL.nil (qthen_n ?_)
          refine Tr.cond_t rfl rfl ?_
          refine Tr.seq ?_
          refine Tr.region ?_
          refine TrL.v (v_assign rfl rfl) rfl rfl (bl rfl) ?_
          refine TrL.nil (qthen_n ?_)
          have hz := Option.some.inj H
          subst hz
          refine Tr.ret (qthen_r (ret_r ⟨[(2, .int .i64 2)], [], [], []⟩ [.int .i64 2] [] [] (Imp.re _ [] [] (sc rfl sn) (by decide) rfl rfl rfl) rfl rfl ⟨rfl, rfl, rfl⟩ (.cons (resv_tmp rfl) .nil)))
        · refine TrL.cons_yes rfl rfl rfl (bf_dec h18) (OpTr.v (v_load (k := 0) rfl rfl rfl ty26 nofun rfl rfl) rfl (bl rfl) ?_)
          obtain ⟨r15, hr15, H⟩ := bnd H
          refine TrL.cons_yes rfl rfl rfl (bf_dec h18) (op_call0' (vs := [.agg #[.int .i64 p1.1, .int .i64 p1.2.1, .slice A1 p1.2.2.length c1]]) (cap := []) [0] rfl rfl (bl rfl) rfl rfl en80 (c_ref09_turned p1 A1 c1 r15 hr15) rfl (fun ret M' F' hR15 => ?_))
          obtain ⟨rfl, rfl, rfl⟩ := hR15
          refine TrL.cons_yes rfl rfl rfl (bf_dec h18) (OpTr.v (v_notd rfl (bdec rfl)) rfl (bl rfl) ?_)
          refine TrL.v (v_pick_f rfl rfl (bf_dec h18) rfl) rfl rfl (bl rfl) ?_
          refine TrL.v (v_move rfl rfl) rfl rfl (bl rfl) ?_
          rcases ifc H with ⟨h19, H⟩ | ⟨h19, H⟩
          · refine TrL.cons_no rfl rfl rfl (gn_f (bt_dec h19)) rfl (bl rfl) ?_
            refine TrL.cons_no rfl rfl rfl (gn_f (bt_dec h19)) rfl (bl rfl) ?_
            refine TrL.cons_no rfl rfl rfl (gn_f (bt_dec h19)) rfl (bl rfl) ?_
            refine TrL.v (v_pick_t rfl rfl (bt_dec h19) rfl) rfl rfl (bl rfl) ?_
            refine TrL.nil (qthen_n ?_)
            refine Tr.cond_t rfl rfl ?_
            refine Tr.seq ?_
            refine Tr.region ?_
            refine TrL.v (v_assign rfl rfl) rfl rfl (bl rfl) ?_
            refine TrL.nil (qthen_n ?_)
            have hz := Option.some.inj H
            subst hz
            refine Tr.ret (qthen_r (ret_r ⟨[(2, .int .i64 2)], [], [], []⟩ [.int .i64 2] [] [] (Imp.re _ [] [] (sc rfl sn) (by decide) rfl rfl rfl) rfl rfl ⟨rfl, rfl, rfl⟩ (.cons (resv_tmp rfl) .nil)))
          · refine TrL.cons_yes rfl rfl rfl (bf_dec h19) (OpTr.v (v_load (k := 0) rfl rfl rfl ty26 nofun rfl rfl) rfl (bl rfl) ?_)
            obtain ⟨r16, hr16, H⟩ := bnd H
            refine TrL.cons_yes rfl rfl rfl (bf_dec h19) (op_call0' (vs := [.agg #[.int .i64 p1.1, .int .i64 p1.2.1, .slice A1 p1.2.2.length c1]]) (cap := []) [0] rfl rfl (bl rfl) rfl rfl en81 (c_ref06_Total p1 A1 c1 r16 hr16) rfl (fun ret M' F' hR16 => ?_))
            obtain ⟨rfl, rfl, rfl⟩ := hR16
            refine TrL.cons_yes rfl rfl rfl (bf_dec h19) (OpTr.v (v_arith rfl rfl rfl ar_gtr) rfl (bl rfl) ?_)
            refine TrL.v (v_pick_f rfl rfl (bf_dec h19) rfl) rfl rfl (bl rfl) ?_
            refine TrL.nil (qthen_n ?_)
            rcases ifc H with ⟨h20, H⟩ | ⟨h20, H⟩
            · refine Tr.cond_t rfl (bt_dec h20) ?_
              refine Tr.seq ?_
              refine Tr.region ?_
              refine TrL.v (v_assign rfl rfl) rfl rfl (bl rfl) ?_
              refine TrL.nil (qthen_n ?_)
              have hz := Option.some.inj H
              subst hz
              refine Tr.ret (qthen_r (ret_r ⟨[(2, .int .i64 2)], [], [], []⟩ [.int .i64 2] [] [] (Imp.re _ [] [] (sc rfl sn) (by decide) rfl rfl rfl) rfl rfl ⟨rfl, rfl, rfl⟩ (.cons (resv_tmp rfl) .nil)))
            · refine Tr.cond_f rfl (bf_dec h20) ?_
              refine Tr.skip (qthen_n ?_)
              refine Tr.seq ?_
              refine Tr.region ?_
              refine TrL.v (v_assign rfl rfl) rfl rfl (bl rfl) ?_
              refine TrL.nil (qthen_n ?_)
              have hz := Option.some.inj H
              subst hz
              refine Tr.ret (ret_r ⟨[(2, .int .i64 0)], [], [], []⟩ [.int .i64 0] [] [] (Imp.re _ [] [] (sc rfl sn) (by decide) rfl rfl rfl) rfl rfl ⟨rfl, rfl, rfl⟩ (.cons (resv_tmp rfl) .nil))
end Go.Proofs.Ytbeknohemgjfbaa.W
