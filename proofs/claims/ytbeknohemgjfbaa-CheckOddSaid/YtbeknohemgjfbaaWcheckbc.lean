/- The contracts of the walked functions: the printed walks. -/
import Derived.Test.YtbeknohemgjfbaaKc
import Derived.Test.YtbeknohemgjfbaaQc
import Derived.Test.YtbeknohemgjfbaaWlevelac
namespace Go.Proofs.Ytbeknohemgjfbaa.W
open Go Go.Proofs Go.Proofs.Ytbeknohemgjfbaa.L Go.Proofs.Ytbeknohemgjfbaa.Pu
set_option linter.unusedVariables false
set_option maxHeartbeats 4000000

theorem c_check_shaped (p1 : Int × Int × List (List (Int × Int))) (A1 : Option Addr) (c1 : Nat) (r : Bool) (H : check_shaped p1 = some r) :
    Ctr Try.prog 60 [.agg #[.int .i64 p1.1, .int .i64 p1.2.1, .slice A1 p1.2.2.length c1]] [] [slF (rSl rp_u64_u64) A1 c1 p1.2.2] (fun ret M' F' => ret = .bool r ∧ M' = [] ∧ F' = []) := by
  unfold check_shaped at H
  refine ctr_ofI (N := 43) Try.func60 rfl Try.ntmps60 rfl (Nat.le_of_ble_eq_true rfl) (fun γ0 w0 => ?_)
  refine Tr.seq ?_
  refine Tr.region ?_
  refine TrL.cons rfl (op_box' rfl (bl rfl) rfl rfl rfl (fun b2 => ?_))
  refine TrL.v (v_assign rfl rfl) rfl rfl (bl rfl) ?_
  refine TrL.nil (qthen_n ?_)
  refine Tr.seq ?_
  refine Tr.seq ?_
  refine Tr.region ?_
  refine TrL.v (v_fieldAddr' rfl fo35_2 rfl rfl) rfl rfl (bl rfl) ?_
  refine TrL.v (v_load (k := 0) rfl rfl rfl ty24 (fun _ => rfl) rfl rfl) rfl rfl (bl rfl) ?_
  refine TrL.v (v_len rfl sl24 rfl) rfl rfl (bl rfl) ?_
  refine TrL.v (v_move rfl rfl) rfl rfl (bl rfl) ?_
  refine TrL.nil (qthen_n ?_)
  obtain ⟨x2, hx3, H⟩ := bnd H
  refine Tr.cutE (D := Unit) (M := Unit) .ret (fun d3 => x2 = .inl d3) (fun d3 m29 => ⟨[(2, .bool false)], [], [], []⟩) ?_ (fun d3 m29 hd9 => ?_)
  · refine Tr.cutE (D := Unit) (M := Unit) .normal (fun d4 => x2 = .inr d4) (fun d4 m30 => ⟨[(1, .pointer (some ⟨b2, 0, none⟩))], [cells b2 [.int .i64 p1.1, .int .i64 p1.2.1, .slice A1 p1.2.2.length c1] 35], [slF (rSl rp_u64_u64) A1 c1 p1.2.2], []⟩) ?_ (fun d4 m30 hd10 => ?_)
    · refine Tr.block (Tr.loopI (ι := Unit) (step := check_shaped_s0 p1) (fun s5 m23 => ⟨[(1, .pointer (some ⟨b2, 0, none⟩)), (7, .slice A1 p1.2.2.length c1), (8, .int .i64 ((p1.2.2.length : Int))), (9, .int .i64 s5)], [cells b2 [.int .i64 p1.1, .int .i64 p1.2.1, .slice A1 p1.2.2.length c1] 35], [slF (rSl rp_u64_u64) A1 c1 p1.2.2], []⟩) (()) hx3 (Imp.re _ [0] [0] (sc rfl (sc rfl (sc rfl (sc rfl sn)))) (by decide) rfl rfl rfl) (fun s5 m23 y2 hy2 hx4 => ?_))
      unfold check_shaped_s0 at hy2
      refine Tr.seq ?_
      refine Tr.region ?_
      refine TrL.v (v_arith rfl rfl rfl ar_lss) rfl rfl (bl rfl) ?_
      refine TrL.nil (qthen_n ?_)
      refine Tr.seq ?_
      rcases ifc hy2 with ⟨h31, hy2⟩ | ⟨h31, hy2⟩
      · refine Tr.cond_t rfl (bt_dec h31) ?_
        refine Tr.skip (qthen_n ?_)
        refine Tr.seq ?_
        refine Tr.block ?_
        refine Tr.seq ?_
        refine Tr.region ?_
        refine TrL.v (v_move rfl rfl) rfl rfl (bl rfl) ?_
        obtain ⟨z6, hz6, hy2⟩ := bnd hy2
        refine TrL.v (v_indexAddr (k := 0) rfl sl24 ty31 rfl rfl rfl rfl hz6) rfl rfl (bl rfl) ?_
        refine TrL.openS' (k := 0) rfl hz6 (fun A7 c7 => ?_)
        refine TrL.v (v_loadF (k := 2) rfl ty31 rfl rfl) rfl rfl (bl rfl) ?_
        refine TrL.v (v_assign rfl rfl) rfl rfl (bl rfl) ?_
        refine TrL.v (v_assign rfl rfl) rfl rfl (bl rfl) ?_
        refine TrL.nil (qthen_n ?_)
        refine Tr.seq ?_
        refine Tr.region ?_
        refine TrL.v (v_fieldAddr' rfl fo35_0 rfl rfl) rfl rfl (bl rfl) ?_
        refine TrL.v (v_load (k := 0) rfl rfl rfl ty3 (fun _ => rfl) rfl rfl) rfl rfl (bl rfl) ?_
        refine TrL.v (v_move rfl rfl) rfl rfl (bl rfl) ?_
        obtain ⟨r16, hr16, hy2⟩ := bnd hy2
        refine TrL.cons rfl (op_call0' (vs := [.int .i64 p1.1, .int .i64 s5]) (cap := []) [] rfl rfl (bl rfl) rfl rfl en120 (c_level_Least p1.1 s5 r16 hr16) rfl (fun ret M' F' hR16 => ?_))
        obtain ⟨rfl, rfl, rfl⟩ := hR16
        refine TrL.v (v_assign rfl rfl) rfl rfl (bl rfl) ?_
        refine TrL.nil (qthen_n ?_)
        refine Tr.seq ?_
        refine Tr.seq ?_
        refine Tr.region ?_
        refine TrL.v (v_move rfl rfl) rfl rfl (bl rfl) ?_
        refine TrL.v (v_fieldAddr' rfl fo35_2 rfl rfl) rfl rfl (bl rfl) ?_
        refine TrL.v (v_load (k := 0) rfl rfl rfl ty24 (fun _ => rfl) rfl rfl) rfl rfl (bl rfl) ?_
        refine TrL.v (v_len rfl sl24 rfl) rfl rfl (bl rfl) ?_
        refine TrL.v (v_arith rfl rfl rfl ar_sub_i64) rfl rfl (bl rfl) ?_
        refine TrL.v (v_arith rfl rfl rfl ar_eql) rfl rfl (bl rfl) ?_
        refine TrL.nil (qthen_n ?_)
        obtain ⟨j6, hj6, hy2⟩ := bnd hy2
        refine Tr.cutE (D := Int) (M := Unit) .normal (fun _d => j6 = _d) (fun j6 m32 => ⟨[(1, .pointer (some ⟨b2, 0, none⟩)), (3, .int .i64 s5), (4, .slice A7 z6.length c7), (5, .int .i64 j6), (7, .slice A1 p1.2.2.length c1), (8, .int .i64 ((p1.2.2.length : Int))), (9, .int .i64 s5)], [cells b2 [.int .i64 p1.1, .int .i64 p1.2.1, .slice A1 p1.2.2.length c1] 35], [slF rp_u64_u64 A7 c7 z6, slF (rSl rp_u64_u64) A1 c1 p1.2.2], []⟩) ?_ (fun j6 m32 hd8 => ?_)
        · rcases ifc hj6 with ⟨h33, hj6⟩ | ⟨h33, hj6⟩
          · refine Tr.cond_t rfl (bt_dec h33) ?_
            refine Tr.region ?_
            refine TrL.v (v_assign rfl rfl) rfl rfl (bl rfl) ?_
            refine TrL.nil (qcut_hit ((1 : Int)) (()) (Option.some.inj hj6).symm (Imp.re _ [0] [1, 0] (sc rfl (sc rfl (sc rfl (sc rfl (sc rfl (sc rfl (sc rfl sn))))))) (by decide) rfl rfl rfl))
          · refine Tr.cond_f rfl (bf_dec h33) ?_
            refine Tr.skip (qcut_hit r16 (()) (Option.some.inj hj6).symm (Imp.re _ [0] [1, 0] (sc rfl (sc rfl (sc rfl (sc rfl (sc rfl (sc rfl (sc rfl sn))))))) (by decide) rfl rfl rfl))
        · subst hd8
          refine (qthen_n ?_)
          refine Tr.seq ?_
          refine Tr.region ?_
          refine TrL.v (v_move rfl rfl) rfl rfl (bl rfl) ?_
          refine TrL.v (v_len rfl sl31 rfl) rfl rfl (bl rfl) ?_
          refine TrL.v (v_move rfl rfl) rfl rfl (bl rfl) ?_
          refine TrL.v (v_max rfl rfl rfl) rfl rfl (bl rfl) ?_
          refine TrL.v (v_arith rfl rfl rfl ar_lss) rfl rfl (bl rfl) ?_
          refine TrL.v (v_move rfl rfl) rfl rfl (bl rfl) ?_
          rcases ifc hy2 with ⟨h35, hy2⟩ | ⟨h35, hy2⟩
          · refine TrL.cons_no rfl rfl rfl (gn_f (bt_dec h35)) rfl (bl rfl) ?_
            refine TrL.cons_no rfl rfl rfl (gn_f (bt_dec h35)) rfl (bl rfl) ?_
            refine TrL.cons_no rfl rfl rfl (gn_f (bt_dec h35)) rfl (bl rfl) ?_
            refine TrL.cons_no rfl rfl rfl (gn_f (bt_dec h35)) rfl (bl rfl) ?_
            refine TrL.cons_no rfl rfl rfl (gn_f (bt_dec h35)) rfl (bl rfl) ?_
            refine TrL.cons_no rfl rfl rfl (gn_f (bt_dec h35)) rfl (bl rfl) ?_
            refine TrL.cons_no rfl rfl rfl (gn_f (bt_dec h35)) rfl (bl rfl) ?_
            refine TrL.v (v_pick_t rfl rfl (bt_dec h35) rfl) rfl rfl (bl rfl) ?_
            refine TrL.nil (qthen_n ?_)
            refine Tr.cond_t rfl rfl ?_
            refine Tr.seq ?_
            refine Tr.region ?_
            refine TrL.v (v_assign rfl rfl) rfl rfl (bl rfl) ?_
            refine TrL.nil (qthen_n ?_)
            have hz := Option.some.inj hy2
            subst hz
            refine Tr.ret (qblock_r (qthen_r (qloop_r (qblock_r (qcut_miss (by simp) (qcut_hit (()) (()) (hx4 _ rfl).symm (Imp.re _ [] [] (sc rfl sn) (by decide) rfl rfl rfl)))))))
          · refine TrL.cons_yes rfl rfl rfl (bf_dec h35) (OpTr.v (v_move rfl rfl) rfl (bl rfl) ?_)
            refine TrL.cons_yes rfl rfl rfl (bf_dec h35) (OpTr.v (v_len rfl sl31 rfl) rfl (bl rfl) ?_)
            refine TrL.cons_yes rfl rfl rfl (bf_dec h35) (OpTr.v (v_fieldAddr' rfl fo35_0 rfl rfl) rfl (bl rfl) ?_)
            refine TrL.cons_yes rfl rfl rfl (bf_dec h35) (OpTr.v (v_load (k := 0) rfl rfl rfl ty3 (fun _ => rfl) rfl rfl) rfl (bl rfl) ?_)
            refine TrL.cons_yes rfl rfl rfl (bf_dec h35) (OpTr.v (v_move rfl rfl) rfl (bl rfl) ?_)
            obtain ⟨r18, hr18, hy2⟩ := bnd hy2
            refine TrL.cons_yes rfl rfl rfl (bf_dec h35) (op_call0' (vs := [.int .i64 p1.1, .int .i64 s5]) (cap := []) [] rfl rfl (bl rfl) rfl rfl en121 (c_level_Most p1.1 s5 r18 hr18) rfl (fun ret M' F' hR18 => ?_))
            obtain ⟨rfl, rfl, rfl⟩ := hR18
            refine TrL.cons_yes rfl rfl rfl (bf_dec h35) (OpTr.v (v_arith rfl rfl rfl ar_gtr) rfl (bl rfl) ?_)
            refine TrL.v (v_pick_f rfl rfl (bf_dec h35) rfl) rfl rfl (bl rfl) ?_
            refine TrL.nil (qthen_n ?_)
            rcases ifc hy2 with ⟨h36, hy2⟩ | ⟨h36, hy2⟩
            · refine Tr.cond_t rfl (bt_dec h36) ?_
              refine Tr.seq ?_
              refine Tr.region ?_
              refine TrL.v (v_assign rfl rfl) rfl rfl (bl rfl) ?_
              refine TrL.nil (qthen_n ?_)
              have hz := Option.some.inj hy2
              subst hz
              refine Tr.ret (qblock_r (qthen_r (qloop_r (qblock_r (qcut_miss (by simp) (qcut_hit (()) (()) (hx4 _ rfl).symm (Imp.re _ [] [] (sc rfl sn) (by decide) rfl rfl rfl)))))))
            · refine Tr.cond_f rfl (bf_dec h36) ?_
              refine Tr.skip (qblock_n (qthen_n ?_))
              refine Tr.region ?_
              refine TrL.v (v_arith rfl rfl rfl ar_add_i64) rfl rfl (bl rfl) ?_
              refine TrL.v (v_move rfl rfl) rfl rfl (bl rfl) ?_
              have hz := Option.some.inj hy2
              subst hz
              refine TrL.nil (qloop_n (()) (Imp.re _ [0] [1] (sc rfl (sc rfl (sc rfl (sc rfl sn)))) (by decide) rfl rfl rfl))
      · refine Tr.cond_f rfl (bf_dec h31) ?_
        have hz := Option.some.inj hy2
        subst hz
        refine Tr.exit (qthen_x (qloop_x (qblock_hit (qcut_hit (()) (()) (hx4 _ rfl).symm (Imp.re _ [0] [0] (sc rfl sn) (by decide) rfl rfl rfl)))))
    · subst hd10
      replace H := sumr H
      refine (qcut_miss (by simp) (qthen_n ?_))
      refine Tr.seq ?_
      refine Tr.region ?_
      refine TrL.v (v_fieldAddr' rfl fo35_2 rfl rfl) rfl rfl (bl rfl) ?_
      refine TrL.v (v_load (k := 0) rfl rfl rfl ty24 (fun _ => rfl) rfl rfl) rfl rfl (bl rfl) ?_
      refine TrL.v (v_len rfl sl24 rfl) rfl rfl (bl rfl) ?_
      refine TrL.v (v_arith rfl rfl rfl ar_leq) rfl rfl (bl rfl) ?_
      refine TrL.v (v_assign rfl rfl) rfl rfl (bl rfl) ?_
      refine TrL.nil (qthen_n ?_)
      have hz := Option.some.inj H
      subst hz
      refine Tr.ret (ret_r ⟨[(2, .bool (decide (((p1.2.2.length : Int)) ≤ 52)))], [], [], []⟩ [.bool (decide (((p1.2.2.length : Int)) ≤ 52))] [] [] (Imp.re _ [] [] (sc rfl sn) (by decide) rfl rfl rfl) rfl rfl ⟨rfl, rfl, rfl⟩ (.cons (resv_tmp rfl) .nil))
  · subst hd9
    replace H := suml H
    have hz := Option.some.inj H
    subst hz
    refine (qthen_r (ret_r ⟨[(2, .bool false)], [], [], []⟩ [.bool false] [] [] (Imp.re _ [] [] (sc rfl sn) (by decide) rfl rfl rfl) rfl rfl ⟨rfl, rfl, rfl⟩ (.cons (resv_tmp rfl) .nil)))

theorem c_check_walk_step (p1 : Int × Bool) (p2 : Int × Int) (p3 : Bool) (b1 : Nat) (r : Bool) (H : check_walk_step p1 p2 p3 = some r) :
    Ctr Try.prog 122 [.pointer (some ⟨b1, 0, none⟩), .agg #[.int .u64 p2.1, .int .u64 p2.2], .bool p3] [cells b1 [.int .u64 p1.1, .bool p1.2] 198] [] (fun ret M' F' => ret = ret1 [] ∧ M' = [cells b1 [.int .u64 p2.2, .bool r] 198] ∧ F' = []) := by
  unfold check_walk_step at H
  refine ctr_ofI (N := 52) Try.func122 rfl Try.ntmps122 rfl (Nat.le_of_ble_eq_true rfl) (fun γ0 w0 => ?_)
  refine Tr.seq ?_
  refine Tr.region ?_
  refine TrL.cons rfl (op_box' rfl (bl rfl) rfl rfl rfl (fun b3 => ?_))
  refine TrL.nil (qthen_n ?_)
  refine Tr.seq ?_
  obtain ⟨j2, hj2, H⟩ := bnd H
  refine Tr.cutE (D := Bool) (M := Unit) .normal (fun _d => j2 = _d) (fun j2 m2 => ⟨[(0, .pointer (some ⟨b1, 0, none⟩)), (4, .pointer (some ⟨b3, 0, none⟩)), (6, .bool j2)], [cells b1 [.int .u64 p1.1, .bool p1.2] 198, cells b3 [.int .u64 p2.1, .int .u64 p2.2] 30], [], []⟩) ?_ (fun j2 m2 hd2 => ?_)
  · refine Tr.regionD drawn (fun hok => ?_)
    refine TrAny.prom (i := 0) (d := 7) hok (OpVal.plain rfl rfl (v_fieldAddr' rfl fo30_0 rfl rfl)) (by kernel_rfl) rfl (bl rfl) ?_
    clear hok
    intro hok
    refine TrAny.prom (i := 1) (d := 8) hok (OpVal.plain rfl rfl (v_load (k := 0) rfl rfl rfl ty28 (fun _ => rfl) rfl rfl)) (by kernel_rfl) rfl (bl rfl) ?_
    clear hok
    intro hok
    refine TrAny.prom (i := 2) (d := 9) hok (OpVal.plain rfl rfl (v_fieldAddr' rfl fo30_1 rfl rfl)) (by kernel_rfl) rfl (bl rfl) ?_
    clear hok
    intro hok
    refine TrAny.prom (i := 3) (d := 10) hok (OpVal.plain rfl rfl (v_load (k := 0) rfl rfl rfl ty28 (fun _ => rfl) rfl rfl)) (by kernel_rfl) rfl (bl rfl) ?_
    clear hok
    intro hok
    refine TrAny.prom (i := 4) (d := 11) hok (OpVal.plain rfl rfl (v_arith rfl rfl rfl ar_gtr)) (by kernel_rfl) rfl (bl rfl) ?_
    clear hok
    intro hok
    refine TrAny.prom (i := 5) (d := 12) hok (OpVal.plain rfl rfl (v_move rfl rfl)) (by kernel_rfl) rfl (bl rfl) ?_
    clear hok
    intro hok
    rcases ifc hj2 with ⟨h47, hj2⟩ | ⟨h47, hj2⟩
    · refine TrAny.prom (i := 6) (d := 13) hok (OpVal.no rfl (fun c h => by cases h) rfl rfl rfl (gn_f (bt_dec h47))) (by kernel_rfl) rfl (bl rfl) ?_
      clear hok
      intro hok
      refine TrAny.prom (i := 7) (d := 14) hok (OpVal.no rfl (fun c h => by cases h) rfl rfl rfl (gn_f (bt_dec h47))) (by kernel_rfl) rfl (bl rfl) ?_
      clear hok
      intro hok
      refine TrAny.prom (i := 8) (d := 15) hok (OpVal.no rfl (fun c h => by cases h) rfl rfl rfl (gn_f (bt_dec h47))) (by kernel_rfl) rfl (bl rfl) ?_
      clear hok
      intro hok
      refine TrAny.prom (i := 9) (d := 16) hok (OpVal.no rfl (fun c h => by cases h) rfl rfl rfl (gn_f (bt_dec h47))) (by kernel_rfl) rfl (bl rfl) ?_
      clear hok
      intro hok
      refine TrAny.prom (i := 10) (d := 17) hok (OpVal.no rfl (fun c h => by cases h) rfl rfl rfl (gn_f (bt_dec h47))) (by kernel_rfl) rfl (bl rfl) ?_
      clear hok
      intro hok
      refine TrAny.prom (i := 11) (d := 18) hok (OpVal.no rfl (fun c h => by cases h) rfl rfl rfl (gn_f (bt_dec h47))) (by kernel_rfl) rfl (bl rfl) ?_
      clear hok
      intro hok
      refine TrAny.prom (i := 12) (d := 19) hok (OpVal.no rfl (fun c h => by cases h) rfl rfl rfl (gn_f (bt_dec h47))) (by kernel_rfl) rfl (bl rfl) ?_
      clear hok
      intro hok
      refine TrAny.prom (i := 13) (d := 20) hok (OpVal.plain rfl rfl (v_pick_t rfl rfl (bt_dec h47) rfl)) (by kernel_rfl) rfl (bl rfl) ?_
      clear hok
      intro hok
      refine TrAny.prom (i := 14) (d := 21) hok (OpVal.plain rfl rfl (v_move rfl rfl)) (by kernel_rfl) rfl (bl rfl) ?_
      clear hok
      intro hok
      refine TrAny.prom (i := 15) (d := 22) hok (OpVal.no rfl (fun c h => by cases h) rfl rfl rfl (gn_f rfl)) (by kernel_rfl) rfl (bl rfl) ?_
      clear hok
      intro hok
      refine TrAny.prom (i := 16) (d := 23) hok (OpVal.no rfl (fun c h => by cases h) rfl rfl rfl (gn_f rfl)) (by kernel_rfl) rfl (bl rfl) ?_
      clear hok
      intro hok
      refine TrAny.prom (i := 17) (d := 24) hok (OpVal.no rfl (fun c h => by cases h) rfl rfl rfl (gn_f rfl)) (by kernel_rfl) rfl (bl rfl) ?_
      clear hok
      intro hok
      refine TrAny.prom (i := 18) (d := 25) hok (OpVal.plain rfl rfl (v_pick_t rfl rfl rfl rfl)) (by kernel_rfl) rfl (bl rfl) ?_
      clear hok
      intro hok
      refine TrAny.prom (i := 19) (d := 26) hok (OpVal.plain rfl rfl (v_move rfl rfl)) (by kernel_rfl) rfl (bl rfl) ?_
      clear hok
      intro hok
      refine TrAny.prom (i := 20) (d := 27) hok (OpVal.no rfl (fun c h => by cases h) rfl rfl rfl (gn_f rfl)) (by kernel_rfl) rfl (bl rfl) ?_
      clear hok
      intro hok
      refine TrAny.prom (i := 21) (d := 28) hok (OpVal.no rfl (fun c h => by cases h) rfl rfl rfl (gn_f rfl)) (by kernel_rfl) rfl (bl rfl) ?_
      clear hok
      intro hok
      refine TrAny.prom (i := 22) (d := 29) hok (OpVal.un rfl (fun c h => by cases h) rfl rfl rfl) (by kernel_rfl) rfl (bl rfl) ?_
      clear hok
      intro hok
      refine TrAny.prom (i := 23) (d := 30) hok (OpVal.un rfl (fun c h => by cases h) rfl rfl rfl) (by kernel_rfl) rfl (bl rfl) ?_
      clear hok
      intro hok
      refine TrAny.prom (i := 24) (d := 31) hok (OpVal.un rfl (fun c h => by cases h) rfl rfl rfl) (by kernel_rfl) rfl (bl rfl) ?_
      clear hok
      intro hok
      refine TrAny.prom (i := 25) (d := 32) hok (OpVal.un rfl (fun c h => by cases h) rfl rfl rfl) (by kernel_rfl) rfl (bl rfl) ?_
      clear hok
      intro hok
      refine TrAny.prom (i := 26) (d := 33) hok (OpVal.un rfl (fun c h => by cases h) rfl rfl rfl) (by kernel_rfl) rfl (bl rfl) ?_
      clear hok
      intro hok
      refine TrAny.prom (i := 27) (d := 34) hok (OpVal.no rfl (fun c h => by cases h) rfl rfl rfl (gn_f rfl)) (by kernel_rfl) rfl (bl rfl) ?_
      clear hok
      intro hok
      refine TrAny.prom (i := 28) (d := 35) hok (OpVal.plain rfl rfl (v_pick_t rfl rfl rfl rfl)) (by kernel_rfl) rfl (bl rfl) ?_
      clear hok
      intro hok
      refine TrAny.prom (i := 29) (d := 6) hok (OpVal.plain rfl rfl (v_assign rfl rfl)) (by kernel_rfl) rfl (bl rfl) ?_
      clear hok
      intro hok
      refine TrAny.done (by kernel_rfl) (by kernel_rfl) hok (by kernel_rfl) (qcut_hit true (()) (Option.some.inj hj2).symm (Imp.re _ [1, 0] [] (sc rfl (sc rfl (sc rfl sn))) (by decide) rfl rfl rfl))
    · refine TrAny.prom (i := 6) (d := 13) hok (OpVal.yes rfl rfl rfl rfl (bf_dec h47) (v_fieldAddr' rfl fo30_0 rfl rfl)) (by kernel_rfl) rfl (bl rfl) ?_
      clear hok
      intro hok
      refine TrAny.prom (i := 7) (d := 14) hok (OpVal.yes rfl rfl rfl rfl (bf_dec h47) (v_load (k := 0) rfl rfl rfl ty28 (fun _ => rfl) rfl rfl)) (by kernel_rfl) rfl (bl rfl) ?_
      clear hok
      intro hok
      refine TrAny.prom (i := 8) (d := 15) hok (OpVal.yes rfl rfl rfl rfl (bf_dec h47) (v_move rfl rfl)) (by kernel_rfl) rfl (bl rfl) ?_
      clear hok
      intro hok
      refine TrAny.prom (i := 9) (d := 16) hok (OpVal.yes rfl rfl rfl rfl (bf_dec h47) (v_nilCheck rfl rfl)) (by kernel_rfl) rfl (bl rfl) ?_
      clear hok
      intro hok
      refine TrAny.prom (i := 10) (d := 17) hok (OpVal.yes rfl rfl rfl rfl (bf_dec h47) (v_fieldAddr' rfl fo198_0 rfl rfl)) (by kernel_rfl) rfl (bl rfl) ?_
      clear hok
      intro hok
      refine TrAny.prom (i := 11) (d := 18) hok (OpVal.yes rfl rfl rfl rfl (bf_dec h47) (v_load (k := 1) rfl rfl rfl ty28 (fun _ => rfl) rfl rfl)) (by kernel_rfl) rfl (bl rfl) ?_
      clear hok
      intro hok
      refine TrAny.prom (i := 12) (d := 19) hok (OpVal.yes rfl rfl rfl rfl (bf_dec h47) (v_arith rfl rfl rfl ar_lss)) (by kernel_rfl) rfl (bl rfl) ?_
      clear hok
      intro hok
      refine TrAny.prom (i := 13) (d := 20) hok (OpVal.plain rfl rfl (v_pick_f rfl rfl (bf_dec h47) rfl)) (by kernel_rfl) rfl (bl rfl) ?_
      clear hok
      intro hok
      refine TrAny.prom (i := 14) (d := 21) hok (OpVal.plain rfl rfl (v_move rfl rfl)) (by kernel_rfl) rfl (bl rfl) ?_
      clear hok
      intro hok
      rcases ifc hj2 with ⟨h48, hj2⟩ | ⟨h48, hj2⟩
      · refine TrAny.prom (i := 15) (d := 22) hok (OpVal.no rfl (fun c h => by cases h) rfl rfl rfl (gn_f (bt_dec h48))) (by kernel_rfl) rfl (bl rfl) ?_
        clear hok
        intro hok
        refine TrAny.prom (i := 16) (d := 23) hok (OpVal.no rfl (fun c h => by cases h) rfl rfl rfl (gn_f (bt_dec h48))) (by kernel_rfl) rfl (bl rfl) ?_
        clear hok
        intro hok
        refine TrAny.prom (i := 17) (d := 24) hok (OpVal.no rfl (fun c h => by cases h) rfl rfl rfl (gn_f (bt_dec h48))) (by kernel_rfl) rfl (bl rfl) ?_
        clear hok
        intro hok
        refine TrAny.prom (i := 18) (d := 25) hok (OpVal.plain rfl rfl (v_pick_t rfl rfl (bt_dec h48) rfl)) (by kernel_rfl) rfl (bl rfl) ?_
        clear hok
        intro hok
        refine TrAny.prom (i := 19) (d := 26) hok (OpVal.plain rfl rfl (v_move rfl rfl)) (by kernel_rfl) rfl (bl rfl) ?_
        clear hok
        intro hok
        refine TrAny.prom (i := 20) (d := 27) hok (OpVal.no rfl (fun c h => by cases h) rfl rfl rfl (gn_f rfl)) (by kernel_rfl) rfl (bl rfl) ?_
        clear hok
        intro hok
        refine TrAny.prom (i := 21) (d := 28) hok (OpVal.no rfl (fun c h => by cases h) rfl rfl rfl (gn_f rfl)) (by kernel_rfl) rfl (bl rfl) ?_
        clear hok
        intro hok
        refine TrAny.prom (i := 22) (d := 29) hok (OpVal.un rfl (fun c h => by cases h) rfl rfl rfl) (by kernel_rfl) rfl (bl rfl) ?_
        clear hok
        intro hok
        refine TrAny.prom (i := 23) (d := 30) hok (OpVal.un rfl (fun c h => by cases h) rfl rfl rfl) (by kernel_rfl) rfl (bl rfl) ?_
        clear hok
        intro hok
        refine TrAny.prom (i := 24) (d := 31) hok (OpVal.un rfl (fun c h => by cases h) rfl rfl rfl) (by kernel_rfl) rfl (bl rfl) ?_
        clear hok
        intro hok
        refine TrAny.prom (i := 25) (d := 32) hok (OpVal.un rfl (fun c h => by cases h) rfl rfl rfl) (by kernel_rfl) rfl (bl rfl) ?_
        clear hok
        intro hok
        refine TrAny.prom (i := 26) (d := 33) hok (OpVal.un rfl (fun c h => by cases h) rfl rfl rfl) (by kernel_rfl) rfl (bl rfl) ?_
        clear hok
        intro hok
        refine TrAny.prom (i := 27) (d := 34) hok (OpVal.no rfl (fun c h => by cases h) rfl rfl rfl (gn_f rfl)) (by kernel_rfl) rfl (bl rfl) ?_
        clear hok
        intro hok
        refine TrAny.prom (i := 28) (d := 35) hok (OpVal.plain rfl rfl (v_pick_t rfl rfl rfl rfl)) (by kernel_rfl) rfl (bl rfl) ?_
        clear hok
        intro hok
        refine TrAny.prom (i := 29) (d := 6) hok (OpVal.plain rfl rfl (v_assign rfl rfl)) (by kernel_rfl) rfl (bl rfl) ?_
        clear hok
        intro hok
        refine TrAny.done (by kernel_rfl) (by kernel_rfl) hok (by kernel_rfl) (qcut_hit true (()) (Option.some.inj hj2).symm (Imp.re _ [1, 0] [] (sc rfl (sc rfl (sc rfl sn))) (by decide) rfl rfl rfl))
      · refine TrAny.prom (i := 15) (d := 22) hok (OpVal.yes rfl rfl rfl rfl (bf_dec h48) (v_fieldAddr' rfl fo30_1 rfl rfl)) (by kernel_rfl) rfl (bl rfl) ?_
        clear hok
        intro hok
        refine TrAny.prom (i := 16) (d := 23) hok (OpVal.yes rfl rfl rfl rfl (bf_dec h48) (v_load (k := 0) rfl rfl rfl ty28 (fun _ => rfl) rfl rfl)) (by kernel_rfl) rfl (bl rfl) ?_
        clear hok
        intro hok
        refine TrAny.prom (i := 17) (d := 24) hok (OpVal.yes rfl rfl rfl rfl (bf_dec h48) (v_arith rfl rfl rfl ar_gtr)) (by kernel_rfl) rfl (bl rfl) ?_
        clear hok
        intro hok
        refine TrAny.prom (i := 18) (d := 25) hok (OpVal.plain rfl rfl (v_pick_f rfl rfl (bf_dec h48) rfl)) (by kernel_rfl) rfl (bl rfl) ?_
        clear hok
        intro hok
        refine TrAny.prom (i := 19) (d := 26) hok (OpVal.plain rfl rfl (v_move rfl rfl)) (by kernel_rfl) rfl (bl rfl) ?_
        clear hok
        intro hok
        rcases ifc hj2 with ⟨h49, hj2⟩ | ⟨h49, hj2⟩
        · refine TrAny.prom (i := 20) (d := 27) hok (OpVal.no rfl (fun c h => by cases h) rfl rfl rfl (gn_f (bt_dec h49))) (by kernel_rfl) rfl (bl rfl) ?_
          clear hok
          intro hok
          refine TrAny.prom (i := 21) (d := 28) hok (OpVal.no rfl (fun c h => by cases h) rfl rfl rfl (gn_f (bt_dec h49))) (by kernel_rfl) rfl (bl rfl) ?_
          clear hok
          intro hok
          refine TrAny.prom (i := 22) (d := 29) hok (OpVal.un rfl (fun c h => by cases h) rfl rfl rfl) (by kernel_rfl) rfl (bl rfl) ?_
          clear hok
          intro hok
          refine TrAny.prom (i := 23) (d := 30) hok (OpVal.un rfl (fun c h => by cases h) rfl rfl rfl) (by kernel_rfl) rfl (bl rfl) ?_
          clear hok
          intro hok
          refine TrAny.prom (i := 24) (d := 31) hok (OpVal.un rfl (fun c h => by cases h) rfl rfl rfl) (by kernel_rfl) rfl (bl rfl) ?_
          clear hok
          intro hok
          refine TrAny.prom (i := 25) (d := 32) hok (OpVal.un rfl (fun c h => by cases h) rfl rfl rfl) (by kernel_rfl) rfl (bl rfl) ?_
          clear hok
          intro hok
          refine TrAny.prom (i := 26) (d := 33) hok (OpVal.un rfl (fun c h => by cases h) rfl rfl rfl) (by kernel_rfl) rfl (bl rfl) ?_
          clear hok
          intro hok
          refine TrAny.prom (i := 27) (d := 34) hok (OpVal.no rfl (fun c h => by cases h) rfl rfl rfl (gn_f (bt_dec h49))) (by kernel_rfl) rfl (bl rfl) ?_
          clear hok
          intro hok
          refine TrAny.prom (i := 28) (d := 35) hok (OpVal.plain rfl rfl (v_pick_t rfl rfl (bt_dec h49) rfl)) (by kernel_rfl) rfl (bl rfl) ?_
          clear hok
          intro hok
          refine TrAny.prom (i := 29) (d := 6) hok (OpVal.plain rfl rfl (v_assign rfl rfl)) (by kernel_rfl) rfl (bl rfl) ?_
          clear hok
          intro hok
          refine TrAny.done (by kernel_rfl) (by kernel_rfl) hok (by kernel_rfl) (qcut_hit true (()) (Option.some.inj hj2).symm (Imp.re _ [1, 0] [] (sc rfl (sc rfl (sc rfl sn))) (by decide) rfl rfl rfl))
        · refine TrAny.prom (i := 20) (d := 27) hok (OpVal.yes rfl rfl rfl rfl (bf_dec h49) (v_move rfl rfl)) (by kernel_rfl) rfl (bl rfl) ?_
          clear hok
          intro hok
          refine TrAny.prom (i := 21) (d := 28) hok (OpVal.yes rfl rfl rfl rfl (bf_dec h49) (v_move rfl rfl)) (by kernel_rfl) rfl (bl rfl) ?_
          clear hok
          intro hok
          rcases ifc hj2 with ⟨h50, hj2⟩ | ⟨h50, hj2⟩
          · refine TrAny.prom (i := 22) (d := 29) hok (OpVal.yes rfl rfl rfl rfl h50 (v_fieldAddr' rfl fo30_0 rfl rfl)) (by kernel_rfl) rfl (bl rfl) ?_
            clear hok
            intro hok
            refine TrAny.prom (i := 23) (d := 30) hok (OpVal.yes rfl rfl rfl rfl h50 (v_load (k := 0) rfl rfl rfl ty28 (fun _ => rfl) rfl rfl)) (by kernel_rfl) rfl (bl rfl) ?_
            clear hok
            intro hok
            refine TrAny.prom (i := 24) (d := 31) hok (OpVal.yes rfl rfl rfl rfl h50 (v_fieldAddr' rfl fo30_1 rfl rfl)) (by kernel_rfl) rfl (bl rfl) ?_
            clear hok
            intro hok
            refine TrAny.prom (i := 25) (d := 32) hok (OpVal.yes rfl rfl rfl rfl h50 (v_load (k := 0) rfl rfl rfl ty28 (fun _ => rfl) rfl rfl)) (by kernel_rfl) rfl (bl rfl) ?_
            clear hok
            intro hok
            refine TrAny.prom (i := 26) (d := 33) hok (OpVal.yes rfl rfl rfl rfl h50 (v_arith rfl rfl rfl ar_neq)) (by kernel_rfl) rfl (bl rfl) ?_
            clear hok
            intro hok
            refine TrAny.prom (i := 27) (d := 34) hok (OpVal.yes rfl rfl rfl rfl (bf_dec h49) (v_pick_t rfl rfl h50 rfl)) (by kernel_rfl) rfl (bl rfl) ?_
            clear hok
            intro hok
            refine TrAny.prom (i := 28) (d := 35) hok (OpVal.plain rfl rfl (v_pick_f rfl rfl (bf_dec h49) rfl)) (by kernel_rfl) rfl (bl rfl) ?_
            clear hok
            intro hok
            refine TrAny.prom (i := 29) (d := 6) hok (OpVal.plain rfl rfl (v_assign rfl rfl)) (by kernel_rfl) rfl (bl rfl) ?_
            clear hok
            intro hok
            refine TrAny.done (by kernel_rfl) (by kernel_rfl) hok (by kernel_rfl) (qcut_hit (decide (¬ p2.1 = p2.2)) (()) (Option.some.inj hj2).symm (Imp.re _ [1, 0] [] (sc rfl (sc rfl (sc rfl sn))) (by decide) rfl rfl rfl))
          · refine TrAny.prom (i := 22) (d := 29) hok (OpVal.no rfl (fun c h => by cases h) rfl rfl rfl (gn_t (bf_b h50))) (by kernel_rfl) rfl (bl rfl) ?_
            clear hok
            intro hok
            refine TrAny.prom (i := 23) (d := 30) hok (OpVal.no rfl (fun c h => by cases h) rfl rfl rfl (gn_t (bf_b h50))) (by kernel_rfl) rfl (bl rfl) ?_
            clear hok
            intro hok
            refine TrAny.prom (i := 24) (d := 31) hok (OpVal.no rfl (fun c h => by cases h) rfl rfl rfl (gn_t (bf_b h50))) (by kernel_rfl) rfl (bl rfl) ?_
            clear hok
            intro hok
            refine TrAny.prom (i := 25) (d := 32) hok (OpVal.no rfl (fun c h => by cases h) rfl rfl rfl (gn_t (bf_b h50))) (by kernel_rfl) rfl (bl rfl) ?_
            clear hok
            intro hok
            refine TrAny.prom (i := 26) (d := 33) hok (OpVal.no rfl (fun c h => by cases h) rfl rfl rfl (gn_t (bf_b h50))) (by kernel_rfl) rfl (bl rfl) ?_
            clear hok
            intro hok
            refine TrAny.prom (i := 27) (d := 34) hok (OpVal.yes rfl rfl rfl rfl (bf_dec h49) (v_pick_f rfl rfl (bf_b h50) rfl)) (by kernel_rfl) rfl (bl rfl) ?_
            clear hok
            intro hok
            refine TrAny.prom (i := 28) (d := 35) hok (OpVal.plain rfl rfl (v_pick_f rfl rfl (bf_dec h49) rfl)) (by kernel_rfl) rfl (bl rfl) ?_
            clear hok
            intro hok
            refine TrAny.prom (i := 29) (d := 6) hok (OpVal.plain rfl rfl (v_assign rfl rfl)) (by kernel_rfl) rfl (bl rfl) ?_
            clear hok
            intro hok
            refine TrAny.done (by kernel_rfl) (by kernel_rfl) hok (by kernel_rfl) (qcut_hit false (()) (Option.some.inj hj2).symm (Imp.re _ [1, 0] [] (sc rfl (sc rfl (sc rfl sn))) (by decide) rfl rfl rfl))
  · subst hd2
    refine (qthen_n ?_)
    refine Tr.seq ?_
    refine Tr.region ?_
    refine TrL.v (v_move rfl rfl) rfl rfl (bl rfl) ?_
    refine TrL.v (v_move rfl rfl) rfl rfl (bl rfl) ?_
    refine TrL.v (v_nilCheck rfl rfl) rfl rfl (bl rfl) ?_
    refine TrL.v (v_fieldAddr' rfl fo198_1 rfl rfl) rfl rfl (bl rfl) ?_
    refine TrL.v (v_load (k := 0) rfl rfl rfl ty4 (fun _ => rfl) rfl rfl) rfl rfl (bl rfl) ?_
    refine TrL.v (v_move rfl rfl) rfl rfl (bl rfl) ?_
    rcases ifc H with ⟨h52, H⟩ | ⟨h52, H⟩
    · refine TrL.cons_yes rfl rfl rfl h52 (OpTr.v (v_move rfl rfl) rfl (bl rfl) ?_)
      refine TrL.cons_yes rfl rfl rfl h52 (OpTr.v (v_notd rfl (bdec rfl)) rfl (bl rfl) ?_)
      refine TrL.v (v_pick_t rfl rfl h52 rfl) rfl rfl (bl rfl) ?_
      refine TrL.v (v_nilCheck rfl rfl) rfl rfl (bl rfl) ?_
      refine TrL.v (v_fieldAddr' rfl fo198_1 rfl rfl) rfl rfl (bl rfl) ?_
      refine TrL.cons rfl (op_store' (k := 0) (c' := [.int .u64 p1.1, .bool (decide (¬ (j2 = true)))]) rfl rfl rfl rfl rfl ty4 rfl (Nat.le_of_ble_eq_true rfl) (ones (oc rfl on)) rfl ?_)
      refine TrL.nil (qthen_n ?_)
      refine Tr.region ?_
      refine TrL.v (v_move rfl rfl) rfl rfl (bl rfl) ?_
      refine TrL.v (v_fieldAddr' rfl fo30_1 rfl rfl) rfl rfl (bl rfl) ?_
      refine TrL.v (v_load (k := 1) rfl rfl rfl ty28 (fun _ => rfl) rfl rfl) rfl rfl (bl rfl) ?_
      refine TrL.v (v_nilCheck rfl rfl) rfl rfl (bl rfl) ?_
      refine TrL.v (v_fieldAddr' rfl fo198_0 rfl rfl) rfl rfl (bl rfl) ?_
      refine TrL.cons rfl (op_store' (k := 0) (c' := [.int .u64 p2.2, .bool (decide (¬ (j2 = true)))]) rfl rfl rfl rfl rfl ty28 rfl (Nat.le_of_ble_eq_true rfl) (ones (oc rfl on)) rfl ?_)
      have hz := Option.some.inj H
      subst hz
      refine TrL.nil (ret_n ⟨[], [cells b1 [.int .u64 p2.2, .bool (decide (¬ (j2 = true)))] 198], [], []⟩ [] [cells b1 [.int .u64 p2.2, .bool (decide (¬ (j2 = true)))] 198] [] (Imp.re _ [0] [] sn (by decide) rfl rfl rfl) rfl rfl ⟨rfl, rfl, rfl⟩ .nil)
    · refine TrL.cons_no rfl rfl rfl (gn_t (bf_b h52)) rfl (bl rfl) ?_
      refine TrL.cons_no rfl rfl rfl (gn_t (bf_b h52)) rfl (bl rfl) ?_
      refine TrL.v (v_pick_f rfl rfl (bf_b h52) rfl) rfl rfl (bl rfl) ?_
      refine TrL.v (v_nilCheck rfl rfl) rfl rfl (bl rfl) ?_
      refine TrL.v (v_fieldAddr' rfl fo198_1 rfl rfl) rfl rfl (bl rfl) ?_
      refine TrL.cons rfl (op_store' (k := 0) (c' := [.int .u64 p1.1, .bool false]) rfl rfl rfl rfl rfl ty4 rfl (Nat.le_of_ble_eq_true rfl) (ones (oc rfl on)) rfl ?_)
      refine TrL.nil (qthen_n ?_)
      refine Tr.region ?_
      refine TrL.v (v_move rfl rfl) rfl rfl (bl rfl) ?_
      refine TrL.v (v_fieldAddr' rfl fo30_1 rfl rfl) rfl rfl (bl rfl) ?_
      refine TrL.v (v_load (k := 1) rfl rfl rfl ty28 (fun _ => rfl) rfl rfl) rfl rfl (bl rfl) ?_
      refine TrL.v (v_nilCheck rfl rfl) rfl rfl (bl rfl) ?_
      refine TrL.v (v_fieldAddr' rfl fo198_0 rfl rfl) rfl rfl (bl rfl) ?_
      refine TrL.cons rfl (op_store' (k := 0) (c' := [.int .u64 p2.2, .bool false]) rfl rfl rfl rfl rfl ty28 rfl (Nat.le_of_ble_eq_true rfl) (ones (oc rfl on)) rfl ?_)
      have hz := Option.some.inj H
      subst hz
      refine TrL.nil (ret_n ⟨[], [cells b1 [.int .u64 p2.2, .bool false] 198], [], []⟩ [] [cells b1 [.int .u64 p2.2, .bool false] 198] [] (Imp.re _ [0] [] sn (by decide) rfl rfl rfl) rfl rfl ⟨rfl, rfl, rfl⟩ .nil)

theorem c_check_turned (p1 : Int × Int × List (List (Int × Int))) (A1 : Option Addr) (c1 : Nat) (r : Bool) (H : check_turned p1 = some r) :
    Ctr Try.prog 61 [.agg #[.int .i64 p1.1, .int .i64 p1.2.1, .slice A1 p1.2.2.length c1]] [] [slF (rSl rp_u64_u64) A1 c1 p1.2.2] (fun ret M' F' => ret = .bool r ∧ M' = [] ∧ F' = []) := by
  unfold check_turned at H
  refine ctr_ofI (N := 33) Try.func61 rfl Try.ntmps61 rfl (Nat.le_of_ble_eq_true rfl) (fun γ0 w0 => ?_)
  refine Tr.seq ?_
  refine Tr.region ?_
  refine TrL.cons rfl (op_box' rfl (bl rfl) rfl rfl rfl (fun b12 => ?_))
  refine TrL.v (v_assign rfl rfl) rfl rfl (bl rfl) ?_
  refine TrL.nil (qthen_n ?_)
  refine Tr.seq ?_
  refine Tr.region ?_
  refine TrL.v (v_build (vs := [.bool true]) (out := [.int .u64 0, .bool true]) rfl pl198 ze198 rfl rfl) rfl rfl (bl rfl) ?_
  refine TrL.cons rfl (op_alloc' rfl (bl rfl) rfl ze198 (fun b13 => ?_))
  refine TrL.cons rfl (op_store' (k := 0) (c' := [.int .u64 0, .bool true]) rfl rfl rfl rfl rfl ty198 rfl (Nat.le_of_ble_eq_true rfl) (ones (oc rfl (oc rfl on))) rfl ?_)
  refine TrL.nil (qthen_n ?_)
  refine Tr.seq ?_
  refine Tr.seq ?_
  refine Tr.region ?_
  refine TrL.v (v_fieldAddr' rfl fo35_2 rfl rfl) rfl rfl (bl rfl) ?_
  refine TrL.v (v_load (k := 1) rfl rfl rfl ty24 (fun _ => rfl) rfl rfl) rfl rfl (bl rfl) ?_
  refine TrL.v (v_len rfl sl24 rfl) rfl rfl (bl rfl) ?_
  refine TrL.v (v_arith rfl rfl rfl ar_sub_i64) rfl rfl (bl rfl) ?_
  refine TrL.v (v_assign rfl rfl) rfl rfl (bl rfl) ?_
  refine TrL.nil (qthen_n ?_)
  obtain ⟨x7, hx13, H⟩ := bnd H
  refine Tr.cutE (D := Int × Bool) (M := Unit) .normal (fun _d => x7 = _d) (fun x7 m43 => ⟨[(3, .pointer (some ⟨b13, 0, none⟩))], [cells b13 [.int .u64 x7.1, .bool x7.2] 198], [], []⟩) ?_ (fun x7 m43 hd8 => ?_)
  · refine Tr.block (Tr.loopI (ι := Unit) (step := check_turned_s0 p1) (fun s17 m34 => ⟨[(1, .pointer (some ⟨b12, 0, none⟩)), (3, .pointer (some ⟨b13, 0, none⟩)), (4, .int .i64 s17.1)], [cells b12 [.int .i64 p1.1, .int .i64 p1.2.1, .slice A1 p1.2.2.length c1] 35, cells b13 [.int .u64 s17.2.1, .bool s17.2.2] 198], [slF (rSl rp_u64_u64) A1 c1 p1.2.2], []⟩) (()) hx13 (Imp.re _ [1, 0] [0] (sc rfl (sc rfl (sc rfl sn))) (by decide) rfl rfl rfl) (fun s17 m34 y7 hy7 hx14 => ?_))
    unfold check_turned_s0 at hy7
    refine Tr.seq ?_
    refine Tr.seq ?_
    refine Tr.region ?_
    refine TrL.v (v_move rfl rfl) rfl rfl (bl rfl) ?_
    refine TrL.v (v_arith rfl rfl rfl ar_geq) rfl rfl (bl rfl) ?_
    refine TrL.nil (qthen_n ?_)
    rcases ifc hy7 with ⟨h21, hy7⟩ | ⟨h21, hy7⟩
    · refine Tr.cond_t rfl (bt_dec h21) ?_
      refine Tr.skip (qthen_n ?_)
      refine Tr.seq ?_
      refine Tr.block ?_
      refine Tr.seq ?_
      refine Tr.region ?_
      refine TrL.v (v_fieldAddr' rfl fo35_2 rfl rfl) rfl rfl (bl rfl) ?_
      refine TrL.v (v_load (k := 0) rfl rfl rfl ty24 (fun _ => rfl) rfl rfl) rfl rfl (bl rfl) ?_
      refine TrL.v (v_move rfl rfl) rfl rfl (bl rfl) ?_
      obtain ⟨z21, hz21, hy7⟩ := bnd hy7
      refine TrL.v (v_indexAddr (k := 0) rfl sl24 ty31 rfl rfl rfl rfl hz21) rfl rfl (bl rfl) ?_
      refine TrL.openS' (k := 0) rfl hz21 (fun A7 c7 => ?_)
      refine TrL.v (v_loadF (k := 2) rfl ty31 rfl rfl) rfl rfl (bl rfl) ?_
      refine TrL.v (v_len rfl sl31 rfl) rfl rfl (bl rfl) ?_
      refine TrL.v (v_move rfl rfl) rfl rfl (bl rfl) ?_
      refine TrL.nil (qthen_n ?_)
      obtain ⟨x8, hx15, hy7⟩ := bnd hy7
      refine Tr.cutE (D := Int × Bool) (M := Unit) .normal (fun _d => x8 = _d) (fun x8 m49 => ⟨[(1, .pointer (some ⟨b12, 0, none⟩)), (3, .pointer (some ⟨b13, 0, none⟩)), (4, .int .i64 s17.1)], [cells b12 [.int .i64 p1.1, .int .i64 p1.2.1, .slice A1 p1.2.2.length c1] 35, cells b13 [.int .u64 x8.1, .bool x8.2] 198], [slF (rSl rp_u64_u64) A1 c1 p1.2.2], []⟩) ?_ (fun x8 m49 hd7 => ?_)
      · refine Tr.block (Tr.loopI (ι := Unit) (step := check_turned_s1 s17 z21) (fun s23 m46 => ⟨[(1, .pointer (some ⟨b12, 0, none⟩)), (3, .pointer (some ⟨b13, 0, none⟩)), (4, .int .i64 s17.1), (20, .slice A7 z21.length c7), (21, .int .i64 ((z21.length : Int))), (22, .int .i64 s23.1)], [cells b12 [.int .i64 p1.1, .int .i64 p1.2.1, .slice A1 p1.2.2.length c1] 35, cells b13 [.int .u64 s23.2.1, .bool s23.2.2] 198], [slF rp_u64_u64 A7 c7 z21, slF (rSl rp_u64_u64) A1 c1 p1.2.2], []⟩) (()) hx15 (Imp.re _ [0, 1] [1, 0] (sc rfl (sc rfl (sc rfl (sc rfl (sc rfl (sc rfl sn)))))) (by decide) rfl rfl rfl) (fun s23 m46 y8 hy8 hx16 => ?_))
        unfold check_turned_s1 at hy8
        refine Tr.seq ?_
        refine Tr.region ?_
        refine TrL.v (v_arith rfl rfl rfl ar_lss) rfl rfl (bl rfl) ?_
        refine TrL.nil (qthen_n ?_)
        refine Tr.seq ?_
        rcases ifc hy8 with ⟨h24, hy8⟩ | ⟨h24, hy8⟩
        · refine Tr.cond_t rfl (bt_dec h24) ?_
          refine Tr.skip (qthen_n ?_)
          refine Tr.seq ?_
          refine Tr.block ?_
          refine Tr.seq ?_
          refine Tr.region ?_
          obtain ⟨z24, hz24, hy8⟩ := bnd hy8
          refine TrL.v (v_indexAddr (k := 0) rfl sl31 ty30 rfl rfl rfl rfl hz24) rfl rfl (bl rfl) ?_
          refine TrL.v (v_loadg (A := A7) (i := s23.1) (j := 0) (k := 0) rfl ty30 nofun rfl rfl hz24 rfl rfl) rfl rfl (bl rfl) ?_
          refine TrL.cons rfl (op_alloc' rfl (bl rfl) rfl ze30 (fun b22 => ?_))
          refine TrL.cons rfl (op_store' (k := 0) (c' := [.int .u64 z24.1, .int .u64 z24.2]) rfl rfl rfl rfl rfl ty30 rfl (Nat.le_of_ble_eq_true rfl) (ones (oc rfl (oc rfl on))) rfl ?_)
          refine TrL.nil (qthen_n ?_)
          refine Tr.region ?_
          refine TrL.v (v_load (k := 0) rfl rfl rfl ty30 nofun rfl rfl) rfl rfl (bl rfl) ?_
          refine TrL.v (v_move rfl rfl) rfl rfl (bl rfl) ?_
          refine TrL.v (v_arith rfl rfl rfl ar_eql) rfl rfl (bl rfl) ?_
          obtain ⟨r18, hr18, hy8⟩ := bnd hy8
          refine TrL.cons rfl (op_callg' (fs := []) (vs := [.pointer (some ⟨b13, 0, none⟩), .agg #[.int .u64 z24.1, .int .u64 z24.2], .bool (decide (s17.1 = 0))]) (cap := []) (Mr := [cells b22 [.int .u64 z24.1, .int .u64 z24.2] 30, cells b12 [.int .i64 p1.1, .int .i64 p1.2.1, .slice A1 p1.2.2.length c1] 35]) [2] [0, 1] [] rfl rfl rfl en122 (c_check_walk_step s23.2 z24 (decide (s17.1 = 0)) b13 r18 hr18) (by decide) rfl rfl rfl (bl rfl) (fun ret M' F' hR18 => ?_))
          obtain ⟨rfl, rfl, rfl⟩ := hR18
          refine TrL.nil (qblock_n (qthen_n ?_))
          refine Tr.region ?_
          refine TrL.v (v_arith rfl rfl rfl ar_add_i64) rfl rfl (bl rfl) ?_
          refine TrL.v (v_move rfl rfl) rfl rfl (bl rfl) ?_
          have hz := Option.some.inj hy8
          subst hz
          refine TrL.nil (qloop_n (()) (Imp.re _ [2, 0] [0, 1] (sc rfl (sc rfl (sc rfl (sc rfl (sc rfl (sc rfl sn)))))) (by decide) rfl rfl rfl))
        · refine Tr.cond_f rfl (bf_dec h24) ?_
          have hz := Option.some.inj hy8
          subst hz
          refine Tr.exit (qthen_x (qloop_x (qblock_hit (qcut_hit ((s23.2.1, s23.2.2)) (()) (hx16 _ rfl).symm (Imp.re _ [0, 1] [1] (sc rfl (sc rfl (sc rfl sn))) (by decide) rfl rfl rfl)))))
      · subst hd7
        refine (qblock_n (qthen_n ?_))
        refine Tr.region ?_
        refine TrL.v (v_move rfl rfl) rfl rfl (bl rfl) ?_
        refine TrL.v (v_arith rfl rfl rfl ar_sub_i64) rfl rfl (bl rfl) ?_
        refine TrL.v (v_assign rfl rfl) rfl rfl (bl rfl) ?_
        have hz := Option.some.inj hy7
        subst hz
        refine TrL.nil (qloop_n (()) (Imp.re _ [0, 1] [0] (sc rfl (sc rfl (sc rfl sn))) (by decide) rfl rfl rfl))
    · refine Tr.cond_f rfl (bf_dec h21) ?_
      have hz := Option.some.inj hy7
      subst hz
      refine Tr.exit (qthen_x (qloop_x (qblock_hit (qcut_hit ((s17.2.1, s17.2.2)) (()) (hx14 _ rfl).symm (Imp.re _ [1] [] (sc rfl sn) (by decide) rfl rfl rfl)))))
  · subst hd8
    refine (qthen_n ?_)
    refine Tr.seq ?_
    refine Tr.region ?_
    refine TrL.v (v_fieldAddr' rfl fo198_1 rfl rfl) rfl rfl (bl rfl) ?_
    refine TrL.v (v_load (k := 0) rfl rfl rfl ty4 (fun _ => rfl) rfl rfl) rfl rfl (bl rfl) ?_
    refine TrL.v (v_assign rfl rfl) rfl rfl (bl rfl) ?_
    refine TrL.nil (qthen_n ?_)
    have hz := Option.some.inj H
    subst hz
    refine Tr.ret (ret_r ⟨[(2, .bool x7.2)], [], [], []⟩ [.bool x7.2] [] [] (Imp.re _ [] [] (sc rfl sn) (by decide) rfl rfl rfl) rfl rfl ⟨rfl, rfl, rfl⟩ (.cons (resv_tmp rfl) .nil))
end Go.Proofs.Ytbeknohemgjfbaa.W
