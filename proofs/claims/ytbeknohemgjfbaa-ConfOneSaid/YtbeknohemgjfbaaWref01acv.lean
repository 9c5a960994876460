import Derived.Test.YtbeknohemgjfbaaKcv
import Derived.Test.YtbeknohemgjfbaaQcv
namespace Go.Proofs.Ytbeknohemgjfbaa.W
open Go Go.Proofs Go.Proofs.Ytbeknohemgjfbaa.L Go.Proofs.Ytbeknohemgjfbaa.Pu
set_option linter.unusedVariables false
set_option maxHeartbeats 4000000

theorem c_ref01_Put (p1 : Int) (r : List Int) (H : ref01_Put p1 = some r) :
  Ctr Try.prog 128 [.int .u64 p1] [] [] (fun ret M' F' => ∃ m : Option Addr × Nat, ret = .slice m.1 r.length m.2 ∧ M' = [] ∧ F' = [slF (rInt .u8) m.1 m.2 r]) := by
 unfold ref01_Put at H
 revert H
 generalize 1000 = fuel
 induction fuel generalizing p1 r with
 | zero => intro H; cases H
 | succ fuel ih =>
  intro H
  rw [itR] at H
  unfold ref01_Put_F at H
  refine ctr_ofI (N := 20) Try.func128 rfl Try.ntmps128 rfl (Nat.le_of_ble_eq_true rfl) (fun γ0 w0 => ?_)
  refine Tr.seq ?_
  refine Tr.region ?_
  refine TrL.v (v_assign rfl rfl) rfl rfl (bl rfl) ?_
  refine TrL.nil (qthen_n ?_)
  refine Tr.seq ?_
  refine Tr.seq ?_
  refine Tr.region ?_
  refine TrL.v (v_move rfl rfl) rfl rfl (bl rfl) ?_
  refine TrL.v (v_arith rfl rfl rfl ar_lss) rfl rfl (bl rfl) ?_
  refine TrL.nil (qthen_n ?_)
  rcases ifc H with ⟨h3, H⟩ | ⟨h3, H⟩
  ·refine Tr.cond_t rfl (bt_dec h3) ?_
   refine Tr.seq ?_
   refine Tr.region ?_
   refine TrL.v (v_move rfl rfl) rfl rfl (bl rfl) ?_
   refine TrL.v (v_conv' rfl ⟨_, Try.underlying28⟩ Try.underlying5 rfl wrap_u8') rfl rfl (bl rfl) ?_
   refine TrL.cons rfl (op_buildSlice' (rp := (rInt .u8)) (xs := [wu8 p1]) (vs := [.int .u8 (wu8 p1)]) (out := [.int .u8 (wu8 p1)]) rfl (bl rfl) rfl sl40 ty5 ze5 rfl rfl (by decide) (by decide) rfl (fun γ w hF => (rowc rfl rown rfl)) (fun A4 => ?_))
   refine TrL.v (v_assign rfl rfl) rfl rfl (bl rfl) ?_
   refine TrL.nil (qthen_n ?_)
   have hz := Option.some.inj H
   subst hz
   refine Tr.ret (qthen_r (ret_r ⟨[(2, .slice A4 1 1)], [], [slF (rInt .u8) A4 1 ([wu8 p1])], []⟩ [.slice A4 1 1] [] [] (Imp.re _ [] [0] (sc rfl sn) (by decide) rfl rfl rfl) rfl rfl ⟨((A4, 1)), rfl, rfl, rfl⟩ (.cons (resv_tmp rfl) .nil)))
  ·refine Tr.cond_f rfl (bf_dec h3) ?_
   refine Tr.skip (qthen_n ?_)
   refine Tr.seq ?_
   refine Tr.region ?_
   refine TrL.v (v_move rfl rfl) rfl rfl (bl rfl) ?_
   refine TrL.v (v_rem rfl rfl rfl (by decide)) rfl rfl (bl rfl) ?_
   refine TrL.v (v_arith rfl rfl rfl ar_add_u64) rfl rfl (bl rfl) ?_
   refine TrL.v (v_conv' rfl ⟨_, Try.underlying28⟩ Try.underlying5 rfl wrap_u8') rfl rfl (bl rfl) ?_
   refine TrL.cons rfl (op_buildSlice' (rp := (rInt .u8)) (xs := [wu8 (wu64 (128 + (p1.tmod 128)))]) (vs := [.int .u8 (wu8 (wu64 (128 + (p1.tmod 128))))]) (out := [.int .u8 (wu8 (wu64 (128 + (p1.tmod 128))))]) rfl (bl rfl) rfl sl40 ty5 ze5 rfl rfl (by decide) (by decide) rfl (fun γ w hF => (rowc rfl rown rfl)) (fun A5 => ?_))
   refine TrL.v (v_assign rfl rfl) rfl rfl (bl rfl) ?_
   refine TrL.nil (qthen_n ?_)
   refine Tr.seq ?_
   refine Tr.region ?_
   refine TrL.v (v_move rfl rfl) rfl rfl (bl rfl) ?_
   refine TrL.v (v_move rfl rfl) rfl rfl (bl rfl) ?_
   refine TrL.v (v_quo' rfl rfl rfl (by decide) wrap_u64') rfl rfl (bl rfl) ?_
   obtain ⟨r2, hr2, H⟩ := bnd H
   refine TrL.cons rfl (op_call0' (vs := [.int .u64 (wu64 (p1.tdiv 128))]) (cap := []) [] rfl rfl (bl rfl) rfl rfl en128 (ih (wu64 (p1.tdiv 128)) r2 hr2) rfl (fun ret M' F' hR2 => ?_))
   obtain ⟨m2, rfl, rfl, rfl⟩ := hR2
   refine TrL.full' (E := 5) (sz := 1) (A := A5) (n := 1) ?_
   obtain ⟨h4, H⟩ := rom H
   refine TrL.cons rfl (op_append' (rp := (rInt .u8)) (xs := [wu8 (wu64 (128 + (p1.tmod 128)))]) (ys := r2) (k := 0) (kx := 0) (ky := 1) rfl (bl rfl) rfl sl40 ty5 ze5 rfl by5 rfl rfl rfl rfl rfl rfl rfl h4.1 h4.2 (fun A6 c2 o2 => ?_))
   refine TrL.v (v_assign rfl rfl) rfl rfl (bl rfl) ?_
   refine TrL.nil (qthen_n ?_)
   refine Tr.seq ?_
   refine Tr.region ?_
   refine TrL.v (v_move rfl rfl) rfl rfl (bl rfl) ?_
   refine TrL.v (v_assign rfl rfl) rfl rfl (bl rfl) ?_
   refine TrL.nil (qthen_n ?_)
   have hz := Option.some.inj H
   subst hz
   refine Tr.ret (ret_r ⟨[(2, .slice A6 ((([wu8 (wu64 (128 + (p1.tmod 128)))]) ++ r2).length) c2)], [], [slF (rInt .u8) A6 c2 (([wu8 (wu64 (128 + (p1.tmod 128)))]) ++ r2)], []⟩ [.slice A6 ((([wu8 (wu64 (128 + (p1.tmod 128)))]) ++ r2).length) c2] [] [] (Imp.re _ [] [2] (sc rfl sn) (by decide) rfl rfl rfl) rfl rfl ⟨((A6, c2)), rfl, rfl, rfl⟩ (.cons (resv_tmp rfl) .nil))

theorem c_ref01_end (p1 : List Int) (A1 : Option Addr) (c1 : Nat) (r : Int) (H : ref01_end p1 = some r) :
  Ctr Try.prog 165 [.slice A1 p1.length c1] [] [slF (rInt .u8) A1 c1 p1] (fun ret M' F' => ret = .int .i64 r ∧ M' = [] ∧ F' = []) := by
 unfold ref01_end at H
 refine ctr_ofI (N := 20) Try.func165 rfl Try.ntmps165 rfl (Nat.le_of_ble_eq_true rfl) (fun γ0 w0 => ?_)
 refine Tr.seq ?_
 refine Tr.region ?_
 refine TrL.v (v_assign rfl rfl) rfl rfl (bl rfl) ?_
 refine TrL.nil (qthen_n ?_)
 refine Tr.seq ?_
 refine Tr.seq ?_
 refine Tr.region ?_
 refine TrL.v (v_assign rfl rfl) rfl rfl (bl rfl) ?_
 refine TrL.nil (qthen_n ?_)
 obtain ⟨x2, hx3, H⟩ := bnd H
 refine Tr.cutE (D := Int) (M := Unit) .ret (fun d3 => x2 = .inl d3) (fun d3 m9 => ⟨[(2, .int .i64 d3)], [], [], []⟩) ?_ (fun d3 m9 hd3 => ?_)
 ·refine Tr.cutE (D := Unit) (M := Unit) .normal (fun d4 => x2 = .inr d4) (fun d4 m10 => ⟨[], [], [], []⟩) ?_ (fun d4 m10 hd4 => ?_)
  ·refine Tr.block (Tr.loopI (ι := Unit) (step := ref01_end_s0 p1) (fun s5 m7 => ⟨[(0, .slice A1 p1.length c1), (3, .int .i64 s5)], [], [slF (rInt .u8) A1 c1 p1], []⟩) (()) hx3 (Imp.re _ [] [0] (sc rfl (sc rfl sn)) (by decide) rfl rfl rfl) (fun s5 m7 y2 hy2 hx4 => ?_))
   unfold ref01_end_s0 at hy2
   refine Tr.seq ?_
   refine Tr.seq ?_
   refine Tr.region ?_
   refine TrL.v (v_move rfl rfl) rfl rfl (bl rfl) ?_
   refine TrL.v (v_move rfl rfl) rfl rfl (bl rfl) ?_
   refine TrL.v (v_len rfl sl40 rfl) rfl rfl (bl rfl) ?_
   refine TrL.v (v_arith rfl rfl rfl ar_lss) rfl rfl (bl rfl) ?_
   refine TrL.v (v_move rfl rfl) rfl rfl (bl rfl) ?_
   rcases ifc hy2 with ⟨h20, hy2⟩ | ⟨h20, hy2⟩
   ·refine TrL.cons_yes rfl rfl rfl (bt_dec h20) (OpTr.v (v_move rfl rfl) rfl (bl rfl) ?_)
    refine TrL.cons_yes rfl rfl rfl (bt_dec h20) (OpTr.v (v_arith rfl rfl rfl ar_lss) rfl (bl rfl) ?_)
    refine TrL.v (v_pick_t rfl rfl (bt_dec h20) rfl) rfl rfl (bl rfl) ?_
    refine TrL.nil (qthen_n ?_)
    rcases ifc hy2 with ⟨h21, hy2⟩ | ⟨h21, hy2⟩
    ·refine Tr.cond_t rfl (bt_dec h21) ?_
     refine Tr.skip (qthen_n ?_)
     refine Tr.seq ?_
     refine Tr.block ?_
     refine Tr.seq ?_
     refine Tr.region ?_
     refine TrL.v (v_move rfl rfl) rfl rfl (bl rfl) ?_
     refine TrL.v (v_move rfl rfl) rfl rfl (bl rfl) ?_
     obtain ⟨z6, hz6, hy2⟩ := bnd hy2
     refine TrL.v (v_indexAddr (k := 0) rfl sl40 ty5 rfl rfl rfl rfl hz6) rfl rfl (bl rfl) ?_
     refine TrL.v (v_loadg (A := A1) (i := s5) (j := 0) (k := 0) rfl ty5 (fun _ => rfl) rfl rfl hz6 rfl rfl) rfl rfl (bl rfl) ?_
     refine TrL.v (v_arith rfl rfl rfl ar_lss) rfl rfl (bl rfl) ?_
     refine TrL.nil (qthen_n ?_)
     rcases ifc hy2 with ⟨h22, hy2⟩ | ⟨h22, hy2⟩
     ·refine Tr.cond_t rfl (bt_dec h22) ?_
      refine Tr.seq ?_
      refine Tr.region ?_
      refine TrL.v (v_move rfl rfl) rfl rfl (bl rfl) ?_
      refine TrL.v (v_assign rfl rfl) rfl rfl (bl rfl) ?_
      refine TrL.nil (qthen_n ?_)
      have hz := Option.some.inj hy2
      subst hz
      refine Tr.ret (qblock_r (qthen_r (qloop_r (qblock_r (qcut_miss (by simp) (qcut_hit s5 (()) (hx4 _ rfl).symm (Imp.re _ [] [] (sc rfl sn) (by decide) rfl rfl rfl)))))))
     ·refine Tr.cond_f rfl (bf_dec h22) ?_
      refine Tr.skip (qblock_n (qthen_n ?_))
      refine Tr.region ?_
      refine TrL.v (v_move rfl rfl) rfl rfl (bl rfl) ?_
      refine TrL.v (v_arith rfl rfl rfl ar_add_i64) rfl rfl (bl rfl) ?_
      refine TrL.v (v_assign rfl rfl) rfl rfl (bl rfl) ?_
      have hz := Option.some.inj hy2
      subst hz
      refine TrL.nil (qloop_n (()) (Imp.re _ [] [0] (sc rfl (sc rfl sn)) (by decide) rfl rfl rfl))
    ·refine Tr.cond_f rfl (bf_dec h21) ?_
     have hz := Option.some.inj hy2
     subst hz
     refine Tr.exit (qthen_x (qloop_x (qblock_hit (qcut_hit (()) (()) (hx4 _ rfl).symm (Imp.re _ [] [] sn (by decide) rfl rfl rfl)))))
   ·refine TrL.cons_no rfl rfl rfl (gn_t (bf_dec h20)) rfl (bl rfl) ?_
    refine TrL.cons_no rfl rfl rfl (gn_t (bf_dec h20)) rfl (bl rfl) ?_
    refine TrL.v (v_pick_f rfl rfl (bf_dec h20) rfl) rfl rfl (bl rfl) ?_
    refine TrL.nil (qthen_n ?_)
    refine Tr.cond_f rfl rfl ?_
    have hz := Option.some.inj hy2
    subst hz
    refine Tr.exit (qthen_x (qloop_x (qblock_hit (qcut_hit (()) (()) (hx4 _ rfl).symm (Imp.re _ [] [] sn (by decide) rfl rfl rfl)))))
  ·subst hd4
   replace H := sumr H
   refine (qcut_miss (by simp) (qthen_n ?_))
   refine Tr.seq ?_
   refine Tr.region ?_
   refine TrL.v (v_assign rfl rfl) rfl rfl (bl rfl) ?_
   refine TrL.nil (qthen_n ?_)
   have hz := Option.some.inj H
   subst hz
   refine Tr.ret (ret_r ⟨[(2, .int .i64 (-1))], [], [], []⟩ [.int .i64 (-1)] [] [] (Imp.re _ [] [] (sc rfl sn) (by decide) rfl rfl rfl) rfl rfl ⟨rfl, rfl, rfl⟩ (.cons (resv_tmp rfl) .nil))
 ·subst hd3
  replace H := suml H
  have hz := Option.some.inj H
  subst hz
  refine (qthen_r (ret_r ⟨[(2, .int .i64 d3)], [], [], []⟩ [.int .i64 d3] [] [] (Imp.re _ [] [] (sc rfl sn) (by decide) rfl rfl rfl) rfl rfl ⟨rfl, rfl, rfl⟩ (.cons (resv_tmp rfl) .nil)))

theorem c_ref01_Take (p1 : List Int) (A1 : Option Addr) (c1 : Nat) (r : Int × Int × Int) (H : ref01_Take p1 = some r) :
  Ctr Try.prog 132 [.slice A1 p1.length c1] [] [slF (rInt .u8) A1 c1 p1] (fun ret M' F' => ret = .tuple #[.int .u64 r.1, .int .i64 r.2.1, .int .i64 r.2.2] ∧ M' = [] ∧ F' = []) := by
 unfold ref01_Take at H
 refine ctr_ofI (N := 56) Try.func132 rfl Try.ntmps132 rfl (Nat.le_of_ble_eq_true rfl) (fun γ0 w0 => ?_)
 refine Tr.seq ?_
 refine Tr.region ?_
 refine TrL.v (v_assign rfl rfl) rfl rfl (bl rfl) ?_
 refine TrL.v (v_assign rfl rfl) rfl rfl (bl rfl) ?_
 refine TrL.v (v_assign rfl rfl) rfl rfl (bl rfl) ?_
 refine TrL.nil (qthen_n ?_)
 refine Tr.seq ?_
 refine Tr.region ?_
 refine TrL.v (v_move rfl rfl) rfl rfl (bl rfl) ?_
 obtain ⟨r2, hr2, H⟩ := bnd H
 refine TrL.cons rfl (op_call0' (vs := [.slice A1 p1.length c1]) (cap := []) [0] rfl rfl (bl rfl) rfl rfl en165 (c_ref01_end p1 A1 c1 r2 hr2) rfl (fun ret M' F' hR2 => ?_))
 obtain ⟨rfl, rfl, rfl⟩ := hR2
 refine TrL.v (v_assign rfl rfl) rfl rfl (bl rfl) ?_
 refine TrL.nil (qthen_n ?_)
 refine Tr.seq ?_
 refine Tr.seq ?_
 obtain ⟨j3, hj3, H⟩ := bnd H
 refine Tr.cutE (D := Bool) (M := Unit) .normal (fun _d => j3 = _d) (fun j3 m9 => ⟨[(0, .slice A1 p1.length c1), (5, .int .i64 r2), (16, .bool j3)], [], [slF (rInt .u8) A1 c1 p1], []⟩) ?_ (fun j3 m9 hd4 => ?_)
 ·refine Tr.region ?_
  refine TrL.v (v_move rfl rfl) rfl rfl (bl rfl) ?_
  refine TrL.v (v_arith rfl rfl rfl ar_lss) rfl rfl (bl rfl) ?_
  refine TrL.v (v_move rfl rfl) rfl rfl (bl rfl) ?_
  rcases ifc hj3 with ⟨h24, hj3⟩ | ⟨h24, hj3⟩
  ·refine TrL.cons_yes rfl rfl rfl (bt_dec h24) (OpTr.v (v_move rfl rfl) rfl (bl rfl) ?_)
   refine TrL.cons_yes rfl rfl rfl (bt_dec h24) (OpTr.v (v_len rfl sl40 rfl) rfl (bl rfl) ?_)
   refine TrL.cons_yes rfl rfl rfl (bt_dec h24) (OpTr.v (v_arith rfl rfl rfl ar_geq) rfl (bl rfl) ?_)
   refine TrL.v (v_pick_t rfl rfl (bt_dec h24) rfl) rfl rfl (bl rfl) ?_
   refine TrL.nil (qcut_hit (decide (10 ≤ ((p1.length : Int)))) (()) (Option.some.inj hj3).symm (Imp.re _ [] [0] (sc rfl (sc rfl (sc rfl sn))) (by decide) rfl rfl rfl))
  ·refine TrL.cons_no rfl rfl rfl (gn_t (bf_dec h24)) rfl (bl rfl) ?_
   refine TrL.cons_no rfl rfl rfl (gn_t (bf_dec h24)) rfl (bl rfl) ?_
   refine TrL.cons_no rfl rfl rfl (gn_t (bf_dec h24)) rfl (bl rfl) ?_
   refine TrL.v (v_pick_f rfl rfl (bf_dec h24) rfl) rfl rfl (bl rfl) ?_
   refine TrL.nil (qcut_hit false (()) (Option.some.inj hj3).symm (Imp.re _ [] [0] (sc rfl (sc rfl (sc rfl sn))) (by decide) rfl rfl rfl))
 ·subst hd4
  refine (qthen_n ?_)
  rcases ifc H with ⟨h25, H⟩ | ⟨h25, H⟩
  ·refine Tr.cond_t rfl h25 ?_
   refine Tr.seq ?_
   refine Tr.region ?_
   refine TrL.v (v_assign rfl rfl) rfl rfl (bl rfl) ?_
   refine TrL.v (v_assign rfl rfl) rfl rfl (bl rfl) ?_
   refine TrL.v (v_assign rfl rfl) rfl rfl (bl rfl) ?_
   refine TrL.nil (qthen_n ?_)
   have hz := Option.some.inj H
   subst hz
   refine Tr.ret (qthen_r (ret_r ⟨[(2, .int .u64 0), (3, .int .i64 0), (4, .int .i64 2)], [], [], []⟩ [.int .u64 0, .int .i64 0, .int .i64 2] [] [] (Imp.re _ [] [] (sc rfl (sc rfl (sc rfl sn))) (by decide) rfl rfl rfl) rfl rfl ⟨rfl, rfl, rfl⟩ (.cons (resv_tmp rfl) (.cons (resv_tmp rfl) (.cons (resv_tmp rfl) .nil)))))
  ·refine Tr.cond_f rfl (bf_b h25) ?_
   refine Tr.skip (qthen_n ?_)
   refine Tr.seq ?_
   refine Tr.seq ?_
   refine Tr.region ?_
   refine TrL.v (v_move rfl rfl) rfl rfl (bl rfl) ?_
   refine TrL.v (v_arith rfl rfl rfl ar_lss) rfl rfl (bl rfl) ?_
   refine TrL.nil (qthen_n ?_)
   rcases ifc H with ⟨h26, H⟩ | ⟨h26, H⟩
   ·refine Tr.cond_t rfl (bt_dec h26) ?_
    refine Tr.seq ?_
    refine Tr.region ?_
    refine TrL.v (v_assign rfl rfl) rfl rfl (bl rfl) ?_
    refine TrL.v (v_assign rfl rfl) rfl rfl (bl rfl) ?_
    refine TrL.v (v_assign rfl rfl) rfl rfl (bl rfl) ?_
    refine TrL.nil (qthen_n ?_)
    have hz := Option.some.inj H
    subst hz
    refine Tr.ret (qthen_r (ret_r ⟨[(2, .int .u64 0), (3, .int .i64 0), (4, .int .i64 3)], [], [], []⟩ [.int .u64 0, .int .i64 0, .int .i64 3] [] [] (Imp.re _ [] [] (sc rfl (sc rfl (sc rfl sn))) (by decide) rfl rfl rfl) rfl rfl ⟨rfl, rfl, rfl⟩ (.cons (resv_tmp rfl) (.cons (resv_tmp rfl) (.cons (resv_tmp rfl) .nil)))))
   ·refine Tr.cond_f rfl (bf_dec h26) ?_
    refine Tr.skip (qthen_n ?_)
    refine Tr.seq ?_
    refine Tr.seq ?_
    obtain ⟨j4, hj4, H⟩ := bnd H
    refine Tr.cutE (D := Bool) (M := Unit) .normal (fun _d => j4 = _d) (fun j4 m10 => ⟨[(0, .slice A1 p1.length c1), (5, .int .i64 r2), (38, .bool j4)], [], [slF (rInt .u8) A1 c1 p1], []⟩) ?_ (fun j4 m10 hd5 => ?_)
    ·refine Tr.region ?_
     refine TrL.v (v_move rfl rfl) rfl rfl (bl rfl) ?_
     refine TrL.v (v_move rfl rfl) rfl rfl (bl rfl) ?_
     obtain ⟨z9, hz9, hj4⟩ := bnd hj4
     refine TrL.v (v_indexAddr (k := 0) rfl sl40 ty5 rfl rfl rfl rfl hz9) rfl rfl (bl rfl) ?_
     refine TrL.v (v_loadg (A := A1) (i := r2) (j := 0) (k := 0) rfl ty5 (fun _ => rfl) rfl rfl hz9 rfl rfl) rfl rfl (bl rfl) ?_
     refine TrL.v (v_arith rfl rfl rfl ar_eql) rfl rfl (bl rfl) ?_
     refine TrL.v (v_move rfl rfl) rfl rfl (bl rfl) ?_
     rcases ifc hj4 with ⟨h35, hj4⟩ | ⟨h35, hj4⟩
     ·refine TrL.cons_yes rfl rfl rfl (bt_dec h35) (OpTr.v (v_move rfl rfl) rfl (bl rfl) ?_)
      refine TrL.cons_yes rfl rfl rfl (bt_dec h35) (OpTr.v (v_arith rfl rfl rfl ar_gtr) rfl (bl rfl) ?_)
      refine TrL.v (v_pick_t rfl rfl (bt_dec h35) rfl) rfl rfl (bl rfl) ?_
      refine TrL.v (v_move rfl rfl) rfl rfl (bl rfl) ?_
      rcases ifc hj4 with ⟨h36, hj4⟩ | ⟨h36, hj4⟩
      ·refine TrL.cons_no rfl rfl rfl (gn_f (bt_dec h36)) rfl (bl rfl) ?_
       refine TrL.cons_no rfl rfl rfl (gn_f (bt_dec h36)) rfl (bl rfl) ?_
       refine TrL.cons_no rfl rfl rfl (gn_f (bt_dec h36)) rfl (bl rfl) ?_
       refine TrL.cons_un rfl rfl rfl rfl (bl rfl) ?_
       refine TrL.cons_un rfl rfl rfl rfl (bl rfl) ?_
       refine TrL.cons_un rfl rfl rfl rfl (bl rfl) ?_
       refine TrL.cons_un rfl rfl rfl rfl (bl rfl) ?_
       refine TrL.cons_un rfl rfl rfl rfl (bl rfl) ?_
       refine TrL.cons_no rfl rfl rfl (gn_f (bt_dec h36)) rfl (bl rfl) ?_
       refine TrL.v (v_pick_t rfl rfl (bt_dec h36) rfl) rfl rfl (bl rfl) ?_
       refine TrL.nil (qcut_hit true (()) (Option.some.inj hj4).symm (Imp.re _ [] [0] (sc rfl (sc rfl (sc rfl sn))) (by decide) rfl rfl rfl))
      ·refine TrL.cons_yes rfl rfl rfl (bf_dec h36) (OpTr.v (v_move rfl rfl) rfl (bl rfl) ?_)
       refine TrL.cons_yes rfl rfl rfl (bf_dec h36) (OpTr.v (v_arith rfl rfl rfl ar_eql) rfl (bl rfl) ?_)
       refine TrL.cons_yes rfl rfl rfl (bf_dec h36) (OpTr.v (v_move rfl rfl) rfl (bl rfl) ?_)
       rcases ifc hj4 with ⟨h37, hj4⟩ | ⟨h37, hj4⟩
       ·refine TrL.cons_yes rfl rfl rfl (bt_dec h37) (OpTr.v (v_move rfl rfl) rfl (bl rfl) ?_)
        refine TrL.cons_yes rfl rfl rfl (bt_dec h37) (OpTr.v (v_move rfl rfl) rfl (bl rfl) ?_)
        refine TrL.cons_yes rfl rfl rfl (bt_dec h37) (OpTr.v (v_indexAddr (k := 0) rfl sl40 ty5 rfl rfl rfl rfl hz9) rfl (bl rfl) ?_)
        refine TrL.cons_yes rfl rfl rfl (bt_dec h37) (OpTr.v (v_loadg (A := A1) (i := r2) (j := 0) (k := 0) rfl ty5 (fun _ => rfl) rfl rfl hz9 rfl rfl) rfl (bl rfl) ?_)
        refine TrL.cons_yes rfl rfl rfl (bt_dec h37) (OpTr.v (v_arith rfl rfl rfl ar_gtr) rfl (bl rfl) ?_)
        refine TrL.cons_yes rfl rfl rfl (bf_dec h36) (OpTr.v (v_pick_t rfl rfl (bt_dec h37) rfl) rfl (bl rfl) ?_)
        refine TrL.v (v_pick_f rfl rfl (bf_dec h36) rfl) rfl rfl (bl rfl) ?_
        refine TrL.nil (qcut_hit (decide (1 < z9)) (()) (Option.some.inj hj4).symm (Imp.re _ [] [0] (sc rfl (sc rfl (sc rfl sn))) (by decide) rfl rfl rfl))
       ·refine TrL.cons_no rfl rfl rfl (gn_t (bf_dec h37)) rfl (bl rfl) ?_
        refine TrL.cons_no rfl rfl rfl (gn_t (bf_dec h37)) rfl (bl rfl) ?_
        refine TrL.cons_no rfl rfl rfl (gn_t (bf_dec h37)) rfl (bl rfl) ?_
        refine TrL.cons_no rfl rfl rfl (gn_t (bf_dec h37)) rfl (bl rfl) ?_
        refine TrL.cons_no rfl rfl rfl (gn_t (bf_dec h37)) rfl (bl rfl) ?_
        refine TrL.cons_yes rfl rfl rfl (bf_dec h36) (OpTr.v (v_pick_f rfl rfl (bf_dec h37) rfl) rfl (bl rfl) ?_)
        refine TrL.v (v_pick_f rfl rfl (bf_dec h36) rfl) rfl rfl (bl rfl) ?_
        refine TrL.nil (qcut_hit false (()) (Option.some.inj hj4).symm (Imp.re _ [] [0] (sc rfl (sc rfl (sc rfl sn))) (by decide) rfl rfl rfl))
     ·refine TrL.cons_no rfl rfl rfl (gn_t (bf_dec h35)) rfl (bl rfl) ?_
      refine TrL.cons_no rfl rfl rfl (gn_t (bf_dec h35)) rfl (bl rfl) ?_
      refine TrL.v (v_pick_f rfl rfl (bf_dec h35) rfl) rfl rfl (bl rfl) ?_
      refine TrL.v (v_move rfl rfl) rfl rfl (bl rfl) ?_
      refine TrL.cons_yes rfl rfl rfl rfl (OpTr.v (v_move rfl rfl) rfl (bl rfl) ?_)
      refine TrL.cons_yes rfl rfl rfl rfl (OpTr.v (v_arith rfl rfl rfl ar_eql) rfl (bl rfl) ?_)
      refine TrL.cons_yes rfl rfl rfl rfl (OpTr.v (v_move rfl rfl) rfl (bl rfl) ?_)
      rcases ifc hj4 with ⟨h38, hj4⟩ | ⟨h38, hj4⟩
      ·refine TrL.cons_yes rfl rfl rfl (bt_dec h38) (OpTr.v (v_move rfl rfl) rfl (bl rfl) ?_)
       refine TrL.cons_yes rfl rfl rfl (bt_dec h38) (OpTr.v (v_move rfl rfl) rfl (bl rfl) ?_)
       refine TrL.cons_yes rfl rfl rfl (bt_dec h38) (OpTr.v (v_indexAddr (k := 0) rfl sl40 ty5 rfl rfl rfl rfl hz9) rfl (bl rfl) ?_)
       refine TrL.cons_yes rfl rfl rfl (bt_dec h38) (OpTr.v (v_loadg (A := A1) (i := r2) (j := 0) (k := 0) rfl ty5 (fun _ => rfl) rfl rfl hz9 rfl rfl) rfl (bl rfl) ?_)
       refine TrL.cons_yes rfl rfl rfl (bt_dec h38) (OpTr.v (v_arith rfl rfl rfl ar_gtr) rfl (bl rfl) ?_)
       refine TrL.cons_yes rfl rfl rfl rfl (OpTr.v (v_pick_t rfl rfl (bt_dec h38) rfl) rfl (bl rfl) ?_)
       refine TrL.v (v_pick_f rfl rfl rfl rfl) rfl rfl (bl rfl) ?_
       refine TrL.nil (qcut_hit (decide (1 < z9)) (()) (Option.some.inj hj4).symm (Imp.re _ [] [0] (sc rfl (sc rfl (sc rfl sn))) (by decide) rfl rfl rfl))
      ·refine TrL.cons_no rfl rfl rfl (gn_t (bf_dec h38)) rfl (bl rfl) ?_
       refine TrL.cons_no rfl rfl rfl (gn_t (bf_dec h38)) rfl (bl rfl) ?_
       refine TrL.cons_no rfl rfl rfl (gn_t (bf_dec h38)) rfl (bl rfl) ?_
       refine TrL.cons_no rfl rfl rfl (gn_t (bf_dec h38)) rfl (bl rfl) ?_
       refine TrL.cons_no rfl rfl rfl (gn_t (bf_dec h38)) rfl (bl rfl) ?_
       refine TrL.cons_yes rfl rfl rfl rfl (OpTr.v (v_pick_f rfl rfl (bf_dec h38) rfl) rfl (bl rfl) ?_)
       refine TrL.v (v_pick_f rfl rfl rfl rfl) rfl rfl (bl rfl) ?_
       refine TrL.nil (qcut_hit false (()) (Option.some.inj hj4).symm (Imp.re _ [] [0] (sc rfl (sc rfl (sc rfl sn))) (by decide) rfl rfl rfl))
    ·subst hd5
     refine (qthen_n ?_)
     rcases ifc H with ⟨h39, H⟩ | ⟨h39, H⟩
     ·refine Tr.cond_t rfl h39 ?_
      refine Tr.seq ?_
      refine Tr.region ?_
      refine TrL.v (v_assign rfl rfl) rfl rfl (bl rfl) ?_
      refine TrL.v (v_assign rfl rfl) rfl rfl (bl rfl) ?_
      refine TrL.v (v_assign rfl rfl) rfl rfl (bl rfl) ?_
      refine TrL.nil (qthen_n ?_)
      have hz := Option.some.inj H
      subst hz
      refine Tr.ret (qthen_r (ret_r ⟨[(2, .int .u64 0), (3, .int .i64 0), (4, .int .i64 2)], [], [], []⟩ [.int .u64 0, .int .i64 0, .int .i64 2] [] [] (Imp.re _ [] [] (sc rfl (sc rfl (sc rfl sn))) (by decide) rfl rfl rfl) rfl rfl ⟨rfl, rfl, rfl⟩ (.cons (resv_tmp rfl) (.cons (resv_tmp rfl) (.cons (resv_tmp rfl) .nil)))))
     ·refine Tr.cond_f rfl (bf_b h39) ?_
      refine Tr.skip (qthen_n ?_)
      refine Tr.seq ?_
      refine Tr.region ?_
      refine TrL.v (v_assign rfl rfl) rfl rfl (bl rfl) ?_
      refine TrL.nil (qthen_n ?_)
      refine Tr.seq ?_
      refine Tr.seq ?_
      refine Tr.region ?_
      refine TrL.v (v_move rfl rfl) rfl rfl (bl rfl) ?_
      refine TrL.v (v_assign rfl rfl) rfl rfl (bl rfl) ?_
      refine TrL.nil (qthen_n ?_)
      obtain ⟨x2, hx3, H⟩ := bnd H
      refine Tr.cutE (D := Int) (M := Unit) .normal (fun _d => x2 = _d) (fun x2 m14 => ⟨[(5, .int .i64 r2), (6, .int .u64 x2)], [], [], []⟩) ?_ (fun x2 m14 hd6 => ?_)
      ·refine Tr.block (Tr.loopI (ι := Unit) (step := ref01_Take_s0 p1) (fun s5 m12 => ⟨[(0, .slice A1 p1.length c1), (5, .int .i64 r2), (6, .int .u64 s5.1), (7, .int .i64 s5.2)], [], [slF (rInt .u8) A1 c1 p1], []⟩) (()) hx3 (Imp.re _ [] [0] (sc rfl (sc rfl (sc rfl (sc rfl sn)))) (by decide) rfl rfl rfl) (fun s5 m12 y2 hy2 hx4 => ?_))
       unfold ref01_Take_s0 at hy2
       refine Tr.seq ?_
       refine Tr.seq ?_
       refine Tr.region ?_
       refine TrL.v (v_move rfl rfl) rfl rfl (bl rfl) ?_
       refine TrL.v (v_arith rfl rfl rfl ar_geq) rfl rfl (bl rfl) ?_
       refine TrL.nil (qthen_n ?_)
       rcases ifc hy2 with ⟨h42, hy2⟩ | ⟨h42, hy2⟩
       ·refine Tr.cond_t rfl (bt_dec h42) ?_
        refine Tr.skip (qthen_n ?_)
        refine Tr.seq ?_
        refine Tr.block ?_
        refine Tr.region ?_
        refine TrL.v (v_move rfl rfl) rfl rfl (bl rfl) ?_
        refine TrL.v (v_arith rfl rfl rfl ar_mul_u64) rfl rfl (bl rfl) ?_
        refine TrL.v (v_move rfl rfl) rfl rfl (bl rfl) ?_
        refine TrL.v (v_move rfl rfl) rfl rfl (bl rfl) ?_
        obtain ⟨z12, hz12, hy2⟩ := bnd hy2
        refine TrL.v (v_indexAddr (k := 0) rfl sl40 ty5 rfl rfl rfl rfl hz12) rfl rfl (bl rfl) ?_
        refine TrL.v (v_loadg (A := A1) (i := s5.2) (j := 0) (k := 0) rfl ty5 (fun _ => rfl) rfl rfl hz12 rfl rfl) rfl rfl (bl rfl) ?_
        refine TrL.v (v_rem rfl rfl rfl (by decide)) rfl rfl (bl rfl) ?_
        refine TrL.v (v_conv' rfl ⟨_, Try.underlying5⟩ Try.underlying28 rfl wrap_u64') rfl rfl (bl rfl) ?_
        refine TrL.v (v_arith rfl rfl rfl ar_add_u64) rfl rfl (bl rfl) ?_
        refine TrL.v (v_assign rfl rfl) rfl rfl (bl rfl) ?_
        refine TrL.nil (qblock_n (qthen_n ?_))
        refine Tr.region ?_
        refine TrL.v (v_move rfl rfl) rfl rfl (bl rfl) ?_
        refine TrL.v (v_arith rfl rfl rfl ar_sub_i64) rfl rfl (bl rfl) ?_
        refine TrL.v (v_assign rfl rfl) rfl rfl (bl rfl) ?_
        have hz := Option.some.inj hy2
        subst hz
        refine TrL.nil (qloop_n (()) (Imp.re _ [] [0] (sc rfl (sc rfl (sc rfl (sc rfl sn)))) (by decide) rfl rfl rfl))
       ·refine Tr.cond_f rfl (bf_dec h42) ?_
        have hz := Option.some.inj hy2
        subst hz
        refine Tr.exit (qthen_x (qloop_x (qblock_hit (qcut_hit s5.1 (()) (hx4 _ rfl).symm (Imp.re _ [] [] (sc rfl (sc rfl sn)) (by decide) rfl rfl rfl)))))
      ·subst hd6
       refine (qthen_n ?_)
       refine Tr.seq ?_
       refine Tr.region ?_
       refine TrL.v (v_move rfl rfl) rfl rfl (bl rfl) ?_
       refine TrL.v (v_move rfl rfl) rfl rfl (bl rfl) ?_
       refine TrL.v (v_arith rfl rfl rfl ar_add_i64) rfl rfl (bl rfl) ?_
       refine TrL.v (v_assign rfl rfl) rfl rfl (bl rfl) ?_
       refine TrL.v (v_assign rfl rfl) rfl rfl (bl rfl) ?_
       refine TrL.v (v_assign rfl rfl) rfl rfl (bl rfl) ?_
       refine TrL.nil (qthen_n ?_)
       have hz := Option.some.inj H
       subst hz
       refine Tr.ret (ret_r ⟨[(2, .int .u64 x2), (3, .int .i64 (wi64 (r2 + 1))), (4, .int .i64 0)], [], [], []⟩ [.int .u64 x2, .int .i64 (wi64 (r2 + 1)), .int .i64 0] [] [] (Imp.re _ [] [] (sc rfl (sc rfl (sc rfl sn))) (by decide) rfl rfl rfl) rfl rfl ⟨rfl, rfl, rfl⟩ (.cons (resv_tmp rfl) (.cons (resv_tmp rfl) (.cons (resv_tmp rfl) .nil))))
end Go.Proofs.Ytbeknohemgjfbaa.W
