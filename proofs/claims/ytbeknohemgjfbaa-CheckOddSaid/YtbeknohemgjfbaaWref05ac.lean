/- The contracts of the walked functions: the printed walks. -/
import Derived.Test.YtbeknohemgjfbaaKc
import Derived.Test.YtbeknohemgjfbaaQc
namespace Go.Proofs.Ytbeknohemgjfbaa.W
open Go Go.Proofs Go.Proofs.Ytbeknohemgjfbaa.L Go.Proofs.Ytbeknohemgjfbaa.Pu
set_option linter.unusedVariables false
set_option maxHeartbeats 4000000

theorem c_ref05_Most (p1 : Int) (p2 : Int) (r : Int) (H : ref05_Most p1 p2 = some r) :
    Ctr Try.prog 119 [.int .i64 p1, .int .i64 p2] [] [] (fun ret M' F' => ret = .int .i64 r ∧ M' = [] ∧ F' = []) := by
  unfold ref05_Most at H
  refine ctr_ofI (N := 17) Try.func119 rfl Try.ntmps119 rfl (Nat.le_of_ble_eq_true rfl) (fun γ0 w0 => ?_)
  refine Tr.seq ?_
  refine Tr.region ?_
  refine TrL.v (v_assign rfl rfl) rfl rfl (bl rfl) ?_
  refine TrL.nil (qthen_n ?_)
  refine Tr.seq ?_
  refine Tr.region ?_
  refine TrL.v (v_move rfl rfl) rfl rfl (bl rfl) ?_
  refine TrL.v (v_max rfl rfl rfl) rfl rfl (bl rfl) ?_
  refine TrL.v (v_assign rfl rfl) rfl rfl (bl rfl) ?_
  refine TrL.nil (qthen_n ?_)
  refine Tr.seq ?_
  refine Tr.seq ?_
  refine Tr.region ?_
  refine TrL.v (v_move rfl rfl) rfl rfl (bl rfl) ?_
  refine TrL.v (v_arith rfl rfl rfl ar_eql) rfl rfl (bl rfl) ?_
  refine TrL.nil (qthen_n ?_)
  rcases ifc H with ⟨h2, H⟩ | ⟨h2, H⟩
  · refine Tr.cond_t rfl (bt_dec h2) ?_
    refine Tr.seq ?_
    refine Tr.region ?_
    refine TrL.v (v_move rfl rfl) rfl rfl (bl rfl) ?_
    refine TrL.v (v_arith rfl rfl rfl ar_add_i64) rfl rfl (bl rfl) ?_
    refine TrL.v (v_assign rfl rfl) rfl rfl (bl rfl) ?_
    refine TrL.nil (qthen_n ?_)
    have hz := Option.some.inj H
    subst hz
    refine Tr.ret (qthen_r (ret_r ⟨[(4, .int .i64 (wi64 ((max p1 0) + 1)))], [], [], []⟩ [.int .i64 (wi64 ((max p1 0) + 1))] [] [] (Imp.re _ [] [] (sc rfl sn) (by decide) rfl rfl rfl) rfl rfl ⟨rfl, rfl, rfl⟩ (.cons (resv_tmp rfl) .nil)))
  · refine Tr.cond_f rfl (bf_dec h2) ?_
    refine Tr.skip (qthen_n ?_)
    refine Tr.seq ?_
    refine Tr.region ?_
    refine TrL.v (v_move rfl rfl) rfl rfl (bl rfl) ?_
    refine TrL.v (v_quo' rfl rfl rfl (by decide) wrap_i64') rfl rfl (bl rfl) ?_
    refine TrL.v (v_move rfl rfl) rfl rfl (bl rfl) ?_
    refine TrL.v (v_rem rfl rfl rfl (by decide)) rfl rfl (bl rfl) ?_
    refine TrL.v (v_arith rfl rfl rfl ar_add_i64) rfl rfl (bl rfl) ?_
    refine TrL.v (v_arith rfl rfl rfl ar_add_i64) rfl rfl (bl rfl) ?_
    refine TrL.v (v_assign rfl rfl) rfl rfl (bl rfl) ?_
    refine TrL.nil (qthen_n ?_)
    have hz := Option.some.inj H
    subst hz
    refine Tr.ret (ret_r ⟨[(4, .int .i64 (wi64 ((wi64 ((wi64 ((max p1 0).tdiv 2)) + ((max p1 0).tmod 2))) + 1)))], [], [], []⟩ [.int .i64 (wi64 ((wi64 ((wi64 ((max p1 0).tdiv 2)) + ((max p1 0).tmod 2))) + 1))] [] [] (Imp.re _ [] [] (sc rfl sn) (by decide) rfl rfl rfl) rfl rfl ⟨rfl, rfl, rfl⟩ (.cons (resv_tmp rfl) .nil))

theorem c_ref05_Push (p1 : List (Int × Int)) (p2 : Int) (p3 : List (Int × Int)) (p4 : Int) (p5 : Int) (A1 : Option Addr) (c1 : Nat) (A2 : Option Addr) (c2 : Nat) (r : (List (Int × Int)) × (List (Int × Int)) × Int) (H : ref05_Push p1 p2 p3 p4 p5 = some r) :
    Ctr Try.prog 117 [.slice A1 p1.length c1, .int .i64 p2, .slice A2 p3.length c2, .int .u64 p4, .int .u64 p5] [] [slF rp_u64_u64 A1 c1 p1, slF rp_u64_u64 A2 c2 p3] (fun ret M' F' => ∃ m : Option Addr × Nat × Option Addr × Nat, ret = .tuple #[.slice m.1 r.1.length m.2.1, .slice m.2.2.1 r.2.1.length m.2.2.2, .int .u64 r.2.2] ∧ M' = [] ∧ F' = [slF rp_u64_u64 m.1 m.2.1 r.1, slF rp_u64_u64 m.2.2.1 m.2.2.2 r.2.1]) := by
  unfold ref05_Push at H
  refine ctr_ofI (N := 111) Try.func117 rfl Try.ntmps117 rfl (Nat.le_of_ble_eq_true rfl) (fun γ0 w0 => ?_)
  refine Tr.seq ?_
  refine Tr.region ?_
  refine TrL.v (v_assign rfl rfl) rfl rfl (bl rfl) ?_
  refine TrL.v (v_assign rfl rfl) rfl rfl (bl rfl) ?_
  refine TrL.v (v_assign rfl rfl) rfl rfl (bl rfl) ?_
  refine TrL.nil (qthen_n ?_)
  refine Tr.seq ?_
  refine Tr.region ?_
  refine TrL.v (v_move rfl rfl) rfl rfl (bl rfl) ?_
  refine TrL.v (v_max rfl rfl rfl) rfl rfl (bl rfl) ?_
  refine TrL.v (v_assign rfl rfl) rfl rfl (bl rfl) ?_
  refine TrL.nil (qthen_n ?_)
  refine Tr.seq ?_
  refine Tr.region ?_
  refine TrL.cons rfl (op_buildSlice' (rp := rp_u64_u64) (xs := []) (vs := []) (out := []) rfl (bl rfl) rfl sl31 ty30 ze30 rfl rfl (by decide) (by decide) rfl (fun γ w hF => rown) (fun A30 => ?_))
  refine TrL.v (v_move rfl rfl) rfl rfl (bl rfl) ?_
  refine TrL.full' (E := 30) (sz := 2) (A := A30) (n := 0) ?_
  obtain ⟨h35, H⟩ := rom H
  refine TrL.cons rfl (op_append' (rp := rp_u64_u64) (xs := ([] : List (Int × Int))) (ys := p1) (k := 0) (kx := 2) (ky := 0) rfl (bl rfl) rfl sl31 ty30 ze30 rfl by30 rfl rfl rfl rfl rfl rfl rfl h35.1 h35.2 (fun A31 c17 o15 => ?_))
  refine TrL.v (v_assign rfl rfl) rfl rfl (bl rfl) ?_
  refine TrL.nil (qthen_n ?_)
  refine Tr.seq ?_
  refine Tr.region ?_
  refine TrL.v (v_move rfl rfl) rfl rfl (bl rfl) ?_
  refine TrL.v (v_move rfl rfl) rfl rfl (bl rfl) ?_
  obtain ⟨h36, H⟩ := rom H
  refine TrL.cons rfl (op_append' (rp := rp_u64_u64) (xs := p1) (ys := p3) (k := 0) (kx := 3) (ky := 1) rfl (bl rfl) rfl sl31 ty30 ze30 rfl by30 rfl rfl rfl rfl rfl rfl rfl h36.1 h36.2 (fun A32 c18 o16 => ?_))
  refine TrL.v (v_assign rfl rfl) rfl rfl (bl rfl) ?_
  refine TrL.nil (qthen_n ?_)
  refine Tr.seq ?_
  refine Tr.region ?_
  refine TrL.v (v_move rfl rfl) rfl rfl (bl rfl) ?_
  refine TrL.v (v_len rfl sl31 rfl) rfl rfl (bl rfl) ?_
  refine TrL.v (v_conv' rfl ⟨_, Try.underlying3⟩ Try.underlying28 rfl wrap_u64') rfl rfl (bl rfl) ?_
  refine TrL.v (v_assign rfl rfl) rfl rfl (bl rfl) ?_
  refine TrL.nil (qthen_n ?_)
  refine Tr.seq ?_
  refine Tr.region ?_
  refine TrL.v (v_assign rfl rfl) rfl rfl (bl rfl) ?_
  refine TrL.nil (qthen_n ?_)
  refine Tr.seq ?_
  refine Tr.region ?_
  refine TrL.v (v_move rfl rfl) rfl rfl (bl rfl) ?_
  refine TrL.v (v_move rfl rfl) rfl rfl (bl rfl) ?_
  refine TrL.v (v_arith rfl rfl rfl ar_add_u64) rfl rfl (bl rfl) ?_
  refine TrL.v (v_assign rfl rfl) rfl rfl (bl rfl) ?_
  refine TrL.nil (qthen_n ?_)
  refine Tr.seq ?_
  refine Tr.seq ?_
  refine Tr.region ?_
  refine TrL.v (v_move rfl rfl) rfl rfl (bl rfl) ?_
  refine TrL.v (v_move rfl rfl) rfl rfl (bl rfl) ?_
  refine TrL.v (v_conv' rfl ⟨_, Try.underlying3⟩ Try.underlying28 rfl wrap_u64') rfl rfl (bl rfl) ?_
  refine TrL.v (v_arith rfl rfl rfl ar_gtr) rfl rfl (bl rfl) ?_
  refine TrL.nil (qthen_n ?_)
  obtain ⟨j2, hj2, H⟩ := bnd H
  refine Tr.cutE (D := Int) (M := Unit) .normal (fun _d => j2 = _d) (fun j2 m10 => ⟨[(4, .int .u64 p5), (13, .slice A32 ((p1 ++ p3).length) c18), (14, .int .u64 (wu64 (((p1 ++ p3).length : Int)))), (15, .int .u64 j2), (16, .int .u64 (wu64 ((wu64 (((p1 ++ p3).length : Int))) + p4)))], [grow 30 2 (.slice A32 ((p1 ++ p3).length) c18) ((p1 ++ p3).length) o16], [slF rp_u64_u64 A32 c18 (p1 ++ p3)], []⟩) ?_ (fun j2 m10 hd4 => ?_)
  · rcases ifc hj2 with ⟨h38, hj2⟩ | ⟨h38, hj2⟩
    · refine Tr.cond_t rfl (bt_dec h38) ?_
      refine Tr.region ?_
      refine TrL.v (v_move rfl rfl) rfl rfl (bl rfl) ?_
      refine TrL.v (v_move rfl rfl) rfl rfl (bl rfl) ?_
      refine TrL.v (v_conv' rfl ⟨_, Try.underlying3⟩ Try.underlying28 rfl wrap_u64') rfl rfl (bl rfl) ?_
      refine TrL.v (v_arith rfl rfl rfl ar_sub_u64) rfl rfl (bl rfl) ?_
      refine TrL.v (v_arith rfl rfl rfl ar_add_u64) rfl rfl (bl rfl) ?_
      refine TrL.v (v_quo' rfl rfl rfl (by decide) wrap_u64') rfl rfl (bl rfl) ?_
      refine TrL.v (v_assign rfl rfl) rfl rfl (bl rfl) ?_
      refine TrL.nil (qcut_hit (wu64 ((wu64 ((wu64 ((wu64 ((wu64 (((p1 ++ p3).length : Int))) + p4)) - (wu64 (max p2 1)))) + 1)).tdiv 2)) (()) (Option.some.inj hj2).symm (Imp.re _ [0] [4] (sc rfl (sc rfl (sc rfl (sc rfl (sc rfl sn))))) (by decide) rfl rfl rfl))
    · refine Tr.cond_f rfl (bf_dec h38) ?_
      refine Tr.skip (qcut_hit ((0 : Int)) (()) (Option.some.inj hj2).symm (Imp.re _ [0] [4] (sc rfl (sc rfl (sc rfl (sc rfl (sc rfl sn))))) (by decide) rfl rfl rfl))
  · subst hd4
    refine (qthen_n ?_)
    refine Tr.seq ?_
    refine Tr.region ?_
    refine TrL.v (v_assign rfl rfl) rfl rfl (bl rfl) ?_
    refine TrL.nil (qthen_n ?_)
    refine Tr.seq ?_
    refine Tr.region ?_
    refine TrL.v (v_assign rfl rfl) rfl rfl (bl rfl) ?_
    refine TrL.nil (qthen_n ?_)
    refine Tr.seq ?_
    obtain ⟨x3, hx5, H⟩ := bnd H
    refine Tr.cutE (D := (List (Int × Int)) × Int) (M := Option Addr × Nat × Option Nat) .normal (fun _d => x3 = _d) (fun x3 m14 => ⟨[(4, .int .u64 p5), (13, .slice A32 ((p1 ++ p3).length) c18), (14, .int .u64 (wu64 (((p1 ++ p3).length : Int)))), (15, .int .u64 j2), (16, .int .u64 (wu64 ((wu64 (((p1 ++ p3).length : Int))) + p4))), (17, .slice m14.1 x3.1.length m14.2.1), (18, .int .u64 x3.2)], [grow 30 2 (.slice A32 ((p1 ++ p3).length) c18) ((p1 ++ p3).length) o16, grow 30 2 (.slice m14.1 x3.1.length m14.2.1) x3.1.length m14.2.2], [slF rp_u64_u64 A32 c18 (p1 ++ p3), slF rp_u64_u64 m14.1 m14.2.1 x3.1], []⟩) ?_ (fun x3 m14 hd5 => ?_)
    · refine Tr.block (Tr.loopI (ι := Option Addr × Nat × Option Nat) (step := ref05_Push_s0 p1 p3 p5 j2) (fun s8 m12 => ⟨[(4, .int .u64 p5), (13, .slice A32 ((p1 ++ p3).length) c18), (14, .int .u64 (wu64 (((p1 ++ p3).length : Int)))), (15, .int .u64 j2), (16, .int .u64 (wu64 ((wu64 (((p1 ++ p3).length : Int))) + p4))), (17, .slice m12.1 s8.1.length m12.2.1), (18, .int .u64 s8.2)], [grow 30 2 (.slice A32 ((p1 ++ p3).length) c18) ((p1 ++ p3).length) o16, grow 30 2 (.slice m12.1 s8.1.length m12.2.1) s8.1.length m12.2.2], [slF rp_u64_u64 A32 c18 (p1 ++ p3), slF rp_u64_u64 m12.1 m12.2.1 s8.1], []⟩) ((none, 0, none)) hx5 (Imp.full' (E := 30) (sz := 2) (A := none) (n := 0) (Imp.addF' _ (nilF rp_u64_u64) (Imp.re _ [1, 0] [0, 1] (sc rfl (sc rfl (sc rfl (sc rfl (sc rfl (sc rfl (sc rfl sn))))))) (by decide) rfl rfl rfl))) (fun s8 m12 y3 hy3 hx6 => ?_))
      unfold ref05_Push_s0 at hy3
      refine Tr.seq ?_
      refine Tr.seq ?_
      refine Tr.region ?_
      refine TrL.v (v_move rfl rfl) rfl rfl (bl rfl) ?_
      refine TrL.v (v_move rfl rfl) rfl rfl (bl rfl) ?_
      refine TrL.v (v_arith rfl rfl rfl ar_lss) rfl rfl (bl rfl) ?_
      refine TrL.v (v_move rfl rfl) rfl rfl (bl rfl) ?_
      rcases ifc hy3 with ⟨h52, hy3⟩ | ⟨h52, hy3⟩
      · refine TrL.cons_yes rfl rfl rfl (bt_dec h52) (OpTr.v (v_move rfl rfl) rfl (bl rfl) ?_)
        refine TrL.cons_yes rfl rfl rfl (bt_dec h52) (OpTr.v (v_arith rfl rfl rfl ar_mul_u64) rfl (bl rfl) ?_)
        refine TrL.cons_yes rfl rfl rfl (bt_dec h52) (OpTr.v (v_move rfl rfl) rfl (bl rfl) ?_)
        refine TrL.cons_yes rfl rfl rfl (bt_dec h52) (OpTr.v (v_arith rfl rfl rfl ar_lss) rfl (bl rfl) ?_)
        refine TrL.v (v_pick_t rfl rfl (bt_dec h52) rfl) rfl rfl (bl rfl) ?_
        refine TrL.nil (qthen_n ?_)
        rcases ifc hy3 with ⟨h53, hy3⟩ | ⟨h53, hy3⟩
        · refine Tr.cond_t rfl (bt_dec h53) ?_
          refine Tr.skip (qthen_n ?_)
          refine Tr.block ?_
          refine Tr.seq ?_
          refine Tr.region ?_
          refine TrL.v (v_move rfl rfl) rfl rfl (bl rfl) ?_
          refine TrL.v (v_move rfl rfl) rfl rfl (bl rfl) ?_
          refine TrL.v (v_arith rfl rfl rfl ar_mul_u64) rfl rfl (bl rfl) ?_
          obtain ⟨z14, hz14, hy3⟩ := bnd hy3
          refine TrL.v (v_indexAddr (k := 0) rfl sl31 ty30 rfl rfl rfl rfl hz14) rfl rfl (bl rfl) ?_
          refine TrL.v (v_fieldAddr rfl fo30_0 rfl) rfl rfl (bl rfl) ?_
          refine TrL.v (v_loadg (A := A32) (i := (wu64 (2 * s8.2))) (j := 0) (k := 0) rfl ty28 (fun _ => rfl) rfl rfl hz14 rfl rfl) rfl rfl (bl rfl) ?_
          refine TrL.v (v_assign rfl rfl) rfl rfl (bl rfl) ?_
          refine TrL.nil (qthen_n ?_)
          refine Tr.seq ?_
          refine Tr.region ?_
          refine TrL.v (v_move rfl rfl) rfl rfl (bl rfl) ?_
          refine TrL.v (v_assign rfl rfl) rfl rfl (bl rfl) ?_
          refine TrL.nil (qthen_n ?_)
          refine Tr.seq ?_
          refine Tr.seq ?_
          refine Tr.region ?_
          refine TrL.v (v_move rfl rfl) rfl rfl (bl rfl) ?_
          refine TrL.v (v_arith rfl rfl rfl ar_mul_u64) rfl rfl (bl rfl) ?_
          refine TrL.v (v_arith rfl rfl rfl ar_add_u64) rfl rfl (bl rfl) ?_
          refine TrL.v (v_move rfl rfl) rfl rfl (bl rfl) ?_
          refine TrL.v (v_arith rfl rfl rfl ar_lss) rfl rfl (bl rfl) ?_
          refine TrL.nil (qthen_n ?_)
          rcases ifc hy3 with ⟨h54, hy3⟩ | ⟨h54, hy3⟩
          · refine Tr.cond_t rfl (bt_dec h54) ?_
            refine Tr.region ?_
            refine TrL.v (v_move rfl rfl) rfl rfl (bl rfl) ?_
            refine TrL.v (v_move rfl rfl) rfl rfl (bl rfl) ?_
            refine TrL.v (v_arith rfl rfl rfl ar_mul_u64) rfl rfl (bl rfl) ?_
            refine TrL.v (v_arith rfl rfl rfl ar_add_u64) rfl rfl (bl rfl) ?_
            obtain ⟨z15, hz15, hy3⟩ := bnd hy3
            refine TrL.v (v_indexAddr (k := 0) rfl sl31 ty30 rfl rfl rfl rfl hz15) rfl rfl (bl rfl) ?_
            refine TrL.v (v_fieldAddr rfl fo30_1 rfl) rfl rfl (bl rfl) ?_
            refine TrL.v (v_loadg (A := A32) (i := (wu64 ((wu64 (2 * s8.2)) + 1))) (j := 1) (k := 0) rfl ty28 (fun _ => rfl) rfl rfl hz15 rfl rfl) rfl rfl (bl rfl) ?_
            refine TrL.v (v_assign rfl rfl) rfl rfl (bl rfl) ?_
            refine TrL.nil (qthen_n ?_)
            refine Tr.seq ?_
            refine Tr.region ?_
            refine TrL.v (v_move rfl rfl) rfl rfl (bl rfl) ?_
            refine TrL.v (v_move rfl rfl) rfl rfl (bl rfl) ?_
            refine TrL.v (v_move rfl rfl) rfl rfl (bl rfl) ?_
            refine TrL.v (v_build (vs := [.int .u64 z14.1, .int .u64 z15.2]) (out := [.int .u64 z14.1, .int .u64 z15.2]) rfl pl30 ze30 rfl rfl) rfl rfl (bl rfl) ?_
            refine TrL.cons rfl (op_buildSlice' (rp := rp_u64_u64) (xs := [(z14.1, z15.2)]) (vs := [.agg #[.int .u64 z14.1, .int .u64 z15.2]]) (out := [.int .u64 z14.1, .int .u64 z15.2]) rfl (bl rfl) rfl sl31 ty30 ze30 rfl rfl (by decide) (by decide) rfl (fun γ w hF => (rowc rfl rown rfl)) (fun A41 => ?_))
            obtain ⟨h55, hy3⟩ := rom hy3
            refine TrL.cons rfl (op_append' (rp := rp_u64_u64) (xs := s8.1) (ys := [(z14.1, z15.2)]) (k := 1) (kx := 1) (ky := 2) rfl (bl rfl) rfl sl31 ty30 ze30 rfl by30 rfl rfl rfl rfl rfl rfl rfl h55.1 h55.2 (fun A42 c23 o21 => ?_))
            refine TrL.v (v_assign rfl rfl) rfl rfl (bl rfl) ?_
            refine TrL.nil (qthen_n ?_)
            refine Tr.region ?_
            refine TrL.v (v_move rfl rfl) rfl rfl (bl rfl) ?_
            refine TrL.v (v_arith rfl rfl rfl ar_add_u64) rfl rfl (bl rfl) ?_
            refine TrL.v (v_assign rfl rfl) rfl rfl (bl rfl) ?_
            have hz := Option.some.inj hy3
            subst hz
            refine TrL.nil (qblock_n (qloop_n ((A42, c23, o21)) (Imp.re _ [0, 1] [0, 3] (sc rfl (sc rfl (sc rfl (sc rfl (sc rfl (sc rfl (sc rfl sn))))))) (by decide) rfl rfl rfl)))
          · refine Tr.cond_f rfl (bf_dec h54) ?_
            refine Tr.skip (qthen_n ?_)
            refine Tr.seq ?_
            refine Tr.region ?_
            refine TrL.v (v_move rfl rfl) rfl rfl (bl rfl) ?_
            refine TrL.v (v_move rfl rfl) rfl rfl (bl rfl) ?_
            refine TrL.v (v_move rfl rfl) rfl rfl (bl rfl) ?_
            refine TrL.v (v_build (vs := [.int .u64 z14.1, .int .u64 p5]) (out := [.int .u64 z14.1, .int .u64 p5]) rfl pl30 ze30 rfl rfl) rfl rfl (bl rfl) ?_
            refine TrL.cons rfl (op_buildSlice' (rp := rp_u64_u64) (xs := [(z14.1, p5)]) (vs := [.agg #[.int .u64 z14.1, .int .u64 p5]]) (out := [.int .u64 z14.1, .int .u64 p5]) rfl (bl rfl) rfl sl31 ty30 ze30 rfl rfl (by decide) (by decide) rfl (fun γ w hF => (rowc rfl rown rfl)) (fun A43 => ?_))
            obtain ⟨h56, hy3⟩ := rom hy3
            refine TrL.cons rfl (op_append' (rp := rp_u64_u64) (xs := s8.1) (ys := [(z14.1, p5)]) (k := 1) (kx := 1) (ky := 2) rfl (bl rfl) rfl sl31 ty30 ze30 rfl by30 rfl rfl rfl rfl rfl rfl rfl h56.1 h56.2 (fun A44 c24 o22 => ?_))
            refine TrL.v (v_assign rfl rfl) rfl rfl (bl rfl) ?_
            refine TrL.nil (qthen_n ?_)
            refine Tr.region ?_
            refine TrL.v (v_move rfl rfl) rfl rfl (bl rfl) ?_
            refine TrL.v (v_arith rfl rfl rfl ar_add_u64) rfl rfl (bl rfl) ?_
            refine TrL.v (v_assign rfl rfl) rfl rfl (bl rfl) ?_
            have hz := Option.some.inj hy3
            subst hz
            refine TrL.nil (qblock_n (qloop_n ((A44, c24, o22)) (Imp.re _ [0, 1] [0, 3] (sc rfl (sc rfl (sc rfl (sc rfl (sc rfl (sc rfl (sc rfl sn))))))) (by decide) rfl rfl rfl)))
        · refine Tr.cond_f rfl (bf_dec h53) ?_
          have hz := Option.some.inj hy3
          subst hz
          refine Tr.exit (qthen_x (qloop_x (qblock_hit (qcut_hit ((s8.1, s8.2)) ((m12.1, m12.2.1, m12.2.2)) (hx6 _ rfl).symm (Imp.re _ [0, 1] [0, 1] (sc rfl (sc rfl (sc rfl (sc rfl (sc rfl (sc rfl (sc rfl sn))))))) (by decide) rfl rfl rfl)))))
      · refine TrL.cons_no rfl rfl rfl (gn_t (bf_dec h52)) rfl (bl rfl) ?_
        refine TrL.cons_no rfl rfl rfl (gn_t (bf_dec h52)) rfl (bl rfl) ?_
        refine TrL.cons_no rfl rfl rfl (gn_t (bf_dec h52)) rfl (bl rfl) ?_
        refine TrL.cons_no rfl rfl rfl (gn_t (bf_dec h52)) rfl (bl rfl) ?_
        refine TrL.v (v_pick_f rfl rfl (bf_dec h52) rfl) rfl rfl (bl rfl) ?_
        refine TrL.nil (qthen_n ?_)
        refine Tr.cond_f rfl rfl ?_
        have hz := Option.some.inj hy3
        subst hz
        refine Tr.exit (qthen_x (qloop_x (qblock_hit (qcut_hit ((s8.1, s8.2)) ((m12.1, m12.2.1, m12.2.2)) (hx6 _ rfl).symm (Imp.re _ [0, 1] [0, 1] (sc rfl (sc rfl (sc rfl (sc rfl (sc rfl (sc rfl (sc rfl sn))))))) (by decide) rfl rfl rfl)))))
    · subst hd5
      refine (qthen_n ?_)
      refine Tr.seq ?_
      refine Tr.region ?_
      refine TrL.v (v_assign rfl rfl) rfl rfl (bl rfl) ?_
      refine TrL.nil (qthen_n ?_)
      refine Tr.seq ?_
      refine Tr.seq ?_
      refine Tr.region ?_
      refine TrL.v (v_move rfl rfl) rfl rfl (bl rfl) ?_
      refine TrL.v (v_arith rfl rfl rfl ar_mul_u64) rfl rfl (bl rfl) ?_
      refine TrL.v (v_assign rfl rfl) rfl rfl (bl rfl) ?_
      refine TrL.nil (qthen_n ?_)
      obtain ⟨x4, hx7, H⟩ := bnd H
      refine Tr.cutE (D := List (Int × Int)) (M := Option Addr × Nat × Option Nat) .normal (fun _d => x4 = _d) (fun x4 m18 => ⟨[(15, .int .u64 j2), (17, .slice m14.1 x3.1.length m14.2.1), (18, .int .u64 x3.2), (21, .slice m18.1 x4.length m18.2.1)], [grow 30 2 (.slice m14.1 x3.1.length m14.2.1) x3.1.length m14.2.2, grow 30 2 (.slice m18.1 x4.length m18.2.1) x4.length m18.2.2], [slF rp_u64_u64 m14.1 m14.2.1 x3.1, slF rp_u64_u64 m18.1 m18.2.1 x4], []⟩) ?_ (fun x4 m18 hd6 => ?_)
      · refine Tr.block (Tr.loopI (ι := Option Addr × Nat × Option Nat) (step := ref05_Push_s1 p1 p3 p4 p5) (fun s11 m16 => ⟨[(4, .int .u64 p5), (13, .slice A32 ((p1 ++ p3).length) c18), (14, .int .u64 (wu64 (((p1 ++ p3).length : Int)))), (15, .int .u64 j2), (16, .int .u64 (wu64 ((wu64 (((p1 ++ p3).length : Int))) + p4))), (17, .slice m14.1 x3.1.length m14.2.1), (18, .int .u64 x3.2), (21, .slice m16.1 s11.1.length m16.2.1), (22, .int .u64 s11.2)], [grow 30 2 (.slice A32 ((p1 ++ p3).length) c18) ((p1 ++ p3).length) o16, grow 30 2 (.slice m14.1 x3.1.length m14.2.1) x3.1.length m14.2.2, grow 30 2 (.slice m16.1 s11.1.length m16.2.1) s11.1.length m16.2.2], [slF rp_u64_u64 A32 c18 (p1 ++ p3), slF rp_u64_u64 m14.1 m14.2.1 x3.1, slF rp_u64_u64 m16.1 m16.2.1 s11.1], []⟩) ((none, 0, none)) hx7 (Imp.full' (E := 30) (sz := 2) (A := none) (n := 0) (Imp.addF' _ (nilF rp_u64_u64) (Imp.re _ [1, 2, 0] [0, 1, 2] (sc rfl (sc rfl (sc rfl (sc rfl (sc rfl (sc rfl (sc rfl (sc rfl (sc rfl sn))))))))) (by decide) rfl rfl rfl))) (fun s11 m16 y4 hy4 hx8 => ?_))
        unfold ref05_Push_s1 at hy4
        refine Tr.seq ?_
        refine Tr.seq ?_
        refine Tr.region ?_
        refine TrL.v (v_move rfl rfl) rfl rfl (bl rfl) ?_
        refine TrL.v (v_move rfl rfl) rfl rfl (bl rfl) ?_
        refine TrL.v (v_arith rfl rfl rfl ar_lss) rfl rfl (bl rfl) ?_
        refine TrL.nil (qthen_n ?_)
        rcases ifc hy4 with ⟨h65, hy4⟩ | ⟨h65, hy4⟩
        · refine Tr.cond_t rfl (bt_dec h65) ?_
          refine Tr.skip (qthen_n ?_)
          refine Tr.seq ?_
          refine Tr.block ?_
          refine Tr.seq ?_
          refine Tr.region ?_
          refine TrL.v (v_move rfl rfl) rfl rfl (bl rfl) ?_
          refine TrL.v (v_move rfl rfl) rfl rfl (bl rfl) ?_
          refine TrL.v (v_arith rfl rfl rfl ar_lss) rfl rfl (bl rfl) ?_
          refine TrL.nil (qthen_n ?_)
          rcases ifc hy4 with ⟨h66, hy4⟩ | ⟨h66, hy4⟩
          · refine Tr.cond_t rfl (bt_dec h66) ?_
            refine Tr.region ?_
            refine TrL.v (v_move rfl rfl) rfl rfl (bl rfl) ?_
            refine TrL.v (v_move rfl rfl) rfl rfl (bl rfl) ?_
            refine TrL.v (v_move rfl rfl) rfl rfl (bl rfl) ?_
            obtain ⟨z18, hz18, hy4⟩ := bnd hy4
            refine TrL.v (v_indexAddr (k := 0) rfl sl31 ty30 rfl rfl rfl rfl hz18) rfl rfl (bl rfl) ?_
            refine TrL.v (v_loadg (A := A32) (i := s11.2) (j := 0) (k := 0) rfl ty30 nofun rfl rfl hz18 rfl rfl) rfl rfl (bl rfl) ?_
            refine TrL.cons rfl (op_buildSlice' (rp := rp_u64_u64) (xs := [z18]) (vs := [.agg #[.int .u64 z18.1, .int .u64 z18.2]]) (out := [.int .u64 z18.1, .int .u64 z18.2]) rfl (bl rfl) rfl sl31 ty30 ze30 rfl rfl (by decide) (by decide) rfl (fun γ w hF => (rowc rfl rown rfl)) (fun A53 => ?_))
            obtain ⟨h67, hy4⟩ := rom hy4
            refine TrL.cons rfl (op_append' (rp := rp_u64_u64) (xs := s11.1) (ys := [z18]) (k := 2) (kx := 2) (ky := 3) rfl (bl rfl) rfl sl31 ty30 ze30 rfl by30 rfl rfl rfl rfl rfl rfl rfl h67.1 h67.2 (fun A54 c29 o27 => ?_))
            refine TrL.v (v_assign rfl rfl) rfl rfl (bl rfl) ?_
            refine TrL.nil (qblock_n (qthen_n ?_))
            refine Tr.region ?_
            refine TrL.v (v_move rfl rfl) rfl rfl (bl rfl) ?_
            refine TrL.v (v_arith rfl rfl rfl ar_add_u64) rfl rfl (bl rfl) ?_
            refine TrL.v (v_assign rfl rfl) rfl rfl (bl rfl) ?_
            have hz := Option.some.inj hy4
            subst hz
            refine TrL.nil (qloop_n ((A54, c29, o27)) (Imp.re _ [0, 1, 2] [0, 1, 4] (sc rfl (sc rfl (sc rfl (sc rfl (sc rfl (sc rfl (sc rfl (sc rfl (sc rfl sn))))))))) (by decide) rfl rfl rfl))
          · refine Tr.cond_f rfl (bf_dec h66) ?_
            refine Tr.region ?_
            refine TrL.v (v_move rfl rfl) rfl rfl (bl rfl) ?_
            refine TrL.v (v_move rfl rfl) rfl rfl (bl rfl) ?_
            refine TrL.v (v_move rfl rfl) rfl rfl (bl rfl) ?_
            refine TrL.v (v_build (vs := [.int .u64 p5, .int .u64 p5]) (out := [.int .u64 p5, .int .u64 p5]) rfl pl30 ze30 rfl rfl) rfl rfl (bl rfl) ?_
            refine TrL.cons rfl (op_buildSlice' (rp := rp_u64_u64) (xs := [(p5, p5)]) (vs := [.agg #[.int .u64 p5, .int .u64 p5]]) (out := [.int .u64 p5, .int .u64 p5]) rfl (bl rfl) rfl sl31 ty30 ze30 rfl rfl (by decide) (by decide) rfl (fun γ w hF => (rowc rfl rown rfl)) (fun A55 => ?_))
            obtain ⟨h68, hy4⟩ := rom hy4
            refine TrL.cons rfl (op_append' (rp := rp_u64_u64) (xs := s11.1) (ys := [(p5, p5)]) (k := 2) (kx := 2) (ky := 3) rfl (bl rfl) rfl sl31 ty30 ze30 rfl by30 rfl rfl rfl rfl rfl rfl rfl h68.1 h68.2 (fun A56 c30 o28 => ?_))
            refine TrL.v (v_assign rfl rfl) rfl rfl (bl rfl) ?_
            refine TrL.nil (qblock_n (qthen_n ?_))
            refine Tr.region ?_
            refine TrL.v (v_move rfl rfl) rfl rfl (bl rfl) ?_
            refine TrL.v (v_arith rfl rfl rfl ar_add_u64) rfl rfl (bl rfl) ?_
            refine TrL.v (v_assign rfl rfl) rfl rfl (bl rfl) ?_
            have hz := Option.some.inj hy4
            subst hz
            refine TrL.nil (qloop_n ((A56, c30, o28)) (Imp.re _ [0, 1, 2] [0, 1, 4] (sc rfl (sc rfl (sc rfl (sc rfl (sc rfl (sc rfl (sc rfl (sc rfl (sc rfl sn))))))))) (by decide) rfl rfl rfl))
        · refine Tr.cond_f rfl (bf_dec h65) ?_
          have hz := Option.some.inj hy4
          subst hz
          refine Tr.exit (qthen_x (qloop_x (qblock_hit (qcut_hit s11.1 ((m16.1, m16.2.1, m16.2.2)) (hx8 _ rfl).symm (Imp.re _ [1, 2] [1, 2] (sc rfl (sc rfl (sc rfl (sc rfl sn)))) (by decide) rfl rfl rfl)))))
      · subst hd6
        refine (qthen_n ?_)
        refine Tr.seq ?_
        refine Tr.region ?_
        refine TrL.v (v_move rfl rfl) rfl rfl (bl rfl) ?_
        refine TrL.v (v_move rfl rfl) rfl rfl (bl rfl) ?_
        refine TrL.v (v_move rfl rfl) rfl rfl (bl rfl) ?_
        refine TrL.v (v_move rfl rfl) rfl rfl (bl rfl) ?_
        refine TrL.v (v_arith rfl rfl rfl ar_sub_u64) rfl rfl (bl rfl) ?_
        refine TrL.v (v_assign rfl rfl) rfl rfl (bl rfl) ?_
        refine TrL.v (v_assign rfl rfl) rfl rfl (bl rfl) ?_
        refine TrL.v (v_assign rfl rfl) rfl rfl (bl rfl) ?_
        refine TrL.nil (qthen_n ?_)
        have hz := Option.some.inj H
        subst hz
        refine Tr.ret (ret_r ⟨[(10, .slice m18.1 x4.length m18.2.1), (11, .slice m14.1 x3.1.length m14.2.1), (12, .int .u64 (wu64 (j2 - x3.2)))], [], [slF rp_u64_u64 m18.1 m18.2.1 x4, slF rp_u64_u64 m14.1 m14.2.1 x3.1], []⟩ [.slice m18.1 x4.length m18.2.1, .slice m14.1 x3.1.length m14.2.1, .int .u64 (wu64 (j2 - x3.2))] [] [] (Imp.re _ [] [1, 0] (sc rfl (sc rfl (sc rfl sn))) (by decide) rfl rfl rfl) rfl rfl ⟨((m18.1, m18.2.1, m14.1, m14.2.1)), rfl, rfl, rfl⟩ (.cons (resv_tmp rfl) (.cons (resv_tmp rfl) (.cons (resv_tmp rfl) .nil))))

theorem c_ref05_Least (p1 : Int) (p2 : Int) (r : Int) (H : ref05_Least p1 p2 = some r) :
    Ctr Try.prog 136 [.int .i64 p1, .int .i64 p2] [] [] (fun ret M' F' => ret = .int .i64 r ∧ M' = [] ∧ F' = []) := by
  unfold ref05_Least at H
  refine ctr_ofI (N := 9) Try.func136 rfl Try.ntmps136 rfl (Nat.le_of_ble_eq_true rfl) (fun γ0 w0 => ?_)
  refine Tr.seq ?_
  refine Tr.region ?_
  refine TrL.v (v_assign rfl rfl) rfl rfl (bl rfl) ?_
  refine TrL.nil (qthen_n ?_)
  refine Tr.seq ?_
  refine Tr.region ?_
  refine TrL.v (v_move rfl rfl) rfl rfl (bl rfl) ?_
  refine TrL.v (v_move rfl rfl) rfl rfl (bl rfl) ?_
  obtain ⟨r2, hr2, H⟩ := bnd H
  refine TrL.cons rfl (op_call0' (vs := [.int .i64 p1, .int .i64 p2]) (cap := []) [] rfl rfl (bl rfl) rfl rfl en119 (c_ref05_Most p1 p2 r2 hr2) rfl (fun ret M' F' hR2 => ?_))
  obtain ⟨rfl, rfl, rfl⟩ := hR2
  refine TrL.v (v_arith rfl rfl rfl ar_sub_i64) rfl rfl (bl rfl) ?_
  refine TrL.v (v_assign rfl rfl) rfl rfl (bl rfl) ?_
  refine TrL.nil (qthen_n ?_)
  have hz := Option.some.inj H
  subst hz
  refine Tr.ret (ret_r ⟨[(4, .int .i64 (wi64 (r2 - 1)))], [], [], []⟩ [.int .i64 (wi64 (r2 - 1))] [] [] (Imp.re _ [] [] (sc rfl sn) (by decide) rfl rfl rfl) rfl rfl ⟨rfl, rfl, rfl⟩ (.cons (resv_tmp rfl) .nil))

theorem c_ref05_Same (p1 : List (Int × Int)) (p2 : List (Int × Int)) (A1 : Option Addr) (c1 : Nat) (A2 : Option Addr) (c2 : Nat) (r : Bool) (H : ref05_Same p1 p2 = some r) :
    Ctr Try.prog 134 [.slice A1 p1.length c1, .slice A2 p2.length c2] [] [slF rp_u64_u64 A1 c1 p1, slF rp_u64_u64 A2 c2 p2] (fun ret M' F' => ret = .bool r ∧ M' = [] ∧ F' = []) := by
  unfold ref05_Same at H
  refine ctr_ofI (N := 26) Try.func134 rfl Try.ntmps134 rfl (Nat.le_of_ble_eq_true rfl) (fun γ0 w0 => ?_)
  refine Tr.seq ?_
  refine Tr.region ?_
  refine TrL.v (v_assign rfl rfl) rfl rfl (bl rfl) ?_
  refine TrL.nil (qthen_n ?_)
  refine Tr.seq ?_
  refine Tr.seq ?_
  refine Tr.region ?_
  refine TrL.v (v_move rfl rfl) rfl rfl (bl rfl) ?_
  refine TrL.v (v_len rfl sl31 rfl) rfl rfl (bl rfl) ?_
  refine TrL.v (v_move rfl rfl) rfl rfl (bl rfl) ?_
  refine TrL.v (v_len rfl sl31 rfl) rfl rfl (bl rfl) ?_
  refine TrL.v (v_arith rfl rfl rfl ar_neq) rfl rfl (bl rfl) ?_
  refine TrL.nil (qthen_n ?_)
  rcases ifc H with ⟨h8, H⟩ | ⟨h8, H⟩
  · refine Tr.cond_t rfl (bt_dec h8) ?_
    refine Tr.seq ?_
    refine Tr.region ?_
    refine TrL.v (v_assign rfl rfl) rfl rfl (bl rfl) ?_
    refine TrL.nil (qthen_n ?_)
    have hz := Option.some.inj H
    subst hz
    refine Tr.ret (qthen_r (ret_r ⟨[(4, .bool false)], [], [], []⟩ [.bool false] [] [] (Imp.re _ [] [] (sc rfl sn) (by decide) rfl rfl rfl) rfl rfl ⟨rfl, rfl, rfl⟩ (.cons (resv_tmp rfl) .nil)))
  · refine Tr.cond_f rfl (bf_dec h8) ?_
    refine Tr.skip (qthen_n ?_)
    refine Tr.seq ?_
    refine Tr.seq ?_
    refine Tr.region ?_
    refine TrL.v (v_assign rfl rfl) rfl rfl (bl rfl) ?_
    refine TrL.nil (qthen_n ?_)
    obtain ⟨x2, hx3, H⟩ := bnd H
    refine Tr.cutE (D := Unit) (M := Unit) .ret (fun d3 => x2 = .inl d3) (fun d3 m9 => ⟨[(4, .bool false)], [], [], []⟩) ?_ (fun d3 m9 hd3 => ?_)
    · refine Tr.cutE (D := Unit) (M := Unit) .normal (fun d4 => x2 = .inr d4) (fun d4 m10 => ⟨[], [], [], []⟩) ?_ (fun d4 m10 hd4 => ?_)
      · refine Tr.block (Tr.loopI (ι := Unit) (step := ref05_Same_s0 p1 p2) (fun s5 m7 => ⟨[(0, .slice A1 p1.length c1), (1, .slice A2 p2.length c2), (5, .int .i64 s5)], [], [slF rp_u64_u64 A1 c1 p1, slF rp_u64_u64 A2 c2 p2], []⟩) (()) hx3 (Imp.re _ [] [0, 1] (sc rfl (sc rfl (sc rfl sn))) (by decide) rfl rfl rfl) (fun s5 m7 y2 hy2 hx4 => ?_))
        unfold ref05_Same_s0 at hy2
        refine Tr.seq ?_
        refine Tr.seq ?_
        refine Tr.region ?_
        refine TrL.v (v_move rfl rfl) rfl rfl (bl rfl) ?_
        refine TrL.v (v_move rfl rfl) rfl rfl (bl rfl) ?_
        refine TrL.v (v_len rfl sl31 rfl) rfl rfl (bl rfl) ?_
        refine TrL.v (v_arith rfl rfl rfl ar_lss) rfl rfl (bl rfl) ?_
        refine TrL.nil (qthen_n ?_)
        rcases ifc hy2 with ⟨h13, hy2⟩ | ⟨h13, hy2⟩
        · refine Tr.cond_t rfl (bt_dec h13) ?_
          refine Tr.skip (qthen_n ?_)
          refine Tr.seq ?_
          refine Tr.block ?_
          refine Tr.seq ?_
          refine Tr.regionD drawn (fun hok => ?_)
          refine TrAny.prom (i := 0) (d := 17) hok (OpVal.plain rfl rfl (v_move rfl rfl)) (by kernel_rfl) rfl (bl rfl) ?_
          clear hok
          intro hok
          refine TrAny.prom (i := 1) (d := 18) hok (OpVal.plain rfl rfl (v_move rfl rfl)) (by kernel_rfl) rfl (bl rfl) ?_
          clear hok
          intro hok
          obtain ⟨z23, hz23, hy2⟩ := bnd hy2
          refine TrAny.prom (i := 2) (d := 19) hok (OpVal.plain rfl rfl (v_indexAddr (k := 0) rfl sl31 ty30 rfl rfl rfl rfl hz23)) (by kernel_rfl) rfl (bl rfl) ?_
          clear hok
          intro hok
          refine TrAny.prom (i := 3) (d := 20) hok (OpVal.plain rfl rfl (v_loadg (A := A1) (i := s5) (j := 0) (k := 0) rfl ty30 nofun rfl rfl hz23 rfl rfl)) (by kernel_rfl) rfl (bl rfl) ?_
          clear hok
          intro hok
          refine TrAny.prom (i := 4) (d := 21) hok (OpVal.plain rfl rfl (v_move rfl rfl)) (by kernel_rfl) rfl (bl rfl) ?_
          clear hok
          intro hok
          refine TrAny.prom (i := 5) (d := 22) hok (OpVal.plain rfl rfl (v_move rfl rfl)) (by kernel_rfl) rfl (bl rfl) ?_
          clear hok
          intro hok
          obtain ⟨z24, hz24, hy2⟩ := bnd hy2
          refine TrAny.prom (i := 6) (d := 23) hok (OpVal.plain rfl rfl (v_indexAddr (k := 1) rfl sl31 ty30 rfl rfl rfl rfl hz24)) (by kernel_rfl) rfl (bl rfl) ?_
          clear hok
          intro hok
          refine TrAny.prom (i := 7) (d := 24) hok (OpVal.plain rfl rfl (v_loadg (A := A2) (i := s5) (j := 0) (k := 1) rfl ty30 nofun rfl rfl hz24 rfl rfl)) (by kernel_rfl) rfl (bl rfl) ?_
          clear hok
          intro hok
          refine TrAny.prom (i := 8) (d := 25) hok (OpVal.plain rfl rfl (v_nes rfl if30 eg30 rfl rfl (eqc_cons rfl rfl (eqc_cons rfl rfl eqc_nil)))) (by kernel_rfl) rfl (bl rfl) ?_
          clear hok
          intro hok
          refine TrAny.done (by kernel_rfl) (by kernel_rfl) hok (by kernel_rfl) (qthen_n ?_)
          rcases ifc hy2 with ⟨h14, hy2⟩ | ⟨h14, hy2⟩
          · refine Tr.cond_t rfl (bt_dec h14) ?_
            refine Tr.seq ?_
            refine Tr.region ?_
            refine TrL.v (v_assign rfl rfl) rfl rfl (bl rfl) ?_
            refine TrL.nil (qthen_n ?_)
            have hz := Option.some.inj hy2
            subst hz
            refine Tr.ret (qblock_r (qthen_r (qloop_r (qblock_r (qcut_miss (by simp) (qcut_hit (()) (()) (hx4 _ rfl).symm (Imp.re _ [] [] (sc rfl sn) (by decide) rfl rfl rfl)))))))
          · refine Tr.cond_f rfl (bf_dec h14) ?_
            refine Tr.skip (qblock_n (qthen_n ?_))
            refine Tr.region ?_
            refine TrL.v (v_move rfl rfl) rfl rfl (bl rfl) ?_
            refine TrL.v (v_arith rfl rfl rfl ar_add_i64) rfl rfl (bl rfl) ?_
            refine TrL.v (v_assign rfl rfl) rfl rfl (bl rfl) ?_
            have hz := Option.some.inj hy2
            subst hz
            refine TrL.nil (qloop_n (()) (Imp.re _ [] [0, 1] (sc rfl (sc rfl (sc rfl sn))) (by decide) rfl rfl rfl))
        · refine Tr.cond_f rfl (bf_dec h13) ?_
          have hz := Option.some.inj hy2
          subst hz
          refine Tr.exit (qthen_x (qloop_x (qblock_hit (qcut_hit (()) (()) (hx4 _ rfl).symm (Imp.re _ [] [] sn (by decide) rfl rfl rfl)))))
      · subst hd4
        replace H := sumr H
        refine (qcut_miss (by simp) (qthen_n ?_))
        refine Tr.seq ?_
        refine Tr.region ?_
        refine TrL.v (v_assign rfl rfl) rfl rfl (bl rfl) ?_
        refine TrL.nil (qthen_n ?_)
        have hz := Option.some.inj H
        subst hz
        refine Tr.ret (ret_r ⟨[(4, .bool true)], [], [], []⟩ [.bool true] [] [] (Imp.re _ [] [] (sc rfl sn) (by decide) rfl rfl rfl) rfl rfl ⟨rfl, rfl, rfl⟩ (.cons (resv_tmp rfl) .nil))
    · subst hd3
      replace H := suml H
      have hz := Option.some.inj H
      subst hz
      refine (qthen_r (ret_r ⟨[(4, .bool false)], [], [], []⟩ [.bool false] [] [] (Imp.re _ [] [] (sc rfl sn) (by decide) rfl rfl rfl) rfl rfl ⟨rfl, rfl, rfl⟩ (.cons (resv_tmp rfl) .nil)))
end Go.Proofs.Ytbeknohemgjfbaa.W
