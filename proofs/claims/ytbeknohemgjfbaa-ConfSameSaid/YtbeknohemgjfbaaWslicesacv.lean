import Derived.Test.YtbeknohemgjfbaaKcv
import Derived.Test.YtbeknohemgjfbaaQcv
namespace Go.Proofs.Ytbeknohemgjfbaa.W
open Go Go.Proofs Go.Proofs.Ytbeknohemgjfbaa.L Go.Proofs.Ytbeknohemgjfbaa.Pu
set_option linter.unusedVariables false
set_option maxHeartbeats 4000000

theorem c_slices_Grow_byte (p1 : Int) (r : List Int) (H : slices_Grow_byte p1 = some r) :
  Ctr Try.prog 125 [.slice none 0 0, .int .i64 p1] [] [] (fun ret M' F' => ∃ m : Option Addr × Nat × Option Nat, ret = .slice m.1 r.length m.2.1 ∧ M' = [grow 5 1 (.slice m.1 r.length m.2.1) r.length m.2.2] ∧ F' = [slF (rInt .u8) m.1 m.2.1 r]) := by
 unfold slices_Grow_byte at H
 refine ctr_ofI (N := 27) Try.func125 rfl Try.ntmps125 rfl (Nat.le_of_ble_eq_true rfl) (fun γ0 w0 => ?_)
 refine Tr.seq ?_
 refine Tr.region ?_
 refine TrL.v (v_assign rfl rfl) rfl rfl (bl rfl) ?_
 refine TrL.nil (qthen_n ?_)
 refine Tr.seq ?_
 refine Tr.seq ?_
 refine Tr.region ?_
 refine TrL.v (v_move rfl rfl) rfl rfl (bl rfl) ?_
 refine TrL.v (v_arith rfl rfl rfl ar_lss) rfl rfl (bl rfl) ?_
 refine TrL.nil (qthen_n ?_)
 obtain ⟨j2, hj2, H⟩ := bnd H
 refine Tr.cutE (D := Unit) (M := Unit) .normal (fun _d => j2 = _d) (fun j2 m2 => ⟨[(0, .slice none 0 0), (1, .int .i64 p1)], [], [slF (rInt .u8) none 0 (([] : List Int))], []⟩) ?_ (fun j2 m2 hd2 => ?_)
 ·rcases ifc hj2 with ⟨h8, hj2⟩ | ⟨h8, hj2⟩
  ·refine Tr.cond_t rfl (bt_dec h8) ?_
   refine Tr.region ?_
   cases hj2
  ·refine Tr.cond_f rfl (bf_dec h8) ?_
   refine Tr.skip (qcut_hit (()) (()) (Option.some.inj hj2).symm (Imp.addF' _ (nilF (rInt .u8)) (Imp.re _ [] [0] (sc rfl (sc rfl sn)) (by decide) rfl rfl rfl)))
 ·subst hd2
  refine (qthen_n ?_)
  refine Tr.seq ?_
  refine Tr.seq ?_
  refine Tr.region ?_
  refine TrL.v (v_move rfl rfl) rfl rfl (bl rfl) ?_
  refine TrL.v (v_move rfl rfl) rfl rfl (bl rfl) ?_
  refine TrL.v (v_cap rfl sl40 rfl) rfl rfl (bl rfl) ?_
  refine TrL.v (v_move rfl rfl) rfl rfl (bl rfl) ?_
  refine TrL.v (v_len rfl sl40 rfl) rfl rfl (bl rfl) ?_
  refine TrL.v (v_arith (v := .int .i64 0) rfl rfl rfl rfl) rfl rfl (bl rfl) ?_
  refine TrL.v (v_arith rfl rfl rfl ar_sub_i64) rfl rfl (bl rfl) ?_
  refine TrL.v (v_assign rfl rfl) rfl rfl (bl rfl) ?_
  refine TrL.nil (qthen_n ?_)
  refine Tr.seq ?_
  refine Tr.region ?_
  refine TrL.v (v_move rfl rfl) rfl rfl (bl rfl) ?_
  refine TrL.v (v_arith rfl rfl rfl ar_gtr) rfl rfl (bl rfl) ?_
  refine TrL.nil (qthen_n ?_)
  rcases ifc H with ⟨h9, H⟩ | ⟨h9, H⟩
  ·refine Tr.cond_t rfl (bt_dec h9) ?_
   refine Tr.region ?_
   refine TrL.v (v_move rfl rfl) rfl rfl (bl rfl) ?_
   refine TrL.v (v_move rfl rfl) rfl rfl (bl rfl) ?_
   refine TrL.v (v_cap rfl sl40 rfl) rfl rfl (bl rfl) ?_
   obtain ⟨h10, H⟩ := mst H
   refine TrL.v (slx2_v (rp := (rInt .u8)) (xs := ([] : List Int)) (k := 0) rfl sl40 ty5 rfl rfl rfl h10 rfl) rfl rfl (bl rfl) ?_
   refine TrL.v (v_move rfl rfl) rfl rfl (bl rfl) ?_
   obtain ⟨h11, H⟩ := rom H
   refine TrL.cons rfl (op_appendZ (rp := (rInt .u8)) (z := ((0 : Int) : Int)) (m := (wi64 (p1 - 0)).toNat) rfl (bl rfl) rfl sl40 Try.underlying3 ty5 ze5 rfl (by decide) by5 rfl rfl h9 rfl h11 (fun _ _ => rfl) (fun A2 c2 => ?_))
   refine TrL.v (v_move rfl rfl) rfl rfl (bl rfl) ?_
   refine TrL.v (v_len rfl sl40 rfl) rfl rfl (bl rfl) ?_
   obtain ⟨h12, H⟩ := mst H
   refine TrL.cons rfl (op_cutAS (k := 0) (n' := 0) rfl (bl rfl) rfl sl40 ty5 rfl rfl rfl h12 rfl ?_)
   refine TrL.v (v_assign rfl rfl) rfl rfl (bl rfl) ?_
   refine TrL.nil (qthen_n ?_)
   refine Tr.seq ?_
   refine Tr.region ?_
   refine TrL.v (v_move rfl rfl) rfl rfl (bl rfl) ?_
   refine TrL.v (v_assign rfl rfl) rfl rfl (bl rfl) ?_
   refine TrL.nil (qthen_n ?_)
   refine Tr.renormF (fun nn => ⟨[(0, .slice A2 nn c2), (1, .int .i64 (wi64 (p1 - 0))), (4, .slice A2 nn c2), (8, .int .i64 p1), (9, .slice none 0 0), (10, .int .i64 0), (11, .slice none 0 0), (12, .int .i64 0), (13, .int .i64 0), (14, .int .i64 (wi64 (p1 - 0))), (15, .int .i64 (wi64 (p1 - 0))), (16, .bool (decide (0 < (wi64 (p1 - 0))))), (17, .slice none 0 0), (18, .slice none 0 0), (19, .int .i64 0), (20, .slice none 0 0), (21, .int .i64 (wi64 (p1 - 0))), (23, .slice none 0 0), (24, .int .i64 0), (25, .slice A2 nn c2), (26, .slice A2 nn c2)], [arr (rInt .u8) 5 A2 nn c2 ((List.replicate ((wi64 (p1 - 0)).toNat) ((0 : Int) : Int)).take 0)], [slF (rInt .u8) none 0 (([] : List Int))], []⟩) 0 (Imp.re _ [0] [0] (sc rfl (sc rfl (sc rfl (sc rfl (sc rfl (sc rfl (sc rfl (sc rfl (sc rfl (sc rfl (sc rfl (sc rfl (sc rfl (sc rfl (sc rfl (sc rfl (sc rfl (sc rfl (sc rfl (sc rfl (sc rfl sn))))))))))))))))))))) (by decide) rfl rfl rfl) rfl ?_
   refine Tr.shutG' 0 rfl ?_
   have hz := Option.some.inj H
   subst hz
   refine Tr.ret (ret_r ⟨[(4, .slice A2 (((List.replicate ((wi64 (p1 - 0)).toNat) ((0 : Int) : Int)).take 0).length) c2)], [grow 5 1 (.slice A2 (((List.replicate ((wi64 (p1 - 0)).toNat) ((0 : Int) : Int)).take 0).length) c2) (((List.replicate ((wi64 (p1 - 0)).toNat) ((0 : Int) : Int)).take 0).length) (A2.map (·.block))], [slF (rInt .u8) A2 c2 ((List.replicate ((wi64 (p1 - 0)).toNat) ((0 : Int) : Int)).take 0)], []⟩ [.slice A2 (((List.replicate ((wi64 (p1 - 0)).toNat) ((0 : Int) : Int)).take 0).length) c2] [grow 5 1 (.slice A2 (((List.replicate ((wi64 (p1 - 0)).toNat) ((0 : Int) : Int)).take 0).length) c2) (((List.replicate ((wi64 (p1 - 0)).toNat) ((0 : Int) : Int)).take 0).length) (A2.map (·.block))] [] (Imp.re _ [0] [1] (sc rfl sn) (by decide) rfl rfl rfl) rfl rfl ⟨((A2, c2, A2.map (·.block))), rfl, rfl, rfl⟩ (.cons (resv_tmp rfl) .nil))
  ·refine Tr.cond_f rfl (bf_dec h9) ?_
   refine Tr.skip (qthen_n ?_)
   refine Tr.seq ?_
   refine Tr.region ?_
   refine TrL.v (v_move rfl rfl) rfl rfl (bl rfl) ?_
   refine TrL.v (v_assign rfl rfl) rfl rfl (bl rfl) ?_
   refine TrL.nil (qthen_n ?_)
   have hz := Option.some.inj H
   subst hz
   refine Tr.ret (ret_r ⟨[(4, .slice none 0 0)], [grow 5 1 (.slice none 0 0) 0 none], [slF (rInt .u8) none 0 (([] : List Int))], []⟩ [.slice none 0 0] [grow 5 1 (.slice none 0 0) 0 none] [] (Imp.full' (E := 5) (sz := 1) (A := none) (n := 0) (Imp.re _ [0] [0] (sc rfl sn) (by decide) rfl rfl rfl)) rfl rfl ⟨((none, 0, none)), rfl, rfl, rfl⟩ (.cons (resv_tmp rfl) .nil))

theorem c_slices_Concat_byte (p1 : List (List Int)) (A1 : Option Addr) (c1 : Nat) (r : List Int) (H : slices_Concat_byte p1 = some r) :
  Ctr Try.prog 64 [.slice A1 p1.length c1] [] [slF (rSl (rInt .u8)) A1 c1 p1] (fun ret M' F' => ∃ m : Option Addr × Nat × Option Nat, ret = .slice m.1 r.length m.2.1 ∧ M' = [grow 5 1 (.slice m.1 r.length m.2.1) r.length m.2.2] ∧ F' = [slF (rInt .u8) m.1 m.2.1 r]) := by
 unfold slices_Concat_byte at H
 refine ctr_ofI (N := 36) Try.func64 rfl Try.ntmps64 rfl (Nat.le_of_ble_eq_true rfl) (fun γ0 w0 => ?_)
 refine Tr.seq ?_
 refine Tr.region ?_
 refine TrL.v (v_assign rfl rfl) rfl rfl (bl rfl) ?_
 refine TrL.nil (qthen_n ?_)
 refine Tr.seq ?_
 refine Tr.region ?_
 refine TrL.v (v_assign rfl rfl) rfl rfl (bl rfl) ?_
 refine TrL.nil (qthen_n ?_)
 refine Tr.seq ?_
 refine Tr.seq ?_
 refine Tr.region ?_
 refine TrL.v (v_move rfl rfl) rfl rfl (bl rfl) ?_
 refine TrL.v (v_len rfl sl202 rfl) rfl rfl (bl rfl) ?_
 refine TrL.v (v_move rfl rfl) rfl rfl (bl rfl) ?_
 refine TrL.nil (qthen_n ?_)
 obtain ⟨x3, hx5, H⟩ := bnd H
 refine Tr.cutE (D := Int) (M := Unit) .normal (fun _d => x3 = _d) (fun x3 m13 => ⟨[(0, .slice A1 p1.length c1), (3, .int .i64 x3)], [], [slF (rSl (rInt .u8)) A1 c1 p1], []⟩) ?_ (fun x3 m13 hd3 => ?_)
 ·refine Tr.block (Tr.loopI (ι := Unit) (step := slices_Concat_byte_s0 p1) (fun s8 m11 => ⟨[(0, .slice A1 p1.length c1), (3, .int .i64 s8.1), (9, .slice A1 p1.length c1), (10, .int .i64 ((p1.length : Int))), (11, .int .i64 s8.2)], [], [slF (rSl (rInt .u8)) A1 c1 p1], []⟩) (()) hx5 (Imp.re _ [] [0] (sc rfl (sc rfl (sc rfl (sc rfl (sc rfl sn))))) (by decide) rfl rfl rfl) (fun s8 m11 y3 hy3 hx6 => ?_))
  unfold slices_Concat_byte_s0 at hy3
  refine Tr.seq ?_
  refine Tr.region ?_
  refine TrL.v (v_arith rfl rfl rfl ar_lss) rfl rfl (bl rfl) ?_
  refine TrL.nil (qthen_n ?_)
  refine Tr.seq ?_
  rcases ifc hy3 with ⟨h17, hy3⟩ | ⟨h17, hy3⟩
  ·refine Tr.cond_t rfl (bt_dec h17) ?_
   refine Tr.skip (qthen_n ?_)
   refine Tr.seq ?_
   refine Tr.block ?_
   refine Tr.seq ?_
   refine Tr.region ?_
   obtain ⟨z9, hz9, hy3⟩ := bnd hy3
   refine TrL.v (v_indexAddr (k := 0) rfl sl202 ty40 rfl rfl rfl rfl hz9) rfl rfl (bl rfl) ?_
   refine TrL.openS' (k := 0) rfl hz9 (fun A13 c13 => ?_)
   refine TrL.v (v_loadF (k := 2) rfl ty40 rfl rfl) rfl rfl (bl rfl) ?_
   refine TrL.v (v_assign rfl rfl) rfl rfl (bl rfl) ?_
   refine TrL.nil (qthen_n ?_)
   refine Tr.seq ?_
   refine Tr.region ?_
   refine TrL.v (v_move rfl rfl) rfl rfl (bl rfl) ?_
   refine TrL.v (v_move rfl rfl) rfl rfl (bl rfl) ?_
   refine TrL.v (v_len rfl sl40 rfl) rfl rfl (bl rfl) ?_
   refine TrL.v (v_arith rfl rfl rfl ar_add_i64) rfl rfl (bl rfl) ?_
   refine TrL.v (v_assign rfl rfl) rfl rfl (bl rfl) ?_
   refine TrL.nil (qthen_n ?_)
   refine Tr.seq ?_
   refine Tr.region ?_
   refine TrL.v (v_move rfl rfl) rfl rfl (bl rfl) ?_
   refine TrL.v (v_arith rfl rfl rfl ar_lss) rfl rfl (bl rfl) ?_
   refine TrL.nil (qthen_n ?_)
   rcases ifc hy3 with ⟨h18, hy3⟩ | ⟨h18, hy3⟩
   ·refine Tr.cond_t rfl (bt_dec h18) ?_
    refine Tr.region ?_
    cases hy3
   ·refine Tr.cond_f rfl (bf_dec h18) ?_
    refine Tr.skip (qblock_n (qthen_n ?_))
    refine Tr.region ?_
    refine TrL.v (v_arith rfl rfl rfl ar_add_i64) rfl rfl (bl rfl) ?_
    refine TrL.v (v_move rfl rfl) rfl rfl (bl rfl) ?_
    have hz := Option.some.inj hy3
    subst hz
    refine TrL.nil (qloop_n (()) (Imp.re _ [] [0] (sc rfl (sc rfl (sc rfl (sc rfl (sc rfl sn))))) (by decide) rfl rfl rfl))
  ·refine Tr.cond_f rfl (bf_dec h17) ?_
   have hz := Option.some.inj hy3
   subst hz
   refine Tr.exit (qthen_x (qloop_x (qblock_hit (qcut_hit s8.1 (()) (hx6 _ rfl).symm (Imp.re _ [] [0] (sc rfl (sc rfl sn)) (by decide) rfl rfl rfl)))))
 ·subst hd3
  refine (qthen_n ?_)
  refine Tr.seq ?_
  refine Tr.region ?_
  refine TrL.v (v_move rfl rfl) rfl rfl (bl rfl) ?_
  refine TrL.addF' (slF (rInt .u8) none 0 []) (nilF (rInt .u8)) ?_
  obtain ⟨r2, hr2, H⟩ := bnd H
  refine TrL.cons rfl (op_call0' (vs := [.slice none 0 0, .int .i64 x3]) (cap := []) [] rfl rfl (bl rfl) rfl rfl en125 (c_slices_Grow_byte x3 r2 hr2) rfl (fun ret M' F' hR2 => ?_))
  obtain ⟨m14, rfl, rfl, rfl⟩ := hR2
  refine TrL.v (v_assign rfl rfl) rfl rfl (bl rfl) ?_
  refine TrL.nil (qthen_n ?_)
  refine Tr.seq ?_
  refine Tr.seq ?_
  refine Tr.region ?_
  refine TrL.v (v_move rfl rfl) rfl rfl (bl rfl) ?_
  refine TrL.v (v_len rfl sl202 rfl) rfl rfl (bl rfl) ?_
  refine TrL.v (v_move rfl rfl) rfl rfl (bl rfl) ?_
  refine TrL.nil (qthen_n ?_)
  obtain ⟨x4, hx7, H⟩ := bnd H
  refine Tr.cutE (D := List Int) (M := Option Addr × Nat × Option Nat) .normal (fun _d => x4 = _d) (fun x4 m18 => ⟨[(6, .slice m18.1 x4.length m18.2.1)], [grow 5 1 (.slice m18.1 x4.length m18.2.1) x4.length m18.2.2], [slF (rInt .u8) m18.1 m18.2.1 x4], []⟩) ?_ (fun x4 m18 hd4 => ?_)
  ·refine Tr.block (Tr.loopI (ι := Option Addr × Nat × Option Nat) (step := slices_Concat_byte_s1 p1) (fun s11 m16 => ⟨[(6, .slice m16.1 s11.1.length m16.2.1), (25, .slice A1 p1.length c1), (26, .int .i64 ((p1.length : Int))), (27, .int .i64 s11.2)], [grow 5 1 (.slice m16.1 s11.1.length m16.2.1) s11.1.length m16.2.2], [slF (rInt .u8) m16.1 m16.2.1 s11.1, slF (rSl (rInt .u8)) A1 c1 p1], []⟩) ((m14.1, m14.2.1, m14.2.2)) hx7 (Imp.re _ [0] [2, 0] (sc rfl (sc rfl (sc rfl (sc rfl sn)))) (by decide) rfl rfl rfl) (fun s11 m16 y4 hy4 hx8 => ?_))
   unfold slices_Concat_byte_s1 at hy4
   refine Tr.seq ?_
   refine Tr.region ?_
   refine TrL.v (v_arith rfl rfl rfl ar_lss) rfl rfl (bl rfl) ?_
   refine TrL.nil (qthen_n ?_)
   refine Tr.seq ?_
   rcases ifc hy4 with ⟨h23, hy4⟩ | ⟨h23, hy4⟩
   ·refine Tr.cond_t rfl (bt_dec h23) ?_
    refine Tr.skip (qthen_n ?_)
    refine Tr.seq ?_
    refine Tr.block ?_
    refine Tr.seq ?_
    refine Tr.region ?_
    obtain ⟨z12, hz12, hy4⟩ := bnd hy4
    refine TrL.v (v_indexAddr (k := 1) rfl sl202 ty40 rfl rfl rfl rfl hz12) rfl rfl (bl rfl) ?_
    refine TrL.openS' (k := 1) rfl hz12 (fun A18 c18 => ?_)
    refine TrL.v (v_loadF (k := 3) rfl ty40 rfl rfl) rfl rfl (bl rfl) ?_
    refine TrL.v (v_assign rfl rfl) rfl rfl (bl rfl) ?_
    refine TrL.nil (qthen_n ?_)
    refine Tr.region ?_
    refine TrL.v (v_move rfl rfl) rfl rfl (bl rfl) ?_
    refine TrL.v (v_move rfl rfl) rfl rfl (bl rfl) ?_
    obtain ⟨h24, hy4⟩ := rom hy4
    refine TrL.cons rfl (op_append' (rp := (rInt .u8)) (xs := s11.1) (ys := z12) (k := 0) (kx := 0) (ky := 2) rfl (bl rfl) rfl sl40 ty5 ze5 rfl by5 rfl rfl rfl rfl rfl rfl rfl h24.1 h24.2 (fun A19 c19 o6 => ?_))
    refine TrL.v (v_assign rfl rfl) rfl rfl (bl rfl) ?_
    refine TrL.nil (qblock_n (qthen_n ?_))
    refine Tr.region ?_
    refine TrL.v (v_arith rfl rfl rfl ar_add_i64) rfl rfl (bl rfl) ?_
    refine TrL.v (v_move rfl rfl) rfl rfl (bl rfl) ?_
    have hz := Option.some.inj hy4
    subst hz
    refine TrL.nil (qloop_n ((A19, c19, o6)) (Imp.re _ [0] [4, 1] (sc rfl (sc rfl (sc rfl (sc rfl sn)))) (by decide) rfl rfl rfl))
   ·refine Tr.cond_f rfl (bf_dec h23) ?_
    have hz := Option.some.inj hy4
    subst hz
    refine Tr.exit (qthen_x (qloop_x (qblock_hit (qcut_hit s11.1 ((m16.1, m16.2.1, m16.2.2)) (hx8 _ rfl).symm (Imp.re _ [0] [0] (sc rfl sn) (by decide) rfl rfl rfl)))))
  ·subst hd4
   refine (qthen_n ?_)
   refine Tr.seq ?_
   refine Tr.region ?_
   refine TrL.v (v_move rfl rfl) rfl rfl (bl rfl) ?_
   refine TrL.v (v_assign rfl rfl) rfl rfl (bl rfl) ?_
   refine TrL.nil (qthen_n ?_)
   have hz := Option.some.inj H
   subst hz
   refine Tr.ret (ret_r ⟨[(2, .slice m18.1 x4.length m18.2.1)], [grow 5 1 (.slice m18.1 x4.length m18.2.1) x4.length m18.2.2], [slF (rInt .u8) m18.1 m18.2.1 x4], []⟩ [.slice m18.1 x4.length m18.2.1] [grow 5 1 (.slice m18.1 x4.length m18.2.1) x4.length m18.2.2] [] (Imp.re _ [0] [0] (sc rfl sn) (by decide) rfl rfl rfl) rfl rfl ⟨((m18.1, m18.2.1, m18.2.2)), rfl, rfl, rfl⟩ (.cons (resv_tmp rfl) .nil))

end Go.Proofs.Ytbeknohemgjfbaa.W
