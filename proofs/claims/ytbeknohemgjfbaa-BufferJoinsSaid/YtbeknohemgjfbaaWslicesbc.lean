/- The contracts of the walked functions: the printed walks. -/
import Derived.Test.YtbeknohemgjfbaaKc
import Derived.Test.YtbeknohemgjfbaaQc
import Derived.Test.YtbeknohemgjfbaaWbufferac
namespace Go.Proofs.Ytbeknohemgjfbaa.W
open Go Go.Proofs Go.Proofs.Ytbeknohemgjfbaa.L Go.Proofs.Ytbeknohemgjfbaa.Pu
set_option linter.unusedVariables false
set_option maxHeartbeats 4000000

theorem c_slices_IndexFunc_Event (p1 : List (Int × Int × Int)) (p2 : Int) (A1 : Option Addr) (c1 : Nat) (b1 : Nat) (r : Int) (H : slices_IndexFunc_Event p1 p2 = some r) :
    Ctr Try.prog 146 [.slice A1 p1.length c1, .func (.func 147) #[] #[.pointer (some ⟨b1, 0, none⟩)]] [cells b1 [.int .u64 p2] 28] [slF rp_u64_u64_u64 A1 c1 p1] (fun ret M' F' => ret = .int .i64 r ∧ M' = [cells b1 [.int .u64 p2] 28] ∧ F' = []) := by
  unfold slices_IndexFunc_Event at H
  refine ctr_ofI (N := 19) Try.func146 rfl Try.ntmps146 rfl (Nat.le_of_ble_eq_true rfl) (fun γ0 w0 => ?_)
  refine Tr.seq ?_
  refine Tr.region ?_
  refine TrL.v (v_assign rfl rfl) rfl rfl (bl rfl) ?_
  refine TrL.nil (qthen_n ?_)
  refine Tr.seq ?_
  refine Tr.seq ?_
  refine Tr.region ?_
  refine TrL.v (v_move rfl rfl) rfl rfl (bl rfl) ?_
  refine TrL.v (v_len rfl sl71 rfl) rfl rfl (bl rfl) ?_
  refine TrL.v (v_move rfl rfl) rfl rfl (bl rfl) ?_
  refine TrL.nil (qthen_n ?_)
  obtain ⟨x2, hx3, H⟩ := bnd H
  refine Tr.cutE (D := Int) (M := Unit) .ret (fun d3 => x2 = .inl d3) (fun d3 m14 => ⟨[(1, .func (.func 147) #[] #[.pointer (some ⟨b1, 0, none⟩)]), (4, .int .i64 d3)], [cells b1 [.int .u64 p2] 28], [], []⟩) ?_ (fun d3 m14 hd3 => ?_)
  · refine Tr.cutE (D := Unit) (M := Unit) .normal (fun d4 => x2 = .inr d4) (fun d4 m15 => ⟨[(1, .func (.func 147) #[] #[.pointer (some ⟨b1, 0, none⟩)])], [cells b1 [.int .u64 p2] 28], [], []⟩) ?_ (fun d4 m15 hd4 => ?_)
    · refine Tr.block (Tr.loopI (ι := Unit) (step := slices_IndexFunc_Event_s0 p1 p2) (fun s5 m11 => ⟨[(0, .slice A1 p1.length c1), (1, .func (.func 147) #[] #[.pointer (some ⟨b1, 0, none⟩)]), (7, .int .i64 ((p1.length : Int))), (8, .int .i64 s5)], [cells b1 [.int .u64 p2] 28], [slF rp_u64_u64_u64 A1 c1 p1], []⟩) (()) hx3 (Imp.re _ [0] [0] (sc rfl (sc rfl (sc rfl (sc rfl sn)))) (by decide) rfl rfl rfl) (fun s5 m11 y2 hy2 hx4 => ?_))
      unfold slices_IndexFunc_Event_s0 at hy2
      refine Tr.seq ?_
      refine Tr.region ?_
      refine TrL.v (v_arith rfl rfl rfl ar_lss) rfl rfl (bl rfl) ?_
      refine TrL.nil (qthen_n ?_)
      refine Tr.seq ?_
      rcases ifc hy2 with ⟨h11, hy2⟩ | ⟨h11, hy2⟩
      · refine Tr.cond_t rfl (bt_dec h11) ?_
        refine Tr.skip (qthen_n ?_)
        refine Tr.seq ?_
        refine Tr.block ?_
        refine Tr.seq ?_
        refine Tr.region ?_
        refine TrL.v (v_move rfl rfl) rfl rfl (bl rfl) ?_
        refine TrL.v (v_assign rfl rfl) rfl rfl (bl rfl) ?_
        refine TrL.nil (qthen_n ?_)
        refine Tr.seq ?_
        refine Tr.region ?_
        refine TrL.v (v_move rfl rfl) rfl rfl (bl rfl) ?_
        refine TrL.v (v_move rfl rfl) rfl rfl (bl rfl) ?_
        refine TrL.v (v_move rfl rfl) rfl rfl (bl rfl) ?_
        obtain ⟨z6, hz6, hy2⟩ := bnd hy2
        refine TrL.v (v_indexAddr (k := 0) rfl sl71 ty85 rfl rfl rfl rfl hz6) rfl rfl (bl rfl) ?_
        refine TrL.v (v_loadg (A := A1) (i := s5) (j := 0) (k := 0) rfl ty85 nofun rfl rfl hz6 rfl rfl) rfl rfl (bl rfl) ?_
        obtain ⟨r6, hr6, hy2⟩ := bnd hy2
        refine TrL.cons rfl (op_callg' (fs := []) (vs := [.agg #[.int .u64 z6.1, .int .u64 z6.2.1, .int .u64 z6.2.2]]) (cap := [.pointer (some ⟨b1, 0, none⟩)]) (Mr := []) [0] [] [] rfl rfl rfl en147 (c_buffer_Buf_below_1 z6 p2 b1 r6 hr6) (by decide) rfl rfl rfl (bl rfl) (fun ret M' F' hR6 => ?_))
        obtain ⟨rfl, rfl, rfl⟩ := hR6
        refine TrL.nil (qthen_n ?_)
        rcases ifc hy2 with ⟨h12, hy2⟩ | ⟨h12, hy2⟩
        · refine Tr.cond_t rfl (bt_dec h12) ?_
          refine Tr.seq ?_
          refine Tr.region ?_
          refine TrL.v (v_move rfl rfl) rfl rfl (bl rfl) ?_
          refine TrL.v (v_assign rfl rfl) rfl rfl (bl rfl) ?_
          refine TrL.nil (qthen_n ?_)
          have hz := Option.some.inj hy2
          subst hz
          refine Tr.ret (qblock_r (qthen_r (qloop_r (qblock_r (qcut_miss (by simp) (qcut_hit s5 (()) (hx4 _ rfl).symm (Imp.re _ [0] [] (sc rfl (sc rfl sn)) (by decide) rfl rfl rfl)))))))
        · refine Tr.cond_f rfl (bf_dec h12) ?_
          refine Tr.skip (qblock_n (qthen_n ?_))
          refine Tr.region ?_
          refine TrL.v (v_arith rfl rfl rfl ar_add_i64) rfl rfl (bl rfl) ?_
          refine TrL.v (v_move rfl rfl) rfl rfl (bl rfl) ?_
          have hz := Option.some.inj hy2
          subst hz
          refine TrL.nil (qloop_n (()) (Imp.re _ [0] [0] (sc rfl (sc rfl (sc rfl (sc rfl sn)))) (by decide) rfl rfl rfl))
      · refine Tr.cond_f rfl (bf_dec h11) ?_
        have hz := Option.some.inj hy2
        subst hz
        refine Tr.exit (qthen_x (qloop_x (qblock_hit (qcut_hit (()) (()) (hx4 _ rfl).symm (Imp.re _ [0] [] (sc rfl sn) (by decide) rfl rfl rfl)))))
    · subst hd4
      replace H := sumr H
      refine (qcut_miss (by simp) (qthen_n ?_))
      refine Tr.seq ?_
      refine Tr.region ?_
      refine TrL.v (v_assign rfl rfl) rfl rfl (bl rfl) ?_
      refine TrL.nil (qthen_n ?_)
      have hz := Option.some.inj H
      subst hz
      refine Tr.ret (ret_r ⟨[(4, .int .i64 (-1))], [cells b1 [.int .u64 p2] 28], [], []⟩ [.int .i64 (-1)] [cells b1 [.int .u64 p2] 28] [] (Imp.re _ [0] [] (sc rfl sn) (by decide) rfl rfl rfl) rfl rfl ⟨rfl, rfl, rfl⟩ (.cons (resv_tmp rfl) .nil))
  · subst hd3
    replace H := suml H
    have hz := Option.some.inj H
    subst hz
    refine (qthen_r (ret_r ⟨[(4, .int .i64 d3)], [cells b1 [.int .u64 p2] 28], [], []⟩ [.int .i64 d3] [cells b1 [.int .u64 p2] 28] [] (Imp.re _ [0] [] (sc rfl sn) (by decide) rfl rfl rfl) rfl rfl ⟨rfl, rfl, rfl⟩ (.cons (resv_tmp rfl) .nil)))

theorem c_slices_Max_uint64 (p1 : List Int) (A1 : Option Addr) (c1 : Nat) (r : Int) (H : slices_Max_uint64 p1 = some r) :
    Ctr Try.prog 142 [.slice A1 p1.length c1] [] [slF (rInt .u64) A1 c1 p1] (fun ret M' F' => ret = .int .u64 r ∧ M' = [] ∧ F' = []) := by
  unfold slices_Max_uint64 at H
  refine ctr_ofI (N := 25) Try.func142 rfl Try.ntmps142 rfl (Nat.le_of_ble_eq_true rfl) (fun γ0 w0 => ?_)
  refine Tr.seq ?_
  refine Tr.region ?_
  refine TrL.v (v_assign rfl rfl) rfl rfl (bl rfl) ?_
  refine TrL.nil (qthen_n ?_)
  refine Tr.seq ?_
  refine Tr.seq ?_
  refine Tr.region ?_
  refine TrL.v (v_move rfl rfl) rfl rfl (bl rfl) ?_
  refine TrL.v (v_len rfl sl182 rfl) rfl rfl (bl rfl) ?_
  refine TrL.v (v_arith rfl rfl rfl ar_lss) rfl rfl (bl rfl) ?_
  refine TrL.nil (qthen_n ?_)
  obtain ⟨j2, hj2, H⟩ := bnd H
  refine Tr.cutE (D := Unit) (M := Unit) .normal (fun _d => j2 = _d) (fun j2 m6 => ⟨[(0, .slice A1 p1.length c1)], [], [slF (rInt .u64) A1 c1 p1], []⟩) ?_ (fun j2 m6 hd3 => ?_)
  · rcases ifc hj2 with ⟨h7, hj2⟩ | ⟨h7, hj2⟩
    · refine Tr.cond_t rfl (bt_dec h7) ?_
      refine Tr.region ?_
      cases hj2
    · refine Tr.cond_f rfl (bf_dec h7) ?_
      refine Tr.skip (qcut_hit (()) (()) (Option.some.inj hj2).symm (Imp.re _ [] [0] (sc rfl sn) (by decide) rfl rfl rfl))
  · subst hd3
    refine (qthen_n ?_)
    refine Tr.seq ?_
    refine Tr.region ?_
    refine TrL.v (v_move rfl rfl) rfl rfl (bl rfl) ?_
    obtain ⟨z5, hz5, H⟩ := bnd H
    refine TrL.v (v_indexAddr (k := 0) rfl sl182 ty28 rfl rfl rfl rfl hz5) rfl rfl (bl rfl) ?_
    refine TrL.v (v_loadg (A := A1) (i := 0) (j := 0) (k := 0) rfl ty28 (fun _ => rfl) rfl rfl hz5 rfl rfl) rfl rfl (bl rfl) ?_
    refine TrL.v (v_assign rfl rfl) rfl rfl (bl rfl) ?_
    refine TrL.nil (qthen_n ?_)
    refine Tr.seq ?_
    refine Tr.seq ?_
    refine Tr.region ?_
    refine TrL.v (v_assign rfl rfl) rfl rfl (bl rfl) ?_
    refine TrL.nil (qthen_n ?_)
    obtain ⟨x2, hx3, H⟩ := bnd H
    refine Tr.cutE (D := Int) (M := Unit) .normal (fun _d => x2 = _d) (fun x2 m10 => ⟨[(3, .int .u64 x2)], [], [], []⟩) ?_ (fun x2 m10 hd4 => ?_)
    · refine Tr.block (Tr.loopI (ι := Unit) (step := slices_Max_uint64_s0 p1) (fun s5 m8 => ⟨[(0, .slice A1 p1.length c1), (3, .int .u64 s5.1), (4, .int .i64 s5.2)], [], [slF (rInt .u64) A1 c1 p1], []⟩) (()) hx3 (Imp.re _ [] [0] (sc rfl (sc rfl (sc rfl sn))) (by decide) rfl rfl rfl) (fun s5 m8 y2 hy2 hx4 => ?_))
      unfold slices_Max_uint64_s0 at hy2
      refine Tr.seq ?_
      refine Tr.seq ?_
      refine Tr.region ?_
      refine TrL.v (v_move rfl rfl) rfl rfl (bl rfl) ?_
      refine TrL.v (v_move rfl rfl) rfl rfl (bl rfl) ?_
      refine TrL.v (v_len rfl sl182 rfl) rfl rfl (bl rfl) ?_
      refine TrL.v (v_arith rfl rfl rfl ar_lss) rfl rfl (bl rfl) ?_
      refine TrL.nil (qthen_n ?_)
      rcases ifc hy2 with ⟨h10, hy2⟩ | ⟨h10, hy2⟩
      · refine Tr.cond_t rfl (bt_dec h10) ?_
        refine Tr.skip (qthen_n ?_)
        refine Tr.seq ?_
        refine Tr.block ?_
        refine Tr.region ?_
        refine TrL.v (v_move rfl rfl) rfl rfl (bl rfl) ?_
        refine TrL.v (v_move rfl rfl) rfl rfl (bl rfl) ?_
        refine TrL.v (v_move rfl rfl) rfl rfl (bl rfl) ?_
        obtain ⟨z8, hz8, hy2⟩ := bnd hy2
        refine TrL.v (v_indexAddr (k := 0) rfl sl182 ty28 rfl rfl rfl rfl hz8) rfl rfl (bl rfl) ?_
        refine TrL.v (v_loadg (A := A1) (i := s5.2) (j := 0) (k := 0) rfl ty28 (fun _ => rfl) rfl rfl hz8 rfl rfl) rfl rfl (bl rfl) ?_
        refine TrL.v (v_max rfl rfl rfl) rfl rfl (bl rfl) ?_
        refine TrL.v (v_assign rfl rfl) rfl rfl (bl rfl) ?_
        refine TrL.nil (qblock_n (qthen_n ?_))
        refine Tr.region ?_
        refine TrL.v (v_move rfl rfl) rfl rfl (bl rfl) ?_
        refine TrL.v (v_arith rfl rfl rfl ar_add_i64) rfl rfl (bl rfl) ?_
        refine TrL.v (v_assign rfl rfl) rfl rfl (bl rfl) ?_
        have hz := Option.some.inj hy2
        subst hz
        refine TrL.nil (qloop_n (()) (Imp.re _ [] [0] (sc rfl (sc rfl (sc rfl sn))) (by decide) rfl rfl rfl))
      · refine Tr.cond_f rfl (bf_dec h10) ?_
        have hz := Option.some.inj hy2
        subst hz
        refine Tr.exit (qthen_x (qloop_x (qblock_hit (qcut_hit s5.1 (()) (hx4 _ rfl).symm (Imp.re _ [] [] (sc rfl sn) (by decide) rfl rfl rfl)))))
    · subst hd4
      refine (qthen_n ?_)
      refine Tr.seq ?_
      refine Tr.region ?_
      refine TrL.v (v_move rfl rfl) rfl rfl (bl rfl) ?_
      refine TrL.v (v_assign rfl rfl) rfl rfl (bl rfl) ?_
      refine TrL.nil (qthen_n ?_)
      have hz := Option.some.inj H
      subst hz
      refine Tr.ret (ret_r ⟨[(2, .int .u64 x2)], [], [], []⟩ [.int .u64 x2] [] [] (Imp.re _ [] [] (sc rfl sn) (by decide) rfl rfl rfl) rfl rfl ⟨rfl, rfl, rfl⟩ (.cons (resv_tmp rfl) .nil))

theorem c_slices_Grow_Event (p1 : Int) (r : List (Int × Int × Int)) (H : slices_Grow_Event p1 = some r) :
    Ctr Try.prog 143 [.slice none 0 0, .int .i64 p1] [] [] (fun ret M' F' => ∃ m : Option Addr × Nat, ret = .slice m.1 r.length m.2 ∧ M' = [arr rp_u64_u64_u64 85 m.1 r.length m.2 r] ∧ F' = []) := by
  unfold slices_Grow_Event at H
  refine ctr_ofI (N := 27) Try.func143 rfl Try.ntmps143 rfl (Nat.le_of_ble_eq_true rfl) (fun γ0 w0 => ?_)
  refine Tr.seq ?_
  refine Tr.region ?_
  refine TrL.v (v_assign rfl rfl) rfl rfl (bl rfl) ?_
  refine TrL.nil (qthen_n ?_)
  refine Tr.seq ?_
  refine Tr.seq ?_
  refine Tr.region ?_
  refine TrL.v (v_move rfl rfl) rfl rfl (bl rfl) ?_
  refine TrL.v (v_arith rfl rfl rfl ar_lss) rfl rfl (bl rfl) ?_
  refine TrL.nil (qthen_n ?_)
  obtain ⟨j2, hj2, H⟩ := bnd H
  refine Tr.cutE (D := Unit) (M := Unit) .normal (fun _d => j2 = _d) (fun j2 m2 => ⟨[(0, .slice none 0 0), (1, .int .i64 p1)], [], [slF rp_u64_u64_u64 none 0 (([] : List (Int × Int × Int)))], []⟩) ?_ (fun j2 m2 hd2 => ?_)
  · rcases ifc hj2 with ⟨h8, hj2⟩ | ⟨h8, hj2⟩
    · refine Tr.cond_t rfl (bt_dec h8) ?_
      refine Tr.region ?_
      cases hj2
    · refine Tr.cond_f rfl (bf_dec h8) ?_
      refine Tr.skip (qcut_hit (()) (()) (Option.some.inj hj2).symm (Imp.addF' _ (nilF rp_u64_u64_u64) (Imp.re _ [] [0] (sc rfl (sc rfl sn)) (by decide) rfl rfl rfl)))
  · subst hd2
    refine (qthen_n ?_)
    refine Tr.seq ?_
    refine Tr.seq ?_
    refine Tr.region ?_
    refine TrL.v (v_move rfl rfl) rfl rfl (bl rfl) ?_
    refine TrL.v (v_move rfl rfl) rfl rfl (bl rfl) ?_
    refine TrL.v (v_cap rfl sl71 rfl) rfl rfl (bl rfl) ?_
    refine TrL.v (v_move rfl rfl) rfl rfl (bl rfl) ?_
    refine TrL.v (v_len rfl sl71 rfl) rfl rfl (bl rfl) ?_
    refine TrL.v (v_arith (v := .int .i64 0) rfl rfl rfl rfl) rfl rfl (bl rfl) ?_
    refine TrL.v (v_arith rfl rfl rfl ar_sub_i64) rfl rfl (bl rfl) ?_
    refine TrL.v (v_assign rfl rfl) rfl rfl (bl rfl) ?_
    refine TrL.nil (qthen_n ?_)
    refine Tr.seq ?_
    refine Tr.region ?_
    refine TrL.v (v_move rfl rfl) rfl rfl (bl rfl) ?_
    refine TrL.v (v_arith rfl rfl rfl ar_gtr) rfl rfl (bl rfl) ?_
    refine TrL.nil (qthen_n ?_)
    rcases ifc H with ⟨h9, H⟩ | ⟨h9, H⟩
    · refine Tr.cond_t rfl (bt_dec h9) ?_
      refine Tr.region ?_
      refine TrL.v (v_move rfl rfl) rfl rfl (bl rfl) ?_
      refine TrL.v (v_move rfl rfl) rfl rfl (bl rfl) ?_
      refine TrL.v (v_cap rfl sl71 rfl) rfl rfl (bl rfl) ?_
      obtain ⟨h10, H⟩ := mst H
      refine TrL.v (slx2_v (rp := rp_u64_u64_u64) (xs := ([] : List (Int × Int × Int))) (k := 0) rfl sl71 ty85 rfl rfl rfl h10 rfl) rfl rfl (bl rfl) ?_
      refine TrL.v (v_move rfl rfl) rfl rfl (bl rfl) ?_
      obtain ⟨h11, H⟩ := rom H
      refine TrL.cons rfl (op_appendZ (rp := rp_u64_u64_u64) (z := (((0 : Int), (0 : Int), (0 : Int)) : Int × Int × Int)) (m := (wi64 (p1 - 0)).toNat) rfl (bl rfl) rfl sl71 Try.underlying3 ty85 ze85 rfl (by decide) by85 rfl rfl h9 rfl h11 (fun _ _ => rfl) (fun A2 c2 => ?_))
      refine TrL.v (v_move rfl rfl) rfl rfl (bl rfl) ?_
      refine TrL.v (v_len rfl sl71 rfl) rfl rfl (bl rfl) ?_
      obtain ⟨h12, H⟩ := mst H
      refine TrL.cons rfl (op_cutAS (k := 0) (n' := 0) rfl (bl rfl) rfl sl71 ty85 rfl rfl rfl h12 rfl ?_)
      refine TrL.v (v_assign rfl rfl) rfl rfl (bl rfl) ?_
      refine TrL.nil (qthen_n ?_)
      refine Tr.seq ?_
      refine Tr.region ?_
      refine TrL.v (v_move rfl rfl) rfl rfl (bl rfl) ?_
      refine TrL.v (v_assign rfl rfl) rfl rfl (bl rfl) ?_
      refine TrL.nil (qthen_n ?_)
      refine Tr.renormF (fun nn => ⟨[(0, .slice A2 nn c2), (1, .int .i64 (wi64 (p1 - 0))), (4, .slice A2 nn c2), (8, .int .i64 p1), (9, .slice none 0 0), (10, .int .i64 0), (11, .slice none 0 0), (12, .int .i64 0), (13, .int .i64 0), (14, .int .i64 (wi64 (p1 - 0))), (15, .int .i64 (wi64 (p1 - 0))), (16, .bool (decide (0 < (wi64 (p1 - 0))))), (17, .slice none 0 0), (18, .slice none 0 0), (19, .int .i64 0), (20, .slice none 0 0), (21, .int .i64 (wi64 (p1 - 0))), (23, .slice none 0 0), (24, .int .i64 0), (25, .slice A2 nn c2), (26, .slice A2 nn c2)], [arr rp_u64_u64_u64 85 A2 nn c2 ((List.replicate ((wi64 (p1 - 0)).toNat) (((0 : Int), (0 : Int), (0 : Int)) : Int × Int × Int)).take 0)], [slF rp_u64_u64_u64 none 0 (([] : List (Int × Int × Int)))], []⟩) 0 (Imp.re _ [0] [0] (sc rfl (sc rfl (sc rfl (sc rfl (sc rfl (sc rfl (sc rfl (sc rfl (sc rfl (sc rfl (sc rfl (sc rfl (sc rfl (sc rfl (sc rfl (sc rfl (sc rfl (sc rfl (sc rfl (sc rfl (sc rfl sn))))))))))))))))))))) (by decide) rfl rfl rfl) rfl ?_
      have hz := Option.some.inj H
      subst hz
      refine Tr.ret (ret_r ⟨[(4, .slice A2 (((List.replicate ((wi64 (p1 - 0)).toNat) (((0 : Int), (0 : Int), (0 : Int)) : Int × Int × Int)).take 0).length) c2)], [arr rp_u64_u64_u64 85 A2 (((List.replicate ((wi64 (p1 - 0)).toNat) (((0 : Int), (0 : Int), (0 : Int)) : Int × Int × Int)).take 0).length) c2 ((List.replicate ((wi64 (p1 - 0)).toNat) (((0 : Int), (0 : Int), (0 : Int)) : Int × Int × Int)).take 0)], [], []⟩ [.slice A2 (((List.replicate ((wi64 (p1 - 0)).toNat) (((0 : Int), (0 : Int), (0 : Int)) : Int × Int × Int)).take 0).length) c2] [arr rp_u64_u64_u64 85 A2 (((List.replicate ((wi64 (p1 - 0)).toNat) (((0 : Int), (0 : Int), (0 : Int)) : Int × Int × Int)).take 0).length) c2 ((List.replicate ((wi64 (p1 - 0)).toNat) (((0 : Int), (0 : Int), (0 : Int)) : Int × Int × Int)).take 0)] [] (Imp.re _ [0] [] (sc rfl sn) (by decide) rfl rfl rfl) rfl rfl ⟨((A2, c2)), rfl, rfl, rfl⟩ (.cons (resv_tmp rfl) .nil))
    · refine Tr.cond_f rfl (bf_dec h9) ?_
      refine Tr.skip (qthen_n ?_)
      refine Tr.seq ?_
      refine Tr.region ?_
      refine TrL.v (v_move rfl rfl) rfl rfl (bl rfl) ?_
      refine TrL.v (v_assign rfl rfl) rfl rfl (bl rfl) ?_
      refine TrL.nil (qthen_n ?_)
      have hz := Option.some.inj H
      subst hz
      refine Tr.ret (ret_r ⟨[(4, .slice none 0 0)], [arr rp_u64_u64_u64 85 none 0 0 (([] : List (Int × Int × Int)))], [], []⟩ [.slice none 0 0] [arr rp_u64_u64_u64 85 none 0 0 (([] : List (Int × Int × Int)))] [] (Imp.arrNil' rp_u64_u64_u64 85 (Imp.re _ [0] [] (sc rfl sn) (by decide) rfl rfl rfl)) rfl rfl ⟨((none, 0)), rfl, rfl, rfl⟩ (.cons (resv_tmp rfl) .nil))

theorem c_slices_Concat_Event (p1 : List (List (Int × Int × Int))) (A1 : Option Addr) (c1 : Nat) (r : List (Int × Int × Int)) (H : slices_Concat_Event p1 = some r) :
    Ctr Try.prog 87 [.slice A1 p1.length c1] [] [slF (rSl rp_u64_u64_u64) A1 c1 p1] (fun ret M' F' => ∃ m : Option Addr × Nat, ret = .slice m.1 r.length m.2 ∧ M' = [arr rp_u64_u64_u64 85 m.1 r.length m.2 r] ∧ F' = []) := by
  unfold slices_Concat_Event at H
  refine ctr_ofI (N := 36) Try.func87 rfl Try.ntmps87 rfl (Nat.le_of_ble_eq_true rfl) (fun γ0 w0 => ?_)
  refine Tr.seq ?_
  refine Tr.region ?_
  refine TrL.v (v_assign rfl rfl) rfl rfl (bl rfl) ?_
  refine TrL.nil (qthen_n ?_)
  refine Tr.seq ?_
  refine Tr.region ?_
  refine TrL.v (v_assign rfl rfl) rfl rfl (bl rfl) ?_
  refine TrL.nil (qthen_n ?_)
  refine Tr.seq ?_
  refine Tr.seq ?_
  refine Tr.region ?_
  refine TrL.v (v_move rfl rfl) rfl rfl (bl rfl) ?_
  refine TrL.v (v_len rfl sl216 rfl) rfl rfl (bl rfl) ?_
  refine TrL.v (v_move rfl rfl) rfl rfl (bl rfl) ?_
  refine TrL.nil (qthen_n ?_)
  obtain ⟨x3, hx5, H⟩ := bnd H
  refine Tr.cutE (D := Int) (M := Unit) .normal (fun _d => x3 = _d) (fun x3 m13 => ⟨[(0, .slice A1 p1.length c1), (3, .int .i64 x3)], [], [slF (rSl rp_u64_u64_u64) A1 c1 p1], []⟩) ?_ (fun x3 m13 hd3 => ?_)
  · refine Tr.block (Tr.loopI (ι := Unit) (step := slices_Concat_Event_s0 p1) (fun s8 m11 => ⟨[(0, .slice A1 p1.length c1), (3, .int .i64 s8.1), (9, .slice A1 p1.length c1), (10, .int .i64 ((p1.length : Int))), (11, .int .i64 s8.2)], [], [slF (rSl rp_u64_u64_u64) A1 c1 p1], []⟩) (()) hx5 (Imp.re _ [] [0] (sc rfl (sc rfl (sc rfl (sc rfl (sc rfl sn))))) (by decide) rfl rfl rfl) (fun s8 m11 y3 hy3 hx6 => ?_))
    unfold slices_Concat_Event_s0 at hy3
    refine Tr.seq ?_
    refine Tr.region ?_
    refine TrL.v (v_arith rfl rfl rfl ar_lss) rfl rfl (bl rfl) ?_
    refine TrL.nil (qthen_n ?_)
    refine Tr.seq ?_
    rcases ifc hy3 with ⟨h17, hy3⟩ | ⟨h17, hy3⟩
    · refine Tr.cond_t rfl (bt_dec h17) ?_
      refine Tr.skip (qthen_n ?_)
      refine Tr.seq ?_
      refine Tr.block ?_
      refine Tr.seq ?_
      refine Tr.region ?_
      obtain ⟨z9, hz9, hy3⟩ := bnd hy3
      refine TrL.v (v_indexAddr (k := 0) rfl sl216 ty71 rfl rfl rfl rfl hz9) rfl rfl (bl rfl) ?_
      refine TrL.openS' (k := 0) rfl hz9 (fun A13 c13 => ?_)
      refine TrL.v (v_loadF (k := 2) rfl ty71 rfl rfl) rfl rfl (bl rfl) ?_
      refine TrL.v (v_assign rfl rfl) rfl rfl (bl rfl) ?_
      refine TrL.nil (qthen_n ?_)
      refine Tr.seq ?_
      refine Tr.region ?_
      refine TrL.v (v_move rfl rfl) rfl rfl (bl rfl) ?_
      refine TrL.v (v_move rfl rfl) rfl rfl (bl rfl) ?_
      refine TrL.v (v_len rfl sl71 rfl) rfl rfl (bl rfl) ?_
      refine TrL.v (v_arith rfl rfl rfl ar_add_i64) rfl rfl (bl rfl) ?_
      refine TrL.v (v_assign rfl rfl) rfl rfl (bl rfl) ?_
      refine TrL.nil (qthen_n ?_)
      refine Tr.seq ?_
      refine Tr.region ?_
      refine TrL.v (v_move rfl rfl) rfl rfl (bl rfl) ?_
      refine TrL.v (v_arith rfl rfl rfl ar_lss) rfl rfl (bl rfl) ?_
      refine TrL.nil (qthen_n ?_)
      rcases ifc hy3 with ⟨h18, hy3⟩ | ⟨h18, hy3⟩
      · refine Tr.cond_t rfl (bt_dec h18) ?_
        refine Tr.region ?_
        cases hy3
      · refine Tr.cond_f rfl (bf_dec h18) ?_
        refine Tr.skip (qblock_n (qthen_n ?_))
        refine Tr.region ?_
        refine TrL.v (v_arith rfl rfl rfl ar_add_i64) rfl rfl (bl rfl) ?_
        refine TrL.v (v_move rfl rfl) rfl rfl (bl rfl) ?_
        have hz := Option.some.inj hy3
        subst hz
        refine TrL.nil (qloop_n (()) (Imp.re _ [] [0] (sc rfl (sc rfl (sc rfl (sc rfl (sc rfl sn))))) (by decide) rfl rfl rfl))
    · refine Tr.cond_f rfl (bf_dec h17) ?_
      have hz := Option.some.inj hy3
      subst hz
      refine Tr.exit (qthen_x (qloop_x (qblock_hit (qcut_hit s8.1 (()) (hx6 _ rfl).symm (Imp.re _ [] [0] (sc rfl (sc rfl sn)) (by decide) rfl rfl rfl)))))
  · subst hd3
    refine (qthen_n ?_)
    refine Tr.seq ?_
    refine Tr.region ?_
    refine TrL.v (v_move rfl rfl) rfl rfl (bl rfl) ?_
    refine TrL.addF' (slF rp_u64_u64_u64 none 0 []) (nilF rp_u64_u64_u64) ?_
    obtain ⟨r2, hr2, H⟩ := bnd H
    refine TrL.cons rfl (op_call0' (vs := [.slice none 0 0, .int .i64 x3]) (cap := []) [] rfl rfl (bl rfl) rfl rfl en143 (c_slices_Grow_Event x3 r2 hr2) rfl (fun ret M' F' hR2 => ?_))
    obtain ⟨m14, rfl, rfl, rfl⟩ := hR2
    refine TrL.v (v_assign rfl rfl) rfl rfl (bl rfl) ?_
    refine TrL.nil (qthen_n ?_)
    refine Tr.seq ?_
    refine Tr.seq ?_
    refine Tr.region ?_
    refine TrL.v (v_move rfl rfl) rfl rfl (bl rfl) ?_
    refine TrL.v (v_len rfl sl216 rfl) rfl rfl (bl rfl) ?_
    refine TrL.v (v_move rfl rfl) rfl rfl (bl rfl) ?_
    refine TrL.nil (qthen_n ?_)
    obtain ⟨x4, hx7, H⟩ := bnd H
    refine Tr.cutE (D := List (Int × Int × Int)) (M := Option Addr × Nat) .normal (fun _d => x4 = _d) (fun x4 m18 => ⟨[(6, .slice m18.1 x4.length m18.2)], [arr rp_u64_u64_u64 85 m18.1 x4.length m18.2 x4], [], []⟩) ?_ (fun x4 m18 hd4 => ?_)
    · refine Tr.block (Tr.loopI (ι := Option Addr × Nat) (step := slices_Concat_Event_s1 p1) (fun s11 m16 => ⟨[(6, .slice m16.1 s11.1.length m16.2), (25, .slice A1 p1.length c1), (26, .int .i64 ((p1.length : Int))), (27, .int .i64 s11.2)], [arr rp_u64_u64_u64 85 m16.1 s11.1.length m16.2 s11.1], [slF (rSl rp_u64_u64_u64) A1 c1 p1], []⟩) ((m14.1, m14.2)) hx7 (Imp.re _ [0] [0] (sc rfl (sc rfl (sc rfl (sc rfl sn)))) (by decide) rfl rfl rfl) (fun s11 m16 y4 hy4 hx8 => ?_))
      unfold slices_Concat_Event_s1 at hy4
      refine Tr.seq ?_
      refine Tr.region ?_
      refine TrL.v (v_arith rfl rfl rfl ar_lss) rfl rfl (bl rfl) ?_
      refine TrL.nil (qthen_n ?_)
      refine Tr.seq ?_
      rcases ifc hy4 with ⟨h23, hy4⟩ | ⟨h23, hy4⟩
      · refine Tr.cond_t rfl (bt_dec h23) ?_
        refine Tr.skip (qthen_n ?_)
        refine Tr.seq ?_
        refine Tr.block ?_
        refine Tr.seq ?_
        refine Tr.region ?_
        obtain ⟨z12, hz12, hy4⟩ := bnd hy4
        refine TrL.v (v_indexAddr (k := 0) rfl sl216 ty71 rfl rfl rfl rfl hz12) rfl rfl (bl rfl) ?_
        refine TrL.openS' (k := 0) rfl hz12 (fun A18 c18 => ?_)
        refine TrL.v (v_loadF (k := 2) rfl ty71 rfl rfl) rfl rfl (bl rfl) ?_
        refine TrL.v (v_assign rfl rfl) rfl rfl (bl rfl) ?_
        refine TrL.nil (qthen_n ?_)
        refine Tr.region ?_
        refine TrL.v (v_move rfl rfl) rfl rfl (bl rfl) ?_
        refine TrL.v (v_move rfl rfl) rfl rfl (bl rfl) ?_
        obtain ⟨h24, hy4⟩ := rom hy4
        refine TrL.cons rfl (op_appendAS (rp := rp_u64_u64_u64) (xs := s11.1) (ys := z12) (k := 0) (ky := 1) rfl (bl rfl) rfl sl71 ty85 ze85 rfl by85 rfl rfl rfl rfl rfl h24 (fun A19 c19 => ?_))
        refine TrL.v (v_assign rfl rfl) rfl rfl (bl rfl) ?_
        refine TrL.nil (qblock_n (qthen_n ?_))
        refine Tr.region ?_
        refine TrL.v (v_arith rfl rfl rfl ar_add_i64) rfl rfl (bl rfl) ?_
        refine TrL.v (v_move rfl rfl) rfl rfl (bl rfl) ?_
        have hz := Option.some.inj hy4
        subst hz
        refine TrL.nil (qloop_n ((A19, c19)) (Imp.re _ [0] [0] (sc rfl (sc rfl (sc rfl (sc rfl sn)))) (by decide) rfl rfl rfl))
      · refine Tr.cond_f rfl (bf_dec h23) ?_
        have hz := Option.some.inj hy4
        subst hz
        refine Tr.exit (qthen_x (qloop_x (qblock_hit (qcut_hit s11.1 ((m16.1, m16.2)) (hx8 _ rfl).symm (Imp.re _ [0] [] (sc rfl sn) (by decide) rfl rfl rfl)))))
    · subst hd4
      refine (qthen_n ?_)
      refine Tr.seq ?_
      refine Tr.region ?_
      refine TrL.v (v_move rfl rfl) rfl rfl (bl rfl) ?_
      refine TrL.v (v_assign rfl rfl) rfl rfl (bl rfl) ?_
      refine TrL.nil (qthen_n ?_)
      have hz := Option.some.inj H
      subst hz
      refine Tr.ret (ret_r ⟨[(2, .slice m18.1 x4.length m18.2)], [arr rp_u64_u64_u64 85 m18.1 x4.length m18.2 x4], [], []⟩ [.slice m18.1 x4.length m18.2] [arr rp_u64_u64_u64 85 m18.1 x4.length m18.2 x4] [] (Imp.re _ [0] [] (sc rfl sn) (by decide) rfl rfl rfl) rfl rfl ⟨((m18.1, m18.2)), rfl, rfl, rfl⟩ (.cons (resv_tmp rfl) .nil))

theorem c_slices_Clone_Event (p1 : List (Int × Int × Int)) (A1 : Option Addr) (c1 : Nat) (r : List (Int × Int × Int)) (H : slices_Clone_Event p1 = some r) :
    Ctr Try.prog 169 [.slice A1 p1.length c1] [] [slF rp_u64_u64_u64 A1 c1 p1] (fun ret M' F' => ∃ m : Option Addr × Nat, ret = .slice m.1 r.length m.2 ∧ M' = [] ∧ F' = [slF rp_u64_u64_u64 m.1 m.2 r]) := by
  unfold slices_Clone_Event at H
  refine ctr_ofI (N := 8) Try.func169 rfl Try.ntmps169 rfl (Nat.le_of_ble_eq_true rfl) (fun γ0 w0 => ?_)
  refine Tr.seq ?_
  refine Tr.region ?_
  refine TrL.v (v_assign rfl rfl) rfl rfl (bl rfl) ?_
  refine TrL.nil (qthen_n ?_)
  refine Tr.seq ?_
  refine Tr.seq ?_
  refine Tr.region ?_
  refine TrL.v (v_move rfl rfl) rfl rfl (bl rfl) ?_
  refine TrL.v (v_slnil rfl Try.underlying71 rfl rfl) rfl rfl (bl rfl) ?_
  refine TrL.nil (qthen_n ?_)
  by_cases hA2 : A1 = none
  · refine Tr.pure (nil_pre (k := 0) rfl hA2) (fun hx2 => ?_)
    obtain ⟨_, H⟩ := rom H
    rw [hx2] at H
    refine Tr.cond_t rfl (isN hA2) ?_
    refine Tr.seq ?_
    refine Tr.region ?_
    refine TrL.v (v_assign rfl rfl) rfl rfl (bl rfl) ?_
    refine TrL.nil (qthen_n ?_)
    have hz := Option.some.inj H
    subst hz
    refine Tr.ret (qthen_r (ret_r ⟨[(2, .slice none 0 0)], [], [slF rp_u64_u64_u64 none 0 (([] : List (Int × Int × Int)))], []⟩ [.slice none 0 0] [] [] (Imp.addF' _ (nilF rp_u64_u64_u64) (Imp.re _ [] [1] (sc rfl sn) (by decide) rfl rfl rfl)) rfl rfl ⟨((none, 0)), rfl, rfl, rfl⟩ (.cons (resv_tmp rfl) .nil)))
  · refine Tr.cond_f rfl (isS hA2) ?_
    refine Tr.skip (qthen_n ?_)
    refine Tr.seq ?_
    refine Tr.region ?_
    refine TrL.cons rfl (op_buildSlice' (rp := rp_u64_u64_u64) (xs := []) (vs := []) (out := []) rfl (bl rfl) rfl sl71 ty85 ze85 rfl rfl (by decide) (by decide) rfl (fun γ w hF => rown) (fun A4 => ?_))
    refine TrL.v (v_move rfl rfl) rfl rfl (bl rfl) ?_
    refine TrL.full' (E := 85) (sz := 3) (A := A4) (n := 0) ?_
    obtain ⟨h2, H⟩ := rom H
    refine TrL.cons rfl (op_append' (rp := rp_u64_u64_u64) (xs := ([] : List (Int × Int × Int))) (ys := p1) (k := 0) (kx := 1) (ky := 0) rfl (bl rfl) rfl sl71 ty85 ze85 rfl by85 rfl rfl rfl rfl rfl rfl rfl h2.1 h2.2 (fun A5 c3 o2 => ?_))
    refine TrL.v (v_assign rfl rfl) rfl rfl (bl rfl) ?_
    refine TrL.nil (qthen_n ?_)
    have hz := Option.some.inj H
    subst hz
    refine Tr.ret (ret_r ⟨[(2, .slice A5 p1.length c3)], [], [slF rp_u64_u64_u64 A5 c3 p1], []⟩ [.slice A5 p1.length c3] [] [] (Imp.re _ [] [2] (sc rfl sn) (by decide) rfl rfl rfl) rfl rfl ⟨((A5, c3)), rfl, rfl, rfl⟩ (.cons (resv_tmp rfl) .nil))
end Go.Proofs.Ytbeknohemgjfbaa.W
