/- The contracts of the walked functions: the printed walks. -/
import Derived.Test.YtbeknohemgjfbaaKc
import Derived.Test.YtbeknohemgjfbaaQc
namespace Go.Proofs.Ytbeknohemgjfbaa.W
open Go Go.Proofs Go.Proofs.Ytbeknohemgjfbaa.L Go.Proofs.Ytbeknohemgjfbaa.Pu
set_option linter.unusedVariables false
set_option maxHeartbeats 4000000

theorem c_ref12_split (p1 : List (Int × Int × Int)) (p2 : Int) (A1 : Option Addr) (c1 : Nat) (r : (List (Int × Int × Int)) × List (Int × Int × Int)) (H : ref12_split p1 p2 = some r) :
    Ctr Try.prog 92 [.slice A1 p1.length c1, .int .u64 p2] [] [slF rp_u64_u64_u64 A1 c1 p1] (fun ret M' F' => ∃ m : Option Addr × Nat × Option Addr × Nat × Option Nat × Option Nat, ret = .tuple #[.slice m.1 r.1.length m.2.1, .slice m.2.2.1 r.2.length m.2.2.2.1] ∧ M' = [grow 85 3 (.slice m.1 r.1.length m.2.1) r.1.length m.2.2.2.2.1, grow 85 3 (.slice m.2.2.1 r.2.length m.2.2.2.1) r.2.length m.2.2.2.2.2] ∧ F' = [slF rp_u64_u64_u64 m.1 m.2.1 r.1, slF rp_u64_u64_u64 m.2.2.1 m.2.2.2.1 r.2]) := by
  unfold ref12_split at H
  refine ctr_ofI (N := 38) Try.func92 rfl Try.ntmps92 rfl (Nat.le_of_ble_eq_true rfl) (fun γ0 w0 => ?_)
  refine Tr.seq ?_
  refine Tr.region ?_
  refine TrL.v (v_assign rfl rfl) rfl rfl (bl rfl) ?_
  refine TrL.v (v_assign rfl rfl) rfl rfl (bl rfl) ?_
  refine TrL.nil (qthen_n ?_)
  refine Tr.seq ?_
  refine Tr.region ?_
  refine TrL.v (v_assign rfl rfl) rfl rfl (bl rfl) ?_
  refine TrL.nil (qthen_n ?_)
  refine Tr.seq ?_
  refine Tr.region ?_
  refine TrL.v (v_assign rfl rfl) rfl rfl (bl rfl) ?_
  refine TrL.nil (qthen_n ?_)
  refine Tr.seq ?_
  refine Tr.seq ?_
  refine Tr.region ?_
  refine TrL.v (v_assign rfl rfl) rfl rfl (bl rfl) ?_
  refine TrL.nil (qthen_n ?_)
  obtain ⟨x2, hx3, H⟩ := bnd H
  refine Tr.cutE (D := (List (Int × Int × Int)) × List (Int × Int × Int)) (M := Option Addr × Nat × Option Addr × Nat × Option Nat × Option Nat) .normal (fun _d => x2 = _d) (fun x2 m8 => ⟨[(6, .slice m8.1 x2.1.length m8.2.1), (7, .slice m8.2.2.1 x2.2.length m8.2.2.2.1)], [grow 85 3 (.slice m8.1 x2.1.length m8.2.1) x2.1.length m8.2.2.2.2.1, grow 85 3 (.slice m8.2.2.1 x2.2.length m8.2.2.2.1) x2.2.length m8.2.2.2.2.2], [slF rp_u64_u64_u64 m8.1 m8.2.1 x2.1, slF rp_u64_u64_u64 m8.2.2.1 m8.2.2.2.1 x2.2], []⟩) ?_ (fun x2 m8 hd2 => ?_)
  · refine Tr.block (Tr.loopI (ι := Option Addr × Nat × Option Addr × Nat × Option Nat × Option Nat) (step := ref12_split_s0 p1 p2) (fun s5 m6 => ⟨[(0, .slice A1 p1.length c1), (1, .int .u64 p2), (6, .slice m6.1 s5.1.length m6.2.1), (7, .slice m6.2.2.1 s5.2.1.length m6.2.2.2.1), (8, .int .i64 s5.2.2)], [grow 85 3 (.slice m6.1 s5.1.length m6.2.1) s5.1.length m6.2.2.2.2.1, grow 85 3 (.slice m6.2.2.1 s5.2.1.length m6.2.2.2.1) s5.2.1.length m6.2.2.2.2.2], [slF rp_u64_u64_u64 A1 c1 p1, slF rp_u64_u64_u64 m6.1 m6.2.1 s5.1, slF rp_u64_u64_u64 m6.2.2.1 m6.2.2.2.1 s5.2.1], []⟩) ((none, 0, none, 0, none, none)) hx3 (Imp.full' (E := 85) (sz := 3) (A := none) (n := 0) (Imp.full' (E := 85) (sz := 3) (A := none) (n := 0) (Imp.addF' _ (nilF rp_u64_u64_u64) (Imp.re _ [1, 0] [0, 1, 1] (sc rfl (sc rfl (sc rfl (sc rfl (sc rfl sn))))) (by decide) rfl rfl rfl)))) (fun s5 m6 y2 hy2 hx4 => ?_))
    unfold ref12_split_s0 at hy2
    refine Tr.seq ?_
    refine Tr.seq ?_
    refine Tr.region ?_
    refine TrL.v (v_move rfl rfl) rfl rfl (bl rfl) ?_
    refine TrL.v (v_move rfl rfl) rfl rfl (bl rfl) ?_
    refine TrL.v (v_len rfl sl71 rfl) rfl rfl (bl rfl) ?_
    refine TrL.v (v_arith rfl rfl rfl ar_lss) rfl rfl (bl rfl) ?_
    refine TrL.nil (qthen_n ?_)
    rcases ifc hy2 with ⟨h21, hy2⟩ | ⟨h21, hy2⟩
    · refine Tr.cond_t rfl (bt_dec h21) ?_
      refine Tr.skip (qthen_n ?_)
      refine Tr.seq ?_
      refine Tr.block ?_
      refine Tr.seq ?_
      refine Tr.region ?_
      refine TrL.v (v_move rfl rfl) rfl rfl (bl rfl) ?_
      refine TrL.v (v_move rfl rfl) rfl rfl (bl rfl) ?_
      obtain ⟨z6, hz6, hy2⟩ := bnd hy2
      refine TrL.v (v_indexAddr (k := 0) rfl sl71 ty85 rfl rfl rfl rfl hz6) rfl rfl (bl rfl) ?_
      refine TrL.v (v_fieldAddr rfl fo85_0 rfl) rfl rfl (bl rfl) ?_
      refine TrL.v (v_loadg (A := A1) (i := s5.2.2) (j := 0) (k := 0) rfl ty28 (fun _ => rfl) rfl rfl hz6 rfl rfl) rfl rfl (bl rfl) ?_
      refine TrL.v (v_move rfl rfl) rfl rfl (bl rfl) ?_
      refine TrL.v (v_arith rfl rfl rfl ar_leq) rfl rfl (bl rfl) ?_
      refine TrL.nil (qthen_n ?_)
      rcases ifc hy2 with ⟨h22, hy2⟩ | ⟨h22, hy2⟩
      · refine Tr.cond_t rfl (bt_dec h22) ?_
        refine Tr.region ?_
        refine TrL.v (v_move rfl rfl) rfl rfl (bl rfl) ?_
        refine TrL.v (v_move rfl rfl) rfl rfl (bl rfl) ?_
        refine TrL.v (v_move rfl rfl) rfl rfl (bl rfl) ?_
        refine TrL.v (v_indexAddr (k := 0) rfl sl71 ty85 rfl rfl rfl rfl hz6) rfl rfl (bl rfl) ?_
        refine TrL.v (v_loadg (A := A1) (i := s5.2.2) (j := 0) (k := 0) rfl ty85 nofun rfl rfl hz6 rfl rfl) rfl rfl (bl rfl) ?_
        refine TrL.cons rfl (op_buildSlice' (rp := rp_u64_u64_u64) (xs := [z6]) (vs := [.agg #[.int .u64 z6.1, .int .u64 z6.2.1, .int .u64 z6.2.2]]) (out := [.int .u64 z6.1, .int .u64 z6.2.1, .int .u64 z6.2.2]) rfl (bl rfl) rfl sl71 ty85 ze85 rfl rfl (by decide) (by decide) rfl (fun γ w hF => (rowc rfl rown rfl)) (fun A22 => ?_))
        obtain ⟨h23, hy2⟩ := rom hy2
        refine TrL.cons rfl (op_append' (rp := rp_u64_u64_u64) (xs := s5.1) (ys := [z6]) (k := 0) (kx := 1) (ky := 3) rfl (bl rfl) rfl sl71 ty85 ze85 rfl by85 rfl rfl rfl rfl rfl rfl rfl h23.1 h23.2 (fun A23 c12 o11 => ?_))
        refine TrL.v (v_assign rfl rfl) rfl rfl (bl rfl) ?_
        refine TrL.nil (qblock_n (qthen_n ?_))
        refine Tr.region ?_
        refine TrL.v (v_move rfl rfl) rfl rfl (bl rfl) ?_
        refine TrL.v (v_arith rfl rfl rfl ar_add_i64) rfl rfl (bl rfl) ?_
        refine TrL.v (v_assign rfl rfl) rfl rfl (bl rfl) ?_
        have hz := Option.some.inj hy2
        subst hz
        refine TrL.nil (qloop_n ((A23, c12, m6.2.2.1, m6.2.2.2.1, o11, m6.2.2.2.2.2)) (Imp.re _ [0, 1] [0, 4, 2] (sc rfl (sc rfl (sc rfl (sc rfl (sc rfl sn))))) (by decide) rfl rfl rfl))
      · refine Tr.cond_f rfl (bf_dec h22) ?_
        refine Tr.region ?_
        refine TrL.v (v_move rfl rfl) rfl rfl (bl rfl) ?_
        refine TrL.v (v_move rfl rfl) rfl rfl (bl rfl) ?_
        refine TrL.v (v_move rfl rfl) rfl rfl (bl rfl) ?_
        refine TrL.v (v_indexAddr (k := 0) rfl sl71 ty85 rfl rfl rfl rfl hz6) rfl rfl (bl rfl) ?_
        refine TrL.v (v_loadg (A := A1) (i := s5.2.2) (j := 0) (k := 0) rfl ty85 nofun rfl rfl hz6 rfl rfl) rfl rfl (bl rfl) ?_
        refine TrL.cons rfl (op_buildSlice' (rp := rp_u64_u64_u64) (xs := [z6]) (vs := [.agg #[.int .u64 z6.1, .int .u64 z6.2.1, .int .u64 z6.2.2]]) (out := [.int .u64 z6.1, .int .u64 z6.2.1, .int .u64 z6.2.2]) rfl (bl rfl) rfl sl71 ty85 ze85 rfl rfl (by decide) (by decide) rfl (fun γ w hF => (rowc rfl rown rfl)) (fun A24 => ?_))
        obtain ⟨h24, hy2⟩ := rom hy2
        refine TrL.cons rfl (op_append' (rp := rp_u64_u64_u64) (xs := s5.2.1) (ys := [z6]) (k := 1) (kx := 2) (ky := 3) rfl (bl rfl) rfl sl71 ty85 ze85 rfl by85 rfl rfl rfl rfl rfl rfl rfl h24.1 h24.2 (fun A25 c13 o12 => ?_))
        refine TrL.v (v_assign rfl rfl) rfl rfl (bl rfl) ?_
        refine TrL.nil (qblock_n (qthen_n ?_))
        refine Tr.region ?_
        refine TrL.v (v_move rfl rfl) rfl rfl (bl rfl) ?_
        refine TrL.v (v_arith rfl rfl rfl ar_add_i64) rfl rfl (bl rfl) ?_
        refine TrL.v (v_assign rfl rfl) rfl rfl (bl rfl) ?_
        have hz := Option.some.inj hy2
        subst hz
        refine TrL.nil (qloop_n ((m6.1, m6.2.1, A25, c13, m6.2.2.2.2.1, o12)) (Imp.re _ [0, 1] [0, 1, 4] (sc rfl (sc rfl (sc rfl (sc rfl (sc rfl sn))))) (by decide) rfl rfl rfl))
    · refine Tr.cond_f rfl (bf_dec h21) ?_
      have hz := Option.some.inj hy2
      subst hz
      refine Tr.exit (qthen_x (qloop_x (qblock_hit (qcut_hit ((s5.1, s5.2.1)) ((m6.1, m6.2.1, m6.2.2.1, m6.2.2.2.1, m6.2.2.2.2.1, m6.2.2.2.2.2)) (hx4 _ rfl).symm (Imp.re _ [0, 1] [1, 2] (sc rfl (sc rfl sn)) (by decide) rfl rfl rfl)))))
  · subst hd2
    refine (qthen_n ?_)
    refine Tr.seq ?_
    refine Tr.region ?_
    refine TrL.v (v_move rfl rfl) rfl rfl (bl rfl) ?_
    refine TrL.v (v_move rfl rfl) rfl rfl (bl rfl) ?_
    refine TrL.v (v_assign rfl rfl) rfl rfl (bl rfl) ?_
    refine TrL.v (v_assign rfl rfl) rfl rfl (bl rfl) ?_
    refine TrL.nil (qthen_n ?_)
    have hz := Option.some.inj H
    subst hz
    refine Tr.ret (ret_r ⟨[(4, .slice m8.1 x2.1.length m8.2.1), (5, .slice m8.2.2.1 x2.2.length m8.2.2.2.1)], [grow 85 3 (.slice m8.1 x2.1.length m8.2.1) x2.1.length m8.2.2.2.2.1, grow 85 3 (.slice m8.2.2.1 x2.2.length m8.2.2.2.1) x2.2.length m8.2.2.2.2.2], [slF rp_u64_u64_u64 m8.1 m8.2.1 x2.1, slF rp_u64_u64_u64 m8.2.2.1 m8.2.2.2.1 x2.2], []⟩ [.slice m8.1 x2.1.length m8.2.1, .slice m8.2.2.1 x2.2.length m8.2.2.2.1] [grow 85 3 (.slice m8.1 x2.1.length m8.2.1) x2.1.length m8.2.2.2.2.1, grow 85 3 (.slice m8.2.2.1 x2.2.length m8.2.2.2.1) x2.2.length m8.2.2.2.2.2] [] (Imp.re _ [0, 1] [0, 1] (sc rfl (sc rfl sn)) (by decide) rfl rfl rfl) rfl rfl ⟨((m8.1, m8.2.1, m8.2.2.1, m8.2.2.2.1, m8.2.2.2.2.1, m8.2.2.2.2.2)), rfl, rfl, rfl⟩ (.cons (resv_tmp rfl) (.cons (resv_tmp rfl) .nil)))

theorem c_ref12_settle (p1 : Int × Int × Int × Int × List (Int × Int × Int)) (A1 : Option Addr) (c1 : Nat) (r : Int × (List (Int × Int × Int)) × List (Int × Int × Int)) (H : ref12_settle p1 = some r) :
    Ctr Try.prog 170 [.agg #[.int .u64 p1.1, .int .i64 p1.2.1, .int .u64 p1.2.2.1, .int .u64 p1.2.2.2.1, .slice A1 p1.2.2.2.2.length c1]] [] [slF rp_u64_u64_u64 A1 c1 p1.2.2.2.2] (fun ret M' F' => ∃ m : Option Addr × Nat × Option Addr × Nat, ret = .tuple #[.agg #[.int .u64 p1.1, .int .i64 p1.2.1, .int .u64 p1.2.2.1, .int .u64 r.1, .slice m.1 r.2.1.length m.2.1], .slice m.2.2.1 r.2.2.length m.2.2.2] ∧ M' = [] ∧ F' = [slF rp_u64_u64_u64 m.1 m.2.1 r.2.1, slF rp_u64_u64_u64 m.2.2.1 m.2.2.2 r.2.2]) := by
  unfold ref12_settle at H
  refine ctr_ofI (N := 62) Try.func170 rfl Try.ntmps170 rfl (Nat.le_of_ble_eq_true rfl) (fun γ0 w0 => ?_)
  refine Tr.seq ?_
  refine Tr.region ?_
  refine TrL.cons rfl (op_box' rfl (bl rfl) rfl rfl rfl (fun b3 => ?_))
  refine TrL.cons rfl (op_alloc' rfl (bl rfl) rfl ze73 (fun b4 => ?_))
  refine TrL.v (v_assign rfl rfl) rfl rfl (bl rfl) ?_
  refine TrL.nil (qthen_n ?_)
  refine Tr.seq ?_
  refine Tr.seq ?_
  obtain ⟨j3, hj3, H⟩ := bnd H
  refine Tr.cutE (D := Bool) (M := Unit) .normal (fun _d => j3 = _d) (fun j3 m11 => ⟨[(1, .pointer (some ⟨b3, 0, none⟩)), (2, .pointer (some ⟨b4, 0, none⟩)), (22, .bool j3)], [cells b3 [.int .u64 p1.1, .int .i64 p1.2.1, .int .u64 p1.2.2.1, .int .u64 p1.2.2.2.1, .slice A1 p1.2.2.2.2.length c1] 73, cells b4 [.int .u64 0, .int .i64 0, .int .u64 0, .int .u64 0, .slice none 0 0] 73], [slF rp_u64_u64_u64 A1 c1 p1.2.2.2.2, slF rp_u64_u64_u64 none 0 (([] : List (Int × Int × Int)))], []⟩) ?_ (fun j3 m11 hd4 => ?_)
  · refine Tr.region ?_
    refine TrL.v (v_fieldAddr' rfl fo73_2 rfl rfl) rfl rfl (bl rfl) ?_
    refine TrL.v (v_load (k := 1) rfl rfl rfl ty28 (fun _ => rfl) rfl rfl) rfl rfl (bl rfl) ?_
    refine TrL.v (v_fieldAddr' rfl fo73_0 rfl rfl) rfl rfl (bl rfl) ?_
    refine TrL.v (v_load (k := 1) rfl rfl rfl ty28 (fun _ => rfl) rfl rfl) rfl rfl (bl rfl) ?_
    refine TrL.v (v_arith rfl rfl rfl ar_geq) rfl rfl (bl rfl) ?_
    refine TrL.v (v_move rfl rfl) rfl rfl (bl rfl) ?_
    rcases ifc hj3 with ⟨h14, hj3⟩ | ⟨h14, hj3⟩
    · refine TrL.cons_yes rfl rfl rfl (bt_dec h14) (OpTr.v (v_fieldAddr' rfl fo73_2 rfl rfl) rfl (bl rfl) ?_)
      refine TrL.cons_yes rfl rfl rfl (bt_dec h14) (OpTr.v (v_load (k := 1) rfl rfl rfl ty28 (fun _ => rfl) rfl rfl) rfl (bl rfl) ?_)
      refine TrL.cons_yes rfl rfl rfl (bt_dec h14) (OpTr.v (v_fieldAddr' rfl fo73_0 rfl rfl) rfl (bl rfl) ?_)
      refine TrL.cons_yes rfl rfl rfl (bt_dec h14) (OpTr.v (v_load (k := 1) rfl rfl rfl ty28 (fun _ => rfl) rfl rfl) rfl (bl rfl) ?_)
      refine TrL.cons_yes rfl rfl rfl (bt_dec h14) (OpTr.v (v_arith rfl rfl rfl ar_sub_u64) rfl (bl rfl) ?_)
      refine TrL.cons_yes rfl rfl rfl (bt_dec h14) (OpTr.v (v_fieldAddr' rfl fo73_3 rfl rfl) rfl (bl rfl) ?_)
      refine TrL.cons_yes rfl rfl rfl (bt_dec h14) (OpTr.v (v_load (k := 1) rfl rfl rfl ty28 (fun _ => rfl) rfl rfl) rfl (bl rfl) ?_)
      refine TrL.cons_yes rfl rfl rfl (bt_dec h14) (OpTr.v (v_arith rfl rfl rfl ar_gtr) rfl (bl rfl) ?_)
      refine TrL.v (v_pick_t rfl rfl (bt_dec h14) rfl) rfl rfl (bl rfl) ?_
      refine TrL.nil (qcut_hit (decide (p1.2.2.2.1 < (wu64 (p1.2.2.1 - p1.1)))) (()) (Option.some.inj hj3).symm (Imp.addF' _ (nilF rp_u64_u64_u64) (Imp.re _ [1, 0] [0, 1] (sc rfl (sc rfl (sc rfl sn))) (by decide) rfl rfl rfl)))
    · refine TrL.cons_no rfl rfl rfl (gn_t (bf_dec h14)) rfl (bl rfl) ?_
      refine TrL.cons_no rfl rfl rfl (gn_t (bf_dec h14)) rfl (bl rfl) ?_
      refine TrL.cons_no rfl rfl rfl (gn_t (bf_dec h14)) rfl (bl rfl) ?_
      refine TrL.cons_no rfl rfl rfl (gn_t (bf_dec h14)) rfl (bl rfl) ?_
      refine TrL.cons_no rfl rfl rfl (gn_t (bf_dec h14)) rfl (bl rfl) ?_
      refine TrL.cons_no rfl rfl rfl (gn_t (bf_dec h14)) rfl (bl rfl) ?_
      refine TrL.cons_no rfl rfl rfl (gn_t (bf_dec h14)) rfl (bl rfl) ?_
      refine TrL.cons_no rfl rfl rfl (gn_t (bf_dec h14)) rfl (bl rfl) ?_
      refine TrL.v (v_pick_f rfl rfl (bf_dec h14) rfl) rfl rfl (bl rfl) ?_
      refine TrL.nil (qcut_hit false (()) (Option.some.inj hj3).symm (Imp.addF' _ (nilF rp_u64_u64_u64) (Imp.re _ [1, 0] [0, 1] (sc rfl (sc rfl (sc rfl sn))) (by decide) rfl rfl rfl)))
  · subst hd4
    refine (qthen_n ?_)
    obtain ⟨j4, hj4, H⟩ := bnd H
    refine Tr.cutE (D := Int) (M := Unit) .normal (fun _d => j4 = _d) (fun j4 m12 => ⟨[(1, .pointer (some ⟨b3, 0, none⟩)), (2, .pointer (some ⟨b4, 0, none⟩))], [cells b3 [.int .u64 p1.1, .int .i64 p1.2.1, .int .u64 p1.2.2.1, .int .u64 j4, .slice A1 p1.2.2.2.2.length c1] 73, cells b4 [.int .u64 0, .int .i64 0, .int .u64 0, .int .u64 0, .slice none 0 0] 73], [slF rp_u64_u64_u64 A1 c1 p1.2.2.2.2, slF rp_u64_u64_u64 none 0 (([] : List (Int × Int × Int)))], []⟩) ?_ (fun j4 m12 hd5 => ?_)
    · rcases ifc hj4 with ⟨h16, hj4⟩ | ⟨h16, hj4⟩
      · refine Tr.cond_t rfl h16 ?_
        refine Tr.region ?_
        refine TrL.v (v_fieldAddr' rfl fo73_2 rfl rfl) rfl rfl (bl rfl) ?_
        refine TrL.v (v_load (k := 0) rfl rfl rfl ty28 (fun _ => rfl) rfl rfl) rfl rfl (bl rfl) ?_
        refine TrL.v (v_fieldAddr' rfl fo73_0 rfl rfl) rfl rfl (bl rfl) ?_
        refine TrL.v (v_load (k := 0) rfl rfl rfl ty28 (fun _ => rfl) rfl rfl) rfl rfl (bl rfl) ?_
        refine TrL.v (v_arith rfl rfl rfl ar_sub_u64) rfl rfl (bl rfl) ?_
        refine TrL.v (v_fieldAddr' rfl fo73_3 rfl rfl) rfl rfl (bl rfl) ?_
        refine TrL.cons rfl (op_store' (k := 0) (c' := [.int .u64 p1.1, .int .i64 p1.2.1, .int .u64 p1.2.2.1, .int .u64 (wu64 (p1.2.2.1 - p1.1)), .slice A1 p1.2.2.2.2.length c1]) rfl rfl rfl rfl rfl ty28 rfl (Nat.le_of_ble_eq_true rfl) (ones (oc rfl on)) rfl ?_)
        refine TrL.nil (qcut_hit (wu64 (p1.2.2.1 - p1.1)) (()) (Option.some.inj hj4).symm (Imp.re _ [0, 1] [0, 1] (sc rfl (sc rfl sn)) (by decide) rfl rfl rfl))
      · refine Tr.cond_f rfl (bf_b h16) ?_
        refine Tr.skip (qcut_hit p1.2.2.2.1 (()) (Option.some.inj hj4).symm (Imp.re _ [0, 1] [0, 1] (sc rfl (sc rfl sn)) (by decide) rfl rfl rfl))
    · subst hd5
      refine (qthen_n ?_)
      refine Tr.seq ?_
      refine Tr.region ?_
      refine TrL.v (v_fieldAddr' rfl fo73_4 rfl rfl) rfl rfl (bl rfl) ?_
      refine TrL.v (v_load (k := 0) rfl rfl rfl ty71 (fun _ => rfl) rfl rfl) rfl rfl (bl rfl) ?_
      refine TrL.v (v_fieldAddr' rfl fo73_3 rfl rfl) rfl rfl (bl rfl) ?_
      refine TrL.v (v_load (k := 0) rfl rfl rfl ty28 (fun _ => rfl) rfl rfl) rfl rfl (bl rfl) ?_
      obtain ⟨r5, hr5, H⟩ := bnd H
      refine TrL.cons rfl (op_call0' (vs := [.slice A1 p1.2.2.2.2.length c1, .int .u64 j4]) (cap := []) [0] rfl rfl (bl rfl) rfl rfl en92 (c_ref12_split p1.2.2.2.2 j4 A1 c1 r5 hr5) rfl (fun ret M' F' hR5 => ?_))
      obtain ⟨m13, rfl, rfl, rfl⟩ := hR5
      refine TrL.v (v_move rfl rfl) rfl rfl (bl rfl) ?_
      refine TrL.v (v_extract rfl rfl rfl) rfl rfl (bl rfl) ?_
      refine TrL.v (v_extract rfl rfl rfl) rfl rfl (bl rfl) ?_
      refine TrL.v (v_assign rfl rfl) rfl rfl (bl rfl) ?_
      refine TrL.v (v_assign rfl rfl) rfl rfl (bl rfl) ?_
      refine TrL.nil (qthen_n ?_)
      refine Tr.seq ?_
      obtain ⟨x2, hx3, H⟩ := bnd H
      refine Tr.cutE (D := (List (Int × Int × Int)) × (List (Int × Int × Int)) × Int) (M := Option Addr × Nat × Option Addr × Nat × Option Nat × Option Nat) .normal (fun _d => x2 = _d) (fun x2 m19 => ⟨[(1, .pointer (some ⟨b3, 0, none⟩)), (2, .pointer (some ⟨b4, 0, none⟩)), (4, .slice m19.1 x2.1.length m19.2.1), (5, .slice m19.2.2.1 x2.2.1.length m19.2.2.2.1)], [cells b3 [.int .u64 p1.1, .int .i64 p1.2.1, .int .u64 p1.2.2.1, .int .u64 x2.2.2, .slice A1 p1.2.2.2.2.length c1] 73, cells b4 [.int .u64 0, .int .i64 0, .int .u64 0, .int .u64 0, .slice none 0 0] 73, grow 85 3 (.slice m19.1 x2.1.length m19.2.1) x2.1.length m19.2.2.2.2.1, grow 85 3 (.slice m19.2.2.1 x2.2.1.length m19.2.2.2.1) x2.2.1.length m19.2.2.2.2.2], [slF rp_u64_u64_u64 m19.1 m19.2.1 x2.1, slF rp_u64_u64_u64 m19.2.2.1 m19.2.2.2.1 x2.2.1, slF rp_u64_u64_u64 A1 c1 p1.2.2.2.2, slF rp_u64_u64_u64 none 0 (([] : List (Int × Int × Int)))], []⟩) ?_ (fun x2 m19 hd6 => ?_)
      · refine Tr.block (Tr.loopI (ι := Option Addr × Nat × Option Addr × Nat × Option Nat × Option Nat) (step := ref12_settle_s0 p1) (fun s5 m16 => ⟨[(1, .pointer (some ⟨b3, 0, none⟩)), (2, .pointer (some ⟨b4, 0, none⟩)), (4, .slice m16.1 s5.1.length m16.2.1), (5, .slice m16.2.2.1 s5.2.1.length m16.2.2.2.1)], [cells b3 [.int .u64 p1.1, .int .i64 p1.2.1, .int .u64 p1.2.2.1, .int .u64 s5.2.2, .slice A1 p1.2.2.2.2.length c1] 73, cells b4 [.int .u64 0, .int .i64 0, .int .u64 0, .int .u64 0, .slice none 0 0] 73, grow 85 3 (.slice m16.1 s5.1.length m16.2.1) s5.1.length m16.2.2.2.2.1, grow 85 3 (.slice m16.2.2.1 s5.2.1.length m16.2.2.2.1) s5.2.1.length m16.2.2.2.2.2], [slF rp_u64_u64_u64 m16.1 m16.2.1 s5.1, slF rp_u64_u64_u64 m16.2.2.1 m16.2.2.2.1 s5.2.1, slF rp_u64_u64_u64 A1 c1 p1.2.2.2.2, slF rp_u64_u64_u64 none 0 (([] : List (Int × Int × Int)))], []⟩) ((m13.1, m13.2.1, m13.2.2.1, m13.2.2.2.1, m13.2.2.2.2.1, m13.2.2.2.2.2)) hx3 (Imp.re _ [2, 3, 0, 1] [2, 3, 0, 1] (sc rfl (sc rfl (sc rfl (sc rfl sn)))) (by decide) rfl rfl rfl) (fun s5 m16 y2 hy2 hx4 => ?_))
        unfold ref12_settle_s0 at hy2
        refine Tr.seq ?_
        refine Tr.seq ?_
        refine Tr.region ?_
        refine TrL.v (v_move rfl rfl) rfl rfl (bl rfl) ?_
        refine TrL.v (v_len rfl sl71 rfl) rfl rfl (bl rfl) ?_
        refine TrL.v (v_fieldAddr' rfl fo73_1 rfl rfl) rfl rfl (bl rfl) ?_
        refine TrL.v (v_load (k := 0) rfl rfl rfl ty3 (fun _ => rfl) rfl rfl) rfl rfl (bl rfl) ?_
        refine TrL.v (v_arith rfl rfl rfl ar_gtr) rfl rfl (bl rfl) ?_
        refine TrL.nil (qthen_n ?_)
        rcases ifc hy2 with ⟨h21, hy2⟩ | ⟨h21, hy2⟩
        · refine Tr.cond_t rfl (bt_dec h21) ?_
          refine Tr.skip (qthen_n ?_)
          refine Tr.block ?_
          refine Tr.seq ?_
          refine Tr.region ?_
          refine TrL.v (v_move rfl rfl) rfl rfl (bl rfl) ?_
          obtain ⟨z6, hz6, hy2⟩ := bnd hy2
          refine TrL.v (v_indexAddr (k := 1) rfl sl71 ty85 rfl rfl rfl rfl hz6) rfl rfl (bl rfl) ?_
          refine TrL.v (v_fieldAddr rfl fo85_0 rfl) rfl rfl (bl rfl) ?_
          refine TrL.v (v_loadg (A := m16.2.2.1) (i := 0) (j := 0) (k := 1) rfl ty28 (fun _ => rfl) rfl rfl hz6 rfl rfl) rfl rfl (bl rfl) ?_
          refine TrL.v (v_fieldAddr' rfl fo73_3 rfl rfl) rfl rfl (bl rfl) ?_
          refine TrL.cons rfl (op_store' (k := 0) (c' := [.int .u64 p1.1, .int .i64 p1.2.1, .int .u64 p1.2.2.1, .int .u64 z6.1, .slice A1 p1.2.2.2.2.length c1]) rfl rfl rfl rfl rfl ty28 rfl (Nat.le_of_ble_eq_true rfl) (ones (oc rfl on)) rfl ?_)
          refine TrL.nil (qthen_n ?_)
          refine Tr.seq ?_
          refine Tr.region ?_
          refine TrL.v (v_move rfl rfl) rfl rfl (bl rfl) ?_
          refine TrL.v (v_fieldAddr' rfl fo73_3 rfl rfl) rfl rfl (bl rfl) ?_
          refine TrL.v (v_load (k := 0) rfl rfl rfl ty28 (fun _ => rfl) rfl rfl) rfl rfl (bl rfl) ?_
          obtain ⟨r8, hr8, hy2⟩ := bnd hy2
          refine TrL.cons rfl (op_call0' (vs := [.slice m16.2.2.1 s5.2.1.length m16.2.2.2.1, .int .u64 z6.1]) (cap := []) [1] rfl rfl (bl rfl) rfl rfl en92 (c_ref12_split s5.2.1 z6.1 m16.2.2.1 m16.2.2.2.1 r8 hr8) rfl (fun ret M' F' hR8 => ?_))
          obtain ⟨m20, rfl, rfl, rfl⟩ := hR8
          refine TrL.v (v_move rfl rfl) rfl rfl (bl rfl) ?_
          refine TrL.v (v_extract rfl rfl rfl) rfl rfl (bl rfl) ?_
          refine TrL.v (v_extract rfl rfl rfl) rfl rfl (bl rfl) ?_
          refine TrL.v (v_assign rfl rfl) rfl rfl (bl rfl) ?_
          refine TrL.v (v_assign rfl rfl) rfl rfl (bl rfl) ?_
          refine TrL.nil (qthen_n ?_)
          refine Tr.seq ?_
          refine Tr.region ?_
          refine TrL.v (v_move rfl rfl) rfl rfl (bl rfl) ?_
          refine TrL.v (v_move rfl rfl) rfl rfl (bl rfl) ?_
          obtain ⟨h22, hy2⟩ := rom hy2
          refine TrL.cons rfl (op_append' (rp := rp_u64_u64_u64) (xs := s5.1) (ys := r8.1) (k := 4) (kx := 0) (ky := 4) rfl (bl rfl) rfl sl71 ty85 ze85 rfl by85 rfl rfl rfl rfl rfl rfl rfl h22.1 h22.2 (fun A7 c7 o6 => ?_))
          refine TrL.v (v_assign rfl rfl) rfl rfl (bl rfl) ?_
          refine TrL.nil (qthen_n ?_)
          refine Tr.region ?_
          refine TrL.v (v_move rfl rfl) rfl rfl (bl rfl) ?_
          refine TrL.v (v_assign rfl rfl) rfl rfl (bl rfl) ?_
          have hz := Option.some.inj hy2
          subst hz
          refine TrL.nil (qblock_n (qloop_n ((A7, c7, m20.2.2.1, m20.2.2.2.1, o6, m20.2.2.2.2.2)) (Imp.re _ [2, 3, 4, 1] [6, 5, 2, 3] (sc rfl (sc rfl (sc rfl (sc rfl sn)))) (by decide) rfl rfl rfl)))
        · refine Tr.cond_f rfl (bf_dec h21) ?_
          have hz := Option.some.inj hy2
          subst hz
          refine Tr.exit (qthen_x (qloop_x (qblock_hit (qcut_hit ((s5.1, s5.2.1, s5.2.2)) ((m16.1, m16.2.1, m16.2.2.1, m16.2.2.2.1, m16.2.2.2.2.1, m16.2.2.2.2.2)) (hx4 _ rfl).symm (Imp.re _ [0, 1, 2, 3] [0, 1, 2, 3] (sc rfl (sc rfl (sc rfl (sc rfl sn)))) (by decide) rfl rfl rfl)))))
      · subst hd6
        refine (qthen_n ?_)
        refine Tr.seq ?_
        refine Tr.region ?_
        refine TrL.v (v_move rfl rfl) rfl rfl (bl rfl) ?_
        refine TrL.v (v_fieldAddr' rfl fo73_4 rfl rfl) rfl rfl (bl rfl) ?_
        refine TrL.cons rfl (op_store' (k := 0) (c' := [.int .u64 p1.1, .int .i64 p1.2.1, .int .u64 p1.2.2.1, .int .u64 x2.2.2, .slice m19.2.2.1 x2.2.1.length m19.2.2.2.1]) rfl rfl rfl rfl rfl ty71 rfl (Nat.le_of_ble_eq_true rfl) (ones (oc rfl on)) rfl ?_)
        refine TrL.nil (qthen_n ?_)
        refine Tr.seq ?_
        refine Tr.region ?_
        refine TrL.v (v_load (k := 0) rfl rfl rfl ty73 nofun rfl rfl) rfl rfl (bl rfl) ?_
        refine TrL.v (v_move rfl rfl) rfl rfl (bl rfl) ?_
        refine TrL.cons rfl (op_store' (k := 1) (c' := [.int .u64 p1.1, .int .i64 p1.2.1, .int .u64 p1.2.2.1, .int .u64 x2.2.2, .slice m19.2.2.1 x2.2.1.length m19.2.2.2.1]) rfl rfl rfl rfl rfl ty73 rfl (Nat.le_of_ble_eq_true rfl) (ones (oc rfl (oc rfl (oc rfl (oc rfl (oc rfl on)))))) rfl ?_)
        refine TrL.v (v_assign rfl rfl) rfl rfl (bl rfl) ?_
        refine TrL.nil (qthen_n ?_)
        have hz := Option.some.inj H
        subst hz
        refine Tr.ret (ret_r ⟨[(2, .pointer (some ⟨b4, 0, none⟩)), (3, .slice m19.1 x2.1.length m19.2.1)], [cells b4 [.int .u64 p1.1, .int .i64 p1.2.1, .int .u64 p1.2.2.1, .int .u64 x2.2.2, .slice m19.2.2.1 x2.2.1.length m19.2.2.2.1] 73], [slF rp_u64_u64_u64 m19.2.2.1 m19.2.2.2.1 x2.2.1, slF rp_u64_u64_u64 m19.1 m19.2.1 x2.1], []⟩ [.agg #[.int .u64 p1.1, .int .i64 p1.2.1, .int .u64 p1.2.2.1, .int .u64 x2.2.2, .slice m19.2.2.1 x2.2.1.length m19.2.2.2.1], .slice m19.1 x2.1.length m19.2.1] [] [cells b4 [.int .u64 p1.1, .int .i64 p1.2.1, .int .u64 p1.2.2.1, .int .u64 x2.2.2, .slice m19.2.2.1 x2.2.1.length m19.2.2.2.1] 73] (Imp.re _ [1] [1, 0] (sc rfl (sc rfl sn)) (by decide) rfl rfl rfl) rfl rfl ⟨((m19.2.2.1, m19.2.2.2.1, m19.1, m19.2.1)), rfl, rfl, rfl⟩ (.cons (resv_cell (k := 0) rfl rfl ty73 nofun rfl rfl) (.cons (resv_tmp rfl) .nil)))

theorem c_ref12_Move (p1 : Int × Int × Int × Int × List (Int × Int × Int)) (p2 : Int) (A1 : Option Addr) (c1 : Nat) (r : Int × Int × Int × Int × (List (Int × Int × Int)) × (List (Int × Int × Int)) × Int) (H : ref12_Move p1 p2 = some r) :
    Ctr Try.prog 140 [.agg #[.int .u64 p1.1, .int .i64 p1.2.1, .int .u64 p1.2.2.1, .int .u64 p1.2.2.2.1, .slice A1 p1.2.2.2.2.length c1], .int .u64 p2] [] [slF rp_u64_u64_u64 A1 c1 p1.2.2.2.2] (fun ret M' F' => ∃ m : Option Addr × Nat × Option Addr × Nat, ret = .tuple #[.agg #[.int .u64 r.1, .int .i64 r.2.1, .int .u64 r.2.2.1, .int .u64 r.2.2.2.1, .slice m.1 r.2.2.2.2.1.length m.2.1], .slice m.2.2.1 r.2.2.2.2.2.1.length m.2.2.2, .int .i64 r.2.2.2.2.2.2] ∧ M' = [] ∧ F' = [slF rp_u64_u64_u64 m.1 m.2.1 r.2.2.2.2.1, slF rp_u64_u64_u64 m.2.2.1 m.2.2.2 r.2.2.2.2.2.1]) := by
  unfold ref12_Move at H
  refine ctr_ofI (N := 24) Try.func140 rfl Try.ntmps140 rfl (Nat.le_of_ble_eq_true rfl) (fun γ0 w0 => ?_)
  refine Tr.seq ?_
  refine Tr.region ?_
  refine TrL.cons rfl (op_box' rfl (bl rfl) rfl rfl rfl (fun b4 => ?_))
  refine TrL.cons rfl (op_alloc' rfl (bl rfl) rfl ze73 (fun b5 => ?_))
  refine TrL.v (v_assign rfl rfl) rfl rfl (bl rfl) ?_
  refine TrL.v (v_assign rfl rfl) rfl rfl (bl rfl) ?_
  refine TrL.nil (qthen_n ?_)
  refine Tr.seq ?_
  refine Tr.seq ?_
  refine Tr.region ?_
  refine TrL.v (v_move rfl rfl) rfl rfl (bl rfl) ?_
  refine TrL.v (v_arith rfl rfl rfl ar_gtr) rfl rfl (bl rfl) ?_
  refine TrL.nil (qthen_n ?_)
  rcases ifc H with ⟨h2, H⟩ | ⟨h2, H⟩
  · refine Tr.cond_t rfl (bt_dec h2) ?_
    refine Tr.seq ?_
    refine Tr.region ?_
    refine TrL.v (v_build (vs := []) (out := [.int .u64 0, .int .i64 0, .int .u64 0, .int .u64 0, .slice none 0 0]) rfl pl73 ze73 rfl rfl) rfl rfl (bl rfl) ?_
    refine TrL.cons rfl (op_store' (k := 0) (c' := [.int .u64 0, .int .i64 0, .int .u64 0, .int .u64 0, .slice none 0 0]) rfl rfl rfl rfl rfl ty73 rfl (Nat.le_of_ble_eq_true rfl) (ones (oc rfl (oc rfl (oc rfl (oc rfl (oc rfl on)))))) rfl ?_)
    refine TrL.v (v_assign rfl rfl) rfl rfl (bl rfl) ?_
    refine TrL.v (v_assign rfl rfl) rfl rfl (bl rfl) ?_
    refine TrL.nil (qthen_n ?_)
    have hz := Option.some.inj H
    subst hz
    refine Tr.ret (qthen_r (ret_r ⟨[(4, .pointer (some ⟨b5, 0, none⟩)), (5, .slice none 0 0), (6, .int .i64 6)], [cells b5 [.int .u64 0, .int .i64 0, .int .u64 0, .int .u64 0, .slice none 0 0] 73], [slF rp_u64_u64_u64 none 0 (([] : List (Int × Int × Int))), slF rp_u64_u64_u64 none 0 (([] : List (Int × Int × Int)))], []⟩ [.agg #[.int .u64 0, .int .i64 0, .int .u64 0, .int .u64 0, .slice none 0 0], .slice none 0 0, .int .i64 6] [] [cells b5 [.int .u64 0, .int .i64 0, .int .u64 0, .int .u64 0, .slice none 0 0] 73] (Imp.addF' _ (nilF rp_u64_u64_u64) (Imp.re _ [0] [1, 1] (sc rfl (sc rfl (sc rfl sn))) (by decide) rfl rfl rfl)) rfl rfl ⟨((none, 0, none, 0)), rfl, rfl, rfl⟩ (.cons (resv_cell (k := 0) rfl rfl ty73 nofun rfl rfl) (.cons (resv_tmp rfl) (.cons (resv_tmp rfl) .nil)))))
  · refine Tr.cond_f rfl (bf_dec h2) ?_
    refine Tr.skip (qthen_n ?_)
    refine Tr.seq ?_
    refine Tr.region ?_
    refine TrL.v (v_fieldAddr' rfl fo73_2 rfl rfl) rfl rfl (bl rfl) ?_
    refine TrL.v (v_load (k := 1) rfl rfl rfl ty28 (fun _ => rfl) rfl rfl) rfl rfl (bl rfl) ?_
    refine TrL.v (v_move rfl rfl) rfl rfl (bl rfl) ?_
    refine TrL.v (v_max rfl rfl rfl) rfl rfl (bl rfl) ?_
    refine TrL.v (v_fieldAddr' rfl fo73_2 rfl rfl) rfl rfl (bl rfl) ?_
    refine TrL.cons rfl (op_store' (k := 1) (c' := [.int .u64 p1.1, .int .i64 p1.2.1, .int .u64 (max p1.2.2.1 p2), .int .u64 p1.2.2.2.1, .slice A1 p1.2.2.2.2.length c1]) rfl rfl rfl rfl rfl ty28 rfl (Nat.le_of_ble_eq_true rfl) (ones (oc rfl on)) rfl ?_)
    refine TrL.nil (qthen_n ?_)
    refine Tr.seq ?_
    refine Tr.region ?_
    refine TrL.v (v_load (k := 1) rfl rfl rfl ty73 nofun rfl rfl) rfl rfl (bl rfl) ?_
    obtain ⟨r2, hr2, H⟩ := bnd H
    refine TrL.cons rfl (op_call0' (vs := [.agg #[.int .u64 p1.1, .int .i64 p1.2.1, .int .u64 (max p1.2.2.1 p2), .int .u64 p1.2.2.2.1, .slice A1 p1.2.2.2.2.length c1]]) (cap := []) [0] rfl rfl (bl rfl) rfl rfl en170 (c_ref12_settle ((p1.1, p1.2.1, max p1.2.2.1 p2, p1.2.2.2.1, p1.2.2.2.2)) A1 c1 r2 hr2) rfl (fun ret M' F' hR2 => ?_))
    obtain ⟨m2, rfl, rfl, rfl⟩ := hR2
    refine TrL.v (v_move rfl rfl) rfl rfl (bl rfl) ?_
    refine TrL.v (v_extract rfl rfl rfl) rfl rfl (bl rfl) ?_
    refine TrL.v (v_extract rfl rfl rfl) rfl rfl (bl rfl) ?_
    refine TrL.cons rfl (op_alloc' rfl (bl rfl) rfl ze73 (fun b6 => ?_))
    refine TrL.cons rfl (op_store' (k := 0) (c' := [.int .u64 (((p1.1, p1.2.1, max p1.2.2.1 p2, p1.2.2.2.1, p1.2.2.2.2)).1), .int .i64 (((p1.1, p1.2.1, max p1.2.2.1 p2, p1.2.2.2.1, p1.2.2.2.2)).2.1), .int .u64 (((p1.1, p1.2.1, max p1.2.2.1 p2, p1.2.2.2.1, p1.2.2.2.2)).2.2.1), .int .u64 r2.1, .slice m2.1 r2.2.1.length m2.2.1]) rfl rfl rfl rfl rfl ty73 rfl (Nat.le_of_ble_eq_true rfl) (ones (oc rfl (oc rfl (oc rfl (oc rfl (oc rfl on)))))) rfl ?_)
    refine TrL.v (v_assign rfl rfl) rfl rfl (bl rfl) ?_
    refine TrL.nil (qthen_n ?_)
    refine Tr.seq ?_
    refine Tr.region ?_
    refine TrL.v (v_load (k := 0) rfl rfl rfl ty73 nofun rfl rfl) rfl rfl (bl rfl) ?_
    refine TrL.v (v_move rfl rfl) rfl rfl (bl rfl) ?_
    refine TrL.cons rfl (op_store' (k := 1) (c' := [.int .u64 (((p1.1, p1.2.1, max p1.2.2.1 p2, p1.2.2.2.1, p1.2.2.2.2)).1), .int .i64 (((p1.1, p1.2.1, max p1.2.2.1 p2, p1.2.2.2.1, p1.2.2.2.2)).2.1), .int .u64 (((p1.1, p1.2.1, max p1.2.2.1 p2, p1.2.2.2.1, p1.2.2.2.2)).2.2.1), .int .u64 r2.1, .slice m2.1 r2.2.1.length m2.2.1]) rfl rfl rfl rfl rfl ty73 rfl (Nat.le_of_ble_eq_true rfl) (ones (oc rfl (oc rfl (oc rfl (oc rfl (oc rfl on)))))) rfl ?_)
    refine TrL.v (v_assign rfl rfl) rfl rfl (bl rfl) ?_
    refine TrL.v (v_assign rfl rfl) rfl rfl (bl rfl) ?_
    refine TrL.nil (qthen_n ?_)
    have hz := Option.some.inj H
    subst hz
    refine Tr.ret (ret_r ⟨[(4, .pointer (some ⟨b5, 0, none⟩)), (5, .slice m2.2.2.1 r2.2.2.length m2.2.2.2), (6, .int .i64 0)], [cells b5 [.int .u64 (((p1.1, p1.2.1, max p1.2.2.1 p2, p1.2.2.2.1, p1.2.2.2.2)).1), .int .i64 (((p1.1, p1.2.1, max p1.2.2.1 p2, p1.2.2.2.1, p1.2.2.2.2)).2.1), .int .u64 (((p1.1, p1.2.1, max p1.2.2.1 p2, p1.2.2.2.1, p1.2.2.2.2)).2.2.1), .int .u64 r2.1, .slice m2.1 r2.2.1.length m2.2.1] 73], [slF rp_u64_u64_u64 m2.1 m2.2.1 r2.2.1, slF rp_u64_u64_u64 m2.2.2.1 m2.2.2.2 r2.2.2], []⟩ [.agg #[.int .u64 (((p1.1, p1.2.1, max p1.2.2.1 p2, p1.2.2.2.1, p1.2.2.2.2)).1), .int .i64 (((p1.1, p1.2.1, max p1.2.2.1 p2, p1.2.2.2.1, p1.2.2.2.2)).2.1), .int .u64 (((p1.1, p1.2.1, max p1.2.2.1 p2, p1.2.2.2.1, p1.2.2.2.2)).2.2.1), .int .u64 r2.1, .slice m2.1 r2.2.1.length m2.2.1], .slice m2.2.2.1 r2.2.2.length m2.2.2.2, .int .i64 0] [] [cells b5 [.int .u64 (((p1.1, p1.2.1, max p1.2.2.1 p2, p1.2.2.2.1, p1.2.2.2.2)).1), .int .i64 (((p1.1, p1.2.1, max p1.2.2.1 p2, p1.2.2.2.1, p1.2.2.2.2)).2.1), .int .u64 (((p1.1, p1.2.1, max p1.2.2.1 p2, p1.2.2.2.1, p1.2.2.2.2)).2.2.1), .int .u64 r2.1, .slice m2.1 r2.2.1.length m2.2.1] 73] (Imp.re _ [1] [1, 2] (sc rfl (sc rfl (sc rfl sn))) (by decide) rfl rfl rfl) rfl rfl ⟨((m2.1, m2.2.1, m2.2.2.1, m2.2.2.2)), rfl, rfl, rfl⟩ (.cons (resv_cell (k := 0) rfl rfl ty73 nofun rfl rfl) (.cons (resv_tmp rfl) (.cons (resv_tmp rfl) .nil))))

theorem c_ref12_Push (p1 : Int × Int × Int × Int × List (Int × Int × Int)) (p2 : Int × Int × Int) (A1 : Option Addr) (c1 : Nat) (r : Int × Int × Int × Int × (List (Int × Int × Int)) × (List (Int × Int × Int)) × Int) (H : ref12_Push p1 p2 = some r) :
    Ctr Try.prog 141 [.agg #[.int .u64 p1.1, .int .i64 p1.2.1, .int .u64 p1.2.2.1, .int .u64 p1.2.2.2.1, .slice A1 p1.2.2.2.2.length c1], .agg #[.int .u64 p2.1, .int .u64 p2.2.1, .int .u64 p2.2.2]] [] [slF rp_u64_u64_u64 A1 c1 p1.2.2.2.2] (fun ret M' F' => ∃ m : Option Addr × Nat × Option Addr × Nat, ret = .tuple #[.agg #[.int .u64 r.1, .int .i64 r.2.1, .int .u64 r.2.2.1, .int .u64 r.2.2.2.1, .slice m.1 r.2.2.2.2.1.length m.2.1], .slice m.2.2.1 r.2.2.2.2.2.1.length m.2.2.2, .int .i64 r.2.2.2.2.2.2] ∧ M' = [] ∧ F' = [slF rp_u64_u64_u64 m.1 m.2.1 r.2.2.2.2.1, slF rp_u64_u64_u64 m.2.2.1 m.2.2.2 r.2.2.2.2.2.1]) := by
  unfold ref12_Push at H
  refine ctr_ofI (N := 62) Try.func141 rfl Try.ntmps141 rfl (Nat.le_of_ble_eq_true rfl) (fun γ0 w0 => ?_)
  refine Tr.seq ?_
  refine Tr.region ?_
  refine TrL.cons rfl (op_box' rfl (bl rfl) rfl rfl rfl (fun b5 => ?_))
  refine TrL.cons rfl (op_box' rfl (bl rfl) rfl rfl rfl (fun b6 => ?_))
  refine TrL.cons rfl (op_alloc' rfl (bl rfl) rfl ze73 (fun b7 => ?_))
  refine TrL.v (v_assign rfl rfl) rfl rfl (bl rfl) ?_
  refine TrL.v (v_assign rfl rfl) rfl rfl (bl rfl) ?_
  refine TrL.nil (qthen_n ?_)
  refine Tr.seq ?_
  refine Tr.block ?_
  refine Tr.seq ?_
  refine Tr.region ?_
  refine TrL.v (v_fieldAddr' rfl fo85_2 rfl rfl) rfl rfl (bl rfl) ?_
  refine TrL.v (v_load (k := 1) rfl rfl rfl ty28 (fun _ => rfl) rfl rfl) rfl rfl (bl rfl) ?_
  refine TrL.v (v_arith rfl rfl rfl ar_eql) rfl rfl (bl rfl) ?_
  refine TrL.v (v_assign rfl rfl) rfl rfl (bl rfl) ?_
  refine TrL.nil (qthen_n ?_)
  rcases ifc H with ⟨h7, H⟩ | ⟨h7, H⟩
  · refine Tr.cond_t rfl (bt_dec h7) ?_
    refine Tr.seq ?_
    refine Tr.region ?_
    refine TrL.v (v_build (vs := []) (out := [.int .u64 0, .int .i64 0, .int .u64 0, .int .u64 0, .slice none 0 0]) rfl pl73 ze73 rfl rfl) rfl rfl (bl rfl) ?_
    refine TrL.cons rfl (op_store' (k := 0) (c' := [.int .u64 0, .int .i64 0, .int .u64 0, .int .u64 0, .slice none 0 0]) rfl rfl rfl rfl rfl ty73 rfl (Nat.le_of_ble_eq_true rfl) (ones (oc rfl (oc rfl (oc rfl (oc rfl (oc rfl on)))))) rfl ?_)
    refine TrL.v (v_assign rfl rfl) rfl rfl (bl rfl) ?_
    refine TrL.v (v_assign rfl rfl) rfl rfl (bl rfl) ?_
    refine TrL.nil (qthen_n ?_)
    have hz := Option.some.inj H
    subst hz
    refine Tr.ret (qblock_r (qthen_r (ret_r ⟨[(4, .pointer (some ⟨b7, 0, none⟩)), (5, .slice none 0 0), (6, .int .i64 1)], [cells b7 [.int .u64 0, .int .i64 0, .int .u64 0, .int .u64 0, .slice none 0 0] 73], [slF rp_u64_u64_u64 none 0 (([] : List (Int × Int × Int))), slF rp_u64_u64_u64 none 0 (([] : List (Int × Int × Int)))], []⟩ [.agg #[.int .u64 0, .int .i64 0, .int .u64 0, .int .u64 0, .slice none 0 0], .slice none 0 0, .int .i64 1] [] [cells b7 [.int .u64 0, .int .i64 0, .int .u64 0, .int .u64 0, .slice none 0 0] 73] (Imp.addF' _ (nilF rp_u64_u64_u64) (Imp.re _ [0] [1, 1] (sc rfl (sc rfl (sc rfl sn))) (by decide) rfl rfl rfl)) rfl rfl ⟨((none, 0, none, 0)), rfl, rfl, rfl⟩ (.cons (resv_cell (k := 0) rfl rfl ty73 nofun rfl rfl) (.cons (resv_tmp rfl) (.cons (resv_tmp rfl) .nil))))))
  · refine Tr.cond_f rfl (bf_dec h7) ?_
    refine Tr.seq ?_
    refine Tr.region ?_
    refine TrL.v (v_fieldAddr' rfl fo85_0 rfl rfl) rfl rfl (bl rfl) ?_
    refine TrL.v (v_load (k := 1) rfl rfl rfl ty28 (fun _ => rfl) rfl rfl) rfl rfl (bl rfl) ?_
    refine TrL.v (v_arith rfl rfl rfl ar_gtr) rfl rfl (bl rfl) ?_
    refine TrL.v (v_assign rfl rfl) rfl rfl (bl rfl) ?_
    refine TrL.nil (qthen_n ?_)
    rcases ifc H with ⟨h8, H⟩ | ⟨h8, H⟩
    · refine Tr.cond_t rfl (bt_dec h8) ?_
      refine Tr.seq ?_
      refine Tr.region ?_
      refine TrL.v (v_build (vs := []) (out := [.int .u64 0, .int .i64 0, .int .u64 0, .int .u64 0, .slice none 0 0]) rfl pl73 ze73 rfl rfl) rfl rfl (bl rfl) ?_
      refine TrL.cons rfl (op_store' (k := 0) (c' := [.int .u64 0, .int .i64 0, .int .u64 0, .int .u64 0, .slice none 0 0]) rfl rfl rfl rfl rfl ty73 rfl (Nat.le_of_ble_eq_true rfl) (ones (oc rfl (oc rfl (oc rfl (oc rfl (oc rfl on)))))) rfl ?_)
      refine TrL.v (v_assign rfl rfl) rfl rfl (bl rfl) ?_
      refine TrL.v (v_assign rfl rfl) rfl rfl (bl rfl) ?_
      refine TrL.nil (qthen_n ?_)
      have hz := Option.some.inj H
      subst hz
      refine Tr.ret (qblock_r (qthen_r (ret_r ⟨[(4, .pointer (some ⟨b7, 0, none⟩)), (5, .slice none 0 0), (6, .int .i64 6)], [cells b7 [.int .u64 0, .int .i64 0, .int .u64 0, .int .u64 0, .slice none 0 0] 73], [slF rp_u64_u64_u64 none 0 (([] : List (Int × Int × Int))), slF rp_u64_u64_u64 none 0 (([] : List (Int × Int × Int)))], []⟩ [.agg #[.int .u64 0, .int .i64 0, .int .u64 0, .int .u64 0, .slice none 0 0], .slice none 0 0, .int .i64 6] [] [cells b7 [.int .u64 0, .int .i64 0, .int .u64 0, .int .u64 0, .slice none 0 0] 73] (Imp.addF' _ (nilF rp_u64_u64_u64) (Imp.re _ [0] [1, 1] (sc rfl (sc rfl (sc rfl sn))) (by decide) rfl rfl rfl)) rfl rfl ⟨((none, 0, none, 0)), rfl, rfl, rfl⟩ (.cons (resv_cell (k := 0) rfl rfl ty73 nofun rfl rfl) (.cons (resv_tmp rfl) (.cons (resv_tmp rfl) .nil))))))
    · refine Tr.cond_f rfl (bf_dec h8) ?_
      refine Tr.seq ?_
      refine Tr.region ?_
      refine TrL.v (v_fieldAddr' rfl fo85_0 rfl rfl) rfl rfl (bl rfl) ?_
      refine TrL.v (v_load (k := 1) rfl rfl rfl ty28 (fun _ => rfl) rfl rfl) rfl rfl (bl rfl) ?_
      refine TrL.v (v_fieldAddr' rfl fo73_3 rfl rfl) rfl rfl (bl rfl) ?_
      refine TrL.v (v_load (k := 2) rfl rfl rfl ty28 (fun _ => rfl) rfl rfl) rfl rfl (bl rfl) ?_
      refine TrL.v (v_arith rfl rfl rfl ar_lss) rfl rfl (bl rfl) ?_
      refine TrL.v (v_assign rfl rfl) rfl rfl (bl rfl) ?_
      refine TrL.nil (qthen_n ?_)
      rcases ifc H with ⟨h9, H⟩ | ⟨h9, H⟩
      · refine Tr.cond_t rfl (bt_dec h9) ?_
        refine Tr.seq ?_
        refine Tr.region ?_
        refine TrL.v (v_build (vs := []) (out := [.int .u64 0, .int .i64 0, .int .u64 0, .int .u64 0, .slice none 0 0]) rfl pl73 ze73 rfl rfl) rfl rfl (bl rfl) ?_
        refine TrL.cons rfl (op_store' (k := 0) (c' := [.int .u64 0, .int .i64 0, .int .u64 0, .int .u64 0, .slice none 0 0]) rfl rfl rfl rfl rfl ty73 rfl (Nat.le_of_ble_eq_true rfl) (ones (oc rfl (oc rfl (oc rfl (oc rfl (oc rfl on)))))) rfl ?_)
        refine TrL.v (v_assign rfl rfl) rfl rfl (bl rfl) ?_
        refine TrL.v (v_assign rfl rfl) rfl rfl (bl rfl) ?_
        refine TrL.nil (qthen_n ?_)
        have hz := Option.some.inj H
        subst hz
        refine Tr.ret (qblock_r (qthen_r (ret_r ⟨[(4, .pointer (some ⟨b7, 0, none⟩)), (5, .slice none 0 0), (6, .int .i64 4)], [cells b7 [.int .u64 0, .int .i64 0, .int .u64 0, .int .u64 0, .slice none 0 0] 73], [slF rp_u64_u64_u64 none 0 (([] : List (Int × Int × Int))), slF rp_u64_u64_u64 none 0 (([] : List (Int × Int × Int)))], []⟩ [.agg #[.int .u64 0, .int .i64 0, .int .u64 0, .int .u64 0, .slice none 0 0], .slice none 0 0, .int .i64 4] [] [cells b7 [.int .u64 0, .int .i64 0, .int .u64 0, .int .u64 0, .slice none 0 0] 73] (Imp.addF' _ (nilF rp_u64_u64_u64) (Imp.re _ [0] [1, 1] (sc rfl (sc rfl (sc rfl sn))) (by decide) rfl rfl rfl)) rfl rfl ⟨((none, 0, none, 0)), rfl, rfl, rfl⟩ (.cons (resv_cell (k := 0) rfl rfl ty73 nofun rfl rfl) (.cons (resv_tmp rfl) (.cons (resv_tmp rfl) .nil))))))
      · refine Tr.cond_f rfl (bf_dec h9) ?_
        refine Tr.skip (qblock_n (qthen_n ?_))
        refine Tr.seq ?_
        refine Tr.region ?_
        refine TrL.v (v_fieldAddr' rfl fo73_2 rfl rfl) rfl rfl (bl rfl) ?_
        refine TrL.v (v_load (k := 2) rfl rfl rfl ty28 (fun _ => rfl) rfl rfl) rfl rfl (bl rfl) ?_
        refine TrL.v (v_fieldAddr' rfl fo85_0 rfl rfl) rfl rfl (bl rfl) ?_
        refine TrL.v (v_load (k := 1) rfl rfl rfl ty28 (fun _ => rfl) rfl rfl) rfl rfl (bl rfl) ?_
        refine TrL.v (v_max rfl rfl rfl) rfl rfl (bl rfl) ?_
        refine TrL.v (v_fieldAddr' rfl fo73_2 rfl rfl) rfl rfl (bl rfl) ?_
        refine TrL.cons rfl (op_store' (k := 2) (c' := [.int .u64 p1.1, .int .i64 p1.2.1, .int .u64 (max p1.2.2.1 p2.1), .int .u64 p1.2.2.2.1, .slice A1 p1.2.2.2.2.length c1]) rfl rfl rfl rfl rfl ty28 rfl (Nat.le_of_ble_eq_true rfl) (ones (oc rfl on)) rfl ?_)
        refine TrL.nil (qthen_n ?_)
        refine Tr.seq ?_
        refine Tr.region ?_
        refine TrL.v (v_fieldAddr' rfl fo73_4 rfl rfl) rfl rfl (bl rfl) ?_
        refine TrL.v (v_load (k := 2) rfl rfl rfl ty71 (fun _ => rfl) rfl rfl) rfl rfl (bl rfl) ?_
        refine TrL.v (v_fieldAddr' rfl fo85_0 rfl rfl) rfl rfl (bl rfl) ?_
        refine TrL.v (v_load (k := 1) rfl rfl rfl ty28 (fun _ => rfl) rfl rfl) rfl rfl (bl rfl) ?_
        obtain ⟨r3, hr3, H⟩ := bnd H
        refine TrL.cons rfl (op_call0' (vs := [.slice A1 p1.2.2.2.2.length c1, .int .u64 p2.1]) (cap := []) [0] rfl rfl (bl rfl) rfl rfl en92 (c_ref12_split p1.2.2.2.2 p2.1 A1 c1 r3 hr3) rfl (fun ret M' F' hR3 => ?_))
        obtain ⟨m3, rfl, rfl, rfl⟩ := hR3
        refine TrL.v (v_move rfl rfl) rfl rfl (bl rfl) ?_
        refine TrL.v (v_extract rfl rfl rfl) rfl rfl (bl rfl) ?_
        refine TrL.v (v_extract rfl rfl rfl) rfl rfl (bl rfl) ?_
        refine TrL.v (v_assign rfl rfl) rfl rfl (bl rfl) ?_
        refine TrL.v (v_assign rfl rfl) rfl rfl (bl rfl) ?_
        refine TrL.nil (qthen_n ?_)
        refine Tr.seq ?_
        refine Tr.region ?_
        refine TrL.cons rfl (op_buildSlice' (rp := rp_u64_u64_u64) (xs := []) (vs := []) (out := []) rfl (bl rfl) rfl sl71 ty85 ze85 rfl rfl (by decide) (by decide) rfl (fun γ w hF => rown) (fun A7 => ?_))
        refine TrL.v (v_move rfl rfl) rfl rfl (bl rfl) ?_
        refine TrL.full' (E := 85) (sz := 3) (A := A7) (n := 0) ?_
        obtain ⟨h10, H⟩ := rom H
        refine TrL.cons rfl (op_append' (rp := rp_u64_u64_u64) (xs := ([] : List (Int × Int × Int))) (ys := r3.1) (k := 0) (kx := 3) (ky := 1) rfl (bl rfl) rfl sl71 ty85 ze85 rfl by85 rfl rfl rfl rfl rfl rfl rfl h10.1 h10.2 (fun A8 c5 o4 => ?_))
        refine TrL.v (v_assign rfl rfl) rfl rfl (bl rfl) ?_
        refine TrL.nil (qthen_n ?_)
        refine Tr.seq ?_
        refine Tr.region ?_
        refine TrL.v (v_move rfl rfl) rfl rfl (bl rfl) ?_
        refine TrL.v (v_load (k := 4) rfl rfl rfl ty85 nofun rfl rfl) rfl rfl (bl rfl) ?_
        refine TrL.cons rfl (op_buildSlice' (rp := rp_u64_u64_u64) (xs := [p2]) (vs := [.agg #[.int .u64 p2.1, .int .u64 p2.2.1, .int .u64 p2.2.2]]) (out := [.int .u64 p2.1, .int .u64 p2.2.1, .int .u64 p2.2.2]) rfl (bl rfl) rfl sl71 ty85 ze85 rfl rfl (by decide) (by decide) rfl (fun γ w hF => (rowc rfl rown rfl)) (fun A9 => ?_))
        obtain ⟨h11, H⟩ := rom H
        refine TrL.cons rfl (op_append' (rp := rp_u64_u64_u64) (xs := r3.1) (ys := [p2]) (k := 0) (kx := 4) (ky := 5) rfl (bl rfl) rfl sl71 ty85 ze85 rfl by85 rfl rfl rfl rfl rfl rfl rfl h11.1 h11.2 (fun A10 c6 o5 => ?_))
        refine TrL.v (v_assign rfl rfl) rfl rfl (bl rfl) ?_
        refine TrL.nil (qthen_n ?_)
        refine Tr.seq ?_
        refine Tr.region ?_
        refine TrL.v (v_move rfl rfl) rfl rfl (bl rfl) ?_
        refine TrL.v (v_move rfl rfl) rfl rfl (bl rfl) ?_
        obtain ⟨h12, H⟩ := rom H
        refine TrL.cons rfl (op_append' (rp := rp_u64_u64_u64) (xs := r3.1 ++ ([p2])) (ys := r3.2) (k := 0) (kx := 6) (ky := 2) rfl (bl rfl) rfl sl71 ty85 ze85 rfl by85 rfl rfl rfl rfl rfl rfl rfl h12.1 h12.2 (fun A11 c7 o6 => ?_))
        refine TrL.v (v_assign rfl rfl) rfl rfl (bl rfl) ?_
        refine TrL.nil (qthen_n ?_)
        refine Tr.seq ?_
        refine Tr.region ?_
        refine TrL.v (v_move rfl rfl) rfl rfl (bl rfl) ?_
        refine TrL.v (v_fieldAddr' rfl fo73_4 rfl rfl) rfl rfl (bl rfl) ?_
        refine TrL.cons rfl (op_store' (k := 5) (c' := [.int .u64 p1.1, .int .i64 p1.2.1, .int .u64 (max p1.2.2.1 p2.1), .int .u64 p1.2.2.2.1, .slice A11 (((r3.1 ++ ([p2])) ++ r3.2).length) c7]) rfl rfl rfl rfl rfl ty71 rfl (Nat.le_of_ble_eq_true rfl) (ones (oc rfl on)) rfl ?_)
        refine TrL.nil (qthen_n ?_)
        refine Tr.seq ?_
        refine Tr.region ?_
        refine TrL.v (v_load (k := 5) rfl rfl rfl ty73 nofun rfl rfl) rfl rfl (bl rfl) ?_
        obtain ⟨r4, hr4, H⟩ := bnd H
        refine TrL.cons rfl (op_call0' (vs := [.agg #[.int .u64 p1.1, .int .i64 p1.2.1, .int .u64 (max p1.2.2.1 p2.1), .int .u64 p1.2.2.2.1, .slice A11 (((r3.1 ++ ([p2])) ++ r3.2).length) c7]]) (cap := []) [7] rfl rfl (bl rfl) rfl rfl en170 (c_ref12_settle ((p1.1, p1.2.1, max p1.2.2.1 p2.1, p1.2.2.2.1, (r3.1 ++ ([p2])) ++ r3.2)) A11 c7 r4 hr4) rfl (fun ret M' F' hR4 => ?_))
        obtain ⟨m4, rfl, rfl, rfl⟩ := hR4
        refine TrL.v (v_move rfl rfl) rfl rfl (bl rfl) ?_
        refine TrL.v (v_extract rfl rfl rfl) rfl rfl (bl rfl) ?_
        refine TrL.v (v_extract rfl rfl rfl) rfl rfl (bl rfl) ?_
        refine TrL.cons rfl (op_alloc' rfl (bl rfl) rfl ze73 (fun b8 => ?_))
        refine TrL.cons rfl (op_store' (k := 0) (c' := [.int .u64 (((p1.1, p1.2.1, max p1.2.2.1 p2.1, p1.2.2.2.1, (r3.1 ++ ([p2])) ++ r3.2)).1), .int .i64 (((p1.1, p1.2.1, max p1.2.2.1 p2.1, p1.2.2.2.1, (r3.1 ++ ([p2])) ++ r3.2)).2.1), .int .u64 (((p1.1, p1.2.1, max p1.2.2.1 p2.1, p1.2.2.2.1, (r3.1 ++ ([p2])) ++ r3.2)).2.2.1), .int .u64 r4.1, .slice m4.1 r4.2.1.length m4.2.1]) rfl rfl rfl rfl rfl ty73 rfl (Nat.le_of_ble_eq_true rfl) (ones (oc rfl (oc rfl (oc rfl (oc rfl (oc rfl on)))))) rfl ?_)
        refine TrL.v (v_assign rfl rfl) rfl rfl (bl rfl) ?_
        refine TrL.nil (qthen_n ?_)
        refine Tr.seq ?_
        refine Tr.region ?_
        refine TrL.v (v_load (k := 0) rfl rfl rfl ty73 nofun rfl rfl) rfl rfl (bl rfl) ?_
        refine TrL.v (v_move rfl rfl) rfl rfl (bl rfl) ?_
        refine TrL.cons rfl (op_store' (k := 4) (c' := [.int .u64 (((p1.1, p1.2.1, max p1.2.2.1 p2.1, p1.2.2.2.1, (r3.1 ++ ([p2])) ++ r3.2)).1), .int .i64 (((p1.1, p1.2.1, max p1.2.2.1 p2.1, p1.2.2.2.1, (r3.1 ++ ([p2])) ++ r3.2)).2.1), .int .u64 (((p1.1, p1.2.1, max p1.2.2.1 p2.1, p1.2.2.2.1, (r3.1 ++ ([p2])) ++ r3.2)).2.2.1), .int .u64 r4.1, .slice m4.1 r4.2.1.length m4.2.1]) rfl rfl rfl rfl rfl ty73 rfl (Nat.le_of_ble_eq_true rfl) (ones (oc rfl (oc rfl (oc rfl (oc rfl (oc rfl on)))))) rfl ?_)
        refine TrL.v (v_assign rfl rfl) rfl rfl (bl rfl) ?_
        refine TrL.v (v_assign rfl rfl) rfl rfl (bl rfl) ?_
        refine TrL.nil (qthen_n ?_)
        have hz := Option.some.inj H
        subst hz
        refine Tr.ret (ret_r ⟨[(4, .pointer (some ⟨b7, 0, none⟩)), (5, .slice m4.2.2.1 r4.2.2.length m4.2.2.2), (6, .int .i64 0)], [cells b7 [.int .u64 (((p1.1, p1.2.1, max p1.2.2.1 p2.1, p1.2.2.2.1, (r3.1 ++ ([p2])) ++ r3.2)).1), .int .i64 (((p1.1, p1.2.1, max p1.2.2.1 p2.1, p1.2.2.2.1, (r3.1 ++ ([p2])) ++ r3.2)).2.1), .int .u64 (((p1.1, p1.2.1, max p1.2.2.1 p2.1, p1.2.2.2.1, (r3.1 ++ ([p2])) ++ r3.2)).2.2.1), .int .u64 r4.1, .slice m4.1 r4.2.1.length m4.2.1] 73], [slF rp_u64_u64_u64 m4.1 m4.2.1 r4.2.1, slF rp_u64_u64_u64 m4.2.2.1 m4.2.2.2 r4.2.2], []⟩ [.agg #[.int .u64 (((p1.1, p1.2.1, max p1.2.2.1 p2.1, p1.2.2.2.1, (r3.1 ++ ([p2])) ++ r3.2)).1), .int .i64 (((p1.1, p1.2.1, max p1.2.2.1 p2.1, p1.2.2.2.1, (r3.1 ++ ([p2])) ++ r3.2)).2.1), .int .u64 (((p1.1, p1.2.1, max p1.2.2.1 p2.1, p1.2.2.2.1, (r3.1 ++ ([p2])) ++ r3.2)).2.2.1), .int .u64 r4.1, .slice m4.1 r4.2.1.length m4.2.1], .slice m4.2.2.1 r4.2.2.length m4.2.2.2, .int .i64 0] [] [cells b7 [.int .u64 (((p1.1, p1.2.1, max p1.2.2.1 p2.1, p1.2.2.2.1, (r3.1 ++ ([p2])) ++ r3.2)).1), .int .i64 (((p1.1, p1.2.1, max p1.2.2.1 p2.1, p1.2.2.2.1, (r3.1 ++ ([p2])) ++ r3.2)).2.1), .int .u64 (((p1.1, p1.2.1, max p1.2.2.1 p2.1, p1.2.2.2.1, (r3.1 ++ ([p2])) ++ r3.2)).2.2.1), .int .u64 r4.1, .slice m4.1 r4.2.1.length m4.2.1] 73] (Imp.re _ [4] [8, 9] (sc rfl (sc rfl (sc rfl sn))) (by decide) rfl rfl rfl) rfl rfl ⟨((m4.1, m4.2.1, m4.2.2.1, m4.2.2.2)), rfl, rfl, rfl⟩ (.cons (resv_cell (k := 0) rfl rfl ty73 nofun rfl rfl) (.cons (resv_tmp rfl) (.cons (resv_tmp rfl) .nil))))

theorem c_ref12_one (p1 : Int × Int × Int × Int × List (Int × Int × Int)) (p2 : Int × Int × Int) (A1 : Option Addr) (c1 : Nat) (r : Int × Int × Int × Int × (List (Int × Int × Int)) × (List (Int × Int × Int)) × Int) (H : ref12_one p1 p2 = some r) :
    Ctr Try.prog 85 [.agg #[.int .u64 p1.1, .int .i64 p1.2.1, .int .u64 p1.2.2.1, .int .u64 p1.2.2.2.1, .slice A1 p1.2.2.2.2.length c1], .agg #[.int .u64 p2.1, .int .u64 p2.2.1, .int .u64 p2.2.2]] [] [slF rp_u64_u64_u64 A1 c1 p1.2.2.2.2] (fun ret M' F' => ∃ m : Option Addr × Nat × Option Addr × Nat, ret = .tuple #[.agg #[.int .u64 r.1, .int .i64 r.2.1, .int .u64 r.2.2.1, .int .u64 r.2.2.2.1, .slice m.1 r.2.2.2.2.1.length m.2.1], .slice m.2.2.1 r.2.2.2.2.2.1.length m.2.2.2, .int .i64 r.2.2.2.2.2.2] ∧ M' = [] ∧ F' = [slF rp_u64_u64_u64 m.1 m.2.1 r.2.2.2.2.1, slF rp_u64_u64_u64 m.2.2.1 m.2.2.2 r.2.2.2.2.2.1]) := by
  unfold ref12_one at H
  refine ctr_ofI (N := 23) Try.func85 rfl Try.ntmps85 rfl (Nat.le_of_ble_eq_true rfl) (fun γ0 w0 => ?_)
  refine Tr.seq ?_
  refine Tr.region ?_
  refine TrL.cons rfl (op_box' rfl (bl rfl) rfl rfl rfl (fun b4 => ?_))
  refine TrL.cons rfl (op_box' rfl (bl rfl) rfl rfl rfl (fun b5 => ?_))
  refine TrL.cons rfl (op_alloc' rfl (bl rfl) rfl ze73 (fun b6 => ?_))
  refine TrL.v (v_assign rfl rfl) rfl rfl (bl rfl) ?_
  refine TrL.v (v_assign rfl rfl) rfl rfl (bl rfl) ?_
  refine TrL.nil (qthen_n ?_)
  refine Tr.seq ?_
  refine Tr.seq ?_
  refine Tr.region ?_
  refine TrL.v (v_fieldAddr' rfl fo85_2 rfl rfl) rfl rfl (bl rfl) ?_
  refine TrL.v (v_load (k := 1) rfl rfl rfl ty28 (fun _ => rfl) rfl rfl) rfl rfl (bl rfl) ?_
  refine TrL.v (v_arith rfl rfl rfl ar_eql) rfl rfl (bl rfl) ?_
  refine TrL.nil (qthen_n ?_)
  rcases ifc H with ⟨h2, H⟩ | ⟨h2, H⟩
  · refine Tr.cond_t rfl (bt_dec h2) ?_
    refine Tr.seq ?_
    refine Tr.region ?_
    refine TrL.v (v_load (k := 2) rfl rfl rfl ty73 nofun rfl rfl) rfl rfl (bl rfl) ?_
    refine TrL.v (v_fieldAddr' rfl fo85_0 rfl rfl) rfl rfl (bl rfl) ?_
    refine TrL.v (v_load (k := 1) rfl rfl rfl ty28 (fun _ => rfl) rfl rfl) rfl rfl (bl rfl) ?_
    obtain ⟨r3, hr3, H⟩ := bnd H
    refine TrL.cons rfl (op_call0' (vs := [.agg #[.int .u64 p1.1, .int .i64 p1.2.1, .int .u64 p1.2.2.1, .int .u64 p1.2.2.2.1, .slice A1 p1.2.2.2.2.length c1], .int .u64 p2.1]) (cap := []) [0] rfl rfl (bl rfl) rfl rfl en140 (c_ref12_Move p1 p2.1 A1 c1 r3 hr3) rfl (fun ret M' F' hR3 => ?_))
    obtain ⟨m3, rfl, rfl, rfl⟩ := hR3
    refine TrL.v (v_extract rfl rfl rfl) rfl rfl (bl rfl) ?_
    refine TrL.v (v_extract rfl rfl rfl) rfl rfl (bl rfl) ?_
    refine TrL.v (v_extract rfl rfl rfl) rfl rfl (bl rfl) ?_
    refine TrL.cons rfl (op_store' (k := 0) (c' := [.int .u64 r3.1, .int .i64 r3.2.1, .int .u64 r3.2.2.1, .int .u64 r3.2.2.2.1, .slice m3.1 r3.2.2.2.2.1.length m3.2.1]) rfl rfl rfl rfl rfl ty73 rfl (Nat.le_of_ble_eq_true rfl) (ones (oc rfl (oc rfl (oc rfl (oc rfl (oc rfl on)))))) rfl ?_)
    refine TrL.v (v_assign rfl rfl) rfl rfl (bl rfl) ?_
    refine TrL.v (v_assign rfl rfl) rfl rfl (bl rfl) ?_
    refine TrL.nil (qthen_n ?_)
    have hz := Option.some.inj H
    subst hz
    refine Tr.ret (qthen_r (ret_r ⟨[(4, .pointer (some ⟨b6, 0, none⟩)), (5, .slice m3.2.2.1 r3.2.2.2.2.2.1.length m3.2.2.2), (6, .int .i64 r3.2.2.2.2.2.2)], [cells b6 [.int .u64 r3.1, .int .i64 r3.2.1, .int .u64 r3.2.2.1, .int .u64 r3.2.2.2.1, .slice m3.1 r3.2.2.2.2.1.length m3.2.1] 73], [slF rp_u64_u64_u64 m3.1 m3.2.1 r3.2.2.2.2.1, slF rp_u64_u64_u64 m3.2.2.1 m3.2.2.2 r3.2.2.2.2.2.1], []⟩ [.agg #[.int .u64 r3.1, .int .i64 r3.2.1, .int .u64 r3.2.2.1, .int .u64 r3.2.2.2.1, .slice m3.1 r3.2.2.2.2.1.length m3.2.1], .slice m3.2.2.1 r3.2.2.2.2.2.1.length m3.2.2.2, .int .i64 r3.2.2.2.2.2.2] [] [cells b6 [.int .u64 r3.1, .int .i64 r3.2.1, .int .u64 r3.2.2.1, .int .u64 r3.2.2.2.1, .slice m3.1 r3.2.2.2.2.1.length m3.2.1] 73] (Imp.re _ [0] [1, 2] (sc rfl (sc rfl (sc rfl sn))) (by decide) rfl rfl rfl) rfl rfl ⟨((m3.1, m3.2.1, m3.2.2.1, m3.2.2.2)), rfl, rfl, rfl⟩ (.cons (resv_cell (k := 0) rfl rfl ty73 nofun rfl rfl) (.cons (resv_tmp rfl) (.cons (resv_tmp rfl) .nil)))))
  · refine Tr.cond_f rfl (bf_dec h2) ?_
    refine Tr.skip (qthen_n ?_)
    refine Tr.seq ?_
    refine Tr.region ?_
    refine TrL.v (v_load (k := 2) rfl rfl rfl ty73 nofun rfl rfl) rfl rfl (bl rfl) ?_
    refine TrL.v (v_load (k := 1) rfl rfl rfl ty85 nofun rfl rfl) rfl rfl (bl rfl) ?_
    obtain ⟨r4, hr4, H⟩ := bnd H
    refine TrL.cons rfl (op_call0' (vs := [.agg #[.int .u64 p1.1, .int .i64 p1.2.1, .int .u64 p1.2.2.1, .int .u64 p1.2.2.2.1, .slice A1 p1.2.2.2.2.length c1], .agg #[.int .u64 p2.1, .int .u64 p2.2.1, .int .u64 p2.2.2]]) (cap := []) [0] rfl rfl (bl rfl) rfl rfl en141 (c_ref12_Push p1 p2 A1 c1 r4 hr4) rfl (fun ret M' F' hR4 => ?_))
    obtain ⟨m4, rfl, rfl, rfl⟩ := hR4
    refine TrL.v (v_extract rfl rfl rfl) rfl rfl (bl rfl) ?_
    refine TrL.v (v_extract rfl rfl rfl) rfl rfl (bl rfl) ?_
    refine TrL.v (v_extract rfl rfl rfl) rfl rfl (bl rfl) ?_
    refine TrL.cons rfl (op_store' (k := 0) (c' := [.int .u64 r4.1, .int .i64 r4.2.1, .int .u64 r4.2.2.1, .int .u64 r4.2.2.2.1, .slice m4.1 r4.2.2.2.2.1.length m4.2.1]) rfl rfl rfl rfl rfl ty73 rfl (Nat.le_of_ble_eq_true rfl) (ones (oc rfl (oc rfl (oc rfl (oc rfl (oc rfl on)))))) rfl ?_)
    refine TrL.v (v_assign rfl rfl) rfl rfl (bl rfl) ?_
    refine TrL.v (v_assign rfl rfl) rfl rfl (bl rfl) ?_
    refine TrL.nil (qthen_n ?_)
    have hz := Option.some.inj H
    subst hz
    refine Tr.ret (ret_r ⟨[(4, .pointer (some ⟨b6, 0, none⟩)), (5, .slice m4.2.2.1 r4.2.2.2.2.2.1.length m4.2.2.2), (6, .int .i64 r4.2.2.2.2.2.2)], [cells b6 [.int .u64 r4.1, .int .i64 r4.2.1, .int .u64 r4.2.2.1, .int .u64 r4.2.2.2.1, .slice m4.1 r4.2.2.2.2.1.length m4.2.1] 73], [slF rp_u64_u64_u64 m4.1 m4.2.1 r4.2.2.2.2.1, slF rp_u64_u64_u64 m4.2.2.1 m4.2.2.2 r4.2.2.2.2.2.1], []⟩ [.agg #[.int .u64 r4.1, .int .i64 r4.2.1, .int .u64 r4.2.2.1, .int .u64 r4.2.2.2.1, .slice m4.1 r4.2.2.2.2.1.length m4.2.1], .slice m4.2.2.1 r4.2.2.2.2.2.1.length m4.2.2.2, .int .i64 r4.2.2.2.2.2.2] [] [cells b6 [.int .u64 r4.1, .int .i64 r4.2.1, .int .u64 r4.2.2.1, .int .u64 r4.2.2.2.1, .slice m4.1 r4.2.2.2.2.1.length m4.2.1] 73] (Imp.re _ [0] [1, 2] (sc rfl (sc rfl (sc rfl sn))) (by decide) rfl rfl rfl) rfl rfl ⟨((m4.1, m4.2.1, m4.2.2.1, m4.2.2.2)), rfl, rfl, rfl⟩ (.cons (resv_cell (k := 0) rfl rfl ty73 nofun rfl rfl) (.cons (resv_tmp rfl) (.cons (resv_tmp rfl) .nil))))
end Go.Proofs.Ytbeknohemgjfbaa.W
