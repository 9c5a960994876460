/- The contracts of the walked functions: the printed walks. -/
import Derived.Test.YtbnjjpmlaknaoaaKa
import Derived.Test.YtbnjjpmlaknaoaaQa
import Derived.Test.YtbnjjpmlaknaoaaWref05aa
import Derived.Test.YtbnjjpmlaknaoaaWref06aa
namespace Go.Proofs.Ytbnjjpmlaknaoaa.W
open Go Go.Proofs Go.Proofs.Ytbnjjpmlaknaoaa.L Go.Proofs.Ytbnjjpmlaknaoaa.Pu
set_option linter.unusedVariables false
set_option maxHeartbeats 4000000

theorem c_ref06_Unit (p1 : Int × Int × List (List (Int × Int))) (p2 : Int) (A1 : Option Addr) (c1 : Nat) (r : List (List (Int × Int))) (H : ref06_Unit p1 p2 = some r) :
    Ctr Try.prog 77 [.agg #[.int .i64 p1.1, .int .i64 p1.2.1, .slice A1 p1.2.2.length c1], .int .u64 p2] [] [slF (rSl rp_u64_u64) A1 c1 p1.2.2] (fun ret M' F' => ∃ m : Option Addr × Nat, ret = .agg #[.int .i64 p1.1, .int .i64 p1.2.1, .slice m.1 r.length m.2] ∧ M' = [] ∧ F' = [slF (rSl rp_u64_u64) m.1 m.2 r]) := by
  unfold ref06_Unit at H
  refine ctr_ofI (N := 59) Try.func77 rfl Try.ntmps77 rfl (Nat.le_of_ble_eq_true rfl) (fun γ0 w0 => ?_)
  refine Tr.seq ?_
  refine Tr.region ?_
  refine TrL.cons rfl (op_box' rfl (bl rfl) rfl rfl rfl (fun b4 => ?_))
  refine TrL.cons rfl (op_alloc' rfl (bl rfl) rfl ze28 (fun b5 => ?_))
  refine TrL.nil (qthen_n ?_)
  refine Tr.seq ?_
  refine Tr.region ?_
  refine TrL.v (v_fieldAddr' rfl fo28_0 rfl rfl) rfl rfl (bl rfl) ?_
  refine TrL.v (v_load (k := 1) rfl rfl rfl ty3 (fun _ => rfl) rfl rfl) rfl rfl (bl rfl) ?_
  refine TrL.v (v_fieldAddr' rfl fo28_1 rfl rfl) rfl rfl (bl rfl) ?_
  refine TrL.v (v_load (k := 1) rfl rfl rfl ty3 (fun _ => rfl) rfl rfl) rfl rfl (bl rfl) ?_
  refine TrL.v (v_build (vs := [.int .i64 p1.1, .int .i64 p1.2.1]) (out := [.int .i64 p1.1, .int .i64 p1.2.1, .slice none 0 0]) rfl pl28 ze28 rfl rfl) rfl rfl (bl rfl) ?_
  refine TrL.cons rfl (op_alloc' rfl (bl rfl) rfl ze28 (fun b6 => ?_))
  refine TrL.cons rfl (op_store' (k := 0) (c' := [.int .i64 p1.1, .int .i64 p1.2.1, .slice none 0 0]) rfl rfl rfl rfl rfl ty28 rfl (Nat.le_of_ble_eq_true rfl) (ones (oc rfl (oc rfl (oc rfl on)))) rfl ?_)
  refine TrL.nil (qthen_n ?_)
  refine Tr.seq ?_
  refine Tr.region ?_
  refine TrL.v (v_move rfl rfl) rfl rfl (bl rfl) ?_
  refine TrL.v (v_move rfl rfl) rfl rfl (bl rfl) ?_
  refine TrL.v (v_build (vs := [.int .u64 p2, .int .u64 p2]) (out := [.int .u64 p2, .int .u64 p2]) rfl pl41 ze41 rfl rfl) rfl rfl (bl rfl) ?_
  refine TrL.cons rfl (op_buildSlice' (rp := rp_u64_u64) (xs := [(p2, p2)]) (vs := [.agg #[.int .u64 p2, .int .u64 p2]]) (out := [.int .u64 p2, .int .u64 p2]) rfl (bl rfl) rfl sl38 ty41 ze41 rfl rfl (by decide) (by decide) rfl (fun γ w hF => (rowc rfl rown rfl)) (fun A13 => ?_))
  refine TrL.v (v_assign rfl rfl) rfl rfl (bl rfl) ?_
  refine TrL.nil (qthen_n ?_)
  refine Tr.seq ?_
  refine Tr.seq ?_
  refine Tr.region ?_
  refine TrL.v (v_assign rfl rfl) rfl rfl (bl rfl) ?_
  refine TrL.nil (qthen_n ?_)
  obtain ⟨x2, hx3, H⟩ := bnd H
  refine Tr.cutE (D := List (List (Int × Int))) (M := Option Addr × Nat × Option Nat) .normal (fun _d => x2 = _d) (fun x2 m36 => ⟨[(4, .pointer (some ⟨b5, 0, none⟩)), (5, .pointer (some ⟨b6, 0, none⟩))], [cells b5 [.int .i64 0, .int .i64 0, .slice none 0 0] 28, cells b6 [.int .i64 p1.1, .int .i64 p1.2.1, .slice m36.1 x2.length m36.2.1] 28, grow 38 1 (.slice m36.1 x2.length m36.2.1) x2.length m36.2.2], [slF (rSl rp_u64_u64) none 0 (([] : List (List (Int × Int)))), slF (rSl rp_u64_u64) m36.1 m36.2.1 x2], []⟩) ?_ (fun x2 m36 hd6 => ?_)
  · refine Tr.block (Tr.loopI (ι := Option Addr × Nat × Option Addr × Nat × Option Nat) (step := ref06_Unit_s0 p1) (fun s5 m28 => ⟨[(2, .pointer (some ⟨b4, 0, none⟩)), (4, .pointer (some ⟨b5, 0, none⟩)), (5, .pointer (some ⟨b6, 0, none⟩)), (6, .slice m28.1 s5.1.length m28.2.1), (7, .int .i64 s5.2.1)], [cells b4 [.int .i64 p1.1, .int .i64 p1.2.1, .slice A1 p1.2.2.length c1] 28, cells b5 [.int .i64 0, .int .i64 0, .slice none 0 0] 28, cells b6 [.int .i64 p1.1, .int .i64 p1.2.1, .slice m28.2.2.1 s5.2.2.length m28.2.2.2.1] 28, grow 38 1 (.slice m28.2.2.1 s5.2.2.length m28.2.2.2.1) s5.2.2.length m28.2.2.2.2], [slF rp_u64_u64 m28.1 m28.2.1 s5.1, slF (rSl rp_u64_u64) A1 c1 p1.2.2, slF (rSl rp_u64_u64) none 0 (([] : List (List (Int × Int)))), slF (rSl rp_u64_u64) m28.2.2.1 m28.2.2.2.1 s5.2.2], []⟩) ((A13, 1, none, 0, none)) hx3 (Imp.full' (E := 38) (sz := 1) (A := none) (n := 0) (Imp.addF' _ (nilF (rSl rp_u64_u64)) (Imp.re _ [3, 2, 1, 0] [1, 0, 2, 2] (sc rfl (sc rfl (sc rfl (sc rfl (sc rfl sn))))) (by decide) rfl rfl rfl))) (fun s5 m28 y2 hy2 hx4 => ?_))
    unfold ref06_Unit_s0 at hy2
    refine Tr.seq ?_
    refine Tr.seq ?_
    obtain ⟨j4, hj4, hy2⟩ := bnd hy2
    refine Tr.cutE (D := Bool) (M := Unit) .normal (fun _d => j4 = _d) (fun j4 m37 => ⟨[(2, .pointer (some ⟨b4, 0, none⟩)), (4, .pointer (some ⟨b5, 0, none⟩)), (5, .pointer (some ⟨b6, 0, none⟩)), (6, .slice m28.1 s5.1.length m28.2.1), (7, .int .i64 s5.2.1), (29, .bool j4)], [cells b4 [.int .i64 p1.1, .int .i64 p1.2.1, .slice A1 p1.2.2.length c1] 28, cells b5 [.int .i64 0, .int .i64 0, .slice none 0 0] 28, cells b6 [.int .i64 p1.1, .int .i64 p1.2.1, .slice m28.2.2.1 s5.2.2.length m28.2.2.2.1] 28, grow 38 1 (.slice m28.2.2.1 s5.2.2.length m28.2.2.2.1) s5.2.2.length m28.2.2.2.2], [slF rp_u64_u64 m28.1 m28.2.1 s5.1, slF (rSl rp_u64_u64) A1 c1 p1.2.2, slF (rSl rp_u64_u64) none 0 (([] : List (List (Int × Int)))), slF (rSl rp_u64_u64) m28.2.2.1 m28.2.2.2.1 s5.2.2], []⟩) ?_ (fun j4 m37 hd5 => ?_)
    · refine Tr.region ?_
      refine TrL.v (v_move rfl rfl) rfl rfl (bl rfl) ?_
      refine TrL.v (v_len rfl sl38 rfl) rfl rfl (bl rfl) ?_
      refine TrL.v (v_arith rfl rfl rfl ar_gtr) rfl rfl (bl rfl) ?_
      refine TrL.v (v_move rfl rfl) rfl rfl (bl rfl) ?_
      rcases ifc hj4 with ⟨h26, hj4⟩ | ⟨h26, hj4⟩
      · refine TrL.cons_no rfl rfl rfl (gn_f (bt_dec h26)) rfl (bl rfl) ?_
        refine TrL.cons_no rfl rfl rfl (gn_f (bt_dec h26)) rfl (bl rfl) ?_
        refine TrL.cons_no rfl rfl rfl (gn_f (bt_dec h26)) rfl (bl rfl) ?_
        refine TrL.cons_no rfl rfl rfl (gn_f (bt_dec h26)) rfl (bl rfl) ?_
        refine TrL.cons_no rfl rfl rfl (gn_f (bt_dec h26)) rfl (bl rfl) ?_
        refine TrL.v (v_pick_t rfl rfl (bt_dec h26) rfl) rfl rfl (bl rfl) ?_
        refine TrL.nil (qcut_hit true (()) (Option.some.inj hj4).symm (Imp.re _ [0, 1, 2, 3] [0, 1, 2, 3] (sc rfl (sc rfl (sc rfl (sc rfl (sc rfl (sc rfl sn)))))) (by decide) rfl rfl rfl))
      · refine TrL.cons_yes rfl rfl rfl (bf_dec h26) (OpTr.v (v_move rfl rfl) rfl (bl rfl) ?_)
        refine TrL.cons_yes rfl rfl rfl (bf_dec h26) (OpTr.v (v_fieldAddr' rfl fo28_2 rfl rfl) rfl (bl rfl) ?_)
        refine TrL.cons_yes rfl rfl rfl (bf_dec h26) (OpTr.v (v_load (k := 0) rfl rfl rfl ty26 (fun _ => rfl) rfl rfl) rfl (bl rfl) ?_)
        refine TrL.cons_yes rfl rfl rfl (bf_dec h26) (OpTr.v (v_len rfl sl26 rfl) rfl (bl rfl) ?_)
        refine TrL.cons_yes rfl rfl rfl (bf_dec h26) (OpTr.v (v_arith rfl rfl rfl ar_lss) rfl (bl rfl) ?_)
        refine TrL.v (v_pick_f rfl rfl (bf_dec h26) rfl) rfl rfl (bl rfl) ?_
        refine TrL.nil (qcut_hit (decide (s5.2.1 < ((p1.2.2.length : Int)))) (()) (Option.some.inj hj4).symm (Imp.re _ [0, 1, 2, 3] [0, 1, 2, 3] (sc rfl (sc rfl (sc rfl (sc rfl (sc rfl (sc rfl sn)))))) (by decide) rfl rfl rfl))
    · subst hd5
      refine (qthen_n ?_)
      rcases ifc hy2 with ⟨h27, hy2⟩ | ⟨h27, hy2⟩
      · refine Tr.cond_t rfl h27 ?_
        refine Tr.skip (qthen_n ?_)
        refine Tr.seq ?_
        refine Tr.block ?_
        refine Tr.seq ?_
        refine Tr.region ?_
        refine TrL.v (v_load (k := 0) rfl rfl rfl ty28 nofun rfl rfl) rfl rfl (bl rfl) ?_
        refine TrL.v (v_move rfl rfl) rfl rfl (bl rfl) ?_
        obtain ⟨r26, hr26, hy2⟩ := bnd hy2
        refine TrL.cons rfl (op_call0' (vs := [.agg #[.int .i64 p1.1, .int .i64 p1.2.1, .slice A1 p1.2.2.length c1], .int .i64 s5.2.1]) (cap := []) [1] rfl rfl (bl rfl) rfl rfl en99 (c_ref06_at p1 s5.2.1 A1 c1 r26 hr26) rfl (fun ret M' F' hR26 => ?_))
        obtain ⟨m38, rfl, rfl, rfl⟩ := hR26
        refine TrL.v (v_assign rfl rfl) rfl rfl (bl rfl) ?_
        refine TrL.nil (qthen_n ?_)
        refine Tr.seq ?_
        refine Tr.seq ?_
        refine Tr.region ?_
        refine TrL.v (v_move rfl rfl) rfl rfl (bl rfl) ?_
        refine TrL.v (v_len rfl sl38 rfl) rfl rfl (bl rfl) ?_
        refine TrL.v (v_arith rfl rfl rfl ar_gtr) rfl rfl (bl rfl) ?_
        refine TrL.nil (qthen_n ?_)
        rcases ifc hy2 with ⟨h28, hy2⟩ | ⟨h28, hy2⟩
        · refine Tr.cond_t rfl (bt_dec h28) ?_
          refine Tr.seq ?_
          refine Tr.regionD drawn (fun hok => ?_)
          refine TrAny.prom (i := 0) (d := 39) hok (OpVal.plain rfl rfl (v_move rfl rfl)) (by kernel_rfl) rfl (bl rfl) ?_
          clear hok
          intro hok
          refine TrAny.prom (i := 1) (d := 40) hok (OpVal.plain rfl rfl (v_fieldAddr' rfl fo28_0 rfl rfl)) (by kernel_rfl) rfl (bl rfl) ?_
          clear hok
          intro hok
          refine TrAny.prom (i := 2) (d := 41) hok (OpVal.plain rfl rfl (v_load (k := 0) rfl rfl rfl ty3 (fun _ => rfl) rfl rfl)) (by kernel_rfl) rfl (bl rfl) ?_
          clear hok
          intro hok
          refine TrAny.prom (i := 3) (d := 42) hok (OpVal.plain rfl rfl (v_move rfl rfl)) (by kernel_rfl) rfl (bl rfl) ?_
          clear hok
          intro hok
          refine TrAny.prom (i := 5) (d := 44) hok (OpVal.plain rfl rfl (v_move rfl rfl)) (by kernel_rfl) rfl (bl rfl) ?_
          clear hok
          intro hok
          obtain ⟨z12, hz12, hy2⟩ := bnd hy2
          refine TrAny.prom (i := 6) (d := 45) hok (OpVal.plain rfl rfl (v_indexAddr (k := 0) rfl sl38 ty41 rfl rfl rfl rfl hz12)) (by kernel_rfl) rfl (bl rfl) ?_
          clear hok
          intro hok
          refine TrAny.prom (i := 7) (d := 46) hok (OpVal.plain rfl rfl (v_loadg (A := m28.1) (i := 0) (j := 0) (k := 0) rfl ty41 nofun rfl rfl hz12 rfl rfl)) (by kernel_rfl) rfl (bl rfl) ?_
          clear hok
          intro hok
          obtain ⟨r29, hr29, hy2⟩ := bnd hy2
          refine TrAny.next (j := 4) (by kernel_rfl) hok rfl (by kernel_rfl) (op_call0' (vs := [.int .i64 p1.1, .int .i64 s5.2.1]) (cap := []) [] rfl rfl (bl rfl) rfl rfl en51 (c_ref05_Most p1.1 s5.2.1 r29 hr29) rfl (fun ret M' F' hR29 => ?_))
          obtain ⟨rfl, rfl, rfl⟩ := hR29
          refine nxp hok (kp_imp (kp_c0 rfl)) rfl (by kernel_rfl) ?_
          clear hok
          intro hok
          obtain ⟨r30, hr30, hy2⟩ := bnd hy2
          refine TrAny.next (j := 8) (by kernel_rfl) hok rfl (by kernel_rfl) (op_call0' (vs := [.slice m38.1 r26.length m38.2, .int .i64 r29, .agg #[.int .u64 z12.1, .int .u64 z12.2]]) (cap := []) [4] rfl rfl (bl rfl) rfl rfl en54 (c_ref05_One r26 r29 z12 m38.1 m38.2 r30 hr30) rfl (fun ret M' F' hR30 => ?_))
          obtain ⟨m42, rfl, rfl, rfl⟩ := hR30
          refine nxp hok (kp_imp (kp_c0 rfl)) rfl (by kernel_rfl) ?_
          clear hok
          intro hok
          refine TrAny.prom (i := 9) (d := 38) hok (OpVal.plain rfl rfl (v_move rfl rfl)) (by kernel_rfl) rfl (bl rfl) ?_
          clear hok
          intro hok
          refine TrAny.prom (i := 10) (d := 48) hok (OpVal.plain rfl rfl (v_extract rfl rfl rfl)) (by kernel_rfl) rfl (bl rfl) ?_
          clear hok
          intro hok
          refine TrAny.prom (i := 11) (d := 49) hok (OpVal.plain rfl rfl (v_extract rfl rfl rfl)) (by kernel_rfl) rfl (bl rfl) ?_
          clear hok
          intro hok
          refine TrAny.prom (i := 12) (d := 9) hok (OpVal.plain rfl rfl (v_assign rfl rfl)) (by kernel_rfl) rfl (bl rfl) ?_
          clear hok
          intro hok
          refine TrAny.prom (i := 13) (d := 10) hok (OpVal.plain rfl rfl (v_assign rfl rfl)) (by kernel_rfl) rfl (bl rfl) ?_
          clear hok
          intro hok
          refine TrAny.done (by kernel_rfl) (by kernel_rfl) hok (by kernel_rfl) (qthen_n ?_)
          refine Tr.seq ?_
          refine Tr.region ?_
          refine TrL.v (v_move rfl rfl) rfl rfl (bl rfl) ?_
          refine TrL.v (v_assign rfl rfl) rfl rfl (bl rfl) ?_
          refine TrL.nil (qthen_n ?_)
          refine Tr.region ?_
          refine TrL.v (v_move rfl rfl) rfl rfl (bl rfl) ?_
          refine TrL.v (v_assign rfl rfl) rfl rfl (bl rfl) ?_
          refine TrL.nil (qthen_n ?_)
          refine Tr.region ?_
          refine TrL.v (v_fieldAddr' rfl fo28_2 rfl rfl) rfl rfl (bl rfl) ?_
          refine TrL.v (v_load (k := 2) rfl rfl rfl ty26 (fun _ => rfl) rfl rfl) rfl rfl (bl rfl) ?_
          refine TrL.v (v_move rfl rfl) rfl rfl (bl rfl) ?_
          refine TrL.cons rfl (op_buildSlice' (rp := (rSl rp_u64_u64)) (xs := [r30.1]) (vs := [.slice m42.1 r30.1.length m42.2.1]) (out := [.slice m42.1 r30.1.length m42.2.1]) rfl (bl rfl) rfl sl26 ty38 ze38 rfl rfl (by decide) (by decide) rfl (fun γ w hF => (rowc ⟨_, _, rfl, hF _ (List.mem_of_getElem? (i := 5) rfl)⟩ rown rfl)) (fun A20 => ?_))
          obtain ⟨h29, hy2⟩ := rom hy2
          refine TrL.cons rfl (op_append' (rp := (rSl rp_u64_u64)) (xs := s5.2.2) (ys := [r30.1]) (k := 3) (kx := 3) (ky := 7) rfl (bl rfl) rfl sl26 ty38 ze38 rfl by38 rfl rfl rfl rfl rfl rfl rfl h29.1 h29.2 (fun A21 c10 o9 => ?_))
          refine TrL.v (v_fieldAddr' rfl fo28_2 rfl rfl) rfl rfl (bl rfl) ?_
          refine TrL.cons rfl (op_store' (k := 2) (c' := [.int .i64 p1.1, .int .i64 p1.2.1, .slice A21 ((s5.2.2 ++ ([r30.1])).length) c10]) rfl rfl rfl rfl rfl ty26 rfl (Nat.le_of_ble_eq_true rfl) (ones (oc rfl on)) rfl ?_)
          refine TrL.nil (qblock_n (qthen_n ?_))
          refine Tr.region ?_
          refine TrL.v (v_move rfl rfl) rfl rfl (bl rfl) ?_
          refine TrL.v (v_arith rfl rfl rfl ar_add_i64) rfl rfl (bl rfl) ?_
          refine TrL.v (v_assign rfl rfl) rfl rfl (bl rfl) ?_
          have hz := Option.some.inj hy2
          subst hz
          refine TrL.nil (qloop_n ((m42.2.2.1, m42.2.2.2, A21, c10, o9)) (Imp.re _ [0, 1, 2, 3] [6, 1, 2, 8] (sc rfl (sc rfl (sc rfl (sc rfl (sc rfl sn))))) (by decide) rfl rfl rfl))
        · refine Tr.cond_f rfl (bf_dec h28) ?_
          refine Tr.skip (qthen_n ?_)
          refine Tr.region ?_
          refine TrL.v (v_fieldAddr' rfl fo28_2 rfl rfl) rfl rfl (bl rfl) ?_
          refine TrL.v (v_load (k := 2) rfl rfl rfl ty26 (fun _ => rfl) rfl rfl) rfl rfl (bl rfl) ?_
          refine TrL.v (v_move rfl rfl) rfl rfl (bl rfl) ?_
          refine TrL.cons rfl (op_buildSlice' (rp := (rSl rp_u64_u64)) (xs := [r26]) (vs := [.slice m38.1 r26.length m38.2]) (out := [.slice m38.1 r26.length m38.2]) rfl (bl rfl) rfl sl26 ty38 ze38 rfl rfl (by decide) (by decide) rfl (fun γ w hF => (rowc ⟨_, _, rfl, hF _ (List.mem_of_getElem? (i := 4) rfl)⟩ rown rfl)) (fun A22 => ?_))
          obtain ⟨h30, hy2⟩ := rom hy2
          refine TrL.cons rfl (op_append' (rp := (rSl rp_u64_u64)) (xs := s5.2.2) (ys := [r26]) (k := 3) (kx := 3) (ky := 5) rfl (bl rfl) rfl sl26 ty38 ze38 rfl by38 rfl rfl rfl rfl rfl rfl rfl h30.1 h30.2 (fun A23 c11 o10 => ?_))
          refine TrL.v (v_fieldAddr' rfl fo28_2 rfl rfl) rfl rfl (bl rfl) ?_
          refine TrL.cons rfl (op_store' (k := 2) (c' := [.int .i64 p1.1, .int .i64 p1.2.1, .slice A23 ((s5.2.2 ++ ([r26])).length) c11]) rfl rfl rfl rfl rfl ty26 rfl (Nat.le_of_ble_eq_true rfl) (ones (oc rfl on)) rfl ?_)
          refine TrL.nil (qblock_n (qthen_n ?_))
          refine Tr.region ?_
          refine TrL.v (v_move rfl rfl) rfl rfl (bl rfl) ?_
          refine TrL.v (v_arith rfl rfl rfl ar_add_i64) rfl rfl (bl rfl) ?_
          refine TrL.v (v_assign rfl rfl) rfl rfl (bl rfl) ?_
          have hz := Option.some.inj hy2
          subst hz
          refine TrL.nil (qloop_n ((m28.1, m28.2.1, A23, c11, o10)) (Imp.re _ [0, 1, 2, 3] [0, 1, 2, 6] (sc rfl (sc rfl (sc rfl (sc rfl (sc rfl sn))))) (by decide) rfl rfl rfl))
      · refine Tr.cond_f rfl (bf_b h27) ?_
        have hz := Option.some.inj hy2
        subst hz
        refine Tr.exit (qthen_x (qloop_x (qblock_hit (qcut_hit s5.2.2 ((m28.2.2.1, m28.2.2.2.1, m28.2.2.2.2)) (hx4 _ rfl).symm (Imp.re _ [1, 2, 3] [2, 3] (sc rfl (sc rfl sn)) (by decide) rfl rfl rfl)))))
  · subst hd6
    refine (qthen_n ?_)
    refine Tr.seq ?_
    refine Tr.region ?_
    refine TrL.v (v_load (k := 1) rfl rfl rfl ty28 nofun rfl rfl) rfl rfl (bl rfl) ?_
    refine TrL.cons rfl (op_store' (k := 0) (c' := [.int .i64 p1.1, .int .i64 p1.2.1, .slice m36.1 x2.length m36.2.1]) rfl rfl rfl rfl rfl ty28 rfl (Nat.le_of_ble_eq_true rfl) (ones (oc rfl (oc rfl (oc rfl on)))) rfl ?_)
    refine TrL.nil (qthen_n ?_)
    have hz := Option.some.inj H
    subst hz
    refine Tr.ret (ret_r ⟨[(4, .pointer (some ⟨b5, 0, none⟩))], [cells b5 [.int .i64 p1.1, .int .i64 p1.2.1, .slice m36.1 x2.length m36.2.1] 28], [slF (rSl rp_u64_u64) m36.1 m36.2.1 x2], []⟩ [.agg #[.int .i64 p1.1, .int .i64 p1.2.1, .slice m36.1 x2.length m36.2.1]] [] [cells b5 [.int .i64 p1.1, .int .i64 p1.2.1, .slice m36.1 x2.length m36.2.1] 28] (Imp.re _ [0] [1] (sc rfl sn) (by decide) rfl rfl rfl) rfl rfl ⟨((m36.1, m36.2.1)), rfl, rfl, rfl⟩ (.cons (resv_cell (k := 0) rfl rfl ty28 nofun rfl rfl) .nil))
end Go.Proofs.Ytbnjjpmlaknaoaa.W
