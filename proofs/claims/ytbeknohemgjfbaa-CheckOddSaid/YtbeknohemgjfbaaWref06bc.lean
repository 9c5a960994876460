/- The contracts of the walked functions: the printed walks. -/
import Derived.Test.YtbeknohemgjfbaaKc
import Derived.Test.YtbeknohemgjfbaaQc
import Derived.Test.YtbeknohemgjfbaaWref05ac
import Derived.Test.YtbeknohemgjfbaaWref06ac
namespace Go.Proofs.Ytbeknohemgjfbaa.W
open Go Go.Proofs Go.Proofs.Ytbeknohemgjfbaa.L Go.Proofs.Ytbeknohemgjfbaa.Pu
set_option linter.unusedVariables false
set_option maxHeartbeats 4000000

theorem c_ref06_Add (p1 : Int × Int × List (List (Int × Int))) (p2 : Int) (p3 : Int) (A1 : Option Addr) (c1 : Nat) (r : Int × Int × (List (List (Int × Int))) × Int) (H : ref06_Add p1 p2 p3 = some r) :
    Ctr Try.prog 58 [.agg #[.int .i64 p1.1, .int .i64 p1.2.1, .slice A1 p1.2.2.length c1], .int .u64 p2, .int .u64 p3] [] [slF (rSl rp_u64_u64) A1 c1 p1.2.2] (fun ret M' F' => ∃ m : Option Addr × Nat, ret = .tuple #[.agg #[.int .i64 r.1, .int .i64 r.2.1, .slice m.1 r.2.2.1.length m.2], .int .i64 r.2.2.2] ∧ M' = [] ∧ F' = [slF (rSl rp_u64_u64) m.1 m.2 r.2.2.1]) := by
  unfold ref06_Add at H
  refine ctr_ofI (N := 92) Try.func58 rfl Try.ntmps58 rfl (Nat.le_of_ble_eq_true rfl) (fun γ0 w0 => ?_)
  refine Tr.seq ?_
  refine Tr.region ?_
  refine TrL.cons rfl (op_box' rfl (bl rfl) rfl rfl rfl (fun b4 => ?_))
  refine TrL.cons rfl (op_alloc' rfl (bl rfl) rfl ze26 (fun b5 => ?_))
  refine TrL.v (v_assign rfl rfl) rfl rfl (bl rfl) ?_
  refine TrL.nil (qthen_n ?_)
  refine Tr.seq ?_
  refine Tr.seq ?_
  refine Tr.region ?_
  refine TrL.v (v_move rfl rfl) rfl rfl (bl rfl) ?_
  refine TrL.v (v_arith rfl rfl rfl ar_eql) rfl rfl (bl rfl) ?_
  refine TrL.nil (qthen_n ?_)
  rcases ifc H with ⟨h33, H⟩ | ⟨h33, H⟩
  · refine Tr.cond_t rfl (bt_dec h33) ?_
    refine Tr.seq ?_
    refine Tr.region ?_
    refine TrL.v (v_build (vs := []) (out := [.int .i64 0, .int .i64 0, .slice none 0 0]) rfl pl26 ze26 rfl rfl) rfl rfl (bl rfl) ?_
    refine TrL.cons rfl (op_store' (k := 0) (c' := [.int .i64 0, .int .i64 0, .slice none 0 0]) rfl rfl rfl rfl rfl ty26 rfl (Nat.le_of_ble_eq_true rfl) (ones (oc rfl (oc rfl (oc rfl on)))) rfl ?_)
    refine TrL.v (v_assign rfl rfl) rfl rfl (bl rfl) ?_
    refine TrL.nil (qthen_n ?_)
    have hz := Option.some.inj H
    subst hz
    refine Tr.ret (qthen_r (ret_r ⟨[(6, .pointer (some ⟨b5, 0, none⟩)), (7, .int .i64 1)], [cells b5 [.int .i64 0, .int .i64 0, .slice none 0 0] 26], [slF (rSl rp_u64_u64) none 0 (([] : List (List (Int × Int))))], []⟩ [.agg #[.int .i64 0, .int .i64 0, .slice none 0 0], .int .i64 1] [] [cells b5 [.int .i64 0, .int .i64 0, .slice none 0 0] 26] (Imp.addF' _ (nilF (rSl rp_u64_u64)) (Imp.re _ [0] [1] (sc rfl (sc rfl sn)) (by decide) rfl rfl rfl)) rfl rfl ⟨((none, 0)), rfl, rfl, rfl⟩ (.cons (resv_cell (k := 0) rfl rfl ty26 nofun rfl rfl) (.cons (resv_tmp rfl) .nil))))
  · refine Tr.cond_f rfl (bf_dec h33) ?_
    refine Tr.skip (qthen_n ?_)
    refine Tr.seq ?_
    refine Tr.region ?_
    refine TrL.v (v_load (k := 1) rfl rfl rfl ty26 nofun rfl rfl) rfl rfl (bl rfl) ?_
    obtain ⟨r22, hr22, H⟩ := bnd H
    refine TrL.cons rfl (op_call0' (vs := [.agg #[.int .i64 p1.1, .int .i64 p1.2.1, .slice A1 p1.2.2.length c1]]) (cap := []) [0] rfl rfl (bl rfl) rfl rfl en116 (c_ref06_Last p1 A1 c1 r22 hr22) rfl (fun ret M' F' hR22 => ?_))
    obtain ⟨rfl, rfl, rfl⟩ := hR22
    refine TrL.v (v_move rfl rfl) rfl rfl (bl rfl) ?_
    refine TrL.v (v_extract rfl rfl rfl) rfl rfl (bl rfl) ?_
    refine TrL.v (v_extract rfl rfl rfl) rfl rfl (bl rfl) ?_
    refine TrL.v (v_assign rfl rfl) rfl rfl (bl rfl) ?_
    refine TrL.v (v_assign rfl rfl) rfl rfl (bl rfl) ?_
    refine TrL.nil (qthen_n ?_)
    refine Tr.seq ?_
    refine Tr.seq ?_
    obtain ⟨j5, hj5, H⟩ := bnd H
    refine Tr.cutE (D := Bool) (M := Unit) .normal (fun _d => j5 = _d) (fun j5 m31 => ⟨[(1, .int .u64 p2), (2, .int .u64 p3), (3, .pointer (some ⟨b4, 0, none⟩)), (6, .pointer (some ⟨b5, 0, none⟩)), (34, .bool j5)], [cells b4 [.int .i64 p1.1, .int .i64 p1.2.1, .slice A1 p1.2.2.length c1] 26, cells b5 [.int .i64 0, .int .i64 0, .slice none 0 0] 26], [slF (rSl rp_u64_u64) A1 c1 p1.2.2, slF (rSl rp_u64_u64) none 0 (([] : List (List (Int × Int))))], []⟩) ?_ (fun j5 m31 hd6 => ?_)
    · refine Tr.region ?_
      refine TrL.v (v_move rfl rfl) rfl rfl (bl rfl) ?_
      refine TrL.v (v_arith rfl rfl rfl ar_gtr) rfl rfl (bl rfl) ?_
      refine TrL.v (v_move rfl rfl) rfl rfl (bl rfl) ?_
      rcases ifc hj5 with ⟨h38, hj5⟩ | ⟨h38, hj5⟩
      · refine TrL.cons_no rfl rfl rfl (gn_f (bt_dec h38)) rfl (bl rfl) ?_
        refine TrL.cons_no rfl rfl rfl (gn_f (bt_dec h38)) rfl (bl rfl) ?_
        refine TrL.cons_un rfl rfl rfl rfl (bl rfl) ?_
        refine TrL.cons_un rfl rfl rfl rfl (bl rfl) ?_
        refine TrL.cons_un rfl rfl rfl rfl (bl rfl) ?_
        refine TrL.cons_no rfl rfl rfl (gn_f (bt_dec h38)) rfl (bl rfl) ?_
        refine TrL.v (v_pick_t rfl rfl (bt_dec h38) rfl) rfl rfl (bl rfl) ?_
        refine TrL.nil (qcut_hit true (()) (Option.some.inj hj5).symm (Imp.addF' _ (nilF (rSl rp_u64_u64)) (Imp.re _ [1, 0] [0, 1] (sc rfl (sc rfl (sc rfl (sc rfl (sc rfl sn))))) (by decide) rfl rfl rfl)))
      · refine TrL.cons_yes rfl rfl rfl (bf_dec h38) (OpTr.v (v_move rfl rfl) rfl (bl rfl) ?_)
        refine TrL.cons_yes rfl rfl rfl (bf_dec h38) (OpTr.v (v_move rfl rfl) rfl (bl rfl) ?_)
        rcases ifc hj5 with ⟨h39, hj5⟩ | ⟨h39, hj5⟩
        · refine TrL.cons_yes rfl rfl rfl h39 (OpTr.v (v_move rfl rfl) rfl (bl rfl) ?_)
          refine TrL.cons_yes rfl rfl rfl h39 (OpTr.v (v_move rfl rfl) rfl (bl rfl) ?_)
          refine TrL.cons_yes rfl rfl rfl h39 (OpTr.v (v_arith rfl rfl rfl ar_lss) rfl (bl rfl) ?_)
          refine TrL.cons_yes rfl rfl rfl (bf_dec h38) (OpTr.v (v_pick_t rfl rfl h39 rfl) rfl (bl rfl) ?_)
          refine TrL.v (v_pick_f rfl rfl (bf_dec h38) rfl) rfl rfl (bl rfl) ?_
          refine TrL.nil (qcut_hit (decide (p2 < r22.1)) (()) (Option.some.inj hj5).symm (Imp.addF' _ (nilF (rSl rp_u64_u64)) (Imp.re _ [1, 0] [0, 1] (sc rfl (sc rfl (sc rfl (sc rfl (sc rfl sn))))) (by decide) rfl rfl rfl)))
        · refine TrL.cons_no rfl rfl rfl (gn_t (bf_b h39)) rfl (bl rfl) ?_
          refine TrL.cons_no rfl rfl rfl (gn_t (bf_b h39)) rfl (bl rfl) ?_
          refine TrL.cons_no rfl rfl rfl (gn_t (bf_b h39)) rfl (bl rfl) ?_
          refine TrL.cons_yes rfl rfl rfl (bf_dec h38) (OpTr.v (v_pick_f rfl rfl (bf_b h39) rfl) rfl (bl rfl) ?_)
          refine TrL.v (v_pick_f rfl rfl (bf_dec h38) rfl) rfl rfl (bl rfl) ?_
          refine TrL.nil (qcut_hit false (()) (Option.some.inj hj5).symm (Imp.addF' _ (nilF (rSl rp_u64_u64)) (Imp.re _ [1, 0] [0, 1] (sc rfl (sc rfl (sc rfl (sc rfl (sc rfl sn))))) (by decide) rfl rfl rfl)))
    · subst hd6
      refine (qthen_n ?_)
      rcases ifc H with ⟨h40, H⟩ | ⟨h40, H⟩
      · refine Tr.cond_t rfl h40 ?_
        refine Tr.seq ?_
        refine Tr.region ?_
        refine TrL.v (v_build (vs := []) (out := [.int .i64 0, .int .i64 0, .slice none 0 0]) rfl pl26 ze26 rfl rfl) rfl rfl (bl rfl) ?_
        refine TrL.cons rfl (op_store' (k := 1) (c' := [.int .i64 0, .int .i64 0, .slice none 0 0]) rfl rfl rfl rfl rfl ty26 rfl (Nat.le_of_ble_eq_true rfl) (ones (oc rfl (oc rfl (oc rfl on)))) rfl ?_)
        refine TrL.v (v_assign rfl rfl) rfl rfl (bl rfl) ?_
        refine TrL.nil (qthen_n ?_)
        have hz := Option.some.inj H
        subst hz
        refine Tr.ret (qthen_r (ret_r ⟨[(6, .pointer (some ⟨b5, 0, none⟩)), (7, .int .i64 6)], [cells b5 [.int .i64 0, .int .i64 0, .slice none 0 0] 26], [slF (rSl rp_u64_u64) none 0 (([] : List (List (Int × Int))))], []⟩ [.agg #[.int .i64 0, .int .i64 0, .slice none 0 0], .int .i64 6] [] [cells b5 [.int .i64 0, .int .i64 0, .slice none 0 0] 26] (Imp.re _ [1] [1] (sc rfl (sc rfl sn)) (by decide) rfl rfl rfl) rfl rfl ⟨((none, 0)), rfl, rfl, rfl⟩ (.cons (resv_cell (k := 0) rfl rfl ty26 nofun rfl rfl) (.cons (resv_tmp rfl) .nil))))
      · refine Tr.cond_f rfl (bf_b h40) ?_
        refine Tr.skip (qthen_n ?_)
        refine Tr.seq ?_
        refine Tr.seq ?_
        refine Tr.region ?_
        refine TrL.v (v_move rfl rfl) rfl rfl (bl rfl) ?_
        refine TrL.v (v_arith rfl rfl rfl ar_gtr) rfl rfl (bl rfl) ?_
        refine TrL.v (v_move rfl rfl) rfl rfl (bl rfl) ?_
        rcases ifc H with ⟨h42, H⟩ | ⟨h42, H⟩
        · refine TrL.cons_no rfl rfl rfl (gn_f (bt_dec h42)) rfl (bl rfl) ?_
          refine TrL.cons_no rfl rfl rfl (gn_f (bt_dec h42)) rfl (bl rfl) ?_
          refine TrL.cons_no rfl rfl rfl (gn_f (bt_dec h42)) rfl (bl rfl) ?_
          refine TrL.cons_no rfl rfl rfl (gn_f (bt_dec h42)) rfl (bl rfl) ?_
          refine TrL.cons_no rfl rfl rfl (gn_f (bt_dec h42)) rfl (bl rfl) ?_
          refine TrL.v (v_pick_t rfl rfl (bt_dec h42) rfl) rfl rfl (bl rfl) ?_
          refine TrL.nil (qthen_n ?_)
          refine Tr.cond_t rfl rfl ?_
          refine Tr.seq ?_
          refine Tr.region ?_
          refine TrL.v (v_build (vs := []) (out := [.int .i64 0, .int .i64 0, .slice none 0 0]) rfl pl26 ze26 rfl rfl) rfl rfl (bl rfl) ?_
          refine TrL.cons rfl (op_store' (k := 1) (c' := [.int .i64 0, .int .i64 0, .slice none 0 0]) rfl rfl rfl rfl rfl ty26 rfl (Nat.le_of_ble_eq_true rfl) (ones (oc rfl (oc rfl (oc rfl on)))) rfl ?_)
          refine TrL.v (v_assign rfl rfl) rfl rfl (bl rfl) ?_
          refine TrL.nil (qthen_n ?_)
          have hz := Option.some.inj H
          subst hz
          refine Tr.ret (qthen_r (ret_r ⟨[(6, .pointer (some ⟨b5, 0, none⟩)), (7, .int .i64 5)], [cells b5 [.int .i64 0, .int .i64 0, .slice none 0 0] 26], [slF (rSl rp_u64_u64) none 0 (([] : List (List (Int × Int))))], []⟩ [.agg #[.int .i64 0, .int .i64 0, .slice none 0 0], .int .i64 5] [] [cells b5 [.int .i64 0, .int .i64 0, .slice none 0 0] 26] (Imp.re _ [1] [1] (sc rfl (sc rfl sn)) (by decide) rfl rfl rfl) rfl rfl ⟨((none, 0)), rfl, rfl, rfl⟩ (.cons (resv_cell (k := 0) rfl rfl ty26 nofun rfl rfl) (.cons (resv_tmp rfl) .nil))))
        · refine TrL.cons_yes rfl rfl rfl (bf_dec h42) (OpTr.v (v_move rfl rfl) rfl (bl rfl) ?_)
          refine TrL.cons_yes rfl rfl rfl (bf_dec h42) (OpTr.v (v_load (k := 0) rfl rfl rfl ty26 nofun rfl rfl) rfl (bl rfl) ?_)
          obtain ⟨r24, hr24, H⟩ := bnd H
          refine TrL.cons_yes rfl rfl rfl (bf_dec h42) (op_call0' (vs := [.agg #[.int .i64 p1.1, .int .i64 p1.2.1, .slice A1 p1.2.2.length c1]]) (cap := []) [0] rfl rfl (bl rfl) rfl rfl en81 (c_ref06_Total p1 A1 c1 r24 hr24) rfl (fun ret M' F' hR24 => ?_))
          obtain ⟨rfl, rfl, rfl⟩ := hR24
          refine TrL.cons_yes rfl rfl rfl (bf_dec h42) (OpTr.v (v_arith rfl rfl rfl ar_add_u64) rfl (bl rfl) ?_)
          refine TrL.cons_yes rfl rfl rfl (bf_dec h42) (OpTr.v (v_arith rfl rfl rfl ar_gtr) rfl (bl rfl) ?_)
          refine TrL.v (v_pick_f rfl rfl (bf_dec h42) rfl) rfl rfl (bl rfl) ?_
          refine TrL.nil (qthen_n ?_)
          rcases ifc H with ⟨h43, H⟩ | ⟨h43, H⟩
          · refine Tr.cond_t rfl (bt_dec h43) ?_
            refine Tr.seq ?_
            refine Tr.region ?_
            refine TrL.v (v_build (vs := []) (out := [.int .i64 0, .int .i64 0, .slice none 0 0]) rfl pl26 ze26 rfl rfl) rfl rfl (bl rfl) ?_
            refine TrL.cons rfl (op_store' (k := 1) (c' := [.int .i64 0, .int .i64 0, .slice none 0 0]) rfl rfl rfl rfl rfl ty26 rfl (Nat.le_of_ble_eq_true rfl) (ones (oc rfl (oc rfl (oc rfl on)))) rfl ?_)
            refine TrL.v (v_assign rfl rfl) rfl rfl (bl rfl) ?_
            refine TrL.nil (qthen_n ?_)
            have hz := Option.some.inj H
            subst hz
            refine Tr.ret (qthen_r (ret_r ⟨[(6, .pointer (some ⟨b5, 0, none⟩)), (7, .int .i64 5)], [cells b5 [.int .i64 0, .int .i64 0, .slice none 0 0] 26], [slF (rSl rp_u64_u64) none 0 (([] : List (List (Int × Int))))], []⟩ [.agg #[.int .i64 0, .int .i64 0, .slice none 0 0], .int .i64 5] [] [cells b5 [.int .i64 0, .int .i64 0, .slice none 0 0] 26] (Imp.re _ [1] [1] (sc rfl (sc rfl sn)) (by decide) rfl rfl rfl) rfl rfl ⟨((none, 0)), rfl, rfl, rfl⟩ (.cons (resv_cell (k := 0) rfl rfl ty26 nofun rfl rfl) (.cons (resv_tmp rfl) .nil))))
          · refine Tr.cond_f rfl (bf_dec h43) ?_
            refine Tr.skip (qthen_n ?_)
            refine Tr.seq ?_
            refine Tr.region ?_
            refine TrL.v (v_fieldAddr' rfl fo26_0 rfl rfl) rfl rfl (bl rfl) ?_
            refine TrL.v (v_load (k := 0) rfl rfl rfl ty3 (fun _ => rfl) rfl rfl) rfl rfl (bl rfl) ?_
            refine TrL.v (v_fieldAddr' rfl fo26_1 rfl rfl) rfl rfl (bl rfl) ?_
            refine TrL.v (v_load (k := 0) rfl rfl rfl ty3 (fun _ => rfl) rfl rfl) rfl rfl (bl rfl) ?_
            refine TrL.v (v_build (vs := [.int .i64 p1.1, .int .i64 p1.2.1]) (out := [.int .i64 p1.1, .int .i64 p1.2.1, .slice none 0 0]) rfl pl26 ze26 rfl rfl) rfl rfl (bl rfl) ?_
            refine TrL.cons rfl (op_alloc' rfl (bl rfl) rfl ze26 (fun b6 => ?_))
            refine TrL.cons rfl (op_store' (k := 0) (c' := [.int .i64 p1.1, .int .i64 p1.2.1, .slice none 0 0]) rfl rfl rfl rfl rfl ty26 rfl (Nat.le_of_ble_eq_true rfl) (ones (oc rfl (oc rfl (oc rfl on)))) rfl ?_)
            refine TrL.nil (qthen_n ?_)
            refine Tr.seq ?_
            refine Tr.region ?_
            refine TrL.v (v_assign rfl rfl) rfl rfl (bl rfl) ?_
            refine TrL.nil (qthen_n ?_)
            refine Tr.seq ?_
            refine Tr.region ?_
            refine TrL.v (v_move rfl rfl) rfl rfl (bl rfl) ?_
            refine TrL.v (v_assign rfl rfl) rfl rfl (bl rfl) ?_
            refine TrL.nil (qthen_n ?_)
            refine Tr.seq ?_
            refine Tr.seq ?_
            refine Tr.region ?_
            refine TrL.v (v_assign rfl rfl) rfl rfl (bl rfl) ?_
            refine TrL.nil (qthen_n ?_)
            obtain ⟨x2, hx3, H⟩ := bnd H
            refine Tr.cutE (D := List (List (Int × Int))) (M := Option Addr × Nat × Option Nat) .normal (fun _d => x2 = _d) (fun x2 m51 => ⟨[(6, .pointer (some ⟨b5, 0, none⟩)), (10, .pointer (some ⟨b6, 0, none⟩))], [cells b5 [.int .i64 0, .int .i64 0, .slice none 0 0] 26, cells b6 [.int .i64 p1.1, .int .i64 p1.2.1, .slice m51.1 x2.length m51.2.1] 26, grow 31 1 (.slice m51.1 x2.length m51.2.1) x2.length m51.2.2], [slF (rSl rp_u64_u64) none 0 (([] : List (List (Int × Int)))), slF (rSl rp_u64_u64) m51.1 m51.2.1 x2], []⟩) ?_ (fun x2 m51 hd10 => ?_)
            · refine Tr.block (Tr.loopI (ι := Option Addr × Nat × Option Addr × Nat × Option Nat) (step := ref06_Add_s0 p1 p2) (fun s5 m42 => ⟨[(1, .int .u64 p2), (3, .pointer (some ⟨b4, 0, none⟩)), (6, .pointer (some ⟨b5, 0, none⟩)), (10, .pointer (some ⟨b6, 0, none⟩)), (11, .slice m42.1 s5.1.length m42.2.1), (12, .int .u64 s5.2.1), (13, .int .i64 s5.2.2.1)], [cells b4 [.int .i64 p1.1, .int .i64 p1.2.1, .slice A1 p1.2.2.length c1] 26, cells b5 [.int .i64 0, .int .i64 0, .slice none 0 0] 26, cells b6 [.int .i64 p1.1, .int .i64 p1.2.1, .slice m42.2.2.1 s5.2.2.2.length m42.2.2.2.1] 26, grow 31 1 (.slice m42.2.2.1 s5.2.2.2.length m42.2.2.2.1) s5.2.2.2.length m42.2.2.2.2], [slF rp_u64_u64 m42.1 m42.2.1 s5.1, slF (rSl rp_u64_u64) A1 c1 p1.2.2, slF (rSl rp_u64_u64) none 0 (([] : List (List (Int × Int)))), slF (rSl rp_u64_u64) m42.2.2.1 m42.2.2.2.1 s5.2.2.2], []⟩) ((none, 0, none, 0, none)) hx3 (Imp.full' (E := 31) (sz := 1) (A := none) (n := 0) (Imp.addF' _ (nilF rp_u64_u64) (Imp.re _ [2, 3, 1, 0] [2, 0, 1, 1] (sc rfl (sc rfl (sc rfl (sc rfl (sc rfl (sc rfl (sc rfl sn))))))) (by decide) rfl rfl rfl))) (fun s5 m42 y2 hy2 hx4 => ?_))
              unfold ref06_Add_s0 at hy2
              refine Tr.seq ?_
              refine Tr.seq ?_
              obtain ⟨j8, hj8, hy2⟩ := bnd hy2
              refine Tr.cutE (D := Bool) (M := Unit) .normal (fun _d => j8 = _d) (fun j8 m52 => ⟨[(1, .int .u64 p2), (3, .pointer (some ⟨b4, 0, none⟩)), (6, .pointer (some ⟨b5, 0, none⟩)), (10, .pointer (some ⟨b6, 0, none⟩)), (11, .slice m42.1 s5.1.length m42.2.1), (12, .int .u64 s5.2.1), (13, .int .i64 s5.2.2.1), (65, .bool j8)], [cells b4 [.int .i64 p1.1, .int .i64 p1.2.1, .slice A1 p1.2.2.length c1] 26, cells b5 [.int .i64 0, .int .i64 0, .slice none 0 0] 26, cells b6 [.int .i64 p1.1, .int .i64 p1.2.1, .slice m42.2.2.1 s5.2.2.2.length m42.2.2.2.1] 26, grow 31 1 (.slice m42.2.2.1 s5.2.2.2.length m42.2.2.2.1) s5.2.2.2.length m42.2.2.2.2], [slF rp_u64_u64 m42.1 m42.2.1 s5.1, slF (rSl rp_u64_u64) A1 c1 p1.2.2, slF (rSl rp_u64_u64) none 0 (([] : List (List (Int × Int)))), slF (rSl rp_u64_u64) m42.2.2.1 m42.2.2.2.1 s5.2.2.2], []⟩) ?_ (fun j8 m52 hd9 => ?_)
              · refine Tr.region ?_
                refine TrL.v (v_move rfl rfl) rfl rfl (bl rfl) ?_
                refine TrL.v (v_len rfl sl31 rfl) rfl rfl (bl rfl) ?_
                refine TrL.v (v_arith rfl rfl rfl ar_gtr) rfl rfl (bl rfl) ?_
                refine TrL.v (v_move rfl rfl) rfl rfl (bl rfl) ?_
                rcases ifc hj8 with ⟨h61, hj8⟩ | ⟨h61, hj8⟩
                · refine TrL.cons_no rfl rfl rfl (gn_f (bt_dec h61)) rfl (bl rfl) ?_
                  refine TrL.cons_no rfl rfl rfl (gn_f (bt_dec h61)) rfl (bl rfl) ?_
                  refine TrL.v (v_pick_t rfl rfl (bt_dec h61) rfl) rfl rfl (bl rfl) ?_
                  refine TrL.v (v_move rfl rfl) rfl rfl (bl rfl) ?_
                  refine TrL.cons_no rfl rfl rfl (gn_f rfl) rfl (bl rfl) ?_
                  refine TrL.cons_no rfl rfl rfl (gn_f rfl) rfl (bl rfl) ?_
                  refine TrL.cons_no rfl rfl rfl (gn_f rfl) rfl (bl rfl) ?_
                  refine TrL.cons_no rfl rfl rfl (gn_f rfl) rfl (bl rfl) ?_
                  refine TrL.cons_no rfl rfl rfl (gn_f rfl) rfl (bl rfl) ?_
                  refine TrL.v (v_pick_t rfl rfl rfl rfl) rfl rfl (bl rfl) ?_
                  refine TrL.nil (qcut_hit true (()) (Option.some.inj hj8).symm (Imp.re _ [0, 1, 2, 3] [0, 1, 2, 3] (sc rfl (sc rfl (sc rfl (sc rfl (sc rfl (sc rfl (sc rfl (sc rfl sn)))))))) (by decide) rfl rfl rfl))
                · refine TrL.cons_yes rfl rfl rfl (bf_dec h61) (OpTr.v (v_move rfl rfl) rfl (bl rfl) ?_)
                  refine TrL.cons_yes rfl rfl rfl (bf_dec h61) (OpTr.v (v_arith rfl rfl rfl ar_gtr) rfl (bl rfl) ?_)
                  refine TrL.v (v_pick_f rfl rfl (bf_dec h61) rfl) rfl rfl (bl rfl) ?_
                  refine TrL.v (v_move rfl rfl) rfl rfl (bl rfl) ?_
                  rcases ifc hj8 with ⟨h62, hj8⟩ | ⟨h62, hj8⟩
                  · refine TrL.cons_no rfl rfl rfl (gn_f (bt_dec h62)) rfl (bl rfl) ?_
                    refine TrL.cons_no rfl rfl rfl (gn_f (bt_dec h62)) rfl (bl rfl) ?_
                    refine TrL.cons_no rfl rfl rfl (gn_f (bt_dec h62)) rfl (bl rfl) ?_
                    refine TrL.cons_no rfl rfl rfl (gn_f (bt_dec h62)) rfl (bl rfl) ?_
                    refine TrL.cons_no rfl rfl rfl (gn_f (bt_dec h62)) rfl (bl rfl) ?_
                    refine TrL.v (v_pick_t rfl rfl (bt_dec h62) rfl) rfl rfl (bl rfl) ?_
                    refine TrL.nil (qcut_hit true (()) (Option.some.inj hj8).symm (Imp.re _ [0, 1, 2, 3] [0, 1, 2, 3] (sc rfl (sc rfl (sc rfl (sc rfl (sc rfl (sc rfl (sc rfl (sc rfl sn)))))))) (by decide) rfl rfl rfl))
                  · refine TrL.cons_yes rfl rfl rfl (bf_dec h62) (OpTr.v (v_move rfl rfl) rfl (bl rfl) ?_)
                    refine TrL.cons_yes rfl rfl rfl (bf_dec h62) (OpTr.v (v_fieldAddr' rfl fo26_2 rfl rfl) rfl (bl rfl) ?_)
                    refine TrL.cons_yes rfl rfl rfl (bf_dec h62) (OpTr.v (v_load (k := 0) rfl rfl rfl ty24 (fun _ => rfl) rfl rfl) rfl (bl rfl) ?_)
                    refine TrL.cons_yes rfl rfl rfl (bf_dec h62) (OpTr.v (v_len rfl sl24 rfl) rfl (bl rfl) ?_)
                    refine TrL.cons_yes rfl rfl rfl (bf_dec h62) (OpTr.v (v_arith rfl rfl rfl ar_lss) rfl (bl rfl) ?_)
                    refine TrL.v (v_pick_f rfl rfl (bf_dec h62) rfl) rfl rfl (bl rfl) ?_
                    refine TrL.nil (qcut_hit (decide (s5.2.2.1 < ((p1.2.2.length : Int)))) (()) (Option.some.inj hj8).symm (Imp.re _ [0, 1, 2, 3] [0, 1, 2, 3] (sc rfl (sc rfl (sc rfl (sc rfl (sc rfl (sc rfl (sc rfl (sc rfl sn)))))))) (by decide) rfl rfl rfl))
              · subst hd9
                refine (qthen_n ?_)
                rcases ifc hy2 with ⟨h63, hy2⟩ | ⟨h63, hy2⟩
                · refine Tr.cond_t rfl h63 ?_
                  refine Tr.skip (qthen_n ?_)
                  refine Tr.seq ?_
                  refine Tr.block ?_
                  refine Tr.seq ?_
                  refine Tr.regionD drawn (fun hok => ?_)
                  refine TrAny.prom (i := 0) (d := 69) hok (OpVal.plain rfl rfl (v_load (k := 0) rfl rfl rfl ty26 nofun rfl rfl)) (by kernel_rfl) rfl (bl rfl) ?_
                  clear hok
                  intro hok
                  refine TrAny.prom (i := 1) (d := 70) hok (OpVal.plain rfl rfl (v_move rfl rfl)) (by kernel_rfl) rfl (bl rfl) ?_
                  clear hok
                  intro hok
                  refine TrAny.prom (i := 3) (d := 72) hok (OpVal.plain rfl rfl (v_fieldAddr' rfl fo26_0 rfl rfl)) (by kernel_rfl) rfl (bl rfl) ?_
                  clear hok
                  intro hok
                  refine TrAny.prom (i := 4) (d := 73) hok (OpVal.plain rfl rfl (v_load (k := 0) rfl rfl rfl ty3 (fun _ => rfl) rfl rfl)) (by kernel_rfl) rfl (bl rfl) ?_
                  clear hok
                  intro hok
                  refine TrAny.prom (i := 5) (d := 74) hok (OpVal.plain rfl rfl (v_move rfl rfl)) (by kernel_rfl) rfl (bl rfl) ?_
                  clear hok
                  intro hok
                  refine TrAny.prom (i := 7) (d := 76) hok (OpVal.plain rfl rfl (v_move rfl rfl)) (by kernel_rfl) rfl (bl rfl) ?_
                  clear hok
                  intro hok
                  refine TrAny.prom (i := 8) (d := 77) hok (OpVal.plain rfl rfl (v_move rfl rfl)) (by kernel_rfl) rfl (bl rfl) ?_
                  clear hok
                  intro hok
                  refine TrAny.prom (i := 9) (d := 78) hok (OpVal.plain rfl rfl (v_move rfl rfl)) (by kernel_rfl) rfl (bl rfl) ?_
                  clear hok
                  intro hok
                  obtain ⟨r40, hr40, hy2⟩ := bnd hy2
                  refine TrAny.next (j := 2) (by kernel_rfl) hok rfl (by kernel_rfl) (op_call0' (vs := [.agg #[.int .i64 p1.1, .int .i64 p1.2.1, .slice A1 p1.2.2.length c1], .int .i64 s5.2.2.1]) (cap := []) [1] rfl rfl (bl rfl) rfl rfl en118 (c_ref06_at p1 s5.2.2.1 A1 c1 r40 hr40) rfl (fun ret M' F' hR40 => ?_))
                  obtain ⟨m56, rfl, rfl, rfl⟩ := hR40
                  refine nxp hok (kp_imp (kp_c0 rfl)) rfl (by kernel_rfl) ?_
                  clear hok
                  intro hok
                  obtain ⟨r41, hr41, hy2⟩ := bnd hy2
                  refine TrAny.next (j := 6) (by kernel_rfl) hok rfl (by kernel_rfl) (op_call0' (vs := [.int .i64 p1.1, .int .i64 s5.2.2.1]) (cap := []) [] rfl rfl (bl rfl) rfl rfl en119 (c_ref05_Most p1.1 s5.2.2.1 r41 hr41) rfl (fun ret M' F' hR41 => ?_))
                  obtain ⟨rfl, rfl, rfl⟩ := hR41
                  refine nxp hok (kp_imp (kp_c0 rfl)) rfl (by kernel_rfl) ?_
                  clear hok
                  intro hok
                  obtain ⟨r42, hr42, hy2⟩ := bnd hy2
                  refine TrAny.next (j := 10) (by kernel_rfl) hok rfl (by kernel_rfl) (op_call0' (vs := [.slice m56.1 r40.length m56.2, .int .i64 r41, .slice m42.1 s5.1.length m42.2.1, .int .u64 s5.2.1, .int .u64 p2]) (cap := []) [4, 0] rfl rfl (bl rfl) rfl rfl en117 (c_ref05_Push r40 r41 s5.1 s5.2.1 p2 m56.1 m56.2 m42.1 m42.2.1 r42 hr42) rfl (fun ret M' F' hR42 => ?_))
                  obtain ⟨m58, rfl, rfl, rfl⟩ := hR42
                  refine nxp hok (kp_imp (kp_c0 rfl)) rfl (by kernel_rfl) ?_
                  clear hok
                  intro hok
                  refine TrAny.prom (i := 11) (d := 68) hok (OpVal.plain rfl rfl (v_move rfl rfl)) (by kernel_rfl) rfl (bl rfl) ?_
                  clear hok
                  intro hok
                  refine TrAny.prom (i := 12) (d := 80) hok (OpVal.plain rfl rfl (v_extract rfl rfl rfl)) (by kernel_rfl) rfl (bl rfl) ?_
                  clear hok
                  intro hok
                  refine TrAny.prom (i := 13) (d := 81) hok (OpVal.plain rfl rfl (v_extract rfl rfl rfl)) (by kernel_rfl) rfl (bl rfl) ?_
                  clear hok
                  intro hok
                  refine TrAny.prom (i := 14) (d := 82) hok (OpVal.plain rfl rfl (v_extract rfl rfl rfl)) (by kernel_rfl) rfl (bl rfl) ?_
                  clear hok
                  intro hok
                  refine TrAny.prom (i := 15) (d := 14) hok (OpVal.plain rfl rfl (v_assign rfl rfl)) (by kernel_rfl) rfl (bl rfl) ?_
                  clear hok
                  intro hok
                  refine TrAny.prom (i := 16) (d := 15) hok (OpVal.plain rfl rfl (v_assign rfl rfl)) (by kernel_rfl) rfl (bl rfl) ?_
                  clear hok
                  intro hok
                  refine TrAny.prom (i := 17) (d := 16) hok (OpVal.plain rfl rfl (v_assign rfl rfl)) (by kernel_rfl) rfl (bl rfl) ?_
                  clear hok
                  intro hok
                  refine TrAny.done (by kernel_rfl) (by kernel_rfl) hok (by kernel_rfl) (qthen_n ?_)
                  refine Tr.seq ?_
                  refine Tr.region ?_
                  refine TrL.v (v_fieldAddr' rfl fo26_2 rfl rfl) rfl rfl (bl rfl) ?_
                  refine TrL.v (v_load (k := 2) rfl rfl rfl ty24 (fun _ => rfl) rfl rfl) rfl rfl (bl rfl) ?_
                  refine TrL.v (v_move rfl rfl) rfl rfl (bl rfl) ?_
                  refine TrL.cons rfl (op_buildSlice' (rp := (rSl rp_u64_u64)) (xs := [r42.1]) (vs := [.slice m58.1 r42.1.length m58.2.1]) (out := [.slice m58.1 r42.1.length m58.2.1]) rfl (bl rfl) rfl sl24 ty31 ze31 rfl rfl (by decide) (by decide) rfl (fun γ w hF => (rowc ⟨_, _, rfl, hF _ (List.mem_of_getElem? (i := 5) rfl)⟩ rown rfl)) (fun A12 => ?_))
                  obtain ⟨h64, hy2⟩ := rom hy2
                  refine TrL.cons rfl (op_append' (rp := (rSl rp_u64_u64)) (xs := s5.2.2.2) (ys := [r42.1]) (k := 3) (kx := 3) (ky := 7) rfl (bl rfl) rfl sl24 ty31 ze31 rfl by31 rfl rfl rfl rfl rfl rfl rfl h64.1 h64.2 (fun A13 c7 o6 => ?_))
                  refine TrL.v (v_fieldAddr' rfl fo26_2 rfl rfl) rfl rfl (bl rfl) ?_
                  refine TrL.cons rfl (op_store' (k := 2) (c' := [.int .i64 p1.1, .int .i64 p1.2.1, .slice A13 ((s5.2.2.2 ++ ([r42.1])).length) c7]) rfl rfl rfl rfl rfl ty24 rfl (Nat.le_of_ble_eq_true rfl) (ones (oc rfl on)) rfl ?_)
                  refine TrL.nil (qthen_n ?_)
                  refine Tr.seq ?_
                  refine Tr.region ?_
                  refine TrL.v (v_move rfl rfl) rfl rfl (bl rfl) ?_
                  refine TrL.v (v_assign rfl rfl) rfl rfl (bl rfl) ?_
                  refine TrL.nil (qthen_n ?_)
                  refine Tr.region ?_
                  refine TrL.v (v_move rfl rfl) rfl rfl (bl rfl) ?_
                  refine TrL.v (v_assign rfl rfl) rfl rfl (bl rfl) ?_
                  refine TrL.nil (qblock_n (qthen_n ?_))
                  refine Tr.region ?_
                  refine TrL.v (v_move rfl rfl) rfl rfl (bl rfl) ?_
                  refine TrL.v (v_arith rfl rfl rfl ar_add_i64) rfl rfl (bl rfl) ?_
                  refine TrL.v (v_assign rfl rfl) rfl rfl (bl rfl) ?_
                  have hz := Option.some.inj hy2
                  subst hz
                  refine TrL.nil (qloop_n ((m58.2.2.1, m58.2.2.2, A13, c7, o6)) (Imp.re _ [0, 1, 2, 3] [6, 1, 2, 8] (sc rfl (sc rfl (sc rfl (sc rfl (sc rfl (sc rfl (sc rfl sn))))))) (by decide) rfl rfl rfl))
                · refine Tr.cond_f rfl (bf_b h63) ?_
                  have hz := Option.some.inj hy2
                  subst hz
                  refine Tr.exit (qthen_x (qloop_x (qblock_hit (qcut_hit s5.2.2.2 ((m42.2.2.1, m42.2.2.2.1, m42.2.2.2.2)) (hx4 _ rfl).symm (Imp.re _ [1, 2, 3] [2, 3] (sc rfl (sc rfl sn)) (by decide) rfl rfl rfl)))))
            · subst hd10
              refine (qthen_n ?_)
              refine Tr.seq ?_
              refine Tr.region ?_
              refine TrL.v (v_load (k := 1) rfl rfl rfl ty26 nofun rfl rfl) rfl rfl (bl rfl) ?_
              refine TrL.cons rfl (op_store' (k := 0) (c' := [.int .i64 p1.1, .int .i64 p1.2.1, .slice m51.1 x2.length m51.2.1]) rfl rfl rfl rfl rfl ty26 rfl (Nat.le_of_ble_eq_true rfl) (ones (oc rfl (oc rfl (oc rfl on)))) rfl ?_)
              refine TrL.v (v_assign rfl rfl) rfl rfl (bl rfl) ?_
              refine TrL.nil (qthen_n ?_)
              have hz := Option.some.inj H
              subst hz
              refine Tr.ret (ret_r ⟨[(6, .pointer (some ⟨b5, 0, none⟩)), (7, .int .i64 0)], [cells b5 [.int .i64 p1.1, .int .i64 p1.2.1, .slice m51.1 x2.length m51.2.1] 26], [slF (rSl rp_u64_u64) m51.1 m51.2.1 x2], []⟩ [.agg #[.int .i64 p1.1, .int .i64 p1.2.1, .slice m51.1 x2.length m51.2.1], .int .i64 0] [] [cells b5 [.int .i64 p1.1, .int .i64 p1.2.1, .slice m51.1 x2.length m51.2.1] 26] (Imp.re _ [0] [1] (sc rfl (sc rfl sn)) (by decide) rfl rfl rfl) rfl rfl ⟨((m51.1, m51.2.1)), rfl, rfl, rfl⟩ (.cons (resv_cell (k := 0) rfl rfl ty26 nofun rfl rfl) (.cons (resv_tmp rfl) .nil)))

theorem c_ref06_Made (p1 : Int) (p2 : List (Int × Int)) (A1 : Option Addr) (c1 : Nat) (r : Int × Int × List (List (Int × Int))) (H : ref06_Made p1 p2 = some r) :
    Ctr Try.prog 16 [.int .i64 p1, .slice A1 p2.length c1] [] [slF rp_u64_u64 A1 c1 p2] (fun ret M' F' => ∃ m : Option Addr × Nat, ret = .agg #[.int .i64 r.1, .int .i64 r.2.1, .slice m.1 r.2.2.length m.2] ∧ M' = [] ∧ F' = [slF (rSl rp_u64_u64) m.1 m.2 r.2.2]) := by
  unfold ref06_Made at H
  refine ctr_ofI (N := 48) Try.func16 rfl Try.ntmps16 rfl (Nat.le_of_ble_eq_true rfl) (fun γ0 w0 => ?_)
  refine Tr.seq ?_
  refine Tr.region ?_
  refine TrL.cons rfl (op_alloc' rfl (bl rfl) rfl ze26 (fun b18 => ?_))
  refine TrL.nil (qthen_n ?_)
  refine Tr.seq ?_
  refine Tr.region ?_
  refine TrL.v (v_move rfl rfl) rfl rfl (bl rfl) ?_
  refine TrL.v (v_max rfl rfl rfl) rfl rfl (bl rfl) ?_
  refine TrL.v (v_rem rfl rfl rfl (by decide)) rfl rfl (bl rfl) ?_
  refine TrL.v (v_arith rfl rfl rfl ar_add_i64) rfl rfl (bl rfl) ?_
  refine TrL.v (v_build (vs := [.int .i64 (wi64 (2 + ((max p1 0).tmod 30)))]) (out := [.int .i64 (wi64 (2 + ((max p1 0).tmod 30))), .int .i64 0, .slice none 0 0]) rfl pl26 ze26 rfl rfl) rfl rfl (bl rfl) ?_
  refine TrL.cons rfl (op_alloc' rfl (bl rfl) rfl ze26 (fun b19 => ?_))
  refine TrL.cons rfl (op_store' (k := 0) (c' := [.int .i64 (wi64 (2 + ((max p1 0).tmod 30))), .int .i64 0, .slice none 0 0]) rfl rfl rfl rfl rfl ty26 rfl (Nat.le_of_ble_eq_true rfl) (ones (oc rfl (oc rfl (oc rfl on)))) rfl ?_)
  refine TrL.nil (qthen_n ?_)
  refine Tr.seq ?_
  refine Tr.region ?_
  refine TrL.v (v_assign rfl rfl) rfl rfl (bl rfl) ?_
  refine TrL.nil (qthen_n ?_)
  refine Tr.seq ?_
  refine Tr.seq ?_
  refine Tr.region ?_
  refine TrL.v (v_assign rfl rfl) rfl rfl (bl rfl) ?_
  refine TrL.nil (qthen_n ?_)
  obtain ⟨x2, hx3, H⟩ := bnd H
  refine Tr.cutE (D := Int × Int × List (List (Int × Int))) (M := Option Addr × Nat) .normal (fun _d => x2 = _d) (fun x2 m38 => ⟨[(4, .pointer (some ⟨b18, 0, none⟩)), (5, .pointer (some ⟨b19, 0, none⟩))], [cells b18 [.int .i64 0, .int .i64 0, .slice none 0 0] 26, cells b19 [.int .i64 x2.1, .int .i64 x2.2.1, .slice m38.1 x2.2.2.length m38.2] 26], [slF (rSl rp_u64_u64) none 0 (([] : List (List (Int × Int)))), slF (rSl rp_u64_u64) m38.1 m38.2 x2.2.2], []⟩) ?_ (fun x2 m38 hd2 => ?_)
  · refine Tr.block (Tr.loopI (ι := Option Addr × Nat) (step := ref06_Made_s0 p2) (fun s5 m30 => ⟨[(1, .slice A1 p2.length c1), (4, .pointer (some ⟨b18, 0, none⟩)), (5, .pointer (some ⟨b19, 0, none⟩)), (6, .int .u64 s5.1), (7, .int .i64 s5.2.1)], [cells b18 [.int .i64 0, .int .i64 0, .slice none 0 0] 26, cells b19 [.int .i64 s5.2.2.1, .int .i64 s5.2.2.2.1, .slice m30.1 s5.2.2.2.2.length m30.2] 26], [slF rp_u64_u64 A1 c1 p2, slF (rSl rp_u64_u64) none 0 (([] : List (List (Int × Int)))), slF (rSl rp_u64_u64) m30.1 m30.2 s5.2.2.2.2], []⟩) ((none, 0)) hx3 (Imp.addF' _ (nilF (rSl rp_u64_u64)) (Imp.re _ [1, 0] [0, 1, 1] (sc rfl (sc rfl (sc rfl (sc rfl (sc rfl sn))))) (by decide) rfl rfl rfl)) (fun s5 m30 y2 hy2 hx4 => ?_))
    unfold ref06_Made_s0 at hy2
    refine Tr.seq ?_
    refine Tr.seq ?_
    refine Tr.region ?_
    refine TrL.v (v_move rfl rfl) rfl rfl (bl rfl) ?_
    refine TrL.v (v_move rfl rfl) rfl rfl (bl rfl) ?_
    refine TrL.v (v_len rfl sl22 rfl) rfl rfl (bl rfl) ?_
    refine TrL.v (v_arith rfl rfl rfl ar_lss) rfl rfl (bl rfl) ?_
    refine TrL.v (v_move rfl rfl) rfl rfl (bl rfl) ?_
    rcases ifc hy2 with ⟨h20, hy2⟩ | ⟨h20, hy2⟩
    · refine TrL.cons_yes rfl rfl rfl (bt_dec h20) (OpTr.v (v_move rfl rfl) rfl (bl rfl) ?_)
      refine TrL.cons_yes rfl rfl rfl (bt_dec h20) (OpTr.v (v_arith rfl rfl rfl ar_lss) rfl (bl rfl) ?_)
      refine TrL.v (v_pick_t rfl rfl (bt_dec h20) rfl) rfl rfl (bl rfl) ?_
      refine TrL.nil (qthen_n ?_)
      rcases ifc hy2 with ⟨h21, hy2⟩ | ⟨h21, hy2⟩
      · refine Tr.cond_t rfl (bt_dec h21) ?_
        refine Tr.skip (qthen_n ?_)
        refine Tr.seq ?_
        refine Tr.block ?_
        refine Tr.seq ?_
        refine Tr.region ?_
        refine TrL.v (v_move rfl rfl) rfl rfl (bl rfl) ?_
        refine TrL.v (v_move rfl rfl) rfl rfl (bl rfl) ?_
        refine TrL.v (v_move rfl rfl) rfl rfl (bl rfl) ?_
        obtain ⟨z6, hz6, hy2⟩ := bnd hy2
        refine TrL.v (v_indexAddr (k := 0) rfl sl22 ty103 rfl rfl rfl rfl hz6) rfl rfl (bl rfl) ?_
        refine TrL.v (v_fieldAddr rfl fo103_0 rfl) rfl rfl (bl rfl) ?_
        refine TrL.v (v_loadg (A := A1) (i := s5.2.1) (j := 0) (k := 0) rfl ty28 (fun _ => rfl) rfl rfl hz6 rfl rfl) rfl rfl (bl rfl) ?_
        refine TrL.v (v_rem rfl rfl rfl (by decide)) rfl rfl (bl rfl) ?_
        refine TrL.v (v_arith rfl rfl rfl ar_add_u64) rfl rfl (bl rfl) ?_
        refine TrL.v (v_assign rfl rfl) rfl rfl (bl rfl) ?_
        refine TrL.nil (qthen_n ?_)
        refine Tr.seq ?_
        refine Tr.regionD drawn (fun hok => ?_)
        obtain ⟨r6, hr6, hy2⟩ := bnd hy2
        refine TrAny.cut (ι := Nat × Option Addr × Nat) (fun m42 => ⟨[(1, .slice A1 p2.length c1), (4, .pointer (some ⟨b18, 0, none⟩)), (5, .pointer (some ⟨b19, 0, none⟩)), (6, .int .u64 (wu64 (s5.1 + (z6.1.tmod 1000)))), (7, .int .i64 s5.2.1), (8, .pointer (some ⟨m42.1, 0, none⟩)), (9, .int .i64 r6.2.2.2), (20, .int .i64 s5.2.1), (21, .bool (decide (s5.2.1 < 30)))], [cells b18 [.int .i64 0, .int .i64 0, .slice none 0 0] 26, cells b19 [.int .i64 s5.2.2.1, .int .i64 s5.2.2.2.1, .slice m30.1 s5.2.2.2.2.length m30.2] 26, cells m42.1 [.int .i64 r6.1, .int .i64 r6.2.1, .slice m42.2.1 r6.2.2.1.length m42.2.2] 26], [slF rp_u64_u64 A1 c1 p2, slF (rSl rp_u64_u64) none 0 (([] : List (List (Int × Int)))), slF (rSl rp_u64_u64) m30.1 m30.2 s5.2.2.2.2, slF (rSl rp_u64_u64) m42.2.1 m42.2.2 r6.2.2.1], []⟩) ?_ (fun m42 => ?_)
        · refine TrAny.prom (i := 0) (d := 34) hok (OpVal.plain rfl rfl (v_load (k := 1) rfl rfl rfl ty26 nofun rfl rfl)) (by kernel_rfl) rfl (bl rfl) ?_
          clear hok
          intro hok
          refine TrAny.prom (i := 1) (d := 35) hok (OpVal.plain rfl rfl (v_move rfl rfl)) (by kernel_rfl) rfl (bl rfl) ?_
          clear hok
          intro hok
          refine TrAny.prom (i := 2) (d := 36) hok (OpVal.plain rfl rfl (v_move rfl rfl)) (by kernel_rfl) rfl (bl rfl) ?_
          clear hok
          intro hok
          refine TrAny.prom (i := 3) (d := 37) hok (OpVal.plain rfl rfl (v_move rfl rfl)) (by kernel_rfl) rfl (bl rfl) ?_
          clear hok
          intro hok
          refine TrAny.prom (i := 4) (d := 38) hok (OpVal.plain rfl rfl (v_indexAddr (k := 0) rfl sl22 ty103 rfl rfl rfl rfl hz6)) (by kernel_rfl) rfl (bl rfl) ?_
          clear hok
          intro hok
          refine TrAny.prom (i := 5) (d := 39) hok (OpVal.plain rfl rfl (v_fieldAddr rfl fo103_1 rfl)) (by kernel_rfl) rfl (bl rfl) ?_
          clear hok
          intro hok
          refine TrAny.prom (i := 6) (d := 40) hok (OpVal.plain rfl rfl (v_loadg (A := A1) (i := s5.2.1) (j := 1) (k := 0) rfl ty28 (fun _ => rfl) rfl rfl hz6 rfl rfl)) (by kernel_rfl) rfl (bl rfl) ?_
          clear hok
          intro hok
          refine TrAny.fork [7, 11] (by kernel_rfl) hok ⟨7, by decide, bl rfl⟩ (by kernel_rfl) (.cons ?_ (.cons ?_ .nil))
          · refine step_n rfl (by kernel_rfl) rfl (op_call0' (vs := [.agg #[.int .i64 s5.2.2.1, .int .i64 s5.2.2.2.1, .slice m30.1 s5.2.2.2.2.length m30.2], .int .u64 (wu64 (s5.1 + (z6.1.tmod 1000))), .int .u64 z6.2]) (cap := []) [2] rfl rfl (bl rfl) rfl rfl en58 (c_ref06_Add s5.2.2 (wu64 (s5.1 + (z6.1.tmod 1000))) z6.2 m30.1 m30.2 r6 hr6) rfl (fun ret M' F' hR29 => ?_))
            obtain ⟨m43, rfl, rfl, rfl⟩ := hR29
            refine nxp hok (kp_imp (kp_c0 rfl)) rfl (by kernel_rfl) ?_
            clear hok
            intro hok
            refine TrAny.prom (i := 8) (d := 33) hok (OpVal.plain rfl rfl (v_move rfl rfl)) (by kernel_rfl) rfl (bl rfl) ?_
            clear hok
            intro hok
            refine TrAny.prom (i := 9) (d := 42) hok (OpVal.plain rfl rfl (v_extract rfl rfl rfl)) (by kernel_rfl) rfl (bl rfl) ?_
            clear hok
            intro hok
            refine TrAny.prom (i := 10) (d := 43) hok (OpVal.plain rfl rfl (v_extract rfl rfl rfl)) (by kernel_rfl) rfl (bl rfl) ?_
            clear hok
            intro hok
            refine TrAny.prom (i := 13) (d := 9) hok (OpVal.plain rfl rfl (v_assign rfl rfl)) (by kernel_rfl) rfl (bl rfl) ?_
            clear hok
            intro hok
            refine TrAny.next (j := 11) (by kernel_rfl) hok rfl (by kernel_rfl) (op_alloc' rfl (bl rfl) rfl ze26 (fun b33 => ?_))
            refine nxp hok (kp_imp (kp_cm rfl)) rfl (by kernel_rfl) ?_
            clear hok
            intro hok
            refine TrAny.next (j := 12) (by kernel_rfl) hok rfl (by kernel_rfl) (op_store' (k := 0) (c' := [.int .i64 r6.1, .int .i64 r6.2.1, .slice m43.1 r6.2.2.1.length m43.2]) rfl rfl rfl rfl rfl ty26 rfl (Nat.le_of_ble_eq_true rfl) (ones (oc rfl (oc rfl (oc rfl on)))) rfl ?_)
            refine nxs hok (kp_allE [(0, 34, .agg #[.int .i64 s5.2.2.1, .int .i64 s5.2.2.2.1, .slice m30.1 s5.2.2.2.2.length m30.2]), (1, 35, .int .u64 (wu64 (s5.1 + (z6.1.tmod 1000)))), (2, 36, .slice A1 p2.length c1), (3, 37, .int .i64 s5.2.1), (4, 38, .pointer (some ⟨ablk A1, aoff A1 + (s5.2.1).toNat * 2, none⟩)), (5, 39, .pointer (some ⟨ablk A1, aoff A1 + (s5.2.1).toNat * 2 + 1, none⟩)), (6, 40, .int .u64 z6.2), (8, 33, .tuple #[.agg #[.int .i64 r6.1, .int .i64 r6.2.1, .slice m43.1 r6.2.2.1.length m43.2], .int .i64 r6.2.2.2]), (9, 42, .agg #[.int .i64 r6.1, .int .i64 r6.2.1, .slice m43.1 r6.2.2.1.length m43.2]), (10, 43, .int .i64 r6.2.2.2), (13, 9, .int .i64 r6.2.2.2)] (by kernel_rfl) (ac (.inl (by kernel_rfl)) (ac (.inl (by kernel_rfl)) (ac (.inl (by kernel_rfl)) (ac (.inl (by kernel_rfl)) (ac (.inl (by kernel_rfl)) (ac (.inl (by kernel_rfl)) (ac (.inl (by kernel_rfl)) (ac (.inl (by kernel_rfl)) (ac (.inl (by kernel_rfl)) (ac (.inr (OpVal.plain rfl rfl (v_extract rfl rfl rfl))) (ac (.inr (OpVal.plain rfl rfl (v_assign rfl rfl))) an)))))))))))) rfl ?_
            clear hok
            intro hok
            refine TrAny.done (by kernel_rfl) (by kernel_rfl) hok (by kernel_rfl) (⟨(b33, m43.1, m43.2), Imp.re _ [1, 2, 0] [0, 1, 2, 3] (sc rfl (sc rfl (sc rfl (sc rfl (sc rfl (sc rfl (sc rfl (sc rfl (sc rfl sn))))))))) (by decide) rfl rfl rfl⟩)
          · refine step_n rfl (by kernel_rfl) rfl (op_alloc' rfl (bl rfl) rfl ze26 (fun b34 => ?_))
            refine nxp hok (kp_imp (kp_cm rfl)) rfl (by kernel_rfl) ?_
            clear hok
            intro hok
            refine TrAny.next (j := 7) (by kernel_rfl) hok rfl (by kernel_rfl) (op_call0' (vs := [.agg #[.int .i64 s5.2.2.1, .int .i64 s5.2.2.2.1, .slice m30.1 s5.2.2.2.2.length m30.2], .int .u64 (wu64 (s5.1 + (z6.1.tmod 1000))), .int .u64 z6.2]) (cap := []) [2] rfl rfl (bl rfl) rfl rfl en58 (c_ref06_Add s5.2.2 (wu64 (s5.1 + (z6.1.tmod 1000))) z6.2 m30.1 m30.2 r6 hr6) rfl (fun ret M' F' hR30 => ?_))
            obtain ⟨m44, rfl, rfl, rfl⟩ := hR30
            refine nxp hok (kp_imp (kp_c0 rfl)) rfl (by kernel_rfl) ?_
            clear hok
            intro hok
            refine TrAny.prom (i := 8) (d := 33) hok (OpVal.plain rfl rfl (v_move rfl rfl)) (by kernel_rfl) rfl (bl rfl) ?_
            clear hok
            intro hok
            refine TrAny.prom (i := 9) (d := 42) hok (OpVal.plain rfl rfl (v_extract rfl rfl rfl)) (by kernel_rfl) rfl (bl rfl) ?_
            clear hok
            intro hok
            refine TrAny.prom (i := 10) (d := 43) hok (OpVal.plain rfl rfl (v_extract rfl rfl rfl)) (by kernel_rfl) rfl (bl rfl) ?_
            clear hok
            intro hok
            refine TrAny.prom (i := 13) (d := 9) hok (OpVal.plain rfl rfl (v_assign rfl rfl)) (by kernel_rfl) rfl (bl rfl) ?_
            clear hok
            intro hok
            refine TrAny.next (j := 12) (by kernel_rfl) hok rfl (by kernel_rfl) (op_store' (k := 0) (c' := [.int .i64 r6.1, .int .i64 r6.2.1, .slice m44.1 r6.2.2.1.length m44.2]) rfl rfl rfl rfl rfl ty26 rfl (Nat.le_of_ble_eq_true rfl) (ones (oc rfl (oc rfl (oc rfl on)))) rfl ?_)
            refine nxs hok (kp_allE [(0, 34, .agg #[.int .i64 s5.2.2.1, .int .i64 s5.2.2.2.1, .slice m30.1 s5.2.2.2.2.length m30.2]), (1, 35, .int .u64 (wu64 (s5.1 + (z6.1.tmod 1000)))), (2, 36, .slice A1 p2.length c1), (3, 37, .int .i64 s5.2.1), (4, 38, .pointer (some ⟨ablk A1, aoff A1 + (s5.2.1).toNat * 2, none⟩)), (5, 39, .pointer (some ⟨ablk A1, aoff A1 + (s5.2.1).toNat * 2 + 1, none⟩)), (6, 40, .int .u64 z6.2), (8, 33, .tuple #[.agg #[.int .i64 r6.1, .int .i64 r6.2.1, .slice m44.1 r6.2.2.1.length m44.2], .int .i64 r6.2.2.2]), (9, 42, .agg #[.int .i64 r6.1, .int .i64 r6.2.1, .slice m44.1 r6.2.2.1.length m44.2]), (10, 43, .int .i64 r6.2.2.2), (13, 9, .int .i64 r6.2.2.2)] (by kernel_rfl) (ac (.inl (by kernel_rfl)) (ac (.inl (by kernel_rfl)) (ac (.inl (by kernel_rfl)) (ac (.inl (by kernel_rfl)) (ac (.inl (by kernel_rfl)) (ac (.inl (by kernel_rfl)) (ac (.inl (by kernel_rfl)) (ac (.inl (by kernel_rfl)) (ac (.inl (by kernel_rfl)) (ac (.inr (OpVal.plain rfl rfl (v_extract rfl rfl rfl))) (ac (.inr (OpVal.plain rfl rfl (v_assign rfl rfl))) an)))))))))))) rfl ?_
            clear hok
            intro hok
            refine TrAny.done (by kernel_rfl) (by kernel_rfl) hok (by kernel_rfl) (⟨(b34, m44.1, m44.2), Imp.re _ [1, 2, 0] [0, 1, 2, 3] (sc rfl (sc rfl (sc rfl (sc rfl (sc rfl (sc rfl (sc rfl (sc rfl (sc rfl sn))))))))) (by decide) rfl rfl rfl⟩)
        · refine (qthen_n ?_)
          refine Tr.seq ?_
          refine Tr.region ?_
          refine TrL.v (v_move rfl rfl) rfl rfl (bl rfl) ?_
          refine TrL.v (v_arith rfl rfl rfl ar_eql) rfl rfl (bl rfl) ?_
          refine TrL.nil (qthen_n ?_)
          rcases ifc hy2 with ⟨h22, hy2⟩ | ⟨h22, hy2⟩
          · refine Tr.cond_t rfl (bt_dec h22) ?_
            refine Tr.region ?_
            refine TrL.v (v_load (k := 2) rfl rfl rfl ty26 nofun rfl rfl) rfl rfl (bl rfl) ?_
            refine TrL.cons rfl (op_store' (k := 1) (c' := [.int .i64 r6.1, .int .i64 r6.2.1, .slice m42.2.1 r6.2.2.1.length m42.2.2]) rfl rfl rfl rfl rfl ty26 rfl (Nat.le_of_ble_eq_true rfl) (ones (oc rfl (oc rfl (oc rfl on)))) rfl ?_)
            refine TrL.nil (qblock_n (qthen_n ?_))
            refine Tr.region ?_
            refine TrL.v (v_move rfl rfl) rfl rfl (bl rfl) ?_
            refine TrL.v (v_arith rfl rfl rfl ar_add_i64) rfl rfl (bl rfl) ?_
            refine TrL.v (v_assign rfl rfl) rfl rfl (bl rfl) ?_
            have hz := Option.some.inj hy2
            subst hz
            refine TrL.nil (qloop_n ((m42.2.1, m42.2.2)) (Imp.re _ [0, 1] [0, 1, 3] (sc rfl (sc rfl (sc rfl (sc rfl (sc rfl sn))))) (by decide) rfl rfl rfl))
          · refine Tr.cond_f rfl (bf_dec h22) ?_
            refine Tr.skip (qblock_n (qthen_n ?_))
            refine Tr.region ?_
            refine TrL.v (v_move rfl rfl) rfl rfl (bl rfl) ?_
            refine TrL.v (v_arith rfl rfl rfl ar_add_i64) rfl rfl (bl rfl) ?_
            refine TrL.v (v_assign rfl rfl) rfl rfl (bl rfl) ?_
            have hz := Option.some.inj hy2
            subst hz
            refine TrL.nil (qloop_n ((m30.1, m30.2)) (Imp.re _ [0, 1] [0, 1, 2] (sc rfl (sc rfl (sc rfl (sc rfl (sc rfl sn))))) (by decide) rfl rfl rfl))
      · refine Tr.cond_f rfl (bf_dec h21) ?_
        have hz := Option.some.inj hy2
        subst hz
        refine Tr.exit (qthen_x (qloop_x (qblock_hit (qcut_hit ((s5.2.2.1, s5.2.2.2.1, s5.2.2.2.2)) ((m30.1, m30.2)) (hx4 _ rfl).symm (Imp.re _ [0, 1] [1, 2] (sc rfl (sc rfl sn)) (by decide) rfl rfl rfl)))))
    · refine TrL.cons_no rfl rfl rfl (gn_t (bf_dec h20)) rfl (bl rfl) ?_
      refine TrL.cons_no rfl rfl rfl (gn_t (bf_dec h20)) rfl (bl rfl) ?_
      refine TrL.v (v_pick_f rfl rfl (bf_dec h20) rfl) rfl rfl (bl rfl) ?_
      refine TrL.nil (qthen_n ?_)
      refine Tr.cond_f rfl rfl ?_
      have hz := Option.some.inj hy2
      subst hz
      refine Tr.exit (qthen_x (qloop_x (qblock_hit (qcut_hit ((s5.2.2.1, s5.2.2.2.1, s5.2.2.2.2)) ((m30.1, m30.2)) (hx4 _ rfl).symm (Imp.re _ [0, 1] [1, 2] (sc rfl (sc rfl sn)) (by decide) rfl rfl rfl)))))
  · subst hd2
    refine (qthen_n ?_)
    refine Tr.seq ?_
    refine Tr.region ?_
    refine TrL.v (v_load (k := 1) rfl rfl rfl ty26 nofun rfl rfl) rfl rfl (bl rfl) ?_
    refine TrL.cons rfl (op_store' (k := 0) (c' := [.int .i64 x2.1, .int .i64 x2.2.1, .slice m38.1 x2.2.2.length m38.2]) rfl rfl rfl rfl rfl ty26 rfl (Nat.le_of_ble_eq_true rfl) (ones (oc rfl (oc rfl (oc rfl on)))) rfl ?_)
    refine TrL.nil (qthen_n ?_)
    have hz := Option.some.inj H
    subst hz
    refine Tr.ret (ret_r ⟨[(4, .pointer (some ⟨b18, 0, none⟩))], [cells b18 [.int .i64 x2.1, .int .i64 x2.2.1, .slice m38.1 x2.2.2.length m38.2] 26], [slF (rSl rp_u64_u64) m38.1 m38.2 x2.2.2], []⟩ [.agg #[.int .i64 x2.1, .int .i64 x2.2.1, .slice m38.1 x2.2.2.length m38.2]] [] [cells b18 [.int .i64 x2.1, .int .i64 x2.2.1, .slice m38.1 x2.2.2.length m38.2] 26] (Imp.re _ [0] [1] (sc rfl sn) (by decide) rfl rfl rfl) rfl rfl ⟨((m38.1, m38.2)), rfl, rfl, rfl⟩ (.cons (resv_cell (k := 0) rfl rfl ty26 nofun rfl rfl) .nil))

theorem c_ref06_May (p1 : Int) (r : Bool) (H : ref06_May p1 = some r) :
    Ctr Try.prog 78 [.int .i64 p1] [] [] (fun ret M' F' => ret = .bool r ∧ M' = [] ∧ F' = []) := by
  unfold ref06_May at H
  refine ctr_ofI (N := 9) Try.func78 rfl Try.ntmps78 rfl (Nat.le_of_ble_eq_true rfl) (fun γ0 w0 => ?_)
  refine Tr.seq ?_
  refine Tr.region ?_
  refine TrL.v (v_assign rfl rfl) rfl rfl (bl rfl) ?_
  refine TrL.nil (qthen_n ?_)
  refine Tr.seq ?_
  refine Tr.region ?_
  refine TrL.v (v_move rfl rfl) rfl rfl (bl rfl) ?_
  refine TrL.v (v_arith rfl rfl rfl ar_geq) rfl rfl (bl rfl) ?_
  refine TrL.v (v_move rfl rfl) rfl rfl (bl rfl) ?_
  rcases ifc H with ⟨h4, H⟩ | ⟨h4, H⟩
  · refine TrL.cons_yes rfl rfl rfl (bt_dec h4) (OpTr.v (v_move rfl rfl) rfl (bl rfl) ?_)
    refine TrL.cons_yes rfl rfl rfl (bt_dec h4) (OpTr.v (v_arith rfl rfl rfl ar_leq) rfl (bl rfl) ?_)
    refine TrL.v (v_pick_t rfl rfl (bt_dec h4) rfl) rfl rfl (bl rfl) ?_
    refine TrL.v (v_assign rfl rfl) rfl rfl (bl rfl) ?_
    refine TrL.nil (qthen_n ?_)
    have hz := Option.some.inj H
    subst hz
    refine Tr.ret (ret_r ⟨[(2, .bool (decide (p1 ≤ 1024)))], [], [], []⟩ [.bool (decide (p1 ≤ 1024))] [] [] (Imp.re _ [] [] (sc rfl sn) (by decide) rfl rfl rfl) rfl rfl ⟨rfl, rfl, rfl⟩ (.cons (resv_tmp rfl) .nil))
  · refine TrL.cons_no rfl rfl rfl (gn_t (bf_dec h4)) rfl (bl rfl) ?_
    refine TrL.cons_no rfl rfl rfl (gn_t (bf_dec h4)) rfl (bl rfl) ?_
    refine TrL.v (v_pick_f rfl rfl (bf_dec h4) rfl) rfl rfl (bl rfl) ?_
    refine TrL.v (v_assign rfl rfl) rfl rfl (bl rfl) ?_
    refine TrL.nil (qthen_n ?_)
    have hz := Option.some.inj H
    subst hz
    refine Tr.ret (ret_r ⟨[(2, .bool false)], [], [], []⟩ [.bool false] [] [] (Imp.re _ [] [] (sc rfl sn) (by decide) rfl rfl rfl) rfl rfl ⟨rfl, rfl, rfl⟩ (.cons (resv_tmp rfl) .nil))
end Go.Proofs.Ytbeknohemgjfbaa.W
