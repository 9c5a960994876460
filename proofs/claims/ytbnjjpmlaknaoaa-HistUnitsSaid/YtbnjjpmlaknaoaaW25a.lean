/- The contracts of the walked functions: the printed walks. -/
import Derived.Test.YtbnjjpmlaknaoaaKa
import Derived.Test.YtbnjjpmlaknaoaaQa
import Derived.Test.YtbnjjpmlaknaoaaWhistba
import Derived.Test.YtbnjjpmlaknaoaaWlaw06aa
import Derived.Test.YtbnjjpmlaknaoaaWlaw06ba
import Derived.Test.YtbnjjpmlaknaoaaWref06aa
import Derived.Test.YtbnjjpmlaknaoaaWref06ca
namespace Go.Proofs.Ytbnjjpmlaknaoaa.W
open Go Go.Proofs Go.Proofs.Ytbnjjpmlaknaoaa.L Go.Proofs.Ytbnjjpmlaknaoaa.Pu
set_option linter.unusedVariables false
set_option maxHeartbeats 4000000

theorem c_law06_HistUnits (p1 : Int) (p2 : List (Int × Int)) (p3 : Int × Int) (A1 : Option Addr) (c1 : Nat) (r : Bool) (H : law06_HistUnits p1 p2 p3 = some r) :
    Ctr Try.prog 25 [.int .i64 p1, .slice A1 p2.length c1, .agg #[.int .u64 p3.1, .int .u64 p3.2]] [] [slF rp_u64_u64 A1 c1 p2] (fun ret M' F' => ret = .bool r ∧ M' = [] ∧ F' = []) := by
  unfold law06_HistUnits at H
  refine ctr_ofI (N := 77) Try.func25 rfl Try.ntmps25 rfl (Nat.le_of_ble_eq_true rfl) (fun γ0 w0 => ?_)
  refine Tr.seq ?_
  refine Tr.region ?_
  refine TrL.cons rfl (op_box' rfl (bl rfl) rfl rfl rfl (fun b5 => ?_))
  refine TrL.v (v_assign rfl rfl) rfl rfl (bl rfl) ?_
  refine TrL.nil (qthen_n ?_)
  refine Tr.seq ?_
  refine Tr.region ?_
  obtain ⟨r12, hr12, H⟩ := bnd H
  refine TrL.cons rfl (op_call0' (vs := []) (cap := []) [] rfl rfl (bl rfl) rfl rfl en70 (c_law06_awake r12 hr12) rfl (fun ret M' F' hR12 => ?_))
  obtain ⟨rfl, rfl, rfl⟩ := hR12
  refine TrL.v (v_assign rfl rfl) rfl rfl (bl rfl) ?_
  refine TrL.nil (qthen_n ?_)
  refine Tr.seq ?_
  refine Tr.region ?_
  refine TrL.v (v_move rfl rfl) rfl rfl (bl rfl) ?_
  refine TrL.v (v_move rfl rfl) rfl rfl (bl rfl) ?_
  obtain ⟨r13, hr13, H⟩ := bnd H
  refine TrL.cons rfl (op_call0' (vs := [.int .i64 p1, .slice A1 p2.length c1]) (cap := []) [0] rfl rfl (bl rfl) rfl rfl en71 (c_law06_played p1 p2 A1 c1 r13 hr13) rfl (fun ret M' F' hR13 => ?_))
  obtain ⟨m17, rfl, rfl, rfl⟩ := hR13
  refine TrL.v (v_move rfl rfl) rfl rfl (bl rfl) ?_
  refine TrL.v (v_extract rfl rfl rfl) rfl rfl (bl rfl) ?_
  refine TrL.v (v_extract rfl rfl rfl) rfl rfl (bl rfl) ?_
  refine TrL.v (v_extract rfl rfl rfl) rfl rfl (bl rfl) ?_
  refine TrL.cons rfl (op_alloc' rfl (bl rfl) rfl ze31 (fun b6 => ?_))
  refine TrL.cons rfl (op_alloc' rfl (bl rfl) rfl ze28 (fun b7 => ?_))
  refine TrL.cons rfl (op_store' (k := 1) (c' := [.int .i64 r13.1, .int .i64 r13.2.1, .slice m17.1 r13.2.2.1.length m17.2.1]) rfl rfl rfl rfl rfl ty31 rfl (Nat.le_of_ble_eq_true rfl) (ones (oc rfl (oc rfl (oc rfl on)))) rfl ?_)
  refine TrL.cons rfl (op_store' (k := 0) (c' := [.int .i64 r13.2.2.2.1, .int .i64 r13.2.2.2.2.1, .slice m17.2.2.1 r13.2.2.2.2.2.1.length m17.2.2.2]) rfl rfl rfl rfl rfl ty28 rfl (Nat.le_of_ble_eq_true rfl) (ones (oc rfl (oc rfl (oc rfl on)))) rfl ?_)
  refine TrL.v (v_assign rfl rfl) rfl rfl (bl rfl) ?_
  refine TrL.nil (qthen_n ?_)
  refine Tr.seq ?_
  refine Tr.region ?_
  refine TrL.v (v_load (k := 0) rfl rfl rfl ty28 nofun rfl rfl) rfl rfl (bl rfl) ?_
  obtain ⟨r14, hr14, H⟩ := bnd H
  refine TrL.cons rfl (op_call0' (vs := [.agg #[.int .i64 r13.2.2.2.1, .int .i64 r13.2.2.2.2.1, .slice m17.2.2.1 r13.2.2.2.2.2.1.length m17.2.2.2]]) (cap := []) [2] rfl rfl (bl rfl) rfl rfl en68 (c_ref06_Last ((r13.2.2.2.1, r13.2.2.2.2.1, r13.2.2.2.2.2.1)) m17.2.2.1 m17.2.2.2 r14 hr14) rfl (fun ret M' F' hR14 => ?_))
  obtain ⟨rfl, rfl, rfl⟩ := hR14
  refine TrL.v (v_move rfl rfl) rfl rfl (bl rfl) ?_
  refine TrL.v (v_extract rfl rfl rfl) rfl rfl (bl rfl) ?_
  refine TrL.v (v_extract rfl rfl rfl) rfl rfl (bl rfl) ?_
  refine TrL.v (v_assign rfl rfl) rfl rfl (bl rfl) ?_
  refine TrL.v (v_assign rfl rfl) rfl rfl (bl rfl) ?_
  refine TrL.nil (qthen_n ?_)
  refine Tr.seq ?_
  refine Tr.region ?_
  refine TrL.v (v_fieldAddr' rfl fo80_1 rfl rfl) rfl rfl (bl rfl) ?_
  refine TrL.v (v_load (k := 2) rfl rfl rfl ty23 (fun _ => rfl) rfl rfl) rfl rfl (bl rfl) ?_
  refine TrL.v (v_rem rfl rfl rfl (by decide)) rfl rfl (bl rfl) ?_
  refine TrL.v (v_arith rfl rfl rfl ar_add_u64) rfl rfl (bl rfl) ?_
  refine TrL.v (v_assign rfl rfl) rfl rfl (bl rfl) ?_
  refine TrL.nil (qthen_n ?_)
  refine Tr.seq ?_
  refine Tr.region ?_
  refine TrL.v (v_move rfl rfl) rfl rfl (bl rfl) ?_
  refine TrL.v (v_fieldAddr' rfl fo80_0 rfl rfl) rfl rfl (bl rfl) ?_
  refine TrL.v (v_load (k := 2) rfl rfl rfl ty23 (fun _ => rfl) rfl rfl) rfl rfl (bl rfl) ?_
  refine TrL.v (v_rem rfl rfl rfl (by decide)) rfl rfl (bl rfl) ?_
  refine TrL.v (v_arith rfl rfl rfl ar_add_u64) rfl rfl (bl rfl) ?_
  refine TrL.v (v_assign rfl rfl) rfl rfl (bl rfl) ?_
  refine TrL.nil (qthen_n ?_)
  refine Tr.seq ?_
  refine Tr.region ?_
  refine TrL.v (v_load (k := 1) rfl rfl rfl ty31 nofun rfl rfl) rfl rfl (bl rfl) ?_
  refine TrL.v (v_move rfl rfl) rfl rfl (bl rfl) ?_
  refine TrL.v (v_move rfl rfl) rfl rfl (bl rfl) ?_
  obtain ⟨r15, hr15, H⟩ := bnd H
  refine TrL.cons rfl (op_call0' (vs := [.agg #[.int .i64 r13.1, .int .i64 r13.2.1, .slice m17.1 r13.2.2.1.length m17.2.1], .int .u64 (wu64 (r14.1 + (p3.1.tmod 1000))), .int .u64 (wu64 ((p3.2.tmod 60) + 1))]) (cap := []) [1] rfl rfl (bl rfl) rfl rfl en69 (c_hist_Add ((r13.1, r13.2.1, r13.2.2.1)) (wu64 (r14.1 + (p3.1.tmod 1000))) (wu64 ((p3.2.tmod 60) + 1)) m17.1 m17.2.1 r15 hr15) rfl (fun ret M' F' hR15 => ?_))
  obtain ⟨m19, rfl, rfl, rfl⟩ := hR15
  refine TrL.v (v_move rfl rfl) rfl rfl (bl rfl) ?_
  refine TrL.v (v_extract rfl rfl rfl) rfl rfl (bl rfl) ?_
  refine TrL.v (v_extract rfl rfl rfl) rfl rfl (bl rfl) ?_
  refine TrL.cons rfl (op_alloc' rfl (bl rfl) rfl ze31 (fun b8 => ?_))
  refine TrL.cons rfl (op_store' (k := 0) (c' := [.int .i64 r15.1, .int .i64 r15.2.1, .slice m19.1 r15.2.2.1.length m19.2]) rfl rfl rfl rfl rfl ty31 rfl (Nat.le_of_ble_eq_true rfl) (ones (oc rfl (oc rfl (oc rfl on)))) rfl ?_)
  refine TrL.v (v_assign rfl rfl) rfl rfl (bl rfl) ?_
  refine TrL.nil (qthen_n ?_)
  refine Tr.seq ?_
  refine Tr.seq ?_
  refine Tr.region ?_
  refine TrL.v (v_move rfl rfl) rfl rfl (bl rfl) ?_
  refine TrL.v (v_arith rfl rfl rfl ar_neq) rfl rfl (bl rfl) ?_
  refine TrL.nil (qthen_n ?_)
  rcases ifc H with ⟨h13, H⟩ | ⟨h13, H⟩
  · refine Tr.cond_t rfl (bt_dec h13) ?_
    refine Tr.seq ?_
    refine Tr.region ?_
    refine TrL.v (v_move rfl rfl) rfl rfl (bl rfl) ?_
    refine TrL.v (v_move rfl rfl) rfl rfl (bl rfl) ?_
    rcases ifc H with ⟨h16, H⟩ | ⟨h16, H⟩
    · refine TrL.cons_yes rfl rfl rfl h16 (OpTr.v (v_move rfl rfl) rfl (bl rfl) ?_)
      refine TrL.v (v_pick_t rfl rfl h16 rfl) rfl rfl (bl rfl) ?_
      refine TrL.v (v_move rfl rfl) rfl rfl (bl rfl) ?_
      rcases ifc H with ⟨h17, H⟩ | ⟨h17, H⟩
      · refine TrL.cons_yes rfl rfl rfl h17 (OpTr.v (v_load (k := 1) rfl rfl rfl ty28 nofun rfl rfl) rfl (bl rfl) ?_)
        obtain ⟨r17, hr17, H⟩ := bnd H
        refine TrL.cons_yes rfl rfl rfl h17 (op_call0' (vs := [.agg #[.int .i64 r13.2.2.2.1, .int .i64 r13.2.2.2.2.1, .slice m17.2.2.1 r13.2.2.2.2.2.1.length m17.2.2.2]]) (cap := []) [2] rfl rfl (bl rfl) rfl rfl en74 (c_ref06_Total ((r13.2.2.2.1, r13.2.2.2.2.1, r13.2.2.2.2.2.1)) m17.2.2.1 m17.2.2.2 r17 hr17) rfl (fun ret M' F' hR17 => ?_))
        obtain ⟨rfl, rfl, rfl⟩ := hR17
        refine TrL.cons_yes rfl rfl rfl h17 (OpTr.v (v_move rfl rfl) rfl (bl rfl) ?_)
        refine TrL.cons_yes rfl rfl rfl h17 (OpTr.v (v_arith rfl rfl rfl ar_add_u64) rfl (bl rfl) ?_)
        refine TrL.cons_yes rfl rfl rfl h17 (OpTr.v (v_arith rfl rfl rfl ar_gtr) rfl (bl rfl) ?_)
        refine TrL.v (v_pick_t rfl rfl h17 rfl) rfl rfl (bl rfl) ?_
        refine TrL.v (v_assign rfl rfl) rfl rfl (bl rfl) ?_
        refine TrL.nil (qthen_n ?_)
        have hz := Option.some.inj H
        subst hz
        refine Tr.ret (qthen_r (ret_r ⟨[(6, .bool (decide (4503599627370496 < (wu64 (r17 + (wu64 ((p3.2.tmod 60) + 1)))))))], [], [], []⟩ [.bool (decide (4503599627370496 < (wu64 (r17 + (wu64 ((p3.2.tmod 60) + 1))))))] [] [] (Imp.re _ [] [] (sc rfl sn) (by decide) rfl rfl rfl) rfl rfl ⟨rfl, rfl, rfl⟩ (.cons (resv_tmp rfl) .nil)))
      · refine TrL.cons_no rfl rfl rfl (gn_t (bf_b h17)) rfl (bl rfl) ?_
        refine TrL.cons_no rfl rfl rfl (gn_t (bf_b h17)) rfl (bl rfl) ?_
        refine TrL.cons_no rfl rfl rfl (gn_t (bf_b h17)) rfl (bl rfl) ?_
        refine TrL.cons_no rfl rfl rfl (gn_t (bf_b h17)) rfl (bl rfl) ?_
        refine TrL.cons_no rfl rfl rfl (gn_t (bf_b h17)) rfl (bl rfl) ?_
        refine TrL.v (v_pick_f rfl rfl (bf_b h17) rfl) rfl rfl (bl rfl) ?_
        refine TrL.v (v_assign rfl rfl) rfl rfl (bl rfl) ?_
        refine TrL.nil (qthen_n ?_)
        have hz := Option.some.inj H
        subst hz
        refine Tr.ret (qthen_r (ret_r ⟨[(6, .bool false)], [], [], []⟩ [.bool false] [] [] (Imp.re _ [] [] (sc rfl sn) (by decide) rfl rfl rfl) rfl rfl ⟨rfl, rfl, rfl⟩ (.cons (resv_tmp rfl) .nil)))
    · refine TrL.cons_no rfl rfl rfl (gn_t (bf_b h16)) rfl (bl rfl) ?_
      refine TrL.v (v_pick_f rfl rfl (bf_b h16) rfl) rfl rfl (bl rfl) ?_
      refine TrL.v (v_move rfl rfl) rfl rfl (bl rfl) ?_
      refine TrL.cons_no rfl rfl rfl (gn_t rfl) rfl (bl rfl) ?_
      refine TrL.cons_no rfl rfl rfl (gn_t rfl) rfl (bl rfl) ?_
      refine TrL.cons_no rfl rfl rfl (gn_t rfl) rfl (bl rfl) ?_
      refine TrL.cons_no rfl rfl rfl (gn_t rfl) rfl (bl rfl) ?_
      refine TrL.cons_no rfl rfl rfl (gn_t rfl) rfl (bl rfl) ?_
      refine TrL.v (v_pick_f rfl rfl rfl rfl) rfl rfl (bl rfl) ?_
      refine TrL.v (v_assign rfl rfl) rfl rfl (bl rfl) ?_
      refine TrL.nil (qthen_n ?_)
      have hz := Option.some.inj H
      subst hz
      refine Tr.ret (qthen_r (ret_r ⟨[(6, .bool false)], [], [], []⟩ [.bool false] [] [] (Imp.re _ [] [] (sc rfl sn) (by decide) rfl rfl rfl) rfl rfl ⟨rfl, rfl, rfl⟩ (.cons (resv_tmp rfl) .nil)))
  · refine Tr.cond_f rfl (bf_dec h13) ?_
    refine Tr.skip (qthen_n ?_)
    refine Tr.seq ?_
    refine Tr.seq ?_
    refine Tr.region ?_
    refine TrL.v (v_assign rfl rfl) rfl rfl (bl rfl) ?_
    refine TrL.nil (qthen_n ?_)
    obtain ⟨x2, hx3, H⟩ := bnd H
    refine Tr.cutE (D := Int × Int × List (List (Int × Int))) (M := Option Addr × Nat) .normal (fun _d => x2 = _d) (fun x2 m27 => ⟨[(7, .bool r12), (9, .pointer (some ⟨b7, 0, none⟩)), (10, .bool r13.2.2.2.2.2.2), (15, .pointer (some ⟨b8, 0, none⟩))], [cells b7 [.int .i64 x2.1, .int .i64 x2.2.1, .slice m27.1 x2.2.2.length m27.2] 28, cells b8 [.int .i64 r15.1, .int .i64 r15.2.1, .slice m19.1 r15.2.2.1.length m19.2] 31], [slF (rSl rp_u64_u64) m27.1 m27.2 x2.2.2, slF (rSl rp_u64_u64) m19.1 m19.2 r15.2.2.1], []⟩) ?_ (fun x2 m27 hd2 => ?_)
    · refine Tr.block (Tr.loopI (ι := Option Addr × Nat) (step := law06_HistUnits_s0 p3 r14) (fun s5 m24 => ⟨[(7, .bool r12), (9, .pointer (some ⟨b7, 0, none⟩)), (10, .bool r13.2.2.2.2.2.2), (13, .int .u64 (wu64 ((p3.2.tmod 60) + 1))), (14, .int .u64 (wu64 (r14.1 + (p3.1.tmod 1000)))), (15, .pointer (some ⟨b8, 0, none⟩)), (17, .int .u64 s5.1)], [cells b7 [.int .i64 s5.2.1, .int .i64 s5.2.2.1, .slice m24.1 s5.2.2.2.length m24.2] 28, cells b8 [.int .i64 r15.1, .int .i64 r15.2.1, .slice m19.1 r15.2.2.1.length m19.2] 31], [slF (rSl rp_u64_u64) m24.1 m24.2 s5.2.2.2, slF (rSl rp_u64_u64) m19.1 m19.2 r15.2.2.1], []⟩) ((m17.2.2.1, m17.2.2.2)) hx3 (Imp.re _ [1, 0] [2, 3] (sc rfl (sc rfl (sc rfl (sc rfl (sc rfl (sc rfl (sc rfl sn))))))) (by decide) rfl rfl rfl) (fun s5 m24 y2 hy2 hx4 => ?_))
      unfold law06_HistUnits_s0 at hy2
      refine Tr.seq ?_
      refine Tr.seq ?_
      refine Tr.region ?_
      refine TrL.v (v_move rfl rfl) rfl rfl (bl rfl) ?_
      refine TrL.v (v_move rfl rfl) rfl rfl (bl rfl) ?_
      refine TrL.v (v_arith rfl rfl rfl ar_lss) rfl rfl (bl rfl) ?_
      refine TrL.nil (qthen_n ?_)
      rcases ifc hy2 with ⟨h20, hy2⟩ | ⟨h20, hy2⟩
      · refine Tr.cond_t rfl (bt_dec h20) ?_
        refine Tr.skip (qthen_n ?_)
        refine Tr.seq ?_
        refine Tr.block ?_
        refine Tr.region ?_
        refine TrL.v (v_load (k := 0) rfl rfl rfl ty28 nofun rfl rfl) rfl rfl (bl rfl) ?_
        refine TrL.v (v_move rfl rfl) rfl rfl (bl rfl) ?_
        obtain ⟨r20, hr20, hy2⟩ := bnd hy2
        refine TrL.cons rfl (op_call0' (vs := [.agg #[.int .i64 s5.2.1, .int .i64 s5.2.2.1, .slice m24.1 s5.2.2.2.length m24.2], .int .u64 (wu64 (r14.1 + (p3.1.tmod 1000)))]) (cap := []) [0] rfl rfl (bl rfl) rfl rfl en77 (c_ref06_Unit s5.2 (wu64 (r14.1 + (p3.1.tmod 1000))) m24.1 m24.2 r20 hr20) rfl (fun ret M' F' hR20 => ?_))
        obtain ⟨m28, rfl, rfl, rfl⟩ := hR20
        refine TrL.cons rfl (op_store' (k := 0) (c' := [.int .i64 s5.2.1, .int .i64 s5.2.2.1, .slice m28.1 r20.length m28.2]) rfl rfl rfl rfl rfl ty28 rfl (Nat.le_of_ble_eq_true rfl) (ones (oc rfl (oc rfl (oc rfl on)))) rfl ?_)
        refine TrL.nil (qblock_n (qthen_n ?_))
        refine Tr.region ?_
        refine TrL.v (v_move rfl rfl) rfl rfl (bl rfl) ?_
        refine TrL.v (v_arith rfl rfl rfl ar_add_u64) rfl rfl (bl rfl) ?_
        refine TrL.v (v_assign rfl rfl) rfl rfl (bl rfl) ?_
        have hz := Option.some.inj hy2
        subst hz
        refine TrL.nil (qloop_n ((m28.1, m28.2)) (Imp.re _ [0, 1] [2, 1] (sc rfl (sc rfl (sc rfl (sc rfl (sc rfl (sc rfl (sc rfl sn))))))) (by decide) rfl rfl rfl))
      · refine Tr.cond_f rfl (bf_dec h20) ?_
        have hz := Option.some.inj hy2
        subst hz
        refine Tr.exit (qthen_x (qloop_x (qblock_hit (qcut_hit ((s5.2.1, s5.2.2.1, s5.2.2.2)) ((m24.1, m24.2)) (hx4 _ rfl).symm (Imp.re _ [0, 1] [0, 1] (sc rfl (sc rfl (sc rfl (sc rfl sn)))) (by decide) rfl rfl rfl)))))
    · subst hd2
      refine (qthen_n ?_)
      refine Tr.seq ?_
      refine Tr.region ?_
      refine TrL.v (v_move rfl rfl) rfl rfl (bl rfl) ?_
      refine TrL.v (v_move rfl rfl) rfl rfl (bl rfl) ?_
      rcases ifc H with ⟨h23, H⟩ | ⟨h23, H⟩
      · refine TrL.cons_yes rfl rfl rfl h23 (OpTr.v (v_move rfl rfl) rfl (bl rfl) ?_)
        refine TrL.v (v_pick_t rfl rfl h23 rfl) rfl rfl (bl rfl) ?_
        refine TrL.v (v_move rfl rfl) rfl rfl (bl rfl) ?_
        rcases ifc H with ⟨h24, H⟩ | ⟨h24, H⟩
        · refine TrL.cons_yes rfl rfl rfl h24 (OpTr.v (v_load (k := 1) rfl rfl rfl ty31 nofun rfl rfl) rfl (bl rfl) ?_)
          refine TrL.cons_yes rfl rfl rfl h24 (OpTr.v (v_load (k := 0) rfl rfl rfl ty28 nofun rfl rfl) rfl (bl rfl) ?_)
          obtain ⟨r22, hr22, H⟩ := bnd H
          refine TrL.cons_yes rfl rfl rfl h24 (op_call0' (vs := [.agg #[.int .i64 r15.1, .int .i64 r15.2.1, .slice m19.1 r15.2.2.1.length m19.2], .agg #[.int .i64 x2.1, .int .i64 x2.2.1, .slice m27.1 x2.2.2.length m27.2]]) (cap := []) [1, 0] rfl rfl (bl rfl) rfl rfl en73 (c_law06_same ((r15.1, r15.2.1, r15.2.2.1)) x2 m19.1 m19.2 m27.1 m27.2 r22 hr22) rfl (fun ret M' F' hR22 => ?_))
          obtain ⟨rfl, rfl, rfl⟩ := hR22
          refine TrL.v (v_pick_t rfl rfl h24 rfl) rfl rfl (bl rfl) ?_
          refine TrL.v (v_assign rfl rfl) rfl rfl (bl rfl) ?_
          refine TrL.nil (qthen_n ?_)
          have hz := Option.some.inj H
          subst hz
          refine Tr.ret (ret_r ⟨[(6, .bool r22)], [], [], []⟩ [.bool r22] [] [] (Imp.re _ [] [] (sc rfl sn) (by decide) rfl rfl rfl) rfl rfl ⟨rfl, rfl, rfl⟩ (.cons (resv_tmp rfl) .nil))
        · refine TrL.cons_no rfl rfl rfl (gn_t (bf_b h24)) rfl (bl rfl) ?_
          refine TrL.cons_no rfl rfl rfl (gn_t (bf_b h24)) rfl (bl rfl) ?_
          refine TrL.cons_no rfl rfl rfl (gn_t (bf_b h24)) rfl (bl rfl) ?_
          refine TrL.v (v_pick_f rfl rfl (bf_b h24) rfl) rfl rfl (bl rfl) ?_
          refine TrL.v (v_assign rfl rfl) rfl rfl (bl rfl) ?_
          refine TrL.nil (qthen_n ?_)
          have hz := Option.some.inj H
          subst hz
          refine Tr.ret (ret_r ⟨[(6, .bool false)], [], [], []⟩ [.bool false] [] [] (Imp.re _ [] [] (sc rfl sn) (by decide) rfl rfl rfl) rfl rfl ⟨rfl, rfl, rfl⟩ (.cons (resv_tmp rfl) .nil))
      · refine TrL.cons_no rfl rfl rfl (gn_t (bf_b h23)) rfl (bl rfl) ?_
        refine TrL.v (v_pick_f rfl rfl (bf_b h23) rfl) rfl rfl (bl rfl) ?_
        refine TrL.v (v_move rfl rfl) rfl rfl (bl rfl) ?_
        refine TrL.cons_no rfl rfl rfl (gn_t rfl) rfl (bl rfl) ?_
        refine TrL.cons_no rfl rfl rfl (gn_t rfl) rfl (bl rfl) ?_
        refine TrL.cons_no rfl rfl rfl (gn_t rfl) rfl (bl rfl) ?_
        refine TrL.v (v_pick_f rfl rfl rfl rfl) rfl rfl (bl rfl) ?_
        refine TrL.v (v_assign rfl rfl) rfl rfl (bl rfl) ?_
        refine TrL.nil (qthen_n ?_)
        have hz := Option.some.inj H
        subst hz
        refine Tr.ret (ret_r ⟨[(6, .bool false)], [], [], []⟩ [.bool false] [] [] (Imp.re _ [] [] (sc rfl sn) (by decide) rfl rfl rfl) rfl rfl ⟨rfl, rfl, rfl⟩ (.cons (resv_tmp rfl) .nil))
end Go.Proofs.Ytbnjjpmlaknaoaa.W
