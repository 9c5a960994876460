/- The contracts of the walked functions: the printed walks. -/
import Derived.Test.YtbnjjpmlaknaoaaKa
import Derived.Test.YtbnjjpmlaknaoaaQa
import Derived.Test.YtbnjjpmlaknaoaaWhistaa
import Derived.Test.YtbnjjpmlaknaoaaWhistba
import Derived.Test.YtbnjjpmlaknaoaaWlaw06aa
namespace Go.Proofs.Ytbnjjpmlaknaoaa.W
open Go Go.Proofs Go.Proofs.Ytbnjjpmlaknaoaa.L Go.Proofs.Ytbnjjpmlaknaoaa.Pu
set_option linter.unusedVariables false
set_option maxHeartbeats 4000000

theorem c_law06_HistSums (p1 : Int) (p2 : List (Int × Int)) (A1 : Option Addr) (c1 : Nat) (r : Bool) (H : law06_HistSums p1 p2 = some r) :
    Ctr Try.prog 26 [.int .i64 p1, .slice A1 p2.length c1] [] [slF rp_u64_u64 A1 c1 p2] (fun ret M' F' => ret = .bool r ∧ M' = [] ∧ F' = []) := by
  unfold law06_HistSums at H
  refine ctr_ofI (N := 62) Try.func26 rfl Try.ntmps26 rfl (Nat.le_of_ble_eq_true rfl) (fun γ0 w0 => ?_)
  refine Tr.seq ?_
  refine Tr.region ?_
  refine TrL.v (v_assign rfl rfl) rfl rfl (bl rfl) ?_
  refine TrL.nil (qthen_n ?_)
  refine Tr.seq ?_
  refine Tr.region ?_
  obtain ⟨r8, hr8, H⟩ := bnd H
  refine TrL.cons rfl (op_call0' (vs := []) (cap := []) [] rfl rfl (bl rfl) rfl rfl en70 (c_law06_awake r8 hr8) rfl (fun ret M' F' hR20 => ?_))
  obtain ⟨rfl, rfl, rfl⟩ := hR20
  refine TrL.v (v_assign rfl rfl) rfl rfl (bl rfl) ?_
  refine TrL.nil (qthen_n ?_)
  refine Tr.seq ?_
  refine Tr.region ?_
  refine TrL.v (v_move rfl rfl) rfl rfl (bl rfl) ?_
  refine TrL.v (v_max rfl rfl rfl) rfl rfl (bl rfl) ?_
  refine TrL.v (v_rem rfl rfl rfl (by decide)) rfl rfl (bl rfl) ?_
  refine TrL.v (v_arith rfl rfl rfl ar_add_i64) rfl rfl (bl rfl) ?_
  obtain ⟨r9, hr9, H⟩ := bnd H
  refine TrL.cons rfl (op_call0' (vs := [.int .i64 (wi64 (2 + ((max p1 0).tmod 30)))]) (cap := []) [] rfl rfl (bl rfl) rfl rfl en75 (c_hist_New (wi64 (2 + ((max p1 0).tmod 30))) r9 hr9) rfl (fun ret M' F' hR21 => ?_))
  obtain ⟨rfl, rfl, rfl⟩ := hR21
  refine TrL.v (v_move rfl rfl) rfl rfl (bl rfl) ?_
  refine TrL.v (v_extract rfl rfl rfl) rfl rfl (bl rfl) ?_
  refine TrL.v (v_extract rfl rfl rfl) rfl rfl (bl rfl) ?_
  refine TrL.cons rfl (op_alloc' rfl (bl rfl) rfl ze31 (fun b17 => ?_))
  refine TrL.cons rfl (op_store' (k := 0) (c' := [.int .i64 r9.1, .int .i64 0, .slice none 0 0]) rfl rfl rfl rfl rfl ty31 rfl (Nat.le_of_ble_eq_true rfl) (ones (oc rfl (oc rfl (oc rfl on)))) rfl ?_)
  refine TrL.v (v_assign rfl rfl) rfl rfl (bl rfl) ?_
  refine TrL.nil (qthen_n ?_)
  refine Tr.seq ?_
  refine Tr.region ?_
  refine TrL.v (v_assign rfl rfl) rfl rfl (bl rfl) ?_
  refine TrL.nil (qthen_n ?_)
  refine Tr.seq ?_
  refine Tr.seq ?_
  refine Tr.region ?_
  refine TrL.v (v_assign rfl rfl) rfl rfl (bl rfl) ?_
  refine TrL.nil (qthen_n ?_)
  obtain ⟨x2, hx3, H⟩ := bnd H
  refine Tr.cutE (D := Int × Int × Int × List (List (Int × Int))) (M := Option Addr × Nat) .normal (fun _d => x2 = _d) (fun x2 m44 => ⟨[(5, .bool r8), (6, .pointer (some ⟨b17, 0, none⟩)), (8, .int .u64 x2.1)], [cells b17 [.int .i64 x2.2.1, .int .i64 x2.2.2.1, .slice m44.1 x2.2.2.2.length m44.2] 31], [slF (rSl rp_u64_u64) m44.1 m44.2 x2.2.2.2], []⟩) ?_ (fun x2 m44 hd2 => ?_)
  · refine Tr.block (Tr.loopI (ι := Option Addr × Nat) (step := law06_HistSums_s0 p2) (fun s5 m36 => ⟨[(1, .slice A1 p2.length c1), (5, .bool r8), (6, .pointer (some ⟨b17, 0, none⟩)), (8, .int .u64 s5.1), (9, .int .i64 s5.2.1)], [cells b17 [.int .i64 s5.2.2.1, .int .i64 s5.2.2.2.1, .slice m36.1 s5.2.2.2.2.length m36.2] 31], [slF rp_u64_u64 A1 c1 p2, slF (rSl rp_u64_u64) m36.1 m36.2 s5.2.2.2.2], []⟩) ((none, 0)) hx3 (Imp.re _ [0] [0, 1] (sc rfl (sc rfl (sc rfl (sc rfl (sc rfl sn))))) (by decide) rfl rfl rfl) (fun s5 m36 y2 hy2 hx4 => ?_))
    unfold law06_HistSums_s0 at hy2
    refine Tr.seq ?_
    refine Tr.seq ?_
    refine Tr.region ?_
    refine TrL.v (v_move rfl rfl) rfl rfl (bl rfl) ?_
    refine TrL.v (v_move rfl rfl) rfl rfl (bl rfl) ?_
    refine TrL.v (v_len rfl sl22 rfl) rfl rfl (bl rfl) ?_
    refine TrL.v (v_arith rfl rfl rfl ar_lss) rfl rfl (bl rfl) ?_
    refine TrL.v (v_move rfl rfl) rfl rfl (bl rfl) ?_
    rcases ifc hy2 with ⟨h24, hy2⟩ | ⟨h24, hy2⟩
    · refine TrL.cons_yes rfl rfl rfl (bt_dec h24) (OpTr.v (v_move rfl rfl) rfl (bl rfl) ?_)
      refine TrL.cons_yes rfl rfl rfl (bt_dec h24) (OpTr.v (v_arith rfl rfl rfl ar_lss) rfl (bl rfl) ?_)
      refine TrL.v (v_pick_t rfl rfl (bt_dec h24) rfl) rfl rfl (bl rfl) ?_
      refine TrL.nil (qthen_n ?_)
      rcases ifc hy2 with ⟨h25, hy2⟩ | ⟨h25, hy2⟩
      · refine Tr.cond_t rfl (bt_dec h25) ?_
        refine Tr.skip (qthen_n ?_)
        refine Tr.seq ?_
        refine Tr.block ?_
        refine Tr.seq ?_
        refine Tr.regionD drawn (fun hok => ?_)
        obtain ⟨z12, hz12, hy2⟩ := bnd hy2
        obtain ⟨r12, hr12, hy2⟩ := bnd hy2
        refine TrAny.cut (ι := Nat × Option Addr × Nat) (fun m48 => ⟨[(1, .slice A1 p2.length c1), (5, .bool r8), (6, .pointer (some ⟨b17, 0, none⟩)), (8, .int .u64 s5.1), (9, .int .i64 s5.2.1), (10, .pointer (some ⟨m48.1, 0, none⟩)), (11, .int .i64 r12.2.2.2), (26, .int .i64 s5.2.1), (27, .bool (decide (s5.2.1 < 30)))], [cells b17 [.int .i64 s5.2.2.1, .int .i64 s5.2.2.2.1, .slice m36.1 s5.2.2.2.2.length m36.2] 31, cells m48.1 [.int .i64 r12.1, .int .i64 r12.2.1, .slice m48.2.1 r12.2.2.1.length m48.2.2] 31], [slF rp_u64_u64 A1 c1 p2, slF (rSl rp_u64_u64) m36.1 m36.2 s5.2.2.2.2, slF (rSl rp_u64_u64) m48.2.1 m48.2.2 r12.2.2.1], []⟩) ?_ (fun m48 => ?_)
        · refine TrAny.prom (i := 0) (d := 32) hok (OpVal.plain rfl rfl (v_load (k := 0) rfl rfl rfl ty31 nofun rfl rfl)) (by kernel_rfl) rfl (bl rfl) ?_
          clear hok
          intro hok
          refine TrAny.prom (i := 1) (d := 33) hok (OpVal.plain rfl rfl (v_move rfl rfl)) (by kernel_rfl) rfl (bl rfl) ?_
          clear hok
          intro hok
          refine TrAny.prom (i := 2) (d := 34) hok (OpVal.plain rfl rfl (v_move rfl rfl)) (by kernel_rfl) rfl (bl rfl) ?_
          clear hok
          intro hok
          refine TrAny.prom (i := 3) (d := 35) hok (OpVal.plain rfl rfl (v_indexAddr (k := 0) rfl sl22 ty80 rfl rfl rfl rfl hz12)) (by kernel_rfl) rfl (bl rfl) ?_
          clear hok
          intro hok
          refine TrAny.prom (i := 4) (d := 36) hok (OpVal.plain rfl rfl (v_fieldAddr rfl fo80_1 rfl)) (by kernel_rfl) rfl (bl rfl) ?_
          clear hok
          intro hok
          refine TrAny.prom (i := 5) (d := 37) hok (OpVal.plain rfl rfl (v_loadg (A := A1) (i := s5.2.1) (j := 1) (k := 0) rfl ty23 (fun _ => rfl) rfl rfl hz12 rfl rfl)) (by kernel_rfl) rfl (bl rfl) ?_
          clear hok
          intro hok
          refine TrAny.fork [6, 10] (by kernel_rfl) hok ⟨6, by decide, bl rfl⟩ (by kernel_rfl) (.cons ?_ (.cons ?_ .nil))
          · refine step_n rfl (by kernel_rfl) rfl (op_call0' (vs := [.agg #[.int .i64 s5.2.2.1, .int .i64 s5.2.2.2.1, .slice m36.1 s5.2.2.2.2.length m36.2], .int .u64 7, .int .u64 z12.2]) (cap := []) [1] rfl rfl (bl rfl) rfl rfl en69 (c_hist_Add s5.2.2 ((7 : Int)) z12.2 m36.1 m36.2 r12 hr12) rfl (fun ret M' F' hR35 => ?_))
            obtain ⟨m49, rfl, rfl, rfl⟩ := hR35
            refine nxp hok (kp_imp (kp_c0 rfl)) rfl (by kernel_rfl) ?_
            clear hok
            intro hok
            refine TrAny.prom (i := 7) (d := 31) hok (OpVal.plain rfl rfl (v_move rfl rfl)) (by kernel_rfl) rfl (bl rfl) ?_
            clear hok
            intro hok
            refine TrAny.prom (i := 8) (d := 39) hok (OpVal.plain rfl rfl (v_extract rfl rfl rfl)) (by kernel_rfl) rfl (bl rfl) ?_
            clear hok
            intro hok
            refine TrAny.prom (i := 9) (d := 40) hok (OpVal.plain rfl rfl (v_extract rfl rfl rfl)) (by kernel_rfl) rfl (bl rfl) ?_
            clear hok
            intro hok
            refine TrAny.prom (i := 12) (d := 11) hok (OpVal.plain rfl rfl (v_assign rfl rfl)) (by kernel_rfl) rfl (bl rfl) ?_
            clear hok
            intro hok
            refine TrAny.next (j := 10) (by kernel_rfl) hok rfl (by kernel_rfl) (op_alloc' rfl (bl rfl) rfl ze31 (fun b31 => ?_))
            refine nxp hok (kp_imp (kp_cm rfl)) rfl (by kernel_rfl) ?_
            clear hok
            intro hok
            refine TrAny.next (j := 11) (by kernel_rfl) hok rfl (by kernel_rfl) (op_store' (k := 0) (c' := [.int .i64 r12.1, .int .i64 r12.2.1, .slice m49.1 r12.2.2.1.length m49.2]) rfl rfl rfl rfl rfl ty31 rfl (Nat.le_of_ble_eq_true rfl) (ones (oc rfl (oc rfl (oc rfl on)))) rfl ?_)
            refine nxs hok (kp_all (ac (.inl (by kernel_rfl)) (ac (.inl (by kernel_rfl)) (ac (.inl (by kernel_rfl)) (ac (.inl (by kernel_rfl)) (ac (.inl (by kernel_rfl)) (ac (.inl (by kernel_rfl)) (ac (.inl (by kernel_rfl)) (ac (.inl (by kernel_rfl)) (ac (.inr (OpVal.plain rfl rfl (v_extract rfl rfl rfl))) (ac (.inr (OpVal.plain rfl rfl (v_assign rfl rfl))) an))))))))))) rfl ?_
            clear hok
            intro hok
            refine TrAny.done (by kernel_rfl) (by kernel_rfl) hok (by kernel_rfl) (⟨(b31, m49.1, m49.2), Imp.re _ [1, 0] [0, 1, 2] (sc rfl (sc rfl (sc rfl (sc rfl (sc rfl (sc rfl (sc rfl (sc rfl (sc rfl sn))))))))) (by decide) rfl rfl rfl⟩)
          · refine step_n rfl (by kernel_rfl) rfl (op_alloc' rfl (bl rfl) rfl ze31 (fun b32 => ?_))
            refine nxp hok (kp_imp (kp_cm rfl)) rfl (by kernel_rfl) ?_
            clear hok
            intro hok
            refine TrAny.next (j := 6) (by kernel_rfl) hok rfl (by kernel_rfl) (op_call0' (vs := [.agg #[.int .i64 s5.2.2.1, .int .i64 s5.2.2.2.1, .slice m36.1 s5.2.2.2.2.length m36.2], .int .u64 7, .int .u64 z12.2]) (cap := []) [1] rfl rfl (bl rfl) rfl rfl en69 (c_hist_Add s5.2.2 ((7 : Int)) z12.2 m36.1 m36.2 r12 hr12) rfl (fun ret M' F' hR36 => ?_))
            obtain ⟨m50, rfl, rfl, rfl⟩ := hR36
            refine nxp hok (kp_imp (kp_c0 rfl)) rfl (by kernel_rfl) ?_
            clear hok
            intro hok
            refine TrAny.prom (i := 7) (d := 31) hok (OpVal.plain rfl rfl (v_move rfl rfl)) (by kernel_rfl) rfl (bl rfl) ?_
            clear hok
            intro hok
            refine TrAny.prom (i := 8) (d := 39) hok (OpVal.plain rfl rfl (v_extract rfl rfl rfl)) (by kernel_rfl) rfl (bl rfl) ?_
            clear hok
            intro hok
            refine TrAny.prom (i := 9) (d := 40) hok (OpVal.plain rfl rfl (v_extract rfl rfl rfl)) (by kernel_rfl) rfl (bl rfl) ?_
            clear hok
            intro hok
            refine TrAny.prom (i := 12) (d := 11) hok (OpVal.plain rfl rfl (v_assign rfl rfl)) (by kernel_rfl) rfl (bl rfl) ?_
            clear hok
            intro hok
            refine TrAny.next (j := 11) (by kernel_rfl) hok rfl (by kernel_rfl) (op_store' (k := 0) (c' := [.int .i64 r12.1, .int .i64 r12.2.1, .slice m50.1 r12.2.2.1.length m50.2]) rfl rfl rfl rfl rfl ty31 rfl (Nat.le_of_ble_eq_true rfl) (ones (oc rfl (oc rfl (oc rfl on)))) rfl ?_)
            refine nxs hok (kp_all (ac (.inl (by kernel_rfl)) (ac (.inl (by kernel_rfl)) (ac (.inl (by kernel_rfl)) (ac (.inl (by kernel_rfl)) (ac (.inl (by kernel_rfl)) (ac (.inl (by kernel_rfl)) (ac (.inl (by kernel_rfl)) (ac (.inl (by kernel_rfl)) (ac (.inr (OpVal.plain rfl rfl (v_extract rfl rfl rfl))) (ac (.inr (OpVal.plain rfl rfl (v_assign rfl rfl))) an))))))))))) rfl ?_
            clear hok
            intro hok
            refine TrAny.done (by kernel_rfl) (by kernel_rfl) hok (by kernel_rfl) (⟨(b32, m50.1, m50.2), Imp.re _ [1, 0] [0, 1, 2] (sc rfl (sc rfl (sc rfl (sc rfl (sc rfl (sc rfl (sc rfl (sc rfl (sc rfl sn))))))))) (by decide) rfl rfl rfl⟩)
        · refine (qthen_n ?_)
          refine Tr.seq ?_
          refine Tr.region ?_
          refine TrL.v (v_move rfl rfl) rfl rfl (bl rfl) ?_
          refine TrL.v (v_arith rfl rfl rfl ar_eql) rfl rfl (bl rfl) ?_
          refine TrL.nil (qthen_n ?_)
          rcases ifc hy2 with ⟨h26, hy2⟩ | ⟨h26, hy2⟩
          · refine Tr.cond_t rfl (bt_dec h26) ?_
            refine Tr.seq ?_
            refine Tr.region ?_
            refine TrL.v (v_load (k := 1) rfl rfl rfl ty31 nofun rfl rfl) rfl rfl (bl rfl) ?_
            refine TrL.cons rfl (op_store' (k := 0) (c' := [.int .i64 r12.1, .int .i64 r12.2.1, .slice m48.2.1 r12.2.2.1.length m48.2.2]) rfl rfl rfl rfl rfl ty31 rfl (Nat.le_of_ble_eq_true rfl) (ones (oc rfl (oc rfl (oc rfl on)))) rfl ?_)
            refine TrL.nil (qthen_n ?_)
            refine Tr.region ?_
            refine TrL.v (v_move rfl rfl) rfl rfl (bl rfl) ?_
            refine TrL.v (v_move rfl rfl) rfl rfl (bl rfl) ?_
            refine TrL.v (v_move rfl rfl) rfl rfl (bl rfl) ?_
            refine TrL.v (v_indexAddr (k := 0) rfl sl22 ty80 rfl rfl rfl rfl hz12) rfl rfl (bl rfl) ?_
            refine TrL.v (v_fieldAddr rfl fo80_1 rfl) rfl rfl (bl rfl) ?_
            refine TrL.v (v_loadg (A := A1) (i := s5.2.1) (j := 1) (k := 0) rfl ty23 (fun _ => rfl) rfl rfl hz12 rfl rfl) rfl rfl (bl rfl) ?_
            refine TrL.v (v_arith rfl rfl rfl ar_add_u64) rfl rfl (bl rfl) ?_
            refine TrL.v (v_assign rfl rfl) rfl rfl (bl rfl) ?_
            refine TrL.nil (qblock_n (qthen_n ?_))
            refine Tr.region ?_
            refine TrL.v (v_move rfl rfl) rfl rfl (bl rfl) ?_
            refine TrL.v (v_arith rfl rfl rfl ar_add_i64) rfl rfl (bl rfl) ?_
            refine TrL.v (v_assign rfl rfl) rfl rfl (bl rfl) ?_
            have hz := Option.some.inj hy2
            subst hz
            refine TrL.nil (qloop_n ((m48.2.1, m48.2.2)) (Imp.re _ [0] [0, 2] (sc rfl (sc rfl (sc rfl (sc rfl (sc rfl sn))))) (by decide) rfl rfl rfl))
          · refine Tr.cond_f rfl (bf_dec h26) ?_
            refine Tr.skip (qblock_n (qthen_n ?_))
            refine Tr.region ?_
            refine TrL.v (v_move rfl rfl) rfl rfl (bl rfl) ?_
            refine TrL.v (v_arith rfl rfl rfl ar_add_i64) rfl rfl (bl rfl) ?_
            refine TrL.v (v_assign rfl rfl) rfl rfl (bl rfl) ?_
            have hz := Option.some.inj hy2
            subst hz
            refine TrL.nil (qloop_n ((m36.1, m36.2)) (Imp.re _ [0] [0, 1] (sc rfl (sc rfl (sc rfl (sc rfl (sc rfl sn))))) (by decide) rfl rfl rfl))
      · refine Tr.cond_f rfl (bf_dec h25) ?_
        have hz := Option.some.inj hy2
        subst hz
        refine Tr.exit (qthen_x (qloop_x (qblock_hit (qcut_hit ((s5.1, s5.2.2.1, s5.2.2.2.1, s5.2.2.2.2)) ((m36.1, m36.2)) (hx4 _ rfl).symm (Imp.re _ [0] [1] (sc rfl (sc rfl (sc rfl sn))) (by decide) rfl rfl rfl)))))
    · refine TrL.cons_no rfl rfl rfl (gn_t (bf_dec h24)) rfl (bl rfl) ?_
      refine TrL.cons_no rfl rfl rfl (gn_t (bf_dec h24)) rfl (bl rfl) ?_
      refine TrL.v (v_pick_f rfl rfl (bf_dec h24) rfl) rfl rfl (bl rfl) ?_
      refine TrL.nil (qthen_n ?_)
      refine Tr.cond_f rfl rfl ?_
      have hz := Option.some.inj hy2
      subst hz
      refine Tr.exit (qthen_x (qloop_x (qblock_hit (qcut_hit ((s5.1, s5.2.2.1, s5.2.2.2.1, s5.2.2.2.2)) ((m36.1, m36.2)) (hx4 _ rfl).symm (Imp.re _ [0] [1] (sc rfl (sc rfl (sc rfl sn))) (by decide) rfl rfl rfl)))))
  · subst hd2
    refine (qthen_n ?_)
    refine Tr.seq ?_
    refine Tr.region ?_
    refine TrL.v (v_move rfl rfl) rfl rfl (bl rfl) ?_
    refine TrL.v (v_move rfl rfl) rfl rfl (bl rfl) ?_
    rcases ifc H with ⟨h29, H⟩ | ⟨h29, H⟩
    · refine TrL.cons_yes rfl rfl rfl h29 (OpTr.v (v_load (k := 0) rfl rfl rfl ty31 nofun rfl rfl) rfl (bl rfl) ?_)
      obtain ⟨r14, hr14, H⟩ := bnd H
      refine TrL.cons_yes rfl rfl rfl h29 (op_call0' (vs := [.agg #[.int .i64 x2.2.1, .int .i64 x2.2.2.1, .slice m44.1 x2.2.2.2.length m44.2]]) (cap := []) [0] rfl rfl (bl rfl) rfl rfl en45 (c_hist_Total x2.2 m44.1 m44.2 r14 hr14) rfl (fun ret M' F' hR38 => ?_))
      obtain ⟨rfl, rfl, rfl⟩ := hR38
      refine TrL.cons_yes rfl rfl rfl h29 (OpTr.v (v_move rfl rfl) rfl (bl rfl) ?_)
      refine TrL.cons_yes rfl rfl rfl h29 (OpTr.v (v_arith rfl rfl rfl ar_eql) rfl (bl rfl) ?_)
      refine TrL.v (v_pick_t rfl rfl h29 rfl) rfl rfl (bl rfl) ?_
      refine TrL.v (v_move rfl rfl) rfl rfl (bl rfl) ?_
      rcases ifc H with ⟨h30, H⟩ | ⟨h30, H⟩
      · refine TrL.cons_yes rfl rfl rfl (bt_dec h30) (OpTr.v (v_move rfl rfl) rfl (bl rfl) ?_)
        refine TrL.cons_yes rfl rfl rfl (bt_dec h30) (OpTr.v (v_arith rfl rfl rfl ar_leq) rfl (bl rfl) ?_)
        refine TrL.v (v_pick_t rfl rfl (bt_dec h30) rfl) rfl rfl (bl rfl) ?_
        refine TrL.v (v_assign rfl rfl) rfl rfl (bl rfl) ?_
        refine TrL.nil (qthen_n ?_)
        have hz := Option.some.inj H
        subst hz
        refine Tr.ret (ret_r ⟨[(4, .bool (decide (x2.1 ≤ 4503599627370496)))], [], [], []⟩ [.bool (decide (x2.1 ≤ 4503599627370496))] [] [] (Imp.re _ [] [] (sc rfl sn) (by decide) rfl rfl rfl) rfl rfl ⟨rfl, rfl, rfl⟩ (.cons (resv_tmp rfl) .nil))
      · refine TrL.cons_no rfl rfl rfl (gn_t (bf_dec h30)) rfl (bl rfl) ?_
        refine TrL.cons_no rfl rfl rfl (gn_t (bf_dec h30)) rfl (bl rfl) ?_
        refine TrL.v (v_pick_f rfl rfl (bf_dec h30) rfl) rfl rfl (bl rfl) ?_
        refine TrL.v (v_assign rfl rfl) rfl rfl (bl rfl) ?_
        refine TrL.nil (qthen_n ?_)
        have hz := Option.some.inj H
        subst hz
        refine Tr.ret (ret_r ⟨[(4, .bool false)], [], [], []⟩ [.bool false] [] [] (Imp.re _ [] [] (sc rfl sn) (by decide) rfl rfl rfl) rfl rfl ⟨rfl, rfl, rfl⟩ (.cons (resv_tmp rfl) .nil))
    · refine TrL.cons_no rfl rfl rfl (gn_t (bf_b h29)) rfl (bl rfl) ?_
      refine TrL.cons_no rfl rfl rfl (gn_t (bf_b h29)) rfl (bl rfl) ?_
      refine TrL.cons_no rfl rfl rfl (gn_t (bf_b h29)) rfl (bl rfl) ?_
      refine TrL.cons_no rfl rfl rfl (gn_t (bf_b h29)) rfl (bl rfl) ?_
      refine TrL.v (v_pick_f rfl rfl (bf_b h29) rfl) rfl rfl (bl rfl) ?_
      refine TrL.v (v_move rfl rfl) rfl rfl (bl rfl) ?_
      refine TrL.cons_no rfl rfl rfl (gn_t rfl) rfl (bl rfl) ?_
      refine TrL.cons_no rfl rfl rfl (gn_t rfl) rfl (bl rfl) ?_
      refine TrL.v (v_pick_f rfl rfl rfl rfl) rfl rfl (bl rfl) ?_
      refine TrL.v (v_assign rfl rfl) rfl rfl (bl rfl) ?_
      refine TrL.nil (qthen_n ?_)
      have hz := Option.some.inj H
      subst hz
      refine Tr.ret (ret_r ⟨[(4, .bool false)], [], [], []⟩ [.bool false] [] [] (Imp.re _ [] [] (sc rfl sn) (by decide) rfl rfl rfl) rfl rfl ⟨rfl, rfl, rfl⟩ (.cons (resv_tmp rfl) .nil))
end Go.Proofs.Ytbnjjpmlaknaoaa.W
