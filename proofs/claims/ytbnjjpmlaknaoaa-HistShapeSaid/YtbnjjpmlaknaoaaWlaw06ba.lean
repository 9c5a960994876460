/- The contracts of the walked functions: the printed walks. -/
import Derived.Test.YtbnjjpmlaknaoaaKa
import Derived.Test.YtbnjjpmlaknaoaaQa
import Derived.Test.YtbnjjpmlaknaoaaWhistba
import Derived.Test.YtbnjjpmlaknaoaaWlaw06aa
import Derived.Test.YtbnjjpmlaknaoaaWref06ba
namespace Go.Proofs.Ytbnjjpmlaknaoaa.W
open Go Go.Proofs Go.Proofs.Ytbnjjpmlaknaoaa.L Go.Proofs.Ytbnjjpmlaknaoaa.Pu
set_option linter.unusedVariables false
set_option maxHeartbeats 4000000

theorem c_law06_played (p1 : Int) (p2 : List (Int × Int)) (A1 : Option Addr) (c1 : Nat) (r : Int × Int × (List (List (Int × Int))) × Int × Int × (List (List (Int × Int))) × Bool) (H : law06_played p1 p2 = some r) :
    Ctr Try.prog 71 [.int .i64 p1, .slice A1 p2.length c1] [] [slF rp_u64_u64 A1 c1 p2] (fun ret M' F' => ∃ m : Option Addr × Nat × Option Addr × Nat, ret = .tuple #[.agg #[.int .i64 r.1, .int .i64 r.2.1, .slice m.1 r.2.2.1.length m.2.1], .agg #[.int .i64 r.2.2.2.1, .int .i64 r.2.2.2.2.1, .slice m.2.2.1 r.2.2.2.2.2.1.length m.2.2.2], .bool r.2.2.2.2.2.2] ∧ M' = [] ∧ F' = [slF (rSl rp_u64_u64) m.1 m.2.1 r.2.2.1, slF (rSl rp_u64_u64) m.2.2.1 m.2.2.2 r.2.2.2.2.2.1]) := by
  unfold law06_played at H
  refine ctr_ofI (N := 91) Try.func71 rfl Try.ntmps71 rfl (Nat.le_of_ble_eq_true rfl) (fun γ0 w0 => ?_)
  refine Tr.seq ?_
  refine Tr.region ?_
  refine TrL.cons rfl (op_alloc' rfl (bl rfl) rfl ze31 (fun b35 => ?_))
  refine TrL.cons rfl (op_alloc' rfl (bl rfl) rfl ze28 (fun b36 => ?_))
  refine TrL.v (v_assign rfl rfl) rfl rfl (bl rfl) ?_
  refine TrL.nil (qthen_n ?_)
  refine Tr.seq ?_
  refine Tr.region ?_
  refine TrL.v (v_move rfl rfl) rfl rfl (bl rfl) ?_
  refine TrL.v (v_max rfl rfl rfl) rfl rfl (bl rfl) ?_
  refine TrL.v (v_rem rfl rfl rfl (by decide)) rfl rfl (bl rfl) ?_
  refine TrL.v (v_arith rfl rfl rfl ar_add_i64) rfl rfl (bl rfl) ?_
  obtain ⟨r14, hr14, H⟩ := bnd H
  refine TrL.cons rfl (op_call0' (vs := [.int .i64 (wi64 (2 + ((max p1 0).tmod 30)))]) (cap := []) [] rfl rfl (bl rfl) rfl rfl en75 (c_hist_New (wi64 (2 + ((max p1 0).tmod 30))) r14 hr14) rfl (fun ret M' F' hR38 => ?_))
  obtain ⟨rfl, rfl, rfl⟩ := hR38
  refine TrL.v (v_move rfl rfl) rfl rfl (bl rfl) ?_
  refine TrL.v (v_extract rfl rfl rfl) rfl rfl (bl rfl) ?_
  refine TrL.v (v_extract rfl rfl rfl) rfl rfl (bl rfl) ?_
  refine TrL.cons rfl (op_alloc' rfl (bl rfl) rfl ze31 (fun b37 => ?_))
  refine TrL.cons rfl (op_store' (k := 0) (c' := [.int .i64 r14.1, .int .i64 0, .slice none 0 0]) rfl rfl rfl rfl rfl ty31 rfl (Nat.le_of_ble_eq_true rfl) (ones (oc rfl (oc rfl (oc rfl on)))) rfl ?_)
  refine TrL.v (v_assign rfl rfl) rfl rfl (bl rfl) ?_
  refine TrL.nil (qthen_n ?_)
  refine Tr.seq ?_
  refine Tr.region ?_
  refine TrL.v (v_move rfl rfl) rfl rfl (bl rfl) ?_
  refine TrL.v (v_max rfl rfl rfl) rfl rfl (bl rfl) ?_
  refine TrL.v (v_rem rfl rfl rfl (by decide)) rfl rfl (bl rfl) ?_
  refine TrL.v (v_arith rfl rfl rfl ar_add_i64) rfl rfl (bl rfl) ?_
  refine TrL.v (v_build (vs := [.int .i64 (wi64 (2 + ((max p1 0).tmod 30)))]) (out := [.int .i64 (wi64 (2 + ((max p1 0).tmod 30))), .int .i64 0, .slice none 0 0]) rfl pl28 ze28 rfl rfl) rfl rfl (bl rfl) ?_
  refine TrL.cons rfl (op_alloc' rfl (bl rfl) rfl ze28 (fun b38 => ?_))
  refine TrL.cons rfl (op_store' (k := 0) (c' := [.int .i64 (wi64 (2 + ((max p1 0).tmod 30))), .int .i64 0, .slice none 0 0]) rfl rfl rfl rfl rfl ty28 rfl (Nat.le_of_ble_eq_true rfl) (ones (oc rfl (oc rfl (oc rfl on)))) rfl ?_)
  refine TrL.nil (qthen_n ?_)
  refine Tr.seq ?_
  refine Tr.region ?_
  refine TrL.v (v_move rfl rfl) rfl rfl (bl rfl) ?_
  refine TrL.v (v_arith rfl rfl rfl ar_eql) rfl rfl (bl rfl) ?_
  refine TrL.v (v_assign rfl rfl) rfl rfl (bl rfl) ?_
  refine TrL.nil (qthen_n ?_)
  refine Tr.seq ?_
  refine Tr.region ?_
  refine TrL.v (v_assign rfl rfl) rfl rfl (bl rfl) ?_
  refine TrL.nil (qthen_n ?_)
  refine Tr.seq ?_
  refine Tr.seq ?_
  refine Tr.region ?_
  refine TrL.v (v_assign rfl rfl) rfl rfl (bl rfl) ?_
  refine TrL.nil (qthen_n ?_)
  obtain ⟨x2, hx3, H⟩ := bnd H
  refine Tr.cutE (D := Bool × Int × Int × (List (List (Int × Int))) × Int × Int × List (List (Int × Int))) (M := Option Addr × Nat × Option Addr × Nat) .normal (fun _d => x2 = _d) (fun x2 m85 => ⟨[(4, .pointer (some ⟨b35, 0, none⟩)), (5, .pointer (some ⟨b36, 0, none⟩)), (7, .pointer (some ⟨b37, 0, none⟩)), (9, .pointer (some ⟨b38, 0, none⟩)), (10, .bool x2.1)], [cells b35 [.int .i64 0, .int .i64 0, .slice none 0 0] 31, cells b36 [.int .i64 0, .int .i64 0, .slice none 0 0] 28, cells b37 [.int .i64 x2.2.1, .int .i64 x2.2.2.1, .slice m85.1 x2.2.2.2.1.length m85.2.1] 31, cells b38 [.int .i64 x2.2.2.2.2.1, .int .i64 x2.2.2.2.2.2.1, .slice m85.2.2.1 x2.2.2.2.2.2.2.length m85.2.2.2] 28], [slF (rSl rp_u64_u64) none 0 (([] : List (List (Int × Int)))), slF (rSl rp_u64_u64) m85.1 m85.2.1 x2.2.2.2.1, slF (rSl rp_u64_u64) m85.2.2.1 m85.2.2.2 x2.2.2.2.2.2.2], []⟩) ?_ (fun x2 m85 hd8 => ?_)
  · refine Tr.block (Tr.loopI (ι := Option Addr × Nat × Option Addr × Nat) (step := law06_played_s0 p2) (fun s5 m68 => ⟨[(1, .slice A1 p2.length c1), (4, .pointer (some ⟨b35, 0, none⟩)), (5, .pointer (some ⟨b36, 0, none⟩)), (7, .pointer (some ⟨b37, 0, none⟩)), (9, .pointer (some ⟨b38, 0, none⟩)), (10, .bool s5.1), (11, .int .u64 s5.2.1), (12, .int .i64 s5.2.2.1)], [cells b35 [.int .i64 0, .int .i64 0, .slice none 0 0] 31, cells b36 [.int .i64 0, .int .i64 0, .slice none 0 0] 28, cells b37 [.int .i64 s5.2.2.2.1, .int .i64 s5.2.2.2.2.1, .slice m68.1 s5.2.2.2.2.2.1.length m68.2.1] 31, cells b38 [.int .i64 s5.2.2.2.2.2.2.1, .int .i64 s5.2.2.2.2.2.2.2.1, .slice m68.2.2.1 s5.2.2.2.2.2.2.2.2.length m68.2.2.2] 28], [slF rp_u64_u64 A1 c1 p2, slF (rSl rp_u64_u64) none 0 (([] : List (List (Int × Int)))), slF (rSl rp_u64_u64) m68.1 m68.2.1 s5.2.2.2.2.2.1, slF (rSl rp_u64_u64) m68.2.2.1 m68.2.2.2 s5.2.2.2.2.2.2.2.2], []⟩) ((none, 0, none, 0)) hx3 (Imp.re _ [3, 2, 1, 0] [0, 1, 1, 1] (sc rfl (sc rfl (sc rfl (sc rfl (sc rfl (sc rfl (sc rfl (sc rfl sn)))))))) (by decide) rfl rfl rfl) (fun s5 m68 y2 hy2 hx4 => ?_))
    unfold law06_played_s0 at hy2
    refine Tr.seq ?_
    refine Tr.seq ?_
    refine Tr.region ?_
    refine TrL.v (v_move rfl rfl) rfl rfl (bl rfl) ?_
    refine TrL.v (v_move rfl rfl) rfl rfl (bl rfl) ?_
    refine TrL.v (v_len rfl sl22 rfl) rfl rfl (bl rfl) ?_
    refine TrL.v (v_arith rfl rfl rfl ar_lss) rfl rfl (bl rfl) ?_
    refine TrL.v (v_move rfl rfl) rfl rfl (bl rfl) ?_
    rcases ifc hy2 with ⟨h45, hy2⟩ | ⟨h45, hy2⟩
    · refine TrL.cons_yes rfl rfl rfl (bt_dec h45) (OpTr.v (v_move rfl rfl) rfl (bl rfl) ?_)
      refine TrL.cons_yes rfl rfl rfl (bt_dec h45) (OpTr.v (v_arith rfl rfl rfl ar_lss) rfl (bl rfl) ?_)
      refine TrL.v (v_pick_t rfl rfl (bt_dec h45) rfl) rfl rfl (bl rfl) ?_
      refine TrL.nil (qthen_n ?_)
      rcases ifc hy2 with ⟨h46, hy2⟩ | ⟨h46, hy2⟩
      · refine Tr.cond_t rfl (bt_dec h46) ?_
        refine Tr.skip (qthen_n ?_)
        refine Tr.seq ?_
        refine Tr.block ?_
        refine Tr.seq ?_
        refine Tr.region ?_
        refine TrL.v (v_move rfl rfl) rfl rfl (bl rfl) ?_
        refine TrL.v (v_move rfl rfl) rfl rfl (bl rfl) ?_
        refine TrL.v (v_move rfl rfl) rfl rfl (bl rfl) ?_
        obtain ⟨z6, hz6, hy2⟩ := bnd hy2
        refine TrL.v (v_indexAddr (k := 0) rfl sl22 ty80 rfl rfl rfl rfl hz6) rfl rfl (bl rfl) ?_
        refine TrL.v (v_fieldAddr rfl fo80_0 rfl) rfl rfl (bl rfl) ?_
        refine TrL.v (v_loadg (A := A1) (i := s5.2.2.1) (j := 0) (k := 0) rfl ty23 (fun _ => rfl) rfl rfl hz6 rfl rfl) rfl rfl (bl rfl) ?_
        refine TrL.v (v_rem rfl rfl rfl (by decide)) rfl rfl (bl rfl) ?_
        refine TrL.v (v_arith rfl rfl rfl ar_add_u64) rfl rfl (bl rfl) ?_
        refine TrL.v (v_assign rfl rfl) rfl rfl (bl rfl) ?_
        refine TrL.nil (qthen_n ?_)
        refine Tr.seq ?_
        refine Tr.regionD drawn (fun hok => ?_)
        obtain ⟨r23, hr23, hy2⟩ := bnd hy2
        refine TrAny.cut (ι := Nat × Option Addr × Nat) (fun m89 => ⟨[(1, .slice A1 p2.length c1), (4, .pointer (some ⟨b35, 0, none⟩)), (5, .pointer (some ⟨b36, 0, none⟩)), (7, .pointer (some ⟨b37, 0, none⟩)), (9, .pointer (some ⟨b38, 0, none⟩)), (10, .bool s5.1), (11, .int .u64 (wu64 (s5.2.1 + (z6.1.tmod 1000)))), (12, .int .i64 s5.2.2.1), (13, .pointer (some ⟨m89.1, 0, none⟩)), (14, .int .i64 r23.2.2.2), (37, .int .i64 s5.2.2.1), (38, .bool (decide (s5.2.2.1 < 30)))], [cells b35 [.int .i64 0, .int .i64 0, .slice none 0 0] 31, cells b36 [.int .i64 0, .int .i64 0, .slice none 0 0] 28, cells b37 [.int .i64 s5.2.2.2.1, .int .i64 s5.2.2.2.2.1, .slice m68.1 s5.2.2.2.2.2.1.length m68.2.1] 31, cells b38 [.int .i64 s5.2.2.2.2.2.2.1, .int .i64 s5.2.2.2.2.2.2.2.1, .slice m68.2.2.1 s5.2.2.2.2.2.2.2.2.length m68.2.2.2] 28, cells m89.1 [.int .i64 r23.1, .int .i64 r23.2.1, .slice m89.2.1 r23.2.2.1.length m89.2.2] 31], [slF rp_u64_u64 A1 c1 p2, slF (rSl rp_u64_u64) none 0 (([] : List (List (Int × Int)))), slF (rSl rp_u64_u64) m68.1 m68.2.1 s5.2.2.2.2.2.1, slF (rSl rp_u64_u64) m68.2.2.1 m68.2.2.2 s5.2.2.2.2.2.2.2.2, slF (rSl rp_u64_u64) m89.2.1 m89.2.2 r23.2.2.1], []⟩) ?_ (fun m89 => ?_)
        · refine TrAny.prom (i := 0) (d := 51) hok (OpVal.plain rfl rfl (v_load (k := 2) rfl rfl rfl ty31 nofun rfl rfl)) (by kernel_rfl) rfl (bl rfl) ?_
          clear hok
          intro hok
          refine TrAny.prom (i := 1) (d := 52) hok (OpVal.plain rfl rfl (v_move rfl rfl)) (by kernel_rfl) rfl (bl rfl) ?_
          clear hok
          intro hok
          refine TrAny.prom (i := 2) (d := 53) hok (OpVal.plain rfl rfl (v_move rfl rfl)) (by kernel_rfl) rfl (bl rfl) ?_
          clear hok
          intro hok
          refine TrAny.prom (i := 3) (d := 54) hok (OpVal.plain rfl rfl (v_move rfl rfl)) (by kernel_rfl) rfl (bl rfl) ?_
          clear hok
          intro hok
          refine TrAny.prom (i := 4) (d := 55) hok (OpVal.plain rfl rfl (v_indexAddr (k := 0) rfl sl22 ty80 rfl rfl rfl rfl hz6)) (by kernel_rfl) rfl (bl rfl) ?_
          clear hok
          intro hok
          refine TrAny.prom (i := 5) (d := 56) hok (OpVal.plain rfl rfl (v_fieldAddr rfl fo80_1 rfl)) (by kernel_rfl) rfl (bl rfl) ?_
          clear hok
          intro hok
          refine TrAny.prom (i := 6) (d := 57) hok (OpVal.plain rfl rfl (v_loadg (A := A1) (i := s5.2.2.1) (j := 1) (k := 0) rfl ty23 (fun _ => rfl) rfl rfl hz6 rfl rfl)) (by kernel_rfl) rfl (bl rfl) ?_
          clear hok
          intro hok
          refine TrAny.fork [7, 11] (by kernel_rfl) hok ⟨7, by decide, bl rfl⟩ (by kernel_rfl) (.cons ?_ (.cons ?_ .nil))
          · refine step_n rfl (by kernel_rfl) rfl (op_call0' (vs := [.agg #[.int .i64 s5.2.2.2.1, .int .i64 s5.2.2.2.2.1, .slice m68.1 s5.2.2.2.2.2.1.length m68.2.1], .int .u64 (wu64 (s5.2.1 + (z6.1.tmod 1000))), .int .u64 z6.2]) (cap := []) [2] rfl rfl (bl rfl) rfl rfl en69 (c_hist_Add ((s5.2.2.2.1, s5.2.2.2.2.1, s5.2.2.2.2.2.1)) (wu64 (s5.2.1 + (z6.1.tmod 1000))) z6.2 m68.1 m68.2.1 r23 hr23) rfl (fun ret M' F' hR66 => ?_))
            obtain ⟨m90, rfl, rfl, rfl⟩ := hR66
            refine nxp hok (kp_imp (kp_c0 rfl)) rfl (by kernel_rfl) ?_
            clear hok
            intro hok
            refine TrAny.prom (i := 8) (d := 50) hok (OpVal.plain rfl rfl (v_move rfl rfl)) (by kernel_rfl) rfl (bl rfl) ?_
            clear hok
            intro hok
            refine TrAny.prom (i := 9) (d := 59) hok (OpVal.plain rfl rfl (v_extract rfl rfl rfl)) (by kernel_rfl) rfl (bl rfl) ?_
            clear hok
            intro hok
            refine TrAny.prom (i := 10) (d := 60) hok (OpVal.plain rfl rfl (v_extract rfl rfl rfl)) (by kernel_rfl) rfl (bl rfl) ?_
            clear hok
            intro hok
            refine TrAny.prom (i := 13) (d := 14) hok (OpVal.plain rfl rfl (v_assign rfl rfl)) (by kernel_rfl) rfl (bl rfl) ?_
            clear hok
            intro hok
            refine TrAny.next (j := 11) (by kernel_rfl) hok rfl (by kernel_rfl) (op_alloc' rfl (bl rfl) rfl ze31 (fun b62 => ?_))
            refine nxp hok (kp_imp (kp_cm rfl)) rfl (by kernel_rfl) ?_
            clear hok
            intro hok
            refine TrAny.next (j := 12) (by kernel_rfl) hok rfl (by kernel_rfl) (op_store' (k := 0) (c' := [.int .i64 r23.1, .int .i64 r23.2.1, .slice m90.1 r23.2.2.1.length m90.2]) rfl rfl rfl rfl rfl ty31 rfl (Nat.le_of_ble_eq_true rfl) (ones (oc rfl (oc rfl (oc rfl on)))) rfl ?_)
            refine nxs hok (kp_all (ac (.inl (by kernel_rfl)) (ac (.inl (by kernel_rfl)) (ac (.inl (by kernel_rfl)) (ac (.inl (by kernel_rfl)) (ac (.inl (by kernel_rfl)) (ac (.inl (by kernel_rfl)) (ac (.inl (by kernel_rfl)) (ac (.inl (by kernel_rfl)) (ac (.inl (by kernel_rfl)) (ac (.inr (OpVal.plain rfl rfl (v_extract rfl rfl rfl))) (ac (.inr (OpVal.plain rfl rfl (v_assign rfl rfl))) an)))))))))))) rfl ?_
            clear hok
            intro hok
            refine TrAny.done (by kernel_rfl) (by kernel_rfl) hok (by kernel_rfl) (⟨(b62, m90.1, m90.2), Imp.re _ [1, 2, 3, 4, 0] [0, 1, 2, 3, 4] (sc rfl (sc rfl (sc rfl (sc rfl (sc rfl (sc rfl (sc rfl (sc rfl (sc rfl (sc rfl (sc rfl (sc rfl sn)))))))))))) (by decide) rfl rfl rfl⟩)
          · refine step_n rfl (by kernel_rfl) rfl (op_alloc' rfl (bl rfl) rfl ze31 (fun b63 => ?_))
            refine nxp hok (kp_imp (kp_cm rfl)) rfl (by kernel_rfl) ?_
            clear hok
            intro hok
            refine TrAny.next (j := 7) (by kernel_rfl) hok rfl (by kernel_rfl) (op_call0' (vs := [.agg #[.int .i64 s5.2.2.2.1, .int .i64 s5.2.2.2.2.1, .slice m68.1 s5.2.2.2.2.2.1.length m68.2.1], .int .u64 (wu64 (s5.2.1 + (z6.1.tmod 1000))), .int .u64 z6.2]) (cap := []) [2] rfl rfl (bl rfl) rfl rfl en69 (c_hist_Add ((s5.2.2.2.1, s5.2.2.2.2.1, s5.2.2.2.2.2.1)) (wu64 (s5.2.1 + (z6.1.tmod 1000))) z6.2 m68.1 m68.2.1 r23 hr23) rfl (fun ret M' F' hR67 => ?_))
            obtain ⟨m91, rfl, rfl, rfl⟩ := hR67
            refine nxp hok (kp_imp (kp_c0 rfl)) rfl (by kernel_rfl) ?_
            clear hok
            intro hok
            refine TrAny.prom (i := 8) (d := 50) hok (OpVal.plain rfl rfl (v_move rfl rfl)) (by kernel_rfl) rfl (bl rfl) ?_
            clear hok
            intro hok
            refine TrAny.prom (i := 9) (d := 59) hok (OpVal.plain rfl rfl (v_extract rfl rfl rfl)) (by kernel_rfl) rfl (bl rfl) ?_
            clear hok
            intro hok
            refine TrAny.prom (i := 10) (d := 60) hok (OpVal.plain rfl rfl (v_extract rfl rfl rfl)) (by kernel_rfl) rfl (bl rfl) ?_
            clear hok
            intro hok
            refine TrAny.prom (i := 13) (d := 14) hok (OpVal.plain rfl rfl (v_assign rfl rfl)) (by kernel_rfl) rfl (bl rfl) ?_
            clear hok
            intro hok
            refine TrAny.next (j := 12) (by kernel_rfl) hok rfl (by kernel_rfl) (op_store' (k := 0) (c' := [.int .i64 r23.1, .int .i64 r23.2.1, .slice m91.1 r23.2.2.1.length m91.2]) rfl rfl rfl rfl rfl ty31 rfl (Nat.le_of_ble_eq_true rfl) (ones (oc rfl (oc rfl (oc rfl on)))) rfl ?_)
            refine nxs hok (kp_all (ac (.inl (by kernel_rfl)) (ac (.inl (by kernel_rfl)) (ac (.inl (by kernel_rfl)) (ac (.inl (by kernel_rfl)) (ac (.inl (by kernel_rfl)) (ac (.inl (by kernel_rfl)) (ac (.inl (by kernel_rfl)) (ac (.inl (by kernel_rfl)) (ac (.inl (by kernel_rfl)) (ac (.inr (OpVal.plain rfl rfl (v_extract rfl rfl rfl))) (ac (.inr (OpVal.plain rfl rfl (v_assign rfl rfl))) an)))))))))))) rfl ?_
            clear hok
            intro hok
            refine TrAny.done (by kernel_rfl) (by kernel_rfl) hok (by kernel_rfl) (⟨(b63, m91.1, m91.2), Imp.re _ [1, 2, 3, 4, 0] [0, 1, 2, 3, 4] (sc rfl (sc rfl (sc rfl (sc rfl (sc rfl (sc rfl (sc rfl (sc rfl (sc rfl (sc rfl (sc rfl (sc rfl sn)))))))))))) (by decide) rfl rfl rfl⟩)
        · refine (qthen_n ?_)
          refine Tr.seq ?_
          refine Tr.regionD drawn (fun hok => ?_)
          obtain ⟨r24, hr24, hy2⟩ := bnd hy2
          refine TrAny.cut (ι := Nat × Option Addr × Nat) (fun m95 => ⟨[(1, .slice A1 p2.length c1), (4, .pointer (some ⟨b35, 0, none⟩)), (5, .pointer (some ⟨b36, 0, none⟩)), (7, .pointer (some ⟨b37, 0, none⟩)), (9, .pointer (some ⟨b38, 0, none⟩)), (10, .bool s5.1), (11, .int .u64 (wu64 (s5.2.1 + (z6.1.tmod 1000)))), (12, .int .i64 s5.2.2.1), (13, .pointer (some ⟨m89.1, 0, none⟩)), (14, .int .i64 r23.2.2.2), (15, .pointer (some ⟨m95.1, 0, none⟩)), (16, .int .i64 r24.2.2.2), (37, .int .i64 s5.2.2.1), (38, .bool (decide (s5.2.2.1 < 30)))], [cells b35 [.int .i64 0, .int .i64 0, .slice none 0 0] 31, cells b36 [.int .i64 0, .int .i64 0, .slice none 0 0] 28, cells b37 [.int .i64 s5.2.2.2.1, .int .i64 s5.2.2.2.2.1, .slice m68.1 s5.2.2.2.2.2.1.length m68.2.1] 31, cells b38 [.int .i64 s5.2.2.2.2.2.2.1, .int .i64 s5.2.2.2.2.2.2.2.1, .slice m68.2.2.1 s5.2.2.2.2.2.2.2.2.length m68.2.2.2] 28, cells m89.1 [.int .i64 r23.1, .int .i64 r23.2.1, .slice m89.2.1 r23.2.2.1.length m89.2.2] 31, cells m95.1 [.int .i64 r24.1, .int .i64 r24.2.1, .slice m95.2.1 r24.2.2.1.length m95.2.2] 28], [slF rp_u64_u64 A1 c1 p2, slF (rSl rp_u64_u64) none 0 (([] : List (List (Int × Int)))), slF (rSl rp_u64_u64) m68.1 m68.2.1 s5.2.2.2.2.2.1, slF (rSl rp_u64_u64) m68.2.2.1 m68.2.2.2 s5.2.2.2.2.2.2.2.2, slF (rSl rp_u64_u64) m89.2.1 m89.2.2 r23.2.2.1, slF (rSl rp_u64_u64) m95.2.1 m95.2.2 r24.2.2.1], []⟩) ?_ (fun m95 => ?_)
          · refine TrAny.prom (i := 0) (d := 62) hok (OpVal.plain rfl rfl (v_load (k := 3) rfl rfl rfl ty28 nofun rfl rfl)) (by kernel_rfl) rfl (bl rfl) ?_
            clear hok
            intro hok
            refine TrAny.prom (i := 1) (d := 63) hok (OpVal.plain rfl rfl (v_move rfl rfl)) (by kernel_rfl) rfl (bl rfl) ?_
            clear hok
            intro hok
            refine TrAny.prom (i := 2) (d := 64) hok (OpVal.plain rfl rfl (v_move rfl rfl)) (by kernel_rfl) rfl (bl rfl) ?_
            clear hok
            intro hok
            refine TrAny.prom (i := 3) (d := 65) hok (OpVal.plain rfl rfl (v_move rfl rfl)) (by kernel_rfl) rfl (bl rfl) ?_
            clear hok
            intro hok
            refine TrAny.prom (i := 4) (d := 66) hok (OpVal.plain rfl rfl (v_indexAddr (k := 0) rfl sl22 ty80 rfl rfl rfl rfl hz6)) (by kernel_rfl) rfl (bl rfl) ?_
            clear hok
            intro hok
            refine TrAny.prom (i := 5) (d := 67) hok (OpVal.plain rfl rfl (v_fieldAddr rfl fo80_1 rfl)) (by kernel_rfl) rfl (bl rfl) ?_
            clear hok
            intro hok
            refine TrAny.prom (i := 6) (d := 68) hok (OpVal.plain rfl rfl (v_loadg (A := A1) (i := s5.2.2.1) (j := 1) (k := 0) rfl ty23 (fun _ => rfl) rfl rfl hz6 rfl rfl)) (by kernel_rfl) rfl (bl rfl) ?_
            clear hok
            intro hok
            refine TrAny.fork [7, 11] (by kernel_rfl) hok ⟨7, by decide, bl rfl⟩ (by kernel_rfl) (.cons ?_ (.cons ?_ .nil))
            · refine step_n rfl (by kernel_rfl) rfl (op_call0' (vs := [.agg #[.int .i64 s5.2.2.2.2.2.2.1, .int .i64 s5.2.2.2.2.2.2.2.1, .slice m68.2.2.1 s5.2.2.2.2.2.2.2.2.length m68.2.2.2], .int .u64 (wu64 (s5.2.1 + (z6.1.tmod 1000))), .int .u64 z6.2]) (cap := []) [3] rfl rfl (bl rfl) rfl rfl en67 (c_ref06_Add s5.2.2.2.2.2.2 (wu64 (s5.2.1 + (z6.1.tmod 1000))) z6.2 m68.2.2.1 m68.2.2.2 r24 hr24) rfl (fun ret M' F' hR71 => ?_))
              obtain ⟨m96, rfl, rfl, rfl⟩ := hR71
              refine nxp hok (kp_imp (kp_c0 rfl)) rfl (by kernel_rfl) ?_
              clear hok
              intro hok
              refine TrAny.prom (i := 8) (d := 61) hok (OpVal.plain rfl rfl (v_move rfl rfl)) (by kernel_rfl) rfl (bl rfl) ?_
              clear hok
              intro hok
              refine TrAny.prom (i := 9) (d := 70) hok (OpVal.plain rfl rfl (v_extract rfl rfl rfl)) (by kernel_rfl) rfl (bl rfl) ?_
              clear hok
              intro hok
              refine TrAny.prom (i := 10) (d := 71) hok (OpVal.plain rfl rfl (v_extract rfl rfl rfl)) (by kernel_rfl) rfl (bl rfl) ?_
              clear hok
              intro hok
              refine TrAny.prom (i := 13) (d := 16) hok (OpVal.plain rfl rfl (v_assign rfl rfl)) (by kernel_rfl) rfl (bl rfl) ?_
              clear hok
              intro hok
              refine TrAny.next (j := 11) (by kernel_rfl) hok rfl (by kernel_rfl) (op_alloc' rfl (bl rfl) rfl ze28 (fun b67 => ?_))
              refine nxp hok (kp_imp (kp_cm rfl)) rfl (by kernel_rfl) ?_
              clear hok
              intro hok
              refine TrAny.next (j := 12) (by kernel_rfl) hok rfl (by kernel_rfl) (op_store' (k := 0) (c' := [.int .i64 r24.1, .int .i64 r24.2.1, .slice m96.1 r24.2.2.1.length m96.2]) rfl rfl rfl rfl rfl ty28 rfl (Nat.le_of_ble_eq_true rfl) (ones (oc rfl (oc rfl (oc rfl on)))) rfl ?_)
              refine nxs hok (kp_all (ac (.inl (by kernel_rfl)) (ac (.inl (by kernel_rfl)) (ac (.inl (by kernel_rfl)) (ac (.inl (by kernel_rfl)) (ac (.inl (by kernel_rfl)) (ac (.inl (by kernel_rfl)) (ac (.inl (by kernel_rfl)) (ac (.inl (by kernel_rfl)) (ac (.inl (by kernel_rfl)) (ac (.inr (OpVal.plain rfl rfl (v_extract rfl rfl rfl))) (ac (.inr (OpVal.plain rfl rfl (v_assign rfl rfl))) an)))))))))))) rfl ?_
              clear hok
              intro hok
              refine TrAny.done (by kernel_rfl) (by kernel_rfl) hok (by kernel_rfl) (⟨(b67, m96.1, m96.2), Imp.re _ [1, 2, 3, 4, 5, 0] [0, 1, 2, 3, 4, 5] (sc rfl (sc rfl (sc rfl (sc rfl (sc rfl (sc rfl (sc rfl (sc rfl (sc rfl (sc rfl (sc rfl (sc rfl (sc rfl (sc rfl sn)))))))))))))) (by decide) rfl rfl rfl⟩)
            · refine step_n rfl (by kernel_rfl) rfl (op_alloc' rfl (bl rfl) rfl ze28 (fun b68 => ?_))
              refine nxp hok (kp_imp (kp_cm rfl)) rfl (by kernel_rfl) ?_
              clear hok
              intro hok
              refine TrAny.next (j := 7) (by kernel_rfl) hok rfl (by kernel_rfl) (op_call0' (vs := [.agg #[.int .i64 s5.2.2.2.2.2.2.1, .int .i64 s5.2.2.2.2.2.2.2.1, .slice m68.2.2.1 s5.2.2.2.2.2.2.2.2.length m68.2.2.2], .int .u64 (wu64 (s5.2.1 + (z6.1.tmod 1000))), .int .u64 z6.2]) (cap := []) [3] rfl rfl (bl rfl) rfl rfl en67 (c_ref06_Add s5.2.2.2.2.2.2 (wu64 (s5.2.1 + (z6.1.tmod 1000))) z6.2 m68.2.2.1 m68.2.2.2 r24 hr24) rfl (fun ret M' F' hR72 => ?_))
              obtain ⟨m97, rfl, rfl, rfl⟩ := hR72
              refine nxp hok (kp_imp (kp_c0 rfl)) rfl (by kernel_rfl) ?_
              clear hok
              intro hok
              refine TrAny.prom (i := 8) (d := 61) hok (OpVal.plain rfl rfl (v_move rfl rfl)) (by kernel_rfl) rfl (bl rfl) ?_
              clear hok
              intro hok
              refine TrAny.prom (i := 9) (d := 70) hok (OpVal.plain rfl rfl (v_extract rfl rfl rfl)) (by kernel_rfl) rfl (bl rfl) ?_
              clear hok
              intro hok
              refine TrAny.prom (i := 10) (d := 71) hok (OpVal.plain rfl rfl (v_extract rfl rfl rfl)) (by kernel_rfl) rfl (bl rfl) ?_
              clear hok
              intro hok
              refine TrAny.prom (i := 13) (d := 16) hok (OpVal.plain rfl rfl (v_assign rfl rfl)) (by kernel_rfl) rfl (bl rfl) ?_
              clear hok
              intro hok
              refine TrAny.next (j := 12) (by kernel_rfl) hok rfl (by kernel_rfl) (op_store' (k := 0) (c' := [.int .i64 r24.1, .int .i64 r24.2.1, .slice m97.1 r24.2.2.1.length m97.2]) rfl rfl rfl rfl rfl ty28 rfl (Nat.le_of_ble_eq_true rfl) (ones (oc rfl (oc rfl (oc rfl on)))) rfl ?_)
              refine nxs hok (kp_all (ac (.inl (by kernel_rfl)) (ac (.inl (by kernel_rfl)) (ac (.inl (by kernel_rfl)) (ac (.inl (by kernel_rfl)) (ac (.inl (by kernel_rfl)) (ac (.inl (by kernel_rfl)) (ac (.inl (by kernel_rfl)) (ac (.inl (by kernel_rfl)) (ac (.inl (by kernel_rfl)) (ac (.inr (OpVal.plain rfl rfl (v_extract rfl rfl rfl))) (ac (.inr (OpVal.plain rfl rfl (v_assign rfl rfl))) an)))))))))))) rfl ?_
              clear hok
              intro hok
              refine TrAny.done (by kernel_rfl) (by kernel_rfl) hok (by kernel_rfl) (⟨(b68, m97.1, m97.2), Imp.re _ [1, 2, 3, 4, 5, 0] [0, 1, 2, 3, 4, 5] (sc rfl (sc rfl (sc rfl (sc rfl (sc rfl (sc rfl (sc rfl (sc rfl (sc rfl (sc rfl (sc rfl (sc rfl (sc rfl (sc rfl sn)))))))))))))) (by decide) rfl rfl rfl⟩)
          · refine (qthen_n ?_)
            refine Tr.seq ?_
            obtain ⟨j6, hj6, hy2⟩ := bnd hy2
            refine Tr.cutE (D := Bool) (M := Unit) .normal (fun _d => j6 = _d) (fun j6 m98 => ⟨[(1, .slice A1 p2.length c1), (4, .pointer (some ⟨b35, 0, none⟩)), (5, .pointer (some ⟨b36, 0, none⟩)), (7, .pointer (some ⟨b37, 0, none⟩)), (9, .pointer (some ⟨b38, 0, none⟩)), (10, .bool j6), (11, .int .u64 (wu64 (s5.2.1 + (z6.1.tmod 1000)))), (12, .int .i64 s5.2.2.1), (13, .pointer (some ⟨m89.1, 0, none⟩)), (15, .pointer (some ⟨m95.1, 0, none⟩)), (16, .int .i64 r24.2.2.2), (37, .int .i64 s5.2.2.1), (38, .bool (decide (s5.2.2.1 < 30)))], [cells b35 [.int .i64 0, .int .i64 0, .slice none 0 0] 31, cells b36 [.int .i64 0, .int .i64 0, .slice none 0 0] 28, cells b37 [.int .i64 s5.2.2.2.1, .int .i64 s5.2.2.2.2.1, .slice m68.1 s5.2.2.2.2.2.1.length m68.2.1] 31, cells b38 [.int .i64 s5.2.2.2.2.2.2.1, .int .i64 s5.2.2.2.2.2.2.2.1, .slice m68.2.2.1 s5.2.2.2.2.2.2.2.2.length m68.2.2.2] 28, cells m89.1 [.int .i64 r23.1, .int .i64 r23.2.1, .slice m89.2.1 r23.2.2.1.length m89.2.2] 31, cells m95.1 [.int .i64 r24.1, .int .i64 r24.2.1, .slice m95.2.1 r24.2.2.1.length m95.2.2] 28], [slF rp_u64_u64 A1 c1 p2, slF (rSl rp_u64_u64) none 0 (([] : List (List (Int × Int)))), slF (rSl rp_u64_u64) m68.1 m68.2.1 s5.2.2.2.2.2.1, slF (rSl rp_u64_u64) m68.2.2.1 m68.2.2.2 s5.2.2.2.2.2.2.2.2, slF (rSl rp_u64_u64) m89.2.1 m89.2.2 r23.2.2.1, slF (rSl rp_u64_u64) m95.2.1 m95.2.2 r24.2.2.1], []⟩) ?_ (fun j6 m98 hd7 => ?_)
            · refine Tr.region ?_
              refine TrL.v (v_move rfl rfl) rfl rfl (bl rfl) ?_
              refine TrL.v (v_move rfl rfl) rfl rfl (bl rfl) ?_
              rcases ifc hj6 with ⟨h49, hj6⟩ | ⟨h49, hj6⟩
              · refine TrL.cons_yes rfl rfl rfl h49 (OpTr.v (v_move rfl rfl) rfl (bl rfl) ?_)
                refine TrL.cons_yes rfl rfl rfl h49 (OpTr.v (v_move rfl rfl) rfl (bl rfl) ?_)
                refine TrL.cons_yes rfl rfl rfl h49 (OpTr.v (v_arith rfl rfl rfl ar_eql) rfl (bl rfl) ?_)
                refine TrL.v (v_pick_t rfl rfl h49 rfl) rfl rfl (bl rfl) ?_
                refine TrL.v (v_assign rfl rfl) rfl rfl (bl rfl) ?_
                refine TrL.nil (qcut_hit (decide (r23.2.2.2 = r24.2.2.2)) (()) (Option.some.inj hj6).symm (Imp.re _ [0, 1, 2, 3, 4, 5] [0, 1, 2, 3, 4, 5] (sc rfl (sc rfl (sc rfl (sc rfl (sc rfl (sc rfl (sc rfl (sc rfl (sc rfl (sc rfl (sc rfl (sc rfl (sc rfl sn))))))))))))) (by decide) rfl rfl rfl))
              · refine TrL.cons_no rfl rfl rfl (gn_t (bf_b h49)) rfl (bl rfl) ?_
                refine TrL.cons_no rfl rfl rfl (gn_t (bf_b h49)) rfl (bl rfl) ?_
                refine TrL.cons_no rfl rfl rfl (gn_t (bf_b h49)) rfl (bl rfl) ?_
                refine TrL.v (v_pick_f rfl rfl (bf_b h49) rfl) rfl rfl (bl rfl) ?_
                refine TrL.v (v_assign rfl rfl) rfl rfl (bl rfl) ?_
                refine TrL.nil (qcut_hit false (()) (Option.some.inj hj6).symm (Imp.re _ [0, 1, 2, 3, 4, 5] [0, 1, 2, 3, 4, 5] (sc rfl (sc rfl (sc rfl (sc rfl (sc rfl (sc rfl (sc rfl (sc rfl (sc rfl (sc rfl (sc rfl (sc rfl (sc rfl sn))))))))))))) (by decide) rfl rfl rfl))
            · subst hd7
              refine (qthen_n ?_)
              refine Tr.seq ?_
              refine Tr.region ?_
              refine TrL.v (v_move rfl rfl) rfl rfl (bl rfl) ?_
              refine TrL.v (v_arith rfl rfl rfl ar_eql) rfl rfl (bl rfl) ?_
              refine TrL.nil (qthen_n ?_)
              rcases ifc hy2 with ⟨h50, hy2⟩ | ⟨h50, hy2⟩
              · refine Tr.cond_t rfl (bt_dec h50) ?_
                refine Tr.seq ?_
                refine Tr.region ?_
                refine TrL.v (v_move rfl rfl) rfl rfl (bl rfl) ?_
                refine TrL.v (v_move rfl rfl) rfl rfl (bl rfl) ?_
                rcases ifc hy2 with ⟨h52, hy2⟩ | ⟨h52, hy2⟩
                · refine TrL.cons_yes rfl rfl rfl h52 (OpTr.v (v_load (k := 4) rfl rfl rfl ty31 nofun rfl rfl) rfl (bl rfl) ?_)
                  refine TrL.cons_yes rfl rfl rfl h52 (OpTr.v (v_load (k := 5) rfl rfl rfl ty28 nofun rfl rfl) rfl (bl rfl) ?_)
                  obtain ⟨r26, hr26, hy2⟩ := bnd hy2
                  refine TrL.cons_yes rfl rfl rfl h52 (op_call0' (vs := [.agg #[.int .i64 r23.1, .int .i64 r23.2.1, .slice m89.2.1 r23.2.2.1.length m89.2.2], .agg #[.int .i64 r24.1, .int .i64 r24.2.1, .slice m95.2.1 r24.2.2.1.length m95.2.2]]) (cap := []) [4, 5] rfl rfl (bl rfl) rfl rfl en73 (c_law06_same ((r23.1, r23.2.1, r23.2.2.1)) ((r24.1, r24.2.1, r24.2.2.1)) m89.2.1 m89.2.2 m95.2.1 m95.2.2 r26 hr26) rfl (fun ret M' F' hR74 => ?_))
                  obtain ⟨rfl, rfl, rfl⟩ := hR74
                  refine TrL.v (v_pick_t rfl rfl h52 rfl) rfl rfl (bl rfl) ?_
                  refine TrL.v (v_assign rfl rfl) rfl rfl (bl rfl) ?_
                  refine TrL.nil (qthen_n ?_)
                  refine Tr.seq ?_
                  refine Tr.region ?_
                  refine TrL.v (v_load (k := 4) rfl rfl rfl ty31 nofun rfl rfl) rfl rfl (bl rfl) ?_
                  refine TrL.cons rfl (op_store' (k := 2) (c' := [.int .i64 r23.1, .int .i64 r23.2.1, .slice m89.2.1 r23.2.2.1.length m89.2.2]) rfl rfl rfl rfl rfl ty31 rfl (Nat.le_of_ble_eq_true rfl) (ones (oc rfl (oc rfl (oc rfl on)))) rfl ?_)
                  refine TrL.nil (qthen_n ?_)
                  refine Tr.region ?_
                  refine TrL.v (v_load (k := 5) rfl rfl rfl ty28 nofun rfl rfl) rfl rfl (bl rfl) ?_
                  refine TrL.cons rfl (op_store' (k := 3) (c' := [.int .i64 r24.1, .int .i64 r24.2.1, .slice m95.2.1 r24.2.2.1.length m95.2.2]) rfl rfl rfl rfl rfl ty28 rfl (Nat.le_of_ble_eq_true rfl) (ones (oc rfl (oc rfl (oc rfl on)))) rfl ?_)
                  refine TrL.nil (qblock_n (qthen_n ?_))
                  refine Tr.region ?_
                  refine TrL.v (v_move rfl rfl) rfl rfl (bl rfl) ?_
                  refine TrL.v (v_arith rfl rfl rfl ar_add_i64) rfl rfl (bl rfl) ?_
                  refine TrL.v (v_assign rfl rfl) rfl rfl (bl rfl) ?_
                  have hz := Option.some.inj hy2
                  subst hz
                  refine TrL.nil (qloop_n ((m89.2.1, m89.2.2, m95.2.1, m95.2.2)) (Imp.re _ [0, 1, 2, 3] [0, 1, 4, 5] (sc rfl (sc rfl (sc rfl (sc rfl (sc rfl (sc rfl (sc rfl (sc rfl sn)))))))) (by decide) rfl rfl rfl))
                · refine TrL.cons_no rfl rfl rfl (gn_t (bf_b h52)) rfl (bl rfl) ?_
                  refine TrL.cons_no rfl rfl rfl (gn_t (bf_b h52)) rfl (bl rfl) ?_
                  refine TrL.cons_no rfl rfl rfl (gn_t (bf_b h52)) rfl (bl rfl) ?_
                  refine TrL.v (v_pick_f rfl rfl (bf_b h52) rfl) rfl rfl (bl rfl) ?_
                  refine TrL.v (v_assign rfl rfl) rfl rfl (bl rfl) ?_
                  refine TrL.nil (qthen_n ?_)
                  refine Tr.seq ?_
                  refine Tr.region ?_
                  refine TrL.v (v_load (k := 4) rfl rfl rfl ty31 nofun rfl rfl) rfl rfl (bl rfl) ?_
                  refine TrL.cons rfl (op_store' (k := 2) (c' := [.int .i64 r23.1, .int .i64 r23.2.1, .slice m89.2.1 r23.2.2.1.length m89.2.2]) rfl rfl rfl rfl rfl ty31 rfl (Nat.le_of_ble_eq_true rfl) (ones (oc rfl (oc rfl (oc rfl on)))) rfl ?_)
                  refine TrL.nil (qthen_n ?_)
                  refine Tr.region ?_
                  refine TrL.v (v_load (k := 5) rfl rfl rfl ty28 nofun rfl rfl) rfl rfl (bl rfl) ?_
                  refine TrL.cons rfl (op_store' (k := 3) (c' := [.int .i64 r24.1, .int .i64 r24.2.1, .slice m95.2.1 r24.2.2.1.length m95.2.2]) rfl rfl rfl rfl rfl ty28 rfl (Nat.le_of_ble_eq_true rfl) (ones (oc rfl (oc rfl (oc rfl on)))) rfl ?_)
                  refine TrL.nil (qblock_n (qthen_n ?_))
                  refine Tr.region ?_
                  refine TrL.v (v_move rfl rfl) rfl rfl (bl rfl) ?_
                  refine TrL.v (v_arith rfl rfl rfl ar_add_i64) rfl rfl (bl rfl) ?_
                  refine TrL.v (v_assign rfl rfl) rfl rfl (bl rfl) ?_
                  have hz := Option.some.inj hy2
                  subst hz
                  refine TrL.nil (qloop_n ((m89.2.1, m89.2.2, m95.2.1, m95.2.2)) (Imp.re _ [0, 1, 2, 3] [0, 1, 4, 5] (sc rfl (sc rfl (sc rfl (sc rfl (sc rfl (sc rfl (sc rfl (sc rfl sn)))))))) (by decide) rfl rfl rfl))
              · refine Tr.cond_f rfl (bf_dec h50) ?_
                refine Tr.skip (qblock_n (qthen_n ?_))
                refine Tr.region ?_
                refine TrL.v (v_move rfl rfl) rfl rfl (bl rfl) ?_
                refine TrL.v (v_arith rfl rfl rfl ar_add_i64) rfl rfl (bl rfl) ?_
                refine TrL.v (v_assign rfl rfl) rfl rfl (bl rfl) ?_
                have hz := Option.some.inj hy2
                subst hz
                refine TrL.nil (qloop_n ((m68.1, m68.2.1, m68.2.2.1, m68.2.2.2)) (Imp.re _ [0, 1, 2, 3] [0, 1, 2, 3] (sc rfl (sc rfl (sc rfl (sc rfl (sc rfl (sc rfl (sc rfl (sc rfl sn)))))))) (by decide) rfl rfl rfl))
      · refine Tr.cond_f rfl (bf_dec h46) ?_
        have hz := Option.some.inj hy2
        subst hz
        refine Tr.exit (qthen_x (qloop_x (qblock_hit (qcut_hit ((s5.1, s5.2.2.2.1, s5.2.2.2.2.1, s5.2.2.2.2.2.1, s5.2.2.2.2.2.2.1, s5.2.2.2.2.2.2.2.1, s5.2.2.2.2.2.2.2.2)) ((m68.1, m68.2.1, m68.2.2.1, m68.2.2.2)) (hx4 _ rfl).symm (Imp.re _ [0, 1, 2, 3] [1, 2, 3] (sc rfl (sc rfl (sc rfl (sc rfl (sc rfl sn))))) (by decide) rfl rfl rfl)))))
    · refine TrL.cons_no rfl rfl rfl (gn_t (bf_dec h45)) rfl (bl rfl) ?_
      refine TrL.cons_no rfl rfl rfl (gn_t (bf_dec h45)) rfl (bl rfl) ?_
      refine TrL.v (v_pick_f rfl rfl (bf_dec h45) rfl) rfl rfl (bl rfl) ?_
      refine TrL.nil (qthen_n ?_)
      refine Tr.cond_f rfl rfl ?_
      have hz := Option.some.inj hy2
      subst hz
      refine Tr.exit (qthen_x (qloop_x (qblock_hit (qcut_hit ((s5.1, s5.2.2.2.1, s5.2.2.2.2.1, s5.2.2.2.2.2.1, s5.2.2.2.2.2.2.1, s5.2.2.2.2.2.2.2.1, s5.2.2.2.2.2.2.2.2)) ((m68.1, m68.2.1, m68.2.2.1, m68.2.2.2)) (hx4 _ rfl).symm (Imp.re _ [0, 1, 2, 3] [1, 2, 3] (sc rfl (sc rfl (sc rfl (sc rfl (sc rfl sn))))) (by decide) rfl rfl rfl)))))
  · subst hd8
    refine (qthen_n ?_)
    refine Tr.seq ?_
    refine Tr.regionD drawn (fun hok => ?_)
    refine TrAny.prom (i := 0) (d := 88) hok (OpVal.plain rfl rfl (v_load (k := 2) rfl rfl rfl ty31 nofun rfl rfl)) (by kernel_rfl) rfl (bl rfl) ?_
    clear hok
    intro hok
    refine TrAny.prom (i := 1) (d := 89) hok (OpVal.plain rfl rfl (v_load (k := 3) rfl rfl rfl ty28 nofun rfl rfl)) (by kernel_rfl) rfl (bl rfl) ?_
    clear hok
    intro hok
    refine TrAny.prom (i := 2) (d := 90) hok (OpVal.plain rfl rfl (v_move rfl rfl)) (by kernel_rfl) rfl (bl rfl) ?_
    clear hok
    intro hok
    refine TrAny.prom (i := 5) (d := 6) hok (OpVal.plain rfl rfl (v_assign rfl rfl)) (by kernel_rfl) rfl (bl rfl) ?_
    clear hok
    intro hok
    refine TrAny.next (j := 3) (by kernel_rfl) hok rfl (by kernel_rfl) (op_store' (k := 0) (c' := [.int .i64 x2.2.1, .int .i64 x2.2.2.1, .slice m85.1 x2.2.2.2.1.length m85.2.1]) rfl rfl rfl rfl rfl ty31 rfl (Nat.le_of_ble_eq_true rfl) (ones (oc rfl (oc rfl (oc rfl on)))) rfl ?_)
    refine nxs hok (kp_all (ac (.inl (by kernel_rfl)) (ac (.inr (OpVal.plain rfl rfl (v_load (k := 3) rfl rfl rfl ty28 nofun rfl rfl))) (ac (.inr (OpVal.plain rfl rfl (v_move rfl rfl))) (ac (.inr (OpVal.plain rfl rfl (v_assign rfl rfl))) an))))) rfl ?_
    clear hok
    intro hok
    refine TrAny.next (j := 4) (by kernel_rfl) hok rfl (by kernel_rfl) (op_store' (k := 1) (c' := [.int .i64 x2.2.2.2.2.1, .int .i64 x2.2.2.2.2.2.1, .slice m85.2.2.1 x2.2.2.2.2.2.2.length m85.2.2.2]) rfl rfl rfl rfl rfl ty28 rfl (Nat.le_of_ble_eq_true rfl) (ones (oc rfl (oc rfl (oc rfl on)))) rfl ?_)
    refine nxs hok (kp_all (ac (.inl (by kernel_rfl)) (ac (.inl (by kernel_rfl)) (ac (.inr (OpVal.plain rfl rfl (v_move rfl rfl))) (ac (.inr (OpVal.plain rfl rfl (v_assign rfl rfl))) an))))) rfl ?_
    clear hok
    intro hok
    refine TrAny.done (by kernel_rfl) (by kernel_rfl) hok (by kernel_rfl) (qthen_n ?_)
    have hz := Option.some.inj H
    subst hz
    refine Tr.ret (ret_r ⟨[(4, .pointer (some ⟨b35, 0, none⟩)), (5, .pointer (some ⟨b36, 0, none⟩)), (6, .bool x2.1)], [cells b35 [.int .i64 x2.2.1, .int .i64 x2.2.2.1, .slice m85.1 x2.2.2.2.1.length m85.2.1] 31, cells b36 [.int .i64 x2.2.2.2.2.1, .int .i64 x2.2.2.2.2.2.1, .slice m85.2.2.1 x2.2.2.2.2.2.2.length m85.2.2.2] 28], [slF (rSl rp_u64_u64) m85.1 m85.2.1 x2.2.2.2.1, slF (rSl rp_u64_u64) m85.2.2.1 m85.2.2.2 x2.2.2.2.2.2.2], []⟩ [.agg #[.int .i64 x2.2.1, .int .i64 x2.2.2.1, .slice m85.1 x2.2.2.2.1.length m85.2.1], .agg #[.int .i64 x2.2.2.2.2.1, .int .i64 x2.2.2.2.2.2.1, .slice m85.2.2.1 x2.2.2.2.2.2.2.length m85.2.2.2], .bool x2.1] [] [cells b35 [.int .i64 x2.2.1, .int .i64 x2.2.2.1, .slice m85.1 x2.2.2.2.1.length m85.2.1] 31, cells b36 [.int .i64 x2.2.2.2.2.1, .int .i64 x2.2.2.2.2.2.1, .slice m85.2.2.1 x2.2.2.2.2.2.2.length m85.2.2.2] 28] (Imp.re _ [0, 1] [1, 2] (sc rfl (sc rfl (sc rfl sn))) (by decide) rfl rfl rfl) rfl rfl ⟨((m85.1, m85.2.1, m85.2.2.1, m85.2.2.2)), rfl, rfl, rfl⟩ (.cons (resv_cell (k := 0) rfl rfl ty31 nofun rfl rfl) (.cons (resv_cell (k := 1) rfl rfl ty28 nofun rfl rfl) (.cons (resv_tmp rfl) .nil))))

theorem c_law06_made (p1 : Int × Int × List (List (Int × Int))) (A1 : Option Addr) (c1 : Nat) (r : Unit) (H : law06_made p1 = some r) :
    Ctr Try.prog 78 [.agg #[.int .i64 p1.1, .int .i64 p1.2.1, .slice A1 p1.2.2.length c1]] [] [slF (rSl rp_u64_u64) A1 c1 p1.2.2] (fun ret M' F' => ret = .agg #[.int .i64 p1.1, .int .i64 p1.2.1, .slice A1 p1.2.2.length c1] ∧ M' = [] ∧ F' = [slF (rSl rp_u64_u64) A1 c1 p1.2.2]) := by
  unfold law06_made at H
  refine ctr_ofI (N := 10) Try.func78 rfl Try.ntmps78 rfl (Nat.le_of_ble_eq_true rfl) (fun γ0 w0 => ?_)
  refine Tr.seq ?_
  refine Tr.region ?_
  refine TrL.cons rfl (op_box' rfl (bl rfl) rfl rfl rfl (fun b3 => ?_))
  refine TrL.cons rfl (op_alloc' rfl (bl rfl) rfl ze31 (fun b4 => ?_))
  refine TrL.nil (qthen_n ?_)
  refine Tr.seq ?_
  refine Tr.region ?_
  refine TrL.v (v_fieldAddr' rfl fo28_0 rfl rfl) rfl rfl (bl rfl) ?_
  refine TrL.v (v_load (k := 1) rfl rfl rfl ty3 (fun _ => rfl) rfl rfl) rfl rfl (bl rfl) ?_
  refine TrL.v (v_fieldAddr' rfl fo28_1 rfl rfl) rfl rfl (bl rfl) ?_
  refine TrL.v (v_load (k := 1) rfl rfl rfl ty3 (fun _ => rfl) rfl rfl) rfl rfl (bl rfl) ?_
  refine TrL.v (v_fieldAddr' rfl fo28_2 rfl rfl) rfl rfl (bl rfl) ?_
  refine TrL.v (v_load (k := 1) rfl rfl rfl ty26 (fun _ => rfl) rfl rfl) rfl rfl (bl rfl) ?_
  refine TrL.v (v_build (vs := [.int .i64 p1.1, .int .i64 p1.2.1, .slice A1 p1.2.2.length c1]) (out := [.int .i64 p1.1, .int .i64 p1.2.1, .slice A1 p1.2.2.length c1]) rfl pl31 ze31 rfl rfl) rfl rfl (bl rfl) ?_
  refine TrL.cons rfl (op_store' (k := 0) (c' := [.int .i64 p1.1, .int .i64 p1.2.1, .slice A1 p1.2.2.length c1]) rfl rfl rfl rfl rfl ty31 rfl (Nat.le_of_ble_eq_true rfl) (ones (oc rfl (oc rfl (oc rfl on)))) rfl ?_)
  refine TrL.nil (qthen_n ?_)
  have hz := Option.some.inj H
  subst hz
  refine Tr.ret (ret_r ⟨[(2, .pointer (some ⟨b4, 0, none⟩))], [cells b4 [.int .i64 p1.1, .int .i64 p1.2.1, .slice A1 p1.2.2.length c1] 31], [slF (rSl rp_u64_u64) A1 c1 p1.2.2], []⟩ [.agg #[.int .i64 p1.1, .int .i64 p1.2.1, .slice A1 p1.2.2.length c1]] [] [cells b4 [.int .i64 p1.1, .int .i64 p1.2.1, .slice A1 p1.2.2.length c1] 31] (Imp.re _ [0] [0] (sc rfl sn) (by decide) rfl rfl rfl) rfl rfl ⟨rfl, rfl, rfl⟩ (.cons (resv_cell (k := 0) rfl rfl ty31 nofun rfl rfl) .nil))
end Go.Proofs.Ytbnjjpmlaknaoaa.W
