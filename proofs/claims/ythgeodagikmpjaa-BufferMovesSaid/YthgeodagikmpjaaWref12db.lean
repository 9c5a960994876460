/- The contracts of the walked functions: the printed walks. -/
import Derived.Test.YthgeodagikmpjaaKb
import Derived.Test.YthgeodagikmpjaaQb
import Derived.Test.YthgeodagikmpjaaWref12cb
namespace Go.Proofs.Ythgeodagikmpjaa.W
open Go Go.Proofs Go.Proofs.Ythgeodagikmpjaa.L Go.Proofs.Ythgeodagikmpjaa.Pu
set_option linter.unusedVariables false
set_option maxHeartbeats 4000000

theorem c_ref12_Made (p1 : Int) (p2 : Int) (p3 : List (Int × Int × Int)) (A1 : Option Addr) (c1 : Nat) (r : Int × Int × Int × Int × (List (Int × Int × Int)) × List (Int × Int × Int)) (H : ref12_Made p1 p2 p3 = some r) :
    Ctr Try.prog 41 [.int .u64 p1, .int .i64 p2, .slice A1 p3.length c1] [] [slF rp_u64_u64_u64 A1 c1 p3] (fun ret M' F' => ∃ m : Option Addr × Nat × Option Addr × Nat, ret = .tuple #[.agg #[.int .u64 r.1, .int .i64 r.2.1, .int .u64 r.2.2.1, .int .u64 r.2.2.2.1, .slice m.1 r.2.2.2.2.1.length m.2.1], .slice m.2.2.1 r.2.2.2.2.2.length m.2.2.2] ∧ M' = [] ∧ F' = [slF rp_u64_u64_u64 m.1 m.2.1 r.2.2.2.2.1, slF rp_u64_u64_u64 m.2.2.1 m.2.2.2 r.2.2.2.2.2]) := by
  unfold ref12_Made at H
  refine ctr_ofI (N := 50) Try.func41 rfl Try.ntmps41 rfl (Nat.le_of_ble_eq_true rfl) (fun γ0 w0 => ?_)
  refine Tr.seq ?_
  refine Tr.region ?_
  refine TrL.cons rfl (op_alloc' rfl (bl rfl) rfl ze58 (fun b18 => ?_))
  refine TrL.v (v_assign rfl rfl) rfl rfl (bl rfl) ?_
  refine TrL.nil (qthen_n ?_)
  refine Tr.seq ?_
  refine Tr.region ?_
  refine TrL.v (v_move rfl rfl) rfl rfl (bl rfl) ?_
  refine TrL.v (v_rem rfl rfl rfl (by decide)) rfl rfl (bl rfl) ?_
  refine TrL.v (v_move rfl rfl) rfl rfl (bl rfl) ?_
  refine TrL.v (v_max rfl rfl rfl) rfl rfl (bl rfl) ?_
  refine TrL.v (v_rem rfl rfl rfl (by decide)) rfl rfl (bl rfl) ?_
  refine TrL.v (v_arith rfl rfl rfl ar_add_i64) rfl rfl (bl rfl) ?_
  refine TrL.v (v_build (vs := [.int .u64 (p1.tmod 1000), .int .i64 (wi64 (1 + ((max p2 0).tmod 50)))]) (out := [.int .u64 (p1.tmod 1000), .int .i64 (wi64 (1 + ((max p2 0).tmod 50))), .int .u64 0, .int .u64 0, .slice none 0 0]) rfl pl58 ze58 rfl rfl) rfl rfl (bl rfl) ?_
  refine TrL.cons rfl (op_alloc' rfl (bl rfl) rfl ze58 (fun b19 => ?_))
  refine TrL.cons rfl (op_store' (k := 0) (c' := [.int .u64 (p1.tmod 1000), .int .i64 (wi64 (1 + ((max p2 0).tmod 50))), .int .u64 0, .int .u64 0, .slice none 0 0]) rfl rfl rfl rfl rfl ty58 rfl (Nat.le_of_ble_eq_true rfl) (ones (oc rfl (oc rfl (oc rfl (oc rfl (oc rfl on)))))) rfl ?_)
  refine TrL.nil (qthen_n ?_)
  refine Tr.seq ?_
  refine Tr.region ?_
  refine TrL.v (v_assign rfl rfl) rfl rfl (bl rfl) ?_
  refine TrL.nil (qthen_n ?_)
  refine Tr.seq ?_
  refine Tr.seq ?_
  refine Tr.region ?_
  refine TrL.v (v_assign rfl rfl) rfl rfl (bl rfl) ?_
  refine TrL.nil (qthen_n ?_)
  obtain ⟨x2, hx3, H⟩ := bnd H
  refine Tr.cutE (D := (List (Int × Int × Int)) × Int × Int × Int × Int × List (Int × Int × Int)) (M := Option Addr × Nat × Option Addr × Nat × Option Nat) .normal (fun _d => x2 = _d) (fun x2 m38 => ⟨[(6, .pointer (some ⟨b18, 0, none⟩)), (8, .pointer (some ⟨b19, 0, none⟩)), (9, .slice m38.1 x2.1.length m38.2.1)], [cells b18 [.int .u64 0, .int .i64 0, .int .u64 0, .int .u64 0, .slice none 0 0] 58, cells b19 [.int .u64 x2.2.1, .int .i64 x2.2.2.1, .int .u64 x2.2.2.2.1, .int .u64 x2.2.2.2.2.1, .slice m38.2.2.1 x2.2.2.2.2.2.length m38.2.2.2.1] 58, grow 55 3 (.slice m38.1 x2.1.length m38.2.1) x2.1.length m38.2.2.2.2], [slF rp_u64_u64_u64 m38.1 m38.2.1 x2.1, slF rp_u64_u64_u64 none 0 (([] : List (Int × Int × Int))), slF rp_u64_u64_u64 m38.2.2.1 m38.2.2.2.1 x2.2.2.2.2.2], []⟩) ?_ (fun x2 m38 hd2 => ?_)
  · refine Tr.block (Tr.loopI (ι := Option Addr × Nat × Option Addr × Nat × Option Nat) (step := ref12_Made_s0 p3) (fun s5 m30 => ⟨[(2, .slice A1 p3.length c1), (6, .pointer (some ⟨b18, 0, none⟩)), (8, .pointer (some ⟨b19, 0, none⟩)), (9, .slice m30.1 s5.1.length m30.2.1), (10, .int .i64 s5.2.1)], [cells b18 [.int .u64 0, .int .i64 0, .int .u64 0, .int .u64 0, .slice none 0 0] 58, cells b19 [.int .u64 s5.2.2.1, .int .i64 s5.2.2.2.1, .int .u64 s5.2.2.2.2.1, .int .u64 s5.2.2.2.2.2.1, .slice m30.2.2.1 s5.2.2.2.2.2.2.length m30.2.2.2.1] 58, grow 55 3 (.slice m30.1 s5.1.length m30.2.1) s5.1.length m30.2.2.2.2], [slF rp_u64_u64_u64 A1 c1 p3, slF rp_u64_u64_u64 m30.1 m30.2.1 s5.1, slF rp_u64_u64_u64 none 0 (([] : List (Int × Int × Int))), slF rp_u64_u64_u64 m30.2.2.1 m30.2.2.2.1 s5.2.2.2.2.2.2], []⟩) ((none, 0, none, 0, none)) hx3 (Imp.full' (E := 55) (sz := 3) (A := none) (n := 0) (Imp.addF' _ (nilF rp_u64_u64_u64) (Imp.re _ [2, 1, 0] [0, 1, 1, 1] (sc rfl (sc rfl (sc rfl (sc rfl (sc rfl sn))))) (by decide) rfl rfl rfl))) (fun s5 m30 y2 hy2 hx4 => ?_))
    unfold ref12_Made_s0 at hy2
    refine Tr.seq ?_
    refine Tr.seq ?_
    refine Tr.region ?_
    refine TrL.v (v_move rfl rfl) rfl rfl (bl rfl) ?_
    refine TrL.v (v_move rfl rfl) rfl rfl (bl rfl) ?_
    refine TrL.v (v_len rfl sl57 rfl) rfl rfl (bl rfl) ?_
    refine TrL.v (v_arith rfl rfl rfl ar_lss) rfl rfl (bl rfl) ?_
    refine TrL.v (v_move rfl rfl) rfl rfl (bl rfl) ?_
    rcases ifc hy2 with ⟨h25, hy2⟩ | ⟨h25, hy2⟩
    · refine TrL.cons_yes rfl rfl rfl (bt_dec h25) (OpTr.v (v_move rfl rfl) rfl (bl rfl) ?_)
      refine TrL.cons_yes rfl rfl rfl (bt_dec h25) (OpTr.v (v_arith rfl rfl rfl ar_lss) rfl (bl rfl) ?_)
      refine TrL.v (v_pick_t rfl rfl (bt_dec h25) rfl) rfl rfl (bl rfl) ?_
      refine TrL.nil (qthen_n ?_)
      rcases ifc hy2 with ⟨h26, hy2⟩ | ⟨h26, hy2⟩
      · refine Tr.cond_t rfl (bt_dec h26) ?_
        refine Tr.skip (qthen_n ?_)
        refine Tr.seq ?_
        refine Tr.block ?_
        refine Tr.seq ?_
        refine Tr.regionD drawn (fun hok => ?_)
        obtain ⟨z12, hz12, hy2⟩ := bnd hy2
        obtain ⟨r6, hr6, hy2⟩ := bnd hy2
        refine TrAny.cut (ι := Nat × Option Addr × Nat × Option Addr × Nat) (fun m42 => ⟨[(2, .slice A1 p3.length c1), (6, .pointer (some ⟨b18, 0, none⟩)), (8, .pointer (some ⟨b19, 0, none⟩)), (9, .slice m30.1 s5.1.length m30.2.1), (10, .int .i64 s5.2.1), (11, .pointer (some ⟨m42.1, 0, none⟩)), (12, .slice m42.2.1 r6.2.2.2.2.2.1.length m42.2.2.1), (13, .int .i64 r6.2.2.2.2.2.2), (26, .int .i64 s5.2.1), (27, .bool (decide (s5.2.1 < 40)))], [cells b18 [.int .u64 0, .int .i64 0, .int .u64 0, .int .u64 0, .slice none 0 0] 58, cells b19 [.int .u64 s5.2.2.1, .int .i64 s5.2.2.2.1, .int .u64 s5.2.2.2.2.1, .int .u64 s5.2.2.2.2.2.1, .slice m30.2.2.1 s5.2.2.2.2.2.2.length m30.2.2.2.1] 58, cells m42.1 [.int .u64 r6.1, .int .i64 r6.2.1, .int .u64 r6.2.2.1, .int .u64 r6.2.2.2.1, .slice m42.2.2.2.1 r6.2.2.2.2.1.length m42.2.2.2.2] 58, grow 55 3 (.slice m30.1 s5.1.length m30.2.1) s5.1.length m30.2.2.2.2], [slF rp_u64_u64_u64 A1 c1 p3, slF rp_u64_u64_u64 m30.1 m30.2.1 s5.1, slF rp_u64_u64_u64 m42.2.1 m42.2.2.1 r6.2.2.2.2.2.1, slF rp_u64_u64_u64 none 0 (([] : List (Int × Int × Int))), slF rp_u64_u64_u64 m30.2.2.1 m30.2.2.2.1 s5.2.2.2.2.2.2, slF rp_u64_u64_u64 m42.2.2.2.1 m42.2.2.2.2 r6.2.2.2.2.1], []⟩) ?_ (fun m42 => ?_)
        · refine TrAny.prom (i := 0) (d := 32) hok (OpVal.plain rfl rfl (v_load (k := 1) rfl rfl rfl ty58 nofun rfl rfl)) (by kernel_rfl) rfl (bl rfl) ?_
          clear hok
          intro hok
          refine TrAny.prom (i := 1) (d := 33) hok (OpVal.plain rfl rfl (v_move rfl rfl)) (by kernel_rfl) rfl (bl rfl) ?_
          clear hok
          intro hok
          refine TrAny.prom (i := 2) (d := 34) hok (OpVal.plain rfl rfl (v_move rfl rfl)) (by kernel_rfl) rfl (bl rfl) ?_
          clear hok
          intro hok
          refine TrAny.prom (i := 3) (d := 35) hok (OpVal.plain rfl rfl (v_indexAddr (k := 0) rfl sl57 ty81 rfl rfl rfl rfl hz12)) (by kernel_rfl) rfl (bl rfl) ?_
          clear hok
          intro hok
          refine TrAny.prom (i := 4) (d := 36) hok (OpVal.plain rfl rfl (v_fieldAddr rfl fo81_0 rfl)) (by kernel_rfl) rfl (bl rfl) ?_
          clear hok
          intro hok
          refine TrAny.prom (i := 5) (d := 37) hok (OpVal.plain rfl rfl (v_loadg (A := A1) (i := s5.2.1) (j := 0) (k := 0) rfl ty55 nofun rfl rfl hz12 rfl rfl)) (by kernel_rfl) rfl (bl rfl) ?_
          clear hok
          intro hok
          refine TrAny.fork [6, 11] (by kernel_rfl) hok ⟨6, by decide, bl rfl⟩ (by kernel_rfl) (.cons ?_ (.cons ?_ .nil))
          · refine step_n rfl (by kernel_rfl) rfl (op_call0' (vs := [.agg #[.int .u64 s5.2.2.1, .int .i64 s5.2.2.2.1, .int .u64 s5.2.2.2.2.1, .int .u64 s5.2.2.2.2.2.1, .slice m30.2.2.1 s5.2.2.2.2.2.2.length m30.2.2.2.1], .agg #[.int .u64 z12.1, .int .u64 z12.2.1, .int .u64 z12.2.2]]) (cap := []) [3] rfl rfl (bl rfl) rfl rfl en70 (c_ref12_one s5.2.2 z12 m30.2.2.1 m30.2.2.2.1 r6 hr6) rfl (fun ret M' F' hR29 => ?_))
            obtain ⟨m43, rfl, rfl, rfl⟩ := hR29
            refine nxp hok (kp_imp (kp_c0 rfl)) rfl (by kernel_rfl) ?_
            clear hok
            intro hok
            refine TrAny.prom (i := 7) (d := 31) hok (OpVal.plain rfl rfl (v_move rfl rfl)) (by kernel_rfl) rfl (bl rfl) ?_
            clear hok
            intro hok
            refine TrAny.prom (i := 8) (d := 39) hok (OpVal.plain rfl rfl (v_extract rfl rfl rfl)) (by kernel_rfl) rfl (bl rfl) ?_
            clear hok
            intro hok
            refine TrAny.prom (i := 9) (d := 40) hok (OpVal.plain rfl rfl (v_extract rfl rfl rfl)) (by kernel_rfl) rfl (bl rfl) ?_
            clear hok
            intro hok
            refine TrAny.prom (i := 10) (d := 41) hok (OpVal.plain rfl rfl (v_extract rfl rfl rfl)) (by kernel_rfl) rfl (bl rfl) ?_
            clear hok
            intro hok
            refine TrAny.prom (i := 13) (d := 12) hok (OpVal.plain rfl rfl (v_assign rfl rfl)) (by kernel_rfl) rfl (bl rfl) ?_
            clear hok
            intro hok
            refine TrAny.prom (i := 14) (d := 13) hok (OpVal.plain rfl rfl (v_assign rfl rfl)) (by kernel_rfl) rfl (bl rfl) ?_
            clear hok
            intro hok
            refine TrAny.next (j := 11) (by kernel_rfl) hok rfl (by kernel_rfl) (op_alloc' rfl (bl rfl) rfl ze58 (fun b33 => ?_))
            refine nxp hok (kp_imp (kp_cm rfl)) rfl (by kernel_rfl) ?_
            clear hok
            intro hok
            refine TrAny.next (j := 12) (by kernel_rfl) hok rfl (by kernel_rfl) (op_store' (k := 0) (c' := [.int .u64 r6.1, .int .i64 r6.2.1, .int .u64 r6.2.2.1, .int .u64 r6.2.2.2.1, .slice m43.1 r6.2.2.2.2.1.length m43.2.1]) rfl rfl rfl rfl rfl ty58 rfl (Nat.le_of_ble_eq_true rfl) (ones (oc rfl (oc rfl (oc rfl (oc rfl (oc rfl on)))))) rfl ?_)
            refine nxs hok (kp_all (ac (.inl (by kernel_rfl)) (ac (.inl (by kernel_rfl)) (ac (.inl (by kernel_rfl)) (ac (.inl (by kernel_rfl)) (ac (.inl (by kernel_rfl)) (ac (.inl (by kernel_rfl)) (ac (.inl (by kernel_rfl)) (ac (.inl (by kernel_rfl)) (ac (.inr (OpVal.plain rfl rfl (v_extract rfl rfl rfl))) (ac (.inr (OpVal.plain rfl rfl (v_extract rfl rfl rfl))) (ac (.inr (OpVal.plain rfl rfl (v_assign rfl rfl))) (ac (.inr (OpVal.plain rfl rfl (v_assign rfl rfl))) an))))))))))))) rfl ?_
            clear hok
            intro hok
            refine TrAny.done (by kernel_rfl) (by kernel_rfl) hok (by kernel_rfl) (⟨(b33, m43.2.2.1, m43.2.2.2, m43.1, m43.2.1), Imp.re _ [1, 2, 0, 3] [0, 1, 5, 2, 3, 4] (sc rfl (sc rfl (sc rfl (sc rfl (sc rfl (sc rfl (sc rfl (sc rfl (sc rfl (sc rfl sn)))))))))) (by decide) rfl rfl rfl⟩)
          · refine step_n rfl (by kernel_rfl) rfl (op_alloc' rfl (bl rfl) rfl ze58 (fun b34 => ?_))
            refine nxp hok (kp_imp (kp_cm rfl)) rfl (by kernel_rfl) ?_
            clear hok
            intro hok
            refine TrAny.next (j := 6) (by kernel_rfl) hok rfl (by kernel_rfl) (op_call0' (vs := [.agg #[.int .u64 s5.2.2.1, .int .i64 s5.2.2.2.1, .int .u64 s5.2.2.2.2.1, .int .u64 s5.2.2.2.2.2.1, .slice m30.2.2.1 s5.2.2.2.2.2.2.length m30.2.2.2.1], .agg #[.int .u64 z12.1, .int .u64 z12.2.1, .int .u64 z12.2.2]]) (cap := []) [3] rfl rfl (bl rfl) rfl rfl en70 (c_ref12_one s5.2.2 z12 m30.2.2.1 m30.2.2.2.1 r6 hr6) rfl (fun ret M' F' hR30 => ?_))
            obtain ⟨m44, rfl, rfl, rfl⟩ := hR30
            refine nxp hok (kp_imp (kp_c0 rfl)) rfl (by kernel_rfl) ?_
            clear hok
            intro hok
            refine TrAny.prom (i := 7) (d := 31) hok (OpVal.plain rfl rfl (v_move rfl rfl)) (by kernel_rfl) rfl (bl rfl) ?_
            clear hok
            intro hok
            refine TrAny.prom (i := 8) (d := 39) hok (OpVal.plain rfl rfl (v_extract rfl rfl rfl)) (by kernel_rfl) rfl (bl rfl) ?_
            clear hok
            intro hok
            refine TrAny.prom (i := 9) (d := 40) hok (OpVal.plain rfl rfl (v_extract rfl rfl rfl)) (by kernel_rfl) rfl (bl rfl) ?_
            clear hok
            intro hok
            refine TrAny.prom (i := 10) (d := 41) hok (OpVal.plain rfl rfl (v_extract rfl rfl rfl)) (by kernel_rfl) rfl (bl rfl) ?_
            clear hok
            intro hok
            refine TrAny.prom (i := 13) (d := 12) hok (OpVal.plain rfl rfl (v_assign rfl rfl)) (by kernel_rfl) rfl (bl rfl) ?_
            clear hok
            intro hok
            refine TrAny.prom (i := 14) (d := 13) hok (OpVal.plain rfl rfl (v_assign rfl rfl)) (by kernel_rfl) rfl (bl rfl) ?_
            clear hok
            intro hok
            refine TrAny.next (j := 12) (by kernel_rfl) hok rfl (by kernel_rfl) (op_store' (k := 0) (c' := [.int .u64 r6.1, .int .i64 r6.2.1, .int .u64 r6.2.2.1, .int .u64 r6.2.2.2.1, .slice m44.1 r6.2.2.2.2.1.length m44.2.1]) rfl rfl rfl rfl rfl ty58 rfl (Nat.le_of_ble_eq_true rfl) (ones (oc rfl (oc rfl (oc rfl (oc rfl (oc rfl on)))))) rfl ?_)
            refine nxs hok (kp_all (ac (.inl (by kernel_rfl)) (ac (.inl (by kernel_rfl)) (ac (.inl (by kernel_rfl)) (ac (.inl (by kernel_rfl)) (ac (.inl (by kernel_rfl)) (ac (.inl (by kernel_rfl)) (ac (.inl (by kernel_rfl)) (ac (.inl (by kernel_rfl)) (ac (.inr (OpVal.plain rfl rfl (v_extract rfl rfl rfl))) (ac (.inr (OpVal.plain rfl rfl (v_extract rfl rfl rfl))) (ac (.inr (OpVal.plain rfl rfl (v_assign rfl rfl))) (ac (.inr (OpVal.plain rfl rfl (v_assign rfl rfl))) an))))))))))))) rfl ?_
            clear hok
            intro hok
            refine TrAny.done (by kernel_rfl) (by kernel_rfl) hok (by kernel_rfl) (⟨(b34, m44.2.2.1, m44.2.2.2, m44.1, m44.2.1), Imp.re _ [1, 2, 0, 3] [0, 1, 5, 2, 3, 4] (sc rfl (sc rfl (sc rfl (sc rfl (sc rfl (sc rfl (sc rfl (sc rfl (sc rfl (sc rfl sn)))))))))) (by decide) rfl rfl rfl⟩)
        · refine (qthen_n ?_)
          refine Tr.seq ?_
          refine Tr.region ?_
          refine TrL.v (v_move rfl rfl) rfl rfl (bl rfl) ?_
          refine TrL.v (v_arith rfl rfl rfl ar_eql) rfl rfl (bl rfl) ?_
          refine TrL.nil (qthen_n ?_)
          rcases ifc hy2 with ⟨h27, hy2⟩ | ⟨h27, hy2⟩
          · refine Tr.cond_t rfl (bt_dec h27) ?_
            refine Tr.seq ?_
            refine Tr.region ?_
            refine TrL.v (v_load (k := 2) rfl rfl rfl ty58 nofun rfl rfl) rfl rfl (bl rfl) ?_
            refine TrL.cons rfl (op_store' (k := 1) (c' := [.int .u64 r6.1, .int .i64 r6.2.1, .int .u64 r6.2.2.1, .int .u64 r6.2.2.2.1, .slice m42.2.2.2.1 r6.2.2.2.2.1.length m42.2.2.2.2]) rfl rfl rfl rfl rfl ty58 rfl (Nat.le_of_ble_eq_true rfl) (ones (oc rfl (oc rfl (oc rfl (oc rfl (oc rfl on)))))) rfl ?_)
            refine TrL.nil (qthen_n ?_)
            refine Tr.region ?_
            refine TrL.v (v_move rfl rfl) rfl rfl (bl rfl) ?_
            refine TrL.v (v_move rfl rfl) rfl rfl (bl rfl) ?_
            obtain ⟨h28, hy2⟩ := rom hy2
            refine TrL.cons rfl (op_append' (rp := rp_u64_u64_u64) (xs := s5.1) (ys := r6.2.2.2.2.2.1) (k := 3) (kx := 1) (ky := 2) rfl (bl rfl) rfl sl46 ty55 ze55 rfl by55 rfl rfl rfl rfl rfl rfl rfl h28.1 h28.2 (fun A7 c7 o6 => ?_))
            refine TrL.v (v_assign rfl rfl) rfl rfl (bl rfl) ?_
            refine TrL.nil (qblock_n (qthen_n ?_))
            refine Tr.region ?_
            refine TrL.v (v_move rfl rfl) rfl rfl (bl rfl) ?_
            refine TrL.v (v_arith rfl rfl rfl ar_add_i64) rfl rfl (bl rfl) ?_
            refine TrL.v (v_assign rfl rfl) rfl rfl (bl rfl) ?_
            have hz := Option.some.inj hy2
            subst hz
            refine TrL.nil (qloop_n ((A7, c7, m42.2.2.2.1, m42.2.2.2.2, o6)) (Imp.re _ [0, 1, 3] [0, 6, 3, 5] (sc rfl (sc rfl (sc rfl (sc rfl (sc rfl sn))))) (by decide) rfl rfl rfl))
          · refine Tr.cond_f rfl (bf_dec h27) ?_
            refine Tr.skip (qblock_n (qthen_n ?_))
            refine Tr.region ?_
            refine TrL.v (v_move rfl rfl) rfl rfl (bl rfl) ?_
            refine TrL.v (v_arith rfl rfl rfl ar_add_i64) rfl rfl (bl rfl) ?_
            refine TrL.v (v_assign rfl rfl) rfl rfl (bl rfl) ?_
            have hz := Option.some.inj hy2
            subst hz
            refine TrL.nil (qloop_n ((m30.1, m30.2.1, m30.2.2.1, m30.2.2.2.1, m30.2.2.2.2)) (Imp.re _ [0, 1, 3] [0, 1, 3, 4] (sc rfl (sc rfl (sc rfl (sc rfl (sc rfl sn))))) (by decide) rfl rfl rfl))
      · refine Tr.cond_f rfl (bf_dec h26) ?_
        have hz := Option.some.inj hy2
        subst hz
        refine Tr.exit (qthen_x (qloop_x (qblock_hit (qcut_hit ((s5.1, s5.2.2.1, s5.2.2.2.1, s5.2.2.2.2.1, s5.2.2.2.2.2.1, s5.2.2.2.2.2.2)) ((m30.1, m30.2.1, m30.2.2.1, m30.2.2.2.1, m30.2.2.2.2)) (hx4 _ rfl).symm (Imp.re _ [0, 1, 2] [1, 2, 3] (sc rfl (sc rfl (sc rfl sn))) (by decide) rfl rfl rfl)))))
    · refine TrL.cons_no rfl rfl rfl (gn_t (bf_dec h25)) rfl (bl rfl) ?_
      refine TrL.cons_no rfl rfl rfl (gn_t (bf_dec h25)) rfl (bl rfl) ?_
      refine TrL.v (v_pick_f rfl rfl (bf_dec h25) rfl) rfl rfl (bl rfl) ?_
      refine TrL.nil (qthen_n ?_)
      refine Tr.cond_f rfl rfl ?_
      have hz := Option.some.inj hy2
      subst hz
      refine Tr.exit (qthen_x (qloop_x (qblock_hit (qcut_hit ((s5.1, s5.2.2.1, s5.2.2.2.1, s5.2.2.2.2.1, s5.2.2.2.2.2.1, s5.2.2.2.2.2.2)) ((m30.1, m30.2.1, m30.2.2.1, m30.2.2.2.1, m30.2.2.2.2)) (hx4 _ rfl).symm (Imp.re _ [0, 1, 2] [1, 2, 3] (sc rfl (sc rfl (sc rfl sn))) (by decide) rfl rfl rfl)))))
  · subst hd2
    refine (qthen_n ?_)
    refine Tr.seq ?_
    refine Tr.region ?_
    refine TrL.v (v_load (k := 1) rfl rfl rfl ty58 nofun rfl rfl) rfl rfl (bl rfl) ?_
    refine TrL.v (v_move rfl rfl) rfl rfl (bl rfl) ?_
    refine TrL.cons rfl (op_store' (k := 0) (c' := [.int .u64 x2.2.1, .int .i64 x2.2.2.1, .int .u64 x2.2.2.2.1, .int .u64 x2.2.2.2.2.1, .slice m38.2.2.1 x2.2.2.2.2.2.length m38.2.2.2.1]) rfl rfl rfl rfl rfl ty58 rfl (Nat.le_of_ble_eq_true rfl) (ones (oc rfl (oc rfl (oc rfl (oc rfl (oc rfl on)))))) rfl ?_)
    refine TrL.v (v_assign rfl rfl) rfl rfl (bl rfl) ?_
    refine TrL.nil (qthen_n ?_)
    have hz := Option.some.inj H
    subst hz
    refine Tr.ret (ret_r ⟨[(6, .pointer (some ⟨b18, 0, none⟩)), (7, .slice m38.1 x2.1.length m38.2.1)], [cells b18 [.int .u64 x2.2.1, .int .i64 x2.2.2.1, .int .u64 x2.2.2.2.1, .int .u64 x2.2.2.2.2.1, .slice m38.2.2.1 x2.2.2.2.2.2.length m38.2.2.2.1] 58], [slF rp_u64_u64_u64 m38.2.2.1 m38.2.2.2.1 x2.2.2.2.2.2, slF rp_u64_u64_u64 m38.1 m38.2.1 x2.1], []⟩ [.agg #[.int .u64 x2.2.1, .int .i64 x2.2.2.1, .int .u64 x2.2.2.2.1, .int .u64 x2.2.2.2.2.1, .slice m38.2.2.1 x2.2.2.2.2.2.length m38.2.2.2.1], .slice m38.1 x2.1.length m38.2.1] [] [cells b18 [.int .u64 x2.2.1, .int .i64 x2.2.2.1, .int .u64 x2.2.2.2.1, .int .u64 x2.2.2.2.2.1, .slice m38.2.2.1 x2.2.2.2.2.2.length m38.2.2.2.1] 58] (Imp.re _ [0] [2, 0] (sc rfl (sc rfl sn)) (by decide) rfl rfl rfl) rfl rfl ⟨((m38.2.2.1, m38.2.2.2.1, m38.1, m38.2.1)), rfl, rfl, rfl⟩ (.cons (resv_cell (k := 0) rfl rfl ty58 nofun rfl rfl) (.cons (resv_tmp rfl) .nil)))

theorem c_ref12_Weight (p1 : Int × Int × Int × Int × List (Int × Int × Int)) (A1 : Option Addr) (c1 : Nat) (r : Int) (H : ref12_Weight p1 = some r) :
    Ctr Try.prog 55 [.agg #[.int .u64 p1.1, .int .i64 p1.2.1, .int .u64 p1.2.2.1, .int .u64 p1.2.2.2.1, .slice A1 p1.2.2.2.2.length c1]] [] [slF rp_u64_u64_u64 A1 c1 p1.2.2.2.2] (fun ret M' F' => ret = .int .u64 r ∧ M' = [] ∧ F' = []) := by
  unfold ref12_Weight at H
  refine ctr_ofI (N := 21) Try.func55 rfl Try.ntmps55 rfl (Nat.le_of_ble_eq_true rfl) (fun γ0 w0 => ?_)
  refine Tr.seq ?_
  refine Tr.region ?_
  refine TrL.cons rfl (op_box' rfl (bl rfl) rfl rfl rfl (fun b2 => ?_))
  refine TrL.v (v_assign rfl rfl) rfl rfl (bl rfl) ?_
  refine TrL.nil (qthen_n ?_)
  refine Tr.seq ?_
  refine Tr.region ?_
  refine TrL.v (v_assign rfl rfl) rfl rfl (bl rfl) ?_
  refine TrL.nil (qthen_n ?_)
  refine Tr.seq ?_
  refine Tr.seq ?_
  refine Tr.region ?_
  refine TrL.v (v_assign rfl rfl) rfl rfl (bl rfl) ?_
  refine TrL.nil (qthen_n ?_)
  obtain ⟨x2, hx3, H⟩ := bnd H
  refine Tr.cutE (D := Int) (M := Unit) .normal (fun _d => x2 = _d) (fun x2 m8 => ⟨[(3, .int .u64 x2)], [], [], []⟩) ?_ (fun x2 m8 hd2 => ?_)
  · refine Tr.block (Tr.loopI (ι := Unit) (step := ref12_Weight_s0 p1) (fun s5 m6 => ⟨[(1, .pointer (some ⟨b2, 0, none⟩)), (3, .int .u64 s5.1), (4, .int .i64 s5.2)], [cells b2 [.int .u64 p1.1, .int .i64 p1.2.1, .int .u64 p1.2.2.1, .int .u64 p1.2.2.2.1, .slice A1 p1.2.2.2.2.length c1] 58], [slF rp_u64_u64_u64 A1 c1 p1.2.2.2.2], []⟩) (()) hx3 (Imp.re _ [0] [0] (sc rfl (sc rfl (sc rfl sn))) (by decide) rfl rfl rfl) (fun s5 m6 y2 hy2 hx4 => ?_))
    unfold ref12_Weight_s0 at hy2
    refine Tr.seq ?_
    refine Tr.seq ?_
    refine Tr.region ?_
    refine TrL.v (v_move rfl rfl) rfl rfl (bl rfl) ?_
    refine TrL.v (v_fieldAddr' rfl fo58_4 rfl rfl) rfl rfl (bl rfl) ?_
    refine TrL.v (v_load (k := 0) rfl rfl rfl ty46 (fun _ => rfl) rfl rfl) rfl rfl (bl rfl) ?_
    refine TrL.v (v_len rfl sl46 rfl) rfl rfl (bl rfl) ?_
    refine TrL.v (v_arith rfl rfl rfl ar_lss) rfl rfl (bl rfl) ?_
    refine TrL.nil (qthen_n ?_)
    rcases ifc hy2 with ⟨h6, hy2⟩ | ⟨h6, hy2⟩
    · refine Tr.cond_t rfl (bt_dec h6) ?_
      refine Tr.skip (qthen_n ?_)
      refine Tr.seq ?_
      refine Tr.block ?_
      refine Tr.region ?_
      refine TrL.v (v_move rfl rfl) rfl rfl (bl rfl) ?_
      refine TrL.v (v_fieldAddr' rfl fo58_4 rfl rfl) rfl rfl (bl rfl) ?_
      refine TrL.v (v_load (k := 0) rfl rfl rfl ty46 (fun _ => rfl) rfl rfl) rfl rfl (bl rfl) ?_
      refine TrL.v (v_move rfl rfl) rfl rfl (bl rfl) ?_
      obtain ⟨z6, hz6, hy2⟩ := bnd hy2
      refine TrL.v (v_indexAddr (k := 0) rfl sl46 ty55 rfl rfl rfl rfl hz6) rfl rfl (bl rfl) ?_
      refine TrL.v (v_fieldAddr rfl fo55_2 rfl) rfl rfl (bl rfl) ?_
      refine TrL.v (v_loadg (A := A1) (i := s5.2) (j := 2) (k := 0) rfl ty22 (fun _ => rfl) rfl rfl hz6 rfl rfl) rfl rfl (bl rfl) ?_
      refine TrL.v (v_arith rfl rfl rfl ar_add_u64) rfl rfl (bl rfl) ?_
      refine TrL.v (v_assign rfl rfl) rfl rfl (bl rfl) ?_
      refine TrL.nil (qblock_n (qthen_n ?_))
      refine Tr.region ?_
      refine TrL.v (v_move rfl rfl) rfl rfl (bl rfl) ?_
      refine TrL.v (v_arith rfl rfl rfl ar_add_i64) rfl rfl (bl rfl) ?_
      refine TrL.v (v_assign rfl rfl) rfl rfl (bl rfl) ?_
      have hz := Option.some.inj hy2
      subst hz
      refine TrL.nil (qloop_n (()) (Imp.re _ [0] [0] (sc rfl (sc rfl (sc rfl sn))) (by decide) rfl rfl rfl))
    · refine Tr.cond_f rfl (bf_dec h6) ?_
      have hz := Option.some.inj hy2
      subst hz
      refine Tr.exit (qthen_x (qloop_x (qblock_hit (qcut_hit s5.1 (()) (hx4 _ rfl).symm (Imp.re _ [] [] (sc rfl sn) (by decide) rfl rfl rfl)))))
  · subst hd2
    refine (qthen_n ?_)
    refine Tr.seq ?_
    refine Tr.region ?_
    refine TrL.v (v_move rfl rfl) rfl rfl (bl rfl) ?_
    refine TrL.v (v_assign rfl rfl) rfl rfl (bl rfl) ?_
    refine TrL.nil (qthen_n ?_)
    have hz := Option.some.inj H
    subst hz
    refine Tr.ret (ret_r ⟨[(2, .int .u64 x2)], [], [], []⟩ [.int .u64 x2] [] [] (Imp.re _ [] [] (sc rfl sn) (by decide) rfl rfl rfl) rfl rfl ⟨rfl, rfl, rfl⟩ (.cons (resv_tmp rfl) .nil))
end Go.Proofs.Ythgeodagikmpjaa.W
