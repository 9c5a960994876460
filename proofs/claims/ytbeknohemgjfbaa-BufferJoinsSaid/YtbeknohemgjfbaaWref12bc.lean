/- The contracts of the walked functions: the printed walks. -/
import Derived.Test.YtbeknohemgjfbaaKc
import Derived.Test.YtbeknohemgjfbaaQc
import Derived.Test.YtbeknohemgjfbaaWref12ac
namespace Go.Proofs.Ytbeknohemgjfbaa.W
open Go Go.Proofs Go.Proofs.Ytbeknohemgjfbaa.L Go.Proofs.Ytbeknohemgjfbaa.Pu
set_option linter.unusedVariables false
set_option maxHeartbeats 4000000

theorem c_ref12_Made (p1 : Int) (p2 : Int) (p3 : List (Int × Int × Int)) (A1 : Option Addr) (c1 : Nat) (r : Int × Int × Int × Int × (List (Int × Int × Int)) × List (Int × Int × Int)) (H : ref12_Made p1 p2 p3 = some r) :
    Ctr Try.prog 38 [.int .u64 p1, .int .i64 p2, .slice A1 p3.length c1] [] [slF rp_u64_u64_u64 A1 c1 p3] (fun ret M' F' => ∃ m : Option Addr × Nat × Option Addr × Nat, ret = .tuple #[.agg #[.int .u64 r.1, .int .i64 r.2.1, .int .u64 r.2.2.1, .int .u64 r.2.2.2.1, .slice m.1 r.2.2.2.2.1.length m.2.1], .slice m.2.2.1 r.2.2.2.2.2.length m.2.2.2] ∧ M' = [] ∧ F' = [slF rp_u64_u64_u64 m.1 m.2.1 r.2.2.2.2.1, slF rp_u64_u64_u64 m.2.2.1 m.2.2.2 r.2.2.2.2.2]) := by
  unfold ref12_Made at H
  refine ctr_ofI (N := 50) Try.func38 rfl Try.ntmps38 rfl (Nat.le_of_ble_eq_true rfl) (fun γ0 w0 => ?_)
  refine Tr.seq ?_
  refine Tr.region ?_
  refine TrL.cons rfl (op_alloc' rfl (bl rfl) rfl ze73 (fun b18 => ?_))
  refine TrL.v (v_assign rfl rfl) rfl rfl (bl rfl) ?_
  refine TrL.nil (qthen_n ?_)
  refine Tr.seq ?_
  refine Tr.region ?_
  refine TrL.v (v_move rfl rfl) rfl rfl (bl rfl) ?_
  refine TrL.v (v_rem rfl rfl rfl (by decide)) rfl rfl (bl rfl) ?_
  refine TrL.v (v_move rfl rfl) rfl rfl (bl rfl) ?_
  refine TrL.v (v_max rfl rfl rfl) rfl rfl (bl rfl) ?_
  refine TrL.v (v_rem rfl rfl rfl (by decide)) rfl rfl (bl rfl) ?_
  refine TrL.v (v_arith rfl rfl rfl ar_add_i64) rfl rfl (bl rfl) ?_
  refine TrL.v (v_build (vs := [.int .u64 (p1.tmod 1000), .int .i64 (wi64 (1 + ((max p2 0).tmod 50)))]) (out := [.int .u64 (p1.tmod 1000), .int .i64 (wi64 (1 + ((max p2 0).tmod 50))), .int .u64 0, .int .u64 0, .slice none 0 0]) rfl pl73 ze73 rfl rfl) rfl rfl (bl rfl) ?_
  refine TrL.cons rfl (op_alloc' rfl (bl rfl) rfl ze73 (fun b19 => ?_))
  refine TrL.cons rfl (op_store' (k := 0) (c' := [.int .u64 (p1.tmod 1000), .int .i64 (wi64 (1 + ((max p2 0).tmod 50))), .int .u64 0, .int .u64 0, .slice none 0 0]) rfl rfl rfl rfl rfl ty73 rfl (Nat.le_of_ble_eq_true rfl) (ones (oc rfl (oc rfl (oc rfl (oc rfl (oc rfl on)))))) rfl ?_)
  refine TrL.nil (qthen_n ?_)
  refine Tr.seq ?_
  refine Tr.region ?_
  refine TrL.v (v_assign rfl rfl) rfl rfl (bl rfl) ?_
  refine TrL.nil (qthen_n ?_)
  refine Tr.seq ?_
  refine Tr.seq ?_
  refine Tr.region ?_
  refine TrL.v (v_assign rfl rfl) rfl rfl (bl rfl) ?_
  refine TrL.nil (qthen_n ?_)
  obtain ⟨x2, hx3, H⟩ := bnd H
  refine Tr.cutE (D := (List (Int × Int × Int)) × Int × Int × Int × Int × List (Int × Int × Int)) (M := Option Addr × Nat × Option Addr × Nat × Option Nat) .normal (fun _d => x2 = _d) (fun x2 m38 => ⟨[(6, .pointer (some ⟨b18, 0, none⟩)), (8, .pointer (some ⟨b19, 0, none⟩)), (9, .slice m38.1 x2.1.length m38.2.1)], [cells b18 [.int .u64 0, .int .i64 0, .int .u64 0, .int .u64 0, .slice none 0 0] 73, cells b19 [.int .u64 x2.2.1, .int .i64 x2.2.2.1, .int .u64 x2.2.2.2.1, .int .u64 x2.2.2.2.2.1, .slice m38.2.2.1 x2.2.2.2.2.2.length m38.2.2.2.1] 73, grow 85 3 (.slice m38.1 x2.1.length m38.2.1) x2.1.length m38.2.2.2.2], [slF rp_u64_u64_u64 m38.1 m38.2.1 x2.1, slF rp_u64_u64_u64 none 0 (([] : List (Int × Int × Int))), slF rp_u64_u64_u64 m38.2.2.1 m38.2.2.2.1 x2.2.2.2.2.2], []⟩) ?_ (fun x2 m38 hd2 => ?_)
  · refine Tr.block (Tr.loopI (ι := Option Addr × Nat × Option Addr × Nat × Option Nat) (step := ref12_Made_s0 p3) (fun s5 m30 => ⟨[(2, .slice A1 p3.length c1), (6, .pointer (some ⟨b18, 0, none⟩)), (8, .pointer (some ⟨b19, 0, none⟩)), (9, .slice m30.1 s5.1.length m30.2.1), (10, .int .i64 s5.2.1)], [cells b18 [.int .u64 0, .int .i64 0, .int .u64 0, .int .u64 0, .slice none 0 0] 73, cells b19 [.int .u64 s5.2.2.1, .int .i64 s5.2.2.2.1, .int .u64 s5.2.2.2.2.1, .int .u64 s5.2.2.2.2.2.1, .slice m30.2.2.1 s5.2.2.2.2.2.2.length m30.2.2.2.1] 73, grow 85 3 (.slice m30.1 s5.1.length m30.2.1) s5.1.length m30.2.2.2.2], [slF rp_u64_u64_u64 A1 c1 p3, slF rp_u64_u64_u64 m30.1 m30.2.1 s5.1, slF rp_u64_u64_u64 none 0 (([] : List (Int × Int × Int))), slF rp_u64_u64_u64 m30.2.2.1 m30.2.2.2.1 s5.2.2.2.2.2.2], []⟩) ((none, 0, none, 0, none)) hx3 (Imp.full' (E := 85) (sz := 3) (A := none) (n := 0) (Imp.addF' _ (nilF rp_u64_u64_u64) (Imp.re _ [2, 1, 0] [0, 1, 1, 1] (sc rfl (sc rfl (sc rfl (sc rfl (sc rfl sn))))) (by decide) rfl rfl rfl))) (fun s5 m30 y2 hy2 hx4 => ?_))
    unfold ref12_Made_s0 at hy2
    refine Tr.seq ?_
    refine Tr.seq ?_
    refine Tr.region ?_
    refine TrL.v (v_move rfl rfl) rfl rfl (bl rfl) ?_
    refine TrL.v (v_move rfl rfl) rfl rfl (bl rfl) ?_
    refine TrL.v (v_len rfl sl76 rfl) rfl rfl (bl rfl) ?_
    refine TrL.v (v_arith rfl rfl rfl ar_lss) rfl rfl (bl rfl) ?_
    refine TrL.v (v_move rfl rfl) rfl rfl (bl rfl) ?_
    rcases ifc hy2 with ⟨h25, hy2⟩ | ⟨h25, hy2⟩
    · refine TrL.cons_yes rfl rfl rfl (bt_dec h25) (OpTr.v (v_move rfl rfl) rfl (bl rfl) ?_)
      refine TrL.cons_yes rfl rfl rfl (bt_dec h25) (OpTr.v (v_arith rfl rfl rfl ar_lss) rfl (bl rfl) ?_)
      refine TrL.v (v_pick_t rfl rfl (bt_dec h25) rfl) rfl rfl (bl rfl) ?_
      refine TrL.nil (qthen_n ?_)
      rcases ifc hy2 with ⟨h26, hy2⟩ | ⟨h26, hy2⟩
      · refine Tr.cond_t rfl (bt_dec h26) ?_
        refine Tr.skip (qthen_n ?_)
        refine Tr.seq ?_
        refine Tr.block ?_
        refine Tr.seq ?_
        refine Tr.regionD drawn (fun hok => ?_)
        obtain ⟨z12, hz12, hy2⟩ := bnd hy2
        obtain ⟨r6, hr6, hy2⟩ := bnd hy2
        refine TrAny.cut (ι := Nat × Option Addr × Nat × Option Addr × Nat) (fun m42 => ⟨[(2, .slice A1 p3.length c1), (6, .pointer (some ⟨b18, 0, none⟩)), (8, .pointer (some ⟨b19, 0, none⟩)), (9, .slice m30.1 s5.1.length m30.2.1), (10, .int .i64 s5.2.1), (11, .pointer (some ⟨m42.1, 0, none⟩)), (12, .slice m42.2.1 r6.2.2.2.2.2.1.length m42.2.2.1), (13, .int .i64 r6.2.2.2.2.2.2), (26, .int .i64 s5.2.1), (27, .bool (decide (s5.2.1 < 40)))], [cells b18 [.int .u64 0, .int .i64 0, .int .u64 0, .int .u64 0, .slice none 0 0] 73, cells b19 [.int .u64 s5.2.2.1, .int .i64 s5.2.2.2.1, .int .u64 s5.2.2.2.2.1, .int .u64 s5.2.2.2.2.2.1, .slice m30.2.2.1 s5.2.2.2.2.2.2.length m30.2.2.2.1] 73, cells m42.1 [.int .u64 r6.1, .int .i64 r6.2.1, .int .u64 r6.2.2.1, .int .u64 r6.2.2.2.1, .slice m42.2.2.2.1 r6.2.2.2.2.1.length m42.2.2.2.2] 73, grow 85 3 (.slice m30.1 s5.1.length m30.2.1) s5.1.length m30.2.2.2.2], [slF rp_u64_u64_u64 A1 c1 p3, slF rp_u64_u64_u64 m30.1 m30.2.1 s5.1, slF rp_u64_u64_u64 m42.2.1 m42.2.2.1 r6.2.2.2.2.2.1, slF rp_u64_u64_u64 none 0 (([] : List (Int × Int × Int))), slF rp_u64_u64_u64 m30.2.2.1 m30.2.2.2.1 s5.2.2.2.2.2.2, slF rp_u64_u64_u64 m42.2.2.2.1 m42.2.2.2.2 r6.2.2.2.2.1], []⟩) ?_ (fun m42 => ?_)
        · refine TrAny.prom (i := 0) (d := 32) hok (OpVal.plain rfl rfl (v_load (k := 1) rfl rfl rfl ty73 nofun rfl rfl)) (by kernel_rfl) rfl (bl rfl) ?_
          clear hok
          intro hok
          refine TrAny.prom (i := 1) (d := 33) hok (OpVal.plain rfl rfl (v_move rfl rfl)) (by kernel_rfl) rfl (bl rfl) ?_
          clear hok
          intro hok
          refine TrAny.prom (i := 2) (d := 34) hok (OpVal.plain rfl rfl (v_move rfl rfl)) (by kernel_rfl) rfl (bl rfl) ?_
          clear hok
          intro hok
          refine TrAny.prom (i := 3) (d := 35) hok (OpVal.plain rfl rfl (v_indexAddr (k := 0) rfl sl76 ty144 rfl rfl rfl rfl hz12)) (by kernel_rfl) rfl (bl rfl) ?_
          clear hok
          intro hok
          refine TrAny.prom (i := 4) (d := 36) hok (OpVal.plain rfl rfl (v_fieldAddr rfl fo144_0 rfl)) (by kernel_rfl) rfl (bl rfl) ?_
          clear hok
          intro hok
          refine TrAny.prom (i := 5) (d := 37) hok (OpVal.plain rfl rfl (v_loadg (A := A1) (i := s5.2.1) (j := 0) (k := 0) rfl ty85 nofun rfl rfl hz12 rfl rfl)) (by kernel_rfl) rfl (bl rfl) ?_
          clear hok
          intro hok
          refine TrAny.fork [6, 11] (by kernel_rfl) hok ⟨6, by decide, bl rfl⟩ (by kernel_rfl) (.cons ?_ (.cons ?_ .nil))
          · refine step_n rfl (by kernel_rfl) rfl (op_call0' (vs := [.agg #[.int .u64 s5.2.2.1, .int .i64 s5.2.2.2.1, .int .u64 s5.2.2.2.2.1, .int .u64 s5.2.2.2.2.2.1, .slice m30.2.2.1 s5.2.2.2.2.2.2.length m30.2.2.2.1], .agg #[.int .u64 z12.1, .int .u64 z12.2.1, .int .u64 z12.2.2]]) (cap := []) [3] rfl rfl (bl rfl) rfl rfl en85 (c_ref12_one s5.2.2 z12 m30.2.2.1 m30.2.2.2.1 r6 hr6) rfl (fun ret M' F' hR29 => ?_))
            obtain ⟨m43, rfl, rfl, rfl⟩ := hR29
            refine nxp hok (kp_imp (kp_c0 rfl)) rfl (by kernel_rfl) ?_
            clear hok
            intro hok
            refine TrAny.prom (i := 7) (d := 31) hok (OpVal.plain rfl rfl (v_move rfl rfl)) (by kernel_rfl) rfl (bl rfl) ?_
            clear hok
            intro hok
            refine TrAny.prom (i := 8) (d := 39) hok (OpVal.plain rfl rfl (v_extract rfl rfl rfl)) (by kernel_rfl) rfl (bl rfl) ?_
            clear hok
            intro hok
            refine TrAny.prom (i := 9) (d := 40) hok (OpVal.plain rfl rfl (v_extract rfl rfl rfl)) (by kernel_rfl) rfl (bl rfl) ?_
            clear hok
            intro hok
            refine TrAny.prom (i := 10) (d := 41) hok (OpVal.plain rfl rfl (v_extract rfl rfl rfl)) (by kernel_rfl) rfl (bl rfl) ?_
            clear hok
            intro hok
            refine TrAny.prom (i := 13) (d := 12) hok (OpVal.plain rfl rfl (v_assign rfl rfl)) (by kernel_rfl) rfl (bl rfl) ?_
            clear hok
            intro hok
            refine TrAny.prom (i := 14) (d := 13) hok (OpVal.plain rfl rfl (v_assign rfl rfl)) (by kernel_rfl) rfl (bl rfl) ?_
            clear hok
            intro hok
            refine TrAny.next (j := 11) (by kernel_rfl) hok rfl (by kernel_rfl) (op_alloc' rfl (bl rfl) rfl ze73 (fun b33 => ?_))
            refine nxp hok (kp_imp (kp_cm rfl)) rfl (by kernel_rfl) ?_
            clear hok
            intro hok
            refine TrAny.next (j := 12) (by kernel_rfl) hok rfl (by kernel_rfl) (op_store' (k := 0) (c' := [.int .u64 r6.1, .int .i64 r6.2.1, .int .u64 r6.2.2.1, .int .u64 r6.2.2.2.1, .slice m43.1 r6.2.2.2.2.1.length m43.2.1]) rfl rfl rfl rfl rfl ty73 rfl (Nat.le_of_ble_eq_true rfl) (ones (oc rfl (oc rfl (oc rfl (oc rfl (oc rfl on)))))) rfl ?_)
            refine nxs hok (kp_allE [(0, 32, .agg #[.int .u64 s5.2.2.1, .int .i64 s5.2.2.2.1, .int .u64 s5.2.2.2.2.1, .int .u64 s5.2.2.2.2.2.1, .slice m30.2.2.1 s5.2.2.2.2.2.2.length m30.2.2.2.1]), (1, 33, .slice A1 p3.length c1), (2, 34, .int .i64 s5.2.1), (3, 35, .pointer (some ⟨ablk A1, aoff A1 + (s5.2.1).toNat * 3, none⟩)), (4, 36, .pointer (some ⟨ablk A1, aoff A1 + (s5.2.1).toNat * 3 + 0, none⟩)), (5, 37, .agg #[.int .u64 z12.1, .int .u64 z12.2.1, .int .u64 z12.2.2]), (7, 31, .tuple #[.agg #[.int .u64 r6.1, .int .i64 r6.2.1, .int .u64 r6.2.2.1, .int .u64 r6.2.2.2.1, .slice m43.1 r6.2.2.2.2.1.length m43.2.1], .slice m43.2.2.1 r6.2.2.2.2.2.1.length m43.2.2.2, .int .i64 r6.2.2.2.2.2.2]), (8, 39, .agg #[.int .u64 r6.1, .int .i64 r6.2.1, .int .u64 r6.2.2.1, .int .u64 r6.2.2.2.1, .slice m43.1 r6.2.2.2.2.1.length m43.2.1]), (9, 40, .slice m43.2.2.1 r6.2.2.2.2.2.1.length m43.2.2.2), (10, 41, .int .i64 r6.2.2.2.2.2.2), (13, 12, .slice m43.2.2.1 r6.2.2.2.2.2.1.length m43.2.2.2), (14, 13, .int .i64 r6.2.2.2.2.2.2)] (by kernel_rfl) (ac (.inl (by kernel_rfl)) (ac (.inl (by kernel_rfl)) (ac (.inl (by kernel_rfl)) (ac (.inl (by kernel_rfl)) (ac (.inl (by kernel_rfl)) (ac (.inl (by kernel_rfl)) (ac (.inl (by kernel_rfl)) (ac (.inl (by kernel_rfl)) (ac (.inr (OpVal.plain rfl rfl (v_extract rfl rfl rfl))) (ac (.inr (OpVal.plain rfl rfl (v_extract rfl rfl rfl))) (ac (.inr (OpVal.plain rfl rfl (v_assign rfl rfl))) (ac (.inr (OpVal.plain rfl rfl (v_assign rfl rfl))) an))))))))))))) rfl ?_
            clear hok
            intro hok
            refine TrAny.done (by kernel_rfl) (by kernel_rfl) hok (by kernel_rfl) (⟨(b33, m43.2.2.1, m43.2.2.2, m43.1, m43.2.1), Imp.re _ [1, 2, 0, 3] [0, 1, 5, 2, 3, 4] (sc rfl (sc rfl (sc rfl (sc rfl (sc rfl (sc rfl (sc rfl (sc rfl (sc rfl (sc rfl sn)))))))))) (by decide) rfl rfl rfl⟩)
          · refine step_n rfl (by kernel_rfl) rfl (op_alloc' rfl (bl rfl) rfl ze73 (fun b34 => ?_))
            refine nxp hok (kp_imp (kp_cm rfl)) rfl (by kernel_rfl) ?_
            clear hok
            intro hok
            refine TrAny.next (j := 6) (by kernel_rfl) hok rfl (by kernel_rfl) (op_call0' (vs := [.agg #[.int .u64 s5.2.2.1, .int .i64 s5.2.2.2.1, .int .u64 s5.2.2.2.2.1, .int .u64 s5.2.2.2.2.2.1, .slice m30.2.2.1 s5.2.2.2.2.2.2.length m30.2.2.2.1], .agg #[.int .u64 z12.1, .int .u64 z12.2.1, .int .u64 z12.2.2]]) (cap := []) [3] rfl rfl (bl rfl) rfl rfl en85 (c_ref12_one s5.2.2 z12 m30.2.2.1 m30.2.2.2.1 r6 hr6) rfl (fun ret M' F' hR30 => ?_))
            obtain ⟨m44, rfl, rfl, rfl⟩ := hR30
            refine nxp hok (kp_imp (kp_c0 rfl)) rfl (by kernel_rfl) ?_
            clear hok
            intro hok
            refine TrAny.prom (i := 7) (d := 31) hok (OpVal.plain rfl rfl (v_move rfl rfl)) (by kernel_rfl) rfl (bl rfl) ?_
            clear hok
            intro hok
            refine TrAny.prom (i := 8) (d := 39) hok (OpVal.plain rfl rfl (v_extract rfl rfl rfl)) (by kernel_rfl) rfl (bl rfl) ?_
            clear hok
            intro hok
            refine TrAny.prom (i := 9) (d := 40) hok (OpVal.plain rfl rfl (v_extract rfl rfl rfl)) (by kernel_rfl) rfl (bl rfl) ?_
            clear hok
            intro hok
            refine TrAny.prom (i := 10) (d := 41) hok (OpVal.plain rfl rfl (v_extract rfl rfl rfl)) (by kernel_rfl) rfl (bl rfl) ?_
            clear hok
            intro hok
            refine TrAny.prom (i := 13) (d := 12) hok (OpVal.plain rfl rfl (v_assign rfl rfl)) (by kernel_rfl) rfl (bl rfl) ?_
            clear hok
            intro hok
            refine TrAny.prom (i := 14) (d := 13) hok (OpVal.plain rfl rfl (v_assign rfl rfl)) (by kernel_rfl) rfl (bl rfl) ?_
            clear hok
            intro hok
            refine TrAny.next (j := 12) (by kernel_rfl) hok rfl (by kernel_rfl) (op_store' (k := 0) (c' := [.int .u64 r6.1, .int .i64 r6.2.1, .int .u64 r6.2.2.1, .int .u64 r6.2.2.2.1, .slice m44.1 r6.2.2.2.2.1.length m44.2.1]) rfl rfl rfl rfl rfl ty73 rfl (Nat.le_of_ble_eq_true rfl) (ones (oc rfl (oc rfl (oc rfl (oc rfl (oc rfl on)))))) rfl ?_)
            refine nxs hok (kp_allE [(0, 32, .agg #[.int .u64 s5.2.2.1, .int .i64 s5.2.2.2.1, .int .u64 s5.2.2.2.2.1, .int .u64 s5.2.2.2.2.2.1, .slice m30.2.2.1 s5.2.2.2.2.2.2.length m30.2.2.2.1]), (1, 33, .slice A1 p3.length c1), (2, 34, .int .i64 s5.2.1), (3, 35, .pointer (some ⟨ablk A1, aoff A1 + (s5.2.1).toNat * 3, none⟩)), (4, 36, .pointer (some ⟨ablk A1, aoff A1 + (s5.2.1).toNat * 3 + 0, none⟩)), (5, 37, .agg #[.int .u64 z12.1, .int .u64 z12.2.1, .int .u64 z12.2.2]), (7, 31, .tuple #[.agg #[.int .u64 r6.1, .int .i64 r6.2.1, .int .u64 r6.2.2.1, .int .u64 r6.2.2.2.1, .slice m44.1 r6.2.2.2.2.1.length m44.2.1], .slice m44.2.2.1 r6.2.2.2.2.2.1.length m44.2.2.2, .int .i64 r6.2.2.2.2.2.2]), (8, 39, .agg #[.int .u64 r6.1, .int .i64 r6.2.1, .int .u64 r6.2.2.1, .int .u64 r6.2.2.2.1, .slice m44.1 r6.2.2.2.2.1.length m44.2.1]), (9, 40, .slice m44.2.2.1 r6.2.2.2.2.2.1.length m44.2.2.2), (10, 41, .int .i64 r6.2.2.2.2.2.2), (13, 12, .slice m44.2.2.1 r6.2.2.2.2.2.1.length m44.2.2.2), (14, 13, .int .i64 r6.2.2.2.2.2.2)] (by kernel_rfl) (ac (.inl (by kernel_rfl)) (ac (.inl (by kernel_rfl)) (ac (.inl (by kernel_rfl)) (ac (.inl (by kernel_rfl)) (ac (.inl (by kernel_rfl)) (ac (.inl (by kernel_rfl)) (ac (.inl (by kernel_rfl)) (ac (.inl (by kernel_rfl)) (ac (.inr (OpVal.plain rfl rfl (v_extract rfl rfl rfl))) (ac (.inr (OpVal.plain rfl rfl (v_extract rfl rfl rfl))) (ac (.inr (OpVal.plain rfl rfl (v_assign rfl rfl))) (ac (.inr (OpVal.plain rfl rfl (v_assign rfl rfl))) an))))))))))))) rfl ?_
            clear hok
            intro hok
            refine TrAny.done (by kernel_rfl) (by kernel_rfl) hok (by kernel_rfl) (⟨(b34, m44.2.2.1, m44.2.2.2, m44.1, m44.2.1), Imp.re _ [1, 2, 0, 3] [0, 1, 5, 2, 3, 4] (sc rfl (sc rfl (sc rfl (sc rfl (sc rfl (sc rfl (sc rfl (sc rfl (sc rfl (sc rfl sn)))))))))) (by decide) rfl rfl rfl⟩)
        · refine (qthen_n ?_)
          refine Tr.seq ?_
          refine Tr.region ?_
          refine TrL.v (v_move rfl rfl) rfl rfl (bl rfl) ?_
          refine TrL.v (v_arith rfl rfl rfl ar_eql) rfl rfl (bl rfl) ?_
          refine TrL.nil (qthen_n ?_)
          rcases ifc hy2 with ⟨h27, hy2⟩ | ⟨h27, hy2⟩
          · refine Tr.cond_t rfl (bt_dec h27) ?_
            refine Tr.seq ?_
            refine Tr.region ?_
            refine TrL.v (v_load (k := 2) rfl rfl rfl ty73 nofun rfl rfl) rfl rfl (bl rfl) ?_
            refine TrL.cons rfl (op_store' (k := 1) (c' := [.int .u64 r6.1, .int .i64 r6.2.1, .int .u64 r6.2.2.1, .int .u64 r6.2.2.2.1, .slice m42.2.2.2.1 r6.2.2.2.2.1.length m42.2.2.2.2]) rfl rfl rfl rfl rfl ty73 rfl (Nat.le_of_ble_eq_true rfl) (ones (oc rfl (oc rfl (oc rfl (oc rfl (oc rfl on)))))) rfl ?_)
            refine TrL.nil (qthen_n ?_)
            refine Tr.region ?_
            refine TrL.v (v_move rfl rfl) rfl rfl (bl rfl) ?_
            refine TrL.v (v_move rfl rfl) rfl rfl (bl rfl) ?_
            obtain ⟨h28, hy2⟩ := rom hy2
            refine TrL.cons rfl (op_append' (rp := rp_u64_u64_u64) (xs := s5.1) (ys := r6.2.2.2.2.2.1) (k := 3) (kx := 1) (ky := 2) rfl (bl rfl) rfl sl71 ty85 ze85 rfl by85 rfl rfl rfl rfl rfl rfl rfl h28.1 h28.2 (fun A7 c7 o6 => ?_))
            refine TrL.v (v_assign rfl rfl) rfl rfl (bl rfl) ?_
            refine TrL.nil (qblock_n (qthen_n ?_))
            refine Tr.region ?_
            refine TrL.v (v_move rfl rfl) rfl rfl (bl rfl) ?_
            refine TrL.v (v_arith rfl rfl rfl ar_add_i64) rfl rfl (bl rfl) ?_
            refine TrL.v (v_assign rfl rfl) rfl rfl (bl rfl) ?_
            have hz := Option.some.inj hy2
            subst hz
            refine TrL.nil (qloop_n ((A7, c7, m42.2.2.2.1, m42.2.2.2.2, o6)) (Imp.re _ [0, 1, 3] [0, 6, 3, 5] (sc rfl (sc rfl (sc rfl (sc rfl (sc rfl sn))))) (by decide) rfl rfl rfl))
          · refine Tr.cond_f rfl (bf_dec h27) ?_
            refine Tr.skip (qblock_n (qthen_n ?_))
            refine Tr.region ?_
            refine TrL.v (v_move rfl rfl) rfl rfl (bl rfl) ?_
            refine TrL.v (v_arith rfl rfl rfl ar_add_i64) rfl rfl (bl rfl) ?_
            refine TrL.v (v_assign rfl rfl) rfl rfl (bl rfl) ?_
            have hz := Option.some.inj hy2
            subst hz
            refine TrL.nil (qloop_n ((m30.1, m30.2.1, m30.2.2.1, m30.2.2.2.1, m30.2.2.2.2)) (Imp.re _ [0, 1, 3] [0, 1, 3, 4] (sc rfl (sc rfl (sc rfl (sc rfl (sc rfl sn))))) (by decide) rfl rfl rfl))
      · refine Tr.cond_f rfl (bf_dec h26) ?_
        have hz := Option.some.inj hy2
        subst hz
        refine Tr.exit (qthen_x (qloop_x (qblock_hit (qcut_hit ((s5.1, s5.2.2.1, s5.2.2.2.1, s5.2.2.2.2.1, s5.2.2.2.2.2.1, s5.2.2.2.2.2.2)) ((m30.1, m30.2.1, m30.2.2.1, m30.2.2.2.1, m30.2.2.2.2)) (hx4 _ rfl).symm (Imp.re _ [0, 1, 2] [1, 2, 3] (sc rfl (sc rfl (sc rfl sn))) (by decide) rfl rfl rfl)))))
    · refine TrL.cons_no rfl rfl rfl (gn_t (bf_dec h25)) rfl (bl rfl) ?_
      refine TrL.cons_no rfl rfl rfl (gn_t (bf_dec h25)) rfl (bl rfl) ?_
      refine TrL.v (v_pick_f rfl rfl (bf_dec h25) rfl) rfl rfl (bl rfl) ?_
      refine TrL.nil (qthen_n ?_)
      refine Tr.cond_f rfl rfl ?_
      have hz := Option.some.inj hy2
      subst hz
      refine Tr.exit (qthen_x (qloop_x (qblock_hit (qcut_hit ((s5.1, s5.2.2.1, s5.2.2.2.1, s5.2.2.2.2.1, s5.2.2.2.2.2.1, s5.2.2.2.2.2.2)) ((m30.1, m30.2.1, m30.2.2.1, m30.2.2.2.1, m30.2.2.2.2)) (hx4 _ rfl).symm (Imp.re _ [0, 1, 2] [1, 2, 3] (sc rfl (sc rfl (sc rfl sn))) (by decide) rfl rfl rfl)))))
  · subst hd2
    refine (qthen_n ?_)
    refine Tr.seq ?_
    refine Tr.region ?_
    refine TrL.v (v_load (k := 1) rfl rfl rfl ty73 nofun rfl rfl) rfl rfl (bl rfl) ?_
    refine TrL.v (v_move rfl rfl) rfl rfl (bl rfl) ?_
    refine TrL.cons rfl (op_store' (k := 0) (c' := [.int .u64 x2.2.1, .int .i64 x2.2.2.1, .int .u64 x2.2.2.2.1, .int .u64 x2.2.2.2.2.1, .slice m38.2.2.1 x2.2.2.2.2.2.length m38.2.2.2.1]) rfl rfl rfl rfl rfl ty73 rfl (Nat.le_of_ble_eq_true rfl) (ones (oc rfl (oc rfl (oc rfl (oc rfl (oc rfl on)))))) rfl ?_)
    refine TrL.v (v_assign rfl rfl) rfl rfl (bl rfl) ?_
    refine TrL.nil (qthen_n ?_)
    have hz := Option.some.inj H
    subst hz
    refine Tr.ret (ret_r ⟨[(6, .pointer (some ⟨b18, 0, none⟩)), (7, .slice m38.1 x2.1.length m38.2.1)], [cells b18 [.int .u64 x2.2.1, .int .i64 x2.2.2.1, .int .u64 x2.2.2.2.1, .int .u64 x2.2.2.2.2.1, .slice m38.2.2.1 x2.2.2.2.2.2.length m38.2.2.2.1] 73], [slF rp_u64_u64_u64 m38.2.2.1 m38.2.2.2.1 x2.2.2.2.2.2, slF rp_u64_u64_u64 m38.1 m38.2.1 x2.1], []⟩ [.agg #[.int .u64 x2.2.1, .int .i64 x2.2.2.1, .int .u64 x2.2.2.2.1, .int .u64 x2.2.2.2.2.1, .slice m38.2.2.1 x2.2.2.2.2.2.length m38.2.2.2.1], .slice m38.1 x2.1.length m38.2.1] [] [cells b18 [.int .u64 x2.2.1, .int .i64 x2.2.2.1, .int .u64 x2.2.2.2.1, .int .u64 x2.2.2.2.2.1, .slice m38.2.2.1 x2.2.2.2.2.2.length m38.2.2.2.1] 73] (Imp.re _ [0] [2, 0] (sc rfl (sc rfl sn)) (by decide) rfl rfl rfl) rfl rfl ⟨((m38.2.2.1, m38.2.2.2.1, m38.1, m38.2.1)), rfl, rfl, rfl⟩ (.cons (resv_cell (k := 0) rfl rfl ty73 nofun rfl rfl) (.cons (resv_tmp rfl) .nil)))

theorem c_ref12_Weight (p1 : Int × Int × Int × Int × List (Int × Int × Int)) (A1 : Option Addr) (c1 : Nat) (r : Int) (H : ref12_Weight p1 = some r) :
    Ctr Try.prog 40 [.agg #[.int .u64 p1.1, .int .i64 p1.2.1, .int .u64 p1.2.2.1, .int .u64 p1.2.2.2.1, .slice A1 p1.2.2.2.2.length c1]] [] [slF rp_u64_u64_u64 A1 c1 p1.2.2.2.2] (fun ret M' F' => ret = .int .u64 r ∧ M' = [] ∧ F' = []) := by
  unfold ref12_Weight at H
  refine ctr_ofI (N := 21) Try.func40 rfl Try.ntmps40 rfl (Nat.le_of_ble_eq_true rfl) (fun γ0 w0 => ?_)
  refine Tr.seq ?_
  refine Tr.region ?_
  refine TrL.cons rfl (op_box' rfl (bl rfl) rfl rfl rfl (fun b2 => ?_))
  refine TrL.v (v_assign rfl rfl) rfl rfl (bl rfl) ?_
  refine TrL.nil (qthen_n ?_)
  refine Tr.seq ?_
  refine Tr.region ?_
  refine TrL.v (v_assign rfl rfl) rfl rfl (bl rfl) ?_
  refine TrL.nil (qthen_n ?_)
  refine Tr.seq ?_
  refine Tr.seq ?_
  refine Tr.region ?_
  refine TrL.v (v_assign rfl rfl) rfl rfl (bl rfl) ?_
  refine TrL.nil (qthen_n ?_)
  obtain ⟨x2, hx3, H⟩ := bnd H
  refine Tr.cutE (D := Int) (M := Unit) .normal (fun _d => x2 = _d) (fun x2 m8 => ⟨[(3, .int .u64 x2)], [], [], []⟩) ?_ (fun x2 m8 hd2 => ?_)
  · refine Tr.block (Tr.loopI (ι := Unit) (step := ref12_Weight_s0 p1) (fun s5 m6 => ⟨[(1, .pointer (some ⟨b2, 0, none⟩)), (3, .int .u64 s5.1), (4, .int .i64 s5.2)], [cells b2 [.int .u64 p1.1, .int .i64 p1.2.1, .int .u64 p1.2.2.1, .int .u64 p1.2.2.2.1, .slice A1 p1.2.2.2.2.length c1] 73], [slF rp_u64_u64_u64 A1 c1 p1.2.2.2.2], []⟩) (()) hx3 (Imp.re _ [0] [0] (sc rfl (sc rfl (sc rfl sn))) (by decide) rfl rfl rfl) (fun s5 m6 y2 hy2 hx4 => ?_))
    unfold ref12_Weight_s0 at hy2
    refine Tr.seq ?_
    refine Tr.seq ?_
    refine Tr.region ?_
    refine TrL.v (v_move rfl rfl) rfl rfl (bl rfl) ?_
    refine TrL.v (v_fieldAddr' rfl fo73_4 rfl rfl) rfl rfl (bl rfl) ?_
    refine TrL.v (v_load (k := 0) rfl rfl rfl ty71 (fun _ => rfl) rfl rfl) rfl rfl (bl rfl) ?_
    refine TrL.v (v_len rfl sl71 rfl) rfl rfl (bl rfl) ?_
    refine TrL.v (v_arith rfl rfl rfl ar_lss) rfl rfl (bl rfl) ?_
    refine TrL.nil (qthen_n ?_)
    rcases ifc hy2 with ⟨h6, hy2⟩ | ⟨h6, hy2⟩
    · refine Tr.cond_t rfl (bt_dec h6) ?_
      refine Tr.skip (qthen_n ?_)
      refine Tr.seq ?_
      refine Tr.block ?_
      refine Tr.region ?_
      refine TrL.v (v_move rfl rfl) rfl rfl (bl rfl) ?_
      refine TrL.v (v_fieldAddr' rfl fo73_4 rfl rfl) rfl rfl (bl rfl) ?_
      refine TrL.v (v_load (k := 0) rfl rfl rfl ty71 (fun _ => rfl) rfl rfl) rfl rfl (bl rfl) ?_
      refine TrL.v (v_move rfl rfl) rfl rfl (bl rfl) ?_
      obtain ⟨z6, hz6, hy2⟩ := bnd hy2
      refine TrL.v (v_indexAddr (k := 0) rfl sl71 ty85 rfl rfl rfl rfl hz6) rfl rfl (bl rfl) ?_
      refine TrL.v (v_fieldAddr rfl fo85_2 rfl) rfl rfl (bl rfl) ?_
      refine TrL.v (v_loadg (A := A1) (i := s5.2) (j := 2) (k := 0) rfl ty28 (fun _ => rfl) rfl rfl hz6 rfl rfl) rfl rfl (bl rfl) ?_
      refine TrL.v (v_arith rfl rfl rfl ar_add_u64) rfl rfl (bl rfl) ?_
      refine TrL.v (v_assign rfl rfl) rfl rfl (bl rfl) ?_
      refine TrL.nil (qblock_n (qthen_n ?_))
      refine Tr.region ?_
      refine TrL.v (v_move rfl rfl) rfl rfl (bl rfl) ?_
      refine TrL.v (v_arith rfl rfl rfl ar_add_i64) rfl rfl (bl rfl) ?_
      refine TrL.v (v_assign rfl rfl) rfl rfl (bl rfl) ?_
      have hz := Option.some.inj hy2
      subst hz
      refine TrL.nil (qloop_n (()) (Imp.re _ [0] [0] (sc rfl (sc rfl (sc rfl sn))) (by decide) rfl rfl rfl))
    · refine Tr.cond_f rfl (bf_dec h6) ?_
      have hz := Option.some.inj hy2
      subst hz
      refine Tr.exit (qthen_x (qloop_x (qblock_hit (qcut_hit s5.1 (()) (hx4 _ rfl).symm (Imp.re _ [] [] (sc rfl sn) (by decide) rfl rfl rfl)))))
  · subst hd2
    refine (qthen_n ?_)
    refine Tr.seq ?_
    refine Tr.region ?_
    refine TrL.v (v_move rfl rfl) rfl rfl (bl rfl) ?_
    refine TrL.v (v_assign rfl rfl) rfl rfl (bl rfl) ?_
    refine TrL.nil (qthen_n ?_)
    have hz := Option.some.inj H
    subst hz
    refine Tr.ret (ret_r ⟨[(2, .int .u64 x2)], [], [], []⟩ [.int .u64 x2] [] [] (Imp.re _ [] [] (sc rfl sn) (by decide) rfl rfl rfl) rfl rfl ⟨rfl, rfl, rfl⟩ (.cons (resv_tmp rfl) .nil))

theorem c_ref12_Gather (p1 : List (Int × Int × Int × Int × List (Int × Int × Int))) (A1 : Option Addr) (c1 : Nat) (r : List (Int × Int × Int)) (H : ref12_Gather p1 = some r) :
    Ctr Try.prog 93 [.slice A1 p1.length c1] [] [slF rp_u64_i64_u64_u64_LOu64_u64_u64_C A1 c1 p1] (fun ret M' F' => ∃ m : Option Addr × Nat, ret = .slice m.1 r.length m.2 ∧ M' = [] ∧ F' = [slF rp_u64_u64_u64 m.1 m.2 r]) := by
  unfold ref12_Gather at H
  refine ctr_ofI (N := 58) Try.func93 rfl Try.ntmps93 rfl (Nat.le_of_ble_eq_true rfl) (fun γ0 w0 => ?_)
  refine Tr.seq ?_
  refine Tr.region ?_
  refine TrL.v (v_assign rfl rfl) rfl rfl (bl rfl) ?_
  refine TrL.nil (qthen_n ?_)
  refine Tr.seq ?_
  refine Tr.region ?_
  refine TrL.v (v_assign rfl rfl) rfl rfl (bl rfl) ?_
  refine TrL.nil (qthen_n ?_)
  refine Tr.seq ?_
  refine Tr.seq ?_
  refine Tr.region ?_
  refine TrL.v (v_assign rfl rfl) rfl rfl (bl rfl) ?_
  refine TrL.nil (qthen_n ?_)
  obtain ⟨x7, hx13, H⟩ := bnd H
  refine Tr.cutE (D := List (Int × Int × Int)) (M := Option Addr × Nat × Option Nat) .normal (fun _d => x7 = _d) (fun x7 m58 => ⟨[(3, .slice m58.1 x7.length m58.2.1)], [grow 85 3 (.slice m58.1 x7.length m58.2.1) x7.length m58.2.2], [slF rp_u64_u64_u64 m58.1 m58.2.1 x7], []⟩) ?_ (fun x7 m58 hd8 => ?_)
  · refine Tr.block (Tr.loopI (ι := Option Addr × Nat × Option Nat) (step := ref12_Gather_s0 p1) (fun s17 m46 => ⟨[(0, .slice A1 p1.length c1), (3, .slice m46.1 s17.1.length m46.2.1), (4, .int .i64 s17.2)], [grow 85 3 (.slice m46.1 s17.1.length m46.2.1) s17.1.length m46.2.2], [slF rp_u64_i64_u64_u64_LOu64_u64_u64_C A1 c1 p1, slF rp_u64_u64_u64 m46.1 m46.2.1 s17.1], []⟩) ((none, 0, none)) hx13 (Imp.full' (E := 85) (sz := 3) (A := none) (n := 0) (Imp.addF' _ (nilF rp_u64_u64_u64) (Imp.re _ [0] [0, 1] (sc rfl (sc rfl (sc rfl sn))) (by decide) rfl rfl rfl))) (fun s17 m46 y7 hy7 hx14 => ?_))
    unfold ref12_Gather_s0 at hy7
    refine Tr.seq ?_
    refine Tr.seq ?_
    refine Tr.region ?_
    refine TrL.v (v_move rfl rfl) rfl rfl (bl rfl) ?_
    refine TrL.v (v_move rfl rfl) rfl rfl (bl rfl) ?_
    refine TrL.v (v_len rfl sl69 rfl) rfl rfl (bl rfl) ?_
    refine TrL.v (v_arith rfl rfl rfl ar_lss) rfl rfl (bl rfl) ?_
    refine TrL.nil (qthen_n ?_)
    rcases ifc hy7 with ⟨h66, hy7⟩ | ⟨h66, hy7⟩
    · refine Tr.cond_t rfl (bt_dec h66) ?_
      refine Tr.skip (qthen_n ?_)
      refine Tr.seq ?_
      refine Tr.block ?_
      refine Tr.seq ?_
      refine Tr.region ?_
      refine TrL.v (v_assign rfl rfl) rfl rfl (bl rfl) ?_
      refine TrL.nil (qthen_n ?_)
      obtain ⟨x8, hx15, hy7⟩ := bnd hy7
      refine Tr.cutE (D := List (Int × Int × Int)) (M := Option Addr × Nat × Option Nat) .normal (fun _d => x8 = _d) (fun x8 m66 => ⟨[(0, .slice A1 p1.length c1), (3, .slice m66.1 x8.length m66.2.1), (4, .int .i64 s17.2)], [grow 85 3 (.slice m66.1 x8.length m66.2.1) x8.length m66.2.2], [slF rp_u64_i64_u64_u64_LOu64_u64_u64_C A1 c1 p1, slF rp_u64_u64_u64 m66.1 m66.2.1 x8], []⟩) ?_ (fun x8 m66 hd7 => ?_)
      · refine Tr.block (Tr.loopI (ι := Option Addr × Nat × Option Nat) (step := ref12_Gather_s1 p1 s17) (fun s23 m62 => ⟨[(0, .slice A1 p1.length c1), (3, .slice m62.1 s23.1.length m62.2.1), (4, .int .i64 s17.2), (5, .int .i64 s23.2)], [grow 85 3 (.slice m62.1 s23.1.length m62.2.1) s23.1.length m62.2.2], [slF rp_u64_i64_u64_u64_LOu64_u64_u64_C A1 c1 p1, slF rp_u64_u64_u64 m62.1 m62.2.1 s23.1], []⟩) ((m46.1, m46.2.1, m46.2.2)) hx15 (Imp.re _ [0] [0, 1] (sc rfl (sc rfl (sc rfl (sc rfl sn)))) (by decide) rfl rfl rfl) (fun s23 m62 y8 hy8 hx16 => ?_))
        unfold ref12_Gather_s1 at hy8
        refine Tr.seq ?_
        refine Tr.seq ?_
        refine Tr.region ?_
        refine TrL.v (v_move rfl rfl) rfl rfl (bl rfl) ?_
        refine TrL.v (v_move rfl rfl) rfl rfl (bl rfl) ?_
        refine TrL.v (v_move rfl rfl) rfl rfl (bl rfl) ?_
        obtain ⟨z35, hz35, hy8⟩ := bnd hy8
        refine TrL.v (v_indexAddr (k := 0) rfl sl69 ty73 rfl rfl rfl rfl hz35) rfl rfl (bl rfl) ?_
        refine TrL.v (v_fieldAddr rfl fo73_4 rfl) rfl rfl (bl rfl) ?_
        refine TrL.openP (k := 0) rfl hz35 (fun m67 => ?_)
        refine TrL.v (v_loadCF (j := 4) (k := 3) rfl ty71 (fun _ => rfl) rfl rfl rfl rfl) rfl rfl (bl rfl) ?_
        refine TrL.v (v_len rfl sl71 rfl) rfl rfl (bl rfl) ?_
        refine TrL.v (v_arith rfl rfl rfl ar_lss) rfl rfl (bl rfl) ?_
        refine TrL.nil (qthen_n ?_)
        rcases ifc hy8 with ⟨h75, hy8⟩ | ⟨h75, hy8⟩
        · refine Tr.cond_t rfl (bt_dec h75) ?_
          refine Tr.skip (qthen_n ?_)
          refine Tr.seq ?_
          refine Tr.block ?_
          refine Tr.seq ?_
          refine Tr.region ?_
          refine TrL.v (v_move rfl rfl) rfl rfl (bl rfl) ?_
          refine TrL.v (v_move rfl rfl) rfl rfl (bl rfl) ?_
          refine TrL.v (v_move rfl rfl) rfl rfl (bl rfl) ?_
          refine TrL.v (v_indexAddr (k := 0) rfl sl69 ty73 rfl rfl rfl rfl hz35) rfl rfl (bl rfl) ?_
          refine TrL.v (v_fieldAddr rfl fo73_4 rfl) rfl rfl (bl rfl) ?_
          refine TrL.v (v_loadCF (j := 4) (k := 3) rfl ty71 (fun _ => rfl) rfl rfl rfl rfl) rfl rfl (bl rfl) ?_
          refine TrL.v (v_move rfl rfl) rfl rfl (bl rfl) ?_
          obtain ⟨z36, hz36, hy8⟩ := bnd hy8
          refine TrL.v (v_indexAddr (k := 2) rfl sl71 ty85 rfl rfl rfl rfl hz36) rfl rfl (bl rfl) ?_
          refine TrL.v (v_fieldAddr rfl fo85_0 rfl) rfl rfl (bl rfl) ?_
          refine TrL.v (v_loadg (A := m67.1) (i := s23.2) (j := 0) (k := 2) rfl ty28 (fun _ => rfl) rfl rfl hz36 rfl rfl) rfl rfl (bl rfl) ?_
          obtain ⟨r18, hr18, hy8⟩ := bnd hy8
          refine TrL.cons rfl (op_call0' (vs := [.slice m62.1 s23.1.length m62.2.1, .int .u64 z36.1]) (cap := []) [1] rfl rfl (bl rfl) rfl rfl en92 (c_ref12_split s23.1 z36.1 m62.1 m62.2.1 r18 hr18) rfl (fun ret M' F' hR18 => ?_))
          obtain ⟨m68, rfl, rfl, rfl⟩ := hR18
          refine TrL.v (v_move rfl rfl) rfl rfl (bl rfl) ?_
          refine TrL.v (v_extract rfl rfl rfl) rfl rfl (bl rfl) ?_
          refine TrL.v (v_extract rfl rfl rfl) rfl rfl (bl rfl) ?_
          refine TrL.v (v_assign rfl rfl) rfl rfl (bl rfl) ?_
          refine TrL.v (v_assign rfl rfl) rfl rfl (bl rfl) ?_
          refine TrL.nil (qthen_n ?_)
          refine Tr.seq ?_
          refine Tr.region ?_
          refine TrL.cons rfl (op_buildSlice' (rp := rp_u64_u64_u64) (xs := []) (vs := []) (out := []) rfl (bl rfl) rfl sl71 ty85 ze85 rfl rfl (by decide) (by decide) rfl (fun γ w hF => rown) (fun A87 => ?_))
          refine TrL.v (v_move rfl rfl) rfl rfl (bl rfl) ?_
          refine TrL.full' (E := 85) (sz := 3) (A := A87) (n := 0) ?_
          obtain ⟨h76, hy8⟩ := rom hy8
          refine TrL.cons rfl (op_append' (rp := rp_u64_u64_u64) (xs := ([] : List (Int × Int × Int))) (ys := r18.1) (k := 0) (kx := 6) (ky := 4) rfl (bl rfl) rfl sl71 ty85 ze85 rfl by85 rfl rfl rfl rfl rfl rfl rfl h76.1 h76.2 (fun A88 c53 o52 => ?_))
          refine TrL.v (v_assign rfl rfl) rfl rfl (bl rfl) ?_
          refine TrL.nil (qthen_n ?_)
          refine Tr.seq ?_
          refine Tr.region ?_
          refine TrL.v (v_move rfl rfl) rfl rfl (bl rfl) ?_
          refine TrL.v (v_move rfl rfl) rfl rfl (bl rfl) ?_
          refine TrL.v (v_move rfl rfl) rfl rfl (bl rfl) ?_
          refine TrL.v (v_indexAddr (k := 0) rfl sl69 ty73 rfl rfl rfl rfl hz35) rfl rfl (bl rfl) ?_
          refine TrL.v (v_fieldAddr rfl fo73_4 rfl) rfl rfl (bl rfl) ?_
          refine TrL.v (v_loadCF (j := 4) (k := 3) rfl ty71 (fun _ => rfl) rfl rfl rfl rfl) rfl rfl (bl rfl) ?_
          refine TrL.v (v_move rfl rfl) rfl rfl (bl rfl) ?_
          refine TrL.v (v_indexAddr (k := 2) rfl sl71 ty85 rfl rfl rfl rfl hz36) rfl rfl (bl rfl) ?_
          refine TrL.v (v_loadg (A := m67.1) (i := s23.2) (j := 0) (k := 2) rfl ty85 nofun rfl rfl hz36 rfl rfl) rfl rfl (bl rfl) ?_
          refine TrL.cons rfl (op_buildSlice' (rp := rp_u64_u64_u64) (xs := [z36]) (vs := [.agg #[.int .u64 z36.1, .int .u64 z36.2.1, .int .u64 z36.2.2]]) (out := [.int .u64 z36.1, .int .u64 z36.2.1, .int .u64 z36.2.2]) rfl (bl rfl) rfl sl71 ty85 ze85 rfl rfl (by decide) (by decide) rfl (fun γ w hF => (rowc rfl rown rfl)) (fun A89 => ?_))
          obtain ⟨h77, hy8⟩ := rom hy8
          refine TrL.cons rfl (op_append' (rp := rp_u64_u64_u64) (xs := r18.1) (ys := [z36]) (k := 0) (kx := 7) (ky := 8) rfl (bl rfl) rfl sl71 ty85 ze85 rfl by85 rfl rfl rfl rfl rfl rfl rfl h77.1 h77.2 (fun A90 c54 o53 => ?_))
          refine TrL.v (v_assign rfl rfl) rfl rfl (bl rfl) ?_
          refine TrL.nil (qthen_n ?_)
          refine Tr.seq ?_
          refine Tr.region ?_
          refine TrL.v (v_move rfl rfl) rfl rfl (bl rfl) ?_
          refine TrL.v (v_move rfl rfl) rfl rfl (bl rfl) ?_
          obtain ⟨h78, hy8⟩ := rom hy8
          refine TrL.cons rfl (op_append' (rp := rp_u64_u64_u64) (xs := r18.1 ++ ([z36])) (ys := r18.2) (k := 0) (kx := 9) (ky := 5) rfl (bl rfl) rfl sl71 ty85 ze85 rfl by85 rfl rfl rfl rfl rfl rfl rfl h78.1 h78.2 (fun A91 c55 o54 => ?_))
          refine TrL.v (v_assign rfl rfl) rfl rfl (bl rfl) ?_
          refine TrL.nil (qthen_n ?_)
          refine Tr.region ?_
          refine TrL.v (v_move rfl rfl) rfl rfl (bl rfl) ?_
          refine TrL.v (v_assign rfl rfl) rfl rfl (bl rfl) ?_
          refine TrL.nil (qblock_n (qthen_n ?_))
          refine Tr.region ?_
          refine TrL.v (v_move rfl rfl) rfl rfl (bl rfl) ?_
          refine TrL.v (v_arith rfl rfl rfl ar_add_i64) rfl rfl (bl rfl) ?_
          refine TrL.v (v_assign rfl rfl) rfl rfl (bl rfl) ?_
          have hz := Option.some.inj hy8
          subst hz
          refine TrL.nil (qloop_n ((A91, c55, o54)) (Imp.re _ [0] [0, 10] (sc rfl (sc rfl (sc rfl (sc rfl sn)))) (by decide) rfl rfl rfl))
        · refine Tr.cond_f rfl (bf_dec h75) ?_
          have hz := Option.some.inj hy8
          subst hz
          refine Tr.exit (qthen_x (qloop_x (qblock_hit (qcut_hit s23.1 ((m62.1, m62.2.1, m62.2.2)) (hx16 _ rfl).symm (Imp.re _ [0] [0, 1] (sc rfl (sc rfl (sc rfl sn))) (by decide) rfl rfl rfl)))))
      · subst hd7
        refine (qblock_n (qthen_n ?_))
        refine Tr.region ?_
        refine TrL.v (v_move rfl rfl) rfl rfl (bl rfl) ?_
        refine TrL.v (v_arith rfl rfl rfl ar_add_i64) rfl rfl (bl rfl) ?_
        refine TrL.v (v_assign rfl rfl) rfl rfl (bl rfl) ?_
        have hz := Option.some.inj hy7
        subst hz
        refine TrL.nil (qloop_n ((m66.1, m66.2.1, m66.2.2)) (Imp.re _ [0] [0, 1] (sc rfl (sc rfl (sc rfl sn))) (by decide) rfl rfl rfl))
    · refine Tr.cond_f rfl (bf_dec h66) ?_
      have hz := Option.some.inj hy7
      subst hz
      refine Tr.exit (qthen_x (qloop_x (qblock_hit (qcut_hit s17.1 ((m46.1, m46.2.1, m46.2.2)) (hx14 _ rfl).symm (Imp.re _ [0] [1] (sc rfl sn) (by decide) rfl rfl rfl)))))
  · subst hd8
    refine (qthen_n ?_)
    refine Tr.seq ?_
    refine Tr.region ?_
    refine TrL.v (v_move rfl rfl) rfl rfl (bl rfl) ?_
    refine TrL.v (v_assign rfl rfl) rfl rfl (bl rfl) ?_
    refine TrL.nil (qthen_n ?_)
    have hz := Option.some.inj H
    subst hz
    refine Tr.ret (ret_r ⟨[(2, .slice m58.1 x7.length m58.2.1)], [], [slF rp_u64_u64_u64 m58.1 m58.2.1 x7], []⟩ [.slice m58.1 x7.length m58.2.1] [] [] (Imp.re _ [] [0] (sc rfl sn) (by decide) rfl rfl rfl) rfl rfl ⟨((m58.1, m58.2.1)), rfl, rfl, rfl⟩ (.cons (resv_tmp rfl) .nil))

theorem c_ref12_Join (p1 : List (Int × Int × Int × Int × List (Int × Int × Int))) (A1 : Option Addr) (c1 : Nat) (r : Int × Int × Int × Int × (List (Int × Int × Int)) × List (Int × Int × Int)) (H : ref12_Join p1 = some r) :
    Ctr Try.prog 42 [.slice A1 p1.length c1] [] [slF rp_u64_i64_u64_u64_LOu64_u64_u64_C A1 c1 p1] (fun ret M' F' => ∃ m : Option Addr × Nat × Option Addr × Nat, ret = .tuple #[.agg #[.int .u64 r.1, .int .i64 r.2.1, .int .u64 r.2.2.1, .int .u64 r.2.2.2.1, .slice m.1 r.2.2.2.2.1.length m.2.1], .slice m.2.2.1 r.2.2.2.2.2.length m.2.2.2] ∧ M' = [] ∧ F' = [slF rp_u64_u64_u64 m.1 m.2.1 r.2.2.2.2.1, slF rp_u64_u64_u64 m.2.2.1 m.2.2.2 r.2.2.2.2.2]) := by
  unfold ref12_Join at H
  refine ctr_ofI (N := 57) Try.func42 rfl Try.ntmps42 rfl (Nat.le_of_ble_eq_true rfl) (fun γ0 w0 => ?_)
  refine Tr.seq ?_
  refine Tr.region ?_
  refine TrL.cons rfl (op_alloc' rfl (bl rfl) rfl ze73 (fun b4 => ?_))
  refine TrL.v (v_assign rfl rfl) rfl rfl (bl rfl) ?_
  refine TrL.nil (qthen_n ?_)
  refine Tr.seq ?_
  refine Tr.seq ?_
  refine Tr.region ?_
  refine TrL.v (v_move rfl rfl) rfl rfl (bl rfl) ?_
  refine TrL.v (v_len rfl sl69 rfl) rfl rfl (bl rfl) ?_
  refine TrL.v (v_arith rfl rfl rfl ar_eql) rfl rfl (bl rfl) ?_
  refine TrL.nil (qthen_n ?_)
  rcases ifc H with ⟨h5, H⟩ | ⟨h5, H⟩
  · refine Tr.cond_t rfl (bt_dec h5) ?_
    refine Tr.seq ?_
    refine Tr.region ?_
    refine TrL.v (v_build (vs := []) (out := [.int .u64 0, .int .i64 0, .int .u64 0, .int .u64 0, .slice none 0 0]) rfl pl73 ze73 rfl rfl) rfl rfl (bl rfl) ?_
    refine TrL.cons rfl (op_store' (k := 0) (c' := [.int .u64 0, .int .i64 0, .int .u64 0, .int .u64 0, .slice none 0 0]) rfl rfl rfl rfl rfl ty73 rfl (Nat.le_of_ble_eq_true rfl) (ones (oc rfl (oc rfl (oc rfl (oc rfl (oc rfl on)))))) rfl ?_)
    refine TrL.v (v_assign rfl rfl) rfl rfl (bl rfl) ?_
    refine TrL.nil (qthen_n ?_)
    have hz := Option.some.inj H
    subst hz
    refine Tr.ret (qthen_r (ret_r ⟨[(2, .pointer (some ⟨b4, 0, none⟩)), (3, .slice none 0 0)], [cells b4 [.int .u64 0, .int .i64 0, .int .u64 0, .int .u64 0, .slice none 0 0] 73], [slF rp_u64_u64_u64 none 0 (([] : List (Int × Int × Int))), slF rp_u64_u64_u64 none 0 (([] : List (Int × Int × Int)))], []⟩ [.agg #[.int .u64 0, .int .i64 0, .int .u64 0, .int .u64 0, .slice none 0 0], .slice none 0 0] [] [cells b4 [.int .u64 0, .int .i64 0, .int .u64 0, .int .u64 0, .slice none 0 0] 73] (Imp.addF' _ (nilF rp_u64_u64_u64) (Imp.re _ [0] [1, 1] (sc rfl (sc rfl sn)) (by decide) rfl rfl rfl)) rfl rfl ⟨((none, 0, none, 0)), rfl, rfl, rfl⟩ (.cons (resv_cell (k := 0) rfl rfl ty73 nofun rfl rfl) (.cons (resv_tmp rfl) .nil))))
  · refine Tr.cond_f rfl (bf_dec h5) ?_
    refine Tr.skip (qthen_n ?_)
    refine Tr.seq ?_
    refine Tr.regionD drawn (fun hok => ?_)
    refine TrAny.prom (i := 0) (d := 12) hok (OpVal.plain rfl rfl (v_move rfl rfl)) (by kernel_rfl) rfl (bl rfl) ?_
    clear hok
    intro hok
    obtain ⟨z8, hz8, H⟩ := bnd H
    refine TrAny.prom (i := 1) (d := 13) hok (OpVal.plain rfl rfl (v_indexAddr (k := 0) rfl sl69 ty73 rfl rfl rfl rfl hz8)) (by kernel_rfl) rfl (bl rfl) ?_
    clear hok
    intro hok
    refine TrAny.prom (i := 2) (d := 14) hok (OpVal.plain rfl rfl (v_fieldAddr rfl fo73_0 rfl)) (by kernel_rfl) rfl (bl rfl) ?_
    clear hok
    intro hok
    refine TrAny.openP (k := 0) rfl hz8 hok (fun m18 hok => ?_)
    refine TrAny.prom (i := 3) (d := 15) hok (OpVal.plain rfl rfl (v_loadCF (j := 0) (k := 2) rfl ty28 (fun _ => rfl) rfl rfl rfl rfl)) (by kernel_rfl) rfl (bl rfl) ?_
    clear hok
    intro hok
    refine TrAny.prom (i := 4) (d := 16) hok (OpVal.plain rfl rfl (v_move rfl rfl)) (by kernel_rfl) rfl (bl rfl) ?_
    clear hok
    intro hok
    refine TrAny.prom (i := 5) (d := 17) hok (OpVal.plain rfl rfl (v_indexAddr (k := 0) rfl sl69 ty73 rfl rfl rfl rfl hz8)) (by kernel_rfl) rfl (bl rfl) ?_
    clear hok
    intro hok
    refine TrAny.prom (i := 6) (d := 18) hok (OpVal.plain rfl rfl (v_fieldAddr rfl fo73_1 rfl)) (by kernel_rfl) rfl (bl rfl) ?_
    clear hok
    intro hok
    refine TrAny.prom (i := 7) (d := 19) hok (OpVal.plain rfl rfl (v_loadCF (j := 1) (k := 2) rfl ty3 (fun _ => rfl) rfl rfl rfl rfl)) (by kernel_rfl) rfl (bl rfl) ?_
    clear hok
    intro hok
    refine TrAny.prom (i := 8) (d := 20) hok (OpVal.plain rfl rfl (v_build (vs := [.int .u64 z8.1, .int .i64 z8.2.1]) (out := [.int .u64 z8.1, .int .i64 z8.2.1, .int .u64 0, .int .u64 0, .slice none 0 0]) rfl pl73 ze73 rfl rfl)) (by kernel_rfl) rfl (bl rfl) ?_
    clear hok
    intro hok
    refine TrAny.next (j := 9) (by kernel_rfl) hok rfl (by kernel_rfl) (op_alloc' rfl (bl rfl) rfl ze73 (fun b6 => ?_))
    refine nxp hok (kp_imp (kp_cm rfl)) rfl (by kernel_rfl) ?_
    clear hok
    intro hok
    refine TrAny.next (j := 10) (by kernel_rfl) hok rfl (by kernel_rfl) (op_store' (k := 0) (c' := [.int .u64 z8.1, .int .i64 z8.2.1, .int .u64 0, .int .u64 0, .slice none 0 0]) rfl rfl rfl rfl rfl ty73 rfl (Nat.le_of_ble_eq_true rfl) (ones (oc rfl (oc rfl (oc rfl (oc rfl (oc rfl on)))))) rfl ?_)
    refine nxs hok (kp_aw (by kernel_rfl)) rfl ?_
    clear hok
    intro hok
    refine TrAny.done (by kernel_rfl) (by kernel_rfl) hok (by kernel_rfl) (qthen_n ?_)
    refine Tr.seq ?_
    refine Tr.seq ?_
    refine Tr.region ?_
    refine TrL.v (v_assign rfl rfl) rfl rfl (bl rfl) ?_
    refine TrL.nil (qthen_n ?_)
    obtain ⟨x2, hx3, H⟩ := bnd H
    refine Tr.cutE (D := Int × Int) (M := Unit) .normal (fun _d => x2 = _d) (fun x2 m26 => ⟨[(0, .slice A1 p1.length c1), (2, .pointer (some ⟨b4, 0, none⟩)), (4, .pointer (some ⟨b6, 0, none⟩))], [cells b4 [.int .u64 0, .int .i64 0, .int .u64 0, .int .u64 0, .slice none 0 0] 73, cells b6 [.int .u64 z8.1, .int .i64 z8.2.1, .int .u64 x2.1, .int .u64 x2.2, .slice none 0 0] 73], [slF rp_u64_i64_u64_u64_LOu64_u64_u64_C A1 c1 p1, slF rp_u64_u64_u64 none 0 (([] : List (Int × Int × Int)))], []⟩) ?_ (fun x2 m26 hd2 => ?_)
    · refine Tr.block (Tr.loopI (ι := Unit) (step := ref12_Join_s0 p1) (fun s5 m22 => ⟨[(0, .slice A1 p1.length c1), (2, .pointer (some ⟨b4, 0, none⟩)), (4, .pointer (some ⟨b6, 0, none⟩)), (5, .int .i64 s5.1)], [cells b4 [.int .u64 0, .int .i64 0, .int .u64 0, .int .u64 0, .slice none 0 0] 73, cells b6 [.int .u64 z8.1, .int .i64 z8.2.1, .int .u64 s5.2.1, .int .u64 s5.2.2, .slice none 0 0] 73], [slF rp_u64_i64_u64_u64_LOu64_u64_u64_C A1 c1 p1, slF rp_u64_u64_u64 none 0 (([] : List (Int × Int × Int)))], []⟩) (()) hx3 (Imp.addF' _ (nilF rp_u64_u64_u64) (Imp.re _ [1, 0] [0, 3] (sc rfl (sc rfl (sc rfl (sc rfl sn)))) (by decide) rfl rfl rfl)) (fun s5 m22 y2 hy2 hx4 => ?_))
      unfold ref12_Join_s0 at hy2
      refine Tr.seq ?_
      refine Tr.seq ?_
      refine Tr.region ?_
      refine TrL.v (v_move rfl rfl) rfl rfl (bl rfl) ?_
      refine TrL.v (v_move rfl rfl) rfl rfl (bl rfl) ?_
      refine TrL.v (v_len rfl sl69 rfl) rfl rfl (bl rfl) ?_
      refine TrL.v (v_arith rfl rfl rfl ar_lss) rfl rfl (bl rfl) ?_
      refine TrL.nil (qthen_n ?_)
      rcases ifc hy2 with ⟨h8, hy2⟩ | ⟨h8, hy2⟩
      · refine Tr.cond_t rfl (bt_dec h8) ?_
        refine Tr.skip (qthen_n ?_)
        refine Tr.seq ?_
        refine Tr.block ?_
        refine Tr.seq ?_
        refine Tr.regionD drawn (fun hok => ?_)
        refine TrAny.prom (i := 0) (d := 27) hok (OpVal.plain rfl rfl (v_fieldAddr' rfl fo73_2 rfl rfl)) (by kernel_rfl) rfl (bl rfl) ?_
        clear hok
        intro hok
        refine TrAny.prom (i := 1) (d := 28) hok (OpVal.plain rfl rfl (v_load (k := 1) rfl rfl rfl ty28 (fun _ => rfl) rfl rfl)) (by kernel_rfl) rfl (bl rfl) ?_
        clear hok
        intro hok
        refine TrAny.prom (i := 2) (d := 29) hok (OpVal.plain rfl rfl (v_move rfl rfl)) (by kernel_rfl) rfl (bl rfl) ?_
        clear hok
        intro hok
        refine TrAny.prom (i := 3) (d := 30) hok (OpVal.plain rfl rfl (v_move rfl rfl)) (by kernel_rfl) rfl (bl rfl) ?_
        clear hok
        intro hok
        obtain ⟨z12, hz12, hy2⟩ := bnd hy2
        refine TrAny.prom (i := 4) (d := 31) hok (OpVal.plain rfl rfl (v_indexAddr (k := 0) rfl sl69 ty73 rfl rfl rfl rfl hz12)) (by kernel_rfl) rfl (bl rfl) ?_
        clear hok
        intro hok
        refine TrAny.prom (i := 5) (d := 32) hok (OpVal.plain rfl rfl (v_fieldAddr rfl fo73_2 rfl)) (by kernel_rfl) rfl (bl rfl) ?_
        clear hok
        intro hok
        refine TrAny.openP (k := 0) rfl hz12 hok (fun m28 hok => ?_)
        refine TrAny.prom (i := 6) (d := 33) hok (OpVal.plain rfl rfl (v_loadCF (j := 2) (k := 3) rfl ty28 (fun _ => rfl) rfl rfl rfl rfl)) (by kernel_rfl) rfl (bl rfl) ?_
        clear hok
        intro hok
        refine TrAny.prom (i := 7) (d := 34) hok (OpVal.plain rfl rfl (v_max rfl rfl rfl)) (by kernel_rfl) rfl (bl rfl) ?_
        clear hok
        intro hok
        refine TrAny.prom (i := 8) (d := 35) hok (OpVal.plain rfl rfl (v_fieldAddr' rfl fo73_2 rfl rfl)) (by kernel_rfl) rfl (bl rfl) ?_
        clear hok
        intro hok
        refine TrAny.next (j := 9) (by kernel_rfl) hok rfl (by kernel_rfl) (op_store' (k := 1) (c' := [.int .u64 z8.1, .int .i64 z8.2.1, .int .u64 (max s5.2.1 z12.2.2.1), .int .u64 s5.2.2, .slice none 0 0]) rfl rfl rfl rfl rfl ty28 rfl (Nat.le_of_ble_eq_true rfl) (ones (oc rfl on)) rfl ?_)
        refine nxs hok (kp_aw (by kernel_rfl)) rfl ?_
        clear hok
        intro hok
        refine TrAny.done (by kernel_rfl) (by kernel_rfl) hok (by kernel_rfl) (qthen_n ?_)
        refine Tr.regionD drawn (fun hok => ?_)
        refine TrAny.prom (i := 0) (d := 36) hok (OpVal.plain rfl rfl (v_fieldAddr' rfl fo73_3 rfl rfl)) (by kernel_rfl) rfl (bl rfl) ?_
        clear hok
        intro hok
        refine TrAny.prom (i := 1) (d := 37) hok (OpVal.plain rfl rfl (v_load (k := 1) rfl rfl rfl ty28 (fun _ => rfl) rfl rfl)) (by kernel_rfl) rfl (bl rfl) ?_
        clear hok
        intro hok
        refine TrAny.prom (i := 2) (d := 38) hok (OpVal.plain rfl rfl (v_move rfl rfl)) (by kernel_rfl) rfl (bl rfl) ?_
        clear hok
        intro hok
        refine TrAny.prom (i := 3) (d := 39) hok (OpVal.plain rfl rfl (v_move rfl rfl)) (by kernel_rfl) rfl (bl rfl) ?_
        clear hok
        intro hok
        refine TrAny.prom (i := 4) (d := 40) hok (OpVal.plain rfl rfl (v_indexAddr (k := 0) rfl sl69 ty73 rfl rfl rfl rfl hz12)) (by kernel_rfl) rfl (bl rfl) ?_
        clear hok
        intro hok
        refine TrAny.prom (i := 5) (d := 41) hok (OpVal.plain rfl rfl (v_fieldAddr rfl fo73_3 rfl)) (by kernel_rfl) rfl (bl rfl) ?_
        clear hok
        intro hok
        refine TrAny.prom (i := 6) (d := 42) hok (OpVal.plain rfl rfl (v_loadCF (j := 3) (k := 3) rfl ty28 (fun _ => rfl) rfl rfl rfl rfl)) (by kernel_rfl) rfl (bl rfl) ?_
        clear hok
        intro hok
        refine TrAny.prom (i := 7) (d := 43) hok (OpVal.plain rfl rfl (v_max rfl rfl rfl)) (by kernel_rfl) rfl (bl rfl) ?_
        clear hok
        intro hok
        refine TrAny.prom (i := 8) (d := 44) hok (OpVal.plain rfl rfl (v_fieldAddr' rfl fo73_3 rfl rfl)) (by kernel_rfl) rfl (bl rfl) ?_
        clear hok
        intro hok
        refine TrAny.next (j := 9) (by kernel_rfl) hok rfl (by kernel_rfl) (op_store' (k := 1) (c' := [.int .u64 z8.1, .int .i64 z8.2.1, .int .u64 (max s5.2.1 z12.2.2.1), .int .u64 (max s5.2.2 z12.2.2.2.1), .slice none 0 0]) rfl rfl rfl rfl rfl ty28 rfl (Nat.le_of_ble_eq_true rfl) (ones (oc rfl on)) rfl ?_)
        refine nxs hok (kp_aw (by kernel_rfl)) rfl ?_
        clear hok
        intro hok
        refine TrAny.done (by kernel_rfl) (by kernel_rfl) hok (by kernel_rfl) (qblock_n (qthen_n ?_))
        refine Tr.region ?_
        refine TrL.v (v_move rfl rfl) rfl rfl (bl rfl) ?_
        refine TrL.v (v_arith rfl rfl rfl ar_add_i64) rfl rfl (bl rfl) ?_
        refine TrL.v (v_assign rfl rfl) rfl rfl (bl rfl) ?_
        have hz := Option.some.inj hy2
        subst hz
        refine TrL.nil (qloop_n (()) (Imp.re _ [0, 1] [0, 1] (sc rfl (sc rfl (sc rfl (sc rfl sn)))) (by decide) rfl rfl rfl))
      · refine Tr.cond_f rfl (bf_dec h8) ?_
        have hz := Option.some.inj hy2
        subst hz
        refine Tr.exit (qthen_x (qloop_x (qblock_hit (qcut_hit ((s5.2.1, s5.2.2)) (()) (hx4 _ rfl).symm (Imp.re _ [0, 1] [0, 1] (sc rfl (sc rfl (sc rfl sn))) (by decide) rfl rfl rfl)))))
    · subst hd2
      refine (qthen_n ?_)
      refine Tr.seq ?_
      refine Tr.regionD drawn (fun hok => ?_)
      refine TrAny.prom (i := 0) (d := 46) hok (OpVal.plain rfl rfl (v_move rfl rfl)) (by kernel_rfl) rfl (bl rfl) ?_
      clear hok
      intro hok
      refine TrAny.prom (i := 2) (d := 48) hok (OpVal.plain rfl rfl (v_fieldAddr' rfl fo73_3 rfl rfl)) (by kernel_rfl) rfl (bl rfl) ?_
      clear hok
      intro hok
      refine TrAny.prom (i := 3) (d := 49) hok (OpVal.plain rfl rfl (v_load (k := 1) rfl rfl rfl ty28 (fun _ => rfl) rfl rfl)) (by kernel_rfl) rfl (bl rfl) ?_
      clear hok
      intro hok
      obtain ⟨r7, hr7, H⟩ := bnd H
      refine TrAny.next (j := 1) (by kernel_rfl) hok rfl (by kernel_rfl) (op_call0' (vs := [.slice A1 p1.length c1]) (cap := []) [0] rfl rfl (bl rfl) rfl rfl en93 (c_ref12_Gather p1 A1 c1 r7 hr7) rfl (fun ret M' F' hR7 => ?_))
      obtain ⟨m31, rfl, rfl, rfl⟩ := hR7
      refine nxp hok (kp_imp (kp_c0 rfl)) rfl (by kernel_rfl) ?_
      clear hok
      intro hok
      obtain ⟨r8, hr8, H⟩ := bnd H
      refine TrAny.next (j := 4) (by kernel_rfl) hok rfl (by kernel_rfl) (op_call0' (vs := [.slice m31.1 r7.length m31.2, .int .u64 x2.2]) (cap := []) [2] rfl rfl (bl rfl) rfl rfl en92 (c_ref12_split r7 x2.2 m31.1 m31.2 r8 hr8) rfl (fun ret M' F' hR8 => ?_))
      obtain ⟨m32, rfl, rfl, rfl⟩ := hR8
      refine nxp hok (kp_imp (kp_c0 rfl)) rfl (by kernel_rfl) ?_
      clear hok
      intro hok
      refine TrAny.prom (i := 5) (d := 45) hok (OpVal.plain rfl rfl (v_move rfl rfl)) (by kernel_rfl) rfl (bl rfl) ?_
      clear hok
      intro hok
      refine TrAny.prom (i := 6) (d := 51) hok (OpVal.plain rfl rfl (v_extract rfl rfl rfl)) (by kernel_rfl) rfl (bl rfl) ?_
      clear hok
      intro hok
      refine TrAny.prom (i := 7) (d := 52) hok (OpVal.plain rfl rfl (v_extract rfl rfl rfl)) (by kernel_rfl) rfl (bl rfl) ?_
      clear hok
      intro hok
      refine TrAny.prom (i := 8) (d := 6) hok (OpVal.plain rfl rfl (v_assign rfl rfl)) (by kernel_rfl) rfl (bl rfl) ?_
      clear hok
      intro hok
      refine TrAny.prom (i := 9) (d := 7) hok (OpVal.plain rfl rfl (v_assign rfl rfl)) (by kernel_rfl) rfl (bl rfl) ?_
      clear hok
      intro hok
      refine TrAny.done (by kernel_rfl) (by kernel_rfl) hok (by kernel_rfl) (qthen_n ?_)
      refine Tr.seq ?_
      refine Tr.region ?_
      refine TrL.v (v_move rfl rfl) rfl rfl (bl rfl) ?_
      refine TrL.v (v_fieldAddr' rfl fo73_4 rfl rfl) rfl rfl (bl rfl) ?_
      refine TrL.cons rfl (op_store' (k := 3) (c' := [.int .u64 z8.1, .int .i64 z8.2.1, .int .u64 x2.1, .int .u64 x2.2, .slice m32.2.2.1 r8.2.length m32.2.2.2.1]) rfl rfl rfl rfl rfl ty71 rfl (Nat.le_of_ble_eq_true rfl) (ones (oc rfl on)) rfl ?_)
      refine TrL.nil (qthen_n ?_)
      refine Tr.seq ?_
      refine Tr.region ?_
      refine TrL.v (v_load (k := 3) rfl rfl rfl ty73 nofun rfl rfl) rfl rfl (bl rfl) ?_
      refine TrL.v (v_move rfl rfl) rfl rfl (bl rfl) ?_
      refine TrL.cons rfl (op_store' (k := 2) (c' := [.int .u64 z8.1, .int .i64 z8.2.1, .int .u64 x2.1, .int .u64 x2.2, .slice m32.2.2.1 r8.2.length m32.2.2.2.1]) rfl rfl rfl rfl rfl ty73 rfl (Nat.le_of_ble_eq_true rfl) (ones (oc rfl (oc rfl (oc rfl (oc rfl (oc rfl on)))))) rfl ?_)
      refine TrL.v (v_assign rfl rfl) rfl rfl (bl rfl) ?_
      refine TrL.nil (qthen_n ?_)
      have hz := Option.some.inj H
      subst hz
      refine Tr.ret (ret_r ⟨[(2, .pointer (some ⟨b4, 0, none⟩)), (3, .slice m32.1 r8.1.length m32.2.1)], [cells b4 [.int .u64 z8.1, .int .i64 z8.2.1, .int .u64 x2.1, .int .u64 x2.2, .slice m32.2.2.1 r8.2.length m32.2.2.2.1] 73], [slF rp_u64_u64_u64 m32.2.2.1 m32.2.2.2.1 r8.2, slF rp_u64_u64_u64 m32.1 m32.2.1 r8.1], []⟩ [.agg #[.int .u64 z8.1, .int .i64 z8.2.1, .int .u64 x2.1, .int .u64 x2.2, .slice m32.2.2.1 r8.2.length m32.2.2.2.1], .slice m32.1 r8.1.length m32.2.1] [] [cells b4 [.int .u64 z8.1, .int .i64 z8.2.1, .int .u64 x2.1, .int .u64 x2.2, .slice m32.2.2.1 r8.2.length m32.2.2.2.1] 73] (Imp.re _ [2] [4, 3] (sc rfl (sc rfl sn)) (by decide) rfl rfl rfl) rfl rfl ⟨((m32.2.2.1, m32.2.2.2.1, m32.1, m32.2.1)), rfl, rfl, rfl⟩ (.cons (resv_cell (k := 0) rfl rfl ty73 nofun rfl rfl) (.cons (resv_tmp rfl) .nil)))

theorem c_ref12_Events (p1 : List (Int × Int × Int)) (p2 : List (Int × Int × Int)) (A1 : Option Addr) (c1 : Nat) (A2 : Option Addr) (c2 : Nat) (r : Bool) (H : ref12_Events p1 p2 = some r) :
    Ctr Try.prog 45 [.slice A1 p1.length c1, .slice A2 p2.length c2] [] [slF rp_u64_u64_u64 A1 c1 p1, slF rp_u64_u64_u64 A2 c2 p2] (fun ret M' F' => ret = .bool r ∧ M' = [] ∧ F' = []) := by
  unfold ref12_Events at H
  refine ctr_ofI (N := 26) Try.func45 rfl Try.ntmps45 rfl (Nat.le_of_ble_eq_true rfl) (fun γ0 w0 => ?_)
  refine Tr.seq ?_
  refine Tr.region ?_
  refine TrL.v (v_assign rfl rfl) rfl rfl (bl rfl) ?_
  refine TrL.nil (qthen_n ?_)
  refine Tr.seq ?_
  refine Tr.seq ?_
  refine Tr.region ?_
  refine TrL.v (v_move rfl rfl) rfl rfl (bl rfl) ?_
  refine TrL.v (v_len rfl sl71 rfl) rfl rfl (bl rfl) ?_
  refine TrL.v (v_move rfl rfl) rfl rfl (bl rfl) ?_
  refine TrL.v (v_len rfl sl71 rfl) rfl rfl (bl rfl) ?_
  refine TrL.v (v_arith rfl rfl rfl ar_neq) rfl rfl (bl rfl) ?_
  refine TrL.nil (qthen_n ?_)
  rcases ifc H with ⟨h8, H⟩ | ⟨h8, H⟩
  · refine Tr.cond_t rfl (bt_dec h8) ?_
    refine Tr.seq ?_
    refine Tr.region ?_
    refine TrL.v (v_assign rfl rfl) rfl rfl (bl rfl) ?_
    refine TrL.nil (qthen_n ?_)
    have hz := Option.some.inj H
    subst hz
    refine Tr.ret (qthen_r (ret_r ⟨[(4, .bool false)], [], [], []⟩ [.bool false] [] [] (Imp.re _ [] [] (sc rfl sn) (by decide) rfl rfl rfl) rfl rfl ⟨rfl, rfl, rfl⟩ (.cons (resv_tmp rfl) .nil)))
  · refine Tr.cond_f rfl (bf_dec h8) ?_
    refine Tr.skip (qthen_n ?_)
    refine Tr.seq ?_
    refine Tr.seq ?_
    refine Tr.region ?_
    refine TrL.v (v_assign rfl rfl) rfl rfl (bl rfl) ?_
    refine TrL.nil (qthen_n ?_)
    obtain ⟨x2, hx3, H⟩ := bnd H
    refine Tr.cutE (D := Unit) (M := Unit) .ret (fun d3 => x2 = .inl d3) (fun d3 m9 => ⟨[(4, .bool false)], [], [], []⟩) ?_ (fun d3 m9 hd3 => ?_)
    · refine Tr.cutE (D := Unit) (M := Unit) .normal (fun d4 => x2 = .inr d4) (fun d4 m10 => ⟨[], [], [], []⟩) ?_ (fun d4 m10 hd4 => ?_)
      · refine Tr.block (Tr.loopI (ι := Unit) (step := ref12_Events_s0 p1 p2) (fun s5 m7 => ⟨[(0, .slice A1 p1.length c1), (1, .slice A2 p2.length c2), (5, .int .i64 s5)], [], [slF rp_u64_u64_u64 A1 c1 p1, slF rp_u64_u64_u64 A2 c2 p2], []⟩) (()) hx3 (Imp.re _ [] [0, 1] (sc rfl (sc rfl (sc rfl sn))) (by decide) rfl rfl rfl) (fun s5 m7 y2 hy2 hx4 => ?_))
        unfold ref12_Events_s0 at hy2
        refine Tr.seq ?_
        refine Tr.seq ?_
        refine Tr.region ?_
        refine TrL.v (v_move rfl rfl) rfl rfl (bl rfl) ?_
        refine TrL.v (v_move rfl rfl) rfl rfl (bl rfl) ?_
        refine TrL.v (v_len rfl sl71 rfl) rfl rfl (bl rfl) ?_
        refine TrL.v (v_arith rfl rfl rfl ar_lss) rfl rfl (bl rfl) ?_
        refine TrL.nil (qthen_n ?_)
        rcases ifc hy2 with ⟨h13, hy2⟩ | ⟨h13, hy2⟩
        · refine Tr.cond_t rfl (bt_dec h13) ?_
          refine Tr.skip (qthen_n ?_)
          refine Tr.seq ?_
          refine Tr.block ?_
          refine Tr.seq ?_
          refine Tr.regionD drawn (fun hok => ?_)
          refine TrAny.prom (i := 0) (d := 17) hok (OpVal.plain rfl rfl (v_move rfl rfl)) (by kernel_rfl) rfl (bl rfl) ?_
          clear hok
          intro hok
          refine TrAny.prom (i := 1) (d := 18) hok (OpVal.plain rfl rfl (v_move rfl rfl)) (by kernel_rfl) rfl (bl rfl) ?_
          clear hok
          intro hok
          obtain ⟨z23, hz23, hy2⟩ := bnd hy2
          refine TrAny.prom (i := 2) (d := 19) hok (OpVal.plain rfl rfl (v_indexAddr (k := 0) rfl sl71 ty85 rfl rfl rfl rfl hz23)) (by kernel_rfl) rfl (bl rfl) ?_
          clear hok
          intro hok
          refine TrAny.prom (i := 3) (d := 20) hok (OpVal.plain rfl rfl (v_loadg (A := A1) (i := s5) (j := 0) (k := 0) rfl ty85 nofun rfl rfl hz23 rfl rfl)) (by kernel_rfl) rfl (bl rfl) ?_
          clear hok
          intro hok
          refine TrAny.prom (i := 4) (d := 21) hok (OpVal.plain rfl rfl (v_move rfl rfl)) (by kernel_rfl) rfl (bl rfl) ?_
          clear hok
          intro hok
          refine TrAny.prom (i := 5) (d := 22) hok (OpVal.plain rfl rfl (v_move rfl rfl)) (by kernel_rfl) rfl (bl rfl) ?_
          clear hok
          intro hok
          obtain ⟨z24, hz24, hy2⟩ := bnd hy2
          refine TrAny.prom (i := 6) (d := 23) hok (OpVal.plain rfl rfl (v_indexAddr (k := 1) rfl sl71 ty85 rfl rfl rfl rfl hz24)) (by kernel_rfl) rfl (bl rfl) ?_
          clear hok
          intro hok
          refine TrAny.prom (i := 7) (d := 24) hok (OpVal.plain rfl rfl (v_loadg (A := A2) (i := s5) (j := 0) (k := 1) rfl ty85 nofun rfl rfl hz24 rfl rfl)) (by kernel_rfl) rfl (bl rfl) ?_
          clear hok
          intro hok
          refine TrAny.prom (i := 8) (d := 25) hok (OpVal.plain rfl rfl (v_nes rfl if85 eg85 rfl rfl (eqc_cons rfl rfl (eqc_cons rfl rfl (eqc_cons rfl rfl eqc_nil))))) (by kernel_rfl) rfl (bl rfl) ?_
          clear hok
          intro hok
          refine TrAny.done (by kernel_rfl) (by kernel_rfl) hok (by kernel_rfl) (qthen_n ?_)
          rcases ifc hy2 with ⟨h14, hy2⟩ | ⟨h14, hy2⟩
          · refine Tr.cond_t rfl (bt_dec h14) ?_
            refine Tr.seq ?_
            refine Tr.region ?_
            refine TrL.v (v_assign rfl rfl) rfl rfl (bl rfl) ?_
            refine TrL.nil (qthen_n ?_)
            have hz := Option.some.inj hy2
            subst hz
            refine Tr.ret (qblock_r (qthen_r (qloop_r (qblock_r (qcut_miss (by simp) (qcut_hit (()) (()) (hx4 _ rfl).symm (Imp.re _ [] [] (sc rfl sn) (by decide) rfl rfl rfl)))))))
          · refine Tr.cond_f rfl (bf_dec h14) ?_
            refine Tr.skip (qblock_n (qthen_n ?_))
            refine Tr.region ?_
            refine TrL.v (v_move rfl rfl) rfl rfl (bl rfl) ?_
            refine TrL.v (v_arith rfl rfl rfl ar_add_i64) rfl rfl (bl rfl) ?_
            refine TrL.v (v_assign rfl rfl) rfl rfl (bl rfl) ?_
            have hz := Option.some.inj hy2
            subst hz
            refine TrL.nil (qloop_n (()) (Imp.re _ [] [0, 1] (sc rfl (sc rfl (sc rfl sn))) (by decide) rfl rfl rfl))
        · refine Tr.cond_f rfl (bf_dec h13) ?_
          have hz := Option.some.inj hy2
          subst hz
          refine Tr.exit (qthen_x (qloop_x (qblock_hit (qcut_hit (()) (()) (hx4 _ rfl).symm (Imp.re _ [] [] sn (by decide) rfl rfl rfl)))))
      · subst hd4
        replace H := sumr H
        refine (qcut_miss (by simp) (qthen_n ?_))
        refine Tr.seq ?_
        refine Tr.region ?_
        refine TrL.v (v_assign rfl rfl) rfl rfl (bl rfl) ?_
        refine TrL.nil (qthen_n ?_)
        have hz := Option.some.inj H
        subst hz
        refine Tr.ret (ret_r ⟨[(4, .bool true)], [], [], []⟩ [.bool true] [] [] (Imp.re _ [] [] (sc rfl sn) (by decide) rfl rfl rfl) rfl rfl ⟨rfl, rfl, rfl⟩ (.cons (resv_tmp rfl) .nil))
    · subst hd3
      replace H := suml H
      have hz := Option.some.inj H
      subst hz
      refine (qthen_r (ret_r ⟨[(4, .bool false)], [], [], []⟩ [.bool false] [] [] (Imp.re _ [] [] (sc rfl sn) (by decide) rfl rfl rfl) rfl rfl ⟨rfl, rfl, rfl⟩ (.cons (resv_tmp rfl) .nil)))
end Go.Proofs.Ytbeknohemgjfbaa.W
