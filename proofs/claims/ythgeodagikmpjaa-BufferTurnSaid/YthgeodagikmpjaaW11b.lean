/- The contracts of the walked functions: the printed walks. -/
import Derived.Test.YthgeodagikmpjaaKb
import Derived.Test.YthgeodagikmpjaaQb
import Derived.Test.YthgeodagikmpjaaWbufferab
import Derived.Test.YthgeodagikmpjaaWbufferbb
import Derived.Test.YthgeodagikmpjaaWlaw12ab
namespace Go.Proofs.Ythgeodagikmpjaa.W
open Go Go.Proofs Go.Proofs.Ythgeodagikmpjaa.L Go.Proofs.Ythgeodagikmpjaa.Pu
set_option linter.unusedVariables false
set_option maxHeartbeats 4000000

theorem c_law12_BufferTurn (p1 : Int) (p2 : Int) (p3 : List Int) (A1 : Option Addr) (c1 : Nat) (r : Bool) (H : law12_BufferTurn p1 p2 p3 = some r) :
    Ctr Try.prog 11 [.int .u64 p1, .int .i64 p2, .slice A1 p3.length c1] [] [slF (rInt .u16) A1 c1 p3] (fun ret M' F' => ret = .bool r ∧ M' = [] ∧ F' = []) := by
  unfold law12_BufferTurn at H
  refine ctr_ofI (N := 134) Try.func11 rfl Try.ntmps11 rfl (Nat.le_of_ble_eq_true rfl) (fun γ0 w0 => ?_)
  refine Tr.seq ?_
  refine Tr.region ?_
  refine TrL.v (v_assign rfl rfl) rfl rfl (bl rfl) ?_
  refine TrL.nil (qthen_n ?_)
  refine Tr.seq ?_
  refine Tr.region ?_
  obtain ⟨r6, hr6, H⟩ := bnd H
  refine TrL.cons rfl (op_call0' (vs := []) (cap := []) [] rfl rfl (bl rfl) rfl rfl en38 (c_law12_awake r6 hr6) rfl (fun ret M' F' hR18 => ?_))
  obtain ⟨rfl, rfl, rfl⟩ := hR18
  refine TrL.v (v_assign rfl rfl) rfl rfl (bl rfl) ?_
  refine TrL.nil (qthen_n ?_)
  refine Tr.seq ?_
  refine Tr.seq ?_
  refine Tr.region ?_
  refine TrL.v (v_move rfl rfl) rfl rfl (bl rfl) ?_
  refine TrL.v (v_len rfl sl45 rfl) rfl rfl (bl rfl) ?_
  refine TrL.v (v_arith rfl rfl rfl ar_gtr) rfl rfl (bl rfl) ?_
  refine TrL.nil (qthen_n ?_)
  rcases ifc H with ⟨h43, H⟩ | ⟨h43, H⟩
  · refine Tr.cond_t rfl (bt_dec h43) ?_
    refine Tr.seq ?_
    refine Tr.region ?_
    refine TrL.v (v_move rfl rfl) rfl rfl (bl rfl) ?_
    refine TrL.v (v_assign rfl rfl) rfl rfl (bl rfl) ?_
    refine TrL.nil (qthen_n ?_)
    have hz := Option.some.inj H
    subst hz
    refine Tr.ret (qthen_r (ret_r ⟨[(6, .bool r6)], [], [], []⟩ [.bool r6] [] [] (Imp.re _ [] [] (sc rfl sn) (by decide) rfl rfl rfl) rfl rfl ⟨rfl, rfl, rfl⟩ (.cons (resv_tmp rfl) .nil)))
  · refine Tr.cond_f rfl (bf_dec h43) ?_
    refine Tr.skip (qthen_n ?_)
    refine Tr.seq ?_
    refine Tr.region ?_
    refine TrL.v (v_move rfl rfl) rfl rfl (bl rfl) ?_
    refine TrL.v (v_rem rfl rfl rfl (by decide)) rfl rfl (bl rfl) ?_
    refine TrL.v (v_move rfl rfl) rfl rfl (bl rfl) ?_
    refine TrL.v (v_max rfl rfl rfl) rfl rfl (bl rfl) ?_
    refine TrL.v (v_rem rfl rfl rfl (by decide)) rfl rfl (bl rfl) ?_
    refine TrL.v (v_arith rfl rfl rfl ar_add_i64) rfl rfl (bl rfl) ?_
    obtain ⟨r7, hr7, H⟩ := bnd H
    refine TrL.cons rfl (op_call0' (vs := [.int .u64 (p1.tmod 1000), .int .i64 (wi64 (1 + ((max p2 0).tmod 50)))]) (cap := []) [] rfl rfl (bl rfl) rfl rfl en39 (c_buffer_New (p1.tmod 1000) (wi64 (1 + ((max p2 0).tmod 50))) r7 hr7) rfl (fun ret M' F' hR19 => ?_))
    obtain ⟨rfl, rfl, rfl⟩ := hR19
    refine TrL.v (v_move rfl rfl) rfl rfl (bl rfl) ?_
    refine TrL.v (v_extract rfl rfl rfl) rfl rfl (bl rfl) ?_
    refine TrL.v (v_extract rfl rfl rfl) rfl rfl (bl rfl) ?_
    refine TrL.cons rfl (op_alloc' rfl (bl rfl) rfl ze48 (fun b17 => ?_))
    refine TrL.cons rfl (op_store' (k := 0) (c' := [.int .u64 r7.1, .int .i64 r7.2.1, .int .u64 0, .int .u64 0, .slice none 0 0]) rfl rfl rfl rfl rfl ty48 rfl (Nat.le_of_ble_eq_true rfl) (ones (oc rfl (oc rfl (oc rfl (oc rfl (oc rfl on)))))) rfl ?_)
    refine TrL.v (v_assign rfl rfl) rfl rfl (bl rfl) ?_
    refine TrL.nil (qthen_n ?_)
    refine Tr.seq ?_
    refine Tr.region ?_
    refine TrL.v (v_assign rfl rfl) rfl rfl (bl rfl) ?_
    refine TrL.nil (qthen_n ?_)
    refine Tr.seq ?_
    refine Tr.region ?_
    refine TrL.v (v_assign rfl rfl) rfl rfl (bl rfl) ?_
    refine TrL.nil (qthen_n ?_)
    refine Tr.seq ?_
    refine Tr.seq ?_
    refine Tr.region ?_
    refine TrL.v (v_assign rfl rfl) rfl rfl (bl rfl) ?_
    refine TrL.nil (qthen_n ?_)
    obtain ⟨x3, hx5, H⟩ := bnd H
    refine Tr.cutE (D := (List (Int × Int × Int)) × Int × Int × Int × Int × Int × List (Int × Int × Int)) (M := Option Addr × Nat × Option Addr × Nat × Option Nat) .normal (fun _d => x3 = _d) (fun x3 m47 => ⟨[(7, .bool r6), (8, .pointer (some ⟨b17, 0, none⟩)), (10, .slice m47.1 x3.1.length m47.2.1), (11, .int .u64 x3.2.1)], [cells b17 [.int .u64 x3.2.2.1, .int .i64 x3.2.2.2.1, .int .u64 x3.2.2.2.2.1, .int .u64 x3.2.2.2.2.2.1, .slice m47.2.2.1 x3.2.2.2.2.2.2.length m47.2.2.2.1] 48, grow 55 3 (.slice m47.1 x3.1.length m47.2.1) x3.1.length m47.2.2.2.2], [slF rp_u64_u64_u64 m47.1 m47.2.1 x3.1, slF rp_u64_u64_u64 m47.2.2.1 m47.2.2.2.1 x3.2.2.2.2.2.2], []⟩) ?_ (fun x3 m47 hd4 => ?_)
    · refine Tr.block (Tr.loopI (ι := Option Addr × Nat × Option Addr × Nat × Option Nat) (step := law12_BufferTurn_s0 p3) (fun s8 m39 => ⟨[(2, .slice A1 p3.length c1), (7, .bool r6), (8, .pointer (some ⟨b17, 0, none⟩)), (10, .slice m39.1 s8.1.length m39.2.1), (11, .int .u64 s8.2.1), (12, .int .i64 s8.2.2.1)], [cells b17 [.int .u64 s8.2.2.2.1, .int .i64 s8.2.2.2.2.1, .int .u64 s8.2.2.2.2.2.1, .int .u64 s8.2.2.2.2.2.2.1, .slice m39.2.2.1 s8.2.2.2.2.2.2.2.length m39.2.2.2.1] 48, grow 55 3 (.slice m39.1 s8.1.length m39.2.1) s8.1.length m39.2.2.2.2], [slF (rInt .u16) A1 c1 p3, slF rp_u64_u64_u64 m39.1 m39.2.1 s8.1, slF rp_u64_u64_u64 m39.2.2.1 m39.2.2.2.1 s8.2.2.2.2.2.2.2], []⟩) ((none, 0, none, 0, none)) hx5 (Imp.full' (E := 55) (sz := 3) (A := none) (n := 0) (Imp.re _ [1, 0] [0, 1, 1] (sc rfl (sc rfl (sc rfl (sc rfl (sc rfl (sc rfl sn)))))) (by decide) rfl rfl rfl)) (fun s8 m39 y3 hy3 hx6 => ?_))
      unfold law12_BufferTurn_s0 at hy3
      refine Tr.seq ?_
      refine Tr.seq ?_
      refine Tr.region ?_
      refine TrL.v (v_move rfl rfl) rfl rfl (bl rfl) ?_
      refine TrL.v (v_move rfl rfl) rfl rfl (bl rfl) ?_
      refine TrL.v (v_len rfl sl45 rfl) rfl rfl (bl rfl) ?_
      refine TrL.v (v_arith rfl rfl rfl ar_lss) rfl rfl (bl rfl) ?_
      refine TrL.nil (qthen_n ?_)
      rcases ifc hy3 with ⟨h50, hy3⟩ | ⟨h50, hy3⟩
      · refine Tr.cond_t rfl (bt_dec h50) ?_
        refine Tr.skip (qthen_n ?_)
        refine Tr.seq ?_
        refine Tr.block ?_
        refine Tr.seq ?_
        refine Tr.regionD drawn (fun hok => ?_)
        obtain ⟨z23, hz23, hy3⟩ := bnd hy3
        obtain ⟨r10, hr10, hy3⟩ := bnd hy3
        refine TrAny.cut (ι := Nat × Option Addr × Nat × Option Addr × Nat) (fun m51 => ⟨[(2, .slice A1 p3.length c1), (7, .bool r6), (8, .pointer (some ⟨b17, 0, none⟩)), (10, .slice m39.1 s8.1.length m39.2.1), (11, .int .u64 s8.2.1), (12, .int .i64 s8.2.2.1), (13, .pointer (some ⟨m51.1, 0, none⟩)), (14, .slice m51.2.1 r10.2.2.2.2.2.1.length m51.2.2.1), (15, .int .i64 r10.2.2.2.2.2.2)], [cells b17 [.int .u64 s8.2.2.2.1, .int .i64 s8.2.2.2.2.1, .int .u64 s8.2.2.2.2.2.1, .int .u64 s8.2.2.2.2.2.2.1, .slice m39.2.2.1 s8.2.2.2.2.2.2.2.length m39.2.2.2.1] 48, cells m51.1 [.int .u64 r10.1, .int .i64 r10.2.1, .int .u64 r10.2.2.1, .int .u64 r10.2.2.2.1, .slice m51.2.2.2.1 r10.2.2.2.2.1.length m51.2.2.2.2] 48, grow 55 3 (.slice m39.1 s8.1.length m39.2.1) s8.1.length m39.2.2.2.2], [slF (rInt .u16) A1 c1 p3, slF rp_u64_u64_u64 m39.1 m39.2.1 s8.1, slF rp_u64_u64_u64 m51.2.1 m51.2.2.1 r10.2.2.2.2.2.1, slF rp_u64_u64_u64 m39.2.2.1 m39.2.2.2.1 s8.2.2.2.2.2.2.2, slF rp_u64_u64_u64 m51.2.2.2.1 m51.2.2.2.2 r10.2.2.2.2.1], []⟩) ?_ (fun m51 => ?_)
        · refine TrAny.prom (i := 0) (d := 40) hok (OpVal.plain rfl rfl (v_load (k := 0) rfl rfl rfl ty48 nofun rfl rfl)) (by kernel_rfl) rfl (bl rfl) ?_
          clear hok
          intro hok
          refine TrAny.prom (i := 1) (d := 41) hok (OpVal.plain rfl rfl (v_move rfl rfl)) (by kernel_rfl) rfl (bl rfl) ?_
          clear hok
          intro hok
          refine TrAny.prom (i := 2) (d := 42) hok (OpVal.plain rfl rfl (v_move rfl rfl)) (by kernel_rfl) rfl (bl rfl) ?_
          clear hok
          intro hok
          refine TrAny.prom (i := 3) (d := 43) hok (OpVal.plain rfl rfl (v_indexAddr (k := 0) rfl sl45 ty53 rfl rfl rfl rfl hz23)) (by kernel_rfl) rfl (bl rfl) ?_
          clear hok
          intro hok
          refine TrAny.prom (i := 4) (d := 44) hok (OpVal.plain rfl rfl (v_loadg (A := A1) (i := s8.2.2.1) (j := 0) (k := 0) rfl ty53 (fun _ => rfl) rfl rfl hz23 rfl rfl)) (by kernel_rfl) rfl (bl rfl) ?_
          clear hok
          intro hok
          refine TrAny.prom (i := 5) (d := 45) hok (OpVal.plain rfl rfl (v_conv' rfl ⟨_, Try.underlying53⟩ Try.underlying22 rfl wrap_u64')) (by kernel_rfl) rfl (bl rfl) ?_
          clear hok
          intro hok
          refine TrAny.prom (i := 6) (d := 46) hok (OpVal.plain rfl rfl (v_move rfl rfl)) (by kernel_rfl) rfl (bl rfl) ?_
          clear hok
          intro hok
          refine TrAny.prom (i := 7) (d := 47) hok (OpVal.plain rfl rfl (v_conv' rfl ⟨_, Try.underlying3⟩ Try.underlying22 rfl wrap_u64')) (by kernel_rfl) rfl (bl rfl) ?_
          clear hok
          intro hok
          refine TrAny.prom (i := 8) (d := 48) hok (OpVal.plain rfl rfl (v_move rfl rfl)) (by kernel_rfl) rfl (bl rfl) ?_
          clear hok
          intro hok
          refine TrAny.prom (i := 9) (d := 49) hok (OpVal.plain rfl rfl (v_conv' rfl ⟨_, Try.underlying3⟩ Try.underlying22 rfl wrap_u64')) (by kernel_rfl) rfl (bl rfl) ?_
          clear hok
          intro hok
          refine TrAny.prom (i := 10) (d := 50) hok (OpVal.plain rfl rfl (v_arith rfl rfl rfl ar_add_u64)) (by kernel_rfl) rfl (bl rfl) ?_
          clear hok
          intro hok
          refine TrAny.prom (i := 11) (d := 51) hok (OpVal.plain rfl rfl (v_build (vs := [.int .u64 (wu64 z23), .int .u64 (wu64 s8.2.2.1), .int .u64 (wu64 ((wu64 s8.2.2.1) + 1))]) (out := [.int .u64 (wu64 z23), .int .u64 (wu64 s8.2.2.1), .int .u64 (wu64 ((wu64 s8.2.2.1) + 1))]) rfl pl55 ze55 rfl rfl)) (by kernel_rfl) rfl (bl rfl) ?_
          clear hok
          intro hok
          refine TrAny.fork [12, 17] (by kernel_rfl) hok ⟨12, by decide, bl rfl⟩ (by kernel_rfl) (.cons ?_ (.cons ?_ .nil))
          · refine step_n rfl (by kernel_rfl) rfl (op_call0' (vs := [.agg #[.int .u64 s8.2.2.2.1, .int .i64 s8.2.2.2.2.1, .int .u64 s8.2.2.2.2.2.1, .int .u64 s8.2.2.2.2.2.2.1, .slice m39.2.2.1 s8.2.2.2.2.2.2.2.length m39.2.2.2.1], .agg #[.int .u64 (wu64 z23), .int .u64 (wu64 s8.2.2.1), .int .u64 (wu64 ((wu64 s8.2.2.1) + 1))]]) (cap := []) [2] rfl rfl (bl rfl) rfl rfl en40 (c_buffer_Push s8.2.2.2 ((wu64 z23, wu64 s8.2.2.1, wu64 ((wu64 s8.2.2.1) + 1))) m39.2.2.1 m39.2.2.2.1 r10 hr10) rfl (fun ret M' F' hR33 => ?_))
            obtain ⟨m52, rfl, rfl, rfl⟩ := hR33
            refine nxp hok (kp_imp (kp_c0 rfl)) rfl (by kernel_rfl) ?_
            clear hok
            intro hok
            refine TrAny.prom (i := 13) (d := 39) hok (OpVal.plain rfl rfl (v_move rfl rfl)) (by kernel_rfl) rfl (bl rfl) ?_
            clear hok
            intro hok
            refine TrAny.prom (i := 14) (d := 53) hok (OpVal.plain rfl rfl (v_extract rfl rfl rfl)) (by kernel_rfl) rfl (bl rfl) ?_
            clear hok
            intro hok
            refine TrAny.prom (i := 15) (d := 54) hok (OpVal.plain rfl rfl (v_extract rfl rfl rfl)) (by kernel_rfl) rfl (bl rfl) ?_
            clear hok
            intro hok
            refine TrAny.prom (i := 16) (d := 55) hok (OpVal.plain rfl rfl (v_extract rfl rfl rfl)) (by kernel_rfl) rfl (bl rfl) ?_
            clear hok
            intro hok
            refine TrAny.prom (i := 19) (d := 14) hok (OpVal.plain rfl rfl (v_assign rfl rfl)) (by kernel_rfl) rfl (bl rfl) ?_
            clear hok
            intro hok
            refine TrAny.prom (i := 20) (d := 15) hok (OpVal.plain rfl rfl (v_assign rfl rfl)) (by kernel_rfl) rfl (bl rfl) ?_
            clear hok
            intro hok
            refine TrAny.next (j := 17) (by kernel_rfl) hok rfl (by kernel_rfl) (op_alloc' rfl (bl rfl) rfl ze48 (fun b31 => ?_))
            refine nxp hok (kp_imp (kp_cm rfl)) rfl (by kernel_rfl) ?_
            clear hok
            intro hok
            refine TrAny.next (j := 18) (by kernel_rfl) hok rfl (by kernel_rfl) (op_store' (k := 0) (c' := [.int .u64 r10.1, .int .i64 r10.2.1, .int .u64 r10.2.2.1, .int .u64 r10.2.2.2.1, .slice m52.1 r10.2.2.2.2.1.length m52.2.1]) rfl rfl rfl rfl rfl ty48 rfl (Nat.le_of_ble_eq_true rfl) (ones (oc rfl (oc rfl (oc rfl (oc rfl (oc rfl on)))))) rfl ?_)
            refine nxs hok (kp_all (ac (.inl (by kernel_rfl)) (ac (.inl (by kernel_rfl)) (ac (.inl (by kernel_rfl)) (ac (.inl (by kernel_rfl)) (ac (.inl (by kernel_rfl)) (ac (.inl (by kernel_rfl)) (ac (.inl (by kernel_rfl)) (ac (.inl (by kernel_rfl)) (ac (.inl (by kernel_rfl)) (ac (.inl (by kernel_rfl)) (ac (.inl (by kernel_rfl)) (ac (.inl (by kernel_rfl)) (ac (.inl (by kernel_rfl)) (ac (.inl (by kernel_rfl)) (ac (.inr (OpVal.plain rfl rfl (v_extract rfl rfl rfl))) (ac (.inr (OpVal.plain rfl rfl (v_extract rfl rfl rfl))) (ac (.inr (OpVal.plain rfl rfl (v_assign rfl rfl))) (ac (.inr (OpVal.plain rfl rfl (v_assign rfl rfl))) an))))))))))))))))))) rfl ?_
            clear hok
            intro hok
            refine TrAny.done (by kernel_rfl) (by kernel_rfl) hok (by kernel_rfl) (⟨(b31, m52.2.2.1, m52.2.2.2, m52.1, m52.2.1), Imp.re _ [1, 0, 2] [0, 1, 4, 2, 3] (sc rfl (sc rfl (sc rfl (sc rfl (sc rfl (sc rfl (sc rfl (sc rfl (sc rfl sn))))))))) (by decide) rfl rfl rfl⟩)
          · refine step_n rfl (by kernel_rfl) rfl (op_alloc' rfl (bl rfl) rfl ze48 (fun b32 => ?_))
            refine nxp hok (kp_imp (kp_cm rfl)) rfl (by kernel_rfl) ?_
            clear hok
            intro hok
            refine TrAny.next (j := 12) (by kernel_rfl) hok rfl (by kernel_rfl) (op_call0' (vs := [.agg #[.int .u64 s8.2.2.2.1, .int .i64 s8.2.2.2.2.1, .int .u64 s8.2.2.2.2.2.1, .int .u64 s8.2.2.2.2.2.2.1, .slice m39.2.2.1 s8.2.2.2.2.2.2.2.length m39.2.2.2.1], .agg #[.int .u64 (wu64 z23), .int .u64 (wu64 s8.2.2.1), .int .u64 (wu64 ((wu64 s8.2.2.1) + 1))]]) (cap := []) [2] rfl rfl (bl rfl) rfl rfl en40 (c_buffer_Push s8.2.2.2 ((wu64 z23, wu64 s8.2.2.1, wu64 ((wu64 s8.2.2.1) + 1))) m39.2.2.1 m39.2.2.2.1 r10 hr10) rfl (fun ret M' F' hR34 => ?_))
            obtain ⟨m53, rfl, rfl, rfl⟩ := hR34
            refine nxp hok (kp_imp (kp_c0 rfl)) rfl (by kernel_rfl) ?_
            clear hok
            intro hok
            refine TrAny.prom (i := 13) (d := 39) hok (OpVal.plain rfl rfl (v_move rfl rfl)) (by kernel_rfl) rfl (bl rfl) ?_
            clear hok
            intro hok
            refine TrAny.prom (i := 14) (d := 53) hok (OpVal.plain rfl rfl (v_extract rfl rfl rfl)) (by kernel_rfl) rfl (bl rfl) ?_
            clear hok
            intro hok
            refine TrAny.prom (i := 15) (d := 54) hok (OpVal.plain rfl rfl (v_extract rfl rfl rfl)) (by kernel_rfl) rfl (bl rfl) ?_
            clear hok
            intro hok
            refine TrAny.prom (i := 16) (d := 55) hok (OpVal.plain rfl rfl (v_extract rfl rfl rfl)) (by kernel_rfl) rfl (bl rfl) ?_
            clear hok
            intro hok
            refine TrAny.prom (i := 19) (d := 14) hok (OpVal.plain rfl rfl (v_assign rfl rfl)) (by kernel_rfl) rfl (bl rfl) ?_
            clear hok
            intro hok
            refine TrAny.prom (i := 20) (d := 15) hok (OpVal.plain rfl rfl (v_assign rfl rfl)) (by kernel_rfl) rfl (bl rfl) ?_
            clear hok
            intro hok
            refine TrAny.next (j := 18) (by kernel_rfl) hok rfl (by kernel_rfl) (op_store' (k := 0) (c' := [.int .u64 r10.1, .int .i64 r10.2.1, .int .u64 r10.2.2.1, .int .u64 r10.2.2.2.1, .slice m53.1 r10.2.2.2.2.1.length m53.2.1]) rfl rfl rfl rfl rfl ty48 rfl (Nat.le_of_ble_eq_true rfl) (ones (oc rfl (oc rfl (oc rfl (oc rfl (oc rfl on)))))) rfl ?_)
            refine nxs hok (kp_all (ac (.inl (by kernel_rfl)) (ac (.inl (by kernel_rfl)) (ac (.inl (by kernel_rfl)) (ac (.inl (by kernel_rfl)) (ac (.inl (by kernel_rfl)) (ac (.inl (by kernel_rfl)) (ac (.inl (by kernel_rfl)) (ac (.inl (by kernel_rfl)) (ac (.inl (by kernel_rfl)) (ac (.inl (by kernel_rfl)) (ac (.inl (by kernel_rfl)) (ac (.inl (by kernel_rfl)) (ac (.inl (by kernel_rfl)) (ac (.inl (by kernel_rfl)) (ac (.inr (OpVal.plain rfl rfl (v_extract rfl rfl rfl))) (ac (.inr (OpVal.plain rfl rfl (v_extract rfl rfl rfl))) (ac (.inr (OpVal.plain rfl rfl (v_assign rfl rfl))) (ac (.inr (OpVal.plain rfl rfl (v_assign rfl rfl))) an))))))))))))))))))) rfl ?_
            clear hok
            intro hok
            refine TrAny.done (by kernel_rfl) (by kernel_rfl) hok (by kernel_rfl) (⟨(b32, m53.2.2.1, m53.2.2.2, m53.1, m53.2.1), Imp.re _ [1, 0, 2] [0, 1, 4, 2, 3] (sc rfl (sc rfl (sc rfl (sc rfl (sc rfl (sc rfl (sc rfl (sc rfl (sc rfl sn))))))))) (by decide) rfl rfl rfl⟩)
        · refine (qthen_n ?_)
          refine Tr.seq ?_
          refine Tr.region ?_
          refine TrL.v (v_move rfl rfl) rfl rfl (bl rfl) ?_
          refine TrL.v (v_arith rfl rfl rfl ar_eql) rfl rfl (bl rfl) ?_
          refine TrL.nil (qthen_n ?_)
          rcases ifc hy3 with ⟨h51, hy3⟩ | ⟨h51, hy3⟩
          · refine Tr.cond_t rfl (bt_dec h51) ?_
            refine Tr.seq ?_
            refine Tr.region ?_
            refine TrL.v (v_load (k := 1) rfl rfl rfl ty48 nofun rfl rfl) rfl rfl (bl rfl) ?_
            refine TrL.cons rfl (op_store' (k := 0) (c' := [.int .u64 r10.1, .int .i64 r10.2.1, .int .u64 r10.2.2.1, .int .u64 r10.2.2.2.1, .slice m51.2.2.2.1 r10.2.2.2.2.1.length m51.2.2.2.2]) rfl rfl rfl rfl rfl ty48 rfl (Nat.le_of_ble_eq_true rfl) (ones (oc rfl (oc rfl (oc rfl (oc rfl (oc rfl on)))))) rfl ?_)
            refine TrL.nil (qthen_n ?_)
            refine Tr.seq ?_
            refine Tr.region ?_
            refine TrL.v (v_move rfl rfl) rfl rfl (bl rfl) ?_
            refine TrL.v (v_move rfl rfl) rfl rfl (bl rfl) ?_
            obtain ⟨h52, hy3⟩ := rom hy3
            refine TrL.cons rfl (op_append' (rp := rp_u64_u64_u64) (xs := s8.1) (ys := r10.2.2.2.2.2.1) (k := 2) (kx := 1) (ky := 2) rfl (bl rfl) rfl sl46 ty55 ze55 rfl by55 rfl rfl rfl rfl rfl rfl rfl h52.1 h52.2 (fun A8 c8 o7 => ?_))
            refine TrL.v (v_assign rfl rfl) rfl rfl (bl rfl) ?_
            refine TrL.nil (qthen_n ?_)
            refine Tr.region ?_
            refine TrL.v (v_move rfl rfl) rfl rfl (bl rfl) ?_
            refine TrL.v (v_move rfl rfl) rfl rfl (bl rfl) ?_
            refine TrL.v (v_conv' rfl ⟨_, Try.underlying3⟩ Try.underlying22 rfl wrap_u64') rfl rfl (bl rfl) ?_
            refine TrL.v (v_arith rfl rfl rfl ar_add_u64) rfl rfl (bl rfl) ?_
            refine TrL.v (v_arith rfl rfl rfl ar_add_u64) rfl rfl (bl rfl) ?_
            refine TrL.v (v_assign rfl rfl) rfl rfl (bl rfl) ?_
            refine TrL.nil (qblock_n (qthen_n ?_))
            refine Tr.region ?_
            refine TrL.v (v_move rfl rfl) rfl rfl (bl rfl) ?_
            refine TrL.v (v_arith rfl rfl rfl ar_add_i64) rfl rfl (bl rfl) ?_
            refine TrL.v (v_assign rfl rfl) rfl rfl (bl rfl) ?_
            have hz := Option.some.inj hy3
            subst hz
            refine TrL.nil (qloop_n ((A8, c8, m51.2.2.2.1, m51.2.2.2.2, o7)) (Imp.re _ [0, 2] [0, 5, 4] (sc rfl (sc rfl (sc rfl (sc rfl (sc rfl (sc rfl sn)))))) (by decide) rfl rfl rfl))
          · refine Tr.cond_f rfl (bf_dec h51) ?_
            refine Tr.skip (qblock_n (qthen_n ?_))
            refine Tr.region ?_
            refine TrL.v (v_move rfl rfl) rfl rfl (bl rfl) ?_
            refine TrL.v (v_arith rfl rfl rfl ar_add_i64) rfl rfl (bl rfl) ?_
            refine TrL.v (v_assign rfl rfl) rfl rfl (bl rfl) ?_
            have hz := Option.some.inj hy3
            subst hz
            refine TrL.nil (qloop_n ((m39.1, m39.2.1, m39.2.2.1, m39.2.2.2.1, m39.2.2.2.2)) (Imp.re _ [0, 2] [0, 1, 3] (sc rfl (sc rfl (sc rfl (sc rfl (sc rfl (sc rfl sn)))))) (by decide) rfl rfl rfl))
      · refine Tr.cond_f rfl (bf_dec h50) ?_
        have hz := Option.some.inj hy3
        subst hz
        refine Tr.exit (qthen_x (qloop_x (qblock_hit (qcut_hit ((s8.1, s8.2.1, s8.2.2.2.1, s8.2.2.2.2.1, s8.2.2.2.2.2.1, s8.2.2.2.2.2.2.1, s8.2.2.2.2.2.2.2)) ((m39.1, m39.2.1, m39.2.2.1, m39.2.2.2.1, m39.2.2.2.2)) (hx6 _ rfl).symm (Imp.re _ [0, 1] [1, 2] (sc rfl (sc rfl (sc rfl (sc rfl sn)))) (by decide) rfl rfl rfl)))))
    · subst hd4
      refine (qthen_n ?_)
      refine Tr.seq ?_
      refine Tr.region ?_
      refine TrL.v (v_move rfl rfl) rfl rfl (bl rfl) ?_
      refine TrL.v (v_fieldAddr' rfl fo48_4 rfl rfl) rfl rfl (bl rfl) ?_
      refine TrL.v (v_load (k := 0) rfl rfl rfl ty46 (fun _ => rfl) rfl rfl) rfl rfl (bl rfl) ?_
      obtain ⟨h53, H⟩ := rom H
      refine TrL.cons rfl (op_append' (rp := rp_u64_u64_u64) (xs := x3.1) (ys := x3.2.2.2.2.2.2) (k := 1) (kx := 0) (ky := 1) rfl (bl rfl) rfl sl46 ty55 ze55 rfl by55 rfl rfl rfl rfl rfl rfl rfl h53.1 h53.2 (fun A9 c9 o8 => ?_))
      refine TrL.v (v_assign rfl rfl) rfl rfl (bl rfl) ?_
      refine TrL.nil (qthen_n ?_)
      refine Tr.seq ?_
      refine Tr.region ?_
      refine TrL.v (v_assign rfl rfl) rfl rfl (bl rfl) ?_
      refine TrL.nil (qthen_n ?_)
      refine Tr.seq ?_
      refine Tr.seq ?_
      refine Tr.region ?_
      refine TrL.v (v_assign rfl rfl) rfl rfl (bl rfl) ?_
      refine TrL.nil (qthen_n ?_)
      obtain ⟨x4, hx7, H⟩ := bnd H
      refine Tr.cutE (D := Unit) (M := Unit) .ret (fun d3 => x4 = .inl d3) (fun d3 m57 => ⟨[(6, .bool false)], [], [], []⟩) ?_ (fun d3 m57 hd5 => ?_)
      · refine Tr.cutE (D := Int) (M := Unit) .normal (fun d4 => x4 = .inr d4) (fun d4 m58 => ⟨[(7, .bool r6), (11, .int .u64 x3.2.1), (16, .int .u64 d4)], [], [], []⟩) ?_ (fun d4 m58 hd6 => ?_)
        · refine Tr.block (Tr.loopI (ι := Unit) (step := law12_BufferTurn_s1 x3) (fun s11 m55 => ⟨[(7, .bool r6), (10, .slice A9 ((x3.1 ++ x3.2.2.2.2.2.2).length) c9), (11, .int .u64 x3.2.1), (16, .int .u64 s11.1), (17, .int .i64 s11.2)], [grow 55 3 (.slice A9 ((x3.1 ++ x3.2.2.2.2.2.2).length) c9) ((x3.1 ++ x3.2.2.2.2.2.2).length) o8], [slF rp_u64_u64_u64 A9 c9 (x3.1 ++ x3.2.2.2.2.2.2)], []⟩) (()) hx7 (Imp.re _ [1] [2] (sc rfl (sc rfl (sc rfl (sc rfl (sc rfl sn))))) (by decide) rfl rfl rfl) (fun s11 m55 y4 hy4 hx8 => ?_))
          unfold law12_BufferTurn_s1 at hy4
          refine Tr.seq ?_
          refine Tr.seq ?_
          refine Tr.region ?_
          refine TrL.v (v_move rfl rfl) rfl rfl (bl rfl) ?_
          refine TrL.v (v_move rfl rfl) rfl rfl (bl rfl) ?_
          refine TrL.v (v_len rfl sl46 rfl) rfl rfl (bl rfl) ?_
          refine TrL.v (v_arith rfl rfl rfl ar_lss) rfl rfl (bl rfl) ?_
          refine TrL.nil (qthen_n ?_)
          rcases ifc hy4 with ⟨h69, hy4⟩ | ⟨h69, hy4⟩
          · refine Tr.cond_t rfl (bt_dec h69) ?_
            refine Tr.skip (qthen_n ?_)
            refine Tr.seq ?_
            refine Tr.block ?_
            refine Tr.seq ?_
            refine Tr.region ?_
            refine TrL.v (v_move rfl rfl) rfl rfl (bl rfl) ?_
            refine TrL.v (v_move rfl rfl) rfl rfl (bl rfl) ?_
            refine TrL.v (v_move rfl rfl) rfl rfl (bl rfl) ?_
            obtain ⟨z30, hz30, hy4⟩ := bnd hy4
            refine TrL.v (v_indexAddr (k := 0) rfl sl46 ty55 rfl rfl rfl rfl hz30) rfl rfl (bl rfl) ?_
            refine TrL.v (v_fieldAddr rfl fo55_2 rfl) rfl rfl (bl rfl) ?_
            refine TrL.v (v_loadg (A := A9) (i := s11.2) (j := 2) (k := 0) rfl ty22 (fun _ => rfl) rfl rfl hz30 rfl rfl) rfl rfl (bl rfl) ?_
            refine TrL.v (v_arith rfl rfl rfl ar_add_u64) rfl rfl (bl rfl) ?_
            refine TrL.v (v_assign rfl rfl) rfl rfl (bl rfl) ?_
            refine TrL.nil (qthen_n ?_)
            refine Tr.seq ?_
            refine Tr.regionD drawn (fun hok => ?_)
            refine TrAny.prom (i := 0) (d := 84) hok (OpVal.plain rfl rfl (v_move rfl rfl)) (by kernel_rfl) rfl (bl rfl) ?_
            clear hok
            intro hok
            refine TrAny.prom (i := 1) (d := 85) hok (OpVal.plain rfl rfl (v_arith rfl rfl rfl ar_gtr)) (by kernel_rfl) rfl (bl rfl) ?_
            clear hok
            intro hok
            refine TrAny.prom (i := 2) (d := 86) hok (OpVal.plain rfl rfl (v_move rfl rfl)) (by kernel_rfl) rfl (bl rfl) ?_
            clear hok
            intro hok
            rcases ifc hy4 with ⟨h79, hy4⟩ | ⟨h79, hy4⟩
            · refine TrAny.prom (i := 3) (d := 87) hok (OpVal.yes rfl rfl rfl rfl (bt_dec h79) (v_move rfl rfl)) (by kernel_rfl) rfl (bl rfl) ?_
              clear hok
              intro hok
              refine TrAny.prom (i := 4) (d := 88) hok (OpVal.yes rfl rfl rfl rfl (bt_dec h79) (v_move rfl rfl)) (by kernel_rfl) rfl (bl rfl) ?_
              clear hok
              intro hok
              refine TrAny.prom (i := 5) (d := 89) hok (OpVal.yes rfl rfl rfl rfl (bt_dec h79) (v_indexAddr (k := 0) rfl sl46 ty55 rfl rfl rfl rfl hz30)) (by kernel_rfl) rfl (bl rfl) ?_
              clear hok
              intro hok
              refine TrAny.prom (i := 6) (d := 90) hok (OpVal.yes rfl rfl rfl rfl (bt_dec h79) (v_fieldAddr rfl fo55_0 rfl)) (by kernel_rfl) rfl (bl rfl) ?_
              clear hok
              intro hok
              refine TrAny.prom (i := 7) (d := 91) hok (OpVal.yes rfl rfl rfl rfl (bt_dec h79) (v_loadg (A := A9) (i := s11.2) (j := 0) (k := 0) rfl ty22 (fun _ => rfl) rfl rfl hz30 rfl rfl)) (by kernel_rfl) rfl (bl rfl) ?_
              clear hok
              intro hok
              refine TrAny.prom (i := 8) (d := 92) hok (OpVal.yes rfl rfl rfl rfl (bt_dec h79) (v_move rfl rfl)) (by kernel_rfl) rfl (bl rfl) ?_
              clear hok
              intro hok
              refine TrAny.prom (i := 9) (d := 93) hok (OpVal.yes rfl rfl rfl rfl (bt_dec h79) (v_move rfl rfl)) (by kernel_rfl) rfl (bl rfl) ?_
              clear hok
              intro hok
              refine TrAny.prom (i := 10) (d := 94) hok (OpVal.yes rfl rfl rfl rfl (bt_dec h79) (v_arith rfl rfl rfl ar_sub_i64)) (by kernel_rfl) rfl (bl rfl) ?_
              clear hok
              intro hok
              obtain ⟨z34, hz34, hy4⟩ := bnd hy4
              refine TrAny.prom (i := 11) (d := 95) hok (OpVal.yes rfl rfl rfl rfl (bt_dec h79) (v_indexAddr (k := 0) rfl sl46 ty55 rfl rfl rfl rfl hz34)) (by kernel_rfl) rfl (bl rfl) ?_
              clear hok
              intro hok
              refine TrAny.prom (i := 12) (d := 96) hok (OpVal.yes rfl rfl rfl rfl (bt_dec h79) (v_fieldAddr rfl fo55_0 rfl)) (by kernel_rfl) rfl (bl rfl) ?_
              clear hok
              intro hok
              refine TrAny.prom (i := 13) (d := 97) hok (OpVal.yes rfl rfl rfl rfl (bt_dec h79) (v_loadg (A := A9) (i := (wi64 (s11.2 - 1))) (j := 0) (k := 0) rfl ty22 (fun _ => rfl) rfl rfl hz34 rfl rfl)) (by kernel_rfl) rfl (bl rfl) ?_
              clear hok
              intro hok
              refine TrAny.prom (i := 14) (d := 98) hok (OpVal.yes rfl rfl rfl rfl (bt_dec h79) (v_arith rfl rfl rfl ar_lss)) (by kernel_rfl) rfl (bl rfl) ?_
              clear hok
              intro hok
              refine TrAny.prom (i := 15) (d := 99) hok (OpVal.yes rfl rfl rfl rfl (bt_dec h79) (v_move rfl rfl)) (by kernel_rfl) rfl (bl rfl) ?_
              clear hok
              intro hok
              rcases ifc hy4 with ⟨h80, hy4⟩ | ⟨h80, hy4⟩
              · refine TrAny.prom (i := 16) (d := 100) hok (OpVal.no rfl (fun c h => by cases h) rfl rfl rfl (gn_f (bt_dec h80))) (by kernel_rfl) rfl (bl rfl) ?_
                clear hok
                intro hok
                refine TrAny.prom (i := 17) (d := 101) hok (OpVal.no rfl (fun c h => by cases h) rfl rfl rfl (gn_f (bt_dec h80))) (by kernel_rfl) rfl (bl rfl) ?_
                clear hok
                intro hok
                refine TrAny.prom (i := 18) (d := 102) hok (OpVal.no rfl (fun c h => by cases h) rfl rfl rfl (gn_f (bt_dec h80))) (by kernel_rfl) rfl (bl rfl) ?_
                clear hok
                intro hok
                refine TrAny.prom (i := 19) (d := 103) hok (OpVal.no rfl (fun c h => by cases h) rfl rfl rfl (gn_f (bt_dec h80))) (by kernel_rfl) rfl (bl rfl) ?_
                clear hok
                intro hok
                refine TrAny.prom (i := 20) (d := 104) hok (OpVal.no rfl (fun c h => by cases h) rfl rfl rfl (gn_f (bt_dec h80))) (by kernel_rfl) rfl (bl rfl) ?_
                clear hok
                intro hok
                refine TrAny.prom (i := 21) (d := 105) hok (OpVal.no rfl (fun c h => by cases h) rfl rfl rfl (gn_f (bt_dec h80))) (by kernel_rfl) rfl (bl rfl) ?_
                clear hok
                intro hok
                refine TrAny.prom (i := 22) (d := 106) hok (OpVal.no rfl (fun c h => by cases h) rfl rfl rfl (gn_f (bt_dec h80))) (by kernel_rfl) rfl (bl rfl) ?_
                clear hok
                intro hok
                refine TrAny.prom (i := 23) (d := 107) hok (OpVal.no rfl (fun c h => by cases h) rfl rfl rfl (gn_f (bt_dec h80))) (by kernel_rfl) rfl (bl rfl) ?_
                clear hok
                intro hok
                refine TrAny.prom (i := 24) (d := 108) hok (OpVal.no rfl (fun c h => by cases h) rfl rfl rfl (gn_f (bt_dec h80))) (by kernel_rfl) rfl (bl rfl) ?_
                clear hok
                intro hok
                refine TrAny.prom (i := 25) (d := 109) hok (OpVal.no rfl (fun c h => by cases h) rfl rfl rfl (gn_f (bt_dec h80))) (by kernel_rfl) rfl (bl rfl) ?_
                clear hok
                intro hok
                refine TrAny.prom (i := 26) (d := 110) hok (OpVal.no rfl (fun c h => by cases h) rfl rfl rfl (gn_f (bt_dec h80))) (by kernel_rfl) rfl (bl rfl) ?_
                clear hok
                intro hok
                refine TrAny.prom (i := 27) (d := 111) hok (OpVal.no rfl (fun c h => by cases h) rfl rfl rfl (gn_f (bt_dec h80))) (by kernel_rfl) rfl (bl rfl) ?_
                clear hok
                intro hok
                refine TrAny.prom (i := 28) (d := 112) hok (OpVal.no rfl (fun c h => by cases h) rfl rfl rfl (gn_f (bt_dec h80))) (by kernel_rfl) rfl (bl rfl) ?_
                clear hok
                intro hok
                refine TrAny.prom (i := 29) (d := 113) hok (OpVal.un rfl (fun c h => by cases h) rfl rfl rfl) (by kernel_rfl) rfl (bl rfl) ?_
                clear hok
                intro hok
                refine TrAny.prom (i := 30) (d := 114) hok (OpVal.un rfl (fun c h => by cases h) rfl rfl rfl) (by kernel_rfl) rfl (bl rfl) ?_
                clear hok
                intro hok
                refine TrAny.prom (i := 31) (d := 115) hok (OpVal.un rfl (fun c h => by cases h) rfl rfl rfl) (by kernel_rfl) rfl (bl rfl) ?_
                clear hok
                intro hok
                refine TrAny.prom (i := 32) (d := 116) hok (OpVal.un rfl (fun c h => by cases h) rfl rfl rfl) (by kernel_rfl) rfl (bl rfl) ?_
                clear hok
                intro hok
                refine TrAny.prom (i := 33) (d := 117) hok (OpVal.un rfl (fun c h => by cases h) rfl rfl rfl) (by kernel_rfl) rfl (bl rfl) ?_
                clear hok
                intro hok
                refine TrAny.prom (i := 34) (d := 118) hok (OpVal.un rfl (fun c h => by cases h) rfl rfl rfl) (by kernel_rfl) rfl (bl rfl) ?_
                clear hok
                intro hok
                refine TrAny.prom (i := 35) (d := 119) hok (OpVal.un rfl (fun c h => by cases h) rfl rfl rfl) (by kernel_rfl) rfl (bl rfl) ?_
                clear hok
                intro hok
                refine TrAny.prom (i := 36) (d := 120) hok (OpVal.un rfl (fun c h => by cases h) rfl rfl rfl) (by kernel_rfl) rfl (bl rfl) ?_
                clear hok
                intro hok
                refine TrAny.prom (i := 37) (d := 121) hok (OpVal.un rfl (fun c h => by cases h) rfl rfl rfl) (by kernel_rfl) rfl (bl rfl) ?_
                clear hok
                intro hok
                refine TrAny.prom (i := 38) (d := 122) hok (OpVal.un rfl (fun c h => by cases h) rfl rfl rfl) (by kernel_rfl) rfl (bl rfl) ?_
                clear hok
                intro hok
                refine TrAny.prom (i := 39) (d := 123) hok (OpVal.un rfl (fun c h => by cases h) rfl rfl rfl) (by kernel_rfl) rfl (bl rfl) ?_
                clear hok
                intro hok
                refine TrAny.prom (i := 40) (d := 124) hok (OpVal.un rfl (fun c h => by cases h) rfl rfl rfl) (by kernel_rfl) rfl (bl rfl) ?_
                clear hok
                intro hok
                refine TrAny.prom (i := 41) (d := 125) hok (OpVal.no rfl (fun c h => by cases h) rfl rfl rfl (gn_f (bt_dec h80))) (by kernel_rfl) rfl (bl rfl) ?_
                clear hok
                intro hok
                refine TrAny.prom (i := 42) (d := 126) hok (OpVal.yes rfl rfl rfl rfl (bt_dec h79) (v_pick_t rfl rfl (bt_dec h80) rfl)) (by kernel_rfl) rfl (bl rfl) ?_
                clear hok
                intro hok
                refine TrAny.prom (i := 43) (d := 127) hok (OpVal.plain rfl rfl (v_pick_t rfl rfl (bt_dec h79) rfl)) (by kernel_rfl) rfl (bl rfl) ?_
                clear hok
                intro hok
                refine TrAny.done (by kernel_rfl) (by kernel_rfl) hok (by kernel_rfl) (qthen_n ?_)
                refine Tr.cond_t rfl rfl ?_
                refine Tr.seq ?_
                refine Tr.region ?_
                refine TrL.v (v_assign rfl rfl) rfl rfl (bl rfl) ?_
                refine TrL.nil (qthen_n ?_)
                have hz := Option.some.inj hy4
                subst hz
                refine Tr.ret (qblock_r (qthen_r (qloop_r (qblock_r (qcut_miss (by simp) (qcut_hit (()) (()) (hx8 _ rfl).symm (Imp.re _ [] [] (sc rfl sn) (by decide) rfl rfl rfl)))))))
              · refine TrAny.prom (i := 16) (d := 100) hok (OpVal.yes rfl rfl rfl rfl (bf_dec h80) (v_move rfl rfl)) (by kernel_rfl) rfl (bl rfl) ?_
                clear hok
                intro hok
                refine TrAny.prom (i := 17) (d := 101) hok (OpVal.yes rfl rfl rfl rfl (bf_dec h80) (v_move rfl rfl)) (by kernel_rfl) rfl (bl rfl) ?_
                clear hok
                intro hok
                refine TrAny.prom (i := 18) (d := 102) hok (OpVal.yes rfl rfl rfl rfl (bf_dec h80) (v_indexAddr (k := 0) rfl sl46 ty55 rfl rfl rfl rfl hz30)) (by kernel_rfl) rfl (bl rfl) ?_
                clear hok
                intro hok
                refine TrAny.prom (i := 19) (d := 103) hok (OpVal.yes rfl rfl rfl rfl (bf_dec h80) (v_fieldAddr rfl fo55_0 rfl)) (by kernel_rfl) rfl (bl rfl) ?_
                clear hok
                intro hok
                refine TrAny.prom (i := 20) (d := 104) hok (OpVal.yes rfl rfl rfl rfl (bf_dec h80) (v_loadg (A := A9) (i := s11.2) (j := 0) (k := 0) rfl ty22 (fun _ => rfl) rfl rfl hz30 rfl rfl)) (by kernel_rfl) rfl (bl rfl) ?_
                clear hok
                intro hok
                refine TrAny.prom (i := 21) (d := 105) hok (OpVal.yes rfl rfl rfl rfl (bf_dec h80) (v_move rfl rfl)) (by kernel_rfl) rfl (bl rfl) ?_
                clear hok
                intro hok
                refine TrAny.prom (i := 22) (d := 106) hok (OpVal.yes rfl rfl rfl rfl (bf_dec h80) (v_move rfl rfl)) (by kernel_rfl) rfl (bl rfl) ?_
                clear hok
                intro hok
                refine TrAny.prom (i := 23) (d := 107) hok (OpVal.yes rfl rfl rfl rfl (bf_dec h80) (v_arith rfl rfl rfl ar_sub_i64)) (by kernel_rfl) rfl (bl rfl) ?_
                clear hok
                intro hok
                refine TrAny.prom (i := 24) (d := 108) hok (OpVal.yes rfl rfl rfl rfl (bf_dec h80) (v_indexAddr (k := 0) rfl sl46 ty55 rfl rfl rfl rfl hz34)) (by kernel_rfl) rfl (bl rfl) ?_
                clear hok
                intro hok
                refine TrAny.prom (i := 25) (d := 109) hok (OpVal.yes rfl rfl rfl rfl (bf_dec h80) (v_fieldAddr rfl fo55_0 rfl)) (by kernel_rfl) rfl (bl rfl) ?_
                clear hok
                intro hok
                refine TrAny.prom (i := 26) (d := 110) hok (OpVal.yes rfl rfl rfl rfl (bf_dec h80) (v_loadg (A := A9) (i := (wi64 (s11.2 - 1))) (j := 0) (k := 0) rfl ty22 (fun _ => rfl) rfl rfl hz34 rfl rfl)) (by kernel_rfl) rfl (bl rfl) ?_
                clear hok
                intro hok
                refine TrAny.prom (i := 27) (d := 111) hok (OpVal.yes rfl rfl rfl rfl (bf_dec h80) (v_arith rfl rfl rfl ar_eql)) (by kernel_rfl) rfl (bl rfl) ?_
                clear hok
                intro hok
                refine TrAny.prom (i := 28) (d := 112) hok (OpVal.yes rfl rfl rfl rfl (bf_dec h80) (v_move rfl rfl)) (by kernel_rfl) rfl (bl rfl) ?_
                clear hok
                intro hok
                rcases ifc hy4 with ⟨h81, hy4⟩ | ⟨h81, hy4⟩
                · refine TrAny.prom (i := 29) (d := 113) hok (OpVal.yes rfl rfl rfl rfl (bt_dec h81) (v_move rfl rfl)) (by kernel_rfl) rfl (bl rfl) ?_
                  clear hok
                  intro hok
                  refine TrAny.prom (i := 30) (d := 114) hok (OpVal.yes rfl rfl rfl rfl (bt_dec h81) (v_move rfl rfl)) (by kernel_rfl) rfl (bl rfl) ?_
                  clear hok
                  intro hok
                  refine TrAny.prom (i := 31) (d := 115) hok (OpVal.yes rfl rfl rfl rfl (bt_dec h81) (v_indexAddr (k := 0) rfl sl46 ty55 rfl rfl rfl rfl hz30)) (by kernel_rfl) rfl (bl rfl) ?_
                  clear hok
                  intro hok
                  refine TrAny.prom (i := 32) (d := 116) hok (OpVal.yes rfl rfl rfl rfl (bt_dec h81) (v_fieldAddr rfl fo55_1 rfl)) (by kernel_rfl) rfl (bl rfl) ?_
                  clear hok
                  intro hok
                  refine TrAny.prom (i := 33) (d := 117) hok (OpVal.yes rfl rfl rfl rfl (bt_dec h81) (v_loadg (A := A9) (i := s11.2) (j := 1) (k := 0) rfl ty22 (fun _ => rfl) rfl rfl hz30 rfl rfl)) (by kernel_rfl) rfl (bl rfl) ?_
                  clear hok
                  intro hok
                  refine TrAny.prom (i := 34) (d := 118) hok (OpVal.yes rfl rfl rfl rfl (bt_dec h81) (v_move rfl rfl)) (by kernel_rfl) rfl (bl rfl) ?_
                  clear hok
                  intro hok
                  refine TrAny.prom (i := 35) (d := 119) hok (OpVal.yes rfl rfl rfl rfl (bt_dec h81) (v_move rfl rfl)) (by kernel_rfl) rfl (bl rfl) ?_
                  clear hok
                  intro hok
                  refine TrAny.prom (i := 36) (d := 120) hok (OpVal.yes rfl rfl rfl rfl (bt_dec h81) (v_arith rfl rfl rfl ar_sub_i64)) (by kernel_rfl) rfl (bl rfl) ?_
                  clear hok
                  intro hok
                  refine TrAny.prom (i := 37) (d := 121) hok (OpVal.yes rfl rfl rfl rfl (bt_dec h81) (v_indexAddr (k := 0) rfl sl46 ty55 rfl rfl rfl rfl hz34)) (by kernel_rfl) rfl (bl rfl) ?_
                  clear hok
                  intro hok
                  refine TrAny.prom (i := 38) (d := 122) hok (OpVal.yes rfl rfl rfl rfl (bt_dec h81) (v_fieldAddr rfl fo55_1 rfl)) (by kernel_rfl) rfl (bl rfl) ?_
                  clear hok
                  intro hok
                  refine TrAny.prom (i := 39) (d := 123) hok (OpVal.yes rfl rfl rfl rfl (bt_dec h81) (v_loadg (A := A9) (i := (wi64 (s11.2 - 1))) (j := 1) (k := 0) rfl ty22 (fun _ => rfl) rfl rfl hz34 rfl rfl)) (by kernel_rfl) rfl (bl rfl) ?_
                  clear hok
                  intro hok
                  refine TrAny.prom (i := 40) (d := 124) hok (OpVal.yes rfl rfl rfl rfl (bt_dec h81) (v_arith rfl rfl rfl ar_lss)) (by kernel_rfl) rfl (bl rfl) ?_
                  clear hok
                  intro hok
                  refine TrAny.prom (i := 41) (d := 125) hok (OpVal.yes rfl rfl rfl rfl (bf_dec h80) (v_pick_t rfl rfl (bt_dec h81) rfl)) (by kernel_rfl) rfl (bl rfl) ?_
                  clear hok
                  intro hok
                  refine TrAny.prom (i := 42) (d := 126) hok (OpVal.yes rfl rfl rfl rfl (bt_dec h79) (v_pick_f rfl rfl (bf_dec h80) rfl)) (by kernel_rfl) rfl (bl rfl) ?_
                  clear hok
                  intro hok
                  refine TrAny.prom (i := 43) (d := 127) hok (OpVal.plain rfl rfl (v_pick_t rfl rfl (bt_dec h79) rfl)) (by kernel_rfl) rfl (bl rfl) ?_
                  clear hok
                  intro hok
                  refine TrAny.done (by kernel_rfl) (by kernel_rfl) hok (by kernel_rfl) (qthen_n ?_)
                  rcases ifc hy4 with ⟨h82, hy4⟩ | ⟨h82, hy4⟩
                  · refine Tr.cond_t rfl (bt_dec h82) ?_
                    refine Tr.seq ?_
                    refine Tr.region ?_
                    refine TrL.v (v_assign rfl rfl) rfl rfl (bl rfl) ?_
                    refine TrL.nil (qthen_n ?_)
                    have hz := Option.some.inj hy4
                    subst hz
                    refine Tr.ret (qblock_r (qthen_r (qloop_r (qblock_r (qcut_miss (by simp) (qcut_hit (()) (()) (hx8 _ rfl).symm (Imp.re _ [] [] (sc rfl sn) (by decide) rfl rfl rfl)))))))
                  · refine Tr.cond_f rfl (bf_dec h82) ?_
                    refine Tr.skip (qblock_n (qthen_n ?_))
                    refine Tr.region ?_
                    refine TrL.v (v_move rfl rfl) rfl rfl (bl rfl) ?_
                    refine TrL.v (v_arith rfl rfl rfl ar_add_i64) rfl rfl (bl rfl) ?_
                    refine TrL.v (v_assign rfl rfl) rfl rfl (bl rfl) ?_
                    have hz := Option.some.inj hy4
                    subst hz
                    refine TrL.nil (qloop_n (()) (Imp.re _ [0] [0] (sc rfl (sc rfl (sc rfl (sc rfl (sc rfl sn))))) (by decide) rfl rfl rfl))
                · refine TrAny.prom (i := 29) (d := 113) hok (OpVal.no rfl (fun c h => by cases h) rfl rfl rfl (gn_t (bf_dec h81))) (by kernel_rfl) rfl (bl rfl) ?_
                  clear hok
                  intro hok
                  refine TrAny.prom (i := 30) (d := 114) hok (OpVal.no rfl (fun c h => by cases h) rfl rfl rfl (gn_t (bf_dec h81))) (by kernel_rfl) rfl (bl rfl) ?_
                  clear hok
                  intro hok
                  refine TrAny.prom (i := 31) (d := 115) hok (OpVal.no rfl (fun c h => by cases h) rfl rfl rfl (gn_t (bf_dec h81))) (by kernel_rfl) rfl (bl rfl) ?_
                  clear hok
                  intro hok
                  refine TrAny.prom (i := 32) (d := 116) hok (OpVal.no rfl (fun c h => by cases h) rfl rfl rfl (gn_t (bf_dec h81))) (by kernel_rfl) rfl (bl rfl) ?_
                  clear hok
                  intro hok
                  refine TrAny.prom (i := 33) (d := 117) hok (OpVal.no rfl (fun c h => by cases h) rfl rfl rfl (gn_t (bf_dec h81))) (by kernel_rfl) rfl (bl rfl) ?_
                  clear hok
                  intro hok
                  refine TrAny.prom (i := 34) (d := 118) hok (OpVal.no rfl (fun c h => by cases h) rfl rfl rfl (gn_t (bf_dec h81))) (by kernel_rfl) rfl (bl rfl) ?_
                  clear hok
                  intro hok
                  refine TrAny.prom (i := 35) (d := 119) hok (OpVal.no rfl (fun c h => by cases h) rfl rfl rfl (gn_t (bf_dec h81))) (by kernel_rfl) rfl (bl rfl) ?_
                  clear hok
                  intro hok
                  refine TrAny.prom (i := 36) (d := 120) hok (OpVal.no rfl (fun c h => by cases h) rfl rfl rfl (gn_t (bf_dec h81))) (by kernel_rfl) rfl (bl rfl) ?_
                  clear hok
                  intro hok
                  refine TrAny.prom (i := 37) (d := 121) hok (OpVal.no rfl (fun c h => by cases h) rfl rfl rfl (gn_t (bf_dec h81))) (by kernel_rfl) rfl (bl rfl) ?_
                  clear hok
                  intro hok
                  refine TrAny.prom (i := 38) (d := 122) hok (OpVal.no rfl (fun c h => by cases h) rfl rfl rfl (gn_t (bf_dec h81))) (by kernel_rfl) rfl (bl rfl) ?_
                  clear hok
                  intro hok
                  refine TrAny.prom (i := 39) (d := 123) hok (OpVal.no rfl (fun c h => by cases h) rfl rfl rfl (gn_t (bf_dec h81))) (by kernel_rfl) rfl (bl rfl) ?_
                  clear hok
                  intro hok
                  refine TrAny.prom (i := 40) (d := 124) hok (OpVal.no rfl (fun c h => by cases h) rfl rfl rfl (gn_t (bf_dec h81))) (by kernel_rfl) rfl (bl rfl) ?_
                  clear hok
                  intro hok
                  refine TrAny.prom (i := 41) (d := 125) hok (OpVal.yes rfl rfl rfl rfl (bf_dec h80) (v_pick_f rfl rfl (bf_dec h81) rfl)) (by kernel_rfl) rfl (bl rfl) ?_
                  clear hok
                  intro hok
                  refine TrAny.prom (i := 42) (d := 126) hok (OpVal.yes rfl rfl rfl rfl (bt_dec h79) (v_pick_f rfl rfl (bf_dec h80) rfl)) (by kernel_rfl) rfl (bl rfl) ?_
                  clear hok
                  intro hok
                  refine TrAny.prom (i := 43) (d := 127) hok (OpVal.plain rfl rfl (v_pick_t rfl rfl (bt_dec h79) rfl)) (by kernel_rfl) rfl (bl rfl) ?_
                  clear hok
                  intro hok
                  refine TrAny.done (by kernel_rfl) (by kernel_rfl) hok (by kernel_rfl) (qthen_n ?_)
                  refine Tr.cond_f rfl rfl ?_
                  refine Tr.skip (qblock_n (qthen_n ?_))
                  refine Tr.region ?_
                  refine TrL.v (v_move rfl rfl) rfl rfl (bl rfl) ?_
                  refine TrL.v (v_arith rfl rfl rfl ar_add_i64) rfl rfl (bl rfl) ?_
                  refine TrL.v (v_assign rfl rfl) rfl rfl (bl rfl) ?_
                  have hz := Option.some.inj hy4
                  subst hz
                  refine TrL.nil (qloop_n (()) (Imp.re _ [0] [0] (sc rfl (sc rfl (sc rfl (sc rfl (sc rfl sn))))) (by decide) rfl rfl rfl))
            · refine TrAny.prom (i := 3) (d := 87) hok (OpVal.no rfl (fun c h => by cases h) rfl rfl rfl (gn_t (bf_dec h79))) (by kernel_rfl) rfl (bl rfl) ?_
              clear hok
              intro hok
              refine TrAny.prom (i := 4) (d := 88) hok (OpVal.no rfl (fun c h => by cases h) rfl rfl rfl (gn_t (bf_dec h79))) (by kernel_rfl) rfl (bl rfl) ?_
              clear hok
              intro hok
              refine TrAny.prom (i := 5) (d := 89) hok (OpVal.no rfl (fun c h => by cases h) rfl rfl rfl (gn_t (bf_dec h79))) (by kernel_rfl) rfl (bl rfl) ?_
              clear hok
              intro hok
              refine TrAny.prom (i := 6) (d := 90) hok (OpVal.no rfl (fun c h => by cases h) rfl rfl rfl (gn_t (bf_dec h79))) (by kernel_rfl) rfl (bl rfl) ?_
              clear hok
              intro hok
              refine TrAny.prom (i := 7) (d := 91) hok (OpVal.no rfl (fun c h => by cases h) rfl rfl rfl (gn_t (bf_dec h79))) (by kernel_rfl) rfl (bl rfl) ?_
              clear hok
              intro hok
              refine TrAny.prom (i := 8) (d := 92) hok (OpVal.no rfl (fun c h => by cases h) rfl rfl rfl (gn_t (bf_dec h79))) (by kernel_rfl) rfl (bl rfl) ?_
              clear hok
              intro hok
              refine TrAny.prom (i := 9) (d := 93) hok (OpVal.no rfl (fun c h => by cases h) rfl rfl rfl (gn_t (bf_dec h79))) (by kernel_rfl) rfl (bl rfl) ?_
              clear hok
              intro hok
              refine TrAny.prom (i := 10) (d := 94) hok (OpVal.no rfl (fun c h => by cases h) rfl rfl rfl (gn_t (bf_dec h79))) (by kernel_rfl) rfl (bl rfl) ?_
              clear hok
              intro hok
              refine TrAny.prom (i := 11) (d := 95) hok (OpVal.no rfl (fun c h => by cases h) rfl rfl rfl (gn_t (bf_dec h79))) (by kernel_rfl) rfl (bl rfl) ?_
              clear hok
              intro hok
              refine TrAny.prom (i := 12) (d := 96) hok (OpVal.no rfl (fun c h => by cases h) rfl rfl rfl (gn_t (bf_dec h79))) (by kernel_rfl) rfl (bl rfl) ?_
              clear hok
              intro hok
              refine TrAny.prom (i := 13) (d := 97) hok (OpVal.no rfl (fun c h => by cases h) rfl rfl rfl (gn_t (bf_dec h79))) (by kernel_rfl) rfl (bl rfl) ?_
              clear hok
              intro hok
              refine TrAny.prom (i := 14) (d := 98) hok (OpVal.no rfl (fun c h => by cases h) rfl rfl rfl (gn_t (bf_dec h79))) (by kernel_rfl) rfl (bl rfl) ?_
              clear hok
              intro hok
              refine TrAny.prom (i := 15) (d := 99) hok (OpVal.no rfl (fun c h => by cases h) rfl rfl rfl (gn_t (bf_dec h79))) (by kernel_rfl) rfl (bl rfl) ?_
              clear hok
              intro hok
              refine TrAny.prom (i := 16) (d := 100) hok (OpVal.un rfl (fun c h => by cases h) rfl rfl rfl) (by kernel_rfl) rfl (bl rfl) ?_
              clear hok
              intro hok
              refine TrAny.prom (i := 17) (d := 101) hok (OpVal.un rfl (fun c h => by cases h) rfl rfl rfl) (by kernel_rfl) rfl (bl rfl) ?_
              clear hok
              intro hok
              refine TrAny.prom (i := 18) (d := 102) hok (OpVal.un rfl (fun c h => by cases h) rfl rfl rfl) (by kernel_rfl) rfl (bl rfl) ?_
              clear hok
              intro hok
              refine TrAny.prom (i := 19) (d := 103) hok (OpVal.un rfl (fun c h => by cases h) rfl rfl rfl) (by kernel_rfl) rfl (bl rfl) ?_
              clear hok
              intro hok
              refine TrAny.prom (i := 20) (d := 104) hok (OpVal.un rfl (fun c h => by cases h) rfl rfl rfl) (by kernel_rfl) rfl (bl rfl) ?_
              clear hok
              intro hok
              refine TrAny.prom (i := 21) (d := 105) hok (OpVal.un rfl (fun c h => by cases h) rfl rfl rfl) (by kernel_rfl) rfl (bl rfl) ?_
              clear hok
              intro hok
              refine TrAny.prom (i := 22) (d := 106) hok (OpVal.un rfl (fun c h => by cases h) rfl rfl rfl) (by kernel_rfl) rfl (bl rfl) ?_
              clear hok
              intro hok
              refine TrAny.prom (i := 23) (d := 107) hok (OpVal.un rfl (fun c h => by cases h) rfl rfl rfl) (by kernel_rfl) rfl (bl rfl) ?_
              clear hok
              intro hok
              refine TrAny.prom (i := 24) (d := 108) hok (OpVal.un rfl (fun c h => by cases h) rfl rfl rfl) (by kernel_rfl) rfl (bl rfl) ?_
              clear hok
              intro hok
              refine TrAny.prom (i := 25) (d := 109) hok (OpVal.un rfl (fun c h => by cases h) rfl rfl rfl) (by kernel_rfl) rfl (bl rfl) ?_
              clear hok
              intro hok
              refine TrAny.prom (i := 26) (d := 110) hok (OpVal.un rfl (fun c h => by cases h) rfl rfl rfl) (by kernel_rfl) rfl (bl rfl) ?_
              clear hok
              intro hok
              refine TrAny.prom (i := 27) (d := 111) hok (OpVal.un rfl (fun c h => by cases h) rfl rfl rfl) (by kernel_rfl) rfl (bl rfl) ?_
              clear hok
              intro hok
              refine TrAny.prom (i := 28) (d := 112) hok (OpVal.un rfl (fun c h => by cases h) rfl rfl rfl) (by kernel_rfl) rfl (bl rfl) ?_
              clear hok
              intro hok
              refine TrAny.prom (i := 29) (d := 113) hok (OpVal.un rfl (fun c h => by cases h) rfl rfl rfl) (by kernel_rfl) rfl (bl rfl) ?_
              clear hok
              intro hok
              refine TrAny.prom (i := 30) (d := 114) hok (OpVal.un rfl (fun c h => by cases h) rfl rfl rfl) (by kernel_rfl) rfl (bl rfl) ?_
              clear hok
              intro hok
              refine TrAny.prom (i := 31) (d := 115) hok (OpVal.un rfl (fun c h => by cases h) rfl rfl rfl) (by kernel_rfl) rfl (bl rfl) ?_
              clear hok
              intro hok
              refine TrAny.prom (i := 32) (d := 116) hok (OpVal.un rfl (fun c h => by cases h) rfl rfl rfl) (by kernel_rfl) rfl (bl rfl) ?_
              clear hok
              intro hok
              refine TrAny.prom (i := 33) (d := 117) hok (OpVal.un rfl (fun c h => by cases h) rfl rfl rfl) (by kernel_rfl) rfl (bl rfl) ?_
              clear hok
              intro hok
              refine TrAny.prom (i := 34) (d := 118) hok (OpVal.un rfl (fun c h => by cases h) rfl rfl rfl) (by kernel_rfl) rfl (bl rfl) ?_
              clear hok
              intro hok
              refine TrAny.prom (i := 35) (d := 119) hok (OpVal.un rfl (fun c h => by cases h) rfl rfl rfl) (by kernel_rfl) rfl (bl rfl) ?_
              clear hok
              intro hok
              refine TrAny.prom (i := 36) (d := 120) hok (OpVal.un rfl (fun c h => by cases h) rfl rfl rfl) (by kernel_rfl) rfl (bl rfl) ?_
              clear hok
              intro hok
              refine TrAny.prom (i := 37) (d := 121) hok (OpVal.un rfl (fun c h => by cases h) rfl rfl rfl) (by kernel_rfl) rfl (bl rfl) ?_
              clear hok
              intro hok
              refine TrAny.prom (i := 38) (d := 122) hok (OpVal.un rfl (fun c h => by cases h) rfl rfl rfl) (by kernel_rfl) rfl (bl rfl) ?_
              clear hok
              intro hok
              refine TrAny.prom (i := 39) (d := 123) hok (OpVal.un rfl (fun c h => by cases h) rfl rfl rfl) (by kernel_rfl) rfl (bl rfl) ?_
              clear hok
              intro hok
              refine TrAny.prom (i := 40) (d := 124) hok (OpVal.un rfl (fun c h => by cases h) rfl rfl rfl) (by kernel_rfl) rfl (bl rfl) ?_
              clear hok
              intro hok
              refine TrAny.prom (i := 41) (d := 125) hok (OpVal.un rfl (fun c h => by cases h) rfl rfl rfl) (by kernel_rfl) rfl (bl rfl) ?_
              clear hok
              intro hok
              refine TrAny.prom (i := 42) (d := 126) hok (OpVal.no rfl (fun c h => by cases h) rfl rfl rfl (gn_t (bf_dec h79))) (by kernel_rfl) rfl (bl rfl) ?_
              clear hok
              intro hok
              refine TrAny.prom (i := 43) (d := 127) hok (OpVal.plain rfl rfl (v_pick_f rfl rfl (bf_dec h79) rfl)) (by kernel_rfl) rfl (bl rfl) ?_
              clear hok
              intro hok
              refine TrAny.done (by kernel_rfl) (by kernel_rfl) hok (by kernel_rfl) (qthen_n ?_)
              refine Tr.cond_f rfl rfl ?_
              refine Tr.skip (qblock_n (qthen_n ?_))
              refine Tr.region ?_
              refine TrL.v (v_move rfl rfl) rfl rfl (bl rfl) ?_
              refine TrL.v (v_arith rfl rfl rfl ar_add_i64) rfl rfl (bl rfl) ?_
              refine TrL.v (v_assign rfl rfl) rfl rfl (bl rfl) ?_
              have hz := Option.some.inj hy4
              subst hz
              refine TrL.nil (qloop_n (()) (Imp.re _ [0] [0] (sc rfl (sc rfl (sc rfl (sc rfl (sc rfl sn))))) (by decide) rfl rfl rfl))
          · refine Tr.cond_f rfl (bf_dec h69) ?_
            have hz := Option.some.inj hy4
            subst hz
            refine Tr.exit (qthen_x (qloop_x (qblock_hit (qcut_hit s11.1 (()) (hx8 _ rfl).symm (Imp.re _ [] [] (sc rfl (sc rfl (sc rfl sn))) (by decide) rfl rfl rfl)))))
        · subst hd6
          replace H := sumr H
          refine (qcut_miss (by simp) (qthen_n ?_))
          refine Tr.seq ?_
          refine Tr.region ?_
          refine TrL.v (v_move rfl rfl) rfl rfl (bl rfl) ?_
          refine TrL.v (v_move rfl rfl) rfl rfl (bl rfl) ?_
          rcases ifc H with ⟨h84, H⟩ | ⟨h84, H⟩
          · refine TrL.cons_yes rfl rfl rfl h84 (OpTr.v (v_move rfl rfl) rfl (bl rfl) ?_)
            refine TrL.cons_yes rfl rfl rfl h84 (OpTr.v (v_move rfl rfl) rfl (bl rfl) ?_)
            refine TrL.cons_yes rfl rfl rfl h84 (OpTr.v (v_arith rfl rfl rfl ar_eql) rfl (bl rfl) ?_)
            refine TrL.v (v_pick_t rfl rfl h84 rfl) rfl rfl (bl rfl) ?_
            refine TrL.v (v_assign rfl rfl) rfl rfl (bl rfl) ?_
            refine TrL.nil (qthen_n ?_)
            have hz := Option.some.inj H
            subst hz
            refine Tr.ret (ret_r ⟨[(6, .bool (decide (d4 = x3.2.1)))], [], [], []⟩ [.bool (decide (d4 = x3.2.1))] [] [] (Imp.re _ [] [] (sc rfl sn) (by decide) rfl rfl rfl) rfl rfl ⟨rfl, rfl, rfl⟩ (.cons (resv_tmp rfl) .nil))
          · refine TrL.cons_no rfl rfl rfl (gn_t (bf_b h84)) rfl (bl rfl) ?_
            refine TrL.cons_no rfl rfl rfl (gn_t (bf_b h84)) rfl (bl rfl) ?_
            refine TrL.cons_no rfl rfl rfl (gn_t (bf_b h84)) rfl (bl rfl) ?_
            refine TrL.v (v_pick_f rfl rfl (bf_b h84) rfl) rfl rfl (bl rfl) ?_
            refine TrL.v (v_assign rfl rfl) rfl rfl (bl rfl) ?_
            refine TrL.nil (qthen_n ?_)
            have hz := Option.some.inj H
            subst hz
            refine Tr.ret (ret_r ⟨[(6, .bool false)], [], [], []⟩ [.bool false] [] [] (Imp.re _ [] [] (sc rfl sn) (by decide) rfl rfl rfl) rfl rfl ⟨rfl, rfl, rfl⟩ (.cons (resv_tmp rfl) .nil))
      · subst hd5
        replace H := suml H
        have hz := Option.some.inj H
        subst hz
        refine (qthen_r (ret_r ⟨[(6, .bool false)], [], [], []⟩ [.bool false] [] [] (Imp.re _ [] [] (sc rfl sn) (by decide) rfl rfl rfl) rfl rfl ⟨rfl, rfl, rfl⟩ (.cons (resv_tmp rfl) .nil)))
end Go.Proofs.Ythgeodagikmpjaa.W
