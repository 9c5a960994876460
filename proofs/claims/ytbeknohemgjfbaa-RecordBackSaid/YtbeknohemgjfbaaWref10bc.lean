/- The contracts of the walked functions: the printed walks. -/
import Derived.Test.YtbeknohemgjfbaaKc
import Derived.Test.YtbeknohemgjfbaaQc
namespace Go.Proofs.Ytbeknohemgjfbaa.W
open Go Go.Proofs Go.Proofs.Ytbeknohemgjfbaa.L Go.Proofs.Ytbeknohemgjfbaa.Pu
set_option linter.unusedVariables false
set_option maxHeartbeats 4000000

theorem c_ref10_lumps (p1 : List (Int × Int × List (List (Int × Int)))) (A1 : Option Addr) (c1 : Nat) (r : List (Int × Int)) (H : ref10_lumps p1 = some r) :
    Ctr Try.prog 167 [.slice A1 p1.length c1] [] [slF rp_i64_i64_LLOu64_u64_C A1 c1 p1] (fun ret M' F' => ∃ m : Option Addr × Nat × Option Nat, ret = .slice m.1 r.length m.2.1 ∧ M' = [grow 255 2 (.slice m.1 r.length m.2.1) r.length m.2.2] ∧ F' = [slF rp_u64_u64 m.1 m.2.1 r]) := by
  unfold ref10_lumps at H
  refine ctr_ofI (N := 56) Try.func167 rfl Try.ntmps167 rfl (Nat.le_of_ble_eq_true rfl) (fun γ0 w0 => ?_)
  refine Tr.seq ?_
  refine Tr.region ?_
  refine TrL.v (v_assign rfl rfl) rfl rfl (bl rfl) ?_
  refine TrL.nil (qthen_n ?_)
  refine Tr.seq ?_
  refine Tr.region ?_
  refine TrL.v (v_assign rfl rfl) rfl rfl (bl rfl) ?_
  refine TrL.nil (qthen_n ?_)
  refine Tr.seq ?_
  refine Tr.seq ?_
  refine Tr.region ?_
  refine TrL.v (v_assign rfl rfl) rfl rfl (bl rfl) ?_
  refine TrL.nil (qthen_n ?_)
  obtain ⟨x22, hx43, H⟩ := bnd H
  refine Tr.cutE (D := List (Int × Int)) (M := Option Addr × Nat × Option Nat) .normal (fun _d => x22 = _d) (fun x22 m138 => ⟨[(3, .slice m138.1 x22.length m138.2.1)], [grow 255 2 (.slice m138.1 x22.length m138.2.1) x22.length m138.2.2], [slF rp_u64_u64 m138.1 m138.2.1 x22], []⟩) ?_ (fun x22 m138 hd26 => ?_)
  · refine Tr.block (Tr.loopI (ι := Option Addr × Nat × Option Nat) (step := ref10_lumps_s0 p1) (fun s53 m110 => ⟨[(0, .slice A1 p1.length c1), (3, .slice m110.1 s53.1.length m110.2.1), (4, .int .i64 s53.2)], [grow 255 2 (.slice m110.1 s53.1.length m110.2.1) s53.1.length m110.2.2], [slF rp_i64_i64_LLOu64_u64_C A1 c1 p1, slF rp_u64_u64 m110.1 m110.2.1 s53.1], []⟩) ((none, 0, none)) hx43 (Imp.full' (E := 255) (sz := 2) (A := none) (n := 0) (Imp.addF' _ (nilF rp_u64_u64) (Imp.re _ [0] [0, 1] (sc rfl (sc rfl (sc rfl sn))) (by decide) rfl rfl rfl))) (fun s53 m110 y22 hy22 hx44 => ?_))
    unfold ref10_lumps_s0 at hy22
    refine Tr.seq ?_
    refine Tr.seq ?_
    refine Tr.region ?_
    refine TrL.v (v_move rfl rfl) rfl rfl (bl rfl) ?_
    refine TrL.v (v_move rfl rfl) rfl rfl (bl rfl) ?_
    refine TrL.v (v_len rfl sl132 rfl) rfl rfl (bl rfl) ?_
    refine TrL.v (v_arith rfl rfl rfl ar_lss) rfl rfl (bl rfl) ?_
    refine TrL.nil (qthen_n ?_)
    rcases ifc hy22 with ⟨h156, hy22⟩ | ⟨h156, hy22⟩
    · refine Tr.cond_t rfl (bt_dec h156) ?_
      refine Tr.skip (qthen_n ?_)
      refine Tr.seq ?_
      refine Tr.block ?_
      refine Tr.seq ?_
      refine Tr.region ?_
      refine TrL.v (v_move rfl rfl) rfl rfl (bl rfl) ?_
      refine TrL.v (v_move rfl rfl) rfl rfl (bl rfl) ?_
      obtain ⟨z141, hz141, hy22⟩ := bnd hy22
      refine TrL.v (v_indexAddr (k := 0) rfl sl132 ty26 rfl rfl rfl rfl hz141) rfl rfl (bl rfl) ?_
      refine TrL.v (v_fieldAddr rfl fo26_2 rfl) rfl rfl (bl rfl) ?_
      refine TrL.openP (k := 0) rfl hz141 (fun m139 => ?_)
      refine TrL.v (v_loadCF (j := 2) (k := 3) rfl ty24 (fun _ => rfl) rfl rfl rfl rfl) rfl rfl (bl rfl) ?_
      refine TrL.v (v_len rfl sl24 rfl) rfl rfl (bl rfl) ?_
      refine TrL.v (v_arith rfl rfl rfl ar_sub_i64) rfl rfl (bl rfl) ?_
      refine TrL.v (v_assign rfl rfl) rfl rfl (bl rfl) ?_
      refine TrL.nil (qthen_n ?_)
      obtain ⟨x25, hx49, hy22⟩ := bnd hy22
      refine Tr.cutE (D := List (Int × Int)) (M := Option Addr × Nat × Option Nat) .normal (fun _d => x25 = _d) (fun x25 m157 => ⟨[(0, .slice A1 p1.length c1), (3, .slice m157.1 x25.length m157.2.1), (4, .int .i64 s53.2)], [grow 255 2 (.slice m157.1 x25.length m157.2.1) x25.length m157.2.2], [slF rp_i64_i64_LLOu64_u64_C A1 c1 p1, slF rp_u64_u64 m157.1 m157.2.1 x25], []⟩) ?_ (fun x25 m157 hd25 => ?_)
      · refine Tr.block (Tr.loopI (ι := Option Addr × Nat × Option Nat) (step := ref10_lumps_s1 z141) (fun s71 m148 => ⟨[(0, .slice A1 p1.length c1), (3, .slice m148.1 s71.1.length m148.2.1), (4, .int .i64 s53.2), (5, .int .i64 s71.2)], [grow 255 2 (.slice m148.1 s71.1.length m148.2.1) s71.1.length m148.2.2], [slF rp_i64_i64_LLOu64_u64_C A1 c1 p1, slF rp_u64_u64 m148.1 m148.2.1 s71.1], []⟩) ((m110.1, m110.2.1, m110.2.2)) hx49 (Imp.re _ [0] [0, 1] (sc rfl (sc rfl (sc rfl (sc rfl sn)))) (by decide) rfl rfl rfl) (fun s71 m148 y25 hy25 hx50 => ?_))
        unfold ref10_lumps_s1 at hy25
        refine Tr.seq ?_
        refine Tr.seq ?_
        refine Tr.region ?_
        refine TrL.v (v_move rfl rfl) rfl rfl (bl rfl) ?_
        refine TrL.v (v_arith rfl rfl rfl ar_geq) rfl rfl (bl rfl) ?_
        refine TrL.nil (qthen_n ?_)
        rcases ifc hy25 with ⟨h177, hy25⟩ | ⟨h177, hy25⟩
        · refine Tr.cond_t rfl (bt_dec h177) ?_
          refine Tr.skip (qthen_n ?_)
          refine Tr.seq ?_
          refine Tr.block ?_
          refine Tr.seq ?_
          refine Tr.region ?_
          refine TrL.v (v_assign rfl rfl) rfl rfl (bl rfl) ?_
          refine TrL.nil (qthen_n ?_)
          obtain ⟨x26, hx51, hy25⟩ := bnd hy25
          refine Tr.cutE (D := List (Int × Int)) (M := Option Addr × Nat × Option Nat) .normal (fun _d => x26 = _d) (fun x26 m163 => ⟨[(0, .slice A1 p1.length c1), (3, .slice m163.1 x26.length m163.2.1), (4, .int .i64 s53.2), (5, .int .i64 s71.2)], [grow 255 2 (.slice m163.1 x26.length m163.2.1) x26.length m163.2.2], [slF rp_i64_i64_LLOu64_u64_C A1 c1 p1, slF rp_u64_u64 m163.1 m163.2.1 x26], []⟩) ?_ (fun x26 m163 hd24 => ?_)
          · refine Tr.block (Tr.loopI (ι := Option Addr × Nat × Option Nat) (step := ref10_lumps_s2 z141 s71) (fun s77 m160 => ⟨[(0, .slice A1 p1.length c1), (3, .slice m160.1 s77.1.length m160.2.1), (4, .int .i64 s53.2), (5, .int .i64 s71.2), (6, .int .i64 s77.2)], [grow 255 2 (.slice m160.1 s77.1.length m160.2.1) s77.1.length m160.2.2], [slF rp_i64_i64_LLOu64_u64_C A1 c1 p1, slF rp_u64_u64 m160.1 m160.2.1 s77.1], []⟩) ((m148.1, m148.2.1, m148.2.2)) hx51 (Imp.re _ [0] [0, 1] (sc rfl (sc rfl (sc rfl (sc rfl (sc rfl sn))))) (by decide) rfl rfl rfl) (fun s77 m160 y26 hy26 hx52 => ?_))
            unfold ref10_lumps_s2 at hy26
            refine Tr.seq ?_
            refine Tr.seq ?_
            refine Tr.region ?_
            refine TrL.v (v_move rfl rfl) rfl rfl (bl rfl) ?_
            refine TrL.v (v_move rfl rfl) rfl rfl (bl rfl) ?_
            refine TrL.v (v_move rfl rfl) rfl rfl (bl rfl) ?_
            refine TrL.v (v_indexAddr (k := 0) rfl sl132 ty26 rfl rfl rfl rfl hz141) rfl rfl (bl rfl) ?_
            refine TrL.v (v_fieldAddr rfl fo26_2 rfl) rfl rfl (bl rfl) ?_
            refine TrL.openP (k := 0) rfl hz141 (fun m164 => ?_)
            refine TrL.v (v_loadCF (j := 2) (k := 3) rfl ty24 (fun _ => rfl) rfl rfl rfl rfl) rfl rfl (bl rfl) ?_
            refine TrL.v (v_move rfl rfl) rfl rfl (bl rfl) ?_
            obtain ⟨z166, hz166, hy26⟩ := bnd hy26
            refine TrL.v (v_indexAddr (k := 2) rfl sl24 ty31 rfl rfl rfl rfl hz166) rfl rfl (bl rfl) ?_
            refine TrL.openS' (k := 2) rfl hz166 (fun A267 c161 => ?_)
            refine TrL.v (v_loadF (k := 5) rfl ty31 rfl rfl) rfl rfl (bl rfl) ?_
            refine TrL.v (v_len rfl sl31 rfl) rfl rfl (bl rfl) ?_
            refine TrL.v (v_arith rfl rfl rfl ar_lss) rfl rfl (bl rfl) ?_
            refine TrL.nil (qthen_n ?_)
            rcases ifc hy26 with ⟨h184, hy26⟩ | ⟨h184, hy26⟩
            · refine Tr.cond_t rfl (bt_dec h184) ?_
              refine Tr.skip (qthen_n ?_)
              refine Tr.seq ?_
              refine Tr.block ?_
              refine Tr.regionD drawn (fun hok => ?_)
              refine TrAny.prom (i := 0) (d := 37) hok (OpVal.plain rfl rfl (v_move rfl rfl)) (by kernel_rfl) rfl (bl rfl) ?_
              clear hok
              intro hok
              refine TrAny.prom (i := 1) (d := 38) hok (OpVal.plain rfl rfl (v_move rfl rfl)) (by kernel_rfl) rfl (bl rfl) ?_
              clear hok
              intro hok
              refine TrAny.prom (i := 2) (d := 39) hok (OpVal.plain rfl rfl (v_move rfl rfl)) (by kernel_rfl) rfl (bl rfl) ?_
              clear hok
              intro hok
              refine TrAny.prom (i := 3) (d := 40) hok (OpVal.plain rfl rfl (v_indexAddr (k := 0) rfl sl132 ty26 rfl rfl rfl rfl hz141)) (by kernel_rfl) rfl (bl rfl) ?_
              clear hok
              intro hok
              refine TrAny.prom (i := 4) (d := 41) hok (OpVal.plain rfl rfl (v_fieldAddr rfl fo26_2 rfl)) (by kernel_rfl) rfl (bl rfl) ?_
              clear hok
              intro hok
              refine TrAny.prom (i := 5) (d := 42) hok (OpVal.plain rfl rfl (v_loadCF (j := 2) (k := 3) rfl ty24 (fun _ => rfl) rfl rfl rfl rfl)) (by kernel_rfl) rfl (bl rfl) ?_
              clear hok
              intro hok
              refine TrAny.prom (i := 6) (d := 43) hok (OpVal.plain rfl rfl (v_move rfl rfl)) (by kernel_rfl) rfl (bl rfl) ?_
              clear hok
              intro hok
              refine TrAny.prom (i := 7) (d := 44) hok (OpVal.plain rfl rfl (v_indexAddr (k := 2) rfl sl24 ty31 rfl rfl rfl rfl hz166)) (by kernel_rfl) rfl (bl rfl) ?_
              clear hok
              intro hok
              refine TrAny.prom (i := 8) (d := 45) hok (OpVal.plain rfl rfl (v_loadF (k := 5) rfl ty31 rfl rfl)) (by kernel_rfl) rfl (bl rfl) ?_
              clear hok
              intro hok
              refine TrAny.prom (i := 9) (d := 46) hok (OpVal.plain rfl rfl (v_move rfl rfl)) (by kernel_rfl) rfl (bl rfl) ?_
              clear hok
              intro hok
              obtain ⟨z168, hz168, hy26⟩ := bnd hy26
              refine TrAny.prom (i := 10) (d := 47) hok (OpVal.plain rfl rfl (v_indexAddr (k := 4) rfl sl31 ty30 rfl rfl rfl rfl hz168)) (by kernel_rfl) rfl (bl rfl) ?_
              clear hok
              intro hok
              refine TrAny.prom (i := 11) (d := 48) hok (OpVal.plain rfl rfl (v_fieldAddr rfl fo30_1 rfl)) (by kernel_rfl) rfl (bl rfl) ?_
              clear hok
              intro hok
              refine TrAny.prom (i := 12) (d := 49) hok (OpVal.plain rfl rfl (v_loadg (A := A267) (i := s77.2) (j := 1) (k := 4) rfl ty28 (fun _ => rfl) rfl rfl hz168 rfl rfl)) (by kernel_rfl) rfl (bl rfl) ?_
              clear hok
              intro hok
              refine TrAny.prom (i := 13) (d := 50) hok (OpVal.plain rfl rfl (v_move rfl rfl)) (by kernel_rfl) rfl (bl rfl) ?_
              clear hok
              intro hok
              refine TrAny.prom (i := 14) (d := 51) hok (OpVal.plain rfl rfl (v_shl' rfl rfl rfl h177 rfl wrap_u64')) (by kernel_rfl) rfl (bl rfl) ?_
              clear hok
              intro hok
              refine TrAny.prom (i := 15) (d := 52) hok (OpVal.plain rfl rfl (v_build (vs := [.int .u64 z168.2, .int .u64 (wu64 (shlk 64 1 s71.2))]) (out := [.int .u64 z168.2, .int .u64 (wu64 (shlk 64 1 s71.2))]) rfl pl255 ze255 rfl rfl)) (by kernel_rfl) rfl (bl rfl) ?_
              clear hok
              intro hok
              refine TrAny.next (j := 16) (by kernel_rfl) hok rfl (by kernel_rfl) (op_buildSlice' (rp := rp_u64_u64) (xs := [(z168.2, wu64 (shlk 64 1 s71.2))]) (vs := [.agg #[.int .u64 z168.2, .int .u64 (wu64 (shlk 64 1 s71.2))]]) (out := [.int .u64 z168.2, .int .u64 (wu64 (shlk 64 1 s71.2))]) rfl (bl rfl) rfl sl252 ty255 ze255 rfl rfl (by decide) (by decide) rfl (fun γ w hF => (rowc rfl rown rfl)) (fun A270 => ?_))
              refine nxp hok (kp_imp (kp_cf rfl)) rfl (by kernel_rfl) ?_
              clear hok
              intro hok
              obtain ⟨h186, hy26⟩ := rom hy26
              refine TrAny.next (j := 17) (by kernel_rfl) hok rfl (by kernel_rfl) (op_append' (rp := rp_u64_u64) (xs := s77.1) (ys := [(z168.2, wu64 (shlk 64 1 s71.2))]) (k := 0) (kx := 1) (ky := 6) rfl (bl rfl) rfl sl252 ty255 ze255 rfl by255 rfl rfl rfl rfl rfl rfl rfl h186.1 h186.2 (fun A271 c163 o108 => ?_))
              refine nxp hok (kp_allE [(0, 37, .slice m160.1 s77.1.length m160.2.1), (1, 38, .slice A1 p1.length c1), (2, 39, .int .i64 s53.2), (3, 40, .pointer (some ⟨ablk A1, aoff A1 + (s53.2).toNat * 3, none⟩)), (4, 41, .pointer (some ⟨ablk A1, aoff A1 + (s53.2).toNat * 3 + 2, none⟩)), (5, 42, .slice m164.1 z141.2.2.length m164.2), (6, 43, .int .i64 s71.2), (7, 44, .pointer (some ⟨ablk m164.1, aoff m164.1 + (s71.2).toNat * 1, none⟩)), (8, 45, .slice A267 z166.length c161), (9, 46, .int .i64 s77.2), (10, 47, .pointer (some ⟨ablk A267, aoff A267 + (s77.2).toNat * 2, none⟩)), (11, 48, .pointer (some ⟨ablk A267, aoff A267 + (s77.2).toNat * 2 + 1, none⟩)), (12, 49, .int .u64 z168.2), (13, 50, .int .i64 s71.2), (14, 51, .int .u64 (wu64 (shlk 64 1 s71.2))), (15, 52, .agg #[.int .u64 z168.2, .int .u64 (wu64 (shlk 64 1 s71.2))])] (by kernel_rfl) (ac (.inl (by kernel_rfl)) (ac (.inr (OpVal.plain rfl rfl (v_move rfl rfl))) (ac (.inr (OpVal.plain rfl rfl (v_move rfl rfl))) (ac (.inr (OpVal.plain rfl rfl (v_indexAddr (k := 0) rfl sl132 ty26 rfl rfl rfl rfl hz141))) (ac (.inr (OpVal.plain rfl rfl (v_fieldAddr rfl fo26_2 rfl))) (ac (.inr (OpVal.plain rfl rfl (v_loadCF (j := 2) (k := 3) rfl ty24 (fun _ => rfl) rfl rfl rfl rfl))) (ac (.inr (OpVal.plain rfl rfl (v_move rfl rfl))) (ac (.inr (OpVal.plain rfl rfl (v_indexAddr (k := 2) rfl sl24 ty31 rfl rfl rfl rfl hz166))) (ac (.inr (OpVal.plain rfl rfl (v_loadF (k := 5) rfl ty31 rfl rfl))) (ac (.inr (OpVal.plain rfl rfl (v_move rfl rfl))) (ac (.inr (OpVal.plain rfl rfl (v_indexAddr (k := 4) rfl sl31 ty30 rfl rfl rfl rfl hz168))) (ac (.inr (OpVal.plain rfl rfl (v_fieldAddr rfl fo30_1 rfl))) (ac (.inr (OpVal.plain rfl rfl (v_loadg (A := A267) (i := s77.2) (j := 1) (k := 4) rfl ty28 (fun _ => rfl) rfl rfl hz168 rfl rfl))) (ac (.inr (OpVal.plain rfl rfl (v_move rfl rfl))) (ac (.inr (OpVal.plain rfl rfl (v_shl' rfl rfl rfl h177 rfl wrap_u64'))) (ac (.inr (OpVal.plain rfl rfl (v_build (vs := [.int .u64 z168.2, .int .u64 (wu64 (shlk 64 1 s71.2))]) (out := [.int .u64 z168.2, .int .u64 (wu64 (shlk 64 1 s71.2))]) rfl pl255 ze255 rfl rfl))) an))))))))))))))))) rfl (by kernel_rfl) ?_
              clear hok
              intro hok
              refine TrAny.next (j := 18) (by kernel_rfl) hok rfl (by kernel_rfl) (OpTr.v (v_assign rfl rfl) rfl (bl rfl) ?_)
              refine nxp hok (kp_aw (by kernel_rfl)) rfl (by kernel_rfl) ?_
              clear hok
              intro hok
              refine TrAny.done (by kernel_rfl) (by kernel_rfl) hok (by kernel_rfl) (qblock_n (qthen_n ?_))
              refine Tr.region ?_
              refine TrL.v (v_move rfl rfl) rfl rfl (bl rfl) ?_
              refine TrL.v (v_arith rfl rfl rfl ar_add_i64) rfl rfl (bl rfl) ?_
              refine TrL.v (v_assign rfl rfl) rfl rfl (bl rfl) ?_
              have hz := Option.some.inj hy26
              subst hz
              refine TrL.nil (qloop_n ((A271, c163, o108)) (Imp.re _ [0] [0, 7] (sc rfl (sc rfl (sc rfl (sc rfl (sc rfl sn))))) (by decide) rfl rfl rfl))
            · refine Tr.cond_f rfl (bf_dec h184) ?_
              have hz := Option.some.inj hy26
              subst hz
              refine Tr.exit (qthen_x (qloop_x (qblock_hit (qcut_hit s77.1 ((m160.1, m160.2.1, m160.2.2)) (hx52 _ rfl).symm (Imp.re _ [0] [0, 1] (sc rfl (sc rfl (sc rfl (sc rfl sn)))) (by decide) rfl rfl rfl)))))
          · subst hd24
            refine (qblock_n (qthen_n ?_))
            refine Tr.region ?_
            refine TrL.v (v_move rfl rfl) rfl rfl (bl rfl) ?_
            refine TrL.v (v_arith rfl rfl rfl ar_sub_i64) rfl rfl (bl rfl) ?_
            refine TrL.v (v_assign rfl rfl) rfl rfl (bl rfl) ?_
            have hz := Option.some.inj hy25
            subst hz
            refine TrL.nil (qloop_n ((m163.1, m163.2.1, m163.2.2)) (Imp.re _ [0] [0, 1] (sc rfl (sc rfl (sc rfl (sc rfl sn)))) (by decide) rfl rfl rfl))
        · refine Tr.cond_f rfl (bf_dec h177) ?_
          have hz := Option.some.inj hy25
          subst hz
          refine Tr.exit (qthen_x (qloop_x (qblock_hit (qcut_hit s71.1 ((m148.1, m148.2.1, m148.2.2)) (hx50 _ rfl).symm (Imp.re _ [0] [0, 1] (sc rfl (sc rfl (sc rfl sn))) (by decide) rfl rfl rfl)))))
      · subst hd25
        refine (qblock_n (qthen_n ?_))
        refine Tr.region ?_
        refine TrL.v (v_move rfl rfl) rfl rfl (bl rfl) ?_
        refine TrL.v (v_arith rfl rfl rfl ar_add_i64) rfl rfl (bl rfl) ?_
        refine TrL.v (v_assign rfl rfl) rfl rfl (bl rfl) ?_
        have hz := Option.some.inj hy22
        subst hz
        refine TrL.nil (qloop_n ((m157.1, m157.2.1, m157.2.2)) (Imp.re _ [0] [0, 1] (sc rfl (sc rfl (sc rfl sn))) (by decide) rfl rfl rfl))
    · refine Tr.cond_f rfl (bf_dec h156) ?_
      have hz := Option.some.inj hy22
      subst hz
      refine Tr.exit (qthen_x (qloop_x (qblock_hit (qcut_hit s53.1 ((m110.1, m110.2.1, m110.2.2)) (hx44 _ rfl).symm (Imp.re _ [0] [1] (sc rfl sn) (by decide) rfl rfl rfl)))))
  · subst hd26
    refine (qthen_n ?_)
    refine Tr.seq ?_
    refine Tr.region ?_
    refine TrL.v (v_move rfl rfl) rfl rfl (bl rfl) ?_
    refine TrL.v (v_assign rfl rfl) rfl rfl (bl rfl) ?_
    refine TrL.nil (qthen_n ?_)
    have hz := Option.some.inj H
    subst hz
    refine Tr.ret (ret_r ⟨[(2, .slice m138.1 x22.length m138.2.1)], [grow 255 2 (.slice m138.1 x22.length m138.2.1) x22.length m138.2.2], [slF rp_u64_u64 m138.1 m138.2.1 x22], []⟩ [.slice m138.1 x22.length m138.2.1] [grow 255 2 (.slice m138.1 x22.length m138.2.1) x22.length m138.2.2] [] (Imp.re _ [0] [0] (sc rfl sn) (by decide) rfl rfl rfl) rfl rfl ⟨((m138.1, m138.2.1, m138.2.2)), rfl, rfl, rfl⟩ (.cons (resv_tmp rfl) .nil))

theorem c_ref10_least (p1 : List (Int × Int)) (p2 : List Bool) (A1 : Option Addr) (c1 : Nat) (A2 : Option Addr) (c2 : Nat) (n1 : Nat) (r : Int) (H : ref10_least p1 p2 = some r) :
    Ctr Try.prog 168 [.slice A1 p1.length c1, .slice A2 n1 c2] [arr rBool 4 A2 n1 c2 p2] [slF rp_u64_u64 A1 c1 p1] (fun ret M' F' => ret = .int .i64 r ∧ M' = [arr rBool 4 A2 n1 c2 p2] ∧ F' = []) := by
  unfold ref10_least at H
  refine ctr_ofI (N := 37) Try.func168 rfl Try.ntmps168 rfl (Nat.le_of_ble_eq_true rfl) (fun γ0 w0 => ?_)
  refine Tr.seq ?_
  refine Tr.region ?_
  refine TrL.v (v_assign rfl rfl) rfl rfl (bl rfl) ?_
  refine TrL.nil (qthen_n ?_)
  refine Tr.seq ?_
  refine Tr.region ?_
  refine TrL.v (v_assign rfl rfl) rfl rfl (bl rfl) ?_
  refine TrL.nil (qthen_n ?_)
  refine Tr.seq ?_
  refine Tr.seq ?_
  refine Tr.region ?_
  refine TrL.v (v_assign rfl rfl) rfl rfl (bl rfl) ?_
  refine TrL.nil (qthen_n ?_)
  obtain ⟨x2, hx3, H⟩ := bnd H
  refine Tr.cutE (D := Int) (M := Unit) .normal (fun _d => x2 = _d) (fun x2 m8 => ⟨[(1, .slice A2 n1 c2), (5, .int .i64 x2)], [arr rBool 4 A2 n1 c2 p2], [], []⟩) ?_ (fun x2 m8 hd2 => ?_)
  · refine Tr.block (Tr.loopI (ι := Unit) (step := ref10_least_s0 p1 p2) (fun s5 m6 => ⟨[(0, .slice A1 p1.length c1), (1, .slice A2 n1 c2), (5, .int .i64 s5.1), (6, .int .i64 s5.2)], [arr rBool 4 A2 n1 c2 p2], [slF rp_u64_u64 A1 c1 p1], []⟩) (()) hx3 (Imp.re _ [0] [0] (sc rfl (sc rfl (sc rfl (sc rfl sn)))) (by decide) rfl rfl rfl) (fun s5 m6 y2 hy2 hx4 => ?_))
    unfold ref10_least_s0 at hy2
    refine Tr.seq ?_
    refine Tr.seq ?_
    refine Tr.region ?_
    refine TrL.v (v_move rfl rfl) rfl rfl (bl rfl) ?_
    refine TrL.v (v_move rfl rfl) rfl rfl (bl rfl) ?_
    refine TrL.v (v_len rfl sl252 rfl) rfl rfl (bl rfl) ?_
    refine TrL.v (v_arith rfl rfl rfl ar_lss) rfl rfl (bl rfl) ?_
    refine TrL.nil (qthen_n ?_)
    rcases ifc hy2 with ⟨h41, hy2⟩ | ⟨h41, hy2⟩
    · refine Tr.cond_t rfl (bt_dec h41) ?_
      refine Tr.skip (qthen_n ?_)
      refine Tr.seq ?_
      refine Tr.block ?_
      refine Tr.seq ?_
      refine Tr.regionD drawn (fun hok => ?_)
      refine TrAny.prom (i := 0) (d := 13) hok (OpVal.plain rfl rfl (v_move rfl rfl)) (by kernel_rfl) rfl (bl rfl) ?_
      clear hok
      intro hok
      refine TrAny.prom (i := 1) (d := 14) hok (OpVal.plain rfl rfl (v_move rfl rfl)) (by kernel_rfl) rfl (bl rfl) ?_
      clear hok
      intro hok
      obtain ⟨z54, hz54, hy2⟩ := bnd hy2
      refine TrAny.prom (i := 2) (d := 15) hok (OpVal.plain rfl rfl (v_indexA (k := 0) rfl sl256 ty4 rfl rfl rfl hz54)) (by kernel_rfl) rfl (bl rfl) ?_
      clear hok
      intro hok
      refine TrAny.prom (i := 3) (d := 16) hok (OpVal.plain rfl rfl (v_loadA (A := A2) (i := s5.2) (j := 0) (k := 0) rfl ty4 (fun _ => rfl) rfl rfl hz54 rfl rfl)) (by kernel_rfl) rfl (bl rfl) ?_
      clear hok
      intro hok
      refine TrAny.prom (i := 4) (d := 17) hok (OpVal.plain rfl rfl (v_notd rfl (bdec rfl))) (by kernel_rfl) rfl (bl rfl) ?_
      clear hok
      intro hok
      refine TrAny.prom (i := 5) (d := 18) hok (OpVal.plain rfl rfl (v_move rfl rfl)) (by kernel_rfl) rfl (bl rfl) ?_
      clear hok
      intro hok
      rcases ifc hy2 with ⟨h48, hy2⟩ | ⟨h48, hy2⟩
      · refine TrAny.prom (i := 6) (d := 19) hok (OpVal.yes rfl rfl rfl rfl (bt_dec h48) (v_move rfl rfl)) (by kernel_rfl) rfl (bl rfl) ?_
        clear hok
        intro hok
        refine TrAny.prom (i := 7) (d := 20) hok (OpVal.yes rfl rfl rfl rfl (bt_dec h48) (v_arith rfl rfl rfl ar_lss)) (by kernel_rfl) rfl (bl rfl) ?_
        clear hok
        intro hok
        refine TrAny.prom (i := 8) (d := 21) hok (OpVal.yes rfl rfl rfl rfl (bt_dec h48) (v_move rfl rfl)) (by kernel_rfl) rfl (bl rfl) ?_
        clear hok
        intro hok
        rcases ifc hy2 with ⟨h49, hy2⟩ | ⟨h49, hy2⟩
        · refine TrAny.prom (i := 9) (d := 22) hok (OpVal.no rfl (fun c h => by cases h) rfl rfl rfl (gn_f (bt_dec h49))) (by kernel_rfl) rfl (bl rfl) ?_
          clear hok
          intro hok
          refine TrAny.prom (i := 10) (d := 23) hok (OpVal.no rfl (fun c h => by cases h) rfl rfl rfl (gn_f (bt_dec h49))) (by kernel_rfl) rfl (bl rfl) ?_
          clear hok
          intro hok
          refine TrAny.prom (i := 11) (d := 24) hok (OpVal.no rfl (fun c h => by cases h) rfl rfl rfl (gn_f (bt_dec h49))) (by kernel_rfl) rfl (bl rfl) ?_
          clear hok
          intro hok
          refine TrAny.prom (i := 12) (d := 25) hok (OpVal.no rfl (fun c h => by cases h) rfl rfl rfl (gn_f (bt_dec h49))) (by kernel_rfl) rfl (bl rfl) ?_
          clear hok
          intro hok
          refine TrAny.prom (i := 13) (d := 26) hok (OpVal.no rfl (fun c h => by cases h) rfl rfl rfl (gn_f (bt_dec h49))) (by kernel_rfl) rfl (bl rfl) ?_
          clear hok
          intro hok
          refine TrAny.prom (i := 14) (d := 27) hok (OpVal.no rfl (fun c h => by cases h) rfl rfl rfl (gn_f (bt_dec h49))) (by kernel_rfl) rfl (bl rfl) ?_
          clear hok
          intro hok
          refine TrAny.prom (i := 15) (d := 28) hok (OpVal.no rfl (fun c h => by cases h) rfl rfl rfl (gn_f (bt_dec h49))) (by kernel_rfl) rfl (bl rfl) ?_
          clear hok
          intro hok
          refine TrAny.prom (i := 16) (d := 29) hok (OpVal.no rfl (fun c h => by cases h) rfl rfl rfl (gn_f (bt_dec h49))) (by kernel_rfl) rfl (bl rfl) ?_
          clear hok
          intro hok
          refine TrAny.prom (i := 17) (d := 30) hok (OpVal.no rfl (fun c h => by cases h) rfl rfl rfl (gn_f (bt_dec h49))) (by kernel_rfl) rfl (bl rfl) ?_
          clear hok
          intro hok
          refine TrAny.prom (i := 18) (d := 31) hok (OpVal.no rfl (fun c h => by cases h) rfl rfl rfl (gn_f (bt_dec h49))) (by kernel_rfl) rfl (bl rfl) ?_
          clear hok
          intro hok
          refine TrAny.prom (i := 19) (d := 32) hok (OpVal.no rfl (fun c h => by cases h) rfl rfl rfl (gn_f (bt_dec h49))) (by kernel_rfl) rfl (bl rfl) ?_
          clear hok
          intro hok
          refine TrAny.prom (i := 20) (d := 33) hok (OpVal.yes rfl rfl rfl rfl (bt_dec h48) (v_pick_t rfl rfl (bt_dec h49) rfl)) (by kernel_rfl) rfl (bl rfl) ?_
          clear hok
          intro hok
          refine TrAny.prom (i := 21) (d := 34) hok (OpVal.plain rfl rfl (v_pick_t rfl rfl (bt_dec h48) rfl)) (by kernel_rfl) rfl (bl rfl) ?_
          clear hok
          intro hok
          refine TrAny.done (by kernel_rfl) (by kernel_rfl) hok (by kernel_rfl) (qthen_n ?_)
          refine Tr.cond_t rfl rfl ?_
          refine Tr.region ?_
          refine TrL.v (v_move rfl rfl) rfl rfl (bl rfl) ?_
          refine TrL.v (v_assign rfl rfl) rfl rfl (bl rfl) ?_
          refine TrL.nil (qblock_n (qthen_n ?_))
          refine Tr.region ?_
          refine TrL.v (v_move rfl rfl) rfl rfl (bl rfl) ?_
          refine TrL.v (v_arith rfl rfl rfl ar_add_i64) rfl rfl (bl rfl) ?_
          refine TrL.v (v_assign rfl rfl) rfl rfl (bl rfl) ?_
          have hz := Option.some.inj hy2
          subst hz
          refine TrL.nil (qloop_n (()) (Imp.re _ [0] [0] (sc rfl (sc rfl (sc rfl (sc rfl sn)))) (by decide) rfl rfl rfl))
        · refine TrAny.prom (i := 9) (d := 22) hok (OpVal.yes rfl rfl rfl rfl (bf_dec h49) (v_move rfl rfl)) (by kernel_rfl) rfl (bl rfl) ?_
          clear hok
          intro hok
          refine TrAny.prom (i := 10) (d := 23) hok (OpVal.yes rfl rfl rfl rfl (bf_dec h49) (v_move rfl rfl)) (by kernel_rfl) rfl (bl rfl) ?_
          clear hok
          intro hok
          obtain ⟨z55, hz55, hy2⟩ := bnd hy2
          refine TrAny.prom (i := 11) (d := 24) hok (OpVal.yes rfl rfl rfl rfl (bf_dec h49) (v_indexAddr (k := 0) rfl sl252 ty255 rfl rfl rfl rfl hz55)) (by kernel_rfl) rfl (bl rfl) ?_
          clear hok
          intro hok
          refine TrAny.prom (i := 12) (d := 25) hok (OpVal.yes rfl rfl rfl rfl (bf_dec h49) (v_fieldAddr rfl fo255_0 rfl)) (by kernel_rfl) rfl (bl rfl) ?_
          clear hok
          intro hok
          refine TrAny.prom (i := 13) (d := 26) hok (OpVal.yes rfl rfl rfl rfl (bf_dec h49) (v_loadg (A := A1) (i := s5.2) (j := 0) (k := 0) rfl ty28 (fun _ => rfl) rfl rfl hz55 rfl rfl)) (by kernel_rfl) rfl (bl rfl) ?_
          clear hok
          intro hok
          refine TrAny.prom (i := 14) (d := 27) hok (OpVal.yes rfl rfl rfl rfl (bf_dec h49) (v_move rfl rfl)) (by kernel_rfl) rfl (bl rfl) ?_
          clear hok
          intro hok
          refine TrAny.prom (i := 15) (d := 28) hok (OpVal.yes rfl rfl rfl rfl (bf_dec h49) (v_move rfl rfl)) (by kernel_rfl) rfl (bl rfl) ?_
          clear hok
          intro hok
          obtain ⟨z56, hz56, hy2⟩ := bnd hy2
          refine TrAny.prom (i := 16) (d := 29) hok (OpVal.yes rfl rfl rfl rfl (bf_dec h49) (v_indexAddr (k := 0) rfl sl252 ty255 rfl rfl rfl rfl hz56)) (by kernel_rfl) rfl (bl rfl) ?_
          clear hok
          intro hok
          refine TrAny.prom (i := 17) (d := 30) hok (OpVal.yes rfl rfl rfl rfl (bf_dec h49) (v_fieldAddr rfl fo255_0 rfl)) (by kernel_rfl) rfl (bl rfl) ?_
          clear hok
          intro hok
          refine TrAny.prom (i := 18) (d := 31) hok (OpVal.yes rfl rfl rfl rfl (bf_dec h49) (v_loadg (A := A1) (i := s5.1) (j := 0) (k := 0) rfl ty28 (fun _ => rfl) rfl rfl hz56 rfl rfl)) (by kernel_rfl) rfl (bl rfl) ?_
          clear hok
          intro hok
          refine TrAny.prom (i := 19) (d := 32) hok (OpVal.yes rfl rfl rfl rfl (bf_dec h49) (v_arith rfl rfl rfl ar_lss)) (by kernel_rfl) rfl (bl rfl) ?_
          clear hok
          intro hok
          refine TrAny.prom (i := 20) (d := 33) hok (OpVal.yes rfl rfl rfl rfl (bt_dec h48) (v_pick_f rfl rfl (bf_dec h49) rfl)) (by kernel_rfl) rfl (bl rfl) ?_
          clear hok
          intro hok
          refine TrAny.prom (i := 21) (d := 34) hok (OpVal.plain rfl rfl (v_pick_t rfl rfl (bt_dec h48) rfl)) (by kernel_rfl) rfl (bl rfl) ?_
          clear hok
          intro hok
          refine TrAny.done (by kernel_rfl) (by kernel_rfl) hok (by kernel_rfl) (qthen_n ?_)
          rcases ifc hy2 with ⟨h50, hy2⟩ | ⟨h50, hy2⟩
          · refine Tr.cond_t rfl (bt_dec h50) ?_
            refine Tr.region ?_
            refine TrL.v (v_move rfl rfl) rfl rfl (bl rfl) ?_
            refine TrL.v (v_assign rfl rfl) rfl rfl (bl rfl) ?_
            refine TrL.nil (qblock_n (qthen_n ?_))
            refine Tr.region ?_
            refine TrL.v (v_move rfl rfl) rfl rfl (bl rfl) ?_
            refine TrL.v (v_arith rfl rfl rfl ar_add_i64) rfl rfl (bl rfl) ?_
            refine TrL.v (v_assign rfl rfl) rfl rfl (bl rfl) ?_
            have hz := Option.some.inj hy2
            subst hz
            refine TrL.nil (qloop_n (()) (Imp.re _ [0] [0] (sc rfl (sc rfl (sc rfl (sc rfl sn)))) (by decide) rfl rfl rfl))
          · refine Tr.cond_f rfl (bf_dec h50) ?_
            refine Tr.skip (qblock_n (qthen_n ?_))
            refine Tr.region ?_
            refine TrL.v (v_move rfl rfl) rfl rfl (bl rfl) ?_
            refine TrL.v (v_arith rfl rfl rfl ar_add_i64) rfl rfl (bl rfl) ?_
            refine TrL.v (v_assign rfl rfl) rfl rfl (bl rfl) ?_
            have hz := Option.some.inj hy2
            subst hz
            refine TrL.nil (qloop_n (()) (Imp.re _ [0] [0] (sc rfl (sc rfl (sc rfl (sc rfl sn)))) (by decide) rfl rfl rfl))
      · refine TrAny.prom (i := 6) (d := 19) hok (OpVal.no rfl (fun c h => by cases h) rfl rfl rfl (gn_t (bf_dec h48))) (by kernel_rfl) rfl (bl rfl) ?_
        clear hok
        intro hok
        refine TrAny.prom (i := 7) (d := 20) hok (OpVal.no rfl (fun c h => by cases h) rfl rfl rfl (gn_t (bf_dec h48))) (by kernel_rfl) rfl (bl rfl) ?_
        clear hok
        intro hok
        refine TrAny.prom (i := 8) (d := 21) hok (OpVal.no rfl (fun c h => by cases h) rfl rfl rfl (gn_t (bf_dec h48))) (by kernel_rfl) rfl (bl rfl) ?_
        clear hok
        intro hok
        refine TrAny.prom (i := 9) (d := 22) hok (OpVal.un rfl (fun c h => by cases h) rfl rfl rfl) (by kernel_rfl) rfl (bl rfl) ?_
        clear hok
        intro hok
        refine TrAny.prom (i := 10) (d := 23) hok (OpVal.un rfl (fun c h => by cases h) rfl rfl rfl) (by kernel_rfl) rfl (bl rfl) ?_
        clear hok
        intro hok
        refine TrAny.prom (i := 11) (d := 24) hok (OpVal.un rfl (fun c h => by cases h) rfl rfl rfl) (by kernel_rfl) rfl (bl rfl) ?_
        clear hok
        intro hok
        refine TrAny.prom (i := 12) (d := 25) hok (OpVal.un rfl (fun c h => by cases h) rfl rfl rfl) (by kernel_rfl) rfl (bl rfl) ?_
        clear hok
        intro hok
        refine TrAny.prom (i := 13) (d := 26) hok (OpVal.un rfl (fun c h => by cases h) rfl rfl rfl) (by kernel_rfl) rfl (bl rfl) ?_
        clear hok
        intro hok
        refine TrAny.prom (i := 14) (d := 27) hok (OpVal.un rfl (fun c h => by cases h) rfl rfl rfl) (by kernel_rfl) rfl (bl rfl) ?_
        clear hok
        intro hok
        refine TrAny.prom (i := 15) (d := 28) hok (OpVal.un rfl (fun c h => by cases h) rfl rfl rfl) (by kernel_rfl) rfl (bl rfl) ?_
        clear hok
        intro hok
        refine TrAny.prom (i := 16) (d := 29) hok (OpVal.un rfl (fun c h => by cases h) rfl rfl rfl) (by kernel_rfl) rfl (bl rfl) ?_
        clear hok
        intro hok
        refine TrAny.prom (i := 17) (d := 30) hok (OpVal.un rfl (fun c h => by cases h) rfl rfl rfl) (by kernel_rfl) rfl (bl rfl) ?_
        clear hok
        intro hok
        refine TrAny.prom (i := 18) (d := 31) hok (OpVal.un rfl (fun c h => by cases h) rfl rfl rfl) (by kernel_rfl) rfl (bl rfl) ?_
        clear hok
        intro hok
        refine TrAny.prom (i := 19) (d := 32) hok (OpVal.un rfl (fun c h => by cases h) rfl rfl rfl) (by kernel_rfl) rfl (bl rfl) ?_
        clear hok
        intro hok
        refine TrAny.prom (i := 20) (d := 33) hok (OpVal.no rfl (fun c h => by cases h) rfl rfl rfl (gn_t (bf_dec h48))) (by kernel_rfl) rfl (bl rfl) ?_
        clear hok
        intro hok
        refine TrAny.prom (i := 21) (d := 34) hok (OpVal.plain rfl rfl (v_pick_f rfl rfl (bf_dec h48) rfl)) (by kernel_rfl) rfl (bl rfl) ?_
        clear hok
        intro hok
        refine TrAny.done (by kernel_rfl) (by kernel_rfl) hok (by kernel_rfl) (qthen_n ?_)
        refine Tr.cond_f rfl rfl ?_
        refine Tr.skip (qblock_n (qthen_n ?_))
        refine Tr.region ?_
        refine TrL.v (v_move rfl rfl) rfl rfl (bl rfl) ?_
        refine TrL.v (v_arith rfl rfl rfl ar_add_i64) rfl rfl (bl rfl) ?_
        refine TrL.v (v_assign rfl rfl) rfl rfl (bl rfl) ?_
        have hz := Option.some.inj hy2
        subst hz
        refine TrL.nil (qloop_n (()) (Imp.re _ [0] [0] (sc rfl (sc rfl (sc rfl (sc rfl sn)))) (by decide) rfl rfl rfl))
    · refine Tr.cond_f rfl (bf_dec h41) ?_
      have hz := Option.some.inj hy2
      subst hz
      refine Tr.exit (qthen_x (qloop_x (qblock_hit (qcut_hit s5.1 (()) (hx4 _ rfl).symm (Imp.re _ [0] [] (sc rfl (sc rfl sn)) (by decide) rfl rfl rfl)))))
  · subst hd2
    refine (qthen_n ?_)
    refine Tr.seq ?_
    refine Tr.region ?_
    refine TrL.v (v_move rfl rfl) rfl rfl (bl rfl) ?_
    refine TrL.v (v_assign rfl rfl) rfl rfl (bl rfl) ?_
    refine TrL.nil (qthen_n ?_)
    have hz := Option.some.inj H
    subst hz
    refine Tr.ret (ret_r ⟨[(4, .int .i64 x2)], [arr rBool 4 A2 n1 c2 p2], [], []⟩ [.int .i64 x2] [arr rBool 4 A2 n1 c2 p2] [] (Imp.re _ [0] [] (sc rfl sn) (by decide) rfl rfl rfl) rfl rfl ⟨rfl, rfl, rfl⟩ (.cons (resv_tmp rfl) .nil))
end Go.Proofs.Ytbeknohemgjfbaa.W
