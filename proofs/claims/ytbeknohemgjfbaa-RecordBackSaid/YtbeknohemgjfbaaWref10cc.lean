/- The contracts of the walked functions: the printed walks. -/
import Derived.Test.YtbeknohemgjfbaaKc
import Derived.Test.YtbeknohemgjfbaaQc
import Derived.Test.YtbeknohemgjfbaaWref06bc
import Derived.Test.YtbeknohemgjfbaaWref10ac
import Derived.Test.YtbeknohemgjfbaaWref10bc
namespace Go.Proofs.Ytbeknohemgjfbaa.W
open Go Go.Proofs Go.Proofs.Ytbeknohemgjfbaa.L Go.Proofs.Ytbeknohemgjfbaa.Pu
set_option linter.unusedVariables false
set_option maxHeartbeats 4000000

theorem c_ref10_With (p1 : List (Int × Int × Int)) (p2 : List (Int × Int × List (List (Int × Int)))) (A1 : Option Addr) (c1 : Nat) (A2 : Option Addr) (c2 : Nat) (r : Int × Int × (List (List (Int × Int))) × Int) (H : ref10_With p1 p2 = some r) :
    Ctr Try.prog 135 [.slice A1 p1.length c1, .slice A2 p2.length c2] [] [slF rp_u64_u64_u64 A1 c1 p1, slF rp_i64_i64_LLOu64_u64_C A2 c2 p2] (fun ret M' F' => ∃ m : Option Addr × Nat, ret = .tuple #[.agg #[.int .i64 r.1, .int .i64 r.2.1, .slice m.1 r.2.2.1.length m.2], .int .i64 r.2.2.2] ∧ M' = [] ∧ F' = [slF (rSl rp_u64_u64) m.1 m.2 r.2.2.1]) := by
  unfold ref10_With at H
  refine ctr_ofI (N := 99) Try.func135 rfl Try.ntmps135 rfl (Nat.le_of_ble_eq_true rfl) (fun γ0 w0 => ?_)
  refine Tr.seq ?_
  refine Tr.region ?_
  refine TrL.cons rfl (op_alloc' rfl (bl rfl) rfl ze26 (fun b18 => ?_))
  refine TrL.v (v_assign rfl rfl) rfl rfl (bl rfl) ?_
  refine TrL.nil (qthen_n ?_)
  refine Tr.seq ?_
  refine Tr.region ?_
  refine TrL.v (v_move rfl rfl) rfl rfl (bl rfl) ?_
  refine TrL.v (v_move rfl rfl) rfl rfl (bl rfl) ?_
  obtain ⟨r9, hr9, H⟩ := bnd H
  refine TrL.cons rfl (op_call0' (vs := [.slice A1 p1.length c1, .slice A2 p2.length c2]) (cap := []) [0, 1] rfl rfl (bl rfl) rfl rfl en166 (c_ref10_bad p1 p2 A1 c1 A2 c2 r9 hr9) rfl (fun ret M' F' hR21 => ?_))
  obtain ⟨rfl, rfl, rfl⟩ := hR21
  refine TrL.v (v_assign rfl rfl) rfl rfl (bl rfl) ?_
  refine TrL.nil (qthen_n ?_)
  refine Tr.seq ?_
  refine Tr.seq ?_
  refine Tr.region ?_
  refine TrL.v (v_move rfl rfl) rfl rfl (bl rfl) ?_
  refine TrL.v (v_arith rfl rfl rfl ar_neq) rfl rfl (bl rfl) ?_
  refine TrL.nil (qthen_n ?_)
  rcases ifc H with ⟨h19, H⟩ | ⟨h19, H⟩
  · refine Tr.cond_t rfl (bt_dec h19) ?_
    refine Tr.seq ?_
    refine Tr.region ?_
    refine TrL.v (v_build (vs := []) (out := [.int .i64 0, .int .i64 0, .slice none 0 0]) rfl pl26 ze26 rfl rfl) rfl rfl (bl rfl) ?_
    refine TrL.v (v_move rfl rfl) rfl rfl (bl rfl) ?_
    refine TrL.cons rfl (op_store' (k := 0) (c' := [.int .i64 0, .int .i64 0, .slice none 0 0]) rfl rfl rfl rfl rfl ty26 rfl (Nat.le_of_ble_eq_true rfl) (ones (oc rfl (oc rfl (oc rfl on)))) rfl ?_)
    refine TrL.v (v_assign rfl rfl) rfl rfl (bl rfl) ?_
    refine TrL.nil (qthen_n ?_)
    have hz := Option.some.inj H
    subst hz
    refine Tr.ret (qthen_r (ret_r ⟨[(4, .pointer (some ⟨b18, 0, none⟩)), (5, .int .i64 r9)], [cells b18 [.int .i64 0, .int .i64 0, .slice none 0 0] 26], [slF (rSl rp_u64_u64) none 0 (([] : List (List (Int × Int))))], []⟩ [.agg #[.int .i64 0, .int .i64 0, .slice none 0 0], .int .i64 r9] [] [cells b18 [.int .i64 0, .int .i64 0, .slice none 0 0] 26] (Imp.addF' _ (nilF (rSl rp_u64_u64)) (Imp.re _ [0] [2] (sc rfl (sc rfl sn)) (by decide) rfl rfl rfl)) rfl rfl ⟨((none, 0)), rfl, rfl, rfl⟩ (.cons (resv_cell (k := 0) rfl rfl ty26 nofun rfl rfl) (.cons (resv_tmp rfl) .nil))))
  · refine Tr.cond_f rfl (bf_dec h19) ?_
    refine Tr.skip (qthen_n ?_)
    refine Tr.seq ?_
    refine Tr.region ?_
    refine TrL.v (v_move rfl rfl) rfl rfl (bl rfl) ?_
    obtain ⟨z19, hz19, H⟩ := bnd H
    refine TrL.v (v_indexAddr (k := 1) rfl sl132 ty26 rfl rfl rfl rfl hz19) rfl rfl (bl rfl) ?_
    refine TrL.v (v_fieldAddr rfl fo26_0 rfl) rfl rfl (bl rfl) ?_
    refine TrL.openP (k := 1) rfl hz19 (fun m41 => ?_)
    refine TrL.v (v_loadCF (j := 0) (k := 3) rfl ty3 (fun _ => rfl) rfl rfl rfl rfl) rfl rfl (bl rfl) ?_
    refine TrL.v (v_build (vs := [.int .i64 z19.1]) (out := [.int .i64 z19.1, .int .i64 0, .slice none 0 0]) rfl pl26 ze26 rfl rfl) rfl rfl (bl rfl) ?_
    refine TrL.cons rfl (op_alloc' rfl (bl rfl) rfl ze26 (fun b19 => ?_))
    refine TrL.cons rfl (op_store' (k := 0) (c' := [.int .i64 z19.1, .int .i64 0, .slice none 0 0]) rfl rfl rfl rfl rfl ty26 rfl (Nat.le_of_ble_eq_true rfl) (ones (oc rfl (oc rfl (oc rfl on)))) rfl ?_)
    refine TrL.nil (qthen_n ?_)
    refine Tr.seq ?_
    refine Tr.region ?_
    refine TrL.v (v_assign rfl rfl) rfl rfl (bl rfl) ?_
    refine TrL.nil (qthen_n ?_)
    refine Tr.seq ?_
    refine Tr.seq ?_
    refine Tr.region ?_
    refine TrL.v (v_assign rfl rfl) rfl rfl (bl rfl) ?_
    refine TrL.nil (qthen_n ?_)
    obtain ⟨x4, hx7, H⟩ := bnd H
    refine Tr.cutE (D := Int) (M := Unit) .normal (fun _d => x4 = _d) (fun x4 m47 => ⟨[(0, .slice A1 p1.length c1), (1, .slice A2 p2.length c2), (4, .pointer (some ⟨b18, 0, none⟩)), (7, .pointer (some ⟨b19, 0, none⟩)), (8, .int .i64 x4)], [cells b18 [.int .i64 0, .int .i64 0, .slice none 0 0] 26, cells b19 [.int .i64 z19.1, .int .i64 0, .slice none 0 0] 26], [slF rp_u64_u64_u64 A1 c1 p1, slF rp_i64_i64_LLOu64_u64_C A2 c2 p2, slF (rSl rp_u64_u64) none 0 (([] : List (List (Int × Int))))], []⟩) ?_ (fun x4 m47 hd4 => ?_)
    · refine Tr.block (Tr.loopI (ι := Unit) (step := ref10_With_s0 p2) (fun s11 m44 => ⟨[(0, .slice A1 p1.length c1), (1, .slice A2 p2.length c2), (4, .pointer (some ⟨b18, 0, none⟩)), (7, .pointer (some ⟨b19, 0, none⟩)), (8, .int .i64 s11.1), (9, .int .i64 s11.2)], [cells b18 [.int .i64 0, .int .i64 0, .slice none 0 0] 26, cells b19 [.int .i64 z19.1, .int .i64 0, .slice none 0 0] 26], [slF rp_u64_u64_u64 A1 c1 p1, slF rp_i64_i64_LLOu64_u64_C A2 c2 p2, slF (rSl rp_u64_u64) none 0 (([] : List (List (Int × Int))))], []⟩) (()) hx7 (Imp.addF' _ (nilF (rSl rp_u64_u64)) (Imp.re _ [1, 0] [0, 1, 4] (sc rfl (sc rfl (sc rfl (sc rfl (sc rfl (sc rfl sn)))))) (by decide) rfl rfl rfl)) (fun s11 m44 y4 hy4 hx8 => ?_))
      unfold ref10_With_s0 at hy4
      refine Tr.seq ?_
      refine Tr.seq ?_
      refine Tr.region ?_
      refine TrL.v (v_move rfl rfl) rfl rfl (bl rfl) ?_
      refine TrL.v (v_move rfl rfl) rfl rfl (bl rfl) ?_
      refine TrL.v (v_len rfl sl132 rfl) rfl rfl (bl rfl) ?_
      refine TrL.v (v_arith rfl rfl rfl ar_lss) rfl rfl (bl rfl) ?_
      refine TrL.nil (qthen_n ?_)
      rcases ifc hy4 with ⟨h22, hy4⟩ | ⟨h22, hy4⟩
      · refine Tr.cond_t rfl (bt_dec h22) ?_
        refine Tr.skip (qthen_n ?_)
        refine Tr.seq ?_
        refine Tr.block ?_
        refine Tr.region ?_
        refine TrL.v (v_move rfl rfl) rfl rfl (bl rfl) ?_
        refine TrL.v (v_move rfl rfl) rfl rfl (bl rfl) ?_
        refine TrL.v (v_move rfl rfl) rfl rfl (bl rfl) ?_
        obtain ⟨z21, hz21, hy4⟩ := bnd hy4
        refine TrL.v (v_indexAddr (k := 1) rfl sl132 ty26 rfl rfl rfl rfl hz21) rfl rfl (bl rfl) ?_
        refine TrL.v (v_fieldAddr rfl fo26_1 rfl) rfl rfl (bl rfl) ?_
        refine TrL.openP (k := 1) rfl hz21 (fun m48 => ?_)
        refine TrL.v (v_loadCF (j := 1) (k := 4) rfl ty3 (fun _ => rfl) rfl rfl rfl rfl) rfl rfl (bl rfl) ?_
        refine TrL.v (v_max rfl rfl rfl) rfl rfl (bl rfl) ?_
        refine TrL.v (v_assign rfl rfl) rfl rfl (bl rfl) ?_
        refine TrL.nil (qblock_n (qthen_n ?_))
        refine Tr.region ?_
        refine TrL.v (v_move rfl rfl) rfl rfl (bl rfl) ?_
        refine TrL.v (v_arith rfl rfl rfl ar_add_i64) rfl rfl (bl rfl) ?_
        refine TrL.v (v_assign rfl rfl) rfl rfl (bl rfl) ?_
        have hz := Option.some.inj hy4
        subst hz
        refine TrL.nil (qloop_n (()) (Imp.re _ [0, 1] [0, 1, 2] (sc rfl (sc rfl (sc rfl (sc rfl (sc rfl (sc rfl sn)))))) (by decide) rfl rfl rfl))
      · refine Tr.cond_f rfl (bf_dec h22) ?_
        have hz := Option.some.inj hy4
        subst hz
        refine Tr.exit (qthen_x (qloop_x (qblock_hit (qcut_hit s11.1 (()) (hx8 _ rfl).symm (Imp.re _ [0, 1] [0, 1, 2] (sc rfl (sc rfl (sc rfl (sc rfl (sc rfl sn))))) (by decide) rfl rfl rfl)))))
    · subst hd4
      refine (qthen_n ?_)
      refine Tr.seq ?_
      refine Tr.region ?_
      refine TrL.v (v_move rfl rfl) rfl rfl (bl rfl) ?_
      obtain ⟨r10, hr10, H⟩ := bnd H
      refine TrL.cons rfl (op_call0' (vs := [.slice A2 p2.length c2]) (cap := []) [1] rfl rfl (bl rfl) rfl rfl en167 (c_ref10_lumps p2 A2 c2 r10 hr10) rfl (fun ret M' F' hR22 => ?_))
      obtain ⟨m49, rfl, rfl, rfl⟩ := hR22
      refine TrL.v (v_assign rfl rfl) rfl rfl (bl rfl) ?_
      refine TrL.nil (qthen_n ?_)
      refine Tr.seq ?_
      refine Tr.seq ?_
      refine Tr.region ?_
      refine TrL.v (v_assign rfl rfl) rfl rfl (bl rfl) ?_
      refine TrL.nil (qthen_n ?_)
      obtain ⟨x5, hx9, H⟩ := bnd H
      refine Tr.cutE (D := List (Int × Int)) (M := Option Addr × Nat × Option Nat) .normal (fun _d => x5 = _d) (fun x5 m53 => ⟨[(4, .pointer (some ⟨b18, 0, none⟩)), (7, .pointer (some ⟨b19, 0, none⟩)), (8, .int .i64 x4), (10, .slice m53.1 x5.length m53.2.1)], [cells b18 [.int .i64 0, .int .i64 0, .slice none 0 0] 26, cells b19 [.int .i64 z19.1, .int .i64 0, .slice none 0 0] 26, grow 255 2 (.slice m53.1 x5.length m53.2.1) x5.length m53.2.2], [slF rp_u64_u64 m53.1 m53.2.1 x5, slF (rSl rp_u64_u64) none 0 (([] : List (List (Int × Int))))], []⟩) ?_ (fun x5 m53 hd5 => ?_)
      · refine Tr.block (Tr.loopI (ι := Option Addr × Nat × Option Nat) (step := ref10_With_s1 p1) (fun s14 m51 => ⟨[(0, .slice A1 p1.length c1), (4, .pointer (some ⟨b18, 0, none⟩)), (7, .pointer (some ⟨b19, 0, none⟩)), (8, .int .i64 x4), (10, .slice m51.1 s14.1.length m51.2.1), (11, .int .i64 s14.2)], [cells b18 [.int .i64 0, .int .i64 0, .slice none 0 0] 26, cells b19 [.int .i64 z19.1, .int .i64 0, .slice none 0 0] 26, grow 255 2 (.slice m51.1 s14.1.length m51.2.1) s14.1.length m51.2.2], [slF rp_u64_u64_u64 A1 c1 p1, slF rp_u64_u64 m51.1 m51.2.1 s14.1, slF (rSl rp_u64_u64) none 0 (([] : List (List (Int × Int))))], []⟩) ((m49.1, m49.2.1, m49.2.2)) hx9 (Imp.re _ [1, 2, 0] [0, 3, 2] (sc rfl (sc rfl (sc rfl (sc rfl (sc rfl (sc rfl sn)))))) (by decide) rfl rfl rfl) (fun s14 m51 y5 hy5 hx10 => ?_))
        unfold ref10_With_s1 at hy5
        refine Tr.seq ?_
        refine Tr.seq ?_
        refine Tr.region ?_
        refine TrL.v (v_move rfl rfl) rfl rfl (bl rfl) ?_
        refine TrL.v (v_move rfl rfl) rfl rfl (bl rfl) ?_
        refine TrL.v (v_len rfl sl71 rfl) rfl rfl (bl rfl) ?_
        refine TrL.v (v_arith rfl rfl rfl ar_lss) rfl rfl (bl rfl) ?_
        refine TrL.nil (qthen_n ?_)
        rcases ifc hy5 with ⟨h29, hy5⟩ | ⟨h29, hy5⟩
        · refine Tr.cond_t rfl (bt_dec h29) ?_
          refine Tr.skip (qthen_n ?_)
          refine Tr.seq ?_
          refine Tr.block ?_
          refine Tr.regionD drawn (fun hok => ?_)
          refine TrAny.prom (i := 0) (d := 50) hok (OpVal.plain rfl rfl (v_move rfl rfl)) (by kernel_rfl) rfl (bl rfl) ?_
          clear hok
          intro hok
          refine TrAny.prom (i := 1) (d := 51) hok (OpVal.plain rfl rfl (v_move rfl rfl)) (by kernel_rfl) rfl (bl rfl) ?_
          clear hok
          intro hok
          refine TrAny.prom (i := 2) (d := 52) hok (OpVal.plain rfl rfl (v_move rfl rfl)) (by kernel_rfl) rfl (bl rfl) ?_
          clear hok
          intro hok
          obtain ⟨z27, hz27, hy5⟩ := bnd hy5
          refine TrAny.prom (i := 3) (d := 53) hok (OpVal.plain rfl rfl (v_indexAddr (k := 0) rfl sl71 ty85 rfl rfl rfl rfl hz27)) (by kernel_rfl) rfl (bl rfl) ?_
          clear hok
          intro hok
          refine TrAny.prom (i := 4) (d := 54) hok (OpVal.plain rfl rfl (v_fieldAddr rfl fo85_0 rfl)) (by kernel_rfl) rfl (bl rfl) ?_
          clear hok
          intro hok
          refine TrAny.prom (i := 5) (d := 55) hok (OpVal.plain rfl rfl (v_loadg (A := A1) (i := s14.2) (j := 0) (k := 0) rfl ty28 (fun _ => rfl) rfl rfl hz27 rfl rfl)) (by kernel_rfl) rfl (bl rfl) ?_
          clear hok
          intro hok
          refine TrAny.prom (i := 6) (d := 56) hok (OpVal.plain rfl rfl (v_move rfl rfl)) (by kernel_rfl) rfl (bl rfl) ?_
          clear hok
          intro hok
          refine TrAny.prom (i := 7) (d := 57) hok (OpVal.plain rfl rfl (v_move rfl rfl)) (by kernel_rfl) rfl (bl rfl) ?_
          clear hok
          intro hok
          refine TrAny.prom (i := 8) (d := 58) hok (OpVal.plain rfl rfl (v_indexAddr (k := 0) rfl sl71 ty85 rfl rfl rfl rfl hz27)) (by kernel_rfl) rfl (bl rfl) ?_
          clear hok
          intro hok
          refine TrAny.prom (i := 9) (d := 59) hok (OpVal.plain rfl rfl (v_fieldAddr rfl fo85_2 rfl)) (by kernel_rfl) rfl (bl rfl) ?_
          clear hok
          intro hok
          refine TrAny.prom (i := 10) (d := 60) hok (OpVal.plain rfl rfl (v_loadg (A := A1) (i := s14.2) (j := 2) (k := 0) rfl ty28 (fun _ => rfl) rfl rfl hz27 rfl rfl)) (by kernel_rfl) rfl (bl rfl) ?_
          clear hok
          intro hok
          refine TrAny.prom (i := 11) (d := 61) hok (OpVal.plain rfl rfl (v_build (vs := [.int .u64 z27.1, .int .u64 z27.2.2]) (out := [.int .u64 z27.1, .int .u64 z27.2.2]) rfl pl255 ze255 rfl rfl)) (by kernel_rfl) rfl (bl rfl) ?_
          clear hok
          intro hok
          refine TrAny.next (j := 12) (by kernel_rfl) hok rfl (by kernel_rfl) (op_buildSlice' (rp := rp_u64_u64) (xs := [(z27.1, z27.2.2)]) (vs := [.agg #[.int .u64 z27.1, .int .u64 z27.2.2]]) (out := [.int .u64 z27.1, .int .u64 z27.2.2]) rfl (bl rfl) rfl sl252 ty255 ze255 rfl rfl (by decide) (by decide) rfl (fun γ w hF => (rowc rfl rown rfl)) (fun A26 => ?_))
          refine nxp hok (kp_imp (kp_cf rfl)) rfl (by kernel_rfl) ?_
          clear hok
          intro hok
          obtain ⟨h31, hy5⟩ := rom hy5
          refine TrAny.next (j := 13) (by kernel_rfl) hok rfl (by kernel_rfl) (op_append' (rp := rp_u64_u64) (xs := s14.1) (ys := [(z27.1, z27.2.2)]) (k := 2) (kx := 1) (ky := 3) rfl (bl rfl) rfl sl252 ty255 ze255 rfl by255 rfl rfl rfl rfl rfl rfl rfl h31.1 h31.2 (fun A27 c14 o12 => ?_))
          refine nxp hok (kp_allE [(0, 50, .slice m51.1 s14.1.length m51.2.1), (1, 51, .slice A1 p1.length c1), (2, 52, .int .i64 s14.2), (3, 53, .pointer (some ⟨ablk A1, aoff A1 + (s14.2).toNat * 3, none⟩)), (4, 54, .pointer (some ⟨ablk A1, aoff A1 + (s14.2).toNat * 3 + 0, none⟩)), (5, 55, .int .u64 z27.1), (6, 56, .slice A1 p1.length c1), (7, 57, .int .i64 s14.2), (8, 58, .pointer (some ⟨ablk A1, aoff A1 + (s14.2).toNat * 3, none⟩)), (9, 59, .pointer (some ⟨ablk A1, aoff A1 + (s14.2).toNat * 3 + 2, none⟩)), (10, 60, .int .u64 z27.2.2), (11, 61, .agg #[.int .u64 z27.1, .int .u64 z27.2.2])] (by kernel_rfl) (ac (.inl (by kernel_rfl)) (ac (.inr (OpVal.plain rfl rfl (v_move rfl rfl))) (ac (.inr (OpVal.plain rfl rfl (v_move rfl rfl))) (ac (.inr (OpVal.plain rfl rfl (v_indexAddr (k := 0) rfl sl71 ty85 rfl rfl rfl rfl hz27))) (ac (.inr (OpVal.plain rfl rfl (v_fieldAddr rfl fo85_0 rfl))) (ac (.inr (OpVal.plain rfl rfl (v_loadg (A := A1) (i := s14.2) (j := 0) (k := 0) rfl ty28 (fun _ => rfl) rfl rfl hz27 rfl rfl))) (ac (.inr (OpVal.plain rfl rfl (v_move rfl rfl))) (ac (.inr (OpVal.plain rfl rfl (v_move rfl rfl))) (ac (.inr (OpVal.plain rfl rfl (v_indexAddr (k := 0) rfl sl71 ty85 rfl rfl rfl rfl hz27))) (ac (.inr (OpVal.plain rfl rfl (v_fieldAddr rfl fo85_2 rfl))) (ac (.inr (OpVal.plain rfl rfl (v_loadg (A := A1) (i := s14.2) (j := 2) (k := 0) rfl ty28 (fun _ => rfl) rfl rfl hz27 rfl rfl))) (ac (.inr (OpVal.plain rfl rfl (v_build (vs := [.int .u64 z27.1, .int .u64 z27.2.2]) (out := [.int .u64 z27.1, .int .u64 z27.2.2]) rfl pl255 ze255 rfl rfl))) an))))))))))))) rfl (by kernel_rfl) ?_
          clear hok
          intro hok
          refine TrAny.next (j := 14) (by kernel_rfl) hok rfl (by kernel_rfl) (OpTr.v (v_assign rfl rfl) rfl (bl rfl) ?_)
          refine nxp hok (kp_aw (by kernel_rfl)) rfl (by kernel_rfl) ?_
          clear hok
          intro hok
          refine TrAny.done (by kernel_rfl) (by kernel_rfl) hok (by kernel_rfl) (qblock_n (qthen_n ?_))
          refine Tr.region ?_
          refine TrL.v (v_move rfl rfl) rfl rfl (bl rfl) ?_
          refine TrL.v (v_arith rfl rfl rfl ar_add_i64) rfl rfl (bl rfl) ?_
          refine TrL.v (v_assign rfl rfl) rfl rfl (bl rfl) ?_
          have hz := Option.some.inj hy5
          subst hz
          refine TrL.nil (qloop_n ((A27, c14, o12)) (Imp.re _ [0, 1, 2] [0, 4, 2] (sc rfl (sc rfl (sc rfl (sc rfl (sc rfl (sc rfl sn)))))) (by decide) rfl rfl rfl))
        · refine Tr.cond_f rfl (bf_dec h29) ?_
          have hz := Option.some.inj hy5
          subst hz
          refine Tr.exit (qthen_x (qloop_x (qblock_hit (qcut_hit s14.1 ((m51.1, m51.2.1, m51.2.2)) (hx10 _ rfl).symm (Imp.re _ [0, 1, 2] [1, 2] (sc rfl (sc rfl (sc rfl (sc rfl sn)))) (by decide) rfl rfl rfl)))))
      · subst hd5
        refine (qthen_n ?_)
        refine Tr.seq ?_
        refine Tr.region ?_
        refine TrL.v (v_move rfl rfl) rfl rfl (bl rfl) ?_
        refine TrL.v (v_len rfl sl252 rfl) rfl rfl (bl rfl) ?_
        obtain ⟨h32, H⟩ := mst H
        obtain ⟨h33, H⟩ := rom H
        refine TrL.cons rfl (op_makeS (rp := rBool) (n := ((x5.length : Int)).toNat) (z := (false : Bool)) rfl (bl rfl) rfl sl256 ty4 ze4 rfl by4 rfl rfl h32 rfl h33 (fun _ _ => rfl) (fun A28 => ?_))
        refine TrL.v (v_assign rfl rfl) rfl rfl (bl rfl) ?_
        refine TrL.nil (qthen_n ?_)
        refine Tr.seq ?_
        refine Tr.seq ?_
        refine Tr.region ?_
        refine TrL.v (v_assign rfl rfl) rfl rfl (bl rfl) ?_
        refine TrL.nil (qthen_n ?_)
        obtain ⟨x6, hx11, H⟩ := bnd H
        refine Tr.cutE (D := Int × Int × List (List (Int × Int))) (M := Option Addr × Nat) .normal (fun _d => x6 = _d) (fun x6 m71 => ⟨[(4, .pointer (some ⟨b18, 0, none⟩)), (7, .pointer (some ⟨b19, 0, none⟩)), (8, .int .i64 x4)], [cells b18 [.int .i64 0, .int .i64 0, .slice none 0 0] 26, cells b19 [.int .i64 x6.1, .int .i64 x6.2.1, .slice m71.1 x6.2.2.length m71.2] 26], [slF (rSl rp_u64_u64) none 0 (([] : List (List (Int × Int)))), slF (rSl rp_u64_u64) m71.1 m71.2 x6.2.2], []⟩) ?_ (fun x6 m71 hd6 => ?_)
        · refine Tr.block (Tr.loopI (ι := Option Addr × Nat) (step := ref10_With_s2 x5) (fun s17 m62 => ⟨[(4, .pointer (some ⟨b18, 0, none⟩)), (7, .pointer (some ⟨b19, 0, none⟩)), (8, .int .i64 x4), (10, .slice m53.1 x5.length m53.2.1), (12, .slice A28 (((x5.length : Int)).toNat) (((x5.length : Int)).toNat)), (13, .int .i64 s17.2.1)], [cells b18 [.int .i64 0, .int .i64 0, .slice none 0 0] 26, cells b19 [.int .i64 s17.2.2.1, .int .i64 s17.2.2.2.1, .slice m62.1 s17.2.2.2.2.length m62.2] 26, grow 255 2 (.slice m53.1 x5.length m53.2.1) x5.length m53.2.2, arr rBool 4 A28 (((x5.length : Int)).toNat) (((x5.length : Int)).toNat) s17.1], [slF rp_u64_u64 m53.1 m53.2.1 x5, slF (rSl rp_u64_u64) none 0 (([] : List (List (Int × Int)))), slF (rSl rp_u64_u64) m62.1 m62.2 s17.2.2.2.2], []⟩) ((none, 0)) hx11 (Imp.re _ [1, 2, 3, 0] [0, 1, 1] (sc rfl (sc rfl (sc rfl (sc rfl (sc rfl (sc rfl sn)))))) (by decide) rfl rfl rfl) (fun s17 m62 y6 hy6 hx12 => ?_))
          unfold ref10_With_s2 at hy6
          refine Tr.seq ?_
          refine Tr.seq ?_
          refine Tr.region ?_
          refine TrL.v (v_move rfl rfl) rfl rfl (bl rfl) ?_
          refine TrL.v (v_move rfl rfl) rfl rfl (bl rfl) ?_
          refine TrL.v (v_len rfl sl252 rfl) rfl rfl (bl rfl) ?_
          refine TrL.v (v_arith rfl rfl rfl ar_lss) rfl rfl (bl rfl) ?_
          refine TrL.nil (qthen_n ?_)
          rcases ifc hy6 with ⟨h36, hy6⟩ | ⟨h36, hy6⟩
          · refine Tr.cond_t rfl (bt_dec h36) ?_
            refine Tr.skip (qthen_n ?_)
            refine Tr.seq ?_
            refine Tr.block ?_
            refine Tr.seq ?_
            refine Tr.region ?_
            refine TrL.v (v_move rfl rfl) rfl rfl (bl rfl) ?_
            refine TrL.v (v_move rfl rfl) rfl rfl (bl rfl) ?_
            obtain ⟨r15, hr15, hy6⟩ := bnd hy6
            refine TrL.cons rfl (op_callg' (fs := []) (vs := [.slice m53.1 x5.length m53.2.1, .slice A28 (((x5.length : Int)).toNat) (((x5.length : Int)).toNat)]) (cap := []) (Mr := [cells b18 [.int .i64 0, .int .i64 0, .slice none 0 0] 26, cells b19 [.int .i64 s17.2.2.1, .int .i64 s17.2.2.2.1, .slice m62.1 s17.2.2.2.2.length m62.2] 26, grow 255 2 (.slice m53.1 x5.length m53.2.1) x5.length m53.2.2]) [3] [0, 1, 2] [0] rfl rfl rfl en168 (c_ref10_least x5 s17.1 m53.1 m53.2.1 A28 (((x5.length : Int)).toNat) (((x5.length : Int)).toNat) r15 hr15) (by decide) rfl rfl rfl (bl rfl) (fun ret M' F' hR35 => ?_))
            obtain ⟨rfl, rfl, rfl⟩ := hR35
            refine TrL.v (v_assign rfl rfl) rfl rfl (bl rfl) ?_
            refine TrL.nil (qthen_n ?_)
            refine Tr.seq ?_
            refine Tr.region ?_
            refine TrL.v (v_move rfl rfl) rfl rfl (bl rfl) ?_
            refine TrL.v (v_move rfl rfl) rfl rfl (bl rfl) ?_
            obtain ⟨z34, hz34, hy6⟩ := bnd hy6
            refine TrL.v (v_indexA (k := 0) rfl sl256 ty4 rfl rfl rfl hz34) rfl rfl (bl rfl) ?_
            refine TrL.cons rfl (op_storeAS (A := A28) (i := r15) (j := 0) (k := 0) (z' := true) rfl rfl rfl rfl rfl ty4 rfl hz34 (Nat.le_of_ble_eq_true rfl) (ones (oc rfl on)) rfl ?_)
            refine TrL.nil (qthen_n ?_)
            refine Tr.seq ?_
            refine Tr.regionD drawn (fun hok => ?_)
            obtain ⟨z36, hz36, hy6⟩ := bnd hy6
            obtain ⟨r16, hr16, hy6⟩ := bnd hy6
            refine TrAny.cut (ι := Nat × Option Addr × Nat) (fun m76 => ⟨[(4, .pointer (some ⟨b18, 0, none⟩)), (7, .pointer (some ⟨b19, 0, none⟩)), (8, .int .i64 x4), (10, .slice m53.1 x5.length m53.2.1), (12, .slice A28 (((x5.length : Int)).toNat) (((x5.length : Int)).toNat)), (13, .int .i64 s17.2.1), (15, .pointer (some ⟨m76.1, 0, none⟩))], [cells b18 [.int .i64 0, .int .i64 0, .slice none 0 0] 26, cells b19 [.int .i64 s17.2.2.1, .int .i64 s17.2.2.2.1, .slice m62.1 s17.2.2.2.2.length m62.2] 26, cells m76.1 [.int .i64 r16.1, .int .i64 r16.2.1, .slice m76.2.1 r16.2.2.1.length m76.2.2] 26, grow 255 2 (.slice m53.1 x5.length m53.2.1) x5.length m53.2.2, arr rBool 4 A28 (((x5.length : Int)).toNat) (((x5.length : Int)).toNat) (s17.1.set (r15).toNat true)], [slF rp_u64_u64 m53.1 m53.2.1 x5, slF (rSl rp_u64_u64) none 0 (([] : List (List (Int × Int)))), slF (rSl rp_u64_u64) m62.1 m62.2 s17.2.2.2.2, slF (rSl rp_u64_u64) m76.2.1 m76.2.2 r16.2.2.1], []⟩) ?_ (fun m76 => ?_)
            · refine TrAny.prom (i := 0) (d := 80) hok (OpVal.plain rfl rfl (v_load (k := 2) rfl rfl rfl ty26 nofun rfl rfl)) (by kernel_rfl) rfl (bl rfl) ?_
              clear hok
              intro hok
              refine TrAny.prom (i := 1) (d := 81) hok (OpVal.plain rfl rfl (v_move rfl rfl)) (by kernel_rfl) rfl (bl rfl) ?_
              clear hok
              intro hok
              refine TrAny.prom (i := 2) (d := 82) hok (OpVal.plain rfl rfl (v_move rfl rfl)) (by kernel_rfl) rfl (bl rfl) ?_
              clear hok
              intro hok
              refine TrAny.prom (i := 3) (d := 83) hok (OpVal.plain rfl rfl (v_indexAddr (k := 0) rfl sl252 ty255 rfl rfl rfl rfl hz36)) (by kernel_rfl) rfl (bl rfl) ?_
              clear hok
              intro hok
              refine TrAny.prom (i := 4) (d := 84) hok (OpVal.plain rfl rfl (v_fieldAddr rfl fo255_0 rfl)) (by kernel_rfl) rfl (bl rfl) ?_
              clear hok
              intro hok
              refine TrAny.prom (i := 5) (d := 85) hok (OpVal.plain rfl rfl (v_loadg (A := m53.1) (i := r15) (j := 0) (k := 0) rfl ty28 (fun _ => rfl) rfl rfl hz36 rfl rfl)) (by kernel_rfl) rfl (bl rfl) ?_
              clear hok
              intro hok
              refine TrAny.prom (i := 6) (d := 86) hok (OpVal.plain rfl rfl (v_move rfl rfl)) (by kernel_rfl) rfl (bl rfl) ?_
              clear hok
              intro hok
              refine TrAny.prom (i := 7) (d := 87) hok (OpVal.plain rfl rfl (v_move rfl rfl)) (by kernel_rfl) rfl (bl rfl) ?_
              clear hok
              intro hok
              refine TrAny.prom (i := 8) (d := 88) hok (OpVal.plain rfl rfl (v_indexAddr (k := 0) rfl sl252 ty255 rfl rfl rfl rfl hz36)) (by kernel_rfl) rfl (bl rfl) ?_
              clear hok
              intro hok
              refine TrAny.prom (i := 9) (d := 89) hok (OpVal.plain rfl rfl (v_fieldAddr rfl fo255_1 rfl)) (by kernel_rfl) rfl (bl rfl) ?_
              clear hok
              intro hok
              refine TrAny.prom (i := 10) (d := 90) hok (OpVal.plain rfl rfl (v_loadg (A := m53.1) (i := r15) (j := 1) (k := 0) rfl ty28 (fun _ => rfl) rfl rfl hz36 rfl rfl)) (by kernel_rfl) rfl (bl rfl) ?_
              clear hok
              intro hok
              refine TrAny.fork [11, 15] (by kernel_rfl) hok ⟨11, by decide, bl rfl⟩ (by kernel_rfl) (.cons ?_ (.cons ?_ .nil))
              · refine step_n rfl (by kernel_rfl) rfl (op_call0' (vs := [.agg #[.int .i64 s17.2.2.1, .int .i64 s17.2.2.2.1, .slice m62.1 s17.2.2.2.2.length m62.2], .int .u64 z36.1, .int .u64 z36.2]) (cap := []) [2] rfl rfl (bl rfl) rfl rfl en58 (c_ref06_Add s17.2.2 z36.1 z36.2 m62.1 m62.2 r16 hr16) rfl (fun ret M' F' hR39 => ?_))
                obtain ⟨m77, rfl, rfl, rfl⟩ := hR39
                refine nxp hok (kp_imp (kp_c0 rfl)) rfl (by kernel_rfl) ?_
                clear hok
                intro hok
                refine TrAny.prom (i := 12) (d := 79) hok (OpVal.plain rfl rfl (v_move rfl rfl)) (by kernel_rfl) rfl (bl rfl) ?_
                clear hok
                intro hok
                refine TrAny.prom (i := 13) (d := 92) hok (OpVal.plain rfl rfl (v_extract rfl rfl rfl)) (by kernel_rfl) rfl (bl rfl) ?_
                clear hok
                intro hok
                refine TrAny.prom (i := 14) (d := 93) hok (OpVal.plain rfl rfl (v_extract rfl rfl rfl)) (by kernel_rfl) rfl (bl rfl) ?_
                clear hok
                intro hok
                refine TrAny.prom (i := 17) (d := 16) hok (OpVal.plain rfl rfl (v_assign rfl rfl)) (by kernel_rfl) rfl (bl rfl) ?_
                clear hok
                intro hok
                refine TrAny.next (j := 15) (by kernel_rfl) hok rfl (by kernel_rfl) (op_alloc' rfl (bl rfl) rfl ze26 (fun b33 => ?_))
                refine nxp hok (kp_imp (kp_cm rfl)) rfl (by kernel_rfl) ?_
                clear hok
                intro hok
                refine TrAny.next (j := 16) (by kernel_rfl) hok rfl (by kernel_rfl) (op_store' (k := 0) (c' := [.int .i64 r16.1, .int .i64 r16.2.1, .slice m77.1 r16.2.2.1.length m77.2]) rfl rfl rfl rfl rfl ty26 rfl (Nat.le_of_ble_eq_true rfl) (ones (oc rfl (oc rfl (oc rfl on)))) rfl ?_)
                refine nxs hok (kp_allE [(0, 80, .agg #[.int .i64 s17.2.2.1, .int .i64 s17.2.2.2.1, .slice m62.1 s17.2.2.2.2.length m62.2]), (1, 81, .slice m53.1 x5.length m53.2.1), (2, 82, .int .i64 r15), (3, 83, .pointer (some ⟨ablk m53.1, aoff m53.1 + (r15).toNat * 2, none⟩)), (4, 84, .pointer (some ⟨ablk m53.1, aoff m53.1 + (r15).toNat * 2 + 0, none⟩)), (5, 85, .int .u64 z36.1), (6, 86, .slice m53.1 x5.length m53.2.1), (7, 87, .int .i64 r15), (8, 88, .pointer (some ⟨ablk m53.1, aoff m53.1 + (r15).toNat * 2, none⟩)), (9, 89, .pointer (some ⟨ablk m53.1, aoff m53.1 + (r15).toNat * 2 + 1, none⟩)), (10, 90, .int .u64 z36.2), (12, 79, .tuple #[.agg #[.int .i64 r16.1, .int .i64 r16.2.1, .slice m77.1 r16.2.2.1.length m77.2], .int .i64 r16.2.2.2]), (13, 92, .agg #[.int .i64 r16.1, .int .i64 r16.2.1, .slice m77.1 r16.2.2.1.length m77.2]), (14, 93, .int .i64 r16.2.2.2), (17, 16, .int .i64 r16.2.2.2)] (by kernel_rfl) (ac (.inl (by kernel_rfl)) (ac (.inl (by kernel_rfl)) (ac (.inl (by kernel_rfl)) (ac (.inl (by kernel_rfl)) (ac (.inl (by kernel_rfl)) (ac (.inl (by kernel_rfl)) (ac (.inl (by kernel_rfl)) (ac (.inl (by kernel_rfl)) (ac (.inl (by kernel_rfl)) (ac (.inl (by kernel_rfl)) (ac (.inl (by kernel_rfl)) (ac (.inl (by kernel_rfl)) (ac (.inl (by kernel_rfl)) (ac (.inr (OpVal.plain rfl rfl (v_extract rfl rfl rfl))) (ac (.inr (OpVal.plain rfl rfl (v_assign rfl rfl))) an)))))))))))))))) rfl ?_
                clear hok
                intro hok
                refine TrAny.done (by kernel_rfl) (by kernel_rfl) hok (by kernel_rfl) (⟨(b33, m77.1, m77.2), Imp.re _ [2, 3, 0, 4, 1] [0, 1, 2, 3] (sc rfl (sc rfl (sc rfl (sc rfl (sc rfl (sc rfl (sc rfl sn))))))) (by decide) rfl rfl rfl⟩)
              · refine step_n rfl (by kernel_rfl) rfl (op_alloc' rfl (bl rfl) rfl ze26 (fun b34 => ?_))
                refine nxp hok (kp_imp (kp_cm rfl)) rfl (by kernel_rfl) ?_
                clear hok
                intro hok
                refine TrAny.next (j := 11) (by kernel_rfl) hok rfl (by kernel_rfl) (op_call0' (vs := [.agg #[.int .i64 s17.2.2.1, .int .i64 s17.2.2.2.1, .slice m62.1 s17.2.2.2.2.length m62.2], .int .u64 z36.1, .int .u64 z36.2]) (cap := []) [2] rfl rfl (bl rfl) rfl rfl en58 (c_ref06_Add s17.2.2 z36.1 z36.2 m62.1 m62.2 r16 hr16) rfl (fun ret M' F' hR40 => ?_))
                obtain ⟨m78, rfl, rfl, rfl⟩ := hR40
                refine nxp hok (kp_imp (kp_c0 rfl)) rfl (by kernel_rfl) ?_
                clear hok
                intro hok
                refine TrAny.prom (i := 12) (d := 79) hok (OpVal.plain rfl rfl (v_move rfl rfl)) (by kernel_rfl) rfl (bl rfl) ?_
                clear hok
                intro hok
                refine TrAny.prom (i := 13) (d := 92) hok (OpVal.plain rfl rfl (v_extract rfl rfl rfl)) (by kernel_rfl) rfl (bl rfl) ?_
                clear hok
                intro hok
                refine TrAny.prom (i := 14) (d := 93) hok (OpVal.plain rfl rfl (v_extract rfl rfl rfl)) (by kernel_rfl) rfl (bl rfl) ?_
                clear hok
                intro hok
                refine TrAny.prom (i := 17) (d := 16) hok (OpVal.plain rfl rfl (v_assign rfl rfl)) (by kernel_rfl) rfl (bl rfl) ?_
                clear hok
                intro hok
                refine TrAny.next (j := 16) (by kernel_rfl) hok rfl (by kernel_rfl) (op_store' (k := 0) (c' := [.int .i64 r16.1, .int .i64 r16.2.1, .slice m78.1 r16.2.2.1.length m78.2]) rfl rfl rfl rfl rfl ty26 rfl (Nat.le_of_ble_eq_true rfl) (ones (oc rfl (oc rfl (oc rfl on)))) rfl ?_)
                refine nxs hok (kp_allE [(0, 80, .agg #[.int .i64 s17.2.2.1, .int .i64 s17.2.2.2.1, .slice m62.1 s17.2.2.2.2.length m62.2]), (1, 81, .slice m53.1 x5.length m53.2.1), (2, 82, .int .i64 r15), (3, 83, .pointer (some ⟨ablk m53.1, aoff m53.1 + (r15).toNat * 2, none⟩)), (4, 84, .pointer (some ⟨ablk m53.1, aoff m53.1 + (r15).toNat * 2 + 0, none⟩)), (5, 85, .int .u64 z36.1), (6, 86, .slice m53.1 x5.length m53.2.1), (7, 87, .int .i64 r15), (8, 88, .pointer (some ⟨ablk m53.1, aoff m53.1 + (r15).toNat * 2, none⟩)), (9, 89, .pointer (some ⟨ablk m53.1, aoff m53.1 + (r15).toNat * 2 + 1, none⟩)), (10, 90, .int .u64 z36.2), (12, 79, .tuple #[.agg #[.int .i64 r16.1, .int .i64 r16.2.1, .slice m78.1 r16.2.2.1.length m78.2], .int .i64 r16.2.2.2]), (13, 92, .agg #[.int .i64 r16.1, .int .i64 r16.2.1, .slice m78.1 r16.2.2.1.length m78.2]), (14, 93, .int .i64 r16.2.2.2), (17, 16, .int .i64 r16.2.2.2)] (by kernel_rfl) (ac (.inl (by kernel_rfl)) (ac (.inl (by kernel_rfl)) (ac (.inl (by kernel_rfl)) (ac (.inl (by kernel_rfl)) (ac (.inl (by kernel_rfl)) (ac (.inl (by kernel_rfl)) (ac (.inl (by kernel_rfl)) (ac (.inl (by kernel_rfl)) (ac (.inl (by kernel_rfl)) (ac (.inl (by kernel_rfl)) (ac (.inl (by kernel_rfl)) (ac (.inl (by kernel_rfl)) (ac (.inl (by kernel_rfl)) (ac (.inr (OpVal.plain rfl rfl (v_extract rfl rfl rfl))) (ac (.inr (OpVal.plain rfl rfl (v_assign rfl rfl))) an)))))))))))))))) rfl ?_
                clear hok
                intro hok
                refine TrAny.done (by kernel_rfl) (by kernel_rfl) hok (by kernel_rfl) (⟨(b34, m78.1, m78.2), Imp.re _ [2, 3, 0, 4, 1] [0, 1, 2, 3] (sc rfl (sc rfl (sc rfl (sc rfl (sc rfl (sc rfl (sc rfl sn))))))) (by decide) rfl rfl rfl⟩)
            · refine (qthen_n ?_)
              refine Tr.region ?_
              refine TrL.v (v_load (k := 2) rfl rfl rfl ty26 nofun rfl rfl) rfl rfl (bl rfl) ?_
              refine TrL.cons rfl (op_store' (k := 1) (c' := [.int .i64 r16.1, .int .i64 r16.2.1, .slice m76.2.1 r16.2.2.1.length m76.2.2]) rfl rfl rfl rfl rfl ty26 rfl (Nat.le_of_ble_eq_true rfl) (ones (oc rfl (oc rfl (oc rfl on)))) rfl ?_)
              refine TrL.nil (qblock_n (qthen_n ?_))
              refine Tr.region ?_
              refine TrL.v (v_move rfl rfl) rfl rfl (bl rfl) ?_
              refine TrL.v (v_arith rfl rfl rfl ar_add_i64) rfl rfl (bl rfl) ?_
              refine TrL.v (v_assign rfl rfl) rfl rfl (bl rfl) ?_
              have hz := Option.some.inj hy6
              subst hz
              refine TrL.nil (qloop_n ((m76.2.1, m76.2.2)) (Imp.re _ [0, 1, 3, 4] [0, 1, 3] (sc rfl (sc rfl (sc rfl (sc rfl (sc rfl (sc rfl sn)))))) (by decide) rfl rfl rfl))
          · refine Tr.cond_f rfl (bf_dec h36) ?_
            have hz := Option.some.inj hy6
            subst hz
            refine Tr.exit (qthen_x (qloop_x (qblock_hit (qcut_hit ((s17.2.2.1, s17.2.2.2.1, s17.2.2.2.2)) ((m62.1, m62.2)) (hx12 _ rfl).symm (Imp.re _ [0, 1] [1, 2] (sc rfl (sc rfl (sc rfl sn))) (by decide) rfl rfl rfl)))))
        · subst hd6
          refine (qthen_n ?_)
          refine Tr.seq ?_
          refine Tr.region ?_
          refine TrL.v (v_move rfl rfl) rfl rfl (bl rfl) ?_
          refine TrL.v (v_arith rfl rfl rfl ar_add_i64) rfl rfl (bl rfl) ?_
          refine TrL.v (v_fieldAddr' rfl fo26_1 rfl rfl) rfl rfl (bl rfl) ?_
          refine TrL.cons rfl (op_store' (k := 1) (c' := [.int .i64 x6.1, .int .i64 (wi64 (x4 + 1)), .slice m71.1 x6.2.2.length m71.2]) rfl rfl rfl rfl rfl ty3 rfl (Nat.le_of_ble_eq_true rfl) (ones (oc rfl on)) rfl ?_)
          refine TrL.nil (qthen_n ?_)
          refine Tr.seq ?_
          refine Tr.region ?_
          refine TrL.v (v_load (k := 1) rfl rfl rfl ty26 nofun rfl rfl) rfl rfl (bl rfl) ?_
          refine TrL.cons rfl (op_store' (k := 0) (c' := [.int .i64 x6.1, .int .i64 (wi64 (x4 + 1)), .slice m71.1 x6.2.2.length m71.2]) rfl rfl rfl rfl rfl ty26 rfl (Nat.le_of_ble_eq_true rfl) (ones (oc rfl (oc rfl (oc rfl on)))) rfl ?_)
          refine TrL.v (v_assign rfl rfl) rfl rfl (bl rfl) ?_
          refine TrL.nil (qthen_n ?_)
          have hz := Option.some.inj H
          subst hz
          refine Tr.ret (ret_r ⟨[(4, .pointer (some ⟨b18, 0, none⟩)), (5, .int .i64 0)], [cells b18 [.int .i64 x6.1, .int .i64 (wi64 (x4 + 1)), .slice m71.1 x6.2.2.length m71.2] 26], [slF (rSl rp_u64_u64) m71.1 m71.2 x6.2.2], []⟩ [.agg #[.int .i64 x6.1, .int .i64 (wi64 (x4 + 1)), .slice m71.1 x6.2.2.length m71.2], .int .i64 0] [] [cells b18 [.int .i64 x6.1, .int .i64 (wi64 (x4 + 1)), .slice m71.1 x6.2.2.length m71.2] 26] (Imp.re _ [0] [1] (sc rfl (sc rfl sn)) (by decide) rfl rfl rfl) rfl rfl ⟨((m71.1, m71.2)), rfl, rfl, rfl⟩ (.cons (resv_cell (k := 0) rfl rfl ty26 nofun rfl rfl) (.cons (resv_tmp rfl) .nil)))

theorem c_ref10_Merge (p1 : List (Int × Int × List (List (Int × Int)))) (A1 : Option Addr) (c1 : Nat) (r : Int × Int × (List (List (Int × Int))) × Int) (H : ref10_Merge p1 = some r) :
    Ctr Try.prog 77 [.slice A1 p1.length c1] [] [slF rp_i64_i64_LLOu64_u64_C A1 c1 p1] (fun ret M' F' => ∃ m : Option Addr × Nat, ret = .tuple #[.agg #[.int .i64 r.1, .int .i64 r.2.1, .slice m.1 r.2.2.1.length m.2], .int .i64 r.2.2.2] ∧ M' = [] ∧ F' = [slF (rSl rp_u64_u64) m.1 m.2 r.2.2.1]) := by
  unfold ref10_Merge at H
  refine ctr_ofI (N := 8) Try.func77 rfl Try.ntmps77 rfl (Nat.le_of_ble_eq_true rfl) (fun γ0 w0 => ?_)
  refine Tr.seq ?_
  refine Tr.region ?_
  refine TrL.cons rfl (op_alloc' rfl (bl rfl) rfl ze26 (fun b2 => ?_))
  refine TrL.v (v_assign rfl rfl) rfl rfl (bl rfl) ?_
  refine TrL.nil (qthen_n ?_)
  refine Tr.seq ?_
  refine Tr.region ?_
  refine TrL.v (v_move rfl rfl) rfl rfl (bl rfl) ?_
  refine TrL.addF' (slF rp_u64_u64_u64 none 0 []) (nilF rp_u64_u64_u64) ?_
  obtain ⟨r2, hr2, H⟩ := bnd H
  refine TrL.cons rfl (op_call0' (vs := [.slice none 0 0, .slice A1 p1.length c1]) (cap := []) [1, 0] rfl rfl (bl rfl) rfl rfl en135 (c_ref10_With (([] : List (Int × Int × Int))) p1 none 0 A1 c1 r2 hr2) rfl (fun ret M' F' hR2 => ?_))
  obtain ⟨m2, rfl, rfl, rfl⟩ := hR2
  refine TrL.v (v_extract rfl rfl rfl) rfl rfl (bl rfl) ?_
  refine TrL.v (v_extract rfl rfl rfl) rfl rfl (bl rfl) ?_
  refine TrL.cons rfl (op_store' (k := 0) (c' := [.int .i64 r2.1, .int .i64 r2.2.1, .slice m2.1 r2.2.2.1.length m2.2]) rfl rfl rfl rfl rfl ty26 rfl (Nat.le_of_ble_eq_true rfl) (ones (oc rfl (oc rfl (oc rfl on)))) rfl ?_)
  refine TrL.v (v_assign rfl rfl) rfl rfl (bl rfl) ?_
  refine TrL.nil (qthen_n ?_)
  have hz := Option.some.inj H
  subst hz
  refine Tr.ret (ret_r ⟨[(2, .pointer (some ⟨b2, 0, none⟩)), (3, .int .i64 r2.2.2.2)], [cells b2 [.int .i64 r2.1, .int .i64 r2.2.1, .slice m2.1 r2.2.2.1.length m2.2] 26], [slF (rSl rp_u64_u64) m2.1 m2.2 r2.2.2.1], []⟩ [.agg #[.int .i64 r2.1, .int .i64 r2.2.1, .slice m2.1 r2.2.2.1.length m2.2], .int .i64 r2.2.2.2] [] [cells b2 [.int .i64 r2.1, .int .i64 r2.2.1, .slice m2.1 r2.2.2.1.length m2.2] 26] (Imp.re _ [0] [2] (sc rfl (sc rfl sn)) (by decide) rfl rfl rfl) rfl rfl ⟨((m2.1, m2.2)), rfl, rfl, rfl⟩ (.cons (resv_cell (k := 0) rfl rfl ty26 nofun rfl rfl) (.cons (resv_tmp rfl) .nil)))
end Go.Proofs.Ytbeknohemgjfbaa.W
