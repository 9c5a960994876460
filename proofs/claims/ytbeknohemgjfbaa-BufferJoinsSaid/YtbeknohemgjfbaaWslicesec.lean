/- The contracts of the walked functions: the printed walks. -/
import Derived.Test.YtbeknohemgjfbaaKc
import Derived.Test.YtbeknohemgjfbaaQc
import Derived.Test.YtbeknohemgjfbaaWbufferdc
import Derived.Test.YtbeknohemgjfbaaWslicesdc
namespace Go.Proofs.Ytbeknohemgjfbaa.W
open Go Go.Proofs Go.Proofs.Ytbeknohemgjfbaa.L Go.Proofs.Ytbeknohemgjfbaa.Pu
set_option linter.unusedVariables false
set_option maxHeartbeats 4000000

theorem c_slices_symMergeCmpFunc_Event (p1 : List (Int × Int × Int)) (p2 : Int) (p3 : Int) (p4 : Int) (A1 : Option Addr) (c1 : Nat) (n1 : Nat) (r : List (Int × Int × Int)) (H : slices_symMergeCmpFunc_Event p1 p2 p3 p4 = some r) :
    Ctr Try.prog 172 [.slice A1 n1 c1, .int .i64 p2, .int .i64 p3, .int .i64 p4, .func (.func 89) #[] #[]] [arr rp_u64_u64_u64 85 A1 n1 c1 p1] [] (fun ret M' F' => ret = ret1 [] ∧ M' = [arr rp_u64_u64_u64 85 A1 n1 c1 r] ∧ F' = []) := by
  unfold slices_symMergeCmpFunc_Event at H
  revert H
  generalize 1000 = fuel
  induction fuel generalizing p1 p2 p3 p4 A1 c1 n1 r with
  | zero => intro H; cases H
  | succ fuel ih =>
    intro H
    rw [itR] at H
    unfold slices_symMergeCmpFunc_Event_F at H
    refine ctr_ofI (N := 220) Try.func172 rfl Try.ntmps172 rfl (Nat.le_of_ble_eq_true rfl) (fun γ0 w0 => ?_)
    refine Tr.seq ?_
    refine Tr.seq ?_
    refine Tr.region ?_
    refine TrL.v (v_move rfl rfl) rfl rfl (bl rfl) ?_
    refine TrL.v (v_move rfl rfl) rfl rfl (bl rfl) ?_
    refine TrL.v (v_arith rfl rfl rfl ar_sub_i64) rfl rfl (bl rfl) ?_
    refine TrL.v (v_arith rfl rfl rfl ar_eql) rfl rfl (bl rfl) ?_
    refine TrL.nil (qthen_n ?_)
    rcases ifc H with ⟨h42, H⟩ | ⟨h42, H⟩
    · refine Tr.cond_t rfl (bt_dec h42) ?_
      refine Tr.seq ?_
      refine Tr.region ?_
      refine TrL.v (v_move rfl rfl) rfl rfl (bl rfl) ?_
      refine TrL.v (v_assign rfl rfl) rfl rfl (bl rfl) ?_
      refine TrL.nil (qthen_n ?_)
      refine Tr.seq ?_
      refine Tr.region ?_
      refine TrL.v (v_move rfl rfl) rfl rfl (bl rfl) ?_
      refine TrL.v (v_assign rfl rfl) rfl rfl (bl rfl) ?_
      refine TrL.nil (qthen_n ?_)
      refine Tr.seq ?_
      obtain ⟨x6, hx11, H⟩ := bnd H
      refine Tr.cutE (D := Int) (M := Unit) .normal (fun _d => x6 = _d) (fun x6 m56 => ⟨[(0, .slice A1 n1 c1), (1, .int .i64 p2), (10, .int .i64 x6)], [arr rp_u64_u64_u64 85 A1 n1 c1 p1], [], []⟩) ?_ (fun x6 m56 hd11 => ?_)
      · refine Tr.block (Tr.loopI (ι := Unit) (step := slices_symMergeCmpFunc_Event_s0 p1 p2) (fun s17 m52 => ⟨[(0, .slice A1 n1 c1), (1, .int .i64 p2), (4, .func (.func 89) #[] #[]), (10, .int .i64 s17.1), (11, .int .i64 s17.2)], [arr rp_u64_u64_u64 85 A1 n1 c1 p1], [], []⟩) (()) hx11 (Imp.re _ [0] [] (sc rfl (sc rfl (sc rfl (sc rfl (sc rfl sn))))) (by decide) rfl rfl rfl) (fun s17 m52 y6 hy6 hx12 => ?_))
        unfold slices_symMergeCmpFunc_Event_s0 at hy6
        refine Tr.seq ?_
        refine Tr.seq ?_
        refine Tr.region ?_
        refine TrL.v (v_move rfl rfl) rfl rfl (bl rfl) ?_
        refine TrL.v (v_move rfl rfl) rfl rfl (bl rfl) ?_
        refine TrL.v (v_arith rfl rfl rfl ar_lss) rfl rfl (bl rfl) ?_
        refine TrL.nil (qthen_n ?_)
        rcases ifc hy6 with ⟨h47, hy6⟩ | ⟨h47, hy6⟩
        · refine Tr.cond_t rfl (bt_dec h47) ?_
          refine Tr.skip (qthen_n ?_)
          refine Tr.block ?_
          refine Tr.seq ?_
          refine Tr.region ?_
          refine TrL.v (v_move rfl rfl) rfl rfl (bl rfl) ?_
          refine TrL.v (v_move rfl rfl) rfl rfl (bl rfl) ?_
          refine TrL.v (v_arith rfl rfl rfl ar_add_i64) rfl rfl (bl rfl) ?_
          refine TrL.v (v_conv' rfl ⟨_, Try.underlying3⟩ Try.underlying231 rfl wrap_u64') rfl rfl (bl rfl) ?_
          refine TrL.v (v_shr' rfl rfl rfl (by decide) rfl) rfl rfl (bl rfl) ?_
          refine TrL.v (v_conv' rfl ⟨_, Try.underlying231⟩ Try.underlying3 rfl wrap_i64') rfl rfl (bl rfl) ?_
          refine TrL.v (v_assign rfl rfl) rfl rfl (bl rfl) ?_
          refine TrL.nil (qthen_n ?_)
          refine Tr.seq ?_
          refine Tr.regionD drawn (fun hok => ?_)
          refine TrAny.prom (i := 0) (d := 40) hok (OpVal.plain rfl rfl (v_move rfl rfl)) (by kernel_rfl) rfl (bl rfl) ?_
          clear hok
          intro hok
          refine TrAny.prom (i := 1) (d := 41) hok (OpVal.plain rfl rfl (v_move rfl rfl)) (by kernel_rfl) rfl (bl rfl) ?_
          clear hok
          intro hok
          refine TrAny.prom (i := 2) (d := 42) hok (OpVal.plain rfl rfl (v_move rfl rfl)) (by kernel_rfl) rfl (bl rfl) ?_
          clear hok
          intro hok
          obtain ⟨z83, hz83, hy6⟩ := bnd hy6
          refine TrAny.prom (i := 3) (d := 43) hok (OpVal.plain rfl rfl (v_indexA (k := 0) rfl sl71 ty85 rfl rfl rfl hz83)) (by kernel_rfl) rfl (bl rfl) ?_
          clear hok
          intro hok
          refine TrAny.prom (i := 4) (d := 44) hok (OpVal.plain rfl rfl (v_loadA (A := A1) (i := (wi64 (shrk 64 (wu64 (wi64 (s17.1 + s17.2))) 1))) (j := 0) (k := 0) rfl ty85 nofun rfl rfl hz83 rfl rfl)) (by kernel_rfl) rfl (bl rfl) ?_
          clear hok
          intro hok
          refine TrAny.prom (i := 5) (d := 45) hok (OpVal.plain rfl rfl (v_move rfl rfl)) (by kernel_rfl) rfl (bl rfl) ?_
          clear hok
          intro hok
          refine TrAny.prom (i := 6) (d := 46) hok (OpVal.plain rfl rfl (v_move rfl rfl)) (by kernel_rfl) rfl (bl rfl) ?_
          clear hok
          intro hok
          obtain ⟨z84, hz84, hy6⟩ := bnd hy6
          refine TrAny.prom (i := 7) (d := 47) hok (OpVal.plain rfl rfl (v_indexA (k := 0) rfl sl71 ty85 rfl rfl rfl hz84)) (by kernel_rfl) rfl (bl rfl) ?_
          clear hok
          intro hok
          refine TrAny.prom (i := 8) (d := 48) hok (OpVal.plain rfl rfl (v_loadA (A := A1) (i := p2) (j := 0) (k := 0) rfl ty85 nofun rfl rfl hz84 rfl rfl)) (by kernel_rfl) rfl (bl rfl) ?_
          clear hok
          intro hok
          obtain ⟨r29, hr29, hy6⟩ := bnd hy6
          refine TrAny.next (j := 9) (by kernel_rfl) hok rfl (by kernel_rfl) (op_call0' (vs := [.agg #[.int .u64 z83.1, .int .u64 z83.2.1, .int .u64 z83.2.2], .agg #[.int .u64 z84.1, .int .u64 z84.2.1, .int .u64 z84.2.2]]) (cap := []) [] rfl rfl (bl rfl) rfl rfl en89 (c_buffer_Join_1 z83 z84 r29 hr29) rfl (fun ret M' F' hR29 => ?_))
          obtain ⟨rfl, rfl, rfl⟩ := hR29
          refine nxp hok (kp_imp (kp_c0 rfl)) rfl (by kernel_rfl) ?_
          clear hok
          intro hok
          refine TrAny.prom (i := 10) (d := 50) hok (OpVal.plain rfl rfl (v_arith rfl rfl rfl ar_lss)) (by kernel_rfl) rfl (bl rfl) ?_
          clear hok
          intro hok
          refine TrAny.done (by kernel_rfl) (by kernel_rfl) hok (by kernel_rfl) (qthen_n ?_)
          rcases ifc hy6 with ⟨h48, hy6⟩ | ⟨h48, hy6⟩
          · refine Tr.cond_t rfl (bt_dec h48) ?_
            refine Tr.region ?_
            refine TrL.v (v_move rfl rfl) rfl rfl (bl rfl) ?_
            refine TrL.v (v_arith rfl rfl rfl ar_add_i64) rfl rfl (bl rfl) ?_
            refine TrL.v (v_assign rfl rfl) rfl rfl (bl rfl) ?_
            have hz := Option.some.inj hy6
            subst hz
            refine TrL.nil (qblock_n (qloop_n (()) (Imp.re _ [0] [] (sc rfl (sc rfl (sc rfl (sc rfl (sc rfl sn))))) (by decide) rfl rfl rfl)))
          · refine Tr.cond_f rfl (bf_dec h48) ?_
            refine Tr.region ?_
            refine TrL.v (v_move rfl rfl) rfl rfl (bl rfl) ?_
            refine TrL.v (v_assign rfl rfl) rfl rfl (bl rfl) ?_
            have hz := Option.some.inj hy6
            subst hz
            refine TrL.nil (qblock_n (qloop_n (()) (Imp.re _ [0] [] (sc rfl (sc rfl (sc rfl (sc rfl (sc rfl sn))))) (by decide) rfl rfl rfl)))
        · refine Tr.cond_f rfl (bf_dec h47) ?_
          have hz := Option.some.inj hy6
          subst hz
          refine Tr.exit (qthen_x (qloop_x (qblock_hit (qcut_hit s17.1 (()) (hx12 _ rfl).symm (Imp.re _ [0] [] (sc rfl (sc rfl (sc rfl sn))) (by decide) rfl rfl rfl)))))
      · subst hd11
        refine (qthen_n ?_)
        refine Tr.seq ?_
        refine Tr.seq ?_
        refine Tr.region ?_
        refine TrL.v (v_move rfl rfl) rfl rfl (bl rfl) ?_
        refine TrL.v (v_assign rfl rfl) rfl rfl (bl rfl) ?_
        refine TrL.nil (qthen_n ?_)
        obtain ⟨x7, hx13, H⟩ := bnd H
        refine Tr.cutE (D := List (Int × Int × Int)) (M := Unit) .normal (fun _d => x7 = _d) (fun x7 m62 => ⟨[(0, .slice A1 n1 c1)], [arr rp_u64_u64_u64 85 A1 n1 c1 x7], [], []⟩) ?_ (fun x7 m62 hd12 => ?_)
        · refine Tr.block (Tr.loopI (ι := Unit) (step := slices_symMergeCmpFunc_Event_s1 x6) (fun s20 m60 => ⟨[(0, .slice A1 n1 c1), (10, .int .i64 x6), (13, .int .i64 s20.2)], [arr rp_u64_u64_u64 85 A1 n1 c1 s20.1], [], []⟩) (()) hx13 (Imp.re _ [0] [] (sc rfl (sc rfl (sc rfl sn))) (by decide) rfl rfl rfl) (fun s20 m60 y7 hy7 hx14 => ?_))
          unfold slices_symMergeCmpFunc_Event_s1 at hy7
          refine Tr.seq ?_
          refine Tr.seq ?_
          refine Tr.region ?_
          refine TrL.v (v_move rfl rfl) rfl rfl (bl rfl) ?_
          refine TrL.v (v_move rfl rfl) rfl rfl (bl rfl) ?_
          refine TrL.v (v_arith rfl rfl rfl ar_sub_i64) rfl rfl (bl rfl) ?_
          refine TrL.v (v_arith rfl rfl rfl ar_lss) rfl rfl (bl rfl) ?_
          refine TrL.nil (qthen_n ?_)
          rcases ifc hy7 with ⟨h51, hy7⟩ | ⟨h51, hy7⟩
          · refine Tr.cond_t rfl (bt_dec h51) ?_
            refine Tr.skip (qthen_n ?_)
            refine Tr.seq ?_
            refine Tr.block ?_
            refine Tr.regionD drawn (fun hok => ?_)
            refine TrAny.prom (i := 0) (d := 61) hok (OpVal.plain rfl rfl (v_move rfl rfl)) (by kernel_rfl) rfl (bl rfl) ?_
            clear hok
            intro hok
            refine TrAny.prom (i := 1) (d := 62) hok (OpVal.plain rfl rfl (v_move rfl rfl)) (by kernel_rfl) rfl (bl rfl) ?_
            clear hok
            intro hok
            refine TrAny.prom (i := 2) (d := 63) hok (OpVal.plain rfl rfl (v_move rfl rfl)) (by kernel_rfl) rfl (bl rfl) ?_
            clear hok
            intro hok
            refine TrAny.prom (i := 3) (d := 64) hok (OpVal.plain rfl rfl (v_move rfl rfl)) (by kernel_rfl) rfl (bl rfl) ?_
            clear hok
            intro hok
            refine TrAny.prom (i := 4) (d := 65) hok (OpVal.plain rfl rfl (v_arith rfl rfl rfl ar_add_i64)) (by kernel_rfl) rfl (bl rfl) ?_
            clear hok
            intro hok
            refine TrAny.prom (i := 5) (d := 66) hok (OpVal.plain rfl rfl (v_move rfl rfl)) (by kernel_rfl) rfl (bl rfl) ?_
            clear hok
            intro hok
            refine TrAny.prom (i := 6) (d := 67) hok (OpVal.plain rfl rfl (v_move rfl rfl)) (by kernel_rfl) rfl (bl rfl) ?_
            clear hok
            intro hok
            refine TrAny.prom (i := 7) (d := 68) hok (OpVal.plain rfl rfl (v_arith rfl rfl rfl ar_add_i64)) (by kernel_rfl) rfl (bl rfl) ?_
            clear hok
            intro hok
            obtain ⟨z100, hz100, hy7⟩ := bnd hy7
            refine TrAny.prom (i := 8) (d := 69) hok (OpVal.plain rfl rfl (v_indexA (k := 0) rfl sl71 ty85 rfl rfl rfl hz100)) (by kernel_rfl) rfl (bl rfl) ?_
            clear hok
            intro hok
            refine TrAny.prom (i := 9) (d := 70) hok (OpVal.plain rfl rfl (v_loadA (A := A1) (i := (wi64 (s20.2 + 1))) (j := 0) (k := 0) rfl ty85 nofun rfl rfl hz100 rfl rfl)) (by kernel_rfl) rfl (bl rfl) ?_
            clear hok
            intro hok
            refine TrAny.prom (i := 10) (d := 71) hok (OpVal.plain rfl rfl (v_move rfl rfl)) (by kernel_rfl) rfl (bl rfl) ?_
            clear hok
            intro hok
            refine TrAny.prom (i := 11) (d := 72) hok (OpVal.plain rfl rfl (v_move rfl rfl)) (by kernel_rfl) rfl (bl rfl) ?_
            clear hok
            intro hok
            obtain ⟨z101, hz101, hy7⟩ := bnd hy7
            refine TrAny.prom (i := 12) (d := 73) hok (OpVal.plain rfl rfl (v_indexA (k := 0) rfl sl71 ty85 rfl rfl rfl hz101)) (by kernel_rfl) rfl (bl rfl) ?_
            clear hok
            intro hok
            refine TrAny.prom (i := 13) (d := 74) hok (OpVal.plain rfl rfl (v_loadA (A := A1) (i := s20.2) (j := 0) (k := 0) rfl ty85 nofun rfl rfl hz101 rfl rfl)) (by kernel_rfl) rfl (bl rfl) ?_
            clear hok
            intro hok
            refine TrAny.prom (i := 14) (d := 75) hok (OpVal.plain rfl rfl (v_indexA (k := 0) rfl sl71 ty85 rfl rfl rfl hz101)) (by kernel_rfl) rfl (bl rfl) ?_
            clear hok
            intro hok
            refine TrAny.prom (i := 16) (d := 76) hok (OpVal.plain rfl rfl (v_indexA (k := 0) rfl sl71 ty85 rfl rfl rfl hz100)) (by kernel_rfl) rfl (bl rfl) ?_
            clear hok
            intro hok
            refine TrAny.next (j := 15) (by kernel_rfl) hok rfl (by kernel_rfl) (op_storeAS (A := A1) (i := s20.2) (j := 0) (k := 0) (z' := z100) rfl rfl rfl rfl rfl ty85 rfl hz101 (Nat.le_of_ble_eq_true rfl) (ones (oc rfl (oc rfl (oc rfl on)))) rfl ?_)
            refine nxs hok (kp_allE [(0, 61, .slice A1 n1 c1), (1, 62, .int .i64 s20.2), (2, 63, .slice A1 n1 c1), (3, 64, .int .i64 s20.2), (4, 65, .int .i64 (wi64 (s20.2 + 1))), (5, 66, .slice A1 n1 c1), (6, 67, .int .i64 s20.2), (7, 68, .int .i64 (wi64 (s20.2 + 1))), (8, 69, .pointer (some ⟨ablk A1, aoff A1 + (wi64 (s20.2 + 1)).toNat * 3, none⟩)), (9, 70, .agg #[.int .u64 z100.1, .int .u64 z100.2.1, .int .u64 z100.2.2]), (10, 71, .slice A1 n1 c1), (11, 72, .int .i64 s20.2), (12, 73, .pointer (some ⟨ablk A1, aoff A1 + (s20.2).toNat * 3, none⟩)), (13, 74, .agg #[.int .u64 z101.1, .int .u64 z101.2.1, .int .u64 z101.2.2]), (14, 75, .pointer (some ⟨ablk A1, aoff A1 + (s20.2).toNat * 3, none⟩)), (16, 76, .pointer (some ⟨ablk A1, aoff A1 + (wi64 (s20.2 + 1)).toNat * 3, none⟩))] (by kernel_rfl) (ac (.inl (by kernel_rfl)) (ac (.inl (by kernel_rfl)) (ac (.inr (OpVal.plain rfl rfl (v_move rfl rfl))) (ac (.inr (OpVal.plain rfl rfl (v_move rfl rfl))) (ac (.inr (OpVal.plain rfl rfl (v_arith rfl rfl rfl ar_add_i64))) (ac (.inl (by kernel_rfl)) (ac (.inl (by kernel_rfl)) (ac (.inl (by kernel_rfl)) (ac (.inl (by kernel_rfl)) (ac (.inl (by kernel_rfl)) (ac (.inr (OpVal.plain rfl rfl (v_move rfl rfl))) (ac (.inr (OpVal.plain rfl rfl (v_move rfl rfl))) (ac (.inr (OpVal.plain rfl rfl (v_indexAb (k := 0) rfl sl71 ty85 rfl rfl rfl (rdo_some hz101).1 (by simp only [List.length_set]; exact (rdo_some hz101).2.1)))) (ac (.inl (by kernel_rfl)) (ac (.inl (by kernel_rfl)) (ac (.inr (OpVal.plain rfl rfl (v_indexAb (k := 0) rfl sl71 ty85 rfl rfl rfl (rdo_some hz100).1 (by simp only [List.length_set]; exact (rdo_some hz100).2.1)))) an))))))))))))))))) rfl ?_
            clear hok
            intro hok
            obtain ⟨z102, hz102, hy7⟩ := bnd hy7
            refine TrAny.next (j := 17) (by kernel_rfl) hok rfl (by kernel_rfl) (op_storeAS (A := A1) (i := (wi64 (s20.2 + 1))) (j := 0) (k := 0) (z' := z101) rfl rfl rfl rfl rfl ty85 rfl hz102 (Nat.le_of_ble_eq_true rfl) (ones (oc rfl (oc rfl (oc rfl on)))) rfl ?_)
            refine nxs hok (kp_aw (by kernel_rfl)) rfl ?_
            clear hok
            intro hok
            refine TrAny.done (by kernel_rfl) (by kernel_rfl) hok (by kernel_rfl) (qblock_n (qthen_n ?_))
            refine Tr.region ?_
            refine TrL.v (v_move rfl rfl) rfl rfl (bl rfl) ?_
            refine TrL.v (v_arith rfl rfl rfl ar_add_i64) rfl rfl (bl rfl) ?_
            refine TrL.v (v_assign rfl rfl) rfl rfl (bl rfl) ?_
            have hz := Option.some.inj hy7
            subst hz
            refine TrL.nil (qloop_n (()) (Imp.re _ [0] [] (sc rfl (sc rfl (sc rfl sn))) (by decide) rfl rfl rfl))
          · refine Tr.cond_f rfl (bf_dec h51) ?_
            have hz := Option.some.inj hy7
            subst hz
            refine Tr.exit (qthen_x (qloop_x (qblock_hit (qcut_hit s20.1 (()) (hx14 _ rfl).symm (Imp.re _ [0] [] (sc rfl sn) (by decide) rfl rfl rfl)))))
        · subst hd12
          refine (qthen_n ?_)
          have hz := Option.some.inj H
          subst hz
          refine Tr.ret (qthen_r (ret_r ⟨[], [arr rp_u64_u64_u64 85 A1 n1 c1 x7], [], []⟩ [] [arr rp_u64_u64_u64 85 A1 n1 c1 x7] [] (Imp.re _ [0] [] sn (by decide) rfl rfl rfl) rfl rfl ⟨rfl, rfl, rfl⟩ .nil))
    · refine Tr.cond_f rfl (bf_dec h42) ?_
      refine Tr.skip (qthen_n ?_)
      refine Tr.seq ?_
      refine Tr.seq ?_
      refine Tr.region ?_
      refine TrL.v (v_move rfl rfl) rfl rfl (bl rfl) ?_
      refine TrL.v (v_move rfl rfl) rfl rfl (bl rfl) ?_
      refine TrL.v (v_arith rfl rfl rfl ar_sub_i64) rfl rfl (bl rfl) ?_
      refine TrL.v (v_arith rfl rfl rfl ar_eql) rfl rfl (bl rfl) ?_
      refine TrL.nil (qthen_n ?_)
      rcases ifc H with ⟨h52, H⟩ | ⟨h52, H⟩
      · refine Tr.cond_t rfl (bt_dec h52) ?_
        refine Tr.seq ?_
        refine Tr.region ?_
        refine TrL.v (v_move rfl rfl) rfl rfl (bl rfl) ?_
        refine TrL.v (v_assign rfl rfl) rfl rfl (bl rfl) ?_
        refine TrL.nil (qthen_n ?_)
        refine Tr.seq ?_
        refine Tr.region ?_
        refine TrL.v (v_move rfl rfl) rfl rfl (bl rfl) ?_
        refine TrL.v (v_assign rfl rfl) rfl rfl (bl rfl) ?_
        refine TrL.nil (qthen_n ?_)
        refine Tr.seq ?_
        obtain ⟨x8, hx15, H⟩ := bnd H
        refine Tr.cutE (D := Int) (M := Unit) .normal (fun _d => x8 = _d) (fun x8 m70 => ⟨[(0, .slice A1 n1 c1), (2, .int .i64 p3), (14, .int .i64 x8)], [arr rp_u64_u64_u64 85 A1 n1 c1 p1], [], []⟩) ?_ (fun x8 m70 hd13 => ?_)
        · refine Tr.block (Tr.loopI (ι := Unit) (step := slices_symMergeCmpFunc_Event_s2 p1 p3) (fun s23 m66 => ⟨[(0, .slice A1 n1 c1), (2, .int .i64 p3), (4, .func (.func 89) #[] #[]), (14, .int .i64 s23.1), (15, .int .i64 s23.2)], [arr rp_u64_u64_u64 85 A1 n1 c1 p1], [], []⟩) (()) hx15 (Imp.re _ [0] [] (sc rfl (sc rfl (sc rfl (sc rfl (sc rfl sn))))) (by decide) rfl rfl rfl) (fun s23 m66 y8 hy8 hx16 => ?_))
          unfold slices_symMergeCmpFunc_Event_s2 at hy8
          refine Tr.seq ?_
          refine Tr.seq ?_
          refine Tr.region ?_
          refine TrL.v (v_move rfl rfl) rfl rfl (bl rfl) ?_
          refine TrL.v (v_move rfl rfl) rfl rfl (bl rfl) ?_
          refine TrL.v (v_arith rfl rfl rfl ar_lss) rfl rfl (bl rfl) ?_
          refine TrL.nil (qthen_n ?_)
          rcases ifc hy8 with ⟨h57, hy8⟩ | ⟨h57, hy8⟩
          · refine Tr.cond_t rfl (bt_dec h57) ?_
            refine Tr.skip (qthen_n ?_)
            refine Tr.block ?_
            refine Tr.seq ?_
            refine Tr.region ?_
            refine TrL.v (v_move rfl rfl) rfl rfl (bl rfl) ?_
            refine TrL.v (v_move rfl rfl) rfl rfl (bl rfl) ?_
            refine TrL.v (v_arith rfl rfl rfl ar_add_i64) rfl rfl (bl rfl) ?_
            refine TrL.v (v_conv' rfl ⟨_, Try.underlying3⟩ Try.underlying231 rfl wrap_u64') rfl rfl (bl rfl) ?_
            refine TrL.v (v_shr' rfl rfl rfl (by decide) rfl) rfl rfl (bl rfl) ?_
            refine TrL.v (v_conv' rfl ⟨_, Try.underlying231⟩ Try.underlying3 rfl wrap_i64') rfl rfl (bl rfl) ?_
            refine TrL.v (v_assign rfl rfl) rfl rfl (bl rfl) ?_
            refine TrL.nil (qthen_n ?_)
            refine Tr.seq ?_
            refine Tr.regionD drawn (fun hok => ?_)
            refine TrAny.prom (i := 0) (d := 92) hok (OpVal.plain rfl rfl (v_move rfl rfl)) (by kernel_rfl) rfl (bl rfl) ?_
            clear hok
            intro hok
            refine TrAny.prom (i := 1) (d := 93) hok (OpVal.plain rfl rfl (v_move rfl rfl)) (by kernel_rfl) rfl (bl rfl) ?_
            clear hok
            intro hok
            refine TrAny.prom (i := 2) (d := 94) hok (OpVal.plain rfl rfl (v_move rfl rfl)) (by kernel_rfl) rfl (bl rfl) ?_
            clear hok
            intro hok
            obtain ⟨z113, hz113, hy8⟩ := bnd hy8
            refine TrAny.prom (i := 3) (d := 95) hok (OpVal.plain rfl rfl (v_indexA (k := 0) rfl sl71 ty85 rfl rfl rfl hz113)) (by kernel_rfl) rfl (bl rfl) ?_
            clear hok
            intro hok
            refine TrAny.prom (i := 4) (d := 96) hok (OpVal.plain rfl rfl (v_loadA (A := A1) (i := p3) (j := 0) (k := 0) rfl ty85 nofun rfl rfl hz113 rfl rfl)) (by kernel_rfl) rfl (bl rfl) ?_
            clear hok
            intro hok
            refine TrAny.prom (i := 5) (d := 97) hok (OpVal.plain rfl rfl (v_move rfl rfl)) (by kernel_rfl) rfl (bl rfl) ?_
            clear hok
            intro hok
            refine TrAny.prom (i := 6) (d := 98) hok (OpVal.plain rfl rfl (v_move rfl rfl)) (by kernel_rfl) rfl (bl rfl) ?_
            clear hok
            intro hok
            obtain ⟨z114, hz114, hy8⟩ := bnd hy8
            refine TrAny.prom (i := 7) (d := 99) hok (OpVal.plain rfl rfl (v_indexA (k := 0) rfl sl71 ty85 rfl rfl rfl hz114)) (by kernel_rfl) rfl (bl rfl) ?_
            clear hok
            intro hok
            refine TrAny.prom (i := 8) (d := 100) hok (OpVal.plain rfl rfl (v_loadA (A := A1) (i := (wi64 (shrk 64 (wu64 (wi64 (s23.1 + s23.2))) 1))) (j := 0) (k := 0) rfl ty85 nofun rfl rfl hz114 rfl rfl)) (by kernel_rfl) rfl (bl rfl) ?_
            clear hok
            intro hok
            obtain ⟨r35, hr35, hy8⟩ := bnd hy8
            refine TrAny.next (j := 9) (by kernel_rfl) hok rfl (by kernel_rfl) (op_call0' (vs := [.agg #[.int .u64 z113.1, .int .u64 z113.2.1, .int .u64 z113.2.2], .agg #[.int .u64 z114.1, .int .u64 z114.2.1, .int .u64 z114.2.2]]) (cap := []) [] rfl rfl (bl rfl) rfl rfl en89 (c_buffer_Join_1 z113 z114 r35 hr35) rfl (fun ret M' F' hR35 => ?_))
            obtain ⟨rfl, rfl, rfl⟩ := hR35
            refine nxp hok (kp_imp (kp_c0 rfl)) rfl (by kernel_rfl) ?_
            clear hok
            intro hok
            refine TrAny.prom (i := 10) (d := 102) hok (OpVal.plain rfl rfl (v_arith rfl rfl rfl ar_lss)) (by kernel_rfl) rfl (bl rfl) ?_
            clear hok
            intro hok
            refine TrAny.prom (i := 11) (d := 103) hok (OpVal.plain rfl rfl (v_notd rfl rfl)) (by kernel_rfl) rfl (bl rfl) ?_
            clear hok
            intro hok
            refine TrAny.done (by kernel_rfl) (by kernel_rfl) hok (by kernel_rfl) (qthen_n ?_)
            rcases ifc hy8 with ⟨h58, hy8⟩ | ⟨h58, hy8⟩
            · refine Tr.cond_t rfl (bt_dec h58) ?_
              refine Tr.region ?_
              refine TrL.v (v_move rfl rfl) rfl rfl (bl rfl) ?_
              refine TrL.v (v_arith rfl rfl rfl ar_add_i64) rfl rfl (bl rfl) ?_
              refine TrL.v (v_assign rfl rfl) rfl rfl (bl rfl) ?_
              have hz := Option.some.inj hy8
              subst hz
              refine TrL.nil (qblock_n (qloop_n (()) (Imp.re _ [0] [] (sc rfl (sc rfl (sc rfl (sc rfl (sc rfl sn))))) (by decide) rfl rfl rfl)))
            · refine Tr.cond_f rfl (bf_dec h58) ?_
              refine Tr.region ?_
              refine TrL.v (v_move rfl rfl) rfl rfl (bl rfl) ?_
              refine TrL.v (v_assign rfl rfl) rfl rfl (bl rfl) ?_
              have hz := Option.some.inj hy8
              subst hz
              refine TrL.nil (qblock_n (qloop_n (()) (Imp.re _ [0] [] (sc rfl (sc rfl (sc rfl (sc rfl (sc rfl sn))))) (by decide) rfl rfl rfl)))
          · refine Tr.cond_f rfl (bf_dec h57) ?_
            have hz := Option.some.inj hy8
            subst hz
            refine Tr.exit (qthen_x (qloop_x (qblock_hit (qcut_hit s23.1 (()) (hx16 _ rfl).symm (Imp.re _ [0] [] (sc rfl (sc rfl (sc rfl sn))) (by decide) rfl rfl rfl)))))
        · subst hd13
          refine (qthen_n ?_)
          refine Tr.seq ?_
          refine Tr.seq ?_
          refine Tr.region ?_
          refine TrL.v (v_move rfl rfl) rfl rfl (bl rfl) ?_
          refine TrL.v (v_assign rfl rfl) rfl rfl (bl rfl) ?_
          refine TrL.nil (qthen_n ?_)
          obtain ⟨x9, hx17, H⟩ := bnd H
          refine Tr.cutE (D := List (Int × Int × Int)) (M := Unit) .normal (fun _d => x9 = _d) (fun x9 m76 => ⟨[(0, .slice A1 n1 c1)], [arr rp_u64_u64_u64 85 A1 n1 c1 x9], [], []⟩) ?_ (fun x9 m76 hd14 => ?_)
          · refine Tr.block (Tr.loopI (ι := Unit) (step := slices_symMergeCmpFunc_Event_s3 x8) (fun s26 m74 => ⟨[(0, .slice A1 n1 c1), (14, .int .i64 x8), (17, .int .i64 s26.2)], [arr rp_u64_u64_u64 85 A1 n1 c1 s26.1], [], []⟩) (()) hx17 (Imp.re _ [0] [] (sc rfl (sc rfl (sc rfl sn))) (by decide) rfl rfl rfl) (fun s26 m74 y9 hy9 hx18 => ?_))
            unfold slices_symMergeCmpFunc_Event_s3 at hy9
            refine Tr.seq ?_
            refine Tr.seq ?_
            refine Tr.region ?_
            refine TrL.v (v_move rfl rfl) rfl rfl (bl rfl) ?_
            refine TrL.v (v_move rfl rfl) rfl rfl (bl rfl) ?_
            refine TrL.v (v_arith rfl rfl rfl ar_gtr) rfl rfl (bl rfl) ?_
            refine TrL.nil (qthen_n ?_)
            rcases ifc hy9 with ⟨h61, hy9⟩ | ⟨h61, hy9⟩
            · refine Tr.cond_t rfl (bt_dec h61) ?_
              refine Tr.skip (qthen_n ?_)
              refine Tr.seq ?_
              refine Tr.block ?_
              refine Tr.regionD drawn (fun hok => ?_)
              refine TrAny.prom (i := 0) (d := 113) hok (OpVal.plain rfl rfl (v_move rfl rfl)) (by kernel_rfl) rfl (bl rfl) ?_
              clear hok
              intro hok
              refine TrAny.prom (i := 1) (d := 114) hok (OpVal.plain rfl rfl (v_move rfl rfl)) (by kernel_rfl) rfl (bl rfl) ?_
              clear hok
              intro hok
              refine TrAny.prom (i := 2) (d := 115) hok (OpVal.plain rfl rfl (v_move rfl rfl)) (by kernel_rfl) rfl (bl rfl) ?_
              clear hok
              intro hok
              refine TrAny.prom (i := 3) (d := 116) hok (OpVal.plain rfl rfl (v_move rfl rfl)) (by kernel_rfl) rfl (bl rfl) ?_
              clear hok
              intro hok
              refine TrAny.prom (i := 4) (d := 117) hok (OpVal.plain rfl rfl (v_arith rfl rfl rfl ar_sub_i64)) (by kernel_rfl) rfl (bl rfl) ?_
              clear hok
              intro hok
              refine TrAny.prom (i := 5) (d := 118) hok (OpVal.plain rfl rfl (v_move rfl rfl)) (by kernel_rfl) rfl (bl rfl) ?_
              clear hok
              intro hok
              refine TrAny.prom (i := 6) (d := 119) hok (OpVal.plain rfl rfl (v_move rfl rfl)) (by kernel_rfl) rfl (bl rfl) ?_
              clear hok
              intro hok
              refine TrAny.prom (i := 7) (d := 120) hok (OpVal.plain rfl rfl (v_arith rfl rfl rfl ar_sub_i64)) (by kernel_rfl) rfl (bl rfl) ?_
              clear hok
              intro hok
              obtain ⟨z130, hz130, hy9⟩ := bnd hy9
              refine TrAny.prom (i := 8) (d := 121) hok (OpVal.plain rfl rfl (v_indexA (k := 0) rfl sl71 ty85 rfl rfl rfl hz130)) (by kernel_rfl) rfl (bl rfl) ?_
              clear hok
              intro hok
              refine TrAny.prom (i := 9) (d := 122) hok (OpVal.plain rfl rfl (v_loadA (A := A1) (i := (wi64 (s26.2 - 1))) (j := 0) (k := 0) rfl ty85 nofun rfl rfl hz130 rfl rfl)) (by kernel_rfl) rfl (bl rfl) ?_
              clear hok
              intro hok
              refine TrAny.prom (i := 10) (d := 123) hok (OpVal.plain rfl rfl (v_move rfl rfl)) (by kernel_rfl) rfl (bl rfl) ?_
              clear hok
              intro hok
              refine TrAny.prom (i := 11) (d := 124) hok (OpVal.plain rfl rfl (v_move rfl rfl)) (by kernel_rfl) rfl (bl rfl) ?_
              clear hok
              intro hok
              obtain ⟨z131, hz131, hy9⟩ := bnd hy9
              refine TrAny.prom (i := 12) (d := 125) hok (OpVal.plain rfl rfl (v_indexA (k := 0) rfl sl71 ty85 rfl rfl rfl hz131)) (by kernel_rfl) rfl (bl rfl) ?_
              clear hok
              intro hok
              refine TrAny.prom (i := 13) (d := 126) hok (OpVal.plain rfl rfl (v_loadA (A := A1) (i := s26.2) (j := 0) (k := 0) rfl ty85 nofun rfl rfl hz131 rfl rfl)) (by kernel_rfl) rfl (bl rfl) ?_
              clear hok
              intro hok
              refine TrAny.prom (i := 14) (d := 127) hok (OpVal.plain rfl rfl (v_indexA (k := 0) rfl sl71 ty85 rfl rfl rfl hz131)) (by kernel_rfl) rfl (bl rfl) ?_
              clear hok
              intro hok
              refine TrAny.prom (i := 16) (d := 128) hok (OpVal.plain rfl rfl (v_indexA (k := 0) rfl sl71 ty85 rfl rfl rfl hz130)) (by kernel_rfl) rfl (bl rfl) ?_
              clear hok
              intro hok
              refine TrAny.next (j := 15) (by kernel_rfl) hok rfl (by kernel_rfl) (op_storeAS (A := A1) (i := s26.2) (j := 0) (k := 0) (z' := z130) rfl rfl rfl rfl rfl ty85 rfl hz131 (Nat.le_of_ble_eq_true rfl) (ones (oc rfl (oc rfl (oc rfl on)))) rfl ?_)
              refine nxs hok (kp_allE [(0, 113, .slice A1 n1 c1), (1, 114, .int .i64 s26.2), (2, 115, .slice A1 n1 c1), (3, 116, .int .i64 s26.2), (4, 117, .int .i64 (wi64 (s26.2 - 1))), (5, 118, .slice A1 n1 c1), (6, 119, .int .i64 s26.2), (7, 120, .int .i64 (wi64 (s26.2 - 1))), (8, 121, .pointer (some ⟨ablk A1, aoff A1 + (wi64 (s26.2 - 1)).toNat * 3, none⟩)), (9, 122, .agg #[.int .u64 z130.1, .int .u64 z130.2.1, .int .u64 z130.2.2]), (10, 123, .slice A1 n1 c1), (11, 124, .int .i64 s26.2), (12, 125, .pointer (some ⟨ablk A1, aoff A1 + (s26.2).toNat * 3, none⟩)), (13, 126, .agg #[.int .u64 z131.1, .int .u64 z131.2.1, .int .u64 z131.2.2]), (14, 127, .pointer (some ⟨ablk A1, aoff A1 + (s26.2).toNat * 3, none⟩)), (16, 128, .pointer (some ⟨ablk A1, aoff A1 + (wi64 (s26.2 - 1)).toNat * 3, none⟩))] (by kernel_rfl) (ac (.inl (by kernel_rfl)) (ac (.inl (by kernel_rfl)) (ac (.inr (OpVal.plain rfl rfl (v_move rfl rfl))) (ac (.inr (OpVal.plain rfl rfl (v_move rfl rfl))) (ac (.inr (OpVal.plain rfl rfl (v_arith rfl rfl rfl ar_sub_i64))) (ac (.inl (by kernel_rfl)) (ac (.inl (by kernel_rfl)) (ac (.inl (by kernel_rfl)) (ac (.inl (by kernel_rfl)) (ac (.inl (by kernel_rfl)) (ac (.inr (OpVal.plain rfl rfl (v_move rfl rfl))) (ac (.inr (OpVal.plain rfl rfl (v_move rfl rfl))) (ac (.inr (OpVal.plain rfl rfl (v_indexAb (k := 0) rfl sl71 ty85 rfl rfl rfl (rdo_some hz131).1 (by simp only [List.length_set]; exact (rdo_some hz131).2.1)))) (ac (.inl (by kernel_rfl)) (ac (.inl (by kernel_rfl)) (ac (.inr (OpVal.plain rfl rfl (v_indexAb (k := 0) rfl sl71 ty85 rfl rfl rfl (rdo_some hz130).1 (by simp only [List.length_set]; exact (rdo_some hz130).2.1)))) an))))))))))))))))) rfl ?_
              clear hok
              intro hok
              obtain ⟨z132, hz132, hy9⟩ := bnd hy9
              refine TrAny.next (j := 17) (by kernel_rfl) hok rfl (by kernel_rfl) (op_storeAS (A := A1) (i := (wi64 (s26.2 - 1))) (j := 0) (k := 0) (z' := z131) rfl rfl rfl rfl rfl ty85 rfl hz132 (Nat.le_of_ble_eq_true rfl) (ones (oc rfl (oc rfl (oc rfl on)))) rfl ?_)
              refine nxs hok (kp_aw (by kernel_rfl)) rfl ?_
              clear hok
              intro hok
              refine TrAny.done (by kernel_rfl) (by kernel_rfl) hok (by kernel_rfl) (qblock_n (qthen_n ?_))
              refine Tr.region ?_
              refine TrL.v (v_move rfl rfl) rfl rfl (bl rfl) ?_
              refine TrL.v (v_arith rfl rfl rfl ar_sub_i64) rfl rfl (bl rfl) ?_
              refine TrL.v (v_assign rfl rfl) rfl rfl (bl rfl) ?_
              have hz := Option.some.inj hy9
              subst hz
              refine TrL.nil (qloop_n (()) (Imp.re _ [0] [] (sc rfl (sc rfl (sc rfl sn))) (by decide) rfl rfl rfl))
            · refine Tr.cond_f rfl (bf_dec h61) ?_
              have hz := Option.some.inj hy9
              subst hz
              refine Tr.exit (qthen_x (qloop_x (qblock_hit (qcut_hit s26.1 (()) (hx18 _ rfl).symm (Imp.re _ [0] [] (sc rfl sn) (by decide) rfl rfl rfl)))))
          · subst hd14
            refine (qthen_n ?_)
            have hz := Option.some.inj H
            subst hz
            refine Tr.ret (qthen_r (ret_r ⟨[], [arr rp_u64_u64_u64 85 A1 n1 c1 x9], [], []⟩ [] [arr rp_u64_u64_u64 85 A1 n1 c1 x9] [] (Imp.re _ [0] [] sn (by decide) rfl rfl rfl) rfl rfl ⟨rfl, rfl, rfl⟩ .nil))
      · refine Tr.cond_f rfl (bf_dec h52) ?_
        refine Tr.skip (qthen_n ?_)
        refine Tr.seq ?_
        refine Tr.region ?_
        refine TrL.v (v_move rfl rfl) rfl rfl (bl rfl) ?_
        refine TrL.v (v_move rfl rfl) rfl rfl (bl rfl) ?_
        refine TrL.v (v_arith rfl rfl rfl ar_add_i64) rfl rfl (bl rfl) ?_
        refine TrL.v (v_conv' rfl ⟨_, Try.underlying3⟩ Try.underlying231 rfl wrap_u64') rfl rfl (bl rfl) ?_
        refine TrL.v (v_shr' rfl rfl rfl (by decide) rfl) rfl rfl (bl rfl) ?_
        refine TrL.v (v_conv' rfl ⟨_, Try.underlying231⟩ Try.underlying3 rfl wrap_i64') rfl rfl (bl rfl) ?_
        refine TrL.v (v_assign rfl rfl) rfl rfl (bl rfl) ?_
        refine TrL.nil (qthen_n ?_)
        refine Tr.seq ?_
        refine Tr.region ?_
        refine TrL.v (v_move rfl rfl) rfl rfl (bl rfl) ?_
        refine TrL.v (v_move rfl rfl) rfl rfl (bl rfl) ?_
        refine TrL.v (v_arith rfl rfl rfl ar_add_i64) rfl rfl (bl rfl) ?_
        refine TrL.v (v_assign rfl rfl) rfl rfl (bl rfl) ?_
        refine TrL.nil (qthen_n ?_)
        refine Tr.seq ?_
        refine Tr.region ?_
        refine TrL.v (v_assign rfl rfl) rfl rfl (bl rfl) ?_
        refine TrL.v (v_assign rfl rfl) rfl rfl (bl rfl) ?_
        refine TrL.nil (qthen_n ?_)
        refine Tr.seq ?_
        refine Tr.seq ?_
        refine Tr.region ?_
        refine TrL.v (v_move rfl rfl) rfl rfl (bl rfl) ?_
        refine TrL.v (v_move rfl rfl) rfl rfl (bl rfl) ?_
        refine TrL.v (v_arith rfl rfl rfl ar_gtr) rfl rfl (bl rfl) ?_
        refine TrL.nil (qthen_n ?_)
        obtain ⟨j6, hj6, H⟩ := bnd H
        refine Tr.cutE (D := Int × Int) (M := Unit) .normal (fun _d => j6 = _d) (fun j6 m77 => ⟨[(0, .slice A1 n1 c1), (1, .int .i64 p2), (2, .int .i64 p3), (3, .int .i64 p4), (4, .func (.func 89) #[] #[]), (18, .int .i64 (wi64 (shrk 64 (wu64 (wi64 (p2 + p4))) 1))), (19, .int .i64 (wi64 ((wi64 (shrk 64 (wu64 (wi64 (p2 + p4))) 1)) + p3))), (20, .int .i64 j6.1), (21, .int .i64 j6.2)], [arr rp_u64_u64_u64 85 A1 n1 c1 p1], [], []⟩) ?_ (fun j6 m77 hd15 => ?_)
        · rcases ifc hj6 with ⟨h63, hj6⟩ | ⟨h63, hj6⟩
          · refine Tr.cond_t rfl (bt_dec h63) ?_
            refine Tr.seq ?_
            refine Tr.region ?_
            refine TrL.v (v_move rfl rfl) rfl rfl (bl rfl) ?_
            refine TrL.v (v_move rfl rfl) rfl rfl (bl rfl) ?_
            refine TrL.v (v_arith rfl rfl rfl ar_sub_i64) rfl rfl (bl rfl) ?_
            refine TrL.v (v_assign rfl rfl) rfl rfl (bl rfl) ?_
            refine TrL.nil (qthen_n ?_)
            refine Tr.region ?_
            refine TrL.v (v_move rfl rfl) rfl rfl (bl rfl) ?_
            refine TrL.v (v_assign rfl rfl) rfl rfl (bl rfl) ?_
            refine TrL.nil (qcut_hit ((wi64 ((wi64 ((wi64 (shrk 64 (wu64 (wi64 (p2 + p4))) 1)) + p3)) - p4), wi64 (shrk 64 (wu64 (wi64 (p2 + p4))) 1))) (()) (Option.some.inj hj6).symm (Imp.re _ [0] [] (sc rfl (sc rfl (sc rfl (sc rfl (sc rfl (sc rfl (sc rfl (sc rfl (sc rfl sn))))))))) (by decide) rfl rfl rfl))
          · refine Tr.cond_f rfl (bf_dec h63) ?_
            refine Tr.seq ?_
            refine Tr.region ?_
            refine TrL.v (v_move rfl rfl) rfl rfl (bl rfl) ?_
            refine TrL.v (v_assign rfl rfl) rfl rfl (bl rfl) ?_
            refine TrL.nil (qthen_n ?_)
            refine Tr.region ?_
            refine TrL.v (v_move rfl rfl) rfl rfl (bl rfl) ?_
            refine TrL.v (v_assign rfl rfl) rfl rfl (bl rfl) ?_
            refine TrL.nil (qcut_hit ((p2, p3)) (()) (Option.some.inj hj6).symm (Imp.re _ [0] [] (sc rfl (sc rfl (sc rfl (sc rfl (sc rfl (sc rfl (sc rfl (sc rfl (sc rfl sn))))))))) (by decide) rfl rfl rfl))
        · subst hd15
          refine (qthen_n ?_)
          refine Tr.seq ?_
          refine Tr.region ?_
          refine TrL.v (v_move rfl rfl) rfl rfl (bl rfl) ?_
          refine TrL.v (v_arith rfl rfl rfl ar_sub_i64) rfl rfl (bl rfl) ?_
          refine TrL.v (v_assign rfl rfl) rfl rfl (bl rfl) ?_
          refine TrL.nil (qthen_n ?_)
          refine Tr.seq ?_
          obtain ⟨x10, hx19, H⟩ := bnd H
          refine Tr.cutE (D := Int) (M := Unit) .normal (fun _d => x10 = _d) (fun x10 m85 => ⟨[(0, .slice A1 n1 c1), (1, .int .i64 p2), (2, .int .i64 p3), (3, .int .i64 p4), (4, .func (.func 89) #[] #[]), (18, .int .i64 (wi64 (shrk 64 (wu64 (wi64 (p2 + p4))) 1))), (19, .int .i64 (wi64 ((wi64 (shrk 64 (wu64 (wi64 (p2 + p4))) 1)) + p3))), (20, .int .i64 x10)], [arr rp_u64_u64_u64 85 A1 n1 c1 p1], [], []⟩) ?_ (fun x10 m85 hd16 => ?_)
          · refine Tr.block (Tr.loopI (ι := Unit) (step := slices_symMergeCmpFunc_Event_s4 p1 p2 p3 p4) (fun s29 m81 => ⟨[(0, .slice A1 n1 c1), (1, .int .i64 p2), (2, .int .i64 p3), (3, .int .i64 p4), (4, .func (.func 89) #[] #[]), (18, .int .i64 (wi64 (shrk 64 (wu64 (wi64 (p2 + p4))) 1))), (19, .int .i64 (wi64 ((wi64 (shrk 64 (wu64 (wi64 (p2 + p4))) 1)) + p3))), (20, .int .i64 s29.1), (21, .int .i64 s29.2), (22, .int .i64 (wi64 ((wi64 ((wi64 (shrk 64 (wu64 (wi64 (p2 + p4))) 1)) + p3)) - 1)))], [arr rp_u64_u64_u64 85 A1 n1 c1 p1], [], []⟩) (()) hx19 (Imp.re _ [0] [] (sc rfl (sc rfl (sc rfl (sc rfl (sc rfl (sc rfl (sc rfl (sc rfl (sc rfl (sc rfl sn)))))))))) (by decide) rfl rfl rfl) (fun s29 m81 y10 hy10 hx20 => ?_))
            unfold slices_symMergeCmpFunc_Event_s4 at hy10
            refine Tr.seq ?_
            refine Tr.seq ?_
            refine Tr.region ?_
            refine TrL.v (v_move rfl rfl) rfl rfl (bl rfl) ?_
            refine TrL.v (v_move rfl rfl) rfl rfl (bl rfl) ?_
            refine TrL.v (v_arith rfl rfl rfl ar_lss) rfl rfl (bl rfl) ?_
            refine TrL.nil (qthen_n ?_)
            rcases ifc hy10 with ⟨h68, hy10⟩ | ⟨h68, hy10⟩
            · refine Tr.cond_t rfl (bt_dec h68) ?_
              refine Tr.skip (qthen_n ?_)
              refine Tr.block ?_
              refine Tr.seq ?_
              refine Tr.region ?_
              refine TrL.v (v_move rfl rfl) rfl rfl (bl rfl) ?_
              refine TrL.v (v_move rfl rfl) rfl rfl (bl rfl) ?_
              refine TrL.v (v_arith rfl rfl rfl ar_add_i64) rfl rfl (bl rfl) ?_
              refine TrL.v (v_conv' rfl ⟨_, Try.underlying3⟩ Try.underlying231 rfl wrap_u64') rfl rfl (bl rfl) ?_
              refine TrL.v (v_shr' rfl rfl rfl (by decide) rfl) rfl rfl (bl rfl) ?_
              refine TrL.v (v_conv' rfl ⟨_, Try.underlying231⟩ Try.underlying3 rfl wrap_i64') rfl rfl (bl rfl) ?_
              refine TrL.v (v_assign rfl rfl) rfl rfl (bl rfl) ?_
              refine TrL.nil (qthen_n ?_)
              refine Tr.seq ?_
              refine Tr.regionD drawn (fun hok => ?_)
              refine TrAny.prom (i := 0) (d := 158) hok (OpVal.plain rfl rfl (v_move rfl rfl)) (by kernel_rfl) rfl (bl rfl) ?_
              clear hok
              intro hok
              refine TrAny.prom (i := 1) (d := 159) hok (OpVal.plain rfl rfl (v_move rfl rfl)) (by kernel_rfl) rfl (bl rfl) ?_
              clear hok
              intro hok
              refine TrAny.prom (i := 2) (d := 160) hok (OpVal.plain rfl rfl (v_move rfl rfl)) (by kernel_rfl) rfl (bl rfl) ?_
              clear hok
              intro hok
              refine TrAny.prom (i := 3) (d := 161) hok (OpVal.plain rfl rfl (v_move rfl rfl)) (by kernel_rfl) rfl (bl rfl) ?_
              clear hok
              intro hok
              refine TrAny.prom (i := 4) (d := 162) hok (OpVal.plain rfl rfl (v_arith rfl rfl rfl ar_sub_i64)) (by kernel_rfl) rfl (bl rfl) ?_
              clear hok
              intro hok
              obtain ⟨z143, hz143, hy10⟩ := bnd hy10
              refine TrAny.prom (i := 5) (d := 163) hok (OpVal.plain rfl rfl (v_indexA (k := 0) rfl sl71 ty85 rfl rfl rfl hz143)) (by kernel_rfl) rfl (bl rfl) ?_
              clear hok
              intro hok
              refine TrAny.prom (i := 6) (d := 164) hok (OpVal.plain rfl rfl (v_loadA (A := A1) (i := (wi64 ((wi64 ((wi64 ((wi64 (shrk 64 (wu64 (wi64 (p2 + p4))) 1)) + p3)) - 1)) - (wi64 (shrk 64 (wu64 (wi64 (s29.1 + s29.2))) 1))))) (j := 0) (k := 0) rfl ty85 nofun rfl rfl hz143 rfl rfl)) (by kernel_rfl) rfl (bl rfl) ?_
              clear hok
              intro hok
              refine TrAny.prom (i := 7) (d := 165) hok (OpVal.plain rfl rfl (v_move rfl rfl)) (by kernel_rfl) rfl (bl rfl) ?_
              clear hok
              intro hok
              refine TrAny.prom (i := 8) (d := 166) hok (OpVal.plain rfl rfl (v_move rfl rfl)) (by kernel_rfl) rfl (bl rfl) ?_
              clear hok
              intro hok
              obtain ⟨z144, hz144, hy10⟩ := bnd hy10
              refine TrAny.prom (i := 9) (d := 167) hok (OpVal.plain rfl rfl (v_indexA (k := 0) rfl sl71 ty85 rfl rfl rfl hz144)) (by kernel_rfl) rfl (bl rfl) ?_
              clear hok
              intro hok
              refine TrAny.prom (i := 10) (d := 168) hok (OpVal.plain rfl rfl (v_loadA (A := A1) (i := (wi64 (shrk 64 (wu64 (wi64 (s29.1 + s29.2))) 1))) (j := 0) (k := 0) rfl ty85 nofun rfl rfl hz144 rfl rfl)) (by kernel_rfl) rfl (bl rfl) ?_
              clear hok
              intro hok
              obtain ⟨r41, hr41, hy10⟩ := bnd hy10
              refine TrAny.next (j := 11) (by kernel_rfl) hok rfl (by kernel_rfl) (op_call0' (vs := [.agg #[.int .u64 z143.1, .int .u64 z143.2.1, .int .u64 z143.2.2], .agg #[.int .u64 z144.1, .int .u64 z144.2.1, .int .u64 z144.2.2]]) (cap := []) [] rfl rfl (bl rfl) rfl rfl en89 (c_buffer_Join_1 z143 z144 r41 hr41) rfl (fun ret M' F' hR41 => ?_))
              obtain ⟨rfl, rfl, rfl⟩ := hR41
              refine nxp hok (kp_imp (kp_c0 rfl)) rfl (by kernel_rfl) ?_
              clear hok
              intro hok
              refine TrAny.prom (i := 12) (d := 170) hok (OpVal.plain rfl rfl (v_arith rfl rfl rfl ar_lss)) (by kernel_rfl) rfl (bl rfl) ?_
              clear hok
              intro hok
              refine TrAny.prom (i := 13) (d := 171) hok (OpVal.plain rfl rfl (v_notd rfl rfl)) (by kernel_rfl) rfl (bl rfl) ?_
              clear hok
              intro hok
              refine TrAny.done (by kernel_rfl) (by kernel_rfl) hok (by kernel_rfl) (qthen_n ?_)
              rcases ifc hy10 with ⟨h69, hy10⟩ | ⟨h69, hy10⟩
              · refine Tr.cond_t rfl (bt_dec h69) ?_
                refine Tr.region ?_
                refine TrL.v (v_move rfl rfl) rfl rfl (bl rfl) ?_
                refine TrL.v (v_arith rfl rfl rfl ar_add_i64) rfl rfl (bl rfl) ?_
                refine TrL.v (v_assign rfl rfl) rfl rfl (bl rfl) ?_
                have hz := Option.some.inj hy10
                subst hz
                refine TrL.nil (qblock_n (qloop_n (()) (Imp.re _ [0] [] (sc rfl (sc rfl (sc rfl (sc rfl (sc rfl (sc rfl (sc rfl (sc rfl (sc rfl (sc rfl sn)))))))))) (by decide) rfl rfl rfl)))
              · refine Tr.cond_f rfl (bf_dec h69) ?_
                refine Tr.region ?_
                refine TrL.v (v_move rfl rfl) rfl rfl (bl rfl) ?_
                refine TrL.v (v_assign rfl rfl) rfl rfl (bl rfl) ?_
                have hz := Option.some.inj hy10
                subst hz
                refine TrL.nil (qblock_n (qloop_n (()) (Imp.re _ [0] [] (sc rfl (sc rfl (sc rfl (sc rfl (sc rfl (sc rfl (sc rfl (sc rfl (sc rfl (sc rfl sn)))))))))) (by decide) rfl rfl rfl)))
            · refine Tr.cond_f rfl (bf_dec h68) ?_
              have hz := Option.some.inj hy10
              subst hz
              refine Tr.exit (qthen_x (qloop_x (qblock_hit (qcut_hit s29.1 (()) (hx20 _ rfl).symm (Imp.re _ [0] [] (sc rfl (sc rfl (sc rfl (sc rfl (sc rfl (sc rfl (sc rfl (sc rfl sn)))))))) (by decide) rfl rfl rfl)))))
          · subst hd16
            refine (qthen_n ?_)
            refine Tr.seq ?_
            refine Tr.region ?_
            refine TrL.v (v_move rfl rfl) rfl rfl (bl rfl) ?_
            refine TrL.v (v_move rfl rfl) rfl rfl (bl rfl) ?_
            refine TrL.v (v_arith rfl rfl rfl ar_sub_i64) rfl rfl (bl rfl) ?_
            refine TrL.v (v_assign rfl rfl) rfl rfl (bl rfl) ?_
            refine TrL.nil (qthen_n ?_)
            refine Tr.seq ?_
            refine Tr.seq ?_
            obtain ⟨j7, hj7, H⟩ := bnd H
            refine Tr.cutE (D := Bool) (M := Unit) .normal (fun _d => j7 = _d) (fun j7 m88 => ⟨[(0, .slice A1 n1 c1), (1, .int .i64 p2), (2, .int .i64 p3), (3, .int .i64 p4), (4, .func (.func 89) #[] #[]), (18, .int .i64 (wi64 (shrk 64 (wu64 (wi64 (p2 + p4))) 1))), (20, .int .i64 x10), (24, .int .i64 (wi64 ((wi64 ((wi64 (shrk 64 (wu64 (wi64 (p2 + p4))) 1)) + p3)) - x10))), (185, .bool j7)], [arr rp_u64_u64_u64 85 A1 n1 c1 p1], [], []⟩) ?_ (fun j7 m88 hd17 => ?_)
            · refine Tr.region ?_
              refine TrL.v (v_move rfl rfl) rfl rfl (bl rfl) ?_
              refine TrL.v (v_move rfl rfl) rfl rfl (bl rfl) ?_
              refine TrL.v (v_arith rfl rfl rfl ar_lss) rfl rfl (bl rfl) ?_
              refine TrL.v (v_move rfl rfl) rfl rfl (bl rfl) ?_
              rcases ifc hj7 with ⟨h72, hj7⟩ | ⟨h72, hj7⟩
              · refine TrL.cons_yes rfl rfl rfl (bt_dec h72) (OpTr.v (v_move rfl rfl) rfl (bl rfl) ?_)
                refine TrL.cons_yes rfl rfl rfl (bt_dec h72) (OpTr.v (v_move rfl rfl) rfl (bl rfl) ?_)
                refine TrL.cons_yes rfl rfl rfl (bt_dec h72) (OpTr.v (v_arith rfl rfl rfl ar_lss) rfl (bl rfl) ?_)
                refine TrL.v (v_pick_t rfl rfl (bt_dec h72) rfl) rfl rfl (bl rfl) ?_
                refine TrL.nil (qcut_hit (decide (p3 < (wi64 ((wi64 ((wi64 (shrk 64 (wu64 (wi64 (p2 + p4))) 1)) + p3)) - x10)))) (()) (Option.some.inj hj7).symm (Imp.re _ [0] [] (sc rfl (sc rfl (sc rfl (sc rfl (sc rfl (sc rfl (sc rfl (sc rfl (sc rfl sn))))))))) (by decide) rfl rfl rfl))
              · refine TrL.cons_no rfl rfl rfl (gn_t (bf_dec h72)) rfl (bl rfl) ?_
                refine TrL.cons_no rfl rfl rfl (gn_t (bf_dec h72)) rfl (bl rfl) ?_
                refine TrL.cons_no rfl rfl rfl (gn_t (bf_dec h72)) rfl (bl rfl) ?_
                refine TrL.v (v_pick_f rfl rfl (bf_dec h72) rfl) rfl rfl (bl rfl) ?_
                refine TrL.nil (qcut_hit false (()) (Option.some.inj hj7).symm (Imp.re _ [0] [] (sc rfl (sc rfl (sc rfl (sc rfl (sc rfl (sc rfl (sc rfl (sc rfl (sc rfl sn))))))))) (by decide) rfl rfl rfl))
            · subst hd17
              refine (qthen_n ?_)
              obtain ⟨j8, hj8, H⟩ := bnd H
              refine Tr.cutE (D := List (Int × Int × Int)) (M := Unit) .normal (fun _d => j8 = _d) (fun j8 m90 => ⟨[(0, .slice A1 n1 c1), (1, .int .i64 p2), (3, .int .i64 p4), (4, .func (.func 89) #[] #[]), (18, .int .i64 (wi64 (shrk 64 (wu64 (wi64 (p2 + p4))) 1))), (20, .int .i64 x10), (24, .int .i64 (wi64 ((wi64 ((wi64 (shrk 64 (wu64 (wi64 (p2 + p4))) 1)) + p3)) - x10)))], [arr rp_u64_u64_u64 85 A1 n1 c1 j8], [], []⟩) ?_ (fun j8 m90 hd18 => ?_)
              · rcases ifc hj8 with ⟨h74, hj8⟩ | ⟨h74, hj8⟩
                · refine Tr.cond_t rfl h74 ?_
                  refine Tr.region ?_
                  refine TrL.v (v_move rfl rfl) rfl rfl (bl rfl) ?_
                  refine TrL.v (v_move rfl rfl) rfl rfl (bl rfl) ?_
                  refine TrL.v (v_move rfl rfl) rfl rfl (bl rfl) ?_
                  refine TrL.v (v_move rfl rfl) rfl rfl (bl rfl) ?_
                  refine TrL.v (v_move rfl rfl) rfl rfl (bl rfl) ?_
                  obtain ⟨r43, hr43, hj8⟩ := bnd hj8
                  refine TrL.cons rfl (op_callg' (fs := []) (vs := [.slice A1 n1 c1, .int .i64 x10, .int .i64 p3, .int .i64 (wi64 ((wi64 ((wi64 (shrk 64 (wu64 (wi64 (p2 + p4))) 1)) + p3)) - x10)), .func (.func 89) #[] #[]]) (cap := []) (Mr := []) [0] [] [] rfl rfl rfl en185 (c_slices_rotateCmpFunc_Event p1 x10 p3 (wi64 ((wi64 ((wi64 (shrk 64 (wu64 (wi64 (p2 + p4))) 1)) + p3)) - x10)) A1 c1 n1 r43 hr43) (by decide) rfl rfl rfl (bl rfl) (fun ret M' F' hR43 => ?_))
                  obtain ⟨rfl, rfl, rfl⟩ := hR43
                  refine TrL.nil (qcut_hit r43 (()) (Option.some.inj hj8).symm (Imp.re _ [0] [] (sc rfl (sc rfl (sc rfl (sc rfl (sc rfl (sc rfl (sc rfl sn))))))) (by decide) rfl rfl rfl))
                · refine Tr.cond_f rfl (bf_b h74) ?_
                  refine Tr.skip (qcut_hit p1 (()) (Option.some.inj hj8).symm (Imp.re _ [0] [] (sc rfl (sc rfl (sc rfl (sc rfl (sc rfl (sc rfl (sc rfl sn))))))) (by decide) rfl rfl rfl))
              · subst hd18
                refine (qthen_n ?_)
                refine Tr.seq ?_
                refine Tr.seq ?_
                obtain ⟨j9, hj9, H⟩ := bnd H
                refine Tr.cutE (D := Bool) (M := Unit) .normal (fun _d => j9 = _d) (fun j9 m92 => ⟨[(0, .slice A1 n1 c1), (1, .int .i64 p2), (3, .int .i64 p4), (4, .func (.func 89) #[] #[]), (18, .int .i64 (wi64 (shrk 64 (wu64 (wi64 (p2 + p4))) 1))), (20, .int .i64 x10), (24, .int .i64 (wi64 ((wi64 ((wi64 (shrk 64 (wu64 (wi64 (p2 + p4))) 1)) + p3)) - x10))), (199, .bool j9)], [arr rp_u64_u64_u64 85 A1 n1 c1 j8], [], []⟩) ?_ (fun j9 m92 hd19 => ?_)
                · refine Tr.region ?_
                  refine TrL.v (v_move rfl rfl) rfl rfl (bl rfl) ?_
                  refine TrL.v (v_move rfl rfl) rfl rfl (bl rfl) ?_
                  refine TrL.v (v_arith rfl rfl rfl ar_lss) rfl rfl (bl rfl) ?_
                  refine TrL.v (v_move rfl rfl) rfl rfl (bl rfl) ?_
                  rcases ifc hj9 with ⟨h77, hj9⟩ | ⟨h77, hj9⟩
                  · refine TrL.cons_yes rfl rfl rfl (bt_dec h77) (OpTr.v (v_move rfl rfl) rfl (bl rfl) ?_)
                    refine TrL.cons_yes rfl rfl rfl (bt_dec h77) (OpTr.v (v_move rfl rfl) rfl (bl rfl) ?_)
                    refine TrL.cons_yes rfl rfl rfl (bt_dec h77) (OpTr.v (v_arith rfl rfl rfl ar_lss) rfl (bl rfl) ?_)
                    refine TrL.v (v_pick_t rfl rfl (bt_dec h77) rfl) rfl rfl (bl rfl) ?_
                    refine TrL.nil (qcut_hit (decide (x10 < (wi64 (shrk 64 (wu64 (wi64 (p2 + p4))) 1)))) (()) (Option.some.inj hj9).symm (Imp.re _ [0] [] (sc rfl (sc rfl (sc rfl (sc rfl (sc rfl (sc rfl (sc rfl (sc rfl sn)))))))) (by decide) rfl rfl rfl))
                  · refine TrL.cons_no rfl rfl rfl (gn_t (bf_dec h77)) rfl (bl rfl) ?_
                    refine TrL.cons_no rfl rfl rfl (gn_t (bf_dec h77)) rfl (bl rfl) ?_
                    refine TrL.cons_no rfl rfl rfl (gn_t (bf_dec h77)) rfl (bl rfl) ?_
                    refine TrL.v (v_pick_f rfl rfl (bf_dec h77) rfl) rfl rfl (bl rfl) ?_
                    refine TrL.nil (qcut_hit false (()) (Option.some.inj hj9).symm (Imp.re _ [0] [] (sc rfl (sc rfl (sc rfl (sc rfl (sc rfl (sc rfl (sc rfl (sc rfl sn)))))))) (by decide) rfl rfl rfl))
                · subst hd19
                  refine (qthen_n ?_)
                  obtain ⟨j10, hj10, H⟩ := bnd H
                  refine Tr.cutE (D := List (Int × Int × Int)) (M := Unit) .normal (fun _d => j10 = _d) (fun j10 m94 => ⟨[(0, .slice A1 n1 c1), (3, .int .i64 p4), (4, .func (.func 89) #[] #[]), (18, .int .i64 (wi64 (shrk 64 (wu64 (wi64 (p2 + p4))) 1))), (24, .int .i64 (wi64 ((wi64 ((wi64 (shrk 64 (wu64 (wi64 (p2 + p4))) 1)) + p3)) - x10)))], [arr rp_u64_u64_u64 85 A1 n1 c1 j10], [], []⟩) ?_ (fun j10 m94 hd20 => ?_)
                  · rcases ifc hj10 with ⟨h79, hj10⟩ | ⟨h79, hj10⟩
                    · refine Tr.cond_t rfl h79 ?_
                      refine Tr.region ?_
                      refine TrL.v (v_move rfl rfl) rfl rfl (bl rfl) ?_
                      refine TrL.v (v_move rfl rfl) rfl rfl (bl rfl) ?_
                      refine TrL.v (v_move rfl rfl) rfl rfl (bl rfl) ?_
                      refine TrL.v (v_move rfl rfl) rfl rfl (bl rfl) ?_
                      refine TrL.v (v_move rfl rfl) rfl rfl (bl rfl) ?_
                      obtain ⟨r45, hr45, hj10⟩ := bnd hj10
                      refine TrL.cons rfl (op_callg' (fs := []) (vs := [.slice A1 n1 c1, .int .i64 p2, .int .i64 x10, .int .i64 (wi64 (shrk 64 (wu64 (wi64 (p2 + p4))) 1)), .func (.func 89) #[] #[]]) (cap := []) (Mr := []) [0] [] [] rfl rfl rfl en172 (ih j8 p2 x10 (wi64 (shrk 64 (wu64 (wi64 (p2 + p4))) 1)) A1 c1 n1 r45 hr45) (by decide) rfl rfl rfl (bl rfl) (fun ret M' F' hR45 => ?_))
                      obtain ⟨rfl, rfl, rfl⟩ := hR45
                      refine TrL.nil (qcut_hit r45 (()) (Option.some.inj hj10).symm (Imp.re _ [0] [] (sc rfl (sc rfl (sc rfl (sc rfl (sc rfl sn))))) (by decide) rfl rfl rfl))
                    · refine Tr.cond_f rfl (bf_b h79) ?_
                      refine Tr.skip (qcut_hit j8 (()) (Option.some.inj hj10).symm (Imp.re _ [0] [] (sc rfl (sc rfl (sc rfl (sc rfl (sc rfl sn))))) (by decide) rfl rfl rfl))
                  · subst hd20
                    refine (qthen_n ?_)
                    refine Tr.seq ?_
                    refine Tr.region ?_
                    refine TrL.v (v_move rfl rfl) rfl rfl (bl rfl) ?_
                    refine TrL.v (v_move rfl rfl) rfl rfl (bl rfl) ?_
                    refine TrL.v (v_arith rfl rfl rfl ar_lss) rfl rfl (bl rfl) ?_
                    refine TrL.v (v_move rfl rfl) rfl rfl (bl rfl) ?_
                    rcases ifc H with ⟨h81, H⟩ | ⟨h81, H⟩
                    · refine TrL.cons_yes rfl rfl rfl (bt_dec h81) (OpTr.v (v_move rfl rfl) rfl (bl rfl) ?_)
                      refine TrL.cons_yes rfl rfl rfl (bt_dec h81) (OpTr.v (v_move rfl rfl) rfl (bl rfl) ?_)
                      refine TrL.cons_yes rfl rfl rfl (bt_dec h81) (OpTr.v (v_arith rfl rfl rfl ar_lss) rfl (bl rfl) ?_)
                      refine TrL.v (v_pick_t rfl rfl (bt_dec h81) rfl) rfl rfl (bl rfl) ?_
                      refine TrL.nil (qthen_n ?_)
                      rcases ifc H with ⟨h82, H⟩ | ⟨h82, H⟩
                      · refine Tr.cond_t rfl (bt_dec h82) ?_
                        refine Tr.region ?_
                        refine TrL.v (v_move rfl rfl) rfl rfl (bl rfl) ?_
                        refine TrL.v (v_move rfl rfl) rfl rfl (bl rfl) ?_
                        refine TrL.v (v_move rfl rfl) rfl rfl (bl rfl) ?_
                        refine TrL.v (v_move rfl rfl) rfl rfl (bl rfl) ?_
                        refine TrL.v (v_move rfl rfl) rfl rfl (bl rfl) ?_
                        obtain ⟨r46, hr46, H⟩ := bnd H
                        refine TrL.cons rfl (op_callg' (fs := []) (vs := [.slice A1 n1 c1, .int .i64 (wi64 (shrk 64 (wu64 (wi64 (p2 + p4))) 1)), .int .i64 (wi64 ((wi64 ((wi64 (shrk 64 (wu64 (wi64 (p2 + p4))) 1)) + p3)) - x10)), .int .i64 p4, .func (.func 89) #[] #[]]) (cap := []) (Mr := []) [0] [] [] rfl rfl rfl en172 (ih j10 (wi64 (shrk 64 (wu64 (wi64 (p2 + p4))) 1)) (wi64 ((wi64 ((wi64 (shrk 64 (wu64 (wi64 (p2 + p4))) 1)) + p3)) - x10)) p4 A1 c1 n1 r46 hr46) (by decide) rfl rfl rfl (bl rfl) (fun ret M' F' hR46 => ?_))
                        obtain ⟨rfl, rfl, rfl⟩ := hR46
                        have hz := Option.some.inj H
                        subst hz
                        refine TrL.nil (ret_n ⟨[], [arr rp_u64_u64_u64 85 A1 n1 c1 r46], [], []⟩ [] [arr rp_u64_u64_u64 85 A1 n1 c1 r46] [] (Imp.re _ [0] [] sn (by decide) rfl rfl rfl) rfl rfl ⟨rfl, rfl, rfl⟩ .nil)
                      · refine Tr.cond_f rfl (bf_dec h82) ?_
                        have hz := Option.some.inj H
                        subst hz
                        refine Tr.skip (ret_n ⟨[], [arr rp_u64_u64_u64 85 A1 n1 c1 j10], [], []⟩ [] [arr rp_u64_u64_u64 85 A1 n1 c1 j10] [] (Imp.re _ [0] [] sn (by decide) rfl rfl rfl) rfl rfl ⟨rfl, rfl, rfl⟩ .nil)
                    · refine TrL.cons_no rfl rfl rfl (gn_t (bf_dec h81)) rfl (bl rfl) ?_
                      refine TrL.cons_no rfl rfl rfl (gn_t (bf_dec h81)) rfl (bl rfl) ?_
                      refine TrL.cons_no rfl rfl rfl (gn_t (bf_dec h81)) rfl (bl rfl) ?_
                      refine TrL.v (v_pick_f rfl rfl (bf_dec h81) rfl) rfl rfl (bl rfl) ?_
                      refine TrL.nil (qthen_n ?_)
                      refine Tr.cond_f rfl rfl ?_
                      have hz := Option.some.inj H
                      subst hz
                      refine Tr.skip (ret_n ⟨[], [arr rp_u64_u64_u64 85 A1 n1 c1 j10], [], []⟩ [] [arr rp_u64_u64_u64 85 A1 n1 c1 j10] [] (Imp.re _ [0] [] sn (by decide) rfl rfl rfl) rfl rfl ⟨rfl, rfl, rfl⟩ .nil)
end Go.Proofs.Ytbeknohemgjfbaa.W
