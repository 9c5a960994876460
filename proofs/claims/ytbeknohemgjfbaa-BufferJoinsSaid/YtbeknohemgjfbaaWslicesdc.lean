/- The contracts of the walked functions: the printed walks. -/
import Derived.Test.YtbeknohemgjfbaaKc
import Derived.Test.YtbeknohemgjfbaaQc
import Derived.Test.YtbeknohemgjfbaaWbufferdc
namespace Go.Proofs.Ytbeknohemgjfbaa.W
open Go Go.Proofs Go.Proofs.Ytbeknohemgjfbaa.L Go.Proofs.Ytbeknohemgjfbaa.Pu
set_option linter.unusedVariables false
set_option maxHeartbeats 4000000

theorem c_slices_insertionSortCmpFunc_Event (p1 : List (Int × Int × Int)) (p2 : Int) (p3 : Int) (A1 : Option Addr) (c1 : Nat) (n1 : Nat) (r : List (Int × Int × Int)) (H : slices_insertionSortCmpFunc_Event p1 p2 p3 = some r) :
    Ctr Try.prog 171 [.slice A1 n1 c1, .int .i64 p2, .int .i64 p3, .func (.func 89) #[] #[]] [arr rp_u64_u64_u64 85 A1 n1 c1 p1] [] (fun ret M' F' => ret = ret1 [] ∧ M' = [arr rp_u64_u64_u64 85 A1 n1 c1 r] ∧ F' = []) := by
  unfold slices_insertionSortCmpFunc_Event at H
  refine ctr_ofI (N := 53) Try.func171 rfl Try.ntmps171 rfl (Nat.le_of_ble_eq_true rfl) (fun γ0 w0 => ?_)
  refine Tr.seq ?_
  refine Tr.region ?_
  refine TrL.v (v_move rfl rfl) rfl rfl (bl rfl) ?_
  refine TrL.v (v_arith rfl rfl rfl ar_add_i64) rfl rfl (bl rfl) ?_
  refine TrL.v (v_assign rfl rfl) rfl rfl (bl rfl) ?_
  refine TrL.nil (qthen_n ?_)
  obtain ⟨x7, hx13, H⟩ := bnd H
  refine Tr.cutE (D := List (Int × Int × Int)) (M := Unit) .normal (fun _d => x7 = _d) (fun x7 m88 => ⟨[(0, .slice A1 n1 c1)], [arr rp_u64_u64_u64 85 A1 n1 c1 x7], [], []⟩) ?_ (fun x7 m88 hd8 => ?_)
  · refine Tr.block (Tr.loopI (ι := Unit) (step := slices_insertionSortCmpFunc_Event_s0 p2 p3) (fun s17 m70 => ⟨[(0, .slice A1 n1 c1), (1, .int .i64 p2), (2, .int .i64 p3), (3, .func (.func 89) #[] #[]), (8, .int .i64 s17.2)], [arr rp_u64_u64_u64 85 A1 n1 c1 s17.1], [], []⟩) (()) hx13 (Imp.re _ [0] [] (sc rfl (sc rfl (sc rfl (sc rfl (sc rfl sn))))) (by decide) rfl rfl rfl) (fun s17 m70 y7 hy7 hx14 => ?_))
    unfold slices_insertionSortCmpFunc_Event_s0 at hy7
    refine Tr.seq ?_
    refine Tr.seq ?_
    refine Tr.region ?_
    refine TrL.v (v_move rfl rfl) rfl rfl (bl rfl) ?_
    refine TrL.v (v_move rfl rfl) rfl rfl (bl rfl) ?_
    refine TrL.v (v_arith rfl rfl rfl ar_lss) rfl rfl (bl rfl) ?_
    refine TrL.nil (qthen_n ?_)
    rcases ifc hy7 with ⟨h81, hy7⟩ | ⟨h81, hy7⟩
    · refine Tr.cond_t rfl (bt_dec h81) ?_
      refine Tr.skip (qthen_n ?_)
      refine Tr.seq ?_
      refine Tr.block ?_
      refine Tr.seq ?_
      refine Tr.region ?_
      refine TrL.v (v_move rfl rfl) rfl rfl (bl rfl) ?_
      refine TrL.v (v_assign rfl rfl) rfl rfl (bl rfl) ?_
      refine TrL.nil (qthen_n ?_)
      obtain ⟨x8, hx15, hy7⟩ := bnd hy7
      refine Tr.cutE (D := List (Int × Int × Int)) (M := Unit) .normal (fun _d => x8 = _d) (fun x8 m100 => ⟨[(0, .slice A1 n1 c1), (1, .int .i64 p2), (2, .int .i64 p3), (3, .func (.func 89) #[] #[]), (8, .int .i64 s17.2)], [arr rp_u64_u64_u64 85 A1 n1 c1 x8], [], []⟩) ?_ (fun x8 m100 hd7 => ?_)
      · refine Tr.block (Tr.loopI (ι := Unit) (step := slices_insertionSortCmpFunc_Event_s1 p2) (fun s23 m94 => ⟨[(0, .slice A1 n1 c1), (1, .int .i64 p2), (2, .int .i64 p3), (3, .func (.func 89) #[] #[]), (8, .int .i64 s17.2), (9, .int .i64 s23.2)], [arr rp_u64_u64_u64 85 A1 n1 c1 s23.1], [], []⟩) (()) hx15 (Imp.re _ [0] [] (sc rfl (sc rfl (sc rfl (sc rfl (sc rfl (sc rfl sn)))))) (by decide) rfl rfl rfl) (fun s23 m94 y8 hy8 hx16 => ?_))
        unfold slices_insertionSortCmpFunc_Event_s1 at hy8
        refine Tr.seq ?_
        refine Tr.seq ?_
        refine Tr.regionD drawn (fun hok => ?_)
        refine TrAny.prom (i := 0) (d := 18) hok (OpVal.plain rfl rfl (v_move rfl rfl)) (by kernel_rfl) rfl (bl rfl) ?_
        clear hok
        intro hok
        refine TrAny.prom (i := 1) (d := 19) hok (OpVal.plain rfl rfl (v_move rfl rfl)) (by kernel_rfl) rfl (bl rfl) ?_
        clear hok
        intro hok
        refine TrAny.prom (i := 2) (d := 20) hok (OpVal.plain rfl rfl (v_arith rfl rfl rfl ar_gtr)) (by kernel_rfl) rfl (bl rfl) ?_
        clear hok
        intro hok
        refine TrAny.prom (i := 3) (d := 21) hok (OpVal.plain rfl rfl (v_move rfl rfl)) (by kernel_rfl) rfl (bl rfl) ?_
        clear hok
        intro hok
        rcases ifc hy8 with ⟨h95, hy8⟩ | ⟨h95, hy8⟩
        · refine TrAny.prom (i := 4) (d := 22) hok (OpVal.yes rfl rfl rfl rfl (bt_dec h95) (v_move rfl rfl)) (by kernel_rfl) rfl (bl rfl) ?_
          clear hok
          intro hok
          refine TrAny.prom (i := 5) (d := 23) hok (OpVal.yes rfl rfl rfl rfl (bt_dec h95) (v_move rfl rfl)) (by kernel_rfl) rfl (bl rfl) ?_
          clear hok
          intro hok
          refine TrAny.prom (i := 6) (d := 24) hok (OpVal.yes rfl rfl rfl rfl (bt_dec h95) (v_move rfl rfl)) (by kernel_rfl) rfl (bl rfl) ?_
          clear hok
          intro hok
          obtain ⟨z177, hz177, hy8⟩ := bnd hy8
          refine TrAny.prom (i := 7) (d := 25) hok (OpVal.yes rfl rfl rfl rfl (bt_dec h95) (v_indexA (k := 0) rfl sl71 ty85 rfl rfl rfl hz177)) (by kernel_rfl) rfl (bl rfl) ?_
          clear hok
          intro hok
          refine TrAny.prom (i := 8) (d := 26) hok (OpVal.yes rfl rfl rfl rfl (bt_dec h95) (v_loadA (A := A1) (i := s23.2) (j := 0) (k := 0) rfl ty85 nofun rfl rfl hz177 rfl rfl)) (by kernel_rfl) rfl (bl rfl) ?_
          clear hok
          intro hok
          refine TrAny.prom (i := 9) (d := 27) hok (OpVal.yes rfl rfl rfl rfl (bt_dec h95) (v_move rfl rfl)) (by kernel_rfl) rfl (bl rfl) ?_
          clear hok
          intro hok
          refine TrAny.prom (i := 10) (d := 28) hok (OpVal.yes rfl rfl rfl rfl (bt_dec h95) (v_move rfl rfl)) (by kernel_rfl) rfl (bl rfl) ?_
          clear hok
          intro hok
          refine TrAny.prom (i := 11) (d := 29) hok (OpVal.yes rfl rfl rfl rfl (bt_dec h95) (v_arith rfl rfl rfl ar_sub_i64)) (by kernel_rfl) rfl (bl rfl) ?_
          clear hok
          intro hok
          obtain ⟨z178, hz178, hy8⟩ := bnd hy8
          refine TrAny.prom (i := 12) (d := 30) hok (OpVal.yes rfl rfl rfl rfl (bt_dec h95) (v_indexA (k := 0) rfl sl71 ty85 rfl rfl rfl hz178)) (by kernel_rfl) rfl (bl rfl) ?_
          clear hok
          intro hok
          refine TrAny.prom (i := 13) (d := 31) hok (OpVal.yes rfl rfl rfl rfl (bt_dec h95) (v_loadA (A := A1) (i := (wi64 (s23.2 - 1))) (j := 0) (k := 0) rfl ty85 nofun rfl rfl hz178 rfl rfl)) (by kernel_rfl) rfl (bl rfl) ?_
          clear hok
          intro hok
          obtain ⟨r72, hr72, hy8⟩ := bnd hy8
          refine TrAny.nextY (j := 14) (by kernel_rfl) hok rfl (by kernel_rfl) rfl rfl rfl (bt_dec h95) (op_call0' (vs := [.agg #[.int .u64 z177.1, .int .u64 z177.2.1, .int .u64 z177.2.2], .agg #[.int .u64 z178.1, .int .u64 z178.2.1, .int .u64 z178.2.2]]) (cap := []) [] rfl rfl (bl rfl) rfl rfl en89 (c_buffer_Join_1 z177 z178 r72 hr72) rfl (fun ret M' F' hR72 => ?_))
          obtain ⟨rfl, rfl, rfl⟩ := hR72
          refine nxp hok (kp_imp (kp_c0 rfl)) rfl (by kernel_rfl) ?_
          clear hok
          intro hok
          refine TrAny.prom (i := 15) (d := 33) hok (OpVal.yes rfl rfl rfl rfl (bt_dec h95) (v_arith rfl rfl rfl ar_lss)) (by kernel_rfl) rfl (bl rfl) ?_
          clear hok
          intro hok
          refine TrAny.prom (i := 16) (d := 34) hok (OpVal.plain rfl rfl (v_pick_t rfl rfl (bt_dec h95) rfl)) (by kernel_rfl) rfl (bl rfl) ?_
          clear hok
          intro hok
          refine TrAny.done (by kernel_rfl) (by kernel_rfl) hok (by kernel_rfl) (qthen_n ?_)
          rcases ifc hy8 with ⟨h96, hy8⟩ | ⟨h96, hy8⟩
          · refine Tr.cond_t rfl (bt_dec h96) ?_
            refine Tr.skip (qthen_n ?_)
            refine Tr.seq ?_
            refine Tr.block ?_
            refine Tr.regionD drawn (fun hok => ?_)
            refine TrAny.prom (i := 0) (d := 37) hok (OpVal.plain rfl rfl (v_move rfl rfl)) (by kernel_rfl) rfl (bl rfl) ?_
            clear hok
            intro hok
            refine TrAny.prom (i := 1) (d := 38) hok (OpVal.plain rfl rfl (v_move rfl rfl)) (by kernel_rfl) rfl (bl rfl) ?_
            clear hok
            intro hok
            refine TrAny.prom (i := 2) (d := 39) hok (OpVal.plain rfl rfl (v_move rfl rfl)) (by kernel_rfl) rfl (bl rfl) ?_
            clear hok
            intro hok
            refine TrAny.prom (i := 3) (d := 40) hok (OpVal.plain rfl rfl (v_move rfl rfl)) (by kernel_rfl) rfl (bl rfl) ?_
            clear hok
            intro hok
            refine TrAny.prom (i := 4) (d := 41) hok (OpVal.plain rfl rfl (v_arith rfl rfl rfl ar_sub_i64)) (by kernel_rfl) rfl (bl rfl) ?_
            clear hok
            intro hok
            refine TrAny.prom (i := 5) (d := 42) hok (OpVal.plain rfl rfl (v_move rfl rfl)) (by kernel_rfl) rfl (bl rfl) ?_
            clear hok
            intro hok
            refine TrAny.prom (i := 6) (d := 43) hok (OpVal.plain rfl rfl (v_move rfl rfl)) (by kernel_rfl) rfl (bl rfl) ?_
            clear hok
            intro hok
            refine TrAny.prom (i := 7) (d := 44) hok (OpVal.plain rfl rfl (v_arith rfl rfl rfl ar_sub_i64)) (by kernel_rfl) rfl (bl rfl) ?_
            clear hok
            intro hok
            refine TrAny.prom (i := 8) (d := 45) hok (OpVal.plain rfl rfl (v_indexA (k := 0) rfl sl71 ty85 rfl rfl rfl hz178)) (by kernel_rfl) rfl (bl rfl) ?_
            clear hok
            intro hok
            refine TrAny.prom (i := 9) (d := 46) hok (OpVal.plain rfl rfl (v_loadA (A := A1) (i := (wi64 (s23.2 - 1))) (j := 0) (k := 0) rfl ty85 nofun rfl rfl hz178 rfl rfl)) (by kernel_rfl) rfl (bl rfl) ?_
            clear hok
            intro hok
            refine TrAny.prom (i := 10) (d := 47) hok (OpVal.plain rfl rfl (v_move rfl rfl)) (by kernel_rfl) rfl (bl rfl) ?_
            clear hok
            intro hok
            refine TrAny.prom (i := 11) (d := 48) hok (OpVal.plain rfl rfl (v_move rfl rfl)) (by kernel_rfl) rfl (bl rfl) ?_
            clear hok
            intro hok
            refine TrAny.prom (i := 12) (d := 49) hok (OpVal.plain rfl rfl (v_indexA (k := 0) rfl sl71 ty85 rfl rfl rfl hz177)) (by kernel_rfl) rfl (bl rfl) ?_
            clear hok
            intro hok
            refine TrAny.prom (i := 13) (d := 50) hok (OpVal.plain rfl rfl (v_loadA (A := A1) (i := s23.2) (j := 0) (k := 0) rfl ty85 nofun rfl rfl hz177 rfl rfl)) (by kernel_rfl) rfl (bl rfl) ?_
            clear hok
            intro hok
            refine TrAny.prom (i := 14) (d := 51) hok (OpVal.plain rfl rfl (v_indexA (k := 0) rfl sl71 ty85 rfl rfl rfl hz177)) (by kernel_rfl) rfl (bl rfl) ?_
            clear hok
            intro hok
            refine TrAny.prom (i := 16) (d := 52) hok (OpVal.plain rfl rfl (v_indexA (k := 0) rfl sl71 ty85 rfl rfl rfl hz178)) (by kernel_rfl) rfl (bl rfl) ?_
            clear hok
            intro hok
            refine TrAny.next (j := 15) (by kernel_rfl) hok rfl (by kernel_rfl) (op_storeAS (A := A1) (i := s23.2) (j := 0) (k := 0) (z' := z178) rfl rfl rfl rfl rfl ty85 rfl hz177 (Nat.le_of_ble_eq_true rfl) (ones (oc rfl (oc rfl (oc rfl on)))) rfl ?_)
            refine nxs hok (kp_allE [(0, 37, .slice A1 n1 c1), (1, 38, .int .i64 s23.2), (2, 39, .slice A1 n1 c1), (3, 40, .int .i64 s23.2), (4, 41, .int .i64 (wi64 (s23.2 - 1))), (5, 42, .slice A1 n1 c1), (6, 43, .int .i64 s23.2), (7, 44, .int .i64 (wi64 (s23.2 - 1))), (8, 45, .pointer (some ⟨ablk A1, aoff A1 + (wi64 (s23.2 - 1)).toNat * 3, none⟩)), (9, 46, .agg #[.int .u64 z178.1, .int .u64 z178.2.1, .int .u64 z178.2.2]), (10, 47, .slice A1 n1 c1), (11, 48, .int .i64 s23.2), (12, 49, .pointer (some ⟨ablk A1, aoff A1 + (s23.2).toNat * 3, none⟩)), (13, 50, .agg #[.int .u64 z177.1, .int .u64 z177.2.1, .int .u64 z177.2.2]), (14, 51, .pointer (some ⟨ablk A1, aoff A1 + (s23.2).toNat * 3, none⟩)), (16, 52, .pointer (some ⟨ablk A1, aoff A1 + (wi64 (s23.2 - 1)).toNat * 3, none⟩))] (by kernel_rfl) (ac (.inl (by kernel_rfl)) (ac (.inl (by kernel_rfl)) (ac (.inr (OpVal.plain rfl rfl (v_move rfl rfl))) (ac (.inr (OpVal.plain rfl rfl (v_move rfl rfl))) (ac (.inr (OpVal.plain rfl rfl (v_arith rfl rfl rfl ar_sub_i64))) (ac (.inl (by kernel_rfl)) (ac (.inl (by kernel_rfl)) (ac (.inl (by kernel_rfl)) (ac (.inl (by kernel_rfl)) (ac (.inl (by kernel_rfl)) (ac (.inr (OpVal.plain rfl rfl (v_move rfl rfl))) (ac (.inr (OpVal.plain rfl rfl (v_move rfl rfl))) (ac (.inr (OpVal.plain rfl rfl (v_indexAb (k := 0) rfl sl71 ty85 rfl rfl rfl (rdo_some hz177).1 (by simp only [List.length_set]; exact (rdo_some hz177).2.1)))) (ac (.inl (by kernel_rfl)) (ac (.inl (by kernel_rfl)) (ac (.inr (OpVal.plain rfl rfl (v_indexAb (k := 0) rfl sl71 ty85 rfl rfl rfl (rdo_some hz178).1 (by simp only [List.length_set]; exact (rdo_some hz178).2.1)))) an))))))))))))))))) rfl ?_
            clear hok
            intro hok
            obtain ⟨z180, hz180, hy8⟩ := bnd hy8
            refine TrAny.next (j := 17) (by kernel_rfl) hok rfl (by kernel_rfl) (op_storeAS (A := A1) (i := (wi64 (s23.2 - 1))) (j := 0) (k := 0) (z' := z177) rfl rfl rfl rfl rfl ty85 rfl hz180 (Nat.le_of_ble_eq_true rfl) (ones (oc rfl (oc rfl (oc rfl on)))) rfl ?_)
            refine nxs hok (kp_aw (by kernel_rfl)) rfl ?_
            clear hok
            intro hok
            refine TrAny.done (by kernel_rfl) (by kernel_rfl) hok (by kernel_rfl) (qblock_n (qthen_n ?_))
            refine Tr.region ?_
            refine TrL.v (v_move rfl rfl) rfl rfl (bl rfl) ?_
            refine TrL.v (v_arith rfl rfl rfl ar_sub_i64) rfl rfl (bl rfl) ?_
            refine TrL.v (v_assign rfl rfl) rfl rfl (bl rfl) ?_
            have hz := Option.some.inj hy8
            subst hz
            refine TrL.nil (qloop_n (()) (Imp.re _ [0] [] (sc rfl (sc rfl (sc rfl (sc rfl (sc rfl (sc rfl sn)))))) (by decide) rfl rfl rfl))
          · refine Tr.cond_f rfl (bf_dec h96) ?_
            have hz := Option.some.inj hy8
            subst hz
            refine Tr.exit (qthen_x (qloop_x (qblock_hit (qcut_hit s23.1 (()) (hx16 _ rfl).symm (Imp.re _ [0] [] (sc rfl (sc rfl (sc rfl (sc rfl (sc rfl sn))))) (by decide) rfl rfl rfl)))))
        · refine TrAny.prom (i := 4) (d := 22) hok (OpVal.no rfl (fun c h => by cases h) rfl rfl rfl (gn_t (bf_dec h95))) (by kernel_rfl) rfl (bl rfl) ?_
          clear hok
          intro hok
          refine TrAny.prom (i := 5) (d := 23) hok (OpVal.no rfl (fun c h => by cases h) rfl rfl rfl (gn_t (bf_dec h95))) (by kernel_rfl) rfl (bl rfl) ?_
          clear hok
          intro hok
          refine TrAny.prom (i := 6) (d := 24) hok (OpVal.no rfl (fun c h => by cases h) rfl rfl rfl (gn_t (bf_dec h95))) (by kernel_rfl) rfl (bl rfl) ?_
          clear hok
          intro hok
          refine TrAny.prom (i := 7) (d := 25) hok (OpVal.no rfl (fun c h => by cases h) rfl rfl rfl (gn_t (bf_dec h95))) (by kernel_rfl) rfl (bl rfl) ?_
          clear hok
          intro hok
          refine TrAny.prom (i := 8) (d := 26) hok (OpVal.no rfl (fun c h => by cases h) rfl rfl rfl (gn_t (bf_dec h95))) (by kernel_rfl) rfl (bl rfl) ?_
          clear hok
          intro hok
          refine TrAny.prom (i := 9) (d := 27) hok (OpVal.no rfl (fun c h => by cases h) rfl rfl rfl (gn_t (bf_dec h95))) (by kernel_rfl) rfl (bl rfl) ?_
          clear hok
          intro hok
          refine TrAny.prom (i := 10) (d := 28) hok (OpVal.no rfl (fun c h => by cases h) rfl rfl rfl (gn_t (bf_dec h95))) (by kernel_rfl) rfl (bl rfl) ?_
          clear hok
          intro hok
          refine TrAny.prom (i := 11) (d := 29) hok (OpVal.no rfl (fun c h => by cases h) rfl rfl rfl (gn_t (bf_dec h95))) (by kernel_rfl) rfl (bl rfl) ?_
          clear hok
          intro hok
          refine TrAny.prom (i := 12) (d := 30) hok (OpVal.no rfl (fun c h => by cases h) rfl rfl rfl (gn_t (bf_dec h95))) (by kernel_rfl) rfl (bl rfl) ?_
          clear hok
          intro hok
          refine TrAny.prom (i := 13) (d := 31) hok (OpVal.no rfl (fun c h => by cases h) rfl rfl rfl (gn_t (bf_dec h95))) (by kernel_rfl) rfl (bl rfl) ?_
          clear hok
          intro hok
          refine TrAny.prom (i := 14) (d := 32) hok (OpVal.no rfl (fun c h => by cases h) rfl rfl rfl (gn_t (bf_dec h95))) (by kernel_rfl) rfl (bl rfl) ?_
          clear hok
          intro hok
          refine TrAny.prom (i := 15) (d := 33) hok (OpVal.no rfl (fun c h => by cases h) rfl rfl rfl (gn_t (bf_dec h95))) (by kernel_rfl) rfl (bl rfl) ?_
          clear hok
          intro hok
          refine TrAny.prom (i := 16) (d := 34) hok (OpVal.plain rfl rfl (v_pick_f rfl rfl (bf_dec h95) rfl)) (by kernel_rfl) rfl (bl rfl) ?_
          clear hok
          intro hok
          refine TrAny.done (by kernel_rfl) (by kernel_rfl) hok (by kernel_rfl) (qthen_n ?_)
          refine Tr.cond_f rfl rfl ?_
          have hz := Option.some.inj hy8
          subst hz
          refine Tr.exit (qthen_x (qloop_x (qblock_hit (qcut_hit s23.1 (()) (hx16 _ rfl).symm (Imp.re _ [0] [] (sc rfl (sc rfl (sc rfl (sc rfl (sc rfl sn))))) (by decide) rfl rfl rfl)))))
      · subst hd7
        refine (qblock_n (qthen_n ?_))
        refine Tr.region ?_
        refine TrL.v (v_move rfl rfl) rfl rfl (bl rfl) ?_
        refine TrL.v (v_arith rfl rfl rfl ar_add_i64) rfl rfl (bl rfl) ?_
        refine TrL.v (v_assign rfl rfl) rfl rfl (bl rfl) ?_
        have hz := Option.some.inj hy7
        subst hz
        refine TrL.nil (qloop_n (()) (Imp.re _ [0] [] (sc rfl (sc rfl (sc rfl (sc rfl (sc rfl sn))))) (by decide) rfl rfl rfl))
    · refine Tr.cond_f rfl (bf_dec h81) ?_
      have hz := Option.some.inj hy7
      subst hz
      refine Tr.exit (qthen_x (qloop_x (qblock_hit (qcut_hit s17.1 (()) (hx14 _ rfl).symm (Imp.re _ [0] [] (sc rfl sn) (by decide) rfl rfl rfl)))))
  · subst hd8
    have hz := Option.some.inj H
    subst hz
    refine (ret_n ⟨[], [arr rp_u64_u64_u64 85 A1 n1 c1 x7], [], []⟩ [] [arr rp_u64_u64_u64 85 A1 n1 c1 x7] [] (Imp.re _ [0] [] sn (by decide) rfl rfl rfl) rfl rfl ⟨rfl, rfl, rfl⟩ .nil)

theorem c_slices_swapRangeCmpFunc_Event (p1 : List (Int × Int × Int)) (p2 : Int) (p3 : Int) (p4 : Int) (A1 : Option Addr) (c1 : Nat) (n1 : Nat) (r : List (Int × Int × Int)) (H : slices_swapRangeCmpFunc_Event p1 p2 p3 p4 = some r) :
    Ctr Try.prog 188 [.slice A1 n1 c1, .int .i64 p2, .int .i64 p3, .int .i64 p4, .func (.func 89) #[] #[]] [arr rp_u64_u64_u64 85 A1 n1 c1 p1] [] (fun ret M' F' => ret = ret1 [] ∧ M' = [arr rp_u64_u64_u64 85 A1 n1 c1 r] ∧ F' = []) := by
  unfold slices_swapRangeCmpFunc_Event at H
  refine ctr_ofI (N := 38) Try.func188 rfl Try.ntmps188 rfl (Nat.le_of_ble_eq_true rfl) (fun γ0 w0 => ?_)
  refine Tr.seq ?_
  refine Tr.region ?_
  refine TrL.v (v_assign rfl rfl) rfl rfl (bl rfl) ?_
  refine TrL.nil (qthen_n ?_)
  obtain ⟨x2, hx3, H⟩ := bnd H
  refine Tr.cutE (D := List (Int × Int × Int)) (M := Unit) .normal (fun _d => x2 = _d) (fun x2 m8 => ⟨[(0, .slice A1 n1 c1)], [arr rp_u64_u64_u64 85 A1 n1 c1 x2], [], []⟩) ?_ (fun x2 m8 hd2 => ?_)
  · refine Tr.block (Tr.loopI (ι := Unit) (step := slices_swapRangeCmpFunc_Event_s0 p2 p3 p4) (fun s5 m6 => ⟨[(0, .slice A1 n1 c1), (1, .int .i64 p2), (2, .int .i64 p3), (3, .int .i64 p4), (10, .int .i64 s5.2)], [arr rp_u64_u64_u64 85 A1 n1 c1 s5.1], [], []⟩) (()) hx3 (Imp.re _ [0] [] (sc rfl (sc rfl (sc rfl (sc rfl (sc rfl sn))))) (by decide) rfl rfl rfl) (fun s5 m6 y2 hy2 hx4 => ?_))
    unfold slices_swapRangeCmpFunc_Event_s0 at hy2
    refine Tr.seq ?_
    refine Tr.seq ?_
    refine Tr.region ?_
    refine TrL.v (v_move rfl rfl) rfl rfl (bl rfl) ?_
    refine TrL.v (v_move rfl rfl) rfl rfl (bl rfl) ?_
    refine TrL.v (v_arith rfl rfl rfl ar_lss) rfl rfl (bl rfl) ?_
    refine TrL.nil (qthen_n ?_)
    rcases ifc hy2 with ⟨h6, hy2⟩ | ⟨h6, hy2⟩
    · refine Tr.cond_t rfl (bt_dec h6) ?_
      refine Tr.skip (qthen_n ?_)
      refine Tr.seq ?_
      refine Tr.block ?_
      refine Tr.regionD drawn (fun hok => ?_)
      refine TrAny.prom (i := 0) (d := 16) hok (OpVal.plain rfl rfl (v_move rfl rfl)) (by kernel_rfl) rfl (bl rfl) ?_
      clear hok
      intro hok
      refine TrAny.prom (i := 1) (d := 17) hok (OpVal.plain rfl rfl (v_move rfl rfl)) (by kernel_rfl) rfl (bl rfl) ?_
      clear hok
      intro hok
      refine TrAny.prom (i := 2) (d := 18) hok (OpVal.plain rfl rfl (v_move rfl rfl)) (by kernel_rfl) rfl (bl rfl) ?_
      clear hok
      intro hok
      refine TrAny.prom (i := 3) (d := 19) hok (OpVal.plain rfl rfl (v_arith rfl rfl rfl ar_add_i64)) (by kernel_rfl) rfl (bl rfl) ?_
      clear hok
      intro hok
      refine TrAny.prom (i := 4) (d := 20) hok (OpVal.plain rfl rfl (v_move rfl rfl)) (by kernel_rfl) rfl (bl rfl) ?_
      clear hok
      intro hok
      refine TrAny.prom (i := 5) (d := 21) hok (OpVal.plain rfl rfl (v_move rfl rfl)) (by kernel_rfl) rfl (bl rfl) ?_
      clear hok
      intro hok
      refine TrAny.prom (i := 6) (d := 22) hok (OpVal.plain rfl rfl (v_move rfl rfl)) (by kernel_rfl) rfl (bl rfl) ?_
      clear hok
      intro hok
      refine TrAny.prom (i := 7) (d := 23) hok (OpVal.plain rfl rfl (v_arith rfl rfl rfl ar_add_i64)) (by kernel_rfl) rfl (bl rfl) ?_
      clear hok
      intro hok
      refine TrAny.prom (i := 8) (d := 24) hok (OpVal.plain rfl rfl (v_move rfl rfl)) (by kernel_rfl) rfl (bl rfl) ?_
      clear hok
      intro hok
      refine TrAny.prom (i := 9) (d := 25) hok (OpVal.plain rfl rfl (v_move rfl rfl)) (by kernel_rfl) rfl (bl rfl) ?_
      clear hok
      intro hok
      refine TrAny.prom (i := 10) (d := 26) hok (OpVal.plain rfl rfl (v_move rfl rfl)) (by kernel_rfl) rfl (bl rfl) ?_
      clear hok
      intro hok
      refine TrAny.prom (i := 11) (d := 27) hok (OpVal.plain rfl rfl (v_arith rfl rfl rfl ar_add_i64)) (by kernel_rfl) rfl (bl rfl) ?_
      clear hok
      intro hok
      obtain ⟨z34, hz34, hy2⟩ := bnd hy2
      refine TrAny.prom (i := 12) (d := 28) hok (OpVal.plain rfl rfl (v_indexA (k := 0) rfl sl71 ty85 rfl rfl rfl hz34)) (by kernel_rfl) rfl (bl rfl) ?_
      clear hok
      intro hok
      refine TrAny.prom (i := 13) (d := 29) hok (OpVal.plain rfl rfl (v_loadA (A := A1) (i := (wi64 (p3 + s5.2))) (j := 0) (k := 0) rfl ty85 nofun rfl rfl hz34 rfl rfl)) (by kernel_rfl) rfl (bl rfl) ?_
      clear hok
      intro hok
      refine TrAny.prom (i := 14) (d := 30) hok (OpVal.plain rfl rfl (v_move rfl rfl)) (by kernel_rfl) rfl (bl rfl) ?_
      clear hok
      intro hok
      refine TrAny.prom (i := 15) (d := 31) hok (OpVal.plain rfl rfl (v_move rfl rfl)) (by kernel_rfl) rfl (bl rfl) ?_
      clear hok
      intro hok
      refine TrAny.prom (i := 16) (d := 32) hok (OpVal.plain rfl rfl (v_move rfl rfl)) (by kernel_rfl) rfl (bl rfl) ?_
      clear hok
      intro hok
      refine TrAny.prom (i := 17) (d := 33) hok (OpVal.plain rfl rfl (v_arith rfl rfl rfl ar_add_i64)) (by kernel_rfl) rfl (bl rfl) ?_
      clear hok
      intro hok
      obtain ⟨z35, hz35, hy2⟩ := bnd hy2
      refine TrAny.prom (i := 18) (d := 34) hok (OpVal.plain rfl rfl (v_indexA (k := 0) rfl sl71 ty85 rfl rfl rfl hz35)) (by kernel_rfl) rfl (bl rfl) ?_
      clear hok
      intro hok
      refine TrAny.prom (i := 19) (d := 35) hok (OpVal.plain rfl rfl (v_loadA (A := A1) (i := (wi64 (p2 + s5.2))) (j := 0) (k := 0) rfl ty85 nofun rfl rfl hz35 rfl rfl)) (by kernel_rfl) rfl (bl rfl) ?_
      clear hok
      intro hok
      refine TrAny.prom (i := 20) (d := 36) hok (OpVal.plain rfl rfl (v_indexA (k := 0) rfl sl71 ty85 rfl rfl rfl hz35)) (by kernel_rfl) rfl (bl rfl) ?_
      clear hok
      intro hok
      refine TrAny.prom (i := 22) (d := 37) hok (OpVal.plain rfl rfl (v_indexA (k := 0) rfl sl71 ty85 rfl rfl rfl hz34)) (by kernel_rfl) rfl (bl rfl) ?_
      clear hok
      intro hok
      refine TrAny.next (j := 21) (by kernel_rfl) hok rfl (by kernel_rfl) (op_storeAS (A := A1) (i := (wi64 (p2 + s5.2))) (j := 0) (k := 0) (z' := z34) rfl rfl rfl rfl rfl ty85 rfl hz35 (Nat.le_of_ble_eq_true rfl) (ones (oc rfl (oc rfl (oc rfl on)))) rfl ?_)
      refine nxs hok (kp_allE [(0, 16, .slice A1 n1 c1), (1, 17, .int .i64 p2), (2, 18, .int .i64 s5.2), (3, 19, .int .i64 (wi64 (p2 + s5.2))), (4, 20, .slice A1 n1 c1), (5, 21, .int .i64 p3), (6, 22, .int .i64 s5.2), (7, 23, .int .i64 (wi64 (p3 + s5.2))), (8, 24, .slice A1 n1 c1), (9, 25, .int .i64 p3), (10, 26, .int .i64 s5.2), (11, 27, .int .i64 (wi64 (p3 + s5.2))), (12, 28, .pointer (some ⟨ablk A1, aoff A1 + (wi64 (p3 + s5.2)).toNat * 3, none⟩)), (13, 29, .agg #[.int .u64 z34.1, .int .u64 z34.2.1, .int .u64 z34.2.2]), (14, 30, .slice A1 n1 c1), (15, 31, .int .i64 p2), (16, 32, .int .i64 s5.2), (17, 33, .int .i64 (wi64 (p2 + s5.2))), (18, 34, .pointer (some ⟨ablk A1, aoff A1 + (wi64 (p2 + s5.2)).toNat * 3, none⟩)), (19, 35, .agg #[.int .u64 z35.1, .int .u64 z35.2.1, .int .u64 z35.2.2]), (20, 36, .pointer (some ⟨ablk A1, aoff A1 + (wi64 (p2 + s5.2)).toNat * 3, none⟩)), (22, 37, .pointer (some ⟨ablk A1, aoff A1 + (wi64 (p3 + s5.2)).toNat * 3, none⟩))] (by kernel_rfl) (ac (.inl (by kernel_rfl)) (ac (.inl (by kernel_rfl)) (ac (.inl (by kernel_rfl)) (ac (.inl (by kernel_rfl)) (ac (.inr (OpVal.plain rfl rfl (v_move rfl rfl))) (ac (.inr (OpVal.plain rfl rfl (v_move rfl rfl))) (ac (.inr (OpVal.plain rfl rfl (v_move rfl rfl))) (ac (.inr (OpVal.plain rfl rfl (v_arith rfl rfl rfl ar_add_i64))) (ac (.inl (by kernel_rfl)) (ac (.inl (by kernel_rfl)) (ac (.inl (by kernel_rfl)) (ac (.inl (by kernel_rfl)) (ac (.inl (by kernel_rfl)) (ac (.inl (by kernel_rfl)) (ac (.inr (OpVal.plain rfl rfl (v_move rfl rfl))) (ac (.inr (OpVal.plain rfl rfl (v_move rfl rfl))) (ac (.inr (OpVal.plain rfl rfl (v_move rfl rfl))) (ac (.inr (OpVal.plain rfl rfl (v_arith rfl rfl rfl ar_add_i64))) (ac (.inr (OpVal.plain rfl rfl (v_indexAb (k := 0) rfl sl71 ty85 rfl rfl rfl (rdo_some hz35).1 (by simp only [List.length_set]; exact (rdo_some hz35).2.1)))) (ac (.inl (by kernel_rfl)) (ac (.inl (by kernel_rfl)) (ac (.inr (OpVal.plain rfl rfl (v_indexAb (k := 0) rfl sl71 ty85 rfl rfl rfl (rdo_some hz34).1 (by simp only [List.length_set]; exact (rdo_some hz34).2.1)))) an))))))))))))))))))))))) rfl ?_
      clear hok
      intro hok
      obtain ⟨z36, hz36, hy2⟩ := bnd hy2
      refine TrAny.next (j := 23) (by kernel_rfl) hok rfl (by kernel_rfl) (op_storeAS (A := A1) (i := (wi64 (p3 + s5.2))) (j := 0) (k := 0) (z' := z35) rfl rfl rfl rfl rfl ty85 rfl hz36 (Nat.le_of_ble_eq_true rfl) (ones (oc rfl (oc rfl (oc rfl on)))) rfl ?_)
      refine nxs hok (kp_aw (by kernel_rfl)) rfl ?_
      clear hok
      intro hok
      refine TrAny.done (by kernel_rfl) (by kernel_rfl) hok (by kernel_rfl) (qblock_n (qthen_n ?_))
      refine Tr.region ?_
      refine TrL.v (v_move rfl rfl) rfl rfl (bl rfl) ?_
      refine TrL.v (v_arith rfl rfl rfl ar_add_i64) rfl rfl (bl rfl) ?_
      refine TrL.v (v_assign rfl rfl) rfl rfl (bl rfl) ?_
      have hz := Option.some.inj hy2
      subst hz
      refine TrL.nil (qloop_n (()) (Imp.re _ [0] [] (sc rfl (sc rfl (sc rfl (sc rfl (sc rfl sn))))) (by decide) rfl rfl rfl))
    · refine Tr.cond_f rfl (bf_dec h6) ?_
      have hz := Option.some.inj hy2
      subst hz
      refine Tr.exit (qthen_x (qloop_x (qblock_hit (qcut_hit s5.1 (()) (hx4 _ rfl).symm (Imp.re _ [0] [] (sc rfl sn) (by decide) rfl rfl rfl)))))
  · subst hd2
    have hz := Option.some.inj H
    subst hz
    refine (ret_n ⟨[], [arr rp_u64_u64_u64 85 A1 n1 c1 x2], [], []⟩ [] [arr rp_u64_u64_u64 85 A1 n1 c1 x2] [] (Imp.re _ [0] [] sn (by decide) rfl rfl rfl) rfl rfl ⟨rfl, rfl, rfl⟩ .nil)

theorem c_slices_rotateCmpFunc_Event (p1 : List (Int × Int × Int)) (p2 : Int) (p3 : Int) (p4 : Int) (A1 : Option Addr) (c1 : Nat) (n1 : Nat) (r : List (Int × Int × Int)) (H : slices_rotateCmpFunc_Event p1 p2 p3 p4 = some r) :
    Ctr Try.prog 185 [.slice A1 n1 c1, .int .i64 p2, .int .i64 p3, .int .i64 p4, .func (.func 89) #[] #[]] [arr rp_u64_u64_u64 85 A1 n1 c1 p1] [] (fun ret M' F' => ret = ret1 [] ∧ M' = [arr rp_u64_u64_u64 85 A1 n1 c1 r] ∧ F' = []) := by
  unfold slices_rotateCmpFunc_Event at H
  refine ctr_ofI (N := 58) Try.func185 rfl Try.ntmps185 rfl (Nat.le_of_ble_eq_true rfl) (fun γ0 w0 => ?_)
  refine Tr.seq ?_
  refine Tr.region ?_
  refine TrL.v (v_move rfl rfl) rfl rfl (bl rfl) ?_
  refine TrL.v (v_move rfl rfl) rfl rfl (bl rfl) ?_
  refine TrL.v (v_arith rfl rfl rfl ar_sub_i64) rfl rfl (bl rfl) ?_
  refine TrL.v (v_assign rfl rfl) rfl rfl (bl rfl) ?_
  refine TrL.nil (qthen_n ?_)
  refine Tr.seq ?_
  refine Tr.region ?_
  refine TrL.v (v_move rfl rfl) rfl rfl (bl rfl) ?_
  refine TrL.v (v_move rfl rfl) rfl rfl (bl rfl) ?_
  refine TrL.v (v_arith rfl rfl rfl ar_sub_i64) rfl rfl (bl rfl) ?_
  refine TrL.v (v_assign rfl rfl) rfl rfl (bl rfl) ?_
  refine TrL.nil (qthen_n ?_)
  refine Tr.seq ?_
  obtain ⟨x2, hx3, H⟩ := bnd H
  refine Tr.cutE (D := (List (Int × Int × Int)) × Int) (M := Unit) .normal (fun _d => x2 = _d) (fun x2 m19 => ⟨[(0, .slice A1 n1 c1), (2, .int .i64 p3), (4, .func (.func 89) #[] #[]), (10, .int .i64 x2.2)], [arr rp_u64_u64_u64 85 A1 n1 c1 x2.1], [], []⟩) ?_ (fun x2 m19 hd2 => ?_)
  · refine Tr.block (Tr.loopI (ι := Unit) (step := slices_rotateCmpFunc_Event_s0 p3) (fun s5 m15 => ⟨[(0, .slice A1 n1 c1), (2, .int .i64 p3), (4, .func (.func 89) #[] #[]), (10, .int .i64 s5.2.1), (11, .int .i64 s5.2.2)], [arr rp_u64_u64_u64 85 A1 n1 c1 s5.1], [], []⟩) (()) hx3 (Imp.re _ [0] [] (sc rfl (sc rfl (sc rfl (sc rfl (sc rfl sn))))) (by decide) rfl rfl rfl) (fun s5 m15 y2 hy2 hx4 => ?_))
    unfold slices_rotateCmpFunc_Event_s0 at hy2
    refine Tr.seq ?_
    refine Tr.seq ?_
    refine Tr.region ?_
    refine TrL.v (v_move rfl rfl) rfl rfl (bl rfl) ?_
    refine TrL.v (v_move rfl rfl) rfl rfl (bl rfl) ?_
    refine TrL.v (v_arith rfl rfl rfl ar_neq) rfl rfl (bl rfl) ?_
    refine TrL.nil (qthen_n ?_)
    rcases ifc hy2 with ⟨h11, hy2⟩ | ⟨h11, hy2⟩
    · refine Tr.cond_t rfl (bt_dec h11) ?_
      refine Tr.skip (qthen_n ?_)
      refine Tr.block ?_
      refine Tr.seq ?_
      refine Tr.region ?_
      refine TrL.v (v_move rfl rfl) rfl rfl (bl rfl) ?_
      refine TrL.v (v_move rfl rfl) rfl rfl (bl rfl) ?_
      refine TrL.v (v_arith rfl rfl rfl ar_gtr) rfl rfl (bl rfl) ?_
      refine TrL.nil (qthen_n ?_)
      rcases ifc hy2 with ⟨h12, hy2⟩ | ⟨h12, hy2⟩
      · refine Tr.cond_t rfl (bt_dec h12) ?_
        refine Tr.seq ?_
        refine Tr.region ?_
        refine TrL.v (v_move rfl rfl) rfl rfl (bl rfl) ?_
        refine TrL.v (v_move rfl rfl) rfl rfl (bl rfl) ?_
        refine TrL.v (v_move rfl rfl) rfl rfl (bl rfl) ?_
        refine TrL.v (v_arith rfl rfl rfl ar_sub_i64) rfl rfl (bl rfl) ?_
        refine TrL.v (v_move rfl rfl) rfl rfl (bl rfl) ?_
        refine TrL.v (v_move rfl rfl) rfl rfl (bl rfl) ?_
        refine TrL.v (v_move rfl rfl) rfl rfl (bl rfl) ?_
        obtain ⟨r12, hr12, hy2⟩ := bnd hy2
        refine TrL.cons rfl (op_callg' (fs := []) (vs := [.slice A1 n1 c1, .int .i64 (wi64 (p3 - s5.2.1)), .int .i64 p3, .int .i64 s5.2.2, .func (.func 89) #[] #[]]) (cap := []) (Mr := []) [0] [] [] rfl rfl rfl en188 (c_slices_swapRangeCmpFunc_Event s5.1 (wi64 (p3 - s5.2.1)) p3 s5.2.2 A1 c1 n1 r12 hr12) (by decide) rfl rfl rfl (bl rfl) (fun ret M' F' hR12 => ?_))
        obtain ⟨rfl, rfl, rfl⟩ := hR12
        refine TrL.nil (qthen_n ?_)
        refine Tr.region ?_
        refine TrL.v (v_move rfl rfl) rfl rfl (bl rfl) ?_
        refine TrL.v (v_move rfl rfl) rfl rfl (bl rfl) ?_
        refine TrL.v (v_arith rfl rfl rfl ar_sub_i64) rfl rfl (bl rfl) ?_
        refine TrL.v (v_assign rfl rfl) rfl rfl (bl rfl) ?_
        have hz := Option.some.inj hy2
        subst hz
        refine TrL.nil (qblock_n (qloop_n (()) (Imp.re _ [0] [] (sc rfl (sc rfl (sc rfl (sc rfl (sc rfl sn))))) (by decide) rfl rfl rfl)))
      · refine Tr.cond_f rfl (bf_dec h12) ?_
        refine Tr.seq ?_
        refine Tr.region ?_
        refine TrL.v (v_move rfl rfl) rfl rfl (bl rfl) ?_
        refine TrL.v (v_move rfl rfl) rfl rfl (bl rfl) ?_
        refine TrL.v (v_move rfl rfl) rfl rfl (bl rfl) ?_
        refine TrL.v (v_arith rfl rfl rfl ar_sub_i64) rfl rfl (bl rfl) ?_
        refine TrL.v (v_move rfl rfl) rfl rfl (bl rfl) ?_
        refine TrL.v (v_move rfl rfl) rfl rfl (bl rfl) ?_
        refine TrL.v (v_arith rfl rfl rfl ar_add_i64) rfl rfl (bl rfl) ?_
        refine TrL.v (v_move rfl rfl) rfl rfl (bl rfl) ?_
        refine TrL.v (v_arith rfl rfl rfl ar_sub_i64) rfl rfl (bl rfl) ?_
        refine TrL.v (v_move rfl rfl) rfl rfl (bl rfl) ?_
        refine TrL.v (v_move rfl rfl) rfl rfl (bl rfl) ?_
        obtain ⟨r13, hr13, hy2⟩ := bnd hy2
        refine TrL.cons rfl (op_callg' (fs := []) (vs := [.slice A1 n1 c1, .int .i64 (wi64 (p3 - s5.2.1)), .int .i64 (wi64 ((wi64 (p3 + s5.2.2)) - s5.2.1)), .int .i64 s5.2.1, .func (.func 89) #[] #[]]) (cap := []) (Mr := []) [0] [] [] rfl rfl rfl en188 (c_slices_swapRangeCmpFunc_Event s5.1 (wi64 (p3 - s5.2.1)) (wi64 ((wi64 (p3 + s5.2.2)) - s5.2.1)) s5.2.1 A1 c1 n1 r13 hr13) (by decide) rfl rfl rfl (bl rfl) (fun ret M' F' hR13 => ?_))
        obtain ⟨rfl, rfl, rfl⟩ := hR13
        refine TrL.nil (qthen_n ?_)
        refine Tr.region ?_
        refine TrL.v (v_move rfl rfl) rfl rfl (bl rfl) ?_
        refine TrL.v (v_move rfl rfl) rfl rfl (bl rfl) ?_
        refine TrL.v (v_arith rfl rfl rfl ar_sub_i64) rfl rfl (bl rfl) ?_
        refine TrL.v (v_assign rfl rfl) rfl rfl (bl rfl) ?_
        have hz := Option.some.inj hy2
        subst hz
        refine TrL.nil (qblock_n (qloop_n (()) (Imp.re _ [0] [] (sc rfl (sc rfl (sc rfl (sc rfl (sc rfl sn))))) (by decide) rfl rfl rfl)))
    · refine Tr.cond_f rfl (bf_dec h11) ?_
      have hz := Option.some.inj hy2
      subst hz
      refine Tr.exit (qthen_x (qloop_x (qblock_hit (qcut_hit ((s5.1, s5.2.1)) (()) (hx4 _ rfl).symm (Imp.re _ [0] [] (sc rfl (sc rfl (sc rfl (sc rfl sn)))) (by decide) rfl rfl rfl)))))
  · subst hd2
    refine (qthen_n ?_)
    refine Tr.region ?_
    refine TrL.v (v_move rfl rfl) rfl rfl (bl rfl) ?_
    refine TrL.v (v_move rfl rfl) rfl rfl (bl rfl) ?_
    refine TrL.v (v_move rfl rfl) rfl rfl (bl rfl) ?_
    refine TrL.v (v_arith rfl rfl rfl ar_sub_i64) rfl rfl (bl rfl) ?_
    refine TrL.v (v_move rfl rfl) rfl rfl (bl rfl) ?_
    refine TrL.v (v_move rfl rfl) rfl rfl (bl rfl) ?_
    refine TrL.v (v_move rfl rfl) rfl rfl (bl rfl) ?_
    obtain ⟨r14, hr14, H⟩ := bnd H
    refine TrL.cons rfl (op_callg' (fs := []) (vs := [.slice A1 n1 c1, .int .i64 (wi64 (p3 - x2.2)), .int .i64 p3, .int .i64 x2.2, .func (.func 89) #[] #[]]) (cap := []) (Mr := []) [0] [] [] rfl rfl rfl en188 (c_slices_swapRangeCmpFunc_Event x2.1 (wi64 (p3 - x2.2)) p3 x2.2 A1 c1 n1 r14 hr14) (by decide) rfl rfl rfl (bl rfl) (fun ret M' F' hR14 => ?_))
    obtain ⟨rfl, rfl, rfl⟩ := hR14
    have hz := Option.some.inj H
    subst hz
    refine TrL.nil (ret_n ⟨[], [arr rp_u64_u64_u64 85 A1 n1 c1 r14], [], []⟩ [] [arr rp_u64_u64_u64 85 A1 n1 c1 r14] [] (Imp.re _ [0] [] sn (by decide) rfl rfl rfl) rfl rfl ⟨rfl, rfl, rfl⟩ .nil)
end Go.Proofs.Ytbeknohemgjfbaa.W
