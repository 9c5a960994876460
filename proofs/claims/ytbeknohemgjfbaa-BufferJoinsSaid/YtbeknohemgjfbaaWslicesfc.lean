/- The contracts of the walked functions: the printed walks. -/
import Derived.Test.YtbeknohemgjfbaaKc
import Derived.Test.YtbeknohemgjfbaaQc
import Derived.Test.YtbeknohemgjfbaaWslicesdc
import Derived.Test.YtbeknohemgjfbaaWslicesec
namespace Go.Proofs.Ytbeknohemgjfbaa.W
open Go Go.Proofs Go.Proofs.Ytbeknohemgjfbaa.L Go.Proofs.Ytbeknohemgjfbaa.Pu
set_option linter.unusedVariables false
set_option maxHeartbeats 4000000

theorem c_slices_stableCmpFunc_Event (p1 : List (Int × Int × Int)) (p2 : Int) (A1 : Option Addr) (c1 : Nat) (n1 : Nat) (r : List (Int × Int × Int)) (H : slices_stableCmpFunc_Event p1 p2 = some r) :
    Ctr Try.prog 144 [.slice A1 n1 c1, .int .i64 p2, .func (.func 89) #[] #[]] [arr rp_u64_u64_u64 85 A1 n1 c1 p1] [] (fun ret M' F' => ret = ret1 [] ∧ M' = [arr rp_u64_u64_u64 85 A1 n1 c1 r] ∧ F' = []) := by
  unfold slices_stableCmpFunc_Event at H
  refine ctr_ofI (N := 63) Try.func144 rfl Try.ntmps144 rfl (Nat.le_of_ble_eq_true rfl) (fun γ0 w0 => ?_)
  refine Tr.seq ?_
  refine Tr.region ?_
  refine TrL.v (v_assign rfl rfl) rfl rfl (bl rfl) ?_
  refine TrL.nil (qthen_n ?_)
  refine Tr.seq ?_
  refine Tr.region ?_
  refine TrL.v (v_move rfl rfl) rfl rfl (bl rfl) ?_
  refine TrL.v (v_assign rfl rfl) rfl rfl (bl rfl) ?_
  refine TrL.v (v_assign rfl rfl) rfl rfl (bl rfl) ?_
  refine TrL.nil (qthen_n ?_)
  refine Tr.seq ?_
  obtain ⟨x6, hx11, H⟩ := bnd H
  refine Tr.cutE (D := (List (Int × Int × Int)) × Int) (M := Unit) .normal (fun _d => x6 = _d) (fun x6 m42 => ⟨[(0, .slice A1 n1 c1), (1, .int .i64 p2), (2, .func (.func 89) #[] #[]), (6, .int .i64 20), (7, .int .i64 x6.2)], [arr rp_u64_u64_u64 85 A1 n1 c1 x6.1], [], []⟩) ?_ (fun x6 m42 hd6 => ?_)
  · refine Tr.block (Tr.loopI (ι := Unit) (step := slices_stableCmpFunc_Event_s0 p2) (fun s17 m39 => ⟨[(0, .slice A1 n1 c1), (1, .int .i64 p2), (2, .func (.func 89) #[] #[]), (6, .int .i64 20), (7, .int .i64 s17.2.1), (8, .int .i64 s17.2.2)], [arr rp_u64_u64_u64 85 A1 n1 c1 s17.1], [], []⟩) (()) hx11 (Imp.re _ [0] [] (sc rfl (sc rfl (sc rfl (sc rfl (sc rfl (sc rfl sn)))))) (by decide) rfl rfl rfl) (fun s17 m39 y6 hy6 hx12 => ?_))
    unfold slices_stableCmpFunc_Event_s0 at hy6
    refine Tr.seq ?_
    refine Tr.seq ?_
    refine Tr.region ?_
    refine TrL.v (v_move rfl rfl) rfl rfl (bl rfl) ?_
    refine TrL.v (v_move rfl rfl) rfl rfl (bl rfl) ?_
    refine TrL.v (v_arith rfl rfl rfl ar_leq) rfl rfl (bl rfl) ?_
    refine TrL.nil (qthen_n ?_)
    rcases ifc hy6 with ⟨h21, hy6⟩ | ⟨h21, hy6⟩
    · refine Tr.cond_t rfl (bt_dec h21) ?_
      refine Tr.skip (qthen_n ?_)
      refine Tr.block ?_
      refine Tr.seq ?_
      refine Tr.region ?_
      refine TrL.v (v_move rfl rfl) rfl rfl (bl rfl) ?_
      refine TrL.v (v_move rfl rfl) rfl rfl (bl rfl) ?_
      refine TrL.v (v_move rfl rfl) rfl rfl (bl rfl) ?_
      refine TrL.v (v_move rfl rfl) rfl rfl (bl rfl) ?_
      obtain ⟨r19, hr19, hy6⟩ := bnd hy6
      refine TrL.cons rfl (op_callg' (fs := []) (vs := [.slice A1 n1 c1, .int .i64 s17.2.1, .int .i64 s17.2.2, .func (.func 89) #[] #[]]) (cap := []) (Mr := []) [0] [] [] rfl rfl rfl en171 (c_slices_insertionSortCmpFunc_Event s17.1 s17.2.1 s17.2.2 A1 c1 n1 r19 hr19) (by decide) rfl rfl rfl (bl rfl) (fun ret M' F' hR19 => ?_))
      obtain ⟨rfl, rfl, rfl⟩ := hR19
      refine TrL.nil (qthen_n ?_)
      refine Tr.seq ?_
      refine Tr.region ?_
      refine TrL.v (v_move rfl rfl) rfl rfl (bl rfl) ?_
      refine TrL.v (v_assign rfl rfl) rfl rfl (bl rfl) ?_
      refine TrL.nil (qthen_n ?_)
      refine Tr.region ?_
      refine TrL.v (v_move rfl rfl) rfl rfl (bl rfl) ?_
      refine TrL.v (v_move rfl rfl) rfl rfl (bl rfl) ?_
      refine TrL.v (v_arith rfl rfl rfl ar_add_i64) rfl rfl (bl rfl) ?_
      refine TrL.v (v_assign rfl rfl) rfl rfl (bl rfl) ?_
      have hz := Option.some.inj hy6
      subst hz
      refine TrL.nil (qblock_n (qloop_n (()) (Imp.re _ [0] [] (sc rfl (sc rfl (sc rfl (sc rfl (sc rfl (sc rfl sn)))))) (by decide) rfl rfl rfl)))
    · refine Tr.cond_f rfl (bf_dec h21) ?_
      have hz := Option.some.inj hy6
      subst hz
      refine Tr.exit (qthen_x (qloop_x (qblock_hit (qcut_hit ((s17.1, s17.2.1)) (()) (hx12 _ rfl).symm (Imp.re _ [0] [] (sc rfl (sc rfl (sc rfl (sc rfl (sc rfl sn))))) (by decide) rfl rfl rfl)))))
  · subst hd6
    refine (qthen_n ?_)
    refine Tr.seq ?_
    refine Tr.region ?_
    refine TrL.v (v_move rfl rfl) rfl rfl (bl rfl) ?_
    refine TrL.v (v_move rfl rfl) rfl rfl (bl rfl) ?_
    refine TrL.v (v_move rfl rfl) rfl rfl (bl rfl) ?_
    refine TrL.v (v_move rfl rfl) rfl rfl (bl rfl) ?_
    obtain ⟨r20, hr20, H⟩ := bnd H
    refine TrL.cons rfl (op_callg' (fs := []) (vs := [.slice A1 n1 c1, .int .i64 x6.2, .int .i64 p2, .func (.func 89) #[] #[]]) (cap := []) (Mr := []) [0] [] [] rfl rfl rfl en171 (c_slices_insertionSortCmpFunc_Event x6.1 x6.2 p2 A1 c1 n1 r20 hr20) (by decide) rfl rfl rfl (bl rfl) (fun ret M' F' hR20 => ?_))
    obtain ⟨rfl, rfl, rfl⟩ := hR20
    refine TrL.nil (qthen_n ?_)
    obtain ⟨x9, hx17, H⟩ := bnd H
    refine Tr.cutE (D := List (Int × Int × Int)) (M := Unit) .normal (fun _d => x9 = _d) (fun x9 m64 => ⟨[(0, .slice A1 n1 c1)], [arr rp_u64_u64_u64 85 A1 n1 c1 x9], [], []⟩) ?_ (fun x9 m64 hd10 => ?_)
    · refine Tr.block (Tr.loopI (ι := Unit) (step := slices_stableCmpFunc_Event_s1 p2) (fun s23 m54 => ⟨[(0, .slice A1 n1 c1), (1, .int .i64 p2), (2, .func (.func 89) #[] #[]), (6, .int .i64 s23.2)], [arr rp_u64_u64_u64 85 A1 n1 c1 s23.1], [], []⟩) (()) hx17 (Imp.re _ [0] [] (sc rfl (sc rfl (sc rfl (sc rfl sn)))) (by decide) rfl rfl rfl) (fun s23 m54 y9 hy9 hx18 => ?_))
      unfold slices_stableCmpFunc_Event_s1 at hy9
      refine Tr.seq ?_
      refine Tr.seq ?_
      refine Tr.region ?_
      refine TrL.v (v_move rfl rfl) rfl rfl (bl rfl) ?_
      refine TrL.v (v_move rfl rfl) rfl rfl (bl rfl) ?_
      refine TrL.v (v_arith rfl rfl rfl ar_lss) rfl rfl (bl rfl) ?_
      refine TrL.nil (qthen_n ?_)
      rcases ifc hy9 with ⟨h32, hy9⟩ | ⟨h32, hy9⟩
      · refine Tr.cond_t rfl (bt_dec h32) ?_
        refine Tr.skip (qthen_n ?_)
        refine Tr.block ?_
        refine Tr.seq ?_
        refine Tr.region ?_
        refine TrL.v (v_move rfl rfl) rfl rfl (bl rfl) ?_
        refine TrL.v (v_arith rfl rfl rfl ar_mul_i64) rfl rfl (bl rfl) ?_
        refine TrL.v (v_assign rfl rfl) rfl rfl (bl rfl) ?_
        refine TrL.v (v_assign rfl rfl) rfl rfl (bl rfl) ?_
        refine TrL.nil (qthen_n ?_)
        refine Tr.seq ?_
        obtain ⟨x10, hx19, hy9⟩ := bnd hy9
        refine Tr.cutE (D := (List (Int × Int × Int)) × Int) (M := Unit) .normal (fun _d => x10 = _d) (fun x10 m70 => ⟨[(0, .slice A1 n1 c1), (1, .int .i64 p2), (2, .func (.func 89) #[] #[]), (6, .int .i64 s23.2), (7, .int .i64 x10.2)], [arr rp_u64_u64_u64 85 A1 n1 c1 x10.1], [], []⟩) ?_ (fun x10 m70 hd9 => ?_)
        · refine Tr.block (Tr.loopI (ι := Unit) (step := slices_stableCmpFunc_Event_s2 p2 s23) (fun s29 m67 => ⟨[(0, .slice A1 n1 c1), (1, .int .i64 p2), (2, .func (.func 89) #[] #[]), (6, .int .i64 s23.2), (7, .int .i64 s29.2.1), (8, .int .i64 s29.2.2)], [arr rp_u64_u64_u64 85 A1 n1 c1 s29.1], [], []⟩) (()) hx19 (Imp.re _ [0] [] (sc rfl (sc rfl (sc rfl (sc rfl (sc rfl (sc rfl sn)))))) (by decide) rfl rfl rfl) (fun s29 m67 y10 hy10 hx20 => ?_))
          unfold slices_stableCmpFunc_Event_s2 at hy10
          refine Tr.seq ?_
          refine Tr.seq ?_
          refine Tr.region ?_
          refine TrL.v (v_move rfl rfl) rfl rfl (bl rfl) ?_
          refine TrL.v (v_move rfl rfl) rfl rfl (bl rfl) ?_
          refine TrL.v (v_arith rfl rfl rfl ar_leq) rfl rfl (bl rfl) ?_
          refine TrL.nil (qthen_n ?_)
          rcases ifc hy10 with ⟨h35, hy10⟩ | ⟨h35, hy10⟩
          · refine Tr.cond_t rfl (bt_dec h35) ?_
            refine Tr.skip (qthen_n ?_)
            refine Tr.block ?_
            refine Tr.seq ?_
            refine Tr.region ?_
            refine TrL.v (v_move rfl rfl) rfl rfl (bl rfl) ?_
            refine TrL.v (v_move rfl rfl) rfl rfl (bl rfl) ?_
            refine TrL.v (v_move rfl rfl) rfl rfl (bl rfl) ?_
            refine TrL.v (v_move rfl rfl) rfl rfl (bl rfl) ?_
            refine TrL.v (v_arith rfl rfl rfl ar_add_i64) rfl rfl (bl rfl) ?_
            refine TrL.v (v_move rfl rfl) rfl rfl (bl rfl) ?_
            refine TrL.v (v_move rfl rfl) rfl rfl (bl rfl) ?_
            obtain ⟨r31, hr31, hy10⟩ := bnd hy10
            refine TrL.cons rfl (op_callg' (fs := []) (vs := [.slice A1 n1 c1, .int .i64 s29.2.1, .int .i64 (wi64 (s29.2.1 + s23.2)), .int .i64 s29.2.2, .func (.func 89) #[] #[]]) (cap := []) (Mr := []) [0] [] [] rfl rfl rfl en172 (c_slices_symMergeCmpFunc_Event s29.1 s29.2.1 (wi64 (s29.2.1 + s23.2)) s29.2.2 A1 c1 n1 r31 hr31) (by decide) rfl rfl rfl (bl rfl) (fun ret M' F' hR31 => ?_))
            obtain ⟨rfl, rfl, rfl⟩ := hR31
            refine TrL.nil (qthen_n ?_)
            refine Tr.seq ?_
            refine Tr.region ?_
            refine TrL.v (v_move rfl rfl) rfl rfl (bl rfl) ?_
            refine TrL.v (v_assign rfl rfl) rfl rfl (bl rfl) ?_
            refine TrL.nil (qthen_n ?_)
            refine Tr.region ?_
            refine TrL.v (v_move rfl rfl) rfl rfl (bl rfl) ?_
            refine TrL.v (v_move rfl rfl) rfl rfl (bl rfl) ?_
            refine TrL.v (v_arith rfl rfl rfl ar_mul_i64) rfl rfl (bl rfl) ?_
            refine TrL.v (v_arith rfl rfl rfl ar_add_i64) rfl rfl (bl rfl) ?_
            refine TrL.v (v_assign rfl rfl) rfl rfl (bl rfl) ?_
            have hz := Option.some.inj hy10
            subst hz
            refine TrL.nil (qblock_n (qloop_n (()) (Imp.re _ [0] [] (sc rfl (sc rfl (sc rfl (sc rfl (sc rfl (sc rfl sn)))))) (by decide) rfl rfl rfl)))
          · refine Tr.cond_f rfl (bf_dec h35) ?_
            have hz := Option.some.inj hy10
            subst hz
            refine Tr.exit (qthen_x (qloop_x (qblock_hit (qcut_hit ((s29.1, s29.2.1)) (()) (hx20 _ rfl).symm (Imp.re _ [0] [] (sc rfl (sc rfl (sc rfl (sc rfl (sc rfl sn))))) (by decide) rfl rfl rfl)))))
        · subst hd9
          refine (qthen_n ?_)
          refine Tr.seq ?_
          refine Tr.seq ?_
          refine Tr.region ?_
          refine TrL.v (v_move rfl rfl) rfl rfl (bl rfl) ?_
          refine TrL.v (v_move rfl rfl) rfl rfl (bl rfl) ?_
          refine TrL.v (v_arith rfl rfl rfl ar_add_i64) rfl rfl (bl rfl) ?_
          refine TrL.v (v_assign rfl rfl) rfl rfl (bl rfl) ?_
          refine TrL.nil (qthen_n ?_)
          refine Tr.seq ?_
          refine Tr.region ?_
          refine TrL.v (v_move rfl rfl) rfl rfl (bl rfl) ?_
          refine TrL.v (v_move rfl rfl) rfl rfl (bl rfl) ?_
          refine TrL.v (v_arith rfl rfl rfl ar_lss) rfl rfl (bl rfl) ?_
          refine TrL.nil (qthen_n ?_)
          rcases ifc hy9 with ⟨h36, hy9⟩ | ⟨h36, hy9⟩
          · refine Tr.cond_t rfl (bt_dec h36) ?_
            refine Tr.region ?_
            refine TrL.v (v_move rfl rfl) rfl rfl (bl rfl) ?_
            refine TrL.v (v_move rfl rfl) rfl rfl (bl rfl) ?_
            refine TrL.v (v_move rfl rfl) rfl rfl (bl rfl) ?_
            refine TrL.v (v_move rfl rfl) rfl rfl (bl rfl) ?_
            refine TrL.v (v_move rfl rfl) rfl rfl (bl rfl) ?_
            obtain ⟨r32, hr32, hy9⟩ := bnd hy9
            refine TrL.cons rfl (op_callg' (fs := []) (vs := [.slice A1 n1 c1, .int .i64 x10.2, .int .i64 (wi64 (x10.2 + s23.2)), .int .i64 p2, .func (.func 89) #[] #[]]) (cap := []) (Mr := []) [0] [] [] rfl rfl rfl en172 (c_slices_symMergeCmpFunc_Event x10.1 x10.2 (wi64 (x10.2 + s23.2)) p2 A1 c1 n1 r32 hr32) (by decide) rfl rfl rfl (bl rfl) (fun ret M' F' hR32 => ?_))
            obtain ⟨rfl, rfl, rfl⟩ := hR32
            refine TrL.nil (qthen_n ?_)
            refine Tr.region ?_
            refine TrL.v (v_move rfl rfl) rfl rfl (bl rfl) ?_
            refine TrL.v (v_arith rfl rfl rfl ar_mul_i64) rfl rfl (bl rfl) ?_
            refine TrL.v (v_assign rfl rfl) rfl rfl (bl rfl) ?_
            have hz := Option.some.inj hy9
            subst hz
            refine TrL.nil (qblock_n (qloop_n (()) (Imp.re _ [0] [] (sc rfl (sc rfl (sc rfl (sc rfl sn)))) (by decide) rfl rfl rfl)))
          · refine Tr.cond_f rfl (bf_dec h36) ?_
            refine Tr.skip (qthen_n ?_)
            refine Tr.region ?_
            refine TrL.v (v_move rfl rfl) rfl rfl (bl rfl) ?_
            refine TrL.v (v_arith rfl rfl rfl ar_mul_i64) rfl rfl (bl rfl) ?_
            refine TrL.v (v_assign rfl rfl) rfl rfl (bl rfl) ?_
            have hz := Option.some.inj hy9
            subst hz
            refine TrL.nil (qblock_n (qloop_n (()) (Imp.re _ [0] [] (sc rfl (sc rfl (sc rfl (sc rfl sn)))) (by decide) rfl rfl rfl)))
      · refine Tr.cond_f rfl (bf_dec h32) ?_
        have hz := Option.some.inj hy9
        subst hz
        refine Tr.exit (qthen_x (qloop_x (qblock_hit (qcut_hit s23.1 (()) (hx18 _ rfl).symm (Imp.re _ [0] [] (sc rfl sn) (by decide) rfl rfl rfl)))))
    · subst hd10
      have hz := Option.some.inj H
      subst hz
      refine (ret_n ⟨[], [arr rp_u64_u64_u64 85 A1 n1 c1 x9], [], []⟩ [] [arr rp_u64_u64_u64 85 A1 n1 c1 x9] [] (Imp.re _ [0] [] sn (by decide) rfl rfl rfl) rfl rfl ⟨rfl, rfl, rfl⟩ .nil)

theorem c_slices_SortStableFunc_Event (p1 : List (Int × Int × Int)) (A1 : Option Addr) (c1 : Nat) (n1 : Nat) (r : List (Int × Int × Int)) (H : slices_SortStableFunc_Event p1 = some r) :
    Ctr Try.prog 88 [.slice A1 n1 c1, .func (.func 89) #[] #[]] [arr rp_u64_u64_u64 85 A1 n1 c1 p1] [] (fun ret M' F' => ret = ret1 [] ∧ M' = [arr rp_u64_u64_u64 85 A1 n1 c1 r] ∧ F' = []) := by
  unfold slices_SortStableFunc_Event at H
  refine ctr_ofI (N := 9) Try.func88 rfl Try.ntmps88 rfl (Nat.le_of_ble_eq_true rfl) (fun γ0 w0 => ?_)
  refine Tr.region ?_
  refine TrL.v (v_move rfl rfl) rfl rfl (bl rfl) ?_
  refine TrL.v (v_move rfl rfl) rfl rfl (bl rfl) ?_
  refine TrL.v (v_lenA (k := 0) rfl sl71 rfl rfl) rfl rfl (bl rfl) ?_
  refine TrL.v (v_move rfl rfl) rfl rfl (bl rfl) ?_
  obtain ⟨r2, hr2, H⟩ := bnd H
  refine TrL.cons rfl (op_callg' (fs := []) (vs := [.slice A1 n1 c1, .int .i64 ((p1.length : Int)), .func (.func 89) #[] #[]]) (cap := []) (Mr := []) [0] [] [] rfl rfl rfl en144 (c_slices_stableCmpFunc_Event p1 ((p1.length : Int)) A1 c1 n1 r2 hr2) (by decide) rfl rfl rfl (bl rfl) (fun ret M' F' hR2 => ?_))
  obtain ⟨rfl, rfl, rfl⟩ := hR2
  have hz := Option.some.inj H
  subst hz
  refine TrL.nil (ret_n ⟨[], [arr rp_u64_u64_u64 85 A1 n1 c1 r2], [], []⟩ [] [arr rp_u64_u64_u64 85 A1 n1 c1 r2] [] (Imp.re _ [0] [] sn (by decide) rfl rfl rfl) rfl rfl ⟨rfl, rfl, rfl⟩ .nil)
end Go.Proofs.Ytbeknohemgjfbaa.W
