/- The contracts of the walked functions: the printed walks. -/
import Derived.Test.YtbeknohemgjfbaaKc
import Derived.Test.YtbeknohemgjfbaaQc
import Derived.Test.YtbeknohemgjfbaaWref06ac
namespace Go.Proofs.Ytbeknohemgjfbaa.W
open Go Go.Proofs Go.Proofs.Ytbeknohemgjfbaa.L Go.Proofs.Ytbeknohemgjfbaa.Pu
set_option linter.unusedVariables false
set_option maxHeartbeats 4000000

theorem c_ref10_Light (p1 : Int × (List (Int × Int)) × (List (Int × Int)) × (List (Int × Int)) × (List (Int × Int)) × Int) (A1 : Option Addr) (c1 : Nat) (A2 : Option Addr) (c2 : Nat) (A3 : Option Addr) (c3 : Nat) (A4 : Option Addr) (c4 : Nat) (r : Bool) (H : ref10_Light p1 = some r) :
    Ctr Try.prog 33 [.agg #[.int .i64 p1.1, .slice A1 p1.2.1.length c1, .slice A2 p1.2.2.1.length c2, .slice A3 p1.2.2.2.1.length c3, .slice A4 p1.2.2.2.2.1.length c4, .int .u8 p1.2.2.2.2.2]] [] [slF rp_u64_u64 A1 c1 p1.2.1, slF rp_u64_u64 A2 c2 p1.2.2.1, slF rp_u64_u64 A3 c3 p1.2.2.2.1, slF rp_u64_u64 A4 c4 p1.2.2.2.2.1] (fun ret M' F' => ret = .bool r ∧ M' = [] ∧ F' = []) := by
  unfold ref10_Light at H
  refine ctr_ofI (N := 33) Try.func33 rfl Try.ntmps33 rfl (Nat.le_of_ble_eq_true rfl) (fun γ0 w0 => ?_)
  refine Tr.seq ?_
  refine Tr.region ?_
  refine TrL.cons rfl (op_box' rfl (bl rfl) rfl rfl rfl (fun b2 => ?_))
  refine TrL.v (v_assign rfl rfl) rfl rfl (bl rfl) ?_
  refine TrL.nil (qthen_n ?_)
  refine Tr.seq ?_
  refine Tr.seq ?_
  refine Tr.region ?_
  refine TrL.v (v_assign rfl rfl) rfl rfl (bl rfl) ?_
  refine TrL.nil (qthen_n ?_)
  refine Tr.block ?_
  refine Tr.loop ?_
  refine Tr.seq ?_
  refine Tr.seq ?_
  refine Tr.region ?_
  refine TrL.v (v_move rfl rfl) rfl rfl (bl rfl) ?_
  refine TrL.v (v_arith (v := .bool true) rfl rfl rfl rfl) rfl rfl (bl rfl) ?_
  refine TrL.nil (qthen_n ?_)
  refine Tr.cond_t rfl rfl ?_
  refine Tr.skip (qthen_n ?_)
  refine Tr.seq ?_
  refine Tr.block ?_
  refine Tr.seq ?_
  refine Tr.seq ?_
  refine Tr.region ?_
  refine TrL.v (v_move rfl rfl) rfl rfl (bl rfl) ?_
  refine TrL.v (v_fieldAddr' rfl fo60_1 rfl rfl) rfl rfl (bl rfl) ?_
  refine TrL.v (v_indexArr rfl ar58 ty22 rfl rfl (by decide) (by decide) rfl) rfl rfl (bl rfl) ?_
  refine TrL.v (v_load (k := 0) rfl rfl rfl ty22 (fun _ => rfl) rfl rfl) rfl rfl (bl rfl) ?_
  refine TrL.v (v_len rfl sl22 rfl) rfl rfl (bl rfl) ?_
  refine TrL.v (v_arith rfl rfl rfl ar_gtr) rfl rfl (bl rfl) ?_
  refine TrL.nil (qthen_n ?_)
  rcases ifc H with ⟨h29, H⟩ | ⟨h29, H⟩
  · refine Tr.cond_t rfl (bt_dec h29) ?_
    refine Tr.seq ?_
    refine Tr.region ?_
    refine TrL.v (v_assign rfl rfl) rfl rfl (bl rfl) ?_
    refine TrL.nil (qthen_n ?_)
    have hz := Option.some.inj H
    subst hz
    refine Tr.ret (qthen_r (qblock_r (qthen_r (qthen_r (qblock_r (qthen_r (ret_r ⟨[(2, .bool false)], [], [], []⟩ [.bool false] [] [] (Imp.re _ [] [] (sc rfl sn) (by decide) rfl rfl rfl) rfl rfl ⟨rfl, rfl, rfl⟩ (.cons (resv_tmp rfl) .nil))))))))
  · refine Tr.cond_f rfl (bf_dec h29) ?_
    refine Tr.skip (qthen_n ?_)
    refine Tr.seq ?_
    refine Tr.region ?_
    refine TrL.v (v_assign rfl rfl) rfl rfl (bl rfl) ?_
    refine TrL.nil (qthen_n ?_)
    obtain ⟨x5, hx9, H⟩ := bnd H
    refine Tr.cutE (D := Unit) (M := Unit) .ret (fun d9 => x5 = .inl d9) (fun d9 m24 => ⟨[(2, .bool false)], [], [], []⟩) ?_ (fun d9 m24 hd9 => ?_)
    · refine Tr.cutE (D := Unit) (M := Unit) .normal (fun d10 => x5 = .inr d10) (fun d10 m25 => ⟨[(1, .pointer (some ⟨b2, 0, none⟩)), (3, .int .i64 0)], [cells b2 [.int .i64 p1.1, .slice A1 p1.2.1.length c1, .slice A2 p1.2.2.1.length c2, .slice A3 p1.2.2.2.1.length c3, .slice A4 p1.2.2.2.2.1.length c4, .int .u8 p1.2.2.2.2.2] 60], [slF rp_u64_u64 A1 c1 p1.2.1, slF rp_u64_u64 A2 c2 p1.2.2.1, slF rp_u64_u64 A3 c3 p1.2.2.2.1, slF rp_u64_u64 A4 c4 p1.2.2.2.2.1], []⟩) ?_ (fun d10 m25 hd10 => ?_)
      · refine Tr.block (Tr.loopI (ι := Unit) (step := ref10_Light_s0 p1) (fun s14 m22 => ⟨[(1, .pointer (some ⟨b2, 0, none⟩)), (3, .int .i64 0), (4, .int .i64 s14)], [cells b2 [.int .i64 p1.1, .slice A1 p1.2.1.length c1, .slice A2 p1.2.2.1.length c2, .slice A3 p1.2.2.2.1.length c3, .slice A4 p1.2.2.2.2.1.length c4, .int .u8 p1.2.2.2.2.2] 60], [slF rp_u64_u64 A1 c1 p1.2.1, slF rp_u64_u64 A2 c2 p1.2.2.1, slF rp_u64_u64 A3 c3 p1.2.2.2.1, slF rp_u64_u64 A4 c4 p1.2.2.2.2.1], []⟩) (()) hx9 (Imp.re _ [0] [0, 1, 2, 3] (sc rfl (sc rfl (sc rfl sn))) (by decide) rfl rfl rfl) (fun s14 m22 y5 hy5 hx10 => ?_))
        unfold ref10_Light_s0 at hy5
        refine Tr.seq ?_
        refine Tr.seq ?_
        refine Tr.region ?_
        refine TrL.v (v_move rfl rfl) rfl rfl (bl rfl) ?_
        refine TrL.v (v_move rfl rfl) rfl rfl (bl rfl) ?_
        refine TrL.v (v_fieldAddr' rfl fo60_1 rfl rfl) rfl rfl (bl rfl) ?_
        refine TrL.v (v_indexArr rfl ar58 ty22 rfl rfl (by decide) (by decide) rfl) rfl rfl (bl rfl) ?_
        refine TrL.v (v_load (k := 0) rfl rfl rfl ty22 (fun _ => rfl) rfl rfl) rfl rfl (bl rfl) ?_
        refine TrL.v (v_len rfl sl22 rfl) rfl rfl (bl rfl) ?_
        refine TrL.v (v_arith rfl rfl rfl ar_lss) rfl rfl (bl rfl) ?_
        refine TrL.nil (qthen_n ?_)
        rcases ifc hy5 with ⟨h34, hy5⟩ | ⟨h34, hy5⟩
        · refine Tr.cond_t rfl (bt_dec h34) ?_
          refine Tr.skip (qthen_n ?_)
          refine Tr.seq ?_
          refine Tr.block ?_
          refine Tr.seq ?_
          refine Tr.region ?_
          refine TrL.v (v_move rfl rfl) rfl rfl (bl rfl) ?_
          refine TrL.v (v_fieldAddr' rfl fo60_1 rfl rfl) rfl rfl (bl rfl) ?_
          refine TrL.v (v_indexArr rfl ar58 ty22 rfl rfl (by decide) (by decide) rfl) rfl rfl (bl rfl) ?_
          refine TrL.v (v_load (k := 0) rfl rfl rfl ty22 (fun _ => rfl) rfl rfl) rfl rfl (bl rfl) ?_
          refine TrL.v (v_move rfl rfl) rfl rfl (bl rfl) ?_
          obtain ⟨z15, hz15, hy5⟩ := bnd hy5
          refine TrL.v (v_indexAddr (k := 0) rfl sl22 ty103 rfl rfl rfl rfl hz15) rfl rfl (bl rfl) ?_
          refine TrL.v (v_fieldAddr rfl fo103_1 rfl) rfl rfl (bl rfl) ?_
          refine TrL.v (v_loadg (A := A1) (i := s14) (j := 1) (k := 0) rfl ty28 (fun _ => rfl) rfl rfl hz15 rfl rfl) rfl rfl (bl rfl) ?_
          refine TrL.v (v_arith rfl rfl rfl ar_gtr) rfl rfl (bl rfl) ?_
          refine TrL.nil (qthen_n ?_)
          rcases ifc hy5 with ⟨h35, hy5⟩ | ⟨h35, hy5⟩
          · refine Tr.cond_t rfl (bt_dec h35) ?_
            refine Tr.seq ?_
            refine Tr.region ?_
            refine TrL.v (v_assign rfl rfl) rfl rfl (bl rfl) ?_
            refine TrL.nil (qthen_n ?_)
            have hz := Option.some.inj hy5
            subst hz
            refine Tr.ret (qblock_r (qthen_r (qloop_r (qblock_r (qcut_miss (by simp) (qcut_hit (()) (()) (hx10 _ rfl).symm (Imp.re _ [] [] (sc rfl sn) (by decide) rfl rfl rfl)))))))
          · refine Tr.cond_f rfl (bf_dec h35) ?_
            refine Tr.skip (qblock_n (qthen_n ?_))
            refine Tr.region ?_
            refine TrL.v (v_move rfl rfl) rfl rfl (bl rfl) ?_
            refine TrL.v (v_arith rfl rfl rfl ar_add_i64) rfl rfl (bl rfl) ?_
            refine TrL.v (v_assign rfl rfl) rfl rfl (bl rfl) ?_
            have hz := Option.some.inj hy5
            subst hz
            refine TrL.nil (qloop_n (()) (Imp.re _ [0] [0, 1, 2, 3] (sc rfl (sc rfl (sc rfl sn))) (by decide) rfl rfl rfl))
        · refine Tr.cond_f rfl (bf_dec h34) ?_
          have hz := Option.some.inj hy5
          subst hz
          refine Tr.exit (qthen_x (qloop_x (qblock_hit (qcut_hit (()) (()) (hx10 _ rfl).symm (Imp.re _ [0] [0, 1, 2, 3] (sc rfl (sc rfl sn)) (by decide) rfl rfl rfl)))))
      · subst hd10
        replace H := sumr H
        refine (qcut_miss (by simp) (qblock_n (qthen_n ?_)))
        refine Tr.region ?_
        refine TrL.v (v_move rfl rfl) rfl rfl (bl rfl) ?_
        refine TrL.v (v_arith (v := .int .i64 1) rfl rfl rfl rfl) rfl rfl (bl rfl) ?_
        refine TrL.v (v_assign rfl rfl) rfl rfl (bl rfl) ?_
        refine TrL.nil (qthen_n ?_)
        refine Tr.loop ?_
        refine Tr.seq ?_
        refine Tr.seq ?_
        refine Tr.region ?_
        refine TrL.v (v_move rfl rfl) rfl rfl (bl rfl) ?_
        refine TrL.v (v_arith (v := .bool true) rfl rfl rfl rfl) rfl rfl (bl rfl) ?_
        refine TrL.nil (qthen_n ?_)
        refine Tr.cond_t rfl rfl ?_
        refine Tr.skip (qthen_n ?_)
        refine Tr.seq ?_
        refine Tr.block ?_
        refine Tr.seq ?_
        refine Tr.seq ?_
        refine Tr.region ?_
        refine TrL.v (v_move rfl rfl) rfl rfl (bl rfl) ?_
        refine TrL.v (v_fieldAddr' rfl fo60_1 rfl rfl) rfl rfl (bl rfl) ?_
        refine TrL.v (v_indexArr rfl ar58 ty22 rfl rfl (by decide) (by decide) rfl) rfl rfl (bl rfl) ?_
        refine TrL.v (v_load (k := 0) rfl rfl rfl ty22 (fun _ => rfl) rfl rfl) rfl rfl (bl rfl) ?_
        refine TrL.v (v_len rfl sl22 rfl) rfl rfl (bl rfl) ?_
        refine TrL.v (v_arith rfl rfl rfl ar_gtr) rfl rfl (bl rfl) ?_
        refine TrL.nil (qthen_n ?_)
        rcases ifc H with ⟨h36, H⟩ | ⟨h36, H⟩
        · refine Tr.cond_t rfl (bt_dec h36) ?_
          refine Tr.seq ?_
          refine Tr.region ?_
          refine TrL.v (v_assign rfl rfl) rfl rfl (bl rfl) ?_
          refine TrL.nil (qthen_n ?_)
          have hz := Option.some.inj H
          subst hz
          refine Tr.ret (qthen_r (qblock_r (qthen_r (qthen_r (qblock_r (qthen_r (ret_r ⟨[(2, .bool false)], [], [], []⟩ [.bool false] [] [] (Imp.re _ [] [] (sc rfl sn) (by decide) rfl rfl rfl) rfl rfl ⟨rfl, rfl, rfl⟩ (.cons (resv_tmp rfl) .nil))))))))
        · refine Tr.cond_f rfl (bf_dec h36) ?_
          refine Tr.skip (qthen_n ?_)
          refine Tr.seq ?_
          refine Tr.region ?_
          refine TrL.v (v_assign rfl rfl) rfl rfl (bl rfl) ?_
          refine TrL.nil (qthen_n ?_)
          obtain ⟨x6, hx11, H⟩ := bnd H
          refine Tr.cutE (D := Unit) (M := Unit) .ret (fun d11 => x6 = .inl d11) (fun d11 m29 => ⟨[(2, .bool false)], [], [], []⟩) ?_ (fun d11 m29 hd11 => ?_)
          · refine Tr.cutE (D := Unit) (M := Unit) .normal (fun d12 => x6 = .inr d12) (fun d12 m30 => ⟨[(1, .pointer (some ⟨b2, 0, none⟩)), (3, .int .i64 1)], [cells b2 [.int .i64 p1.1, .slice A1 p1.2.1.length c1, .slice A2 p1.2.2.1.length c2, .slice A3 p1.2.2.2.1.length c3, .slice A4 p1.2.2.2.2.1.length c4, .int .u8 p1.2.2.2.2.2] 60], [slF rp_u64_u64 A1 c1 p1.2.1, slF rp_u64_u64 A2 c2 p1.2.2.1, slF rp_u64_u64 A3 c3 p1.2.2.2.1, slF rp_u64_u64 A4 c4 p1.2.2.2.2.1], []⟩) ?_ (fun d12 m30 hd12 => ?_)
            · refine Tr.block (Tr.loopI (ι := Unit) (step := ref10_Light_s1 p1) (fun s17 m27 => ⟨[(1, .pointer (some ⟨b2, 0, none⟩)), (3, .int .i64 1), (4, .int .i64 s17)], [cells b2 [.int .i64 p1.1, .slice A1 p1.2.1.length c1, .slice A2 p1.2.2.1.length c2, .slice A3 p1.2.2.2.1.length c3, .slice A4 p1.2.2.2.2.1.length c4, .int .u8 p1.2.2.2.2.2] 60], [slF rp_u64_u64 A1 c1 p1.2.1, slF rp_u64_u64 A2 c2 p1.2.2.1, slF rp_u64_u64 A3 c3 p1.2.2.2.1, slF rp_u64_u64 A4 c4 p1.2.2.2.2.1], []⟩) (()) hx11 (Imp.re _ [0] [0, 1, 2, 3] (sc rfl (sc rfl (sc rfl sn))) (by decide) rfl rfl rfl) (fun s17 m27 y6 hy6 hx12 => ?_))
              unfold ref10_Light_s1 at hy6
              refine Tr.seq ?_
              refine Tr.seq ?_
              refine Tr.region ?_
              refine TrL.v (v_move rfl rfl) rfl rfl (bl rfl) ?_
              refine TrL.v (v_move rfl rfl) rfl rfl (bl rfl) ?_
              refine TrL.v (v_fieldAddr' rfl fo60_1 rfl rfl) rfl rfl (bl rfl) ?_
              refine TrL.v (v_indexArr rfl ar58 ty22 rfl rfl (by decide) (by decide) rfl) rfl rfl (bl rfl) ?_
              refine TrL.v (v_load (k := 0) rfl rfl rfl ty22 (fun _ => rfl) rfl rfl) rfl rfl (bl rfl) ?_
              refine TrL.v (v_len rfl sl22 rfl) rfl rfl (bl rfl) ?_
              refine TrL.v (v_arith rfl rfl rfl ar_lss) rfl rfl (bl rfl) ?_
              refine TrL.nil (qthen_n ?_)
              rcases ifc hy6 with ⟨h41, hy6⟩ | ⟨h41, hy6⟩
              · refine Tr.cond_t rfl (bt_dec h41) ?_
                refine Tr.skip (qthen_n ?_)
                refine Tr.seq ?_
                refine Tr.block ?_
                refine Tr.seq ?_
                refine Tr.region ?_
                refine TrL.v (v_move rfl rfl) rfl rfl (bl rfl) ?_
                refine TrL.v (v_fieldAddr' rfl fo60_1 rfl rfl) rfl rfl (bl rfl) ?_
                refine TrL.v (v_indexArr rfl ar58 ty22 rfl rfl (by decide) (by decide) rfl) rfl rfl (bl rfl) ?_
                refine TrL.v (v_load (k := 0) rfl rfl rfl ty22 (fun _ => rfl) rfl rfl) rfl rfl (bl rfl) ?_
                refine TrL.v (v_move rfl rfl) rfl rfl (bl rfl) ?_
                obtain ⟨z18, hz18, hy6⟩ := bnd hy6
                refine TrL.v (v_indexAddr (k := 1) rfl sl22 ty103 rfl rfl rfl rfl hz18) rfl rfl (bl rfl) ?_
                refine TrL.v (v_fieldAddr rfl fo103_1 rfl) rfl rfl (bl rfl) ?_
                refine TrL.v (v_loadg (A := A2) (i := s17) (j := 1) (k := 1) rfl ty28 (fun _ => rfl) rfl rfl hz18 rfl rfl) rfl rfl (bl rfl) ?_
                refine TrL.v (v_arith rfl rfl rfl ar_gtr) rfl rfl (bl rfl) ?_
                refine TrL.nil (qthen_n ?_)
                rcases ifc hy6 with ⟨h42, hy6⟩ | ⟨h42, hy6⟩
                · refine Tr.cond_t rfl (bt_dec h42) ?_
                  refine Tr.seq ?_
                  refine Tr.region ?_
                  refine TrL.v (v_assign rfl rfl) rfl rfl (bl rfl) ?_
                  refine TrL.nil (qthen_n ?_)
                  have hz := Option.some.inj hy6
                  subst hz
                  refine Tr.ret (qblock_r (qthen_r (qloop_r (qblock_r (qcut_miss (by simp) (qcut_hit (()) (()) (hx12 _ rfl).symm (Imp.re _ [] [] (sc rfl sn) (by decide) rfl rfl rfl)))))))
                · refine Tr.cond_f rfl (bf_dec h42) ?_
                  refine Tr.skip (qblock_n (qthen_n ?_))
                  refine Tr.region ?_
                  refine TrL.v (v_move rfl rfl) rfl rfl (bl rfl) ?_
                  refine TrL.v (v_arith rfl rfl rfl ar_add_i64) rfl rfl (bl rfl) ?_
                  refine TrL.v (v_assign rfl rfl) rfl rfl (bl rfl) ?_
                  have hz := Option.some.inj hy6
                  subst hz
                  refine TrL.nil (qloop_n (()) (Imp.re _ [0] [0, 1, 2, 3] (sc rfl (sc rfl (sc rfl sn))) (by decide) rfl rfl rfl))
              · refine Tr.cond_f rfl (bf_dec h41) ?_
                have hz := Option.some.inj hy6
                subst hz
                refine Tr.exit (qthen_x (qloop_x (qblock_hit (qcut_hit (()) (()) (hx12 _ rfl).symm (Imp.re _ [0] [0, 1, 2, 3] (sc rfl (sc rfl sn)) (by decide) rfl rfl rfl)))))
            · subst hd12
              replace H := sumr H
              refine (qcut_miss (by simp) (qblock_n (qthen_n ?_)))
              refine Tr.region ?_
              refine TrL.v (v_move rfl rfl) rfl rfl (bl rfl) ?_
              refine TrL.v (v_arith (v := .int .i64 2) rfl rfl rfl rfl) rfl rfl (bl rfl) ?_
              refine TrL.v (v_assign rfl rfl) rfl rfl (bl rfl) ?_
              refine TrL.nil (qthen_n ?_)
              refine Tr.loop ?_
              refine Tr.seq ?_
              refine Tr.seq ?_
              refine Tr.region ?_
              refine TrL.v (v_move rfl rfl) rfl rfl (bl rfl) ?_
              refine TrL.v (v_arith (v := .bool true) rfl rfl rfl rfl) rfl rfl (bl rfl) ?_
              refine TrL.nil (qthen_n ?_)
              refine Tr.cond_t rfl rfl ?_
              refine Tr.skip (qthen_n ?_)
              refine Tr.seq ?_
              refine Tr.block ?_
              refine Tr.seq ?_
              refine Tr.seq ?_
              refine Tr.region ?_
              refine TrL.v (v_move rfl rfl) rfl rfl (bl rfl) ?_
              refine TrL.v (v_fieldAddr' rfl fo60_1 rfl rfl) rfl rfl (bl rfl) ?_
              refine TrL.v (v_indexArr rfl ar58 ty22 rfl rfl (by decide) (by decide) rfl) rfl rfl (bl rfl) ?_
              refine TrL.v (v_load (k := 0) rfl rfl rfl ty22 (fun _ => rfl) rfl rfl) rfl rfl (bl rfl) ?_
              refine TrL.v (v_len rfl sl22 rfl) rfl rfl (bl rfl) ?_
              refine TrL.v (v_arith rfl rfl rfl ar_gtr) rfl rfl (bl rfl) ?_
              refine TrL.nil (qthen_n ?_)
              rcases ifc H with ⟨h43, H⟩ | ⟨h43, H⟩
              · refine Tr.cond_t rfl (bt_dec h43) ?_
                refine Tr.seq ?_
                refine Tr.region ?_
                refine TrL.v (v_assign rfl rfl) rfl rfl (bl rfl) ?_
                refine TrL.nil (qthen_n ?_)
                have hz := Option.some.inj H
                subst hz
                refine Tr.ret (qthen_r (qblock_r (qthen_r (qthen_r (qblock_r (qthen_r (ret_r ⟨[(2, .bool false)], [], [], []⟩ [.bool false] [] [] (Imp.re _ [] [] (sc rfl sn) (by decide) rfl rfl rfl) rfl rfl ⟨rfl, rfl, rfl⟩ (.cons (resv_tmp rfl) .nil))))))))
              · refine Tr.cond_f rfl (bf_dec h43) ?_
                refine Tr.skip (qthen_n ?_)
                refine Tr.seq ?_
                refine Tr.region ?_
                refine TrL.v (v_assign rfl rfl) rfl rfl (bl rfl) ?_
                refine TrL.nil (qthen_n ?_)
                obtain ⟨x7, hx13, H⟩ := bnd H
                refine Tr.cutE (D := Unit) (M := Unit) .ret (fun d13 => x7 = .inl d13) (fun d13 m34 => ⟨[(2, .bool false)], [], [], []⟩) ?_ (fun d13 m34 hd13 => ?_)
                · refine Tr.cutE (D := Unit) (M := Unit) .normal (fun d14 => x7 = .inr d14) (fun d14 m35 => ⟨[(1, .pointer (some ⟨b2, 0, none⟩)), (3, .int .i64 2)], [cells b2 [.int .i64 p1.1, .slice A1 p1.2.1.length c1, .slice A2 p1.2.2.1.length c2, .slice A3 p1.2.2.2.1.length c3, .slice A4 p1.2.2.2.2.1.length c4, .int .u8 p1.2.2.2.2.2] 60], [slF rp_u64_u64 A1 c1 p1.2.1, slF rp_u64_u64 A2 c2 p1.2.2.1, slF rp_u64_u64 A3 c3 p1.2.2.2.1, slF rp_u64_u64 A4 c4 p1.2.2.2.2.1], []⟩) ?_ (fun d14 m35 hd14 => ?_)
                  · refine Tr.block (Tr.loopI (ι := Unit) (step := ref10_Light_s2 p1) (fun s20 m32 => ⟨[(1, .pointer (some ⟨b2, 0, none⟩)), (3, .int .i64 2), (4, .int .i64 s20)], [cells b2 [.int .i64 p1.1, .slice A1 p1.2.1.length c1, .slice A2 p1.2.2.1.length c2, .slice A3 p1.2.2.2.1.length c3, .slice A4 p1.2.2.2.2.1.length c4, .int .u8 p1.2.2.2.2.2] 60], [slF rp_u64_u64 A1 c1 p1.2.1, slF rp_u64_u64 A2 c2 p1.2.2.1, slF rp_u64_u64 A3 c3 p1.2.2.2.1, slF rp_u64_u64 A4 c4 p1.2.2.2.2.1], []⟩) (()) hx13 (Imp.re _ [0] [0, 1, 2, 3] (sc rfl (sc rfl (sc rfl sn))) (by decide) rfl rfl rfl) (fun s20 m32 y7 hy7 hx14 => ?_))
                    unfold ref10_Light_s2 at hy7
                    refine Tr.seq ?_
                    refine Tr.seq ?_
                    refine Tr.region ?_
                    refine TrL.v (v_move rfl rfl) rfl rfl (bl rfl) ?_
                    refine TrL.v (v_move rfl rfl) rfl rfl (bl rfl) ?_
                    refine TrL.v (v_fieldAddr' rfl fo60_1 rfl rfl) rfl rfl (bl rfl) ?_
                    refine TrL.v (v_indexArr rfl ar58 ty22 rfl rfl (by decide) (by decide) rfl) rfl rfl (bl rfl) ?_
                    refine TrL.v (v_load (k := 0) rfl rfl rfl ty22 (fun _ => rfl) rfl rfl) rfl rfl (bl rfl) ?_
                    refine TrL.v (v_len rfl sl22 rfl) rfl rfl (bl rfl) ?_
                    refine TrL.v (v_arith rfl rfl rfl ar_lss) rfl rfl (bl rfl) ?_
                    refine TrL.nil (qthen_n ?_)
                    rcases ifc hy7 with ⟨h48, hy7⟩ | ⟨h48, hy7⟩
                    · refine Tr.cond_t rfl (bt_dec h48) ?_
                      refine Tr.skip (qthen_n ?_)
                      refine Tr.seq ?_
                      refine Tr.block ?_
                      refine Tr.seq ?_
                      refine Tr.region ?_
                      refine TrL.v (v_move rfl rfl) rfl rfl (bl rfl) ?_
                      refine TrL.v (v_fieldAddr' rfl fo60_1 rfl rfl) rfl rfl (bl rfl) ?_
                      refine TrL.v (v_indexArr rfl ar58 ty22 rfl rfl (by decide) (by decide) rfl) rfl rfl (bl rfl) ?_
                      refine TrL.v (v_load (k := 0) rfl rfl rfl ty22 (fun _ => rfl) rfl rfl) rfl rfl (bl rfl) ?_
                      refine TrL.v (v_move rfl rfl) rfl rfl (bl rfl) ?_
                      obtain ⟨z21, hz21, hy7⟩ := bnd hy7
                      refine TrL.v (v_indexAddr (k := 2) rfl sl22 ty103 rfl rfl rfl rfl hz21) rfl rfl (bl rfl) ?_
                      refine TrL.v (v_fieldAddr rfl fo103_1 rfl) rfl rfl (bl rfl) ?_
                      refine TrL.v (v_loadg (A := A3) (i := s20) (j := 1) (k := 2) rfl ty28 (fun _ => rfl) rfl rfl hz21 rfl rfl) rfl rfl (bl rfl) ?_
                      refine TrL.v (v_arith rfl rfl rfl ar_gtr) rfl rfl (bl rfl) ?_
                      refine TrL.nil (qthen_n ?_)
                      rcases ifc hy7 with ⟨h49, hy7⟩ | ⟨h49, hy7⟩
                      · refine Tr.cond_t rfl (bt_dec h49) ?_
                        refine Tr.seq ?_
                        refine Tr.region ?_
                        refine TrL.v (v_assign rfl rfl) rfl rfl (bl rfl) ?_
                        refine TrL.nil (qthen_n ?_)
                        have hz := Option.some.inj hy7
                        subst hz
                        refine Tr.ret (qblock_r (qthen_r (qloop_r (qblock_r (qcut_miss (by simp) (qcut_hit (()) (()) (hx14 _ rfl).symm (Imp.re _ [] [] (sc rfl sn) (by decide) rfl rfl rfl)))))))
                      · refine Tr.cond_f rfl (bf_dec h49) ?_
                        refine Tr.skip (qblock_n (qthen_n ?_))
                        refine Tr.region ?_
                        refine TrL.v (v_move rfl rfl) rfl rfl (bl rfl) ?_
                        refine TrL.v (v_arith rfl rfl rfl ar_add_i64) rfl rfl (bl rfl) ?_
                        refine TrL.v (v_assign rfl rfl) rfl rfl (bl rfl) ?_
                        have hz := Option.some.inj hy7
                        subst hz
                        refine TrL.nil (qloop_n (()) (Imp.re _ [0] [0, 1, 2, 3] (sc rfl (sc rfl (sc rfl sn))) (by decide) rfl rfl rfl))
                    · refine Tr.cond_f rfl (bf_dec h48) ?_
                      have hz := Option.some.inj hy7
                      subst hz
                      refine Tr.exit (qthen_x (qloop_x (qblock_hit (qcut_hit (()) (()) (hx14 _ rfl).symm (Imp.re _ [0] [0, 1, 2, 3] (sc rfl (sc rfl sn)) (by decide) rfl rfl rfl)))))
                  · subst hd14
                    replace H := sumr H
                    refine (qcut_miss (by simp) (qblock_n (qthen_n ?_)))
                    refine Tr.region ?_
                    refine TrL.v (v_move rfl rfl) rfl rfl (bl rfl) ?_
                    refine TrL.v (v_arith (v := .int .i64 3) rfl rfl rfl rfl) rfl rfl (bl rfl) ?_
                    refine TrL.v (v_assign rfl rfl) rfl rfl (bl rfl) ?_
                    refine TrL.nil (qthen_n ?_)
                    refine Tr.loop ?_
                    refine Tr.seq ?_
                    refine Tr.seq ?_
                    refine Tr.region ?_
                    refine TrL.v (v_move rfl rfl) rfl rfl (bl rfl) ?_
                    refine TrL.v (v_arith (v := .bool true) rfl rfl rfl rfl) rfl rfl (bl rfl) ?_
                    refine TrL.nil (qthen_n ?_)
                    refine Tr.cond_t rfl rfl ?_
                    refine Tr.skip (qthen_n ?_)
                    refine Tr.seq ?_
                    refine Tr.block ?_
                    refine Tr.seq ?_
                    refine Tr.seq ?_
                    refine Tr.region ?_
                    refine TrL.v (v_move rfl rfl) rfl rfl (bl rfl) ?_
                    refine TrL.v (v_fieldAddr' rfl fo60_1 rfl rfl) rfl rfl (bl rfl) ?_
                    refine TrL.v (v_indexArr rfl ar58 ty22 rfl rfl (by decide) (by decide) rfl) rfl rfl (bl rfl) ?_
                    refine TrL.v (v_load (k := 0) rfl rfl rfl ty22 (fun _ => rfl) rfl rfl) rfl rfl (bl rfl) ?_
                    refine TrL.v (v_len rfl sl22 rfl) rfl rfl (bl rfl) ?_
                    refine TrL.v (v_arith rfl rfl rfl ar_gtr) rfl rfl (bl rfl) ?_
                    refine TrL.nil (qthen_n ?_)
                    rcases ifc H with ⟨h50, H⟩ | ⟨h50, H⟩
                    · refine Tr.cond_t rfl (bt_dec h50) ?_
                      refine Tr.seq ?_
                      refine Tr.region ?_
                      refine TrL.v (v_assign rfl rfl) rfl rfl (bl rfl) ?_
                      refine TrL.nil (qthen_n ?_)
                      have hz := Option.some.inj H
                      subst hz
                      refine Tr.ret (qthen_r (qblock_r (qthen_r (qthen_r (qblock_r (qthen_r (ret_r ⟨[(2, .bool false)], [], [], []⟩ [.bool false] [] [] (Imp.re _ [] [] (sc rfl sn) (by decide) rfl rfl rfl) rfl rfl ⟨rfl, rfl, rfl⟩ (.cons (resv_tmp rfl) .nil))))))))
                    · refine Tr.cond_f rfl (bf_dec h50) ?_
                      refine Tr.skip (qthen_n ?_)
                      refine Tr.seq ?_
                      refine Tr.region ?_
                      refine TrL.v (v_assign rfl rfl) rfl rfl (bl rfl) ?_
                      refine TrL.nil (qthen_n ?_)
                      obtain ⟨x8, hx15, H⟩ := bnd H
                      refine Tr.cutE (D := Unit) (M := Unit) .ret (fun d15 => x8 = .inl d15) (fun d15 m39 => ⟨[(2, .bool false)], [], [], []⟩) ?_ (fun d15 m39 hd15 => ?_)
                      · refine Tr.cutE (D := Unit) (M := Unit) .normal (fun d16 => x8 = .inr d16) (fun d16 m40 => ⟨[(1, .pointer (some ⟨b2, 0, none⟩)), (3, .int .i64 3)], [cells b2 [.int .i64 p1.1, .slice A1 p1.2.1.length c1, .slice A2 p1.2.2.1.length c2, .slice A3 p1.2.2.2.1.length c3, .slice A4 p1.2.2.2.2.1.length c4, .int .u8 p1.2.2.2.2.2] 60], [slF rp_u64_u64 A1 c1 p1.2.1, slF rp_u64_u64 A2 c2 p1.2.2.1, slF rp_u64_u64 A3 c3 p1.2.2.2.1, slF rp_u64_u64 A4 c4 p1.2.2.2.2.1], []⟩) ?_ (fun d16 m40 hd16 => ?_)
                        · refine Tr.block (Tr.loopI (ι := Unit) (step := ref10_Light_s3 p1) (fun s23 m37 => ⟨[(1, .pointer (some ⟨b2, 0, none⟩)), (3, .int .i64 3), (4, .int .i64 s23)], [cells b2 [.int .i64 p1.1, .slice A1 p1.2.1.length c1, .slice A2 p1.2.2.1.length c2, .slice A3 p1.2.2.2.1.length c3, .slice A4 p1.2.2.2.2.1.length c4, .int .u8 p1.2.2.2.2.2] 60], [slF rp_u64_u64 A1 c1 p1.2.1, slF rp_u64_u64 A2 c2 p1.2.2.1, slF rp_u64_u64 A3 c3 p1.2.2.2.1, slF rp_u64_u64 A4 c4 p1.2.2.2.2.1], []⟩) (()) hx15 (Imp.re _ [0] [0, 1, 2, 3] (sc rfl (sc rfl (sc rfl sn))) (by decide) rfl rfl rfl) (fun s23 m37 y8 hy8 hx16 => ?_))
                          unfold ref10_Light_s3 at hy8
                          refine Tr.seq ?_
                          refine Tr.seq ?_
                          refine Tr.region ?_
                          refine TrL.v (v_move rfl rfl) rfl rfl (bl rfl) ?_
                          refine TrL.v (v_move rfl rfl) rfl rfl (bl rfl) ?_
                          refine TrL.v (v_fieldAddr' rfl fo60_1 rfl rfl) rfl rfl (bl rfl) ?_
                          refine TrL.v (v_indexArr rfl ar58 ty22 rfl rfl (by decide) (by decide) rfl) rfl rfl (bl rfl) ?_
                          refine TrL.v (v_load (k := 0) rfl rfl rfl ty22 (fun _ => rfl) rfl rfl) rfl rfl (bl rfl) ?_
                          refine TrL.v (v_len rfl sl22 rfl) rfl rfl (bl rfl) ?_
                          refine TrL.v (v_arith rfl rfl rfl ar_lss) rfl rfl (bl rfl) ?_
                          refine TrL.nil (qthen_n ?_)
                          rcases ifc hy8 with ⟨h55, hy8⟩ | ⟨h55, hy8⟩
                          · refine Tr.cond_t rfl (bt_dec h55) ?_
                            refine Tr.skip (qthen_n ?_)
                            refine Tr.seq ?_
                            refine Tr.block ?_
                            refine Tr.seq ?_
                            refine Tr.region ?_
                            refine TrL.v (v_move rfl rfl) rfl rfl (bl rfl) ?_
                            refine TrL.v (v_fieldAddr' rfl fo60_1 rfl rfl) rfl rfl (bl rfl) ?_
                            refine TrL.v (v_indexArr rfl ar58 ty22 rfl rfl (by decide) (by decide) rfl) rfl rfl (bl rfl) ?_
                            refine TrL.v (v_load (k := 0) rfl rfl rfl ty22 (fun _ => rfl) rfl rfl) rfl rfl (bl rfl) ?_
                            refine TrL.v (v_move rfl rfl) rfl rfl (bl rfl) ?_
                            obtain ⟨z24, hz24, hy8⟩ := bnd hy8
                            refine TrL.v (v_indexAddr (k := 3) rfl sl22 ty103 rfl rfl rfl rfl hz24) rfl rfl (bl rfl) ?_
                            refine TrL.v (v_fieldAddr rfl fo103_1 rfl) rfl rfl (bl rfl) ?_
                            refine TrL.v (v_loadg (A := A4) (i := s23) (j := 1) (k := 3) rfl ty28 (fun _ => rfl) rfl rfl hz24 rfl rfl) rfl rfl (bl rfl) ?_
                            refine TrL.v (v_arith rfl rfl rfl ar_gtr) rfl rfl (bl rfl) ?_
                            refine TrL.nil (qthen_n ?_)
                            rcases ifc hy8 with ⟨h56, hy8⟩ | ⟨h56, hy8⟩
                            · refine Tr.cond_t rfl (bt_dec h56) ?_
                              refine Tr.seq ?_
                              refine Tr.region ?_
                              refine TrL.v (v_assign rfl rfl) rfl rfl (bl rfl) ?_
                              refine TrL.nil (qthen_n ?_)
                              have hz := Option.some.inj hy8
                              subst hz
                              refine Tr.ret (qblock_r (qthen_r (qloop_r (qblock_r (qcut_miss (by simp) (qcut_hit (()) (()) (hx16 _ rfl).symm (Imp.re _ [] [] (sc rfl sn) (by decide) rfl rfl rfl)))))))
                            · refine Tr.cond_f rfl (bf_dec h56) ?_
                              refine Tr.skip (qblock_n (qthen_n ?_))
                              refine Tr.region ?_
                              refine TrL.v (v_move rfl rfl) rfl rfl (bl rfl) ?_
                              refine TrL.v (v_arith rfl rfl rfl ar_add_i64) rfl rfl (bl rfl) ?_
                              refine TrL.v (v_assign rfl rfl) rfl rfl (bl rfl) ?_
                              have hz := Option.some.inj hy8
                              subst hz
                              refine TrL.nil (qloop_n (()) (Imp.re _ [0] [0, 1, 2, 3] (sc rfl (sc rfl (sc rfl sn))) (by decide) rfl rfl rfl))
                          · refine Tr.cond_f rfl (bf_dec h55) ?_
                            have hz := Option.some.inj hy8
                            subst hz
                            refine Tr.exit (qthen_x (qloop_x (qblock_hit (qcut_hit (()) (()) (hx16 _ rfl).symm (Imp.re _ [0] [0, 1, 2, 3] (sc rfl (sc rfl sn)) (by decide) rfl rfl rfl)))))
                        · subst hd16
                          replace H := sumr H
                          refine (qcut_miss (by simp) (qblock_n (qthen_n ?_)))
                          refine Tr.region ?_
                          refine TrL.v (v_move rfl rfl) rfl rfl (bl rfl) ?_
                          refine TrL.v (v_arith (v := .int .i64 4) rfl rfl rfl rfl) rfl rfl (bl rfl) ?_
                          refine TrL.v (v_assign rfl rfl) rfl rfl (bl rfl) ?_
                          refine TrL.nil (qthen_n ?_)
                          refine Tr.loop ?_
                          refine Tr.seq ?_
                          refine Tr.seq ?_
                          refine Tr.region ?_
                          refine TrL.v (v_move rfl rfl) rfl rfl (bl rfl) ?_
                          refine TrL.v (v_arith (v := .bool false) rfl rfl rfl rfl) rfl rfl (bl rfl) ?_
                          refine TrL.nil (qthen_n ?_)
                          refine Tr.cond_f rfl rfl ?_
                          refine Tr.exit (qthen_x (qthen_x (qblock_hit (qthen_n ?_))))
                          refine Tr.seq ?_
                          refine Tr.region ?_
                          refine TrL.v (v_assign rfl rfl) rfl rfl (bl rfl) ?_
                          refine TrL.nil (qthen_n ?_)
                          have hz := Option.some.inj H
                          subst hz
                          refine Tr.ret (ret_r ⟨[(2, .bool true)], [], [], []⟩ [.bool true] [] [] (Imp.re _ [] [] (sc rfl sn) (by decide) rfl rfl rfl) rfl rfl ⟨rfl, rfl, rfl⟩ (.cons (resv_tmp rfl) .nil))
                      · subst hd15
                        replace H := suml H
                        have hz := Option.some.inj H
                        subst hz
                        refine (qblock_r (qthen_r (qthen_r (qblock_r (qthen_r (ret_r ⟨[(2, .bool false)], [], [], []⟩ [.bool false] [] [] (Imp.re _ [] [] (sc rfl sn) (by decide) rfl rfl rfl) rfl rfl ⟨rfl, rfl, rfl⟩ (.cons (resv_tmp rfl) .nil)))))))
                · subst hd13
                  replace H := suml H
                  have hz := Option.some.inj H
                  subst hz
                  refine (qblock_r (qthen_r (qthen_r (qblock_r (qthen_r (ret_r ⟨[(2, .bool false)], [], [], []⟩ [.bool false] [] [] (Imp.re _ [] [] (sc rfl sn) (by decide) rfl rfl rfl) rfl rfl ⟨rfl, rfl, rfl⟩ (.cons (resv_tmp rfl) .nil)))))))
          · subst hd11
            replace H := suml H
            have hz := Option.some.inj H
            subst hz
            refine (qblock_r (qthen_r (qthen_r (qblock_r (qthen_r (ret_r ⟨[(2, .bool false)], [], [], []⟩ [.bool false] [] [] (Imp.re _ [] [] (sc rfl sn) (by decide) rfl rfl rfl) rfl rfl ⟨rfl, rfl, rfl⟩ (.cons (resv_tmp rfl) .nil)))))))
    · subst hd9
      replace H := suml H
      have hz := Option.some.inj H
      subst hz
      refine (qblock_r (qthen_r (qthen_r (qblock_r (qthen_r (ret_r ⟨[(2, .bool false)], [], [], []⟩ [.bool false] [] [] (Imp.re _ [] [] (sc rfl sn) (by decide) rfl rfl rfl) rfl rfl ⟨rfl, rfl, rfl⟩ (.cons (resv_tmp rfl) .nil)))))))

theorem c_ref10_weighed (p1 : List (Int × Int × Int)) (A1 : Option Addr) (c1 : Nat) (r : Bool × Bool × Int) (H : ref10_weighed p1 = some r) :
    Ctr Try.prog 184 [.slice A1 p1.length c1] [] [slF rp_u64_u64_u64 A1 c1 p1] (fun ret M' F' => ret = .tuple #[.bool r.1, .bool r.2.1, .int .u64 r.2.2] ∧ M' = [] ∧ F' = []) := by
  unfold ref10_weighed at H
  refine ctr_ofI (N := 45) Try.func184 rfl Try.ntmps184 rfl (Nat.le_of_ble_eq_true rfl) (fun γ0 w0 => ?_)
  refine Tr.seq ?_
  refine Tr.region ?_
  refine TrL.v (v_assign rfl rfl) rfl rfl (bl rfl) ?_
  refine TrL.v (v_assign rfl rfl) rfl rfl (bl rfl) ?_
  refine TrL.v (v_assign rfl rfl) rfl rfl (bl rfl) ?_
  refine TrL.nil (qthen_n ?_)
  refine Tr.seq ?_
  refine Tr.region ?_
  refine TrL.v (v_assign rfl rfl) rfl rfl (bl rfl) ?_
  refine TrL.nil (qthen_n ?_)
  refine Tr.seq ?_
  refine Tr.region ?_
  refine TrL.v (v_assign rfl rfl) rfl rfl (bl rfl) ?_
  refine TrL.nil (qthen_n ?_)
  refine Tr.seq ?_
  refine Tr.region ?_
  refine TrL.v (v_assign rfl rfl) rfl rfl (bl rfl) ?_
  refine TrL.nil (qthen_n ?_)
  refine Tr.seq ?_
  refine Tr.seq ?_
  refine Tr.region ?_
  refine TrL.v (v_assign rfl rfl) rfl rfl (bl rfl) ?_
  refine TrL.nil (qthen_n ?_)
  obtain ⟨x2, hx3, H⟩ := bnd H
  refine Tr.cutE (D := Bool × Bool × Int) (M := Unit) .normal (fun _d => x2 = _d) (fun x2 m14 => ⟨[(5, .bool x2.1), (6, .bool x2.2.1), (7, .int .u64 x2.2.2)], [], [], []⟩) ?_ (fun x2 m14 hd10 => ?_)
  · refine Tr.block (Tr.loopI (ι := Unit) (step := ref10_weighed_s0 p1) (fun s5 m10 => ⟨[(0, .slice A1 p1.length c1), (5, .bool s5.1), (6, .bool s5.2.1), (7, .int .u64 s5.2.2.1), (8, .int .i64 s5.2.2.2)], [], [slF rp_u64_u64_u64 A1 c1 p1], []⟩) (()) hx3 (Imp.re _ [] [0] (sc rfl (sc rfl (sc rfl (sc rfl (sc rfl sn))))) (by decide) rfl rfl rfl) (fun s5 m10 y2 hy2 hx4 => ?_))
    unfold ref10_weighed_s0 at hy2
    refine Tr.seq ?_
    refine Tr.seq ?_
    refine Tr.region ?_
    refine TrL.v (v_move rfl rfl) rfl rfl (bl rfl) ?_
    refine TrL.v (v_move rfl rfl) rfl rfl (bl rfl) ?_
    refine TrL.v (v_len rfl sl71 rfl) rfl rfl (bl rfl) ?_
    refine TrL.v (v_arith rfl rfl rfl ar_lss) rfl rfl (bl rfl) ?_
    refine TrL.nil (qthen_n ?_)
    rcases ifc hy2 with ⟨h24, hy2⟩ | ⟨h24, hy2⟩
    · refine Tr.cond_t rfl (bt_dec h24) ?_
      refine Tr.skip (qthen_n ?_)
      refine Tr.seq ?_
      refine Tr.block ?_
      refine Tr.seq ?_
      obtain ⟨j7, hj7, hy2⟩ := bnd hy2
      refine Tr.cutE (D := Bool) (M := Unit) .normal (fun _d => j7 = _d) (fun j7 m15 => ⟨[(0, .slice A1 p1.length c1), (5, .bool j7), (6, .bool s5.2.1), (7, .int .u64 s5.2.2.1), (8, .int .i64 s5.2.2.2)], [], [slF rp_u64_u64_u64 A1 c1 p1], []⟩) ?_ (fun j7 m15 hd8 => ?_)
      · refine Tr.region ?_
        refine TrL.v (v_move rfl rfl) rfl rfl (bl rfl) ?_
        refine TrL.v (v_move rfl rfl) rfl rfl (bl rfl) ?_
        rcases ifc hj7 with ⟨h27, hj7⟩ | ⟨h27, hj7⟩
        · refine TrL.cons_yes rfl rfl rfl h27 (OpTr.v (v_move rfl rfl) rfl (bl rfl) ?_)
          refine TrL.cons_yes rfl rfl rfl h27 (OpTr.v (v_move rfl rfl) rfl (bl rfl) ?_)
          obtain ⟨z28, hz28, hj7⟩ := bnd hj7
          refine TrL.cons_yes rfl rfl rfl h27 (OpTr.v (v_indexAddr (k := 0) rfl sl71 ty85 rfl rfl rfl rfl hz28) rfl (bl rfl) ?_)
          refine TrL.cons_yes rfl rfl rfl h27 (OpTr.v (v_fieldAddr rfl fo85_2 rfl) rfl (bl rfl) ?_)
          refine TrL.cons_yes rfl rfl rfl h27 (OpTr.v (v_loadg (A := A1) (i := s5.2.2.2) (j := 2) (k := 0) rfl ty28 (fun _ => rfl) rfl rfl hz28 rfl rfl) rfl (bl rfl) ?_)
          refine TrL.cons_yes rfl rfl rfl h27 (OpTr.v (v_arith rfl rfl rfl ar_gtr) rfl (bl rfl) ?_)
          refine TrL.v (v_pick_t rfl rfl h27 rfl) rfl rfl (bl rfl) ?_
          refine TrL.v (v_assign rfl rfl) rfl rfl (bl rfl) ?_
          refine TrL.nil (qcut_hit (decide (0 < z28.2.2)) (()) (Option.some.inj hj7).symm (Imp.re _ [] [0] (sc rfl (sc rfl (sc rfl (sc rfl (sc rfl sn))))) (by decide) rfl rfl rfl))
        · refine TrL.cons_no rfl rfl rfl (gn_t (bf_b h27)) rfl (bl rfl) ?_
          refine TrL.cons_no rfl rfl rfl (gn_t (bf_b h27)) rfl (bl rfl) ?_
          refine TrL.cons_no rfl rfl rfl (gn_t (bf_b h27)) rfl (bl rfl) ?_
          refine TrL.cons_no rfl rfl rfl (gn_t (bf_b h27)) rfl (bl rfl) ?_
          refine TrL.cons_no rfl rfl rfl (gn_t (bf_b h27)) rfl (bl rfl) ?_
          refine TrL.cons_no rfl rfl rfl (gn_t (bf_b h27)) rfl (bl rfl) ?_
          refine TrL.v (v_pick_f rfl rfl (bf_b h27) rfl) rfl rfl (bl rfl) ?_
          refine TrL.v (v_assign rfl rfl) rfl rfl (bl rfl) ?_
          refine TrL.nil (qcut_hit false (()) (Option.some.inj hj7).symm (Imp.re _ [] [0] (sc rfl (sc rfl (sc rfl (sc rfl (sc rfl sn))))) (by decide) rfl rfl rfl))
      · subst hd8
        refine (qthen_n ?_)
        refine Tr.seq ?_
        obtain ⟨j8, hj8, hy2⟩ := bnd hy2
        refine Tr.cutE (D := Bool) (M := Unit) .normal (fun _d => j8 = _d) (fun j8 m16 => ⟨[(0, .slice A1 p1.length c1), (5, .bool j7), (6, .bool j8), (7, .int .u64 s5.2.2.1), (8, .int .i64 s5.2.2.2)], [], [slF rp_u64_u64_u64 A1 c1 p1], []⟩) ?_ (fun j8 m16 hd9 => ?_)
        · refine Tr.region ?_
          refine TrL.v (v_move rfl rfl) rfl rfl (bl rfl) ?_
          refine TrL.v (v_move rfl rfl) rfl rfl (bl rfl) ?_
          rcases ifc hj8 with ⟨h30, hj8⟩ | ⟨h30, hj8⟩
          · refine TrL.cons_yes rfl rfl rfl h30 (OpTr.v (v_move rfl rfl) rfl (bl rfl) ?_)
            refine TrL.cons_yes rfl rfl rfl h30 (OpTr.v (v_move rfl rfl) rfl (bl rfl) ?_)
            obtain ⟨z31, hz31, hj8⟩ := bnd hj8
            refine TrL.cons_yes rfl rfl rfl h30 (OpTr.v (v_indexAddr (k := 0) rfl sl71 ty85 rfl rfl rfl rfl hz31) rfl (bl rfl) ?_)
            refine TrL.cons_yes rfl rfl rfl h30 (OpTr.v (v_fieldAddr rfl fo85_0 rfl) rfl (bl rfl) ?_)
            refine TrL.cons_yes rfl rfl rfl h30 (OpTr.v (v_loadg (A := A1) (i := s5.2.2.2) (j := 0) (k := 0) rfl ty28 (fun _ => rfl) rfl rfl hz31 rfl rfl) rfl (bl rfl) ?_)
            refine TrL.cons_yes rfl rfl rfl h30 (OpTr.v (v_arith rfl rfl rfl ar_leq) rfl (bl rfl) ?_)
            refine TrL.v (v_pick_t rfl rfl h30 rfl) rfl rfl (bl rfl) ?_
            refine TrL.v (v_assign rfl rfl) rfl rfl (bl rfl) ?_
            refine TrL.nil (qcut_hit (decide (z31.1 ≤ 9223372036854775807)) (()) (Option.some.inj hj8).symm (Imp.re _ [] [0] (sc rfl (sc rfl (sc rfl (sc rfl (sc rfl sn))))) (by decide) rfl rfl rfl))
          · refine TrL.cons_no rfl rfl rfl (gn_t (bf_b h30)) rfl (bl rfl) ?_
            refine TrL.cons_no rfl rfl rfl (gn_t (bf_b h30)) rfl (bl rfl) ?_
            refine TrL.cons_no rfl rfl rfl (gn_t (bf_b h30)) rfl (bl rfl) ?_
            refine TrL.cons_no rfl rfl rfl (gn_t (bf_b h30)) rfl (bl rfl) ?_
            refine TrL.cons_no rfl rfl rfl (gn_t (bf_b h30)) rfl (bl rfl) ?_
            refine TrL.cons_no rfl rfl rfl (gn_t (bf_b h30)) rfl (bl rfl) ?_
            refine TrL.v (v_pick_f rfl rfl (bf_b h30) rfl) rfl rfl (bl rfl) ?_
            refine TrL.v (v_assign rfl rfl) rfl rfl (bl rfl) ?_
            refine TrL.nil (qcut_hit false (()) (Option.some.inj hj8).symm (Imp.re _ [] [0] (sc rfl (sc rfl (sc rfl (sc rfl (sc rfl sn))))) (by decide) rfl rfl rfl))
        · subst hd9
          refine (qthen_n ?_)
          refine Tr.region ?_
          refine TrL.v (v_move rfl rfl) rfl rfl (bl rfl) ?_
          refine TrL.v (v_move rfl rfl) rfl rfl (bl rfl) ?_
          refine TrL.v (v_move rfl rfl) rfl rfl (bl rfl) ?_
          obtain ⟨z32, hz32, hy2⟩ := bnd hy2
          refine TrL.v (v_indexAddr (k := 0) rfl sl71 ty85 rfl rfl rfl rfl hz32) rfl rfl (bl rfl) ?_
          refine TrL.v (v_fieldAddr rfl fo85_2 rfl) rfl rfl (bl rfl) ?_
          refine TrL.v (v_loadg (A := A1) (i := s5.2.2.2) (j := 2) (k := 0) rfl ty28 (fun _ => rfl) rfl rfl hz32 rfl rfl) rfl rfl (bl rfl) ?_
          refine TrL.v (v_min rfl rfl rfl) rfl rfl (bl rfl) ?_
          refine TrL.v (v_arith rfl rfl rfl ar_add_u64) rfl rfl (bl rfl) ?_
          refine TrL.v (v_min rfl rfl rfl) rfl rfl (bl rfl) ?_
          refine TrL.v (v_assign rfl rfl) rfl rfl (bl rfl) ?_
          refine TrL.nil (qblock_n (qthen_n ?_))
          refine Tr.region ?_
          refine TrL.v (v_move rfl rfl) rfl rfl (bl rfl) ?_
          refine TrL.v (v_arith rfl rfl rfl ar_add_i64) rfl rfl (bl rfl) ?_
          refine TrL.v (v_assign rfl rfl) rfl rfl (bl rfl) ?_
          have hz := Option.some.inj hy2
          subst hz
          refine TrL.nil (qloop_n (()) (Imp.re _ [] [0] (sc rfl (sc rfl (sc rfl (sc rfl (sc rfl sn))))) (by decide) rfl rfl rfl))
    · refine Tr.cond_f rfl (bf_dec h24) ?_
      have hz := Option.some.inj hy2
      subst hz
      refine Tr.exit (qthen_x (qloop_x (qblock_hit (qcut_hit ((s5.1, s5.2.1, s5.2.2.1)) (()) (hx4 _ rfl).symm (Imp.re _ [] [] (sc rfl (sc rfl (sc rfl sn))) (by decide) rfl rfl rfl)))))
  · subst hd10
    refine (qthen_n ?_)
    refine Tr.seq ?_
    refine Tr.region ?_
    refine TrL.v (v_move rfl rfl) rfl rfl (bl rfl) ?_
    refine TrL.v (v_move rfl rfl) rfl rfl (bl rfl) ?_
    refine TrL.v (v_move rfl rfl) rfl rfl (bl rfl) ?_
    refine TrL.v (v_assign rfl rfl) rfl rfl (bl rfl) ?_
    refine TrL.v (v_assign rfl rfl) rfl rfl (bl rfl) ?_
    refine TrL.v (v_assign rfl rfl) rfl rfl (bl rfl) ?_
    refine TrL.nil (qthen_n ?_)
    have hz := Option.some.inj H
    subst hz
    refine Tr.ret (ret_r ⟨[(2, .bool x2.1), (3, .bool x2.2.1), (4, .int .u64 x2.2.2)], [], [], []⟩ [.bool x2.1, .bool x2.2.1, .int .u64 x2.2.2] [] [] (Imp.re _ [] [] (sc rfl (sc rfl (sc rfl sn))) (by decide) rfl rfl rfl) rfl rfl ⟨rfl, rfl, rfl⟩ (.cons (resv_tmp rfl) (.cons (resv_tmp rfl) (.cons (resv_tmp rfl) .nil))))

theorem c_ref10_bad (p1 : List (Int × Int × Int)) (p2 : List (Int × Int × List (List (Int × Int)))) (A1 : Option Addr) (c1 : Nat) (A2 : Option Addr) (c2 : Nat) (r : Int) (H : ref10_bad p1 p2 = some r) :
    Ctr Try.prog 166 [.slice A1 p1.length c1, .slice A2 p2.length c2] [] [slF rp_u64_u64_u64 A1 c1 p1, slF rp_i64_i64_LLOu64_u64_C A2 c2 p2] (fun ret M' F' => ret = .int .i64 r ∧ M' = [] ∧ F' = []) := by
  unfold ref10_bad at H
  refine ctr_ofI (N := 68) Try.func166 rfl Try.ntmps166 rfl (Nat.le_of_ble_eq_true rfl) (fun γ0 w0 => ?_)
  refine Tr.seq ?_
  refine Tr.region ?_
  refine TrL.v (v_assign rfl rfl) rfl rfl (bl rfl) ?_
  refine TrL.nil (qthen_n ?_)
  refine Tr.seq ?_
  refine Tr.region ?_
  refine TrL.v (v_move rfl rfl) rfl rfl (bl rfl) ?_
  obtain ⟨r5, hr5, H⟩ := bnd H
  refine TrL.cons rfl (op_call0' (vs := [.slice A1 p1.length c1]) (cap := []) [0] rfl rfl (bl rfl) rfl rfl en184 (c_ref10_weighed p1 A1 c1 r5 hr5) rfl (fun ret M' F' hR5 => ?_))
  obtain ⟨rfl, rfl, rfl⟩ := hR5
  refine TrL.v (v_move rfl rfl) rfl rfl (bl rfl) ?_
  refine TrL.v (v_extract rfl rfl rfl) rfl rfl (bl rfl) ?_
  refine TrL.v (v_extract rfl rfl rfl) rfl rfl (bl rfl) ?_
  refine TrL.v (v_extract rfl rfl rfl) rfl rfl (bl rfl) ?_
  refine TrL.v (v_assign rfl rfl) rfl rfl (bl rfl) ?_
  refine TrL.v (v_assign rfl rfl) rfl rfl (bl rfl) ?_
  refine TrL.v (v_assign rfl rfl) rfl rfl (bl rfl) ?_
  refine TrL.nil (qthen_n ?_)
  refine Tr.seq ?_
  refine Tr.seq ?_
  refine Tr.region ?_
  refine TrL.v (v_move rfl rfl) rfl rfl (bl rfl) ?_
  refine TrL.v (v_len rfl sl132 rfl) rfl rfl (bl rfl) ?_
  refine TrL.v (v_arith rfl rfl rfl ar_eql) rfl rfl (bl rfl) ?_
  refine TrL.v (v_move rfl rfl) rfl rfl (bl rfl) ?_
  rcases ifc H with ⟨h20, H⟩ | ⟨h20, H⟩
  · refine TrL.cons_no rfl rfl rfl (gn_f (bt_dec h20)) rfl (bl rfl) ?_
    refine TrL.cons_no rfl rfl rfl (gn_f (bt_dec h20)) rfl (bl rfl) ?_
    refine TrL.v (v_pick_t rfl rfl (bt_dec h20) rfl) rfl rfl (bl rfl) ?_
    refine TrL.nil (qthen_n ?_)
    refine Tr.cond_t rfl rfl ?_
    refine Tr.seq ?_
    refine Tr.region ?_
    refine TrL.v (v_assign rfl rfl) rfl rfl (bl rfl) ?_
    refine TrL.nil (qthen_n ?_)
    have hz := Option.some.inj H
    subst hz
    refine Tr.ret (qthen_r (ret_r ⟨[(4, .int .i64 1)], [], [], []⟩ [.int .i64 1] [] [] (Imp.re _ [] [] (sc rfl sn) (by decide) rfl rfl rfl) rfl rfl ⟨rfl, rfl, rfl⟩ (.cons (resv_tmp rfl) .nil)))
  · refine TrL.cons_yes rfl rfl rfl (bf_dec h20) (OpTr.v (v_move rfl rfl) rfl (bl rfl) ?_)
    refine TrL.cons_yes rfl rfl rfl (bf_dec h20) (OpTr.v (v_notd rfl (bdec rfl)) rfl (bl rfl) ?_)
    refine TrL.v (v_pick_f rfl rfl (bf_dec h20) rfl) rfl rfl (bl rfl) ?_
    refine TrL.nil (qthen_n ?_)
    rcases ifc H with ⟨h21, H⟩ | ⟨h21, H⟩
    · refine Tr.cond_t rfl (bt_dec h21) ?_
      refine Tr.seq ?_
      refine Tr.region ?_
      refine TrL.v (v_assign rfl rfl) rfl rfl (bl rfl) ?_
      refine TrL.nil (qthen_n ?_)
      have hz := Option.some.inj H
      subst hz
      refine Tr.ret (qthen_r (ret_r ⟨[(4, .int .i64 1)], [], [], []⟩ [.int .i64 1] [] [] (Imp.re _ [] [] (sc rfl sn) (by decide) rfl rfl rfl) rfl rfl ⟨rfl, rfl, rfl⟩ (.cons (resv_tmp rfl) .nil)))
    · refine Tr.cond_f rfl (bf_dec h21) ?_
      refine Tr.skip (qthen_n ?_)
      refine Tr.seq ?_
      refine Tr.region ?_
      refine TrL.v (v_assign rfl rfl) rfl rfl (bl rfl) ?_
      refine TrL.nil (qthen_n ?_)
      refine Tr.seq ?_
      refine Tr.region ?_
      refine TrL.v (v_move rfl rfl) rfl rfl (bl rfl) ?_
      refine TrL.v (v_assign rfl rfl) rfl rfl (bl rfl) ?_
      refine TrL.nil (qthen_n ?_)
      refine Tr.seq ?_
      refine Tr.region ?_
      refine TrL.v (v_move rfl rfl) rfl rfl (bl rfl) ?_
      refine TrL.v (v_arith rfl rfl rfl ar_gtr) rfl rfl (bl rfl) ?_
      refine TrL.v (v_assign rfl rfl) rfl rfl (bl rfl) ?_
      refine TrL.nil (qthen_n ?_)
      refine Tr.seq ?_
      refine Tr.seq ?_
      refine Tr.region ?_
      refine TrL.v (v_assign rfl rfl) rfl rfl (bl rfl) ?_
      refine TrL.nil (qthen_n ?_)
      obtain ⟨x2, hx3, H⟩ := bnd H
      refine Tr.cutE (D := Unit) (M := Unit) .ret (fun d3 => x2 = .inl d3) (fun d3 m32 => ⟨[(4, .int .i64 9)], [], [], []⟩) ?_ (fun d3 m32 hd3 => ?_)
      · refine Tr.cutE (D := Int × Bool) (M := Unit) .normal (fun d4 => x2 = .inr d4) (fun d4 m33 => ⟨[(6, .bool r5.2.1), (8, .int .i64 d4.1), (10, .bool d4.2)], [], [], []⟩) ?_ (fun d4 m33 hd4 => ?_)
        · refine Tr.block (Tr.loopI (ι := Unit) (step := ref10_bad_s0 p2) (fun s5 m25 => ⟨[(1, .slice A2 p2.length c2), (6, .bool r5.2.1), (8, .int .i64 s5.1), (9, .int .u64 s5.2.1), (10, .bool s5.2.2.1), (11, .int .i64 s5.2.2.2)], [], [slF rp_i64_i64_LLOu64_u64_C A2 c2 p2], []⟩) (()) hx3 (Imp.re _ [] [1] (sc rfl (sc rfl (sc rfl (sc rfl (sc rfl (sc rfl sn)))))) (by decide) rfl rfl rfl) (fun s5 m25 y2 hy2 hx4 => ?_))
          unfold ref10_bad_s0 at hy2
          refine Tr.seq ?_
          refine Tr.seq ?_
          refine Tr.region ?_
          refine TrL.v (v_move rfl rfl) rfl rfl (bl rfl) ?_
          refine TrL.v (v_move rfl rfl) rfl rfl (bl rfl) ?_
          refine TrL.v (v_len rfl sl132 rfl) rfl rfl (bl rfl) ?_
          refine TrL.v (v_arith rfl rfl rfl ar_lss) rfl rfl (bl rfl) ?_
          refine TrL.nil (qthen_n ?_)
          rcases ifc hy2 with ⟨h30, hy2⟩ | ⟨h30, hy2⟩
          · refine Tr.cond_t rfl (bt_dec h30) ?_
            refine Tr.skip (qthen_n ?_)
            refine Tr.seq ?_
            refine Tr.block ?_
            refine Tr.seq ?_
            refine Tr.seq ?_
            refine Tr.regionD drawn (fun hok => ?_)
            refine TrAny.prom (i := 0) (d := 34) hok (OpVal.plain rfl rfl (v_move rfl rfl)) (by kernel_rfl) rfl (bl rfl) ?_
            clear hok
            intro hok
            refine TrAny.prom (i := 1) (d := 35) hok (OpVal.plain rfl rfl (v_move rfl rfl)) (by kernel_rfl) rfl (bl rfl) ?_
            clear hok
            intro hok
            obtain ⟨z19, hz19, hy2⟩ := bnd hy2
            refine TrAny.prom (i := 2) (d := 36) hok (OpVal.plain rfl rfl (v_indexAddr (k := 0) rfl sl132 ty26 rfl rfl rfl rfl hz19)) (by kernel_rfl) rfl (bl rfl) ?_
            clear hok
            intro hok
            refine TrAny.prom (i := 3) (d := 37) hok (OpVal.plain rfl rfl (v_fieldAddr rfl fo26_0 rfl)) (by kernel_rfl) rfl (bl rfl) ?_
            clear hok
            intro hok
            refine TrAny.openP (k := 0) rfl hz19 hok (fun m36 hok => ?_)
            refine TrAny.prom (i := 4) (d := 38) hok (OpVal.plain rfl rfl (v_loadCF (j := 0) (k := 2) rfl ty3 (fun _ => rfl) rfl rfl rfl rfl)) (by kernel_rfl) rfl (bl rfl) ?_
            clear hok
            intro hok
            refine TrAny.prom (i := 5) (d := 39) hok (OpVal.plain rfl rfl (v_move rfl rfl)) (by kernel_rfl) rfl (bl rfl) ?_
            clear hok
            intro hok
            obtain ⟨z20, hz20, hy2⟩ := bnd hy2
            refine TrAny.prom (i := 6) (d := 40) hok (OpVal.plain rfl rfl (v_indexAddr (k := 0) rfl sl132 ty26 rfl rfl rfl rfl hz20)) (by kernel_rfl) rfl (bl rfl) ?_
            clear hok
            intro hok
            refine TrAny.prom (i := 7) (d := 41) hok (OpVal.plain rfl rfl (v_fieldAddr rfl fo26_0 rfl)) (by kernel_rfl) rfl (bl rfl) ?_
            clear hok
            intro hok
            refine TrAny.openP (k := 0) rfl hz20 hok (fun m37 hok => ?_)
            refine TrAny.prom (i := 8) (d := 42) hok (OpVal.plain rfl rfl (v_loadCF (j := 0) (k := 4) rfl ty3 (fun _ => rfl) rfl rfl rfl rfl)) (by kernel_rfl) rfl (bl rfl) ?_
            clear hok
            intro hok
            refine TrAny.prom (i := 9) (d := 43) hok (OpVal.plain rfl rfl (v_arith rfl rfl rfl ar_neq)) (by kernel_rfl) rfl (bl rfl) ?_
            clear hok
            intro hok
            refine TrAny.done (by kernel_rfl) (by kernel_rfl) hok (by kernel_rfl) (qthen_n ?_)
            rcases ifc hy2 with ⟨h31, hy2⟩ | ⟨h31, hy2⟩
            · refine Tr.cond_t rfl (bt_dec h31) ?_
              refine Tr.seq ?_
              refine Tr.region ?_
              refine TrL.v (v_assign rfl rfl) rfl rfl (bl rfl) ?_
              refine TrL.nil (qthen_n ?_)
              have hz := Option.some.inj hy2
              subst hz
              refine Tr.ret (qthen_r (qblock_r (qthen_r (qloop_r (qblock_r (qcut_miss (by simp) (qcut_hit (()) (()) (hx4 _ rfl).symm (Imp.re _ [] [] (sc rfl sn) (by decide) rfl rfl rfl))))))))
            · refine Tr.cond_f rfl (bf_dec h31) ?_
              refine Tr.skip (qthen_n ?_)
              refine Tr.seq ?_
              refine Tr.region ?_
              refine TrL.v (v_move rfl rfl) rfl rfl (bl rfl) ?_
              refine TrL.v (v_move rfl rfl) rfl rfl (bl rfl) ?_
              refine TrL.v (v_move rfl rfl) rfl rfl (bl rfl) ?_
              refine TrL.v (v_indexAddr (k := 0) rfl sl132 ty26 rfl rfl rfl rfl hz19) rfl rfl (bl rfl) ?_
              refine TrL.v (v_fieldAddr rfl fo26_1 rfl) rfl rfl (bl rfl) ?_
              refine TrL.v (v_loadCF (j := 1) (k := 2) rfl ty3 (fun _ => rfl) rfl rfl rfl rfl) rfl rfl (bl rfl) ?_
              refine TrL.v (v_max rfl rfl rfl) rfl rfl (bl rfl) ?_
              refine TrL.v (v_assign rfl rfl) rfl rfl (bl rfl) ?_
              refine TrL.nil (qthen_n ?_)
              refine Tr.seq ?_
              refine Tr.region ?_
              refine TrL.v (v_move rfl rfl) rfl rfl (bl rfl) ?_
              refine TrL.v (v_move rfl rfl) rfl rfl (bl rfl) ?_
              refine TrL.v (v_move rfl rfl) rfl rfl (bl rfl) ?_
              refine TrL.v (v_indexAddr (k := 0) rfl sl132 ty26 rfl rfl rfl rfl hz19) rfl rfl (bl rfl) ?_
              refine TrL.v (v_loadCF (j := 0) (k := 2) rfl ty26 nofun rfl rfl rfl rfl) rfl rfl (bl rfl) ?_
              obtain ⟨r8, hr8, hy2⟩ := bnd hy2
              refine TrL.cons rfl (op_call0' (vs := [.agg #[.int .i64 z19.1, .int .i64 z19.2.1, .slice m36.1 z19.2.2.length m36.2]]) (cap := []) [1] rfl rfl (bl rfl) rfl rfl en81 (c_ref06_Total z19 m36.1 m36.2 r8 hr8) rfl (fun ret M' F' hR8 => ?_))
              obtain ⟨rfl, rfl, rfl⟩ := hR8
              refine TrL.v (v_arith rfl rfl rfl ar_add_u64) rfl rfl (bl rfl) ?_
              refine TrL.v (v_assign rfl rfl) rfl rfl (bl rfl) ?_
              refine TrL.nil (qthen_n ?_)
              refine Tr.region ?_
              refine TrL.v (v_move rfl rfl) rfl rfl (bl rfl) ?_
              refine TrL.v (v_move rfl rfl) rfl rfl (bl rfl) ?_
              rcases ifc hy2 with ⟨h33, hy2⟩ | ⟨h33, hy2⟩
              · refine TrL.cons_no rfl rfl rfl (gn_f h33) rfl (bl rfl) ?_
                refine TrL.cons_no rfl rfl rfl (gn_f h33) rfl (bl rfl) ?_
                refine TrL.v (v_pick_t rfl rfl h33 rfl) rfl rfl (bl rfl) ?_
                refine TrL.v (v_assign rfl rfl) rfl rfl (bl rfl) ?_
                refine TrL.nil (qblock_n (qthen_n ?_))
                refine Tr.region ?_
                refine TrL.v (v_move rfl rfl) rfl rfl (bl rfl) ?_
                refine TrL.v (v_arith rfl rfl rfl ar_add_i64) rfl rfl (bl rfl) ?_
                refine TrL.v (v_assign rfl rfl) rfl rfl (bl rfl) ?_
                have hz := Option.some.inj hy2
                subst hz
                refine TrL.nil (qloop_n (()) (Imp.re _ [] [0] (sc rfl (sc rfl (sc rfl (sc rfl (sc rfl (sc rfl sn)))))) (by decide) rfl rfl rfl))
              · refine TrL.cons_yes rfl rfl rfl (bf_b h33) (OpTr.v (v_move rfl rfl) rfl (bl rfl) ?_)
                refine TrL.cons_yes rfl rfl rfl (bf_b h33) (OpTr.v (v_arith rfl rfl rfl ar_gtr) rfl (bl rfl) ?_)
                refine TrL.v (v_pick_f rfl rfl (bf_b h33) rfl) rfl rfl (bl rfl) ?_
                refine TrL.v (v_assign rfl rfl) rfl rfl (bl rfl) ?_
                refine TrL.nil (qblock_n (qthen_n ?_))
                refine Tr.region ?_
                refine TrL.v (v_move rfl rfl) rfl rfl (bl rfl) ?_
                refine TrL.v (v_arith rfl rfl rfl ar_add_i64) rfl rfl (bl rfl) ?_
                refine TrL.v (v_assign rfl rfl) rfl rfl (bl rfl) ?_
                have hz := Option.some.inj hy2
                subst hz
                refine TrL.nil (qloop_n (()) (Imp.re _ [] [0] (sc rfl (sc rfl (sc rfl (sc rfl (sc rfl (sc rfl sn)))))) (by decide) rfl rfl rfl))
          · refine Tr.cond_f rfl (bf_dec h30) ?_
            have hz := Option.some.inj hy2
            subst hz
            refine Tr.exit (qthen_x (qloop_x (qblock_hit (qcut_hit ((s5.1, s5.2.2.1)) (()) (hx4 _ rfl).symm (Imp.re _ [] [] (sc rfl (sc rfl (sc rfl sn))) (by decide) rfl rfl rfl)))))
        · subst hd4
          replace H := sumr H
          refine (qcut_miss (by simp) (qthen_n ?_))
          refine Tr.seq ?_
          refine Tr.seq ?_
          refine Tr.region ?_
          refine TrL.v (v_move rfl rfl) rfl rfl (bl rfl) ?_
          refine TrL.v (v_arith rfl rfl rfl ar_geq) rfl rfl (bl rfl) ?_
          refine TrL.nil (qthen_n ?_)
          rcases ifc H with ⟨h34, H⟩ | ⟨h34, H⟩
          · refine Tr.cond_t rfl (bt_dec h34) ?_
            refine Tr.seq ?_
            refine Tr.region ?_
            refine TrL.v (v_assign rfl rfl) rfl rfl (bl rfl) ?_
            refine TrL.nil (qthen_n ?_)
            have hz := Option.some.inj H
            subst hz
            refine Tr.ret (qthen_r (ret_r ⟨[(4, .int .i64 10)], [], [], []⟩ [.int .i64 10] [] [] (Imp.re _ [] [] (sc rfl sn) (by decide) rfl rfl rfl) rfl rfl ⟨rfl, rfl, rfl⟩ (.cons (resv_tmp rfl) .nil)))
          · refine Tr.cond_f rfl (bf_dec h34) ?_
            refine Tr.skip (qthen_n ?_)
            refine Tr.seq ?_
            refine Tr.seq ?_
            refine Tr.region ?_
            refine TrL.v (v_move rfl rfl) rfl rfl (bl rfl) ?_
            refine TrL.v (v_notd rfl (bdec rfl)) rfl rfl (bl rfl) ?_
            refine TrL.nil (qthen_n ?_)
            rcases ifc H with ⟨h35, H⟩ | ⟨h35, H⟩
            · refine Tr.cond_t rfl (bt_dec h35) ?_
              refine Tr.seq ?_
              refine Tr.region ?_
              refine TrL.v (v_assign rfl rfl) rfl rfl (bl rfl) ?_
              refine TrL.nil (qthen_n ?_)
              have hz := Option.some.inj H
              subst hz
              refine Tr.ret (qthen_r (ret_r ⟨[(4, .int .i64 6)], [], [], []⟩ [.int .i64 6] [] [] (Imp.re _ [] [] (sc rfl sn) (by decide) rfl rfl rfl) rfl rfl ⟨rfl, rfl, rfl⟩ (.cons (resv_tmp rfl) .nil)))
            · refine Tr.cond_f rfl (bf_dec h35) ?_
              refine Tr.skip (qthen_n ?_)
              refine Tr.seq ?_
              refine Tr.seq ?_
              refine Tr.region ?_
              refine TrL.v (v_move rfl rfl) rfl rfl (bl rfl) ?_
              refine TrL.nil (qthen_n ?_)
              rcases ifc H with ⟨h36, H⟩ | ⟨h36, H⟩
              · refine Tr.cond_t rfl h36 ?_
                refine Tr.seq ?_
                refine Tr.region ?_
                refine TrL.v (v_assign rfl rfl) rfl rfl (bl rfl) ?_
                refine TrL.nil (qthen_n ?_)
                have hz := Option.some.inj H
                subst hz
                refine Tr.ret (qthen_r (ret_r ⟨[(4, .int .i64 5)], [], [], []⟩ [.int .i64 5] [] [] (Imp.re _ [] [] (sc rfl sn) (by decide) rfl rfl rfl) rfl rfl ⟨rfl, rfl, rfl⟩ (.cons (resv_tmp rfl) .nil)))
              · refine Tr.cond_f rfl (bf_b h36) ?_
                refine Tr.skip (qthen_n ?_)
                refine Tr.seq ?_
                refine Tr.region ?_
                refine TrL.v (v_assign rfl rfl) rfl rfl (bl rfl) ?_
                refine TrL.nil (qthen_n ?_)
                have hz := Option.some.inj H
                subst hz
                refine Tr.ret (ret_r ⟨[(4, .int .i64 0)], [], [], []⟩ [.int .i64 0] [] [] (Imp.re _ [] [] (sc rfl sn) (by decide) rfl rfl rfl) rfl rfl ⟨rfl, rfl, rfl⟩ (.cons (resv_tmp rfl) .nil))
      · subst hd3
        replace H := suml H
        have hz := Option.some.inj H
        subst hz
        refine (qthen_r (ret_r ⟨[(4, .int .i64 9)], [], [], []⟩ [.int .i64 9] [] [] (Imp.re _ [] [] (sc rfl sn) (by decide) rfl rfl rfl) rfl rfl ⟨rfl, rfl, rfl⟩ (.cons (resv_tmp rfl) .nil)))
end Go.Proofs.Ytbeknohemgjfbaa.W
