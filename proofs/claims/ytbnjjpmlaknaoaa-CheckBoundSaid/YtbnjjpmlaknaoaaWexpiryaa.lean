/- The contracts of the walked functions: the printed walks. -/
import Derived.Test.YtbnjjpmlaknaoaaKa
import Derived.Test.YtbnjjpmlaknaoaaQa
namespace Go.Proofs.Ytbnjjpmlaknaoaa.W
open Go Go.Proofs Go.Proofs.Ytbnjjpmlaknaoaa.L Go.Proofs.Ytbnjjpmlaknaoaa.Pu
set_option linter.unusedVariables false
set_option maxHeartbeats 4000000

theorem c_expiry_Old (p1 : Int) (p2 : Int) (p3 : Int) (r : Bool) (H : expiry_Old p1 p2 p3 = some r) :
    Ctr Try.prog 35 [.int .u64 p1, .int .u64 p2, .int .u64 p3] [] [] (fun ret M' F' => ret = .bool r ∧ M' = [] ∧ F' = []) := by
  unfold expiry_Old at H
  refine ctr_ofI (N := 17) Try.func35 rfl Try.ntmps35 rfl (Nat.le_of_ble_eq_true rfl) (fun γ0 w0 => ?_)
  refine Tr.seq ?_
  refine Tr.region ?_
  refine TrL.v (v_assign rfl rfl) rfl rfl (bl rfl) ?_
  refine TrL.nil (qthen_n ?_)
  refine Tr.seq ?_
  refine Tr.region ?_
  refine TrL.v (v_move rfl rfl) rfl rfl (bl rfl) ?_
  refine TrL.v (v_move rfl rfl) rfl rfl (bl rfl) ?_
  refine TrL.v (v_arith rfl rfl rfl ar_leq) rfl rfl (bl rfl) ?_
  refine TrL.v (v_move rfl rfl) rfl rfl (bl rfl) ?_
  rcases ifc H with ⟨h4, H⟩ | ⟨h4, H⟩
  · refine TrL.cons_yes rfl rfl rfl (bt_dec h4) (OpTr.v (v_move rfl rfl) rfl (bl rfl) ?_)
    refine TrL.cons_yes rfl rfl rfl (bt_dec h4) (OpTr.v (v_move rfl rfl) rfl (bl rfl) ?_)
    refine TrL.cons_yes rfl rfl rfl (bt_dec h4) (OpTr.v (v_move rfl rfl) rfl (bl rfl) ?_)
    refine TrL.cons_yes rfl rfl rfl (bt_dec h4) (OpTr.v (v_arith rfl rfl rfl ar_sub_u64) rfl (bl rfl) ?_)
    refine TrL.cons_yes rfl rfl rfl (bt_dec h4) (OpTr.v (v_arith rfl rfl rfl ar_leq) rfl (bl rfl) ?_)
    refine TrL.v (v_pick_t rfl rfl (bt_dec h4) rfl) rfl rfl (bl rfl) ?_
    refine TrL.v (v_assign rfl rfl) rfl rfl (bl rfl) ?_
    refine TrL.nil (qthen_n ?_)
    have hz := Option.some.inj H
    subst hz
    refine Tr.ret (ret_r ⟨[(6, .bool (decide (p1 ≤ (wu64 (p2 - p3)))))], [], [], []⟩ [.bool (decide (p1 ≤ (wu64 (p2 - p3))))] [] [] (Imp.re _ [] [] (sc rfl sn) (by decide) rfl rfl rfl) rfl rfl ⟨rfl, rfl, rfl⟩ (.cons (resv_tmp rfl) .nil))
  · refine TrL.cons_no rfl rfl rfl (gn_t (bf_dec h4)) rfl (bl rfl) ?_
    refine TrL.cons_no rfl rfl rfl (gn_t (bf_dec h4)) rfl (bl rfl) ?_
    refine TrL.cons_no rfl rfl rfl (gn_t (bf_dec h4)) rfl (bl rfl) ?_
    refine TrL.cons_no rfl rfl rfl (gn_t (bf_dec h4)) rfl (bl rfl) ?_
    refine TrL.cons_no rfl rfl rfl (gn_t (bf_dec h4)) rfl (bl rfl) ?_
    refine TrL.v (v_pick_f rfl rfl (bf_dec h4) rfl) rfl rfl (bl rfl) ?_
    refine TrL.v (v_assign rfl rfl) rfl rfl (bl rfl) ?_
    refine TrL.nil (qthen_n ?_)
    have hz := Option.some.inj H
    subst hz
    refine Tr.ret (ret_r ⟨[(6, .bool false)], [], [], []⟩ [.bool false] [] [] (Imp.re _ [] [] (sc rfl sn) (by decide) rfl rfl rfl) rfl rfl ⟨rfl, rfl, rfl⟩ (.cons (resv_tmp rfl) .nil))

theorem c_expiry_Drop_1 (p1 : Int × Int) (p2 : Int) (p3 : Int) (b1 : Nat) (b2 : Nat) (r : Bool) (H : expiry_Drop_1 p1 p2 p3 = some r) :
    Ctr Try.prog 80 [.agg #[.int .u64 p1.1, .int .u64 p1.2], .pointer (some ⟨b1, 0, none⟩), .pointer (some ⟨b2, 0, none⟩)] [cells b1 [.int .u64 p2] 23, cells b2 [.int .u64 p3] 23] [] (fun ret M' F' => ret = .bool r ∧ M' = [cells b1 [.int .u64 p2] 23, cells b2 [.int .u64 p3] 23] ∧ F' = []) := by
  unfold expiry_Drop_1 at H
  refine ctr_ofI (N := 10) Try.func80 rfl Try.ntmps80 rfl (Nat.le_of_ble_eq_true rfl) (fun γ0 w0 => ?_)
  refine Tr.seq ?_
  refine Tr.region ?_
  refine TrL.cons rfl (op_box' rfl (bl rfl) rfl rfl rfl (fun b4 => ?_))
  refine TrL.v (v_assign rfl rfl) rfl rfl (bl rfl) ?_
  refine TrL.nil (qthen_n ?_)
  refine Tr.seq ?_
  refine Tr.region ?_
  refine TrL.v (v_fieldAddr' rfl fo41_1 rfl rfl) rfl rfl (bl rfl) ?_
  refine TrL.v (v_load (k := 0) rfl rfl rfl ty23 (fun _ => rfl) rfl rfl) rfl rfl (bl rfl) ?_
  refine TrL.v (v_load (k := 1) rfl rfl rfl ty23 (fun _ => rfl) rfl rfl) rfl rfl (bl rfl) ?_
  refine TrL.v (v_load (k := 2) rfl rfl rfl ty23 (fun _ => rfl) rfl rfl) rfl rfl (bl rfl) ?_
  obtain ⟨r2, hr2, H⟩ := bnd H
  refine TrL.cons rfl (op_call0' (vs := [.int .u64 p1.2, .int .u64 p2, .int .u64 p3]) (cap := []) [] rfl rfl (bl rfl) rfl rfl en35 (c_expiry_Old p1.2 p2 p3 r2 hr2) rfl (fun ret M' F' hR2 => ?_))
  obtain ⟨rfl, rfl, rfl⟩ := hR2
  refine TrL.v (v_assign rfl rfl) rfl rfl (bl rfl) ?_
  refine TrL.nil (qthen_n ?_)
  have hz := Option.some.inj H
  subst hz
  refine Tr.ret (ret_r ⟨[(4, .bool r2)], [cells b1 [.int .u64 p2] 23, cells b2 [.int .u64 p3] 23], [], []⟩ [.bool r2] [cells b1 [.int .u64 p2] 23, cells b2 [.int .u64 p3] 23] [] (Imp.re _ [1, 2] [] (sc rfl sn) (by decide) rfl rfl rfl) rfl rfl ⟨rfl, rfl, rfl⟩ (.cons (resv_tmp rfl) .nil))

theorem c_expiry_Drop (p1 : Int × Int × List (List (Int × Int))) (p2 : Int) (p3 : Int) (A1 : Option Addr) (c1 : Nat) (r : List (List (Int × Int))) (H : expiry_Drop p1 p2 p3 = some r) :
    Ctr Try.prog 32 [.agg #[.int .i64 p1.1, .int .i64 p1.2.1, .slice A1 p1.2.2.length c1], .int .u64 p2, .int .u64 p3] [] [slF (rSl rp_u64_u64) A1 c1 p1.2.2] (fun ret M' F' => ∃ m : Option Addr × Nat, ret = .agg #[.int .i64 p1.1, .int .i64 p1.2.1, .slice m.1 r.length m.2] ∧ M' = [] ∧ F' = [slF (rSl rp_u64_u64) m.1 m.2 r]) := by
  unfold expiry_Drop at H
  refine ctr_ofI (N := 52) Try.func32 rfl Try.ntmps32 rfl (Nat.le_of_ble_eq_true rfl) (fun γ0 w0 => ?_)
  refine Tr.seq ?_
  refine Tr.region ?_
  refine TrL.cons rfl (op_box' rfl (bl rfl) rfl rfl rfl (fun b15 => ?_))
  refine TrL.cons rfl (op_box' rfl (bl rfl) rfl rfl rfl (fun b16 => ?_))
  refine TrL.cons rfl (op_box' rfl (bl rfl) rfl rfl rfl (fun b17 => ?_))
  refine TrL.cons rfl (op_alloc' rfl (bl rfl) rfl ze31 (fun b18 => ?_))
  refine TrL.nil (qthen_n ?_)
  refine Tr.scope ?_
  refine Tr.seq ?_
  refine Tr.region ?_
  refine TrL.v (v_makeFunc (vs := [.pointer (some ⟨b16, 0, none⟩), .pointer (some ⟨b17, 0, none⟩)]) rfl rfl) rfl rfl (bl rfl) ?_
  refine TrL.v (v_assign rfl rfl) rfl rfl (bl rfl) ?_
  refine TrL.nil (qthen_n ?_)
  refine Tr.seq ?_
  refine Tr.region ?_
  refine TrL.v (v_fieldAddr' rfl fo31_0 rfl rfl) rfl rfl (bl rfl) ?_
  refine TrL.v (v_load (k := 3) rfl rfl rfl ty3 (fun _ => rfl) rfl rfl) rfl rfl (bl rfl) ?_
  refine TrL.v (v_fieldAddr' rfl fo31_1 rfl rfl) rfl rfl (bl rfl) ?_
  refine TrL.v (v_load (k := 3) rfl rfl rfl ty3 (fun _ => rfl) rfl rfl) rfl rfl (bl rfl) ?_
  refine TrL.v (v_build (vs := [.int .i64 p1.1, .int .i64 p1.2.1]) (out := [.int .i64 p1.1, .int .i64 p1.2.1, .slice none 0 0]) rfl pl31 ze31 rfl rfl) rfl rfl (bl rfl) ?_
  refine TrL.cons rfl (op_alloc' rfl (bl rfl) rfl ze31 (fun b19 => ?_))
  refine TrL.cons rfl (op_store' (k := 0) (c' := [.int .i64 p1.1, .int .i64 p1.2.1, .slice none 0 0]) rfl rfl rfl rfl rfl ty31 rfl (Nat.le_of_ble_eq_true rfl) (ones (oc rfl (oc rfl (oc rfl on)))) rfl ?_)
  refine TrL.nil (qthen_n ?_)
  refine Tr.seq ?_
  refine Tr.label (qthen_n ?_)
  refine Tr.seq ?_
  refine Tr.seq ?_
  refine Tr.region ?_
  refine TrL.v (v_fieldAddr' rfl fo31_2 rfl rfl) rfl rfl (bl rfl) ?_
  refine TrL.v (v_load (k := 4) rfl rfl rfl ty26 (fun _ => rfl) rfl rfl) rfl rfl (bl rfl) ?_
  refine TrL.v (v_len rfl sl26 rfl) rfl rfl (bl rfl) ?_
  refine TrL.v (v_move rfl rfl) rfl rfl (bl rfl) ?_
  refine TrL.nil (qthen_n ?_)
  obtain ⟨x7, hx13, H⟩ := bnd H
  refine Tr.cutE (D := List (List (Int × Int))) (M := Option Addr × Nat × Option Nat) .normal (fun _d => x7 = _d) (fun x7 m48 => ⟨[(6, .pointer (some ⟨b18, 0, none⟩)), (8, .pointer (some ⟨b19, 0, none⟩))], [cells b18 [.int .i64 0, .int .i64 0, .slice none 0 0] 31, cells b19 [.int .i64 p1.1, .int .i64 p1.2.1, .slice m48.1 x7.length m48.2.1] 31, grow 38 1 (.slice m48.1 x7.length m48.2.1) x7.length m48.2.2], [slF (rSl rp_u64_u64) none 0 (([] : List (List (Int × Int)))), slF (rSl rp_u64_u64) m48.1 m48.2.1 x7], []⟩) ?_ (fun x7 m48 hd14 => ?_)
  · refine Tr.block (Tr.loopI (ι := Option Addr × Nat × Option Nat) (step := expiry_Drop_s0 p1 p2 p3) (fun s17 m38 => ⟨[(6, .pointer (some ⟨b18, 0, none⟩)), (7, .func (.func 80) #[] #[.pointer (some ⟨b16, 0, none⟩), .pointer (some ⟨b17, 0, none⟩)]), (8, .pointer (some ⟨b19, 0, none⟩)), (20, .slice A1 p1.2.2.length c1), (21, .int .i64 ((p1.2.2.length : Int))), (22, .int .i64 s17.1)], [cells b18 [.int .i64 0, .int .i64 0, .slice none 0 0] 31, cells b16 [.int .u64 p2] 23, cells b17 [.int .u64 p3] 23, cells b19 [.int .i64 p1.1, .int .i64 p1.2.1, .slice m38.1 s17.2.length m38.2.1] 31, grow 38 1 (.slice m38.1 s17.2.length m38.2.1) s17.2.length m38.2.2], [slF (rSl rp_u64_u64) A1 c1 p1.2.2, slF (rSl rp_u64_u64) none 0 (([] : List (List (Int × Int)))), slF (rSl rp_u64_u64) m38.1 m38.2.1 s17.2], []⟩) ((none, 0, none)) hx13 (Imp.full' (E := 38) (sz := 1) (A := none) (n := 0) (Imp.addF' _ (nilF (rSl rp_u64_u64)) (Imp.re _ [2, 4, 3, 1, 0] [0, 1, 1] (sc rfl (sc rfl (sc rfl (sc rfl (sc rfl (sc rfl sn)))))) (by decide) rfl rfl rfl))) (fun s17 m38 y7 hy7 hx14 => ?_))
    unfold expiry_Drop_s0 at hy7
    refine Tr.seq ?_
    refine Tr.region ?_
    refine TrL.v (v_arith rfl rfl rfl ar_lss) rfl rfl (bl rfl) ?_
    refine TrL.nil (qthen_n ?_)
    refine Tr.seq ?_
    rcases ifc hy7 with ⟨h96, hy7⟩ | ⟨h96, hy7⟩
    · refine Tr.cond_t rfl (bt_dec h96) ?_
      refine Tr.skip (qthen_n ?_)
      refine Tr.seq ?_
      refine Tr.block ?_
      refine Tr.seq ?_
      refine Tr.region ?_
      obtain ⟨z21, hz21, hy7⟩ := bnd hy7
      refine TrL.v (v_indexAddr (k := 0) rfl sl26 ty38 rfl rfl rfl rfl hz21) rfl rfl (bl rfl) ?_
      refine TrL.openS' (k := 0) rfl hz21 (fun A67 c37 => ?_)
      refine TrL.v (v_loadF (k := 4) rfl ty38 rfl rfl) rfl rfl (bl rfl) ?_
      refine TrL.v (v_assign rfl rfl) rfl rfl (bl rfl) ?_
      refine TrL.nil (qthen_n ?_)
      refine Tr.seq ?_
      refine Tr.seq ?_
      refine Tr.region ?_
      refine TrL.v (v_move rfl rfl) rfl rfl (bl rfl) ?_
      refine TrL.v (v_len rfl sl38 rfl) rfl rfl (bl rfl) ?_
      refine TrL.v (v_move rfl rfl) rfl rfl (bl rfl) ?_
      refine TrL.nil (qthen_n ?_)
      obtain ⟨x8, hx15, hy7⟩ := bnd hy7
      refine Tr.cutE (D := List (List (Int × Int))) (M := Option Addr × Nat × Option Nat) (.exit 1) (fun d11 => x8 = .inl d11) (fun d11 m54 => ⟨[(6, .pointer (some ⟨b18, 0, none⟩)), (7, .func (.func 80) #[] #[.pointer (some ⟨b16, 0, none⟩), .pointer (some ⟨b17, 0, none⟩)]), (8, .pointer (some ⟨b19, 0, none⟩)), (20, .slice A1 p1.2.2.length c1), (21, .int .i64 ((p1.2.2.length : Int))), (22, .int .i64 s17.1)], [cells b18 [.int .i64 0, .int .i64 0, .slice none 0 0] 31, cells b16 [.int .u64 p2] 23, cells b17 [.int .u64 p3] 23, cells b19 [.int .i64 p1.1, .int .i64 p1.2.1, .slice m54.1 d11.length m54.2.1] 31, grow 38 1 (.slice m54.1 d11.length m54.2.1) d11.length m54.2.2], [slF (rSl rp_u64_u64) A1 c1 p1.2.2, slF (rSl rp_u64_u64) none 0 (([] : List (List (Int × Int)))), slF (rSl rp_u64_u64) m54.1 m54.2.1 d11], []⟩) ?_ (fun d11 m54 hd12 => ?_)
      · refine Tr.cutE (D := Unit) (M := Unit) .normal (fun d12 => x8 = .inr d12) (fun d12 m55 => ⟨[(6, .pointer (some ⟨b18, 0, none⟩)), (8, .pointer (some ⟨b19, 0, none⟩))], [cells b18 [.int .i64 0, .int .i64 0, .slice none 0 0] 31, cells b19 [.int .i64 p1.1, .int .i64 p1.2.1, .slice m38.1 s17.2.length m38.2.1] 31, grow 38 1 (.slice m38.1 s17.2.length m38.2.1) s17.2.length m38.2.2], [slF (rSl rp_u64_u64) none 0 (([] : List (List (Int × Int)))), slF (rSl rp_u64_u64) m38.1 m38.2.1 s17.2], []⟩) ?_ (fun d12 m55 hd13 => ?_)
        · refine Tr.block (Tr.loopI (ι := Unit) (step := expiry_Drop_s1 p2 p3 s17 z21) (fun s23 m51 => ⟨[(6, .pointer (some ⟨b18, 0, none⟩)), (7, .func (.func 80) #[] #[.pointer (some ⟨b16, 0, none⟩), .pointer (some ⟨b17, 0, none⟩)]), (8, .pointer (some ⟨b19, 0, none⟩)), (10, .slice A67 z21.length c37), (20, .slice A1 p1.2.2.length c1), (21, .int .i64 ((p1.2.2.length : Int))), (22, .int .i64 s17.1), (26, .slice A67 z21.length c37), (27, .int .i64 ((z21.length : Int))), (28, .int .i64 s23)], [cells b18 [.int .i64 0, .int .i64 0, .slice none 0 0] 31, cells b16 [.int .u64 p2] 23, cells b17 [.int .u64 p3] 23, cells b19 [.int .i64 p1.1, .int .i64 p1.2.1, .slice m38.1 s17.2.length m38.2.1] 31, grow 38 1 (.slice m38.1 s17.2.length m38.2.1) s17.2.length m38.2.2], [slF rp_u64_u64 A67 c37 z21, slF (rSl rp_u64_u64) A1 c1 p1.2.2, slF (rSl rp_u64_u64) none 0 (([] : List (List (Int × Int)))), slF (rSl rp_u64_u64) m38.1 m38.2.1 s17.2], []⟩) (()) hx15 (Imp.re _ [0, 1, 2, 3, 4] [3, 0, 1, 2] (sc rfl (sc rfl (sc rfl (sc rfl (sc rfl (sc rfl (sc rfl (sc rfl (sc rfl (sc rfl sn)))))))))) (by decide) rfl rfl rfl) (fun s23 m51 y8 hy8 hx16 => ?_))
          unfold expiry_Drop_s1 at hy8
          refine Tr.seq ?_
          refine Tr.region ?_
          refine TrL.v (v_arith rfl rfl rfl ar_lss) rfl rfl (bl rfl) ?_
          refine TrL.nil (qthen_n ?_)
          refine Tr.seq ?_
          rcases ifc hy8 with ⟨h109, hy8⟩ | ⟨h109, hy8⟩
          · refine Tr.cond_t rfl (bt_dec h109) ?_
            refine Tr.skip (qthen_n ?_)
            refine Tr.seq ?_
            refine Tr.block ?_
            refine Tr.seq ?_
            refine Tr.region ?_
            refine TrL.v (v_move rfl rfl) rfl rfl (bl rfl) ?_
            obtain ⟨z24, hz24, hy8⟩ := bnd hy8
            refine TrL.v (v_indexAddr (k := 0) rfl sl38 ty41 rfl rfl rfl rfl hz24) rfl rfl (bl rfl) ?_
            refine TrL.v (v_loadg (A := A67) (i := s23) (j := 0) (k := 0) rfl ty41 nofun rfl rfl hz24 rfl rfl) rfl rfl (bl rfl) ?_
            refine TrL.cons rfl (op_alloc' rfl (bl rfl) rfl ze41 (fun b28 => ?_))
            refine TrL.v (v_assign rfl rfl) rfl rfl (bl rfl) ?_
            refine TrL.cons rfl (op_store' (k := 0) (c' := [.int .u64 z24.1, .int .u64 z24.2]) rfl rfl rfl rfl rfl ty41 rfl (Nat.le_of_ble_eq_true rfl) (ones (oc rfl (oc rfl on))) rfl ?_)
            refine TrL.nil (qthen_n ?_)
            refine Tr.seq ?_
            refine Tr.region ?_
            refine TrL.v (v_move rfl rfl) rfl rfl (bl rfl) ?_
            refine TrL.v (v_load (k := 0) rfl rfl rfl ty41 nofun rfl rfl) rfl rfl (bl rfl) ?_
            obtain ⟨r18, hr18, hy8⟩ := bnd hy8
            refine TrL.cons rfl (op_callg' (fs := []) (vs := [.agg #[.int .u64 z24.1, .int .u64 z24.2]]) (cap := [.pointer (some ⟨b16, 0, none⟩), .pointer (some ⟨b17, 0, none⟩)]) (Mr := [cells b28 [.int .u64 z24.1, .int .u64 z24.2] 41, cells b18 [.int .i64 0, .int .i64 0, .slice none 0 0] 31, cells b19 [.int .i64 p1.1, .int .i64 p1.2.1, .slice m38.1 s17.2.length m38.2.1] 31, grow 38 1 (.slice m38.1 s17.2.length m38.2.1) s17.2.length m38.2.2]) [2, 3] [0, 1, 4, 5] [] rfl rfl rfl en80 (c_expiry_Drop_1 z24 p2 p3 b16 b17 r18 hr18) (by decide) rfl rfl rfl (bl rfl) (fun ret M' F' hR18 => ?_))
            obtain ⟨rfl, rfl, rfl⟩ := hR18
            refine TrL.v (v_notd rfl (bdec rfl)) rfl rfl (bl rfl) ?_
            refine TrL.nil (qthen_n ?_)
            rcases ifc hy8 with ⟨h110, hy8⟩ | ⟨h110, hy8⟩
            · refine Tr.cond_t rfl (bt_dec h110) ?_
              refine Tr.seq ?_
              refine Tr.regionD drawn (fun hok => ?_)
              refine TrAny.prom (i := 0) (d := 37) hok (OpVal.plain rfl rfl (v_fieldAddr' rfl fo31_2 rfl rfl)) (by kernel_rfl) rfl (bl rfl) ?_
              clear hok
              intro hok
              refine TrAny.prom (i := 1) (d := 38) hok (OpVal.plain rfl rfl (v_load (k := 4) rfl rfl rfl ty26 (fun _ => rfl) rfl rfl)) (by kernel_rfl) rfl (bl rfl) ?_
              clear hok
              intro hok
              refine TrAny.prom (i := 2) (d := 39) hok (OpVal.plain rfl rfl (v_move rfl rfl)) (by kernel_rfl) rfl (bl rfl) ?_
              clear hok
              intro hok
              refine TrAny.prom (i := 3) (d := 40) hok (OpVal.plain rfl rfl (v_move rfl rfl)) (by kernel_rfl) rfl (bl rfl) ?_
              clear hok
              intro hok
              refine TrAny.prom (i := 4) (d := 41) hok (OpVal.plain rfl rfl (v_move rfl rfl)) (by kernel_rfl) rfl (bl rfl) ?_
              clear hok
              intro hok
              refine TrAny.prom (i := 5) (d := 42) hok (OpVal.plain rfl rfl (v_len rfl sl38 rfl)) (by kernel_rfl) rfl (bl rfl) ?_
              clear hok
              intro hok
              refine TrAny.prom (i := 6) (d := 43) hok (OpVal.plain rfl rfl (v_move rfl rfl)) (by kernel_rfl) rfl (bl rfl) ?_
              clear hok
              intro hok
              refine TrAny.prom (i := 7) (d := 44) hok (OpVal.plain rfl rfl (v_len rfl sl38 rfl)) (by kernel_rfl) rfl (bl rfl) ?_
              clear hok
              intro hok
              obtain ⟨h113, hy8⟩ := mst hy8
              refine TrAny.addF' (slF rp_u64_u64 (slA A67 s23.toNat ((z21.length : Int)).toNat 2) (((z21.length : Int)).toNat - s23.toNat) ((z21.take ((z21.length : Int)).toNat).drop s23.toNat)) (slx3_f (k := 0) rfl h113) hok (fun hok => ?_)
              refine TrAny.prom (i := 8) (d := 45) hok (OpVal.plain rfl rfl (slx3_v (rp := rp_u64_u64) (xs := z21) (k := 0) rfl sl38 ty41 rfl rfl rfl rfl rfl h113 rfl)) (by kernel_rfl) rfl (bl rfl) ?_
              clear hok
              intro hok
              refine TrAny.prom (i := 11) (d := 48) hok (OpVal.plain rfl rfl (v_fieldAddr' rfl fo31_2 rfl rfl)) (by kernel_rfl) rfl (bl rfl) ?_
              clear hok
              intro hok
              refine TrAny.next (j := 9) (by kernel_rfl) hok rfl (by kernel_rfl) (op_buildSlice' (rp := (rSl rp_u64_u64)) (xs := [(z21.take ((z21.length : Int)).toNat).drop s23.toNat]) (vs := [.slice (slA A67 s23.toNat ((z21.length : Int)).toNat 2) (((z21.take ((z21.length : Int)).toNat).drop s23.toNat).length) (((z21.length : Int)).toNat - s23.toNat)]) (out := [.slice (slA A67 s23.toNat ((z21.length : Int)).toNat 2) (((z21.take ((z21.length : Int)).toNat).drop s23.toNat).length) (((z21.length : Int)).toNat - s23.toNat)]) rfl (bl rfl) rfl sl26 ty38 ze38 rfl rfl (by decide) (by decide) rfl (fun γ w hF => (rowc ⟨_, _, rfl, hF _ (List.mem_of_getElem? (i := 4) rfl)⟩ rown rfl)) (fun A78 => ?_))
              refine nxp hok (kp_imp (kp_cf rfl)) rfl (by kernel_rfl) ?_
              clear hok
              intro hok
              obtain ⟨h114, hy8⟩ := rom hy8
              refine TrAny.next (j := 10) (by kernel_rfl) hok rfl (by kernel_rfl) (op_append' (rp := (rSl rp_u64_u64)) (xs := s17.2) (ys := [(z21.take ((z21.length : Int)).toNat).drop s23.toNat]) (k := 5) (kx := 3) (ky := 5) rfl (bl rfl) rfl sl26 ty38 ze38 rfl by38 rfl rfl rfl rfl rfl rfl rfl h114.1 h114.2 (fun A79 c43 o36 => ?_))
              refine nxp hok (kp_all (ac (.inr (OpVal.plain rfl rfl (v_fieldAddr' rfl fo31_2 rfl rfl))) (ac (.inl (by kernel_rfl)) (ac (.inr (OpVal.plain rfl rfl (v_move rfl rfl))) (ac (.inr (OpVal.plain rfl rfl (v_move rfl rfl))) (ac (.inr (OpVal.plain rfl rfl (v_move rfl rfl))) (ac (.inr (OpVal.plain rfl rfl (v_len rfl sl38 rfl))) (ac (.inr (OpVal.plain rfl rfl (v_move rfl rfl))) (ac (.inr (OpVal.plain rfl rfl (v_len rfl sl38 rfl))) (ac (.inr (OpVal.plain rfl rfl (slx3_v (rp := rp_u64_u64) (xs := z21) (k := 0) rfl sl38 ty41 rfl rfl rfl rfl rfl h113 rfl))) (ac (.inr (OpVal.plain rfl rfl (v_fieldAddr' rfl fo31_2 rfl rfl))) an))))))))))) rfl (by kernel_rfl) ?_
              clear hok
              intro hok
              refine TrAny.next (j := 12) (by kernel_rfl) hok rfl (by kernel_rfl) (op_store' (k := 4) (c' := [.int .i64 p1.1, .int .i64 p1.2.1, .slice A79 ((s17.2 ++ ([(z21.take ((z21.length : Int)).toNat).drop s23.toNat])).length) c43]) rfl rfl rfl rfl rfl ty26 rfl (Nat.le_of_ble_eq_true rfl) (ones (oc rfl on)) rfl ?_)
              refine nxs hok (kp_aw (by kernel_rfl)) rfl ?_
              clear hok
              intro hok
              refine TrAny.done (by kernel_rfl) (by kernel_rfl) hok (by kernel_rfl) (qthen_n ?_)
              have hz := Option.some.inj hy8
              subst hz
              refine Tr.exit (qblock_miss (by decide) (qthen_x (qloop_x (qblock_miss (by decide) (qcut_miss (by simp) (qcut_hit (s17.2 ++ ([(z21.take ((z21.length : Int)).toNat).drop s23.toNat])) ((A79, c43, o36)) (hx16 _ rfl).symm (Imp.re _ [3, 0, 1, 4, 5] [1, 2, 6] (sc rfl (sc rfl (sc rfl (sc rfl (sc rfl (sc rfl sn)))))) (by decide) rfl rfl rfl)))))))
            · refine Tr.cond_f rfl (bf_dec h110) ?_
              refine Tr.skip (qblock_n (qthen_n ?_))
              refine Tr.region ?_
              refine TrL.v (v_arith rfl rfl rfl ar_add_i64) rfl rfl (bl rfl) ?_
              refine TrL.v (v_move rfl rfl) rfl rfl (bl rfl) ?_
              have hz := Option.some.inj hy8
              subst hz
              refine TrL.nil (qloop_n (()) (Imp.re _ [3, 0, 1, 4, 5] [0, 1, 2, 3] (sc rfl (sc rfl (sc rfl (sc rfl (sc rfl (sc rfl (sc rfl (sc rfl (sc rfl (sc rfl sn)))))))))) (by decide) rfl rfl rfl))
          · refine Tr.cond_f rfl (bf_dec h109) ?_
            have hz := Option.some.inj hy8
            subst hz
            refine Tr.exit (qthen_x (qloop_x (qblock_hit (qcut_hit (()) (()) (hx16 _ rfl).symm (Imp.re _ [0, 3, 4] [2, 3] (sc rfl (sc rfl sn)) (by decide) rfl rfl rfl)))))
        · subst hd13
          replace hy7 := sumr hy7
          refine (qcut_miss (by simp) (qthen_n ?_))
          have hz := Option.some.inj hy7
          subst hz
          refine Tr.exit (qblock_miss (by decide) (qthen_x (qloop_x (qblock_hit (qcut_hit s17.2 ((m38.1, m38.2.1, m38.2.2)) (hx14 _ rfl).symm (Imp.re _ [0, 1, 2] [0, 1] (sc rfl (sc rfl sn)) (by decide) rfl rfl rfl))))))
      · subst hd12
        replace hy7 := suml hy7
        refine (qthen_x (qblock_hit (qthen_n ?_)))
        refine Tr.region ?_
        refine TrL.v (v_arith rfl rfl rfl ar_add_i64) rfl rfl (bl rfl) ?_
        refine TrL.v (v_move rfl rfl) rfl rfl (bl rfl) ?_
        have hz := Option.some.inj hy7
        subst hz
        refine TrL.nil (qloop_n ((m54.1, m54.2.1, m54.2.2)) (Imp.re _ [0, 1, 2, 3, 4] [0, 1, 2] (sc rfl (sc rfl (sc rfl (sc rfl (sc rfl (sc rfl sn)))))) (by decide) rfl rfl rfl))
    · refine Tr.cond_f rfl (bf_dec h96) ?_
      have hz := Option.some.inj hy7
      subst hz
      refine Tr.exit (qthen_x (qloop_x (qblock_hit (qcut_hit s17.2 ((m38.1, m38.2.1, m38.2.2)) (hx14 _ rfl).symm (Imp.re _ [0, 3, 4] [1, 2] (sc rfl (sc rfl sn)) (by decide) rfl rfl rfl)))))
  · subst hd14
    refine (qthen_n ?_)
    refine Tr.seq ?_
    refine Tr.region ?_
    refine TrL.v (v_load (k := 1) rfl rfl rfl ty31 nofun rfl rfl) rfl rfl (bl rfl) ?_
    refine TrL.cons rfl (op_store' (k := 0) (c' := [.int .i64 p1.1, .int .i64 p1.2.1, .slice m48.1 x7.length m48.2.1]) rfl rfl rfl rfl rfl ty31 rfl (Nat.le_of_ble_eq_true rfl) (ones (oc rfl (oc rfl (oc rfl on)))) rfl ?_)
    refine TrL.nil (qthen_n ?_)
    have hz := Option.some.inj H
    subst hz
    refine Tr.ret (ret_r ⟨[(6, .pointer (some ⟨b18, 0, none⟩))], [cells b18 [.int .i64 p1.1, .int .i64 p1.2.1, .slice m48.1 x7.length m48.2.1] 31], [slF (rSl rp_u64_u64) m48.1 m48.2.1 x7], []⟩ [.agg #[.int .i64 p1.1, .int .i64 p1.2.1, .slice m48.1 x7.length m48.2.1]] [] [cells b18 [.int .i64 p1.1, .int .i64 p1.2.1, .slice m48.1 x7.length m48.2.1] 31] (Imp.re _ [0] [1] (sc rfl sn) (by decide) rfl rfl rfl) rfl rfl ⟨((m48.1, m48.2.1)), rfl, rfl, rfl⟩ (.cons (resv_cell (k := 0) rfl rfl ty31 nofun rfl rfl) .nil))
end Go.Proofs.Ytbnjjpmlaknaoaa.W
