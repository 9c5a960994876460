/- The contracts of the walked functions: the printed walks. -/
import Derived.Test.YtbeknohemgjfbaaKc
import Derived.Test.YtbeknohemgjfbaaQc
import Derived.Test.YtbeknohemgjfbaaWcheckcc
import Derived.Test.YtbeknohemgjfbaaWcheckdc
import Derived.Test.YtbeknohemgjfbaaWlaw09ac
import Derived.Test.YtbeknohemgjfbaaWref06bc
namespace Go.Proofs.Ytbeknohemgjfbaa.W
open Go Go.Proofs Go.Proofs.Ytbeknohemgjfbaa.L Go.Proofs.Ytbeknohemgjfbaa.Pu
set_option linter.unusedVariables false
set_option maxHeartbeats 4000000

theorem c_law09_awake (r : Bool) (H : law09_awake = some r) :
    Ctr Try.prog 15 [] [] [] (fun ret M' F' => ret = .bool r ∧ M' = [] ∧ F' = []) := by
  unfold law09_awake at H
  refine ctr_ofI (N := 34) Try.func15 rfl Try.ntmps15 rfl (Nat.le_of_ble_eq_true rfl) (fun γ0 w0 => ?_)
  refine Tr.seq ?_
  refine Tr.region ?_
  refine TrL.v (v_assign rfl rfl) rfl rfl (bl rfl) ?_
  refine TrL.nil (qthen_n ?_)
  refine Tr.seq ?_
  refine Tr.region ?_
  refine TrL.v (v_build (vs := [.int .u64 1, .int .u64 4]) (out := [.int .u64 1, .int .u64 4]) rfl pl103 ze103 rfl rfl) rfl rfl (bl rfl) ?_
  refine TrL.cons rfl (op_buildSlice' (rp := rp_u64_u64) (xs := [((1 : Int), (4 : Int))]) (vs := [.agg #[.int .u64 1, .int .u64 4]]) (out := [.int .u64 1, .int .u64 4]) rfl (bl rfl) rfl sl22 ty103 ze103 rfl rfl (by decide) (by decide) rfl (fun γ w hF => (rowc rfl rown rfl)) (fun A6 => ?_))
  obtain ⟨r13, hr13, H⟩ := bnd H
  refine TrL.cons rfl (op_call0' (vs := [.int .i64 0, .slice A6 1 1]) (cap := []) [0] rfl rfl (bl rfl) rfl rfl en16 (c_ref06_Made ((0 : Int)) ([((1 : Int), (4 : Int))]) A6 1 r13 hr13) rfl (fun ret M' F' hR13 => ?_))
  obtain ⟨m13, rfl, rfl, rfl⟩ := hR13
  obtain ⟨r14, hr14, H⟩ := bnd H
  refine TrL.cons rfl (op_call0' (vs := [.agg #[.int .i64 r13.1, .int .i64 r13.2.1, .slice m13.1 r13.2.2.length m13.2]]) (cap := []) [1] rfl rfl (bl rfl) rfl rfl en19 (c_law09_made r13 m13.1 m13.2 r14 hr14) rfl (fun ret M' F' hR14 => ?_))
  obtain ⟨rfl, rfl, rfl⟩ := hR14
  refine TrL.cons rfl (op_alloc' rfl (bl rfl) rfl ze35 (fun b3 => ?_))
  refine TrL.cons rfl (op_store' (k := 0) (c' := [.int .i64 r13.1, .int .i64 r13.2.1, .slice m13.1 r13.2.2.length m13.2]) rfl rfl rfl rfl rfl ty35 rfl (Nat.le_of_ble_eq_true rfl) (ones (oc rfl (oc rfl (oc rfl on)))) rfl ?_)
  refine TrL.nil (qthen_n ?_)
  refine Tr.seq ?_
  refine Tr.region ?_
  refine TrL.v (v_load (k := 0) rfl rfl rfl ty35 nofun rfl rfl) rfl rfl (bl rfl) ?_
  refine TrL.cons rfl (op_alloc' rfl (bl rfl) rfl ze35 (fun b4 => ?_))
  refine TrL.cons rfl (op_store' (k := 0) (c' := [.int .i64 r13.1, .int .i64 r13.2.1, .slice m13.1 r13.2.2.length m13.2]) rfl rfl rfl rfl rfl ty35 rfl (Nat.le_of_ble_eq_true rfl) (ones (oc rfl (oc rfl (oc rfl on)))) rfl ?_)
  refine TrL.nil (qthen_n ?_)
  refine Tr.seq ?_
  refine Tr.region ?_
  refine TrL.v (v_fieldAddr' rfl fo35_1 rfl rfl) rfl rfl (bl rfl) ?_
  refine TrL.cons rfl (op_store' (k := 0) (c' := [.int .i64 r13.1, .int .i64 5, .slice m13.1 r13.2.2.length m13.2]) rfl rfl rfl rfl rfl ty3 rfl (Nat.le_of_ble_eq_true rfl) (ones (oc rfl on)) rfl ?_)
  refine TrL.nil (qthen_n ?_)
  refine Tr.seq ?_
  refine Tr.region ?_
  refine TrL.v (v_load (k := 1) rfl rfl rfl ty35 nofun rfl rfl) rfl rfl (bl rfl) ?_
  obtain ⟨r20, hr20, H⟩ := bnd H
  refine TrL.cons rfl (op_call0' (vs := [.agg #[.int .i64 r13.1, .int .i64 r13.2.1, .slice m13.1 r13.2.2.length m13.2]]) (cap := []) [1] rfl rfl (bl rfl) rfl rfl en18 (c_check_Hist r13 m13.1 m13.2 r20 hr20) rfl (fun ret M' F' hR20 => ?_))
  obtain ⟨rfl, rfl, rfl⟩ := hR20
  refine TrL.v (v_arith rfl rfl rfl ar_eql) rfl rfl (bl rfl) ?_
  refine TrL.v (v_move rfl rfl) rfl rfl (bl rfl) ?_
  rcases ifc H with ⟨h13, H⟩ | ⟨h13, H⟩
  · refine TrL.cons_yes rfl rfl rfl (bt_dec h13) (OpTr.v (v_load (k := 0) rfl rfl rfl ty35 nofun rfl rfl) rfl (bl rfl) ?_)
    obtain ⟨r21, hr21, H⟩ := bnd H
    refine TrL.cons_yes rfl rfl rfl (bt_dec h13) (op_call0' (vs := [.agg #[.int .i64 r13.1, .int .i64 5, .slice m13.1 r13.2.2.length m13.2]]) (cap := []) [1] rfl rfl (bl rfl) rfl rfl en18 (c_check_Hist ((r13.1, (5 : Int), r13.2.2)) m13.1 m13.2 r21 hr21) rfl (fun ret M' F' hR21 => ?_))
    obtain ⟨rfl, rfl, rfl⟩ := hR21
    refine TrL.cons_yes rfl rfl rfl (bt_dec h13) (OpTr.v (v_arith rfl rfl rfl ar_eql) rfl (bl rfl) ?_)
    refine TrL.v (v_pick_t rfl rfl (bt_dec h13) rfl) rfl rfl (bl rfl) ?_
    refine TrL.v (v_move rfl rfl) rfl rfl (bl rfl) ?_
    rcases ifc H with ⟨h14, H⟩ | ⟨h14, H⟩
    · refine TrL.cons_yes rfl rfl rfl (bt_dec h14) (OpTr.v (v_load (k := 1) rfl rfl rfl ty35 nofun rfl rfl) rfl (bl rfl) ?_)
      obtain ⟨r22, hr22, H⟩ := bnd H
      refine TrL.cons_yes rfl rfl rfl (bt_dec h14) (op_call0' (vs := [.agg #[.int .i64 r13.1, .int .i64 r13.2.1, .slice m13.1 r13.2.2.length m13.2]]) (cap := []) [1] rfl rfl (bl rfl) rfl rfl en56 (c_check_Buckets r13 m13.1 m13.2 r22 hr22) rfl (fun ret M' F' hR22 => ?_))
      obtain ⟨rfl, rfl, rfl⟩ := hR22
      refine TrL.cons_yes rfl rfl rfl (bt_dec h14) (OpTr.v (v_arith rfl rfl rfl ar_eql) rfl (bl rfl) ?_)
      refine TrL.v (v_pick_t rfl rfl (bt_dec h14) rfl) rfl rfl (bl rfl) ?_
      refine TrL.v (v_move rfl rfl) rfl rfl (bl rfl) ?_
      rcases ifc H with ⟨h15, H⟩ | ⟨h15, H⟩
      · obtain ⟨r23, hr23, H⟩ := bnd H
        refine TrL.cons_yes rfl rfl rfl (bt_dec h15) (op_call0' (vs := [.int .i64 2, .int .i64 0, .int .u64 4]) (cap := []) [] rfl rfl (bl rfl) rfl rfl en57 (c_check_Bound ((2 : Int)) ((0 : Int)) ((4 : Int)) r23 hr23) rfl (fun ret M' F' hR23 => ?_))
        obtain ⟨rfl, rfl, rfl⟩ := hR23
        refine TrL.cons_yes rfl rfl rfl (bt_dec h15) (OpTr.v (v_arith rfl rfl rfl ar_eql) rfl (bl rfl) ?_)
        refine TrL.v (v_pick_t rfl rfl (bt_dec h15) rfl) rfl rfl (bl rfl) ?_
        refine TrL.v (v_move rfl rfl) rfl rfl (bl rfl) ?_
        rcases ifc H with ⟨h16, H⟩ | ⟨h16, H⟩
        · refine TrL.cons_yes rfl rfl rfl (bt_dec h16) (OpTr.v (v_build (vs := [.int .u64 1, .int .u64 2]) (out := [.int .u64 1, .int .u64 2]) rfl pl30 ze30 rfl rfl) rfl (bl rfl) ?_)
          refine TrL.cons_yes rfl rfl rfl (bt_dec h16) (op_buildSlice' (rp := rp_u64_u64) (xs := [((1 : Int), (2 : Int))]) (vs := [.agg #[.int .u64 1, .int .u64 2]]) (out := [.int .u64 1, .int .u64 2]) rfl (bl rfl) rfl sl31 ty30 ze30 rfl rfl (by decide) (by decide) rfl (fun γ w hF => (rowc rfl rown rfl)) (fun A9 => ?_))
          refine TrL.cons_yes rfl rfl rfl (bt_dec h16) (op_buildSlice' (rp := (rSl rp_u64_u64)) (xs := [[((1 : Int), (2 : Int))]]) (vs := [.slice A9 1 1]) (out := [.slice A9 1 1]) rfl (bl rfl) rfl sl24 ty31 ze31 rfl rfl (by decide) (by decide) rfl (fun γ w hF => (rowc ⟨_, _, rfl, hF _ (List.mem_of_getElem? (i := 3) rfl)⟩ rown rfl)) (fun A10 => ?_))
          refine TrL.cons_yes rfl rfl rfl (bt_dec h16) (OpTr.v (v_build (vs := [.int .i64 2, .slice A10 1 1]) (out := [.int .i64 2, .int .i64 0, .slice A10 1 1]) rfl pl35 ze35 rfl rfl) rfl (bl rfl) ?_)
          obtain ⟨r24, hr24, H⟩ := bnd H
          refine TrL.cons_yes rfl rfl rfl (bt_dec h16) (op_call0' (vs := [.agg #[.int .i64 2, .int .i64 0, .slice A10 1 1]]) (cap := []) [4] rfl rfl (bl rfl) rfl rfl en18 (c_check_Hist (((2 : Int), (0 : Int), [[((1 : Int), (2 : Int))]])) A10 1 r24 hr24) rfl (fun ret M' F' hR24 => ?_))
          obtain ⟨rfl, rfl, rfl⟩ := hR24
          refine TrL.cons_yes rfl rfl rfl (bt_dec h16) (OpTr.v (v_arith rfl rfl rfl ar_eql) rfl (bl rfl) ?_)
          refine TrL.v (v_pick_t rfl rfl (bt_dec h16) rfl) rfl rfl (bl rfl) ?_
          refine TrL.v (v_assign rfl rfl) rfl rfl (bl rfl) ?_
          refine TrL.nil (qthen_n ?_)
          have hz := Option.some.inj H
          subst hz
          refine Tr.ret (ret_r ⟨[(0, .bool (decide (r24 = 2)))], [], [], []⟩ [.bool (decide (r24 = 2))] [] [] (Imp.re _ [] [] (sc rfl sn) (by decide) rfl rfl rfl) rfl rfl ⟨rfl, rfl, rfl⟩ (.cons (resv_tmp rfl) .nil))
        · refine TrL.cons_no rfl rfl rfl (gn_t (bf_dec h16)) rfl (bl rfl) ?_
          refine TrL.cons_no rfl rfl rfl (gn_t (bf_dec h16)) rfl (bl rfl) ?_
          refine TrL.cons_no rfl rfl rfl (gn_t (bf_dec h16)) rfl (bl rfl) ?_
          refine TrL.cons_no rfl rfl rfl (gn_t (bf_dec h16)) rfl (bl rfl) ?_
          refine TrL.cons_no rfl rfl rfl (gn_t (bf_dec h16)) rfl (bl rfl) ?_
          refine TrL.cons_no rfl rfl rfl (gn_t (bf_dec h16)) rfl (bl rfl) ?_
          refine TrL.v (v_pick_f rfl rfl (bf_dec h16) rfl) rfl rfl (bl rfl) ?_
          refine TrL.v (v_assign rfl rfl) rfl rfl (bl rfl) ?_
          refine TrL.nil (qthen_n ?_)
          have hz := Option.some.inj H
          subst hz
          refine Tr.ret (ret_r ⟨[(0, .bool false)], [], [], []⟩ [.bool false] [] [] (Imp.re _ [] [] (sc rfl sn) (by decide) rfl rfl rfl) rfl rfl ⟨rfl, rfl, rfl⟩ (.cons (resv_tmp rfl) .nil))
      · refine TrL.cons_no rfl rfl rfl (gn_t (bf_dec h15)) rfl (bl rfl) ?_
        refine TrL.cons_no rfl rfl rfl (gn_t (bf_dec h15)) rfl (bl rfl) ?_
        refine TrL.v (v_pick_f rfl rfl (bf_dec h15) rfl) rfl rfl (bl rfl) ?_
        refine TrL.v (v_move rfl rfl) rfl rfl (bl rfl) ?_
        refine TrL.cons_no rfl rfl rfl (gn_t rfl) rfl (bl rfl) ?_
        refine TrL.cons_no rfl rfl rfl (gn_t rfl) rfl (bl rfl) ?_
        refine TrL.cons_no rfl rfl rfl (gn_t rfl) rfl (bl rfl) ?_
        refine TrL.cons_no rfl rfl rfl (gn_t rfl) rfl (bl rfl) ?_
        refine TrL.cons_no rfl rfl rfl (gn_t rfl) rfl (bl rfl) ?_
        refine TrL.cons_no rfl rfl rfl (gn_t rfl) rfl (bl rfl) ?_
        refine TrL.v (v_pick_f rfl rfl rfl rfl) rfl rfl (bl rfl) ?_
        refine TrL.v (v_assign rfl rfl) rfl rfl (bl rfl) ?_
        refine TrL.nil (qthen_n ?_)
        have hz := Option.some.inj H
        subst hz
        refine Tr.ret (ret_r ⟨[(0, .bool false)], [], [], []⟩ [.bool false] [] [] (Imp.re _ [] [] (sc rfl sn) (by decide) rfl rfl rfl) rfl rfl ⟨rfl, rfl, rfl⟩ (.cons (resv_tmp rfl) .nil))
    · refine TrL.cons_no rfl rfl rfl (gn_t (bf_dec h14)) rfl (bl rfl) ?_
      refine TrL.cons_no rfl rfl rfl (gn_t (bf_dec h14)) rfl (bl rfl) ?_
      refine TrL.cons_no rfl rfl rfl (gn_t (bf_dec h14)) rfl (bl rfl) ?_
      refine TrL.v (v_pick_f rfl rfl (bf_dec h14) rfl) rfl rfl (bl rfl) ?_
      refine TrL.v (v_move rfl rfl) rfl rfl (bl rfl) ?_
      refine TrL.cons_no rfl rfl rfl (gn_t rfl) rfl (bl rfl) ?_
      refine TrL.cons_no rfl rfl rfl (gn_t rfl) rfl (bl rfl) ?_
      refine TrL.v (v_pick_f rfl rfl rfl rfl) rfl rfl (bl rfl) ?_
      refine TrL.v (v_move rfl rfl) rfl rfl (bl rfl) ?_
      refine TrL.cons_no rfl rfl rfl (gn_t rfl) rfl (bl rfl) ?_
      refine TrL.cons_no rfl rfl rfl (gn_t rfl) rfl (bl rfl) ?_
      refine TrL.cons_no rfl rfl rfl (gn_t rfl) rfl (bl rfl) ?_
      refine TrL.cons_no rfl rfl rfl (gn_t rfl) rfl (bl rfl) ?_
      refine TrL.cons_no rfl rfl rfl (gn_t rfl) rfl (bl rfl) ?_
      refine TrL.cons_no rfl rfl rfl (gn_t rfl) rfl (bl rfl) ?_
      refine TrL.v (v_pick_f rfl rfl rfl rfl) rfl rfl (bl rfl) ?_
      refine TrL.v (v_assign rfl rfl) rfl rfl (bl rfl) ?_
      refine TrL.nil (qthen_n ?_)
      have hz := Option.some.inj H
      subst hz
      refine Tr.ret (ret_r ⟨[(0, .bool false)], [], [], []⟩ [.bool false] [] [] (Imp.re _ [] [] (sc rfl sn) (by decide) rfl rfl rfl) rfl rfl ⟨rfl, rfl, rfl⟩ (.cons (resv_tmp rfl) .nil))
  · refine TrL.cons_no rfl rfl rfl (gn_t (bf_dec h13)) rfl (bl rfl) ?_
    refine TrL.cons_no rfl rfl rfl (gn_t (bf_dec h13)) rfl (bl rfl) ?_
    refine TrL.cons_no rfl rfl rfl (gn_t (bf_dec h13)) rfl (bl rfl) ?_
    refine TrL.v (v_pick_f rfl rfl (bf_dec h13) rfl) rfl rfl (bl rfl) ?_
    refine TrL.v (v_move rfl rfl) rfl rfl (bl rfl) ?_
    refine TrL.cons_no rfl rfl rfl (gn_t rfl) rfl (bl rfl) ?_
    refine TrL.cons_no rfl rfl rfl (gn_t rfl) rfl (bl rfl) ?_
    refine TrL.cons_no rfl rfl rfl (gn_t rfl) rfl (bl rfl) ?_
    refine TrL.v (v_pick_f rfl rfl rfl rfl) rfl rfl (bl rfl) ?_
    refine TrL.v (v_move rfl rfl) rfl rfl (bl rfl) ?_
    refine TrL.cons_no rfl rfl rfl (gn_t rfl) rfl (bl rfl) ?_
    refine TrL.cons_no rfl rfl rfl (gn_t rfl) rfl (bl rfl) ?_
    refine TrL.v (v_pick_f rfl rfl rfl rfl) rfl rfl (bl rfl) ?_
    refine TrL.v (v_move rfl rfl) rfl rfl (bl rfl) ?_
    refine TrL.cons_no rfl rfl rfl (gn_t rfl) rfl (bl rfl) ?_
    refine TrL.cons_no rfl rfl rfl (gn_t rfl) rfl (bl rfl) ?_
    refine TrL.cons_no rfl rfl rfl (gn_t rfl) rfl (bl rfl) ?_
    refine TrL.cons_no rfl rfl rfl (gn_t rfl) rfl (bl rfl) ?_
    refine TrL.cons_no rfl rfl rfl (gn_t rfl) rfl (bl rfl) ?_
    refine TrL.cons_no rfl rfl rfl (gn_t rfl) rfl (bl rfl) ?_
    refine TrL.v (v_pick_f rfl rfl rfl rfl) rfl rfl (bl rfl) ?_
    refine TrL.v (v_assign rfl rfl) rfl rfl (bl rfl) ?_
    refine TrL.nil (qthen_n ?_)
    have hz := Option.some.inj H
    subst hz
    refine Tr.ret (ret_r ⟨[(0, .bool false)], [], [], []⟩ [.bool false] [] [] (Imp.re _ [] [] (sc rfl sn) (by decide) rfl rfl rfl) rfl rfl ⟨rfl, rfl, rfl⟩ (.cons (resv_tmp rfl) .nil))

theorem c_law09_copied (p1 : Int × Int × List (List (Int × Int))) (A1 : Option Addr) (c1 : Nat) (r : List (List (Int × Int))) (H : law09_copied p1 = some r) :
    Ctr Try.prog 17 [.agg #[.int .i64 p1.1, .int .i64 p1.2.1, .slice A1 p1.2.2.length c1]] [] [slF (rSl rp_u64_u64) A1 c1 p1.2.2] (fun ret M' F' => ∃ m : Option Addr × Nat, ret = .agg #[.int .i64 p1.1, .int .i64 p1.2.1, .slice m.1 r.length m.2] ∧ M' = [] ∧ F' = [slF (rSl rp_u64_u64) m.1 m.2 r]) := by
  unfold law09_copied at H
  refine ctr_ofI (N := 30) Try.func17 rfl Try.ntmps17 rfl (Nat.le_of_ble_eq_true rfl) (fun γ0 w0 => ?_)
  refine Tr.seq ?_
  refine Tr.region ?_
  refine TrL.cons rfl (op_box' rfl (bl rfl) rfl rfl rfl (fun b4 => ?_))
  refine TrL.cons rfl (op_alloc' rfl (bl rfl) rfl ze26 (fun b5 => ?_))
  refine TrL.nil (qthen_n ?_)
  refine Tr.seq ?_
  refine Tr.region ?_
  refine TrL.v (v_fieldAddr' rfl fo26_0 rfl rfl) rfl rfl (bl rfl) ?_
  refine TrL.v (v_load (k := 1) rfl rfl rfl ty3 (fun _ => rfl) rfl rfl) rfl rfl (bl rfl) ?_
  refine TrL.v (v_fieldAddr' rfl fo26_1 rfl rfl) rfl rfl (bl rfl) ?_
  refine TrL.v (v_load (k := 1) rfl rfl rfl ty3 (fun _ => rfl) rfl rfl) rfl rfl (bl rfl) ?_
  refine TrL.v (v_build (vs := [.int .i64 p1.1, .int .i64 p1.2.1]) (out := [.int .i64 p1.1, .int .i64 p1.2.1, .slice none 0 0]) rfl pl26 ze26 rfl rfl) rfl rfl (bl rfl) ?_
  refine TrL.cons rfl (op_alloc' rfl (bl rfl) rfl ze26 (fun b6 => ?_))
  refine TrL.cons rfl (op_store' (k := 0) (c' := [.int .i64 p1.1, .int .i64 p1.2.1, .slice none 0 0]) rfl rfl rfl rfl rfl ty26 rfl (Nat.le_of_ble_eq_true rfl) (ones (oc rfl (oc rfl (oc rfl on)))) rfl ?_)
  refine TrL.nil (qthen_n ?_)
  refine Tr.seq ?_
  refine Tr.seq ?_
  refine Tr.region ?_
  refine TrL.v (v_assign rfl rfl) rfl rfl (bl rfl) ?_
  refine TrL.nil (qthen_n ?_)
  obtain ⟨x2, hx3, H⟩ := bnd H
  refine Tr.cutE (D := List (List (Int × Int))) (M := Option Addr × Nat × Option Nat) .normal (fun _d => x2 = _d) (fun x2 m8 => ⟨[(2, .pointer (some ⟨b5, 0, none⟩)), (3, .pointer (some ⟨b6, 0, none⟩))], [cells b5 [.int .i64 0, .int .i64 0, .slice none 0 0] 26, cells b6 [.int .i64 p1.1, .int .i64 p1.2.1, .slice m8.1 x2.length m8.2.1] 26, grow 31 1 (.slice m8.1 x2.length m8.2.1) x2.length m8.2.2], [slF (rSl rp_u64_u64) none 0 (([] : List (List (Int × Int)))), slF (rSl rp_u64_u64) m8.1 m8.2.1 x2], []⟩) ?_ (fun x2 m8 hd2 => ?_)
  · refine Tr.block (Tr.loopI (ι := Option Addr × Nat × Option Nat) (step := law09_copied_s0 p1) (fun s5 m6 => ⟨[(1, .pointer (some ⟨b4, 0, none⟩)), (2, .pointer (some ⟨b5, 0, none⟩)), (3, .pointer (some ⟨b6, 0, none⟩)), (4, .int .i64 s5.1)], [cells b4 [.int .i64 p1.1, .int .i64 p1.2.1, .slice A1 p1.2.2.length c1] 26, cells b5 [.int .i64 0, .int .i64 0, .slice none 0 0] 26, cells b6 [.int .i64 p1.1, .int .i64 p1.2.1, .slice m6.1 s5.2.length m6.2.1] 26, grow 31 1 (.slice m6.1 s5.2.length m6.2.1) s5.2.length m6.2.2], [slF (rSl rp_u64_u64) A1 c1 p1.2.2, slF (rSl rp_u64_u64) none 0 (([] : List (List (Int × Int)))), slF (rSl rp_u64_u64) m6.1 m6.2.1 s5.2], []⟩) ((none, 0, none)) hx3 (Imp.full' (E := 31) (sz := 1) (A := none) (n := 0) (Imp.addF' _ (nilF (rSl rp_u64_u64)) (Imp.re _ [3, 2, 1, 0] [0, 1, 1] (sc rfl (sc rfl (sc rfl (sc rfl sn)))) (by decide) rfl rfl rfl))) (fun s5 m6 y2 hy2 hx4 => ?_))
    unfold law09_copied_s0 at hy2
    refine Tr.seq ?_
    refine Tr.seq ?_
    refine Tr.region ?_
    refine TrL.v (v_move rfl rfl) rfl rfl (bl rfl) ?_
    refine TrL.v (v_fieldAddr' rfl fo26_2 rfl rfl) rfl rfl (bl rfl) ?_
    refine TrL.v (v_load (k := 0) rfl rfl rfl ty24 (fun _ => rfl) rfl rfl) rfl rfl (bl rfl) ?_
    refine TrL.v (v_len rfl sl24 rfl) rfl rfl (bl rfl) ?_
    refine TrL.v (v_arith rfl rfl rfl ar_lss) rfl rfl (bl rfl) ?_
    refine TrL.nil (qthen_n ?_)
    rcases ifc hy2 with ⟨h26, hy2⟩ | ⟨h26, hy2⟩
    · refine Tr.cond_t rfl (bt_dec h26) ?_
      refine Tr.skip (qthen_n ?_)
      refine Tr.seq ?_
      refine Tr.block ?_
      refine Tr.regionD drawn (fun hok => ?_)
      refine TrAny.prom (i := 0) (d := 17) hok (OpVal.plain rfl rfl (v_fieldAddr' rfl fo26_2 rfl rfl)) (by kernel_rfl) rfl (bl rfl) ?_
      clear hok
      intro hok
      refine TrAny.prom (i := 1) (d := 18) hok (OpVal.plain rfl rfl (v_load (k := 2) rfl rfl rfl ty24 (fun _ => rfl) rfl rfl)) (by kernel_rfl) rfl (bl rfl) ?_
      clear hok
      intro hok
      refine TrAny.prom (i := 3) (d := 20) hok (OpVal.plain rfl rfl (v_fieldAddr' rfl fo26_2 rfl rfl)) (by kernel_rfl) rfl (bl rfl) ?_
      clear hok
      intro hok
      refine TrAny.prom (i := 4) (d := 21) hok (OpVal.plain rfl rfl (v_load (k := 0) rfl rfl rfl ty24 (fun _ => rfl) rfl rfl)) (by kernel_rfl) rfl (bl rfl) ?_
      clear hok
      intro hok
      refine TrAny.prom (i := 5) (d := 22) hok (OpVal.plain rfl rfl (v_move rfl rfl)) (by kernel_rfl) rfl (bl rfl) ?_
      clear hok
      intro hok
      obtain ⟨z12, hz12, hy2⟩ := bnd hy2
      refine TrAny.prom (i := 6) (d := 23) hok (OpVal.plain rfl rfl (v_indexAddr (k := 0) rfl sl24 ty31 rfl rfl rfl rfl hz12)) (by kernel_rfl) rfl (bl rfl) ?_
      clear hok
      intro hok
      refine TrAny.openS' (k := 0) rfl hz12 hok (fun A57 c35 hok => ?_)
      refine TrAny.prom (i := 7) (d := 24) hok (OpVal.plain rfl rfl (v_loadF (k := 4) rfl ty31 rfl rfl)) (by kernel_rfl) rfl (bl rfl) ?_
      clear hok
      intro hok
      refine TrAny.prom (i := 11) (d := 28) hok (OpVal.plain rfl rfl (v_fieldAddr' rfl fo26_2 rfl rfl)) (by kernel_rfl) rfl (bl rfl) ?_
      clear hok
      intro hok
      refine TrAny.next (j := 2) (by kernel_rfl) hok rfl (by kernel_rfl) (op_buildSlice' (rp := rp_u64_u64) (xs := []) (vs := []) (out := []) rfl (bl rfl) rfl sl31 ty30 ze30 rfl rfl (by decide) (by decide) rfl (fun γ w hF => rown) (fun A58 => ?_))
      refine nxp hok (kp_imp (kp_cf rfl)) rfl (by kernel_rfl) ?_
      clear hok
      intro hok
      refine TrAny.full' (E := 30) (sz := 2) (A := A58) (n := 0) hok (fun hok => ?_)
      obtain ⟨h29, hy2⟩ := rom hy2
      refine TrAny.next (j := 8) (by kernel_rfl) hok rfl (by kernel_rfl) (op_append' (rp := rp_u64_u64) (xs := ([] : List (Int × Int))) (ys := z12) (k := 0) (kx := 5) (ky := 3) rfl (bl rfl) rfl sl31 ty30 ze30 rfl by30 rfl rfl rfl rfl rfl rfl rfl h29.1 h29.2 (fun A59 c36 o23 => ?_))
      refine nxp hok (kp_all (ac (.inr (OpVal.plain rfl rfl (v_fieldAddr' rfl fo26_2 rfl rfl))) (ac (.inr (OpVal.plain rfl rfl (v_load (k := 3) rfl rfl rfl ty24 (fun _ => rfl) rfl rfl))) (ac (.inr (OpVal.plain rfl rfl (v_fieldAddr' rfl fo26_2 rfl rfl))) (ac (.inr (OpVal.plain rfl rfl (v_load (k := 1) rfl rfl rfl ty24 (fun _ => rfl) rfl rfl))) (ac (.inr (OpVal.plain rfl rfl (v_move rfl rfl))) (ac (.inr (OpVal.plain rfl rfl (v_indexAddr (k := 0) rfl sl24 ty31 rfl rfl rfl rfl hz12))) (ac (.inl (by kernel_rfl)) (ac (.inr (OpVal.plain rfl rfl (v_fieldAddr' rfl fo26_2 rfl rfl))) an))))))))) rfl (by kernel_rfl) ?_
      clear hok
      intro hok
      refine TrAny.next (j := 9) (by kernel_rfl) hok rfl (by kernel_rfl) (op_buildSlice' (rp := (rSl rp_u64_u64)) (xs := [z12]) (vs := [.slice A59 z12.length c36]) (out := [.slice A59 z12.length c36]) rfl (bl rfl) rfl sl24 ty31 ze31 rfl rfl (by decide) (by decide) rfl (fun γ w hF => (rowc ⟨_, _, rfl, hF _ (List.mem_of_getElem? (i := 6) rfl)⟩ rown rfl)) (fun A60 => ?_))
      refine nxp hok (kp_imp (kp_cf rfl)) rfl (by kernel_rfl) ?_
      clear hok
      intro hok
      obtain ⟨h30, hy2⟩ := rom hy2
      refine TrAny.next (j := 10) (by kernel_rfl) hok rfl (by kernel_rfl) (op_append' (rp := (rSl rp_u64_u64)) (xs := s5.2) (ys := [z12]) (k := 4) (kx := 2) (ky := 7) rfl (bl rfl) rfl sl24 ty31 ze31 rfl by31 rfl rfl rfl rfl rfl rfl rfl h30.1 h30.2 (fun A61 c37 o24 => ?_))
      refine nxp hok (kp_all (ac (.inr (OpVal.plain rfl rfl (v_fieldAddr' rfl fo26_2 rfl rfl))) (ac (.inl (by kernel_rfl)) (ac (.inr (OpVal.plain rfl rfl (v_fieldAddr' rfl fo26_2 rfl rfl))) (ac (.inr (OpVal.plain rfl rfl (v_load (k := 1) rfl rfl rfl ty24 (fun _ => rfl) rfl rfl))) (ac (.inr (OpVal.plain rfl rfl (v_move rfl rfl))) (ac (.inr (OpVal.plain rfl rfl (v_indexAddr (k := 0) rfl sl24 ty31 rfl rfl rfl rfl hz12))) (ac (.inr (OpVal.plain rfl rfl (v_loadF (k := 4) rfl ty31 rfl rfl))) (ac (.inr (OpVal.plain rfl rfl (v_fieldAddr' rfl fo26_2 rfl rfl))) an))))))))) rfl (by kernel_rfl) ?_
      clear hok
      intro hok
      refine TrAny.next (j := 12) (by kernel_rfl) hok rfl (by kernel_rfl) (op_store' (k := 3) (c' := [.int .i64 p1.1, .int .i64 p1.2.1, .slice A61 ((s5.2 ++ ([z12])).length) c37]) rfl rfl rfl rfl rfl ty24 rfl (Nat.le_of_ble_eq_true rfl) (ones (oc rfl on)) rfl ?_)
      refine nxs hok (kp_aw (by kernel_rfl)) rfl ?_
      clear hok
      intro hok
      refine TrAny.done (by kernel_rfl) (by kernel_rfl) hok (by kernel_rfl) (qblock_n (qthen_n ?_))
      refine Tr.region ?_
      refine TrL.v (v_move rfl rfl) rfl rfl (bl rfl) ?_
      refine TrL.v (v_arith rfl rfl rfl ar_add_i64) rfl rfl (bl rfl) ?_
      refine TrL.v (v_assign rfl rfl) rfl rfl (bl rfl) ?_
      have hz := Option.some.inj hy2
      subst hz
      refine TrL.nil (qloop_n ((A61, c37, o24)) (Imp.re _ [1, 2, 3, 4] [0, 1, 8] (sc rfl (sc rfl (sc rfl (sc rfl sn)))) (by decide) rfl rfl rfl))
    · refine Tr.cond_f rfl (bf_dec h26) ?_
      have hz := Option.some.inj hy2
      subst hz
      refine Tr.exit (qthen_x (qloop_x (qblock_hit (qcut_hit s5.2 ((m6.1, m6.2.1, m6.2.2)) (hx4 _ rfl).symm (Imp.re _ [1, 2, 3] [1, 2] (sc rfl (sc rfl sn)) (by decide) rfl rfl rfl)))))
  · subst hd2
    refine (qthen_n ?_)
    refine Tr.seq ?_
    refine Tr.region ?_
    refine TrL.v (v_load (k := 1) rfl rfl rfl ty26 nofun rfl rfl) rfl rfl (bl rfl) ?_
    refine TrL.cons rfl (op_store' (k := 0) (c' := [.int .i64 p1.1, .int .i64 p1.2.1, .slice m8.1 x2.length m8.2.1]) rfl rfl rfl rfl rfl ty26 rfl (Nat.le_of_ble_eq_true rfl) (ones (oc rfl (oc rfl (oc rfl on)))) rfl ?_)
    refine TrL.nil (qthen_n ?_)
    have hz := Option.some.inj H
    subst hz
    refine Tr.ret (ret_r ⟨[(2, .pointer (some ⟨b5, 0, none⟩))], [cells b5 [.int .i64 p1.1, .int .i64 p1.2.1, .slice m8.1 x2.length m8.2.1] 26], [slF (rSl rp_u64_u64) m8.1 m8.2.1 x2], []⟩ [.agg #[.int .i64 p1.1, .int .i64 p1.2.1, .slice m8.1 x2.length m8.2.1]] [] [cells b5 [.int .i64 p1.1, .int .i64 p1.2.1, .slice m8.1 x2.length m8.2.1] 26] (Imp.re _ [0] [1] (sc rfl sn) (by decide) rfl rfl rfl) rfl rfl ⟨((m8.1, m8.2.1)), rfl, rfl, rfl⟩ (.cons (resv_cell (k := 0) rfl rfl ty26 nofun rfl rfl) .nil))
end Go.Proofs.Ytbeknohemgjfbaa.W
