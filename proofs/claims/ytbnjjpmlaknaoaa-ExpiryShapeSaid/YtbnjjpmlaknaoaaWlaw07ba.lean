/- The contracts of the walked functions: the printed walks. -/
import Derived.Test.YtbnjjpmlaknaoaaKa
import Derived.Test.YtbnjjpmlaknaoaaQa
import Derived.Test.YtbnjjpmlaknaoaaWexpiryaa
import Derived.Test.YtbnjjpmlaknaoaaWhistaa
import Derived.Test.YtbnjjpmlaknaoaaWlaw07aa
import Derived.Test.YtbnjjpmlaknaoaaWref06ba
namespace Go.Proofs.Ytbnjjpmlaknaoaa.W
open Go Go.Proofs Go.Proofs.Ytbnjjpmlaknaoaa.L Go.Proofs.Ytbnjjpmlaknaoaa.Pu
set_option linter.unusedVariables false
set_option maxHeartbeats 4000000

theorem c_law07_awake (r : Bool) (H : law07_awake = some r) :
    Ctr Try.prog 29 [] [] [] (fun ret M' F' => ret = .bool r ∧ M' = [] ∧ F' = []) := by
  unfold law07_awake at H
  refine ctr_ofI (N := 32) Try.func29 rfl Try.ntmps29 rfl (Nat.le_of_ble_eq_true rfl) (fun γ0 w0 => ?_)
  refine Tr.seq ?_
  refine Tr.region ?_
  refine TrL.v (v_assign rfl rfl) rfl rfl (bl rfl) ?_
  refine TrL.nil (qthen_n ?_)
  refine Tr.seq ?_
  refine Tr.region ?_
  refine TrL.v (v_build (vs := [.int .u64 5, .int .u64 1]) (out := [.int .u64 5, .int .u64 1]) rfl pl80 ze80 rfl rfl) rfl rfl (bl rfl) ?_
  refine TrL.v (v_build (vs := [.int .u64 5, .int .u64 1]) (out := [.int .u64 5, .int .u64 1]) rfl pl80 ze80 rfl rfl) rfl rfl (bl rfl) ?_
  refine TrL.cons rfl (op_buildSlice' (rp := rp_u64_u64) (xs := [((5 : Int), (1 : Int)), ((5 : Int), (1 : Int))]) (vs := [.agg #[.int .u64 5, .int .u64 1], .agg #[.int .u64 5, .int .u64 1]]) (out := [.int .u64 5, .int .u64 1, .int .u64 5, .int .u64 1]) rfl (bl rfl) rfl sl22 ty80 ze80 rfl rfl (by decide) (by decide) rfl (fun γ w hF => (rowc rfl (rowc rfl rown rfl) rfl)) (fun A2 => ?_))
  obtain ⟨r14, hr14, H⟩ := bnd H
  refine TrL.cons rfl (op_call0' (vs := [.int .i64 0, .slice A2 2 2]) (cap := []) [0] rfl rfl (bl rfl) rfl rfl en30 (c_ref06_Made ((0 : Int)) ([((5 : Int), (1 : Int)), ((5 : Int), (1 : Int))]) A2 2 r14 hr14) rfl (fun ret M' F' hR14 => ?_))
  obtain ⟨m14, rfl, rfl, rfl⟩ := hR14
  obtain ⟨r15, hr15, H⟩ := bnd H
  refine TrL.cons rfl (op_call0' (vs := [.agg #[.int .i64 r14.1, .int .i64 r14.2.1, .slice m14.1 r14.2.2.length m14.2]]) (cap := []) [1] rfl rfl (bl rfl) rfl rfl en33 (c_law07_made r14 m14.1 m14.2 r15 hr15) rfl (fun ret M' F' hR15 => ?_))
  obtain ⟨rfl, rfl, rfl⟩ := hR15
  refine TrL.cons rfl (op_alloc' rfl (bl rfl) rfl ze31 (fun b3 => ?_))
  refine TrL.cons rfl (op_store' (k := 0) (c' := [.int .i64 r14.1, .int .i64 r14.2.1, .slice m14.1 r14.2.2.length m14.2]) rfl rfl rfl rfl rfl ty31 rfl (Nat.le_of_ble_eq_true rfl) (ones (oc rfl (oc rfl (oc rfl on)))) rfl ?_)
  refine TrL.nil (qthen_n ?_)
  refine Tr.seq ?_
  refine Tr.region ?_
  refine TrL.v (v_load (k := 0) rfl rfl rfl ty31 nofun rfl rfl) rfl rfl (bl rfl) ?_
  obtain ⟨r16, hr16, H⟩ := bnd H
  refine TrL.cons rfl (op_call0' (vs := [.agg #[.int .i64 r14.1, .int .i64 r14.2.1, .slice m14.1 r14.2.2.length m14.2], .int .u64 15, .int .u64 10]) (cap := []) [1] rfl rfl (bl rfl) rfl rfl en32 (c_expiry_Drop r14 ((15 : Int)) ((10 : Int)) m14.1 m14.2 r16 hr16) rfl (fun ret M' F' hR16 => ?_))
  obtain ⟨m16, rfl, rfl, rfl⟩ := hR16
  refine TrL.cons rfl (op_alloc' rfl (bl rfl) rfl ze31 (fun b4 => ?_))
  refine TrL.cons rfl (op_store' (k := 0) (c' := [.int .i64 r14.1, .int .i64 r14.2.1, .slice m16.1 r16.length m16.2]) rfl rfl rfl rfl rfl ty31 rfl (Nat.le_of_ble_eq_true rfl) (ones (oc rfl (oc rfl (oc rfl on)))) rfl ?_)
  refine TrL.nil (qthen_n ?_)
  refine Tr.seq ?_
  refine Tr.region ?_
  obtain ⟨r22, hr22, H⟩ := bnd H
  refine TrL.cons rfl (op_call0' (vs := [.int .u64 5, .int .u64 15, .int .u64 10]) (cap := []) [] rfl rfl (bl rfl) rfl rfl en35 (c_expiry_Old ((5 : Int)) ((15 : Int)) ((10 : Int)) r22 hr22) rfl (fun ret M' F' hR22 => ?_))
  obtain ⟨rfl, rfl, rfl⟩ := hR22
  refine TrL.v (v_move rfl rfl) rfl rfl (bl rfl) ?_
  rcases ifc H with ⟨h13, H⟩ | ⟨h13, H⟩
  · obtain ⟨r23, hr23, H⟩ := bnd H
    refine TrL.cons_yes rfl rfl rfl h13 (op_call0' (vs := [.int .u64 5, .int .u64 14, .int .u64 10]) (cap := []) [] rfl rfl (bl rfl) rfl rfl en35 (c_expiry_Old ((5 : Int)) ((14 : Int)) ((10 : Int)) r23 hr23) rfl (fun ret M' F' hR23 => ?_))
    obtain ⟨rfl, rfl, rfl⟩ := hR23
    refine TrL.cons_yes rfl rfl rfl h13 (OpTr.v (v_notd rfl (bdec rfl)) rfl (bl rfl) ?_)
    refine TrL.v (v_pick_t rfl rfl h13 rfl) rfl rfl (bl rfl) ?_
    refine TrL.v (v_move rfl rfl) rfl rfl (bl rfl) ?_
    rcases ifc H with ⟨h14, H⟩ | ⟨h14, H⟩
    · refine TrL.cons_yes rfl rfl rfl (bt_dec h14) (OpTr.v (v_load (k := 1) rfl rfl rfl ty31 nofun rfl rfl) rfl (bl rfl) ?_)
      obtain ⟨r24, hr24, H⟩ := bnd H
      refine TrL.cons_yes rfl rfl rfl (bt_dec h14) (op_call0' (vs := [.agg #[.int .i64 r14.1, .int .i64 r14.2.1, .slice m14.1 r14.2.2.length m14.2]]) (cap := []) [1] rfl rfl (bl rfl) rfl rfl en45 (c_hist_Total r14 m14.1 m14.2 r24 hr24) rfl (fun ret M' F' hR24 => ?_))
      obtain ⟨rfl, rfl, rfl⟩ := hR24
      refine TrL.cons_yes rfl rfl rfl (bt_dec h14) (OpTr.v (v_arith rfl rfl rfl ar_eql) rfl (bl rfl) ?_)
      refine TrL.v (v_pick_t rfl rfl (bt_dec h14) rfl) rfl rfl (bl rfl) ?_
      refine TrL.v (v_move rfl rfl) rfl rfl (bl rfl) ?_
      rcases ifc H with ⟨h15, H⟩ | ⟨h15, H⟩
      · refine TrL.cons_yes rfl rfl rfl (bt_dec h15) (OpTr.v (v_load (k := 0) rfl rfl rfl ty31 nofun rfl rfl) rfl (bl rfl) ?_)
        obtain ⟨r25, hr25, H⟩ := bnd H
        refine TrL.cons_yes rfl rfl rfl (bt_dec h15) (op_call0' (vs := [.agg #[.int .i64 r14.1, .int .i64 r14.2.1, .slice m16.1 r16.length m16.2]]) (cap := []) [3] rfl rfl (bl rfl) rfl rfl en45 (c_hist_Total ((r14.1, r14.2.1, r16)) m16.1 m16.2 r25 hr25) rfl (fun ret M' F' hR25 => ?_))
        obtain ⟨rfl, rfl, rfl⟩ := hR25
        refine TrL.cons_yes rfl rfl rfl (bt_dec h15) (OpTr.v (v_arith rfl rfl rfl ar_eql) rfl (bl rfl) ?_)
        refine TrL.v (v_pick_t rfl rfl (bt_dec h15) rfl) rfl rfl (bl rfl) ?_
        refine TrL.v (v_move rfl rfl) rfl rfl (bl rfl) ?_
        rcases ifc H with ⟨h16, H⟩ | ⟨h16, H⟩
        · refine TrL.cons_yes rfl rfl rfl (bt_dec h16) (OpTr.v (v_load (k := 1) rfl rfl rfl ty31 nofun rfl rfl) rfl (bl rfl) ?_)
          obtain ⟨r26, hr26, H⟩ := bnd H
          refine TrL.cons_yes rfl rfl rfl (bt_dec h16) (op_call0' (vs := [.agg #[.int .i64 r14.1, .int .i64 r14.2.1, .slice m14.1 r14.2.2.length m14.2], .int .u64 20, .int .u64 10]) (cap := []) [1] rfl rfl (bl rfl) rfl rfl en32 (c_expiry_Drop r14 ((20 : Int)) ((10 : Int)) m14.1 m14.2 r26 hr26) rfl (fun ret M' F' hR26 => ?_))
          obtain ⟨m26, rfl, rfl, rfl⟩ := hR26
          refine TrL.cons_yes rfl rfl rfl (bt_dec h16) (OpTr.v (v_field rfl ft31_2 ty26 (fun _ => rfl) rfl rfl rfl) rfl (bl rfl) ?_)
          refine TrL.cons_yes rfl rfl rfl (bt_dec h16) (OpTr.v (v_len rfl sl26 rfl) rfl (bl rfl) ?_)
          refine TrL.cons_yes rfl rfl rfl (bt_dec h16) (OpTr.v (v_arith rfl rfl rfl ar_eql) rfl (bl rfl) ?_)
          refine TrL.v (v_pick_t rfl rfl (bt_dec h16) rfl) rfl rfl (bl rfl) ?_
          refine TrL.v (v_assign rfl rfl) rfl rfl (bl rfl) ?_
          refine TrL.nil (qthen_n ?_)
          have hz := Option.some.inj H
          subst hz
          refine Tr.ret (ret_r ⟨[(0, .bool (decide (((r26.length : Int)) = 0)))], [], [], []⟩ [.bool (decide (((r26.length : Int)) = 0))] [] [] (Imp.re _ [] [] (sc rfl sn) (by decide) rfl rfl rfl) rfl rfl ⟨rfl, rfl, rfl⟩ (.cons (resv_tmp rfl) .nil))
        · refine TrL.cons_no rfl rfl rfl (gn_t (bf_dec h16)) rfl (bl rfl) ?_
          refine TrL.cons_no rfl rfl rfl (gn_t (bf_dec h16)) rfl (bl rfl) ?_
          refine TrL.cons_no rfl rfl rfl (gn_t (bf_dec h16)) rfl (bl rfl) ?_
          refine TrL.cons_no rfl rfl rfl (gn_t (bf_dec h16)) rfl (bl rfl) ?_
          refine TrL.cons_no rfl rfl rfl (gn_t (bf_dec h16)) rfl (bl rfl) ?_
          refine TrL.v (v_pick_f rfl rfl (bf_dec h16) rfl) rfl rfl (bl rfl) ?_
          refine TrL.v (v_assign rfl rfl) rfl rfl (bl rfl) ?_
          refine TrL.nil (qthen_n ?_)
          have hz := Option.some.inj H
          subst hz
          refine Tr.ret (ret_r ⟨[(0, .bool false)], [], [], []⟩ [.bool false] [] [] (Imp.re _ [] [] (sc rfl sn) (by decide) rfl rfl rfl) rfl rfl ⟨rfl, rfl, rfl⟩ (.cons (resv_tmp rfl) .nil))
      · refine TrL.cons_no rfl rfl rfl (gn_t (bf_dec h15)) rfl (bl rfl) ?_
        refine TrL.cons_no rfl rfl rfl (gn_t (bf_dec h15)) rfl (bl rfl) ?_
        refine TrL.cons_no rfl rfl rfl (gn_t (bf_dec h15)) rfl (bl rfl) ?_
        refine TrL.v (v_pick_f rfl rfl (bf_dec h15) rfl) rfl rfl (bl rfl) ?_
        refine TrL.v (v_move rfl rfl) rfl rfl (bl rfl) ?_
        refine TrL.cons_no rfl rfl rfl (gn_t rfl) rfl (bl rfl) ?_
        refine TrL.cons_no rfl rfl rfl (gn_t rfl) rfl (bl rfl) ?_
        refine TrL.cons_no rfl rfl rfl (gn_t rfl) rfl (bl rfl) ?_
        refine TrL.cons_no rfl rfl rfl (gn_t rfl) rfl (bl rfl) ?_
        refine TrL.cons_no rfl rfl rfl (gn_t rfl) rfl (bl rfl) ?_
        refine TrL.v (v_pick_f rfl rfl rfl rfl) rfl rfl (bl rfl) ?_
        refine TrL.v (v_assign rfl rfl) rfl rfl (bl rfl) ?_
        refine TrL.nil (qthen_n ?_)
        have hz := Option.some.inj H
        subst hz
        refine Tr.ret (ret_r ⟨[(0, .bool false)], [], [], []⟩ [.bool false] [] [] (Imp.re _ [] [] (sc rfl sn) (by decide) rfl rfl rfl) rfl rfl ⟨rfl, rfl, rfl⟩ (.cons (resv_tmp rfl) .nil))
    · refine TrL.cons_no rfl rfl rfl (gn_t (bf_dec h14)) rfl (bl rfl) ?_
      refine TrL.cons_no rfl rfl rfl (gn_t (bf_dec h14)) rfl (bl rfl) ?_
      refine TrL.cons_no rfl rfl rfl (gn_t (bf_dec h14)) rfl (bl rfl) ?_
      refine TrL.v (v_pick_f rfl rfl (bf_dec h14) rfl) rfl rfl (bl rfl) ?_
      refine TrL.v (v_move rfl rfl) rfl rfl (bl rfl) ?_
      refine TrL.cons_no rfl rfl rfl (gn_t rfl) rfl (bl rfl) ?_
      refine TrL.cons_no rfl rfl rfl (gn_t rfl) rfl (bl rfl) ?_
      refine TrL.cons_no rfl rfl rfl (gn_t rfl) rfl (bl rfl) ?_
      refine TrL.v (v_pick_f rfl rfl rfl rfl) rfl rfl (bl rfl) ?_
      refine TrL.v (v_move rfl rfl) rfl rfl (bl rfl) ?_
      refine TrL.cons_no rfl rfl rfl (gn_t rfl) rfl (bl rfl) ?_
      refine TrL.cons_no rfl rfl rfl (gn_t rfl) rfl (bl rfl) ?_
      refine TrL.cons_no rfl rfl rfl (gn_t rfl) rfl (bl rfl) ?_
      refine TrL.cons_no rfl rfl rfl (gn_t rfl) rfl (bl rfl) ?_
      refine TrL.cons_no rfl rfl rfl (gn_t rfl) rfl (bl rfl) ?_
      refine TrL.v (v_pick_f rfl rfl rfl rfl) rfl rfl (bl rfl) ?_
      refine TrL.v (v_assign rfl rfl) rfl rfl (bl rfl) ?_
      refine TrL.nil (qthen_n ?_)
      have hz := Option.some.inj H
      subst hz
      refine Tr.ret (ret_r ⟨[(0, .bool false)], [], [], []⟩ [.bool false] [] [] (Imp.re _ [] [] (sc rfl sn) (by decide) rfl rfl rfl) rfl rfl ⟨rfl, rfl, rfl⟩ (.cons (resv_tmp rfl) .nil))
  · refine TrL.cons_no rfl rfl rfl (gn_t (bf_b h13)) rfl (bl rfl) ?_
    refine TrL.cons_no rfl rfl rfl (gn_t (bf_b h13)) rfl (bl rfl) ?_
    refine TrL.v (v_pick_f rfl rfl (bf_b h13) rfl) rfl rfl (bl rfl) ?_
    refine TrL.v (v_move rfl rfl) rfl rfl (bl rfl) ?_
    refine TrL.cons_no rfl rfl rfl (gn_t rfl) rfl (bl rfl) ?_
    refine TrL.cons_no rfl rfl rfl (gn_t rfl) rfl (bl rfl) ?_
    refine TrL.cons_no rfl rfl rfl (gn_t rfl) rfl (bl rfl) ?_
    refine TrL.v (v_pick_f rfl rfl rfl rfl) rfl rfl (bl rfl) ?_
    refine TrL.v (v_move rfl rfl) rfl rfl (bl rfl) ?_
    refine TrL.cons_no rfl rfl rfl (gn_t rfl) rfl (bl rfl) ?_
    refine TrL.cons_no rfl rfl rfl (gn_t rfl) rfl (bl rfl) ?_
    refine TrL.cons_no rfl rfl rfl (gn_t rfl) rfl (bl rfl) ?_
    refine TrL.v (v_pick_f rfl rfl rfl rfl) rfl rfl (bl rfl) ?_
    refine TrL.v (v_move rfl rfl) rfl rfl (bl rfl) ?_
    refine TrL.cons_no rfl rfl rfl (gn_t rfl) rfl (bl rfl) ?_
    refine TrL.cons_no rfl rfl rfl (gn_t rfl) rfl (bl rfl) ?_
    refine TrL.cons_no rfl rfl rfl (gn_t rfl) rfl (bl rfl) ?_
    refine TrL.cons_no rfl rfl rfl (gn_t rfl) rfl (bl rfl) ?_
    refine TrL.cons_no rfl rfl rfl (gn_t rfl) rfl (bl rfl) ?_
    refine TrL.v (v_pick_f rfl rfl rfl rfl) rfl rfl (bl rfl) ?_
    refine TrL.v (v_assign rfl rfl) rfl rfl (bl rfl) ?_
    refine TrL.nil (qthen_n ?_)
    have hz := Option.some.inj H
    subst hz
    refine Tr.ret (ret_r ⟨[(0, .bool false)], [], [], []⟩ [.bool false] [] [] (Imp.re _ [] [] (sc rfl sn) (by decide) rfl rfl rfl) rfl rfl ⟨rfl, rfl, rfl⟩ (.cons (resv_tmp rfl) .nil))

theorem c_law07_same (p1 : Int × Int × List (List (Int × Int))) (p2 : Int × Int × List (List (Int × Int))) (A1 : Option Addr) (c1 : Nat) (A2 : Option Addr) (c2 : Nat) (r : Bool) (H : law07_same p1 p2 = some r) :
    Ctr Try.prog 31 [.agg #[.int .i64 p1.1, .int .i64 p1.2.1, .slice A1 p1.2.2.length c1], .agg #[.int .i64 p2.1, .int .i64 p2.2.1, .slice A2 p2.2.2.length c2]] [] [slF (rSl rp_u64_u64) A1 c1 p1.2.2, slF (rSl rp_u64_u64) A2 c2 p2.2.2] (fun ret M' F' => ret = .bool r ∧ M' = [] ∧ F' = []) := by
  unfold law07_same at H
  refine ctr_ofI (N := 14) Try.func31 rfl Try.ntmps31 rfl (Nat.le_of_ble_eq_true rfl) (fun γ0 w0 => ?_)
  refine Tr.seq ?_
  refine Tr.region ?_
  refine TrL.cons rfl (op_box' rfl (bl rfl) rfl rfl rfl (fun b3 => ?_))
  refine TrL.cons rfl (op_box' rfl (bl rfl) rfl rfl rfl (fun b4 => ?_))
  refine TrL.v (v_assign rfl rfl) rfl rfl (bl rfl) ?_
  refine TrL.nil (qthen_n ?_)
  refine Tr.seq ?_
  refine Tr.region ?_
  refine TrL.v (v_fieldAddr' rfl fo31_0 rfl rfl) rfl rfl (bl rfl) ?_
  refine TrL.v (v_load (k := 1) rfl rfl rfl ty3 (fun _ => rfl) rfl rfl) rfl rfl (bl rfl) ?_
  refine TrL.v (v_fieldAddr' rfl fo31_1 rfl rfl) rfl rfl (bl rfl) ?_
  refine TrL.v (v_load (k := 1) rfl rfl rfl ty3 (fun _ => rfl) rfl rfl) rfl rfl (bl rfl) ?_
  refine TrL.v (v_fieldAddr' rfl fo31_2 rfl rfl) rfl rfl (bl rfl) ?_
  refine TrL.v (v_load (k := 1) rfl rfl rfl ty26 (fun _ => rfl) rfl rfl) rfl rfl (bl rfl) ?_
  refine TrL.v (v_build (vs := [.int .i64 p1.1, .int .i64 p1.2.1, .slice A1 p1.2.2.length c1]) (out := [.int .i64 p1.1, .int .i64 p1.2.1, .slice A1 p1.2.2.length c1]) rfl pl28 ze28 rfl rfl) rfl rfl (bl rfl) ?_
  refine TrL.v (v_load (k := 0) rfl rfl rfl ty28 nofun rfl rfl) rfl rfl (bl rfl) ?_
  obtain ⟨r2, hr2, H⟩ := bnd H
  refine TrL.cons rfl (op_call0' (vs := [.agg #[.int .i64 p1.1, .int .i64 p1.2.1, .slice A1 p1.2.2.length c1], .agg #[.int .i64 p2.1, .int .i64 p2.2.1, .slice A2 p2.2.2.length c2]]) (cap := []) [0, 1] rfl rfl (bl rfl) rfl rfl en79 (c_ref06_Same p1 p2 A1 c1 A2 c2 r2 hr2) rfl (fun ret M' F' hR2 => ?_))
  obtain ⟨rfl, rfl, rfl⟩ := hR2
  refine TrL.v (v_assign rfl rfl) rfl rfl (bl rfl) ?_
  refine TrL.nil (qthen_n ?_)
  have hz := Option.some.inj H
  subst hz
  refine Tr.ret (ret_r ⟨[(4, .bool r2)], [], [], []⟩ [.bool r2] [] [] (Imp.re _ [] [] (sc rfl sn) (by decide) rfl rfl rfl) rfl rfl ⟨rfl, rfl, rfl⟩ (.cons (resv_tmp rfl) .nil))
end Go.Proofs.Ytbnjjpmlaknaoaa.W
