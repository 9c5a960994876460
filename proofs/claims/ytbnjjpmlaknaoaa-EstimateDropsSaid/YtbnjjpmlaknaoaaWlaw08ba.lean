/- The contracts of the walked functions: the printed walks. -/
import Derived.Test.YtbnjjpmlaknaoaaKa
import Derived.Test.YtbnjjpmlaknaoaaQa
import Derived.Test.YtbnjjpmlaknaoaaWestimateaa
import Derived.Test.YtbnjjpmlaknaoaaWhistaa
import Derived.Test.YtbnjjpmlaknaoaaWlaw08aa
import Derived.Test.YtbnjjpmlaknaoaaWref06ba
namespace Go.Proofs.Ytbnjjpmlaknaoaa.W
open Go Go.Proofs Go.Proofs.Ytbnjjpmlaknaoaa.L Go.Proofs.Ytbnjjpmlaknaoaa.Pu
set_option linter.unusedVariables false
set_option maxHeartbeats 4000000

theorem c_law08_awake (r : Bool) (H : law08_awake = some r) :
    Ctr Try.prog 38 [] [] [] (fun ret M' F' => ret = .bool r ∧ M' = [] ∧ F' = []) := by
  unfold law08_awake at H
  refine ctr_ofI (N := 42) Try.func38 rfl Try.ntmps38 rfl (Nat.le_of_ble_eq_true rfl) (fun γ0 w0 => ?_)
  refine Tr.seq ?_
  refine Tr.region ?_
  refine TrL.v (v_assign rfl rfl) rfl rfl (bl rfl) ?_
  refine TrL.nil (qthen_n ?_)
  refine Tr.seq ?_
  refine Tr.region ?_
  refine TrL.v (v_build (vs := [.int .u64 1, .int .u64 1]) (out := [.int .u64 1, .int .u64 1]) rfl pl80 ze80 rfl rfl) rfl rfl (bl rfl) ?_
  refine TrL.v (v_build (vs := [.int .u64 1, .int .u64 1]) (out := [.int .u64 1, .int .u64 1]) rfl pl80 ze80 rfl rfl) rfl rfl (bl rfl) ?_
  refine TrL.v (v_build (vs := [.int .u64 1, .int .u64 1]) (out := [.int .u64 1, .int .u64 1]) rfl pl80 ze80 rfl rfl) rfl rfl (bl rfl) ?_
  refine TrL.v (v_build (vs := [.int .u64 1, .int .u64 1]) (out := [.int .u64 1, .int .u64 1]) rfl pl80 ze80 rfl rfl) rfl rfl (bl rfl) ?_
  refine TrL.cons rfl (op_buildSlice' (rp := rp_u64_u64) (xs := [((1 : Int), (1 : Int)), ((1 : Int), (1 : Int)), ((1 : Int), (1 : Int)), ((1 : Int), (1 : Int))]) (vs := [.agg #[.int .u64 1, .int .u64 1], .agg #[.int .u64 1, .int .u64 1], .agg #[.int .u64 1, .int .u64 1], .agg #[.int .u64 1, .int .u64 1]]) (out := [.int .u64 1, .int .u64 1, .int .u64 1, .int .u64 1, .int .u64 1, .int .u64 1, .int .u64 1, .int .u64 1]) rfl (bl rfl) rfl sl22 ty80 ze80 rfl rfl (by decide) (by decide) rfl (fun γ w hF => (rowc rfl (rowc rfl (rowc rfl (rowc rfl rown rfl) rfl) rfl) rfl)) (fun A2 => ?_))
  obtain ⟨r12, hr12, H⟩ := bnd H
  refine TrL.cons rfl (op_call0' (vs := [.int .i64 0, .slice A2 4 4]) (cap := []) [0] rfl rfl (bl rfl) rfl rfl en30 (c_ref06_Made ((0 : Int)) ([((1 : Int), (1 : Int)), ((1 : Int), (1 : Int)), ((1 : Int), (1 : Int)), ((1 : Int), (1 : Int))]) A2 4 r12 hr12) rfl (fun ret M' F' hR12 => ?_))
  obtain ⟨m12, rfl, rfl, rfl⟩ := hR12
  obtain ⟨r13, hr13, H⟩ := bnd H
  refine TrL.cons rfl (op_call0' (vs := [.agg #[.int .i64 r12.1, .int .i64 r12.2.1, .slice m12.1 r12.2.2.length m12.2]]) (cap := []) [1] rfl rfl (bl rfl) rfl rfl en40 (c_law08_made r12 m12.1 m12.2 r13 hr13) rfl (fun ret M' F' hR13 => ?_))
  obtain ⟨rfl, rfl, rfl⟩ := hR13
  refine TrL.cons rfl (op_alloc' rfl (bl rfl) rfl ze31 (fun b2 => ?_))
  refine TrL.cons rfl (op_store' (k := 0) (c' := [.int .i64 r12.1, .int .i64 r12.2.1, .slice m12.1 r12.2.2.length m12.2]) rfl rfl rfl rfl rfl ty31 rfl (Nat.le_of_ble_eq_true rfl) (ones (oc rfl (oc rfl (oc rfl on)))) rfl ?_)
  refine TrL.nil (qthen_n ?_)
  refine Tr.seq ?_
  refine Tr.region ?_
  refine TrL.v (v_load (k := 0) rfl rfl rfl ty31 nofun rfl rfl) rfl rfl (bl rfl) ?_
  obtain ⟨r14, hr14, H⟩ := bnd H
  refine TrL.cons rfl (op_call0' (vs := [.agg #[.int .i64 r12.1, .int .i64 r12.2.1, .slice m12.1 r12.2.2.length m12.2], .int .u64 4, .int .u64 3]) (cap := []) [1] rfl rfl (bl rfl) rfl rfl en39 (c_estimate_Parts r12 ((4 : Int)) ((3 : Int)) m12.1 m12.2 r14 hr14) rfl (fun ret M' F' hR14 => ?_))
  obtain ⟨rfl, rfl, rfl⟩ := hR14
  refine TrL.v (v_move rfl rfl) rfl rfl (bl rfl) ?_
  refine TrL.v (v_extract rfl rfl rfl) rfl rfl (bl rfl) ?_
  refine TrL.v (v_extract rfl rfl rfl) rfl rfl (bl rfl) ?_
  refine TrL.v (v_assign rfl rfl) rfl rfl (bl rfl) ?_
  refine TrL.v (v_assign rfl rfl) rfl rfl (bl rfl) ?_
  refine TrL.nil (qthen_n ?_)
  refine Tr.seq ?_
  refine Tr.region ?_
  refine TrL.v (v_load (k := 0) rfl rfl rfl ty31 nofun rfl rfl) rfl rfl (bl rfl) ?_
  obtain ⟨r19, hr19, H⟩ := bnd H
  refine TrL.cons rfl (op_call0' (vs := [.agg #[.int .i64 r12.1, .int .i64 r12.2.1, .slice m12.1 r12.2.2.length m12.2]]) (cap := []) [1] rfl rfl (bl rfl) rfl rfl en45 (c_hist_Total r12 m12.1 m12.2 r19 hr19) rfl (fun ret M' F' hR19 => ?_))
  obtain ⟨rfl, rfl, rfl⟩ := hR19
  refine TrL.v (v_arith rfl rfl rfl ar_eql) rfl rfl (bl rfl) ?_
  refine TrL.v (v_move rfl rfl) rfl rfl (bl rfl) ?_
  rcases ifc H with ⟨h16, H⟩ | ⟨h16, H⟩
  · refine TrL.cons_yes rfl rfl rfl (bt_dec h16) (OpTr.v (v_load (k := 0) rfl rfl rfl ty31 nofun rfl rfl) rfl (bl rfl) ?_)
    obtain ⟨r20, hr20, H⟩ := bnd H
    refine TrL.cons_yes rfl rfl rfl (bt_dec h16) (op_call0' (vs := [.agg #[.int .i64 r12.1, .int .i64 r12.2.1, .slice m12.1 r12.2.2.length m12.2], .int .u64 4, .int .u64 2]) (cap := []) [1] rfl rfl (bl rfl) rfl rfl en42 (c_estimate_Of r12 ((4 : Int)) ((2 : Int)) m12.1 m12.2 r20 hr20) rfl (fun ret M' F' hR20 => ?_))
    obtain ⟨rfl, rfl, rfl⟩ := hR20
    refine TrL.cons_yes rfl rfl rfl (bt_dec h16) (OpTr.v (v_arith rfl rfl rfl ar_eql) rfl (bl rfl) ?_)
    refine TrL.v (v_pick_t rfl rfl (bt_dec h16) rfl) rfl rfl (bl rfl) ?_
    refine TrL.v (v_move rfl rfl) rfl rfl (bl rfl) ?_
    rcases ifc H with ⟨h17, H⟩ | ⟨h17, H⟩
    · refine TrL.cons_yes rfl rfl rfl (bt_dec h17) (OpTr.v (v_move rfl rfl) rfl (bl rfl) ?_)
      refine TrL.cons_yes rfl rfl rfl (bt_dec h17) (OpTr.v (v_arith rfl rfl rfl ar_eql) rfl (bl rfl) ?_)
      refine TrL.v (v_pick_t rfl rfl (bt_dec h17) rfl) rfl rfl (bl rfl) ?_
      refine TrL.v (v_move rfl rfl) rfl rfl (bl rfl) ?_
      rcases ifc H with ⟨h18, H⟩ | ⟨h18, H⟩
      · refine TrL.cons_yes rfl rfl rfl (bt_dec h18) (OpTr.v (v_move rfl rfl) rfl (bl rfl) ?_)
        refine TrL.cons_yes rfl rfl rfl (bt_dec h18) (OpTr.v (v_arith rfl rfl rfl ar_eql) rfl (bl rfl) ?_)
        refine TrL.v (v_pick_t rfl rfl (bt_dec h18) rfl) rfl rfl (bl rfl) ?_
        refine TrL.v (v_move rfl rfl) rfl rfl (bl rfl) ?_
        rcases ifc H with ⟨h19, H⟩ | ⟨h19, H⟩
        · refine TrL.cons_yes rfl rfl rfl (bt_dec h19) (OpTr.v (v_load (k := 0) rfl rfl rfl ty31 nofun rfl rfl) rfl (bl rfl) ?_)
          obtain ⟨r21, hr21, H⟩ := bnd H
          refine TrL.cons_yes rfl rfl rfl (bt_dec h19) (op_call0' (vs := [.agg #[.int .i64 r12.1, .int .i64 r12.2.1, .slice m12.1 r12.2.2.length m12.2], .int .u64 4, .int .u64 3]) (cap := []) [1] rfl rfl (bl rfl) rfl rfl en42 (c_estimate_Of r12 ((4 : Int)) ((3 : Int)) m12.1 m12.2 r21 hr21) rfl (fun ret M' F' hR21 => ?_))
          obtain ⟨rfl, rfl, rfl⟩ := hR21
          refine TrL.cons_yes rfl rfl rfl (bt_dec h19) (OpTr.v (v_arith rfl rfl rfl ar_eql) rfl (bl rfl) ?_)
          refine TrL.v (v_pick_t rfl rfl (bt_dec h19) rfl) rfl rfl (bl rfl) ?_
          refine TrL.v (v_move rfl rfl) rfl rfl (bl rfl) ?_
          rcases ifc H with ⟨h20, H⟩ | ⟨h20, H⟩
          · refine TrL.cons_yes rfl rfl rfl (bt_dec h20) (OpTr.v (v_load (k := 0) rfl rfl rfl ty31 nofun rfl rfl) rfl (bl rfl) ?_)
            obtain ⟨r22, hr22, H⟩ := bnd H
            refine TrL.cons_yes rfl rfl rfl (bt_dec h20) (op_call0' (vs := [.agg #[.int .i64 r12.1, .int .i64 r12.2.1, .slice m12.1 r12.2.2.length m12.2], .int .u64 4, .int .u64 9]) (cap := []) [1] rfl rfl (bl rfl) rfl rfl en42 (c_estimate_Of r12 ((4 : Int)) ((9 : Int)) m12.1 m12.2 r22 hr22) rfl (fun ret M' F' hR22 => ?_))
            obtain ⟨rfl, rfl, rfl⟩ := hR22
            refine TrL.cons_yes rfl rfl rfl (bt_dec h20) (OpTr.v (v_arith rfl rfl rfl ar_eql) rfl (bl rfl) ?_)
            refine TrL.v (v_pick_t rfl rfl (bt_dec h20) rfl) rfl rfl (bl rfl) ?_
            refine TrL.v (v_assign rfl rfl) rfl rfl (bl rfl) ?_
            refine TrL.nil (qthen_n ?_)
            have hz := Option.some.inj H
            subst hz
            refine Tr.ret (ret_r ⟨[(0, .bool (decide (r22 = 4)))], [], [], []⟩ [.bool (decide (r22 = 4))] [] [] (Imp.re _ [] [] (sc rfl sn) (by decide) rfl rfl rfl) rfl rfl ⟨rfl, rfl, rfl⟩ (.cons (resv_tmp rfl) .nil))
          · refine TrL.cons_no rfl rfl rfl (gn_t (bf_dec h20)) rfl (bl rfl) ?_
            refine TrL.cons_no rfl rfl rfl (gn_t (bf_dec h20)) rfl (bl rfl) ?_
            refine TrL.cons_no rfl rfl rfl (gn_t (bf_dec h20)) rfl (bl rfl) ?_
            refine TrL.v (v_pick_f rfl rfl (bf_dec h20) rfl) rfl rfl (bl rfl) ?_
            refine TrL.v (v_assign rfl rfl) rfl rfl (bl rfl) ?_
            refine TrL.nil (qthen_n ?_)
            have hz := Option.some.inj H
            subst hz
            refine Tr.ret (ret_r ⟨[(0, .bool false)], [], [], []⟩ [.bool false] [] [] (Imp.re _ [] [] (sc rfl sn) (by decide) rfl rfl rfl) rfl rfl ⟨rfl, rfl, rfl⟩ (.cons (resv_tmp rfl) .nil))
        · refine TrL.cons_no rfl rfl rfl (gn_t (bf_dec h19)) rfl (bl rfl) ?_
          refine TrL.cons_no rfl rfl rfl (gn_t (bf_dec h19)) rfl (bl rfl) ?_
          refine TrL.cons_no rfl rfl rfl (gn_t (bf_dec h19)) rfl (bl rfl) ?_
          refine TrL.v (v_pick_f rfl rfl (bf_dec h19) rfl) rfl rfl (bl rfl) ?_
          refine TrL.v (v_move rfl rfl) rfl rfl (bl rfl) ?_
          refine TrL.cons_no rfl rfl rfl (gn_t rfl) rfl (bl rfl) ?_
          refine TrL.cons_no rfl rfl rfl (gn_t rfl) rfl (bl rfl) ?_
          refine TrL.cons_no rfl rfl rfl (gn_t rfl) rfl (bl rfl) ?_
          refine TrL.v (v_pick_f rfl rfl rfl rfl) rfl rfl (bl rfl) ?_
          refine TrL.v (v_assign rfl rfl) rfl rfl (bl rfl) ?_
          refine TrL.nil (qthen_n ?_)
          have hz := Option.some.inj H
          subst hz
          refine Tr.ret (ret_r ⟨[(0, .bool false)], [], [], []⟩ [.bool false] [] [] (Imp.re _ [] [] (sc rfl sn) (by decide) rfl rfl rfl) rfl rfl ⟨rfl, rfl, rfl⟩ (.cons (resv_tmp rfl) .nil))
      · refine TrL.cons_no rfl rfl rfl (gn_t (bf_dec h18)) rfl (bl rfl) ?_
        refine TrL.cons_no rfl rfl rfl (gn_t (bf_dec h18)) rfl (bl rfl) ?_
        refine TrL.v (v_pick_f rfl rfl (bf_dec h18) rfl) rfl rfl (bl rfl) ?_
        refine TrL.v (v_move rfl rfl) rfl rfl (bl rfl) ?_
        refine TrL.cons_no rfl rfl rfl (gn_t rfl) rfl (bl rfl) ?_
        refine TrL.cons_no rfl rfl rfl (gn_t rfl) rfl (bl rfl) ?_
        refine TrL.cons_no rfl rfl rfl (gn_t rfl) rfl (bl rfl) ?_
        refine TrL.v (v_pick_f rfl rfl rfl rfl) rfl rfl (bl rfl) ?_
        refine TrL.v (v_move rfl rfl) rfl rfl (bl rfl) ?_
        refine TrL.cons_no rfl rfl rfl (gn_t rfl) rfl (bl rfl) ?_
        refine TrL.cons_no rfl rfl rfl (gn_t rfl) rfl (bl rfl) ?_
        refine TrL.cons_no rfl rfl rfl (gn_t rfl) rfl (bl rfl) ?_
        refine TrL.v (v_pick_f rfl rfl rfl rfl) rfl rfl (bl rfl) ?_
        refine TrL.v (v_assign rfl rfl) rfl rfl (bl rfl) ?_
        refine TrL.nil (qthen_n ?_)
        have hz := Option.some.inj H
        subst hz
        refine Tr.ret (ret_r ⟨[(0, .bool false)], [], [], []⟩ [.bool false] [] [] (Imp.re _ [] [] (sc rfl sn) (by decide) rfl rfl rfl) rfl rfl ⟨rfl, rfl, rfl⟩ (.cons (resv_tmp rfl) .nil))
    · refine TrL.cons_no rfl rfl rfl (gn_t (bf_dec h17)) rfl (bl rfl) ?_
      refine TrL.cons_no rfl rfl rfl (gn_t (bf_dec h17)) rfl (bl rfl) ?_
      refine TrL.v (v_pick_f rfl rfl (bf_dec h17) rfl) rfl rfl (bl rfl) ?_
      refine TrL.v (v_move rfl rfl) rfl rfl (bl rfl) ?_
      refine TrL.cons_no rfl rfl rfl (gn_t rfl) rfl (bl rfl) ?_
      refine TrL.cons_no rfl rfl rfl (gn_t rfl) rfl (bl rfl) ?_
      refine TrL.v (v_pick_f rfl rfl rfl rfl) rfl rfl (bl rfl) ?_
      refine TrL.v (v_move rfl rfl) rfl rfl (bl rfl) ?_
      refine TrL.cons_no rfl rfl rfl (gn_t rfl) rfl (bl rfl) ?_
      refine TrL.cons_no rfl rfl rfl (gn_t rfl) rfl (bl rfl) ?_
      refine TrL.cons_no rfl rfl rfl (gn_t rfl) rfl (bl rfl) ?_
      refine TrL.v (v_pick_f rfl rfl rfl rfl) rfl rfl (bl rfl) ?_
      refine TrL.v (v_move rfl rfl) rfl rfl (bl rfl) ?_
      refine TrL.cons_no rfl rfl rfl (gn_t rfl) rfl (bl rfl) ?_
      refine TrL.cons_no rfl rfl rfl (gn_t rfl) rfl (bl rfl) ?_
      refine TrL.cons_no rfl rfl rfl (gn_t rfl) rfl (bl rfl) ?_
      refine TrL.v (v_pick_f rfl rfl rfl rfl) rfl rfl (bl rfl) ?_
      refine TrL.v (v_assign rfl rfl) rfl rfl (bl rfl) ?_
      refine TrL.nil (qthen_n ?_)
      have hz := Option.some.inj H
      subst hz
      refine Tr.ret (ret_r ⟨[(0, .bool false)], [], [], []⟩ [.bool false] [] [] (Imp.re _ [] [] (sc rfl sn) (by decide) rfl rfl rfl) rfl rfl ⟨rfl, rfl, rfl⟩ (.cons (resv_tmp rfl) .nil))
  · refine TrL.cons_no rfl rfl rfl (gn_t (bf_dec h16)) rfl (bl rfl) ?_
    refine TrL.cons_no rfl rfl rfl (gn_t (bf_dec h16)) rfl (bl rfl) ?_
    refine TrL.cons_no rfl rfl rfl (gn_t (bf_dec h16)) rfl (bl rfl) ?_
    refine TrL.v (v_pick_f rfl rfl (bf_dec h16) rfl) rfl rfl (bl rfl) ?_
    refine TrL.v (v_move rfl rfl) rfl rfl (bl rfl) ?_
    refine TrL.cons_no rfl rfl rfl (gn_t rfl) rfl (bl rfl) ?_
    refine TrL.cons_no rfl rfl rfl (gn_t rfl) rfl (bl rfl) ?_
    refine TrL.v (v_pick_f rfl rfl rfl rfl) rfl rfl (bl rfl) ?_
    refine TrL.v (v_move rfl rfl) rfl rfl (bl rfl) ?_
    refine TrL.cons_no rfl rfl rfl (gn_t rfl) rfl (bl rfl) ?_
    refine TrL.cons_no rfl rfl rfl (gn_t rfl) rfl (bl rfl) ?_
    refine TrL.v (v_pick_f rfl rfl rfl rfl) rfl rfl (bl rfl) ?_
    refine TrL.v (v_move rfl rfl) rfl rfl (bl rfl) ?_
    refine TrL.cons_no rfl rfl rfl (gn_t rfl) rfl (bl rfl) ?_
    refine TrL.cons_no rfl rfl rfl (gn_t rfl) rfl (bl rfl) ?_
    refine TrL.cons_no rfl rfl rfl (gn_t rfl) rfl (bl rfl) ?_
    refine TrL.v (v_pick_f rfl rfl rfl rfl) rfl rfl (bl rfl) ?_
    refine TrL.v (v_move rfl rfl) rfl rfl (bl rfl) ?_
    refine TrL.cons_no rfl rfl rfl (gn_t rfl) rfl (bl rfl) ?_
    refine TrL.cons_no rfl rfl rfl (gn_t rfl) rfl (bl rfl) ?_
    refine TrL.cons_no rfl rfl rfl (gn_t rfl) rfl (bl rfl) ?_
    refine TrL.v (v_pick_f rfl rfl rfl rfl) rfl rfl (bl rfl) ?_
    refine TrL.v (v_assign rfl rfl) rfl rfl (bl rfl) ?_
    refine TrL.nil (qthen_n ?_)
    have hz := Option.some.inj H
    subst hz
    refine Tr.ret (ret_r ⟨[(0, .bool false)], [], [], []⟩ [.bool false] [] [] (Imp.re _ [] [] (sc rfl sn) (by decide) rfl rfl rfl) rfl rfl ⟨rfl, rfl, rfl⟩ (.cons (resv_tmp rfl) .nil))
end Go.Proofs.Ytbnjjpmlaknaoaa.W
