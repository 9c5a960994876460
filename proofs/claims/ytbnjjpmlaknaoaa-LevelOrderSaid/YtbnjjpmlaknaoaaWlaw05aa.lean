/- The contracts of the walked functions: the printed walks. -/
import Derived.Test.YtbnjjpmlaknaoaaKa
import Derived.Test.YtbnjjpmlaknaoaaQa
import Derived.Test.YtbnjjpmlaknaoaaWlevelaa
namespace Go.Proofs.Ytbnjjpmlaknaoaa.W
open Go Go.Proofs Go.Proofs.Ytbnjjpmlaknaoaa.L Go.Proofs.Ytbnjjpmlaknaoaa.Pu
set_option linter.unusedVariables false
set_option maxHeartbeats 4000000

theorem c_law05_awake (r : Bool) (H : law05_awake = some r) :
    Ctr Try.prog 46 [] [] [] (fun ret M' F' => ret = .bool r ∧ M' = [] ∧ F' = []) := by
  unfold law05_awake at H
  refine ctr_ofI (N := 49) Try.func46 rfl Try.ntmps46 rfl (Nat.le_of_ble_eq_true rfl) (fun γ0 w0 => ?_)
  refine Tr.seq ?_
  refine Tr.region ?_
  refine TrL.v (v_assign rfl rfl) rfl rfl (bl rfl) ?_
  refine TrL.nil (qthen_n ?_)
  refine Tr.seq ?_
  refine Tr.region ?_
  refine TrL.v (v_build (vs := [.int .u64 1, .int .u64 2]) (out := [.int .u64 1, .int .u64 2]) rfl pl41 ze41 rfl rfl) rfl rfl (bl rfl) ?_
  refine TrL.cons rfl (op_buildSlice' (rp := rp_u64_u64) (xs := [((1 : Int), (2 : Int))]) (vs := [.agg #[.int .u64 1, .int .u64 2]]) (out := [.int .u64 1, .int .u64 2]) rfl (bl rfl) rfl sl38 ty41 ze41 rfl rfl (by decide) (by decide) rfl (fun γ w hF => (rowc rfl rown rfl)) (fun A2 => ?_))
  refine TrL.addF' (slF rp_u64_u64 none 0 []) (nilF rp_u64_u64) ?_
  obtain ⟨r8, hr8, H⟩ := bnd H
  refine TrL.cons rfl (op_call0' (vs := [.slice A2 1 1, .int .i64 2, .slice none 0 0, .int .u64 3, .int .u64 9]) (cap := []) [0, 1] rfl rfl (bl rfl) rfl rfl en48 (c_level_Push ([((1 : Int), (2 : Int))]) ((2 : Int)) (([] : List (Int × Int))) ((3 : Int)) ((9 : Int)) A2 1 none 0 r8 hr8) rfl (fun ret M' F' hR8 => ?_))
  obtain ⟨m8, rfl, rfl, rfl⟩ := hR8
  refine TrL.v (v_move rfl rfl) rfl rfl (bl rfl) ?_
  refine TrL.v (v_extract rfl rfl rfl) rfl rfl (bl rfl) ?_
  refine TrL.v (v_extract rfl rfl rfl) rfl rfl (bl rfl) ?_
  refine TrL.v (v_extract rfl rfl rfl) rfl rfl (bl rfl) ?_
  refine TrL.v (v_assign rfl rfl) rfl rfl (bl rfl) ?_
  refine TrL.v (v_assign rfl rfl) rfl rfl (bl rfl) ?_
  refine TrL.v (v_assign rfl rfl) rfl rfl (bl rfl) ?_
  refine TrL.nil (qthen_n ?_)
  refine Tr.seq ?_
  refine Tr.region ?_
  obtain ⟨r12, hr12, H⟩ := bnd H
  refine TrL.cons rfl (op_call0' (vs := [.int .i64 4, .int .i64 0]) (cap := []) [] rfl rfl (bl rfl) rfl rfl en50 (c_level_Most ((4 : Int)) ((0 : Int)) r12 hr12) rfl (fun ret M' F' hR12 => ?_))
  obtain ⟨rfl, rfl, rfl⟩ := hR12
  refine TrL.v (v_arith rfl rfl rfl ar_eql) rfl rfl (bl rfl) ?_
  refine TrL.v (v_move rfl rfl) rfl rfl (bl rfl) ?_
  rcases ifc H with ⟨h22, H⟩ | ⟨h22, H⟩
  · obtain ⟨r13, hr13, H⟩ := bnd H
    refine TrL.cons_yes rfl rfl rfl (bt_dec h22) (op_call0' (vs := [.int .i64 5, .int .i64 1]) (cap := []) [] rfl rfl (bl rfl) rfl rfl en50 (c_level_Most ((5 : Int)) ((1 : Int)) r13 hr13) rfl (fun ret M' F' hR13 => ?_))
    obtain ⟨rfl, rfl, rfl⟩ := hR13
    refine TrL.cons_yes rfl rfl rfl (bt_dec h22) (OpTr.v (v_arith rfl rfl rfl ar_eql) rfl (bl rfl) ?_)
    refine TrL.v (v_pick_t rfl rfl (bt_dec h22) rfl) rfl rfl (bl rfl) ?_
    refine TrL.v (v_move rfl rfl) rfl rfl (bl rfl) ?_
    rcases ifc H with ⟨h23, H⟩ | ⟨h23, H⟩
    · obtain ⟨r14, hr14, H⟩ := bnd H
      refine TrL.cons_yes rfl rfl rfl (bt_dec h23) (op_call0' (vs := [.int .i64 5, .int .i64 1]) (cap := []) [] rfl rfl (bl rfl) rfl rfl en52 (c_level_Least ((5 : Int)) ((1 : Int)) r14 hr14) rfl (fun ret M' F' hR14 => ?_))
      obtain ⟨rfl, rfl, rfl⟩ := hR14
      refine TrL.cons_yes rfl rfl rfl (bt_dec h23) (OpTr.v (v_arith rfl rfl rfl ar_eql) rfl (bl rfl) ?_)
      refine TrL.v (v_pick_t rfl rfl (bt_dec h23) rfl) rfl rfl (bl rfl) ?_
      refine TrL.v (v_move rfl rfl) rfl rfl (bl rfl) ?_
      rcases ifc H with ⟨h24, H⟩ | ⟨h24, H⟩
      · refine TrL.cons_yes rfl rfl rfl (bt_dec h24) (OpTr.v (v_move rfl rfl) rfl (bl rfl) ?_)
        refine TrL.cons_yes rfl rfl rfl (bt_dec h24) (OpTr.v (v_len rfl sl38 rfl) rfl (bl rfl) ?_)
        refine TrL.cons_yes rfl rfl rfl (bt_dec h24) (OpTr.v (v_arith rfl rfl rfl ar_eql) rfl (bl rfl) ?_)
        refine TrL.v (v_pick_t rfl rfl (bt_dec h24) rfl) rfl rfl (bl rfl) ?_
        refine TrL.v (v_move rfl rfl) rfl rfl (bl rfl) ?_
        rcases ifc H with ⟨h25, H⟩ | ⟨h25, H⟩
        · refine TrL.cons_yes rfl rfl rfl (bt_dec h25) (OpTr.v (v_move rfl rfl) rfl (bl rfl) ?_)
          refine TrL.cons_yes rfl rfl rfl (bt_dec h25) (OpTr.v (v_len rfl sl38 rfl) rfl (bl rfl) ?_)
          refine TrL.cons_yes rfl rfl rfl (bt_dec h25) (OpTr.v (v_arith rfl rfl rfl ar_eql) rfl (bl rfl) ?_)
          refine TrL.v (v_pick_t rfl rfl (bt_dec h25) rfl) rfl rfl (bl rfl) ?_
          refine TrL.v (v_move rfl rfl) rfl rfl (bl rfl) ?_
          rcases ifc H with ⟨h26, H⟩ | ⟨h26, H⟩
          · refine TrL.cons_yes rfl rfl rfl (bt_dec h26) (OpTr.v (v_move rfl rfl) rfl (bl rfl) ?_)
            obtain ⟨z7, hz7, H⟩ := bnd H
            refine TrL.cons_yes rfl rfl rfl (bt_dec h26) (OpTr.v (v_indexAddr (k := 3) rfl sl38 ty41 rfl rfl rfl rfl hz7) rfl (bl rfl) ?_)
            refine TrL.cons_yes rfl rfl rfl (bt_dec h26) (OpTr.v (v_loadg (A := m8.2.2.1) (i := 0) (j := 0) (k := 3) rfl ty41 nofun rfl rfl hz7 rfl rfl) rfl (bl rfl) ?_)
            refine TrL.cons_yes rfl rfl rfl (bt_dec h26) (OpTr.v (v_build (vs := [.int .u64 1, .int .u64 9]) (out := [.int .u64 1, .int .u64 9]) rfl pl41 ze41 rfl rfl) rfl (bl rfl) ?_)
            refine TrL.cons_yes rfl rfl rfl (bt_dec h26) (OpTr.v (v_eqs rfl if41 eg41 rfl rfl (eqc_cons rfl rfl (eqc_cons rfl rfl eqc_nil))) rfl (bl rfl) ?_)
            refine TrL.v (v_pick_t rfl rfl (bt_dec h26) rfl) rfl rfl (bl rfl) ?_
            refine TrL.v (v_move rfl rfl) rfl rfl (bl rfl) ?_
            rcases ifc H with ⟨h27, H⟩ | ⟨h27, H⟩
            · refine TrL.cons_yes rfl rfl rfl (bt_dec h27) (OpTr.v (v_move rfl rfl) rfl (bl rfl) ?_)
              refine TrL.cons_yes rfl rfl rfl (bt_dec h27) (OpTr.v (v_arith rfl rfl rfl ar_eql) rfl (bl rfl) ?_)
              refine TrL.v (v_pick_t rfl rfl (bt_dec h27) rfl) rfl rfl (bl rfl) ?_
              refine TrL.v (v_move rfl rfl) rfl rfl (bl rfl) ?_
              rcases ifc H with ⟨h28, H⟩ | ⟨h28, H⟩
              · refine TrL.cons_yes rfl rfl rfl (bt_dec h28) (OpTr.v (v_move rfl rfl) rfl (bl rfl) ?_)
                obtain ⟨z8, hz8, H⟩ := bnd H
                refine TrL.cons_yes rfl rfl rfl (bt_dec h28) (OpTr.v (v_indexAddr (k := 2) rfl sl38 ty41 rfl rfl rfl rfl hz8) rfl (bl rfl) ?_)
                refine TrL.cons_yes rfl rfl rfl (bt_dec h28) (OpTr.v (v_loadg (A := m8.1) (i := 1) (j := 0) (k := 2) rfl ty41 nofun rfl rfl hz8 rfl rfl) rfl (bl rfl) ?_)
                refine TrL.cons_yes rfl rfl rfl (bt_dec h28) (OpTr.v (v_build (vs := [.int .u64 9, .int .u64 9]) (out := [.int .u64 9, .int .u64 9]) rfl pl41 ze41 rfl rfl) rfl (bl rfl) ?_)
                refine TrL.cons_yes rfl rfl rfl (bt_dec h28) (OpTr.v (v_eqs rfl if41 eg41 rfl rfl (eqc_cons rfl rfl (eqc_cons rfl rfl eqc_nil))) rfl (bl rfl) ?_)
                refine TrL.v (v_pick_t rfl rfl (bt_dec h28) rfl) rfl rfl (bl rfl) ?_
                refine TrL.v (v_assign rfl rfl) rfl rfl (bl rfl) ?_
                refine TrL.nil (qthen_n ?_)
                have hz := Option.some.inj H
                subst hz
                refine Tr.ret (ret_r ⟨[(0, .bool (decide (z8.1 = 9 ∧ z8.2 = 9 ∧ True)))], [], [], []⟩ [.bool (decide (z8.1 = 9 ∧ z8.2 = 9 ∧ True))] [] [] (Imp.re _ [] [] (sc rfl sn) (by decide) rfl rfl rfl) rfl rfl ⟨rfl, rfl, rfl⟩ (.cons (resv_tmp rfl) .nil))
              · refine TrL.cons_no rfl rfl rfl (gn_t (bf_dec h28)) rfl (bl rfl) ?_
                refine TrL.cons_no rfl rfl rfl (gn_t (bf_dec h28)) rfl (bl rfl) ?_
                refine TrL.cons_no rfl rfl rfl (gn_t (bf_dec h28)) rfl (bl rfl) ?_
                refine TrL.cons_no rfl rfl rfl (gn_t (bf_dec h28)) rfl (bl rfl) ?_
                refine TrL.cons_no rfl rfl rfl (gn_t (bf_dec h28)) rfl (bl rfl) ?_
                refine TrL.v (v_pick_f rfl rfl (bf_dec h28) rfl) rfl rfl (bl rfl) ?_
                refine TrL.v (v_assign rfl rfl) rfl rfl (bl rfl) ?_
                refine TrL.nil (qthen_n ?_)
                have hz := Option.some.inj H
                subst hz
                refine Tr.ret (ret_r ⟨[(0, .bool false)], [], [], []⟩ [.bool false] [] [] (Imp.re _ [] [] (sc rfl sn) (by decide) rfl rfl rfl) rfl rfl ⟨rfl, rfl, rfl⟩ (.cons (resv_tmp rfl) .nil))
            · refine TrL.cons_no rfl rfl rfl (gn_t (bf_dec h27)) rfl (bl rfl) ?_
              refine TrL.cons_no rfl rfl rfl (gn_t (bf_dec h27)) rfl (bl rfl) ?_
              refine TrL.v (v_pick_f rfl rfl (bf_dec h27) rfl) rfl rfl (bl rfl) ?_
              refine TrL.v (v_move rfl rfl) rfl rfl (bl rfl) ?_
              refine TrL.cons_no rfl rfl rfl (gn_t rfl) rfl (bl rfl) ?_
              refine TrL.cons_no rfl rfl rfl (gn_t rfl) rfl (bl rfl) ?_
              refine TrL.cons_no rfl rfl rfl (gn_t rfl) rfl (bl rfl) ?_
              refine TrL.cons_no rfl rfl rfl (gn_t rfl) rfl (bl rfl) ?_
              refine TrL.cons_no rfl rfl rfl (gn_t rfl) rfl (bl rfl) ?_
              refine TrL.v (v_pick_f rfl rfl rfl rfl) rfl rfl (bl rfl) ?_
              refine TrL.v (v_assign rfl rfl) rfl rfl (bl rfl) ?_
              refine TrL.nil (qthen_n ?_)
              have hz := Option.some.inj H
              subst hz
              refine Tr.ret (ret_r ⟨[(0, .bool false)], [], [], []⟩ [.bool false] [] [] (Imp.re _ [] [] (sc rfl sn) (by decide) rfl rfl rfl) rfl rfl ⟨rfl, rfl, rfl⟩ (.cons (resv_tmp rfl) .nil))
          · refine TrL.cons_no rfl rfl rfl (gn_t (bf_dec h26)) rfl (bl rfl) ?_
            refine TrL.cons_no rfl rfl rfl (gn_t (bf_dec h26)) rfl (bl rfl) ?_
            refine TrL.cons_no rfl rfl rfl (gn_t (bf_dec h26)) rfl (bl rfl) ?_
            refine TrL.cons_no rfl rfl rfl (gn_t (bf_dec h26)) rfl (bl rfl) ?_
            refine TrL.cons_no rfl rfl rfl (gn_t (bf_dec h26)) rfl (bl rfl) ?_
            refine TrL.v (v_pick_f rfl rfl (bf_dec h26) rfl) rfl rfl (bl rfl) ?_
            refine TrL.v (v_move rfl rfl) rfl rfl (bl rfl) ?_
            refine TrL.cons_no rfl rfl rfl (gn_t rfl) rfl (bl rfl) ?_
            refine TrL.cons_no rfl rfl rfl (gn_t rfl) rfl (bl rfl) ?_
            refine TrL.v (v_pick_f rfl rfl rfl rfl) rfl rfl (bl rfl) ?_
            refine TrL.v (v_move rfl rfl) rfl rfl (bl rfl) ?_
            refine TrL.cons_no rfl rfl rfl (gn_t rfl) rfl (bl rfl) ?_
            refine TrL.cons_no rfl rfl rfl (gn_t rfl) rfl (bl rfl) ?_
            refine TrL.cons_no rfl rfl rfl (gn_t rfl) rfl (bl rfl) ?_
            refine TrL.cons_no rfl rfl rfl (gn_t rfl) rfl (bl rfl) ?_
            refine TrL.cons_no rfl rfl rfl (gn_t rfl) rfl (bl rfl) ?_
            refine TrL.v (v_pick_f rfl rfl rfl rfl) rfl rfl (bl rfl) ?_
            refine TrL.v (v_assign rfl rfl) rfl rfl (bl rfl) ?_
            refine TrL.nil (qthen_n ?_)
            have hz := Option.some.inj H
            subst hz
            refine Tr.ret (ret_r ⟨[(0, .bool false)], [], [], []⟩ [.bool false] [] [] (Imp.re _ [] [] (sc rfl sn) (by decide) rfl rfl rfl) rfl rfl ⟨rfl, rfl, rfl⟩ (.cons (resv_tmp rfl) .nil))
        · refine TrL.cons_no rfl rfl rfl (gn_t (bf_dec h25)) rfl (bl rfl) ?_
          refine TrL.cons_no rfl rfl rfl (gn_t (bf_dec h25)) rfl (bl rfl) ?_
          refine TrL.cons_no rfl rfl rfl (gn_t (bf_dec h25)) rfl (bl rfl) ?_
          refine TrL.v (v_pick_f rfl rfl (bf_dec h25) rfl) rfl rfl (bl rfl) ?_
          refine TrL.v (v_move rfl rfl) rfl rfl (bl rfl) ?_
          refine TrL.cons_no rfl rfl rfl (gn_t rfl) rfl (bl rfl) ?_
          refine TrL.cons_no rfl rfl rfl (gn_t rfl) rfl (bl rfl) ?_
          refine TrL.cons_no rfl rfl rfl (gn_t rfl) rfl (bl rfl) ?_
          refine TrL.cons_no rfl rfl rfl (gn_t rfl) rfl (bl rfl) ?_
          refine TrL.cons_no rfl rfl rfl (gn_t rfl) rfl (bl rfl) ?_
          refine TrL.v (v_pick_f rfl rfl rfl rfl) rfl rfl (bl rfl) ?_
          refine TrL.v (v_move rfl rfl) rfl rfl (bl rfl) ?_
          refine TrL.cons_no rfl rfl rfl (gn_t rfl) rfl (bl rfl) ?_
          refine TrL.cons_no rfl rfl rfl (gn_t rfl) rfl (bl rfl) ?_
          refine TrL.v (v_pick_f rfl rfl rfl rfl) rfl rfl (bl rfl) ?_
          refine TrL.v (v_move rfl rfl) rfl rfl (bl rfl) ?_
          refine TrL.cons_no rfl rfl rfl (gn_t rfl) rfl (bl rfl) ?_
          refine TrL.cons_no rfl rfl rfl (gn_t rfl) rfl (bl rfl) ?_
          refine TrL.cons_no rfl rfl rfl (gn_t rfl) rfl (bl rfl) ?_
          refine TrL.cons_no rfl rfl rfl (gn_t rfl) rfl (bl rfl) ?_
          refine TrL.cons_no rfl rfl rfl (gn_t rfl) rfl (bl rfl) ?_
          refine TrL.v (v_pick_f rfl rfl rfl rfl) rfl rfl (bl rfl) ?_
          refine TrL.v (v_assign rfl rfl) rfl rfl (bl rfl) ?_
          refine TrL.nil (qthen_n ?_)
          have hz := Option.some.inj H
          subst hz
          refine Tr.ret (ret_r ⟨[(0, .bool false)], [], [], []⟩ [.bool false] [] [] (Imp.re _ [] [] (sc rfl sn) (by decide) rfl rfl rfl) rfl rfl ⟨rfl, rfl, rfl⟩ (.cons (resv_tmp rfl) .nil))
      · refine TrL.cons_no rfl rfl rfl (gn_t (bf_dec h24)) rfl (bl rfl) ?_
        refine TrL.cons_no rfl rfl rfl (gn_t (bf_dec h24)) rfl (bl rfl) ?_
        refine TrL.cons_no rfl rfl rfl (gn_t (bf_dec h24)) rfl (bl rfl) ?_
        refine TrL.v (v_pick_f rfl rfl (bf_dec h24) rfl) rfl rfl (bl rfl) ?_
        refine TrL.v (v_move rfl rfl) rfl rfl (bl rfl) ?_
        refine TrL.cons_no rfl rfl rfl (gn_t rfl) rfl (bl rfl) ?_
        refine TrL.cons_no rfl rfl rfl (gn_t rfl) rfl (bl rfl) ?_
        refine TrL.cons_no rfl rfl rfl (gn_t rfl) rfl (bl rfl) ?_
        refine TrL.v (v_pick_f rfl rfl rfl rfl) rfl rfl (bl rfl) ?_
        refine TrL.v (v_move rfl rfl) rfl rfl (bl rfl) ?_
        refine TrL.cons_no rfl rfl rfl (gn_t rfl) rfl (bl rfl) ?_
        refine TrL.cons_no rfl rfl rfl (gn_t rfl) rfl (bl rfl) ?_
        refine TrL.cons_no rfl rfl rfl (gn_t rfl) rfl (bl rfl) ?_
        refine TrL.cons_no rfl rfl rfl (gn_t rfl) rfl (bl rfl) ?_
        refine TrL.cons_no rfl rfl rfl (gn_t rfl) rfl (bl rfl) ?_
        refine TrL.v (v_pick_f rfl rfl rfl rfl) rfl rfl (bl rfl) ?_
        refine TrL.v (v_move rfl rfl) rfl rfl (bl rfl) ?_
        refine TrL.cons_no rfl rfl rfl (gn_t rfl) rfl (bl rfl) ?_
        refine TrL.cons_no rfl rfl rfl (gn_t rfl) rfl (bl rfl) ?_
        refine TrL.v (v_pick_f rfl rfl rfl rfl) rfl rfl (bl rfl) ?_
        refine TrL.v (v_move rfl rfl) rfl rfl (bl rfl) ?_
        refine TrL.cons_no rfl rfl rfl (gn_t rfl) rfl (bl rfl) ?_
        refine TrL.cons_no rfl rfl rfl (gn_t rfl) rfl (bl rfl) ?_
        refine TrL.cons_no rfl rfl rfl (gn_t rfl) rfl (bl rfl) ?_
        refine TrL.cons_no rfl rfl rfl (gn_t rfl) rfl (bl rfl) ?_
        refine TrL.cons_no rfl rfl rfl (gn_t rfl) rfl (bl rfl) ?_
        refine TrL.v (v_pick_f rfl rfl rfl rfl) rfl rfl (bl rfl) ?_
        refine TrL.v (v_assign rfl rfl) rfl rfl (bl rfl) ?_
        refine TrL.nil (qthen_n ?_)
        have hz := Option.some.inj H
        subst hz
        refine Tr.ret (ret_r ⟨[(0, .bool false)], [], [], []⟩ [.bool false] [] [] (Imp.re _ [] [] (sc rfl sn) (by decide) rfl rfl rfl) rfl rfl ⟨rfl, rfl, rfl⟩ (.cons (resv_tmp rfl) .nil))
    · refine TrL.cons_no rfl rfl rfl (gn_t (bf_dec h23)) rfl (bl rfl) ?_
      refine TrL.cons_no rfl rfl rfl (gn_t (bf_dec h23)) rfl (bl rfl) ?_
      refine TrL.v (v_pick_f rfl rfl (bf_dec h23) rfl) rfl rfl (bl rfl) ?_
      refine TrL.v (v_move rfl rfl) rfl rfl (bl rfl) ?_
      refine TrL.cons_no rfl rfl rfl (gn_t rfl) rfl (bl rfl) ?_
      refine TrL.cons_no rfl rfl rfl (gn_t rfl) rfl (bl rfl) ?_
      refine TrL.cons_no rfl rfl rfl (gn_t rfl) rfl (bl rfl) ?_
      refine TrL.v (v_pick_f rfl rfl rfl rfl) rfl rfl (bl rfl) ?_
      refine TrL.v (v_move rfl rfl) rfl rfl (bl rfl) ?_
      refine TrL.cons_no rfl rfl rfl (gn_t rfl) rfl (bl rfl) ?_
      refine TrL.cons_no rfl rfl rfl (gn_t rfl) rfl (bl rfl) ?_
      refine TrL.cons_no rfl rfl rfl (gn_t rfl) rfl (bl rfl) ?_
      refine TrL.v (v_pick_f rfl rfl rfl rfl) rfl rfl (bl rfl) ?_
      refine TrL.v (v_move rfl rfl) rfl rfl (bl rfl) ?_
      refine TrL.cons_no rfl rfl rfl (gn_t rfl) rfl (bl rfl) ?_
      refine TrL.cons_no rfl rfl rfl (gn_t rfl) rfl (bl rfl) ?_
      refine TrL.cons_no rfl rfl rfl (gn_t rfl) rfl (bl rfl) ?_
      refine TrL.cons_no rfl rfl rfl (gn_t rfl) rfl (bl rfl) ?_
      refine TrL.cons_no rfl rfl rfl (gn_t rfl) rfl (bl rfl) ?_
      refine TrL.v (v_pick_f rfl rfl rfl rfl) rfl rfl (bl rfl) ?_
      refine TrL.v (v_move rfl rfl) rfl rfl (bl rfl) ?_
      refine TrL.cons_no rfl rfl rfl (gn_t rfl) rfl (bl rfl) ?_
      refine TrL.cons_no rfl rfl rfl (gn_t rfl) rfl (bl rfl) ?_
      refine TrL.v (v_pick_f rfl rfl rfl rfl) rfl rfl (bl rfl) ?_
      refine TrL.v (v_move rfl rfl) rfl rfl (bl rfl) ?_
      refine TrL.cons_no rfl rfl rfl (gn_t rfl) rfl (bl rfl) ?_
      refine TrL.cons_no rfl rfl rfl (gn_t rfl) rfl (bl rfl) ?_
      refine TrL.cons_no rfl rfl rfl (gn_t rfl) rfl (bl rfl) ?_
      refine TrL.cons_no rfl rfl rfl (gn_t rfl) rfl (bl rfl) ?_
      refine TrL.cons_no rfl rfl rfl (gn_t rfl) rfl (bl rfl) ?_
      refine TrL.v (v_pick_f rfl rfl rfl rfl) rfl rfl (bl rfl) ?_
      refine TrL.v (v_assign rfl rfl) rfl rfl (bl rfl) ?_
      refine TrL.nil (qthen_n ?_)
      have hz := Option.some.inj H
      subst hz
      refine Tr.ret (ret_r ⟨[(0, .bool false)], [], [], []⟩ [.bool false] [] [] (Imp.re _ [] [] (sc rfl sn) (by decide) rfl rfl rfl) rfl rfl ⟨rfl, rfl, rfl⟩ (.cons (resv_tmp rfl) .nil))
  · refine TrL.cons_no rfl rfl rfl (gn_t (bf_dec h22)) rfl (bl rfl) ?_
    refine TrL.cons_no rfl rfl rfl (gn_t (bf_dec h22)) rfl (bl rfl) ?_
    refine TrL.v (v_pick_f rfl rfl (bf_dec h22) rfl) rfl rfl (bl rfl) ?_
    refine TrL.v (v_move rfl rfl) rfl rfl (bl rfl) ?_
    refine TrL.cons_no rfl rfl rfl (gn_t rfl) rfl (bl rfl) ?_
    refine TrL.cons_no rfl rfl rfl (gn_t rfl) rfl (bl rfl) ?_
    refine TrL.v (v_pick_f rfl rfl rfl rfl) rfl rfl (bl rfl) ?_
    refine TrL.v (v_move rfl rfl) rfl rfl (bl rfl) ?_
    refine TrL.cons_no rfl rfl rfl (gn_t rfl) rfl (bl rfl) ?_
    refine TrL.cons_no rfl rfl rfl (gn_t rfl) rfl (bl rfl) ?_
    refine TrL.cons_no rfl rfl rfl (gn_t rfl) rfl (bl rfl) ?_
    refine TrL.v (v_pick_f rfl rfl rfl rfl) rfl rfl (bl rfl) ?_
    refine TrL.v (v_move rfl rfl) rfl rfl (bl rfl) ?_
    refine TrL.cons_no rfl rfl rfl (gn_t rfl) rfl (bl rfl) ?_
    refine TrL.cons_no rfl rfl rfl (gn_t rfl) rfl (bl rfl) ?_
    refine TrL.cons_no rfl rfl rfl (gn_t rfl) rfl (bl rfl) ?_
    refine TrL.v (v_pick_f rfl rfl rfl rfl) rfl rfl (bl rfl) ?_
    refine TrL.v (v_move rfl rfl) rfl rfl (bl rfl) ?_
    refine TrL.cons_no rfl rfl rfl (gn_t rfl) rfl (bl rfl) ?_
    refine TrL.cons_no rfl rfl rfl (gn_t rfl) rfl (bl rfl) ?_
    refine TrL.cons_no rfl rfl rfl (gn_t rfl) rfl (bl rfl) ?_
    refine TrL.cons_no rfl rfl rfl (gn_t rfl) rfl (bl rfl) ?_
    refine TrL.cons_no rfl rfl rfl (gn_t rfl) rfl (bl rfl) ?_
    refine TrL.v (v_pick_f rfl rfl rfl rfl) rfl rfl (bl rfl) ?_
    refine TrL.v (v_move rfl rfl) rfl rfl (bl rfl) ?_
    refine TrL.cons_no rfl rfl rfl (gn_t rfl) rfl (bl rfl) ?_
    refine TrL.cons_no rfl rfl rfl (gn_t rfl) rfl (bl rfl) ?_
    refine TrL.v (v_pick_f rfl rfl rfl rfl) rfl rfl (bl rfl) ?_
    refine TrL.v (v_move rfl rfl) rfl rfl (bl rfl) ?_
    refine TrL.cons_no rfl rfl rfl (gn_t rfl) rfl (bl rfl) ?_
    refine TrL.cons_no rfl rfl rfl (gn_t rfl) rfl (bl rfl) ?_
    refine TrL.cons_no rfl rfl rfl (gn_t rfl) rfl (bl rfl) ?_
    refine TrL.cons_no rfl rfl rfl (gn_t rfl) rfl (bl rfl) ?_
    refine TrL.cons_no rfl rfl rfl (gn_t rfl) rfl (bl rfl) ?_
    refine TrL.v (v_pick_f rfl rfl rfl rfl) rfl rfl (bl rfl) ?_
    refine TrL.v (v_assign rfl rfl) rfl rfl (bl rfl) ?_
    refine TrL.nil (qthen_n ?_)
    have hz := Option.some.inj H
    subst hz
    refine Tr.ret (ret_r ⟨[(0, .bool false)], [], [], []⟩ [.bool false] [] [] (Imp.re _ [] [] (sc rfl sn) (by decide) rfl rfl rfl) rfl rfl ⟨rfl, rfl, rfl⟩ (.cons (resv_tmp rfl) .nil))

theorem c_law05_come (p1 : List (Int × Int)) (p2 : List (Int × Int)) (A1 : Option Addr) (c1 : Nat) (A2 : Option Addr) (c2 : Nat) (r : Bool) (H : law05_come p1 p2 = some r) :
    Ctr Try.prog 47 [.slice A1 p1.length c1, .slice A2 p2.length c2] [] [slF rp_u64_u64 A1 c1 p1, slF rp_u64_u64 A2 c2 p2] (fun ret M' F' => ret = .bool r ∧ M' = [] ∧ F' = []) := by
  unfold law05_come at H
  refine ctr_ofI (N := 13) Try.func47 rfl Try.ntmps47 rfl (Nat.le_of_ble_eq_true rfl) (fun γ0 w0 => ?_)
  refine Tr.seq ?_
  refine Tr.region ?_
  refine TrL.v (v_assign rfl rfl) rfl rfl (bl rfl) ?_
  refine TrL.nil (qthen_n ?_)
  refine Tr.seq ?_
  refine Tr.region ?_
  refine TrL.v (v_move rfl rfl) rfl rfl (bl rfl) ?_
  refine TrL.v (v_len rfl sl38 rfl) rfl rfl (bl rfl) ?_
  refine TrL.v (v_arith rfl rfl rfl ar_leq) rfl rfl (bl rfl) ?_
  refine TrL.v (v_move rfl rfl) rfl rfl (bl rfl) ?_
  rcases ifc H with ⟨h4, H⟩ | ⟨h4, H⟩
  · refine TrL.cons_yes rfl rfl rfl (bt_dec h4) (OpTr.v (v_move rfl rfl) rfl (bl rfl) ?_)
    refine TrL.cons_yes rfl rfl rfl (bt_dec h4) (OpTr.v (v_len rfl sl38 rfl) rfl (bl rfl) ?_)
    refine TrL.cons_yes rfl rfl rfl (bt_dec h4) (OpTr.v (v_arith rfl rfl rfl ar_leq) rfl (bl rfl) ?_)
    refine TrL.v (v_pick_t rfl rfl (bt_dec h4) rfl) rfl rfl (bl rfl) ?_
    refine TrL.v (v_assign rfl rfl) rfl rfl (bl rfl) ?_
    refine TrL.nil (qthen_n ?_)
    have hz := Option.some.inj H
    subst hz
    refine Tr.ret (ret_r ⟨[(4, .bool (decide (((p2.length : Int)) ≤ 20)))], [], [], []⟩ [.bool (decide (((p2.length : Int)) ≤ 20))] [] [] (Imp.re _ [] [] (sc rfl sn) (by decide) rfl rfl rfl) rfl rfl ⟨rfl, rfl, rfl⟩ (.cons (resv_tmp rfl) .nil))
  · refine TrL.cons_no rfl rfl rfl (gn_t (bf_dec h4)) rfl (bl rfl) ?_
    refine TrL.cons_no rfl rfl rfl (gn_t (bf_dec h4)) rfl (bl rfl) ?_
    refine TrL.cons_no rfl rfl rfl (gn_t (bf_dec h4)) rfl (bl rfl) ?_
    refine TrL.v (v_pick_f rfl rfl (bf_dec h4) rfl) rfl rfl (bl rfl) ?_
    refine TrL.v (v_assign rfl rfl) rfl rfl (bl rfl) ?_
    refine TrL.nil (qthen_n ?_)
    have hz := Option.some.inj H
    subst hz
    refine Tr.ret (ret_r ⟨[(4, .bool false)], [], [], []⟩ [.bool false] [] [] (Imp.re _ [] [] (sc rfl sn) (by decide) rfl rfl rfl) rfl rfl ⟨rfl, rfl, rfl⟩ (.cons (resv_tmp rfl) .nil))

theorem c_law05_ones (p1 : List (Int × Int)) (p2 : Int) (p3 : Int) (A1 : Option Addr) (c1 : Nat) (r : List (Int × Int)) (H : law05_ones p1 p2 p3 = some r) :
    Ctr Try.prog 55 [.slice A1 p1.length c1, .int .u64 p2, .int .u64 p3] [] [slF rp_u64_u64 A1 c1 p1] (fun ret M' F' => ∃ m : Option Addr × Nat × Option Nat, ret = .slice m.1 r.length m.2.1 ∧ M' = [grow 41 2 (.slice m.1 r.length m.2.1) r.length m.2.2] ∧ F' = [slF rp_u64_u64 m.1 m.2.1 r]) := by
  unfold law05_ones at H
  refine ctr_ofI (N := 28) Try.func55 rfl Try.ntmps55 rfl (Nat.le_of_ble_eq_true rfl) (fun γ0 w0 => ?_)
  refine Tr.seq ?_
  refine Tr.region ?_
  refine TrL.v (v_assign rfl rfl) rfl rfl (bl rfl) ?_
  refine TrL.nil (qthen_n ?_)
  refine Tr.seq ?_
  refine Tr.region ?_
  refine TrL.cons rfl (op_buildSlice' (rp := rp_u64_u64) (xs := []) (vs := []) (out := []) rfl (bl rfl) rfl sl38 ty41 ze41 rfl rfl (by decide) (by decide) rfl (fun γ w hF => rown) (fun A10 => ?_))
  refine TrL.v (v_move rfl rfl) rfl rfl (bl rfl) ?_
  refine TrL.full' (E := 41) (sz := 2) (A := A10) (n := 0) ?_
  obtain ⟨h13, H⟩ := rom H
  refine TrL.cons rfl (op_append' (rp := rp_u64_u64) (xs := ([] : List (Int × Int))) (ys := p1) (k := 0) (kx := 1) (ky := 0) rfl (bl rfl) rfl sl38 ty41 ze41 rfl by41 rfl rfl rfl rfl rfl rfl rfl h13.1 h13.2 (fun A11 c6 o5 => ?_))
  refine TrL.v (v_assign rfl rfl) rfl rfl (bl rfl) ?_
  refine TrL.nil (qthen_n ?_)
  refine Tr.seq ?_
  refine Tr.seq ?_
  refine Tr.region ?_
  refine TrL.v (v_assign rfl rfl) rfl rfl (bl rfl) ?_
  refine TrL.nil (qthen_n ?_)
  obtain ⟨x2, hx3, H⟩ := bnd H
  refine Tr.cutE (D := List (Int × Int)) (M := Option Addr × Nat × Option Nat) .normal (fun _d => x2 = _d) (fun x2 m8 => ⟨[(7, .slice m8.1 x2.length m8.2.1)], [grow 41 2 (.slice m8.1 x2.length m8.2.1) x2.length m8.2.2], [slF rp_u64_u64 m8.1 m8.2.1 x2], []⟩) ?_ (fun x2 m8 hd2 => ?_)
  · refine Tr.block (Tr.loopI (ι := Option Addr × Nat × Option Nat) (step := law05_ones_s0 p2 p3) (fun s5 m6 => ⟨[(1, .int .u64 p2), (2, .int .u64 p3), (7, .slice m6.1 s5.1.length m6.2.1), (8, .int .u64 s5.2)], [grow 41 2 (.slice m6.1 s5.1.length m6.2.1) s5.1.length m6.2.2], [slF rp_u64_u64 m6.1 m6.2.1 s5.1], []⟩) ((A11, c6, o5)) hx3 (Imp.re _ [0] [2] (sc rfl (sc rfl (sc rfl (sc rfl sn)))) (by decide) rfl rfl rfl) (fun s5 m6 y2 hy2 hx4 => ?_))
    unfold law05_ones_s0 at hy2
    refine Tr.seq ?_
    refine Tr.seq ?_
    refine Tr.region ?_
    refine TrL.v (v_move rfl rfl) rfl rfl (bl rfl) ?_
    refine TrL.v (v_move rfl rfl) rfl rfl (bl rfl) ?_
    refine TrL.v (v_arith rfl rfl rfl ar_lss) rfl rfl (bl rfl) ?_
    refine TrL.v (v_move rfl rfl) rfl rfl (bl rfl) ?_
    rcases ifc hy2 with ⟨h22, hy2⟩ | ⟨h22, hy2⟩
    · refine TrL.cons_yes rfl rfl rfl (bt_dec h22) (OpTr.v (v_move rfl rfl) rfl (bl rfl) ?_)
      refine TrL.cons_yes rfl rfl rfl (bt_dec h22) (OpTr.v (v_arith rfl rfl rfl ar_lss) rfl (bl rfl) ?_)
      refine TrL.v (v_pick_t rfl rfl (bt_dec h22) rfl) rfl rfl (bl rfl) ?_
      refine TrL.nil (qthen_n ?_)
      rcases ifc hy2 with ⟨h23, hy2⟩ | ⟨h23, hy2⟩
      · refine Tr.cond_t rfl (bt_dec h23) ?_
        refine Tr.skip (qthen_n ?_)
        refine Tr.seq ?_
        refine Tr.block ?_
        refine Tr.region ?_
        refine TrL.v (v_move rfl rfl) rfl rfl (bl rfl) ?_
        refine TrL.v (v_move rfl rfl) rfl rfl (bl rfl) ?_
        refine TrL.v (v_move rfl rfl) rfl rfl (bl rfl) ?_
        refine TrL.v (v_build (vs := [.int .u64 p3, .int .u64 p3]) (out := [.int .u64 p3, .int .u64 p3]) rfl pl41 ze41 rfl rfl) rfl rfl (bl rfl) ?_
        refine TrL.cons rfl (op_buildSlice' (rp := rp_u64_u64) (xs := [(p3, p3)]) (vs := [.agg #[.int .u64 p3, .int .u64 p3]]) (out := [.int .u64 p3, .int .u64 p3]) rfl (bl rfl) rfl sl38 ty41 ze41 rfl rfl (by decide) (by decide) rfl (fun γ w hF => (rowc rfl rown rfl)) (fun A16 => ?_))
        obtain ⟨h24, hy2⟩ := rom hy2
        refine TrL.cons rfl (op_append' (rp := rp_u64_u64) (xs := s5.1) (ys := [(p3, p3)]) (k := 0) (kx := 0) (ky := 1) rfl (bl rfl) rfl sl38 ty41 ze41 rfl by41 rfl rfl rfl rfl rfl rfl rfl h24.1 h24.2 (fun A17 c9 o8 => ?_))
        refine TrL.v (v_assign rfl rfl) rfl rfl (bl rfl) ?_
        refine TrL.nil (qblock_n (qthen_n ?_))
        refine Tr.region ?_
        refine TrL.v (v_move rfl rfl) rfl rfl (bl rfl) ?_
        refine TrL.v (v_arith rfl rfl rfl ar_add_u64) rfl rfl (bl rfl) ?_
        refine TrL.v (v_assign rfl rfl) rfl rfl (bl rfl) ?_
        have hz := Option.some.inj hy2
        subst hz
        refine TrL.nil (qloop_n ((A17, c9, o8)) (Imp.re _ [0] [2] (sc rfl (sc rfl (sc rfl (sc rfl sn)))) (by decide) rfl rfl rfl))
      · refine Tr.cond_f rfl (bf_dec h23) ?_
        have hz := Option.some.inj hy2
        subst hz
        refine Tr.exit (qthen_x (qloop_x (qblock_hit (qcut_hit s5.1 ((m6.1, m6.2.1, m6.2.2)) (hx4 _ rfl).symm (Imp.re _ [0] [0] (sc rfl sn) (by decide) rfl rfl rfl)))))
    · refine TrL.cons_no rfl rfl rfl (gn_t (bf_dec h22)) rfl (bl rfl) ?_
      refine TrL.cons_no rfl rfl rfl (gn_t (bf_dec h22)) rfl (bl rfl) ?_
      refine TrL.v (v_pick_f rfl rfl (bf_dec h22) rfl) rfl rfl (bl rfl) ?_
      refine TrL.nil (qthen_n ?_)
      refine Tr.cond_f rfl rfl ?_
      have hz := Option.some.inj hy2
      subst hz
      refine Tr.exit (qthen_x (qloop_x (qblock_hit (qcut_hit s5.1 ((m6.1, m6.2.1, m6.2.2)) (hx4 _ rfl).symm (Imp.re _ [0] [0] (sc rfl sn) (by decide) rfl rfl rfl)))))
  · subst hd2
    refine (qthen_n ?_)
    refine Tr.seq ?_
    refine Tr.region ?_
    refine TrL.v (v_move rfl rfl) rfl rfl (bl rfl) ?_
    refine TrL.v (v_assign rfl rfl) rfl rfl (bl rfl) ?_
    refine TrL.nil (qthen_n ?_)
    have hz := Option.some.inj H
    subst hz
    refine Tr.ret (ret_r ⟨[(6, .slice m8.1 x2.length m8.2.1)], [grow 41 2 (.slice m8.1 x2.length m8.2.1) x2.length m8.2.2], [slF rp_u64_u64 m8.1 m8.2.1 x2], []⟩ [.slice m8.1 x2.length m8.2.1] [grow 41 2 (.slice m8.1 x2.length m8.2.1) x2.length m8.2.2] [] (Imp.re _ [0] [0] (sc rfl sn) (by decide) rfl rfl rfl) rfl rfl ⟨((m8.1, m8.2.1, m8.2.2)), rfl, rfl, rfl⟩ (.cons (resv_tmp rfl) .nil))
end Go.Proofs.Ytbnjjpmlaknaoaa.W
