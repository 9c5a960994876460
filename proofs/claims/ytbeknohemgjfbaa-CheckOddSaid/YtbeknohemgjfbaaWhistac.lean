/- The contracts of the walked functions: the printed walks. -/
import Derived.Test.YtbeknohemgjfbaaKc
import Derived.Test.YtbeknohemgjfbaaQc
namespace Go.Proofs.Ytbeknohemgjfbaa.W
open Go Go.Proofs Go.Proofs.Ytbeknohemgjfbaa.L Go.Proofs.Ytbeknohemgjfbaa.Pu
set_option linter.unusedVariables false
set_option maxHeartbeats 4000000

theorem c_hist_Total (p1 : Int × Int × List (List (Int × Int))) (A1 : Option Addr) (c1 : Nat) (r : Int) (H : hist_Total p1 = some r) :
    Ctr Try.prog 123 [.agg #[.int .i64 p1.1, .int .i64 p1.2.1, .slice A1 p1.2.2.length c1]] [] [slF (rSl rp_u64_u64) A1 c1 p1.2.2] (fun ret M' F' => ret = .int .u64 r ∧ M' = [] ∧ F' = []) := by
  unfold hist_Total at H
  refine ctr_ofI (N := 23) Try.func123 rfl Try.ntmps123 rfl (Nat.le_of_ble_eq_true rfl) (fun γ0 w0 => ?_)
  refine Tr.seq ?_
  refine Tr.region ?_
  refine TrL.cons rfl (op_box' rfl (bl rfl) rfl rfl rfl (fun b2 => ?_))
  refine TrL.v (v_assign rfl rfl) rfl rfl (bl rfl) ?_
  refine TrL.nil (qthen_n ?_)
  refine Tr.seq ?_
  refine Tr.region ?_
  refine TrL.v (v_assign rfl rfl) rfl rfl (bl rfl) ?_
  refine TrL.nil (qthen_n ?_)
  refine Tr.seq ?_
  refine Tr.seq ?_
  refine Tr.region ?_
  refine TrL.v (v_fieldAddr' rfl fo35_2 rfl rfl) rfl rfl (bl rfl) ?_
  refine TrL.v (v_load (k := 0) rfl rfl rfl ty24 (fun _ => rfl) rfl rfl) rfl rfl (bl rfl) ?_
  refine TrL.v (v_len rfl sl24 rfl) rfl rfl (bl rfl) ?_
  refine TrL.v (v_move rfl rfl) rfl rfl (bl rfl) ?_
  refine TrL.nil (qthen_n ?_)
  obtain ⟨x2, hx3, H⟩ := bnd H
  refine Tr.cutE (D := Int) (M := Unit) .normal (fun _d => x2 = _d) (fun x2 m8 => ⟨[(3, .int .u64 x2)], [], [], []⟩) ?_ (fun x2 m8 hd2 => ?_)
  · refine Tr.block (Tr.loopI (ι := Unit) (step := hist_Total_s0 p1) (fun s5 m6 => ⟨[(3, .int .u64 s5.1), (7, .slice A1 p1.2.2.length c1), (8, .int .i64 ((p1.2.2.length : Int))), (9, .int .i64 s5.2)], [], [slF (rSl rp_u64_u64) A1 c1 p1.2.2], []⟩) (()) hx3 (Imp.re _ [] [0] (sc rfl (sc rfl (sc rfl (sc rfl sn)))) (by decide) rfl rfl rfl) (fun s5 m6 y2 hy2 hx4 => ?_))
    unfold hist_Total_s0 at hy2
    refine Tr.seq ?_
    refine Tr.region ?_
    refine TrL.v (v_arith rfl rfl rfl ar_lss) rfl rfl (bl rfl) ?_
    refine TrL.nil (qthen_n ?_)
    refine Tr.seq ?_
    rcases ifc hy2 with ⟨h9, hy2⟩ | ⟨h9, hy2⟩
    · refine Tr.cond_t rfl (bt_dec h9) ?_
      refine Tr.skip (qthen_n ?_)
      refine Tr.seq ?_
      refine Tr.block ?_
      refine Tr.seq ?_
      refine Tr.region ?_
      refine TrL.v (v_move rfl rfl) rfl rfl (bl rfl) ?_
      obtain ⟨z6, hz6, hy2⟩ := bnd hy2
      refine TrL.v (v_indexAddr (k := 0) rfl sl24 ty31 rfl rfl rfl rfl hz6) rfl rfl (bl rfl) ?_
      refine TrL.openS' (k := 0) rfl hz6 (fun A7 c7 => ?_)
      refine TrL.v (v_loadF (k := 2) rfl ty31 rfl rfl) rfl rfl (bl rfl) ?_
      refine TrL.v (v_assign rfl rfl) rfl rfl (bl rfl) ?_
      refine TrL.v (v_assign rfl rfl) rfl rfl (bl rfl) ?_
      refine TrL.nil (qthen_n ?_)
      refine Tr.region ?_
      refine TrL.v (v_move rfl rfl) rfl rfl (bl rfl) ?_
      refine TrL.v (v_move rfl rfl) rfl rfl (bl rfl) ?_
      refine TrL.v (v_len rfl sl31 rfl) rfl rfl (bl rfl) ?_
      refine TrL.v (v_conv' rfl ⟨_, Try.underlying3⟩ Try.underlying28 rfl wrap_u64') rfl rfl (bl rfl) ?_
      refine TrL.v (v_move rfl rfl) rfl rfl (bl rfl) ?_
      obtain ⟨h10, hy2⟩ := mst hy2
      refine TrL.v (v_shl' rfl rfl rfl h10 rfl wrap_u64') rfl rfl (bl rfl) ?_
      refine TrL.v (v_arith rfl rfl rfl ar_add_u64) rfl rfl (bl rfl) ?_
      refine TrL.v (v_assign rfl rfl) rfl rfl (bl rfl) ?_
      refine TrL.nil (qblock_n (qthen_n ?_))
      refine Tr.region ?_
      refine TrL.v (v_arith rfl rfl rfl ar_add_i64) rfl rfl (bl rfl) ?_
      refine TrL.v (v_move rfl rfl) rfl rfl (bl rfl) ?_
      have hz := Option.some.inj hy2
      subst hz
      refine TrL.nil (qloop_n (()) (Imp.re _ [] [0] (sc rfl (sc rfl (sc rfl (sc rfl sn)))) (by decide) rfl rfl rfl))
    · refine Tr.cond_f rfl (bf_dec h9) ?_
      have hz := Option.some.inj hy2
      subst hz
      refine Tr.exit (qthen_x (qloop_x (qblock_hit (qcut_hit s5.1 (()) (hx4 _ rfl).symm (Imp.re _ [] [] (sc rfl sn) (by decide) rfl rfl rfl)))))
  · subst hd2
    refine (qthen_n ?_)
    refine Tr.seq ?_
    refine Tr.region ?_
    refine TrL.v (v_move rfl rfl) rfl rfl (bl rfl) ?_
    refine TrL.v (v_assign rfl rfl) rfl rfl (bl rfl) ?_
    refine TrL.nil (qthen_n ?_)
    have hz := Option.some.inj H
    subst hz
    refine Tr.ret (ret_r ⟨[(2, .int .u64 x2)], [], [], []⟩ [.int .u64 x2] [] [] (Imp.re _ [] [] (sc rfl sn) (by decide) rfl rfl rfl) rfl rfl ⟨rfl, rfl, rfl⟩ (.cons (resv_tmp rfl) .nil))
end Go.Proofs.Ytbeknohemgjfbaa.W
