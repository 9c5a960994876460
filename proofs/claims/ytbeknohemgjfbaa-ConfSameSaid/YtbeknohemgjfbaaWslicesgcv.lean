import Derived.Test.YtbeknohemgjfbaaKcv
import Derived.Test.YtbeknohemgjfbaaQcv
import Derived.Test.YtbeknohemgjfbaaWconfacv
namespace Go.Proofs.Ytbeknohemgjfbaa.W
open Go Go.Proofs Go.Proofs.Ytbeknohemgjfbaa.L Go.Proofs.Ytbeknohemgjfbaa.Pu
set_option linter.unusedVariables false
set_option maxHeartbeats 4000000

theorem c_slices_IndexFunc_int (p1 : List Int) (A1 : Option Addr) (c1 : Nat) (r : Int) (H : slices_IndexFunc_int p1 = some r) :
  Ctr Try.prog 173 [.slice A1 p1.length c1, .func (.func 149) #[] #[]] [] [slF (rInt .i64) A1 c1 p1] (fun ret M' F' => ret = .int .i64 r ∧ M' = [] ∧ F' = []) := by
 unfold slices_IndexFunc_int at H
 refine ctr_ofI (N := 19) Try.func173 rfl Try.ntmps173 rfl (Nat.le_of_ble_eq_true rfl) (fun γ0 w0 => ?_)
 refine Tr.seq ?_
 refine Tr.region ?_
 refine TrL.v (v_assign rfl rfl) rfl rfl (bl rfl) ?_
 refine TrL.nil (qthen_n ?_)
 refine Tr.seq ?_
 refine Tr.seq ?_
 refine Tr.region ?_
 refine TrL.v (v_move rfl rfl) rfl rfl (bl rfl) ?_
 refine TrL.v (v_len rfl sl221 rfl) rfl rfl (bl rfl) ?_
 refine TrL.v (v_move rfl rfl) rfl rfl (bl rfl) ?_
 refine TrL.nil (qthen_n ?_)
 obtain ⟨x2, hx3, H⟩ := bnd H
 refine Tr.cutE (D := Int) (M := Unit) .ret (fun d3 => x2 = .inl d3) (fun d3 m14 => ⟨[(4, .int .i64 d3)], [], [], []⟩) ?_ (fun d3 m14 hd3 => ?_)
 ·refine Tr.cutE (D := Unit) (M := Unit) .normal (fun d4 => x2 = .inr d4) (fun d4 m15 => ⟨[], [], [], []⟩) ?_ (fun d4 m15 hd4 => ?_)
  ·refine Tr.block (Tr.loopI (ι := Unit) (step := slices_IndexFunc_int_s0 p1) (fun s5 m11 => ⟨[(0, .slice A1 p1.length c1), (1, .func (.func 149) #[] #[]), (7, .int .i64 ((p1.length : Int))), (8, .int .i64 s5)], [], [slF (rInt .i64) A1 c1 p1], []⟩) (()) hx3 (Imp.re _ [] [0] (sc rfl (sc rfl (sc rfl (sc rfl sn)))) (by decide) rfl rfl rfl) (fun s5 m11 y2 hy2 hx4 => ?_))
   unfold slices_IndexFunc_int_s0 at hy2
   refine Tr.seq ?_
   refine Tr.region ?_
   refine TrL.v (v_arith rfl rfl rfl ar_lss) rfl rfl (bl rfl) ?_
   refine TrL.nil (qthen_n ?_)
   refine Tr.seq ?_
   rcases ifc hy2 with ⟨h11, hy2⟩ | ⟨h11, hy2⟩
   ·refine Tr.cond_t rfl (bt_dec h11) ?_
    refine Tr.skip (qthen_n ?_)
    refine Tr.seq ?_
    refine Tr.block ?_
    refine Tr.seq ?_
    refine Tr.region ?_
    refine TrL.v (v_move rfl rfl) rfl rfl (bl rfl) ?_
    refine TrL.v (v_assign rfl rfl) rfl rfl (bl rfl) ?_
    refine TrL.nil (qthen_n ?_)
    refine Tr.seq ?_
    refine Tr.region ?_
    refine TrL.v (v_move rfl rfl) rfl rfl (bl rfl) ?_
    refine TrL.v (v_move rfl rfl) rfl rfl (bl rfl) ?_
    refine TrL.v (v_move rfl rfl) rfl rfl (bl rfl) ?_
    obtain ⟨z6, hz6, hy2⟩ := bnd hy2
    refine TrL.v (v_indexAddr (k := 0) rfl sl221 ty3 rfl rfl rfl rfl hz6) rfl rfl (bl rfl) ?_
    refine TrL.v (v_loadg (A := A1) (i := s5) (j := 0) (k := 0) rfl ty3 (fun _ => rfl) rfl rfl hz6 rfl rfl) rfl rfl (bl rfl) ?_
    obtain ⟨r6, hr6, hy2⟩ := bnd hy2
    refine TrL.cons rfl (op_call0' (vs := [.int .i64 z6]) (cap := []) [] rfl rfl (bl rfl) rfl rfl en149 (c_conf_bare_1 z6 r6 hr6) rfl (fun ret M' F' hR6 => ?_))
    obtain ⟨rfl, rfl, rfl⟩ := hR6
    refine TrL.nil (qthen_n ?_)
    rcases ifc hy2 with ⟨h12, hy2⟩ | ⟨h12, hy2⟩
    ·refine Tr.cond_t rfl (bt_dec h12) ?_
     refine Tr.seq ?_
     refine Tr.region ?_
     refine TrL.v (v_move rfl rfl) rfl rfl (bl rfl) ?_
     refine TrL.v (v_assign rfl rfl) rfl rfl (bl rfl) ?_
     refine TrL.nil (qthen_n ?_)
     have hz := Option.some.inj hy2
     subst hz
     refine Tr.ret (qblock_r (qthen_r (qloop_r (qblock_r (qcut_miss (by simp) (qcut_hit s5 (()) (hx4 _ rfl).symm (Imp.re _ [] [] (sc rfl sn) (by decide) rfl rfl rfl)))))))
    ·refine Tr.cond_f rfl (bf_dec h12) ?_
     refine Tr.skip (qblock_n (qthen_n ?_))
     refine Tr.region ?_
     refine TrL.v (v_arith rfl rfl rfl ar_add_i64) rfl rfl (bl rfl) ?_
     refine TrL.v (v_move rfl rfl) rfl rfl (bl rfl) ?_
     have hz := Option.some.inj hy2
     subst hz
     refine TrL.nil (qloop_n (()) (Imp.re _ [] [0] (sc rfl (sc rfl (sc rfl (sc rfl sn)))) (by decide) rfl rfl rfl))
   ·refine Tr.cond_f rfl (bf_dec h11) ?_
    have hz := Option.some.inj hy2
    subst hz
    refine Tr.exit (qthen_x (qloop_x (qblock_hit (qcut_hit (()) (()) (hx4 _ rfl).symm (Imp.re _ [] [] sn (by decide) rfl rfl rfl)))))
  ·subst hd4
   replace H := sumr H
   refine (qcut_miss (by simp) (qthen_n ?_))
   refine Tr.seq ?_
   refine Tr.region ?_
   refine TrL.v (v_assign rfl rfl) rfl rfl (bl rfl) ?_
   refine TrL.nil (qthen_n ?_)
   have hz := Option.some.inj H
   subst hz
   refine Tr.ret (ret_r ⟨[(4, .int .i64 (-1))], [], [], []⟩ [.int .i64 (-1)] [] [] (Imp.re _ [] [] (sc rfl sn) (by decide) rfl rfl rfl) rfl rfl ⟨rfl, rfl, rfl⟩ (.cons (resv_tmp rfl) .nil))
 ·subst hd3
  replace H := suml H
  have hz := Option.some.inj H
  subst hz
  refine (qthen_r (ret_r ⟨[(4, .int .i64 d3)], [], [], []⟩ [.int .i64 d3] [] [] (Imp.re _ [] [] (sc rfl sn) (by decide) rfl rfl rfl) rfl rfl ⟨rfl, rfl, rfl⟩ (.cons (resv_tmp rfl) .nil)))

theorem c_slices_ContainsFunc_int (p1 : List Int) (A1 : Option Addr) (c1 : Nat) (r : Bool) (H : slices_ContainsFunc_int p1 = some r) :
  Ctr Try.prog 148 [.slice A1 p1.length c1, .func (.func 149) #[] #[]] [] [slF (rInt .i64) A1 c1 p1] (fun ret M' F' => ret = .bool r ∧ M' = [] ∧ F' = []) := by
 unfold slices_ContainsFunc_int at H
 refine ctr_ofI (N := 9) Try.func148 rfl Try.ntmps148 rfl (Nat.le_of_ble_eq_true rfl) (fun γ0 w0 => ?_)
 refine Tr.seq ?_
 refine Tr.region ?_
 refine TrL.v (v_assign rfl rfl) rfl rfl (bl rfl) ?_
 refine TrL.nil (qthen_n ?_)
 refine Tr.seq ?_
 refine Tr.region ?_
 refine TrL.v (v_move rfl rfl) rfl rfl (bl rfl) ?_
 refine TrL.v (v_move rfl rfl) rfl rfl (bl rfl) ?_
 obtain ⟨r2, hr2, H⟩ := bnd H
 refine TrL.cons rfl (op_call0' (vs := [.slice A1 p1.length c1, .func (.func 149) #[] #[]]) (cap := []) [0] rfl rfl (bl rfl) rfl rfl en173 (c_slices_IndexFunc_int p1 A1 c1 r2 hr2) rfl (fun ret M' F' hR2 => ?_))
 obtain ⟨rfl, rfl, rfl⟩ := hR2
 refine TrL.v (v_arith rfl rfl rfl ar_geq) rfl rfl (bl rfl) ?_
 refine TrL.v (v_assign rfl rfl) rfl rfl (bl rfl) ?_
 refine TrL.nil (qthen_n ?_)
 have hz := Option.some.inj H
 subst hz
 refine Tr.ret (ret_r ⟨[(4, .bool (decide (0 ≤ r2)))], [], [], []⟩ [.bool (decide (0 ≤ r2))] [] [] (Imp.re _ [] [] (sc rfl sn) (by decide) rfl rfl rfl) rfl rfl ⟨rfl, rfl, rfl⟩ (.cons (resv_tmp rfl) .nil))
end Go.Proofs.Ytbeknohemgjfbaa.W
