/- The contracts of the walked functions: the printed walks. -/
import Derived.Test.YtbeknohemgjfbaaKc
import Derived.Test.YtbeknohemgjfbaaQc
namespace Go.Proofs.Ytbeknohemgjfbaa.W
open Go Go.Proofs Go.Proofs.Ytbeknohemgjfbaa.L Go.Proofs.Ytbeknohemgjfbaa.Pu
set_option linter.unusedVariables false
set_option maxHeartbeats 4000000

theorem c_bits_Len64 (p1 : Int) (r : Int) (H : bits_Len64 p1 = some r) :
    Ctr Try.prog 115 [.int .u64 p1] [] [] (fun ret M' F' => ret = .int .i64 r ∧ M' = [] ∧ F' = []) := by
  unfold bits_Len64 at H
  refine ctr_ofI (N := 25) Try.func115 rfl Try.ntmps115 rfl (Nat.le_of_ble_eq_true rfl) (fun γ0 w0 => ?_)
  refine Tr.seq ?_
  refine Tr.region ?_
  refine TrL.v (v_assign rfl rfl) rfl rfl (bl rfl) ?_
  refine TrL.nil (qthen_n ?_)
  refine Tr.seq ?_
  refine Tr.seq ?_
  refine Tr.region ?_
  refine TrL.v (v_move rfl rfl) rfl rfl (bl rfl) ?_
  refine TrL.v (v_arith rfl rfl rfl ar_geq) rfl rfl (bl rfl) ?_
  refine TrL.nil (qthen_n ?_)
  obtain ⟨j3, hj3, H⟩ := bnd H
  refine Tr.cutE (D := Int × Int) (M := Unit) .normal (fun _d => j3 = _d) (fun j3 m3 => ⟨[(0, .int .u64 j3.1), (2, .int .i64 j3.2)], [], [], []⟩) ?_ (fun j3 m3 hd3 => ?_)
  · rcases ifc hj3 with ⟨h7, hj3⟩ | ⟨h7, hj3⟩
    · refine Tr.cond_t rfl (bt_dec h7) ?_
      refine Tr.seq ?_
      refine Tr.region ?_
      refine TrL.v (v_move rfl rfl) rfl rfl (bl rfl) ?_
      refine TrL.v (v_shr' rfl rfl rfl (by decide) rfl) rfl rfl (bl rfl) ?_
      refine TrL.v (v_assign rfl rfl) rfl rfl (bl rfl) ?_
      refine TrL.nil (qthen_n ?_)
      refine Tr.region ?_
      refine TrL.v (v_assign rfl rfl) rfl rfl (bl rfl) ?_
      refine TrL.nil (qcut_hit ((shrk 64 p1 32, (32 : Int))) (()) (Option.some.inj hj3).symm (Imp.re _ [] [] (sc rfl (sc rfl sn)) (by decide) rfl rfl rfl))
    · refine Tr.cond_f rfl (bf_dec h7) ?_
      refine Tr.skip (qcut_hit ((p1, (0 : Int))) (()) (Option.some.inj hj3).symm (Imp.re _ [] [] (sc rfl (sc rfl sn)) (by decide) rfl rfl rfl))
  · subst hd3
    refine (qthen_n ?_)
    refine Tr.seq ?_
    refine Tr.seq ?_
    refine Tr.region ?_
    refine TrL.v (v_move rfl rfl) rfl rfl (bl rfl) ?_
    refine TrL.v (v_arith rfl rfl rfl ar_geq) rfl rfl (bl rfl) ?_
    refine TrL.nil (qthen_n ?_)
    obtain ⟨j4, hj4, H⟩ := bnd H
    refine Tr.cutE (D := Int × Int) (M := Unit) .normal (fun _d => j4 = _d) (fun j4 m4 => ⟨[(0, .int .u64 j4.1), (2, .int .i64 j4.2)], [], [], []⟩) ?_ (fun j4 m4 hd4 => ?_)
    · rcases ifc hj4 with ⟨h9, hj4⟩ | ⟨h9, hj4⟩
      · refine Tr.cond_t rfl (bt_dec h9) ?_
        refine Tr.seq ?_
        refine Tr.region ?_
        refine TrL.v (v_move rfl rfl) rfl rfl (bl rfl) ?_
        refine TrL.v (v_shr' rfl rfl rfl (by decide) rfl) rfl rfl (bl rfl) ?_
        refine TrL.v (v_assign rfl rfl) rfl rfl (bl rfl) ?_
        refine TrL.nil (qthen_n ?_)
        refine Tr.region ?_
        refine TrL.v (v_move rfl rfl) rfl rfl (bl rfl) ?_
        refine TrL.v (v_arith rfl rfl rfl ar_add_i64) rfl rfl (bl rfl) ?_
        refine TrL.v (v_assign rfl rfl) rfl rfl (bl rfl) ?_
        refine TrL.nil (qcut_hit ((shrk 64 j3.1 16, wi64 (j3.2 + 16))) (()) (Option.some.inj hj4).symm (Imp.re _ [] [] (sc rfl (sc rfl sn)) (by decide) rfl rfl rfl))
      · refine Tr.cond_f rfl (bf_dec h9) ?_
        refine Tr.skip (qcut_hit ((j3.1, j3.2)) (()) (Option.some.inj hj4).symm (Imp.re _ [] [] (sc rfl (sc rfl sn)) (by decide) rfl rfl rfl))
    · subst hd4
      refine (qthen_n ?_)
      refine Tr.seq ?_
      refine Tr.seq ?_
      refine Tr.region ?_
      refine TrL.v (v_move rfl rfl) rfl rfl (bl rfl) ?_
      refine TrL.v (v_arith rfl rfl rfl ar_geq) rfl rfl (bl rfl) ?_
      refine TrL.nil (qthen_n ?_)
      rcases ifc H with ⟨h10, H⟩ | ⟨h10, H⟩
      · refine Tr.cond_t rfl (bt_dec h10) ?_
        refine Tr.seq ?_
        refine Tr.region ?_
        refine TrL.v (v_move rfl rfl) rfl rfl (bl rfl) ?_
        refine TrL.v (v_shr' rfl rfl rfl (by decide) rfl) rfl rfl (bl rfl) ?_
        refine TrL.v (v_assign rfl rfl) rfl rfl (bl rfl) ?_
        refine TrL.nil (qthen_n ?_)
        refine Tr.region ?_
        refine TrL.v (v_move rfl rfl) rfl rfl (bl rfl) ?_
        refine TrL.v (v_arith rfl rfl rfl ar_add_i64) rfl rfl (bl rfl) ?_
        refine TrL.v (v_assign rfl rfl) rfl rfl (bl rfl) ?_
        refine TrL.nil (qthen_n ?_)
        refine Tr.seq ?_
        refine Tr.region ?_
        refine TrL.v (v_move rfl rfl) rfl rfl (bl rfl) ?_
        refine TrL.v (v_move rfl rfl) rfl rfl (bl rfl) ?_
        refine TrL.v (v_conv' rfl ⟨_, Try.underlying28⟩ Try.underlying5 rfl wrap_u8') rfl rfl (bl rfl) ?_
        obtain ⟨z3, hz3, H⟩ := bnd H
        refine TrL.v (v_indexStr' rfl Try.underlying9 rfl rfl hz3) rfl rfl (bl rfl) ?_
        refine TrL.v (v_conv' rfl ⟨_, Try.underlying5⟩ Try.underlying3 rfl wrap_i64') rfl rfl (bl rfl) ?_
        refine TrL.v (v_arith rfl rfl rfl ar_add_i64) rfl rfl (bl rfl) ?_
        refine TrL.v (v_assign rfl rfl) rfl rfl (bl rfl) ?_
        refine TrL.nil (qthen_n ?_)
        have hz := Option.some.inj H
        subst hz
        refine Tr.ret (ret_r ⟨[(2, .int .i64 (wi64 ((wi64 (j4.2 + 8)) + (wi64 z3))))], [], [], []⟩ [.int .i64 (wi64 ((wi64 (j4.2 + 8)) + (wi64 z3)))] [] [] (Imp.re _ [] [] (sc rfl sn) (by decide) rfl rfl rfl) rfl rfl ⟨rfl, rfl, rfl⟩ (.cons (resv_tmp rfl) .nil))
      · refine Tr.cond_f rfl (bf_dec h10) ?_
        refine Tr.skip (qthen_n ?_)
        refine Tr.seq ?_
        refine Tr.region ?_
        refine TrL.v (v_move rfl rfl) rfl rfl (bl rfl) ?_
        refine TrL.v (v_move rfl rfl) rfl rfl (bl rfl) ?_
        refine TrL.v (v_conv' rfl ⟨_, Try.underlying28⟩ Try.underlying5 rfl wrap_u8') rfl rfl (bl rfl) ?_
        obtain ⟨z4, hz4, H⟩ := bnd H
        refine TrL.v (v_indexStr' rfl Try.underlying9 rfl rfl hz4) rfl rfl (bl rfl) ?_
        refine TrL.v (v_conv' rfl ⟨_, Try.underlying5⟩ Try.underlying3 rfl wrap_i64') rfl rfl (bl rfl) ?_
        refine TrL.v (v_arith rfl rfl rfl ar_add_i64) rfl rfl (bl rfl) ?_
        refine TrL.v (v_assign rfl rfl) rfl rfl (bl rfl) ?_
        refine TrL.nil (qthen_n ?_)
        have hz := Option.some.inj H
        subst hz
        refine Tr.ret (ret_r ⟨[(2, .int .i64 (wi64 (j4.2 + (wi64 z4))))], [], [], []⟩ [.int .i64 (wi64 (j4.2 + (wi64 z4)))] [] [] (Imp.re _ [] [] (sc rfl sn) (by decide) rfl rfl rfl) rfl rfl ⟨rfl, rfl, rfl⟩ (.cons (resv_tmp rfl) .nil))

theorem c_bits_Mul64 (p1 : Int) (p2 : Int) (r : Unit) (H : bits_Mul64 p1 p2 = some r) :
    Ctr Try.prog 190 [.int .u64 p1, .int .u64 p2] [] [] (fun ret M' F' => ret = .tuple #[.int .u64 (wu64 ((wu64 ((wu64 ((shrk 64 p1 32) * (shrk 64 p2 32))) + (shrk 64 (wu64 ((wu64 ((shrk 64 p1 32) * (wu64 (andk 64 p2 4294967295)))) + (shrk 64 (wu64 ((wu64 (andk 64 p1 4294967295)) * (wu64 (andk 64 p2 4294967295)))) 32))) 32))) + (shrk 64 (wu64 ((wu64 (andk 64 (wu64 ((wu64 ((shrk 64 p1 32) * (wu64 (andk 64 p2 4294967295)))) + (shrk 64 (wu64 ((wu64 (andk 64 p1 4294967295)) * (wu64 (andk 64 p2 4294967295)))) 32))) 4294967295)) + (wu64 ((wu64 (andk 64 p1 4294967295)) * (shrk 64 p2 32))))) 32))), .int .u64 (wu64 (p1 * p2))] ∧ M' = [] ∧ F' = []) := by
  unfold bits_Mul64 at H
  refine ctr_ofI (N := 51) Try.func190 rfl Try.ntmps190 rfl (Nat.le_of_ble_eq_true rfl) (fun γ0 w0 => ?_)
  refine Tr.seq ?_
  refine Tr.region ?_
  refine TrL.v (v_assign rfl rfl) rfl rfl (bl rfl) ?_
  refine TrL.v (v_assign rfl rfl) rfl rfl (bl rfl) ?_
  refine TrL.nil (qthen_n ?_)
  refine Tr.seq ?_
  refine Tr.region ?_
  refine TrL.v (v_move rfl rfl) rfl rfl (bl rfl) ?_
  refine TrL.v (v_arith rfl rfl rfl ar_and_u64) rfl rfl (bl rfl) ?_
  refine TrL.v (v_assign rfl rfl) rfl rfl (bl rfl) ?_
  refine TrL.nil (qthen_n ?_)
  refine Tr.seq ?_
  refine Tr.region ?_
  refine TrL.v (v_move rfl rfl) rfl rfl (bl rfl) ?_
  refine TrL.v (v_shr' rfl rfl rfl (by decide) rfl) rfl rfl (bl rfl) ?_
  refine TrL.v (v_assign rfl rfl) rfl rfl (bl rfl) ?_
  refine TrL.nil (qthen_n ?_)
  refine Tr.seq ?_
  refine Tr.region ?_
  refine TrL.v (v_move rfl rfl) rfl rfl (bl rfl) ?_
  refine TrL.v (v_arith rfl rfl rfl ar_and_u64) rfl rfl (bl rfl) ?_
  refine TrL.v (v_assign rfl rfl) rfl rfl (bl rfl) ?_
  refine TrL.nil (qthen_n ?_)
  refine Tr.seq ?_
  refine Tr.region ?_
  refine TrL.v (v_move rfl rfl) rfl rfl (bl rfl) ?_
  refine TrL.v (v_shr' rfl rfl rfl (by decide) rfl) rfl rfl (bl rfl) ?_
  refine TrL.v (v_assign rfl rfl) rfl rfl (bl rfl) ?_
  refine TrL.nil (qthen_n ?_)
  refine Tr.seq ?_
  refine Tr.region ?_
  refine TrL.v (v_move rfl rfl) rfl rfl (bl rfl) ?_
  refine TrL.v (v_move rfl rfl) rfl rfl (bl rfl) ?_
  refine TrL.v (v_arith rfl rfl rfl ar_mul_u64) rfl rfl (bl rfl) ?_
  refine TrL.v (v_assign rfl rfl) rfl rfl (bl rfl) ?_
  refine TrL.nil (qthen_n ?_)
  refine Tr.seq ?_
  refine Tr.region ?_
  refine TrL.v (v_move rfl rfl) rfl rfl (bl rfl) ?_
  refine TrL.v (v_move rfl rfl) rfl rfl (bl rfl) ?_
  refine TrL.v (v_arith rfl rfl rfl ar_mul_u64) rfl rfl (bl rfl) ?_
  refine TrL.v (v_move rfl rfl) rfl rfl (bl rfl) ?_
  refine TrL.v (v_shr' rfl rfl rfl (by decide) rfl) rfl rfl (bl rfl) ?_
  refine TrL.v (v_arith rfl rfl rfl ar_add_u64) rfl rfl (bl rfl) ?_
  refine TrL.v (v_assign rfl rfl) rfl rfl (bl rfl) ?_
  refine TrL.nil (qthen_n ?_)
  refine Tr.seq ?_
  refine Tr.region ?_
  refine TrL.v (v_move rfl rfl) rfl rfl (bl rfl) ?_
  refine TrL.v (v_arith rfl rfl rfl ar_and_u64) rfl rfl (bl rfl) ?_
  refine TrL.v (v_assign rfl rfl) rfl rfl (bl rfl) ?_
  refine TrL.nil (qthen_n ?_)
  refine Tr.seq ?_
  refine Tr.region ?_
  refine TrL.v (v_move rfl rfl) rfl rfl (bl rfl) ?_
  refine TrL.v (v_shr' rfl rfl rfl (by decide) rfl) rfl rfl (bl rfl) ?_
  refine TrL.v (v_assign rfl rfl) rfl rfl (bl rfl) ?_
  refine TrL.nil (qthen_n ?_)
  refine Tr.seq ?_
  refine Tr.region ?_
  refine TrL.v (v_move rfl rfl) rfl rfl (bl rfl) ?_
  refine TrL.v (v_move rfl rfl) rfl rfl (bl rfl) ?_
  refine TrL.v (v_move rfl rfl) rfl rfl (bl rfl) ?_
  refine TrL.v (v_arith rfl rfl rfl ar_mul_u64) rfl rfl (bl rfl) ?_
  refine TrL.v (v_arith rfl rfl rfl ar_add_u64) rfl rfl (bl rfl) ?_
  refine TrL.v (v_assign rfl rfl) rfl rfl (bl rfl) ?_
  refine TrL.nil (qthen_n ?_)
  refine Tr.seq ?_
  refine Tr.region ?_
  refine TrL.v (v_move rfl rfl) rfl rfl (bl rfl) ?_
  refine TrL.v (v_move rfl rfl) rfl rfl (bl rfl) ?_
  refine TrL.v (v_arith rfl rfl rfl ar_mul_u64) rfl rfl (bl rfl) ?_
  refine TrL.v (v_move rfl rfl) rfl rfl (bl rfl) ?_
  refine TrL.v (v_arith rfl rfl rfl ar_add_u64) rfl rfl (bl rfl) ?_
  refine TrL.v (v_move rfl rfl) rfl rfl (bl rfl) ?_
  refine TrL.v (v_shr' rfl rfl rfl (by decide) rfl) rfl rfl (bl rfl) ?_
  refine TrL.v (v_arith rfl rfl rfl ar_add_u64) rfl rfl (bl rfl) ?_
  refine TrL.v (v_assign rfl rfl) rfl rfl (bl rfl) ?_
  refine TrL.nil (qthen_n ?_)
  refine Tr.seq ?_
  refine Tr.region ?_
  refine TrL.v (v_move rfl rfl) rfl rfl (bl rfl) ?_
  refine TrL.v (v_move rfl rfl) rfl rfl (bl rfl) ?_
  refine TrL.v (v_arith rfl rfl rfl ar_mul_u64) rfl rfl (bl rfl) ?_
  refine TrL.v (v_assign rfl rfl) rfl rfl (bl rfl) ?_
  refine TrL.nil (qthen_n ?_)
  have hz := Option.some.inj H
  subst hz
  refine Tr.ret (ret_r ⟨[(4, .int .u64 (wu64 ((wu64 ((wu64 ((shrk 64 p1 32) * (shrk 64 p2 32))) + (shrk 64 (wu64 ((wu64 ((shrk 64 p1 32) * (wu64 (andk 64 p2 4294967295)))) + (shrk 64 (wu64 ((wu64 (andk 64 p1 4294967295)) * (wu64 (andk 64 p2 4294967295)))) 32))) 32))) + (shrk 64 (wu64 ((wu64 (andk 64 (wu64 ((wu64 ((shrk 64 p1 32) * (wu64 (andk 64 p2 4294967295)))) + (shrk 64 (wu64 ((wu64 (andk 64 p1 4294967295)) * (wu64 (andk 64 p2 4294967295)))) 32))) 4294967295)) + (wu64 ((wu64 (andk 64 p1 4294967295)) * (shrk 64 p2 32))))) 32)))), (5, .int .u64 (wu64 (p1 * p2)))], [], [], []⟩ [.int .u64 (wu64 ((wu64 ((wu64 ((shrk 64 p1 32) * (shrk 64 p2 32))) + (shrk 64 (wu64 ((wu64 ((shrk 64 p1 32) * (wu64 (andk 64 p2 4294967295)))) + (shrk 64 (wu64 ((wu64 (andk 64 p1 4294967295)) * (wu64 (andk 64 p2 4294967295)))) 32))) 32))) + (shrk 64 (wu64 ((wu64 (andk 64 (wu64 ((wu64 ((shrk 64 p1 32) * (wu64 (andk 64 p2 4294967295)))) + (shrk 64 (wu64 ((wu64 (andk 64 p1 4294967295)) * (wu64 (andk 64 p2 4294967295)))) 32))) 4294967295)) + (wu64 ((wu64 (andk 64 p1 4294967295)) * (shrk 64 p2 32))))) 32))), .int .u64 (wu64 (p1 * p2))] [] [] (Imp.re _ [] [] (sc rfl (sc rfl sn)) (by decide) rfl rfl rfl) rfl rfl ⟨rfl, rfl, rfl⟩ (.cons (resv_tmp rfl) (.cons (resv_tmp rfl) .nil)))

theorem c_bits_Mul (p1 : Int) (p2 : Int) (r : Unit) (H : bits_Mul p1 p2 = some r) :
    Ctr Try.prog 187 [.int .u64 p1, .int .u64 p2] [] [] (fun ret M' F' => ret = .tuple #[.int .u64 (wu64 ((wu64 ((wu64 ((shrk 64 p1 32) * (shrk 64 p2 32))) + (shrk 64 (wu64 ((wu64 ((shrk 64 p1 32) * (wu64 (andk 64 p2 4294967295)))) + (shrk 64 (wu64 ((wu64 (andk 64 p1 4294967295)) * (wu64 (andk 64 p2 4294967295)))) 32))) 32))) + (shrk 64 (wu64 ((wu64 (andk 64 (wu64 ((wu64 ((shrk 64 p1 32) * (wu64 (andk 64 p2 4294967295)))) + (shrk 64 (wu64 ((wu64 (andk 64 p1 4294967295)) * (wu64 (andk 64 p2 4294967295)))) 32))) 4294967295)) + (wu64 ((wu64 (andk 64 p1 4294967295)) * (shrk 64 p2 32))))) 32))), .int .u64 (wu64 (p1 * p2))] ∧ M' = [] ∧ F' = []) := by
  unfold bits_Mul at H
  refine ctr_ofI (N := 30) Try.func187 rfl Try.ntmps187 rfl (Nat.le_of_ble_eq_true rfl) (fun γ0 w0 => ?_)
  refine Tr.seq ?_
  refine Tr.region ?_
  refine TrL.v (v_assign rfl rfl) rfl rfl (bl rfl) ?_
  refine TrL.v (v_assign rfl rfl) rfl rfl (bl rfl) ?_
  refine TrL.nil (qthen_n ?_)
  refine Tr.seq ?_
  refine Tr.cond_f rfl rfl ?_
  refine Tr.skip (qthen_n ?_)
  refine Tr.seq ?_
  refine Tr.region ?_
  refine TrL.v (v_move rfl rfl) rfl rfl (bl rfl) ?_
  refine TrL.v (v_move rfl rfl) rfl rfl (bl rfl) ?_
  obtain ⟨r2, hr2, H⟩ := bnd H
  refine TrL.cons rfl (op_call0' (vs := [.int .u64 p1, .int .u64 p2]) (cap := []) [] rfl rfl (bl rfl) rfl rfl en190 (c_bits_Mul64 p1 p2 r2 hr2) rfl (fun ret M' F' hR2 => ?_))
  obtain ⟨rfl, rfl, rfl⟩ := hR2
  refine TrL.v (v_move rfl rfl) rfl rfl (bl rfl) ?_
  refine TrL.v (v_extract rfl rfl rfl) rfl rfl (bl rfl) ?_
  refine TrL.v (v_extract rfl rfl rfl) rfl rfl (bl rfl) ?_
  refine TrL.v (v_assign rfl rfl) rfl rfl (bl rfl) ?_
  refine TrL.v (v_assign rfl rfl) rfl rfl (bl rfl) ?_
  refine TrL.nil (qthen_n ?_)
  refine Tr.seq ?_
  refine Tr.region ?_
  refine TrL.v (v_move rfl rfl) rfl rfl (bl rfl) ?_
  refine TrL.v (v_move rfl rfl) rfl rfl (bl rfl) ?_
  refine TrL.v (v_assign rfl rfl) rfl rfl (bl rfl) ?_
  refine TrL.v (v_assign rfl rfl) rfl rfl (bl rfl) ?_
  refine TrL.nil (qthen_n ?_)
  have hz := Option.some.inj H
  subst hz
  refine Tr.ret (ret_r ⟨[(4, .int .u64 (wu64 ((wu64 ((wu64 ((shrk 64 p1 32) * (shrk 64 p2 32))) + (shrk 64 (wu64 ((wu64 ((shrk 64 p1 32) * (wu64 (andk 64 p2 4294967295)))) + (shrk 64 (wu64 ((wu64 (andk 64 p1 4294967295)) * (wu64 (andk 64 p2 4294967295)))) 32))) 32))) + (shrk 64 (wu64 ((wu64 (andk 64 (wu64 ((wu64 ((shrk 64 p1 32) * (wu64 (andk 64 p2 4294967295)))) + (shrk 64 (wu64 ((wu64 (andk 64 p1 4294967295)) * (wu64 (andk 64 p2 4294967295)))) 32))) 4294967295)) + (wu64 ((wu64 (andk 64 p1 4294967295)) * (shrk 64 p2 32))))) 32)))), (5, .int .u64 (wu64 (p1 * p2)))], [], [], []⟩ [.int .u64 (wu64 ((wu64 ((wu64 ((shrk 64 p1 32) * (shrk 64 p2 32))) + (shrk 64 (wu64 ((wu64 ((shrk 64 p1 32) * (wu64 (andk 64 p2 4294967295)))) + (shrk 64 (wu64 ((wu64 (andk 64 p1 4294967295)) * (wu64 (andk 64 p2 4294967295)))) 32))) 32))) + (shrk 64 (wu64 ((wu64 (andk 64 (wu64 ((wu64 ((shrk 64 p1 32) * (wu64 (andk 64 p2 4294967295)))) + (shrk 64 (wu64 ((wu64 (andk 64 p1 4294967295)) * (wu64 (andk 64 p2 4294967295)))) 32))) 4294967295)) + (wu64 ((wu64 (andk 64 p1 4294967295)) * (shrk 64 p2 32))))) 32))), .int .u64 (wu64 (p1 * p2))] [] [] (Imp.re _ [] [] (sc rfl (sc rfl sn)) (by decide) rfl rfl rfl) rfl rfl ⟨rfl, rfl, rfl⟩ (.cons (resv_tmp rfl) (.cons (resv_tmp rfl) .nil)))
end Go.Proofs.Ytbeknohemgjfbaa.W
