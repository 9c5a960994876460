import Derived.Test.YtbeknohemgjfbaaKcv
import Derived.Test.YtbeknohemgjfbaaQcv
import Derived.Test.YtbeknohemgjfbaaWbitsacv
import Derived.Test.YtbeknohemgjfbaaWgridacv
namespace Go.Proofs.Ytbeknohemgjfbaa.W
open Go Go.Proofs Go.Proofs.Ytbeknohemgjfbaa.L Go.Proofs.Ytbeknohemgjfbaa.Pu
set_option linter.unusedVariables false
set_option maxHeartbeats 4000000

theorem c_slices_IndexFunc_Seed (p1 : List (Int × Int)) (A1 : Option Addr) (c1 : Nat) (r : Int) (H : slices_IndexFunc_Seed p1 = some r) :
  Ctr Try.prog 186 [.slice A1 p1.length c1, .func (.func 175) #[] #[]] [] [slF rp_u64_u64 A1 c1 p1] (fun ret M' F' => ret = .int .i64 r ∧ M' = [] ∧ F' = []) := by
 unfold slices_IndexFunc_Seed at H
 refine ctr_ofI (N := 19) Try.func186 rfl Try.ntmps186 rfl (Nat.le_of_ble_eq_true rfl) (fun γ0 w0 => ?_)
 refine Tr.seq ?_
 refine Tr.region ?_
 refine TrL.v (v_assign rfl rfl) rfl rfl (bl rfl) ?_
 refine TrL.nil (qthen_n ?_)
 refine Tr.seq ?_
 refine Tr.seq ?_
 refine Tr.region ?_
 refine TrL.v (v_move rfl rfl) rfl rfl (bl rfl) ?_
 refine TrL.v (v_len rfl sl89 rfl) rfl rfl (bl rfl) ?_
 refine TrL.v (v_move rfl rfl) rfl rfl (bl rfl) ?_
 refine TrL.nil (qthen_n ?_)
 obtain ⟨x2, hx3, H⟩ := bnd H
 refine Tr.cutE (D := Int) (M := Unit) .ret (fun d3 => x2 = .inl d3) (fun d3 m14 => ⟨[(4, .int .i64 d3)], [], [], []⟩) ?_ (fun d3 m14 hd3 => ?_)
 ·refine Tr.cutE (D := Unit) (M := Unit) .normal (fun d4 => x2 = .inr d4) (fun d4 m15 => ⟨[], [], [], []⟩) ?_ (fun d4 m15 hd4 => ?_)
  ·refine Tr.block (Tr.loopI (ι := Unit) (step := slices_IndexFunc_Seed_s0 p1) (fun s5 m11 => ⟨[(0, .slice A1 p1.length c1), (1, .func (.func 175) #[] #[]), (7, .int .i64 ((p1.length : Int))), (8, .int .i64 s5)], [], [slF rp_u64_u64 A1 c1 p1], []⟩) (()) hx3 (Imp.re _ [] [0] (sc rfl (sc rfl (sc rfl (sc rfl sn)))) (by decide) rfl rfl rfl) (fun s5 m11 y2 hy2 hx4 => ?_))
   unfold slices_IndexFunc_Seed_s0 at hy2
   refine Tr.seq ?_
   refine Tr.region ?_
   refine TrL.v (v_arith rfl rfl rfl ar_lss) rfl rfl (bl rfl) ?_
   refine TrL.nil (qthen_n ?_)
   refine Tr.seq ?_
   rcases ifc hy2 with ⟨h11, hy2⟩ | ⟨h11, hy2⟩
   ·refine Tr.cond_t rfl (bt_dec h11) ?_
    refine Tr.skip (qthen_n ?_)
    refine Tr.seq ?_
    refine Tr.block ?_
    refine Tr.seq ?_
    refine Tr.region ?_
    refine TrL.v (v_move rfl rfl) rfl rfl (bl rfl) ?_
    refine TrL.v (v_assign rfl rfl) rfl rfl (bl rfl) ?_
    refine TrL.nil (qthen_n ?_)
    refine Tr.seq ?_
    refine Tr.region ?_
    refine TrL.v (v_move rfl rfl) rfl rfl (bl rfl) ?_
    refine TrL.v (v_move rfl rfl) rfl rfl (bl rfl) ?_
    refine TrL.v (v_move rfl rfl) rfl rfl (bl rfl) ?_
    obtain ⟨z6, hz6, hy2⟩ := bnd hy2
    refine TrL.v (v_indexAddr (k := 0) rfl sl89 ty184 rfl rfl rfl rfl hz6) rfl rfl (bl rfl) ?_
    refine TrL.v (v_loadg (A := A1) (i := s5) (j := 0) (k := 0) rfl ty184 nofun rfl rfl hz6 rfl rfl) rfl rfl (bl rfl) ?_
    obtain ⟨r6, hr6, hy2⟩ := bnd hy2
    refine TrL.cons rfl (op_call0' (vs := [.agg #[.int .u64 z6.1, .int .u64 z6.2]]) (cap := []) [] rfl rfl (bl rfl) rfl rfl en175 (c_grid_New_1 z6 r6 hr6) rfl (fun ret M' F' hR6 => ?_))
    obtain ⟨rfl, rfl, rfl⟩ := hR6
    refine TrL.nil (qthen_n ?_)
    rcases ifc hy2 with ⟨h12, hy2⟩ | ⟨h12, hy2⟩
    ·refine Tr.cond_t rfl h12 ?_
     refine Tr.seq ?_
     refine Tr.region ?_
     refine TrL.v (v_move rfl rfl) rfl rfl (bl rfl) ?_
     refine TrL.v (v_assign rfl rfl) rfl rfl (bl rfl) ?_
     refine TrL.nil (qthen_n ?_)
     have hz := Option.some.inj hy2
     subst hz
     refine Tr.ret (qblock_r (qthen_r (qloop_r (qblock_r (qcut_miss (by simp) (qcut_hit s5 (()) (hx4 _ rfl).symm (Imp.re _ [] [] (sc rfl sn) (by decide) rfl rfl rfl)))))))
    ·refine Tr.cond_f rfl (bf_b h12) ?_
     refine Tr.skip (qblock_n (qthen_n ?_))
     refine Tr.region ?_
     refine TrL.v (v_arith rfl rfl rfl ar_add_i64) rfl rfl (bl rfl) ?_
     refine TrL.v (v_move rfl rfl) rfl rfl (bl rfl) ?_
     have hz := Option.some.inj hy2
     subst hz
     refine TrL.nil (qloop_n (()) (Imp.re _ [] [0] (sc rfl (sc rfl (sc rfl (sc rfl sn)))) (by decide) rfl rfl rfl))
   ·refine Tr.cond_f rfl (bf_dec h11) ?_
    have hz := Option.some.inj hy2
    subst hz
    refine Tr.exit (qthen_x (qloop_x (qblock_hit (qcut_hit (()) (()) (hx4 _ rfl).symm (Imp.re _ [] [] sn (by decide) rfl rfl rfl)))))
  ·subst hd4
   replace H := sumr H
   refine (qcut_miss (by simp) (qthen_n ?_))
   refine Tr.seq ?_
   refine Tr.region ?_
   refine TrL.v (v_assign rfl rfl) rfl rfl (bl rfl) ?_
   refine TrL.nil (qthen_n ?_)
   have hz := Option.some.inj H
   subst hz
   refine Tr.ret (ret_r ⟨[(4, .int .i64 (-1))], [], [], []⟩ [.int .i64 (-1)] [] [] (Imp.re _ [] [] (sc rfl sn) (by decide) rfl rfl rfl) rfl rfl ⟨rfl, rfl, rfl⟩ (.cons (resv_tmp rfl) .nil))
 ·subst hd3
  replace H := suml H
  have hz := Option.some.inj H
  subst hz
  refine (qthen_r (ret_r ⟨[(4, .int .i64 d3)], [], [], []⟩ [.int .i64 d3] [] [] (Imp.re _ [] [] (sc rfl sn) (by decide) rfl rfl rfl) rfl rfl ⟨rfl, rfl, rfl⟩ (.cons (resv_tmp rfl) .nil)))

theorem c_slices_ContainsFunc_Seed (p1 : List (Int × Int)) (A1 : Option Addr) (c1 : Nat) (r : Bool) (H : slices_ContainsFunc_Seed p1 = some r) :
  Ctr Try.prog 174 [.slice A1 p1.length c1, .func (.func 175) #[] #[]] [] [slF rp_u64_u64 A1 c1 p1] (fun ret M' F' => ret = .bool r ∧ M' = [] ∧ F' = []) := by
 unfold slices_ContainsFunc_Seed at H
 refine ctr_ofI (N := 9) Try.func174 rfl Try.ntmps174 rfl (Nat.le_of_ble_eq_true rfl) (fun γ0 w0 => ?_)
 refine Tr.seq ?_
 refine Tr.region ?_
 refine TrL.v (v_assign rfl rfl) rfl rfl (bl rfl) ?_
 refine TrL.nil (qthen_n ?_)
 refine Tr.seq ?_
 refine Tr.region ?_
 refine TrL.v (v_move rfl rfl) rfl rfl (bl rfl) ?_
 refine TrL.v (v_move rfl rfl) rfl rfl (bl rfl) ?_
 obtain ⟨r2, hr2, H⟩ := bnd H
 refine TrL.cons rfl (op_call0' (vs := [.slice A1 p1.length c1, .func (.func 175) #[] #[]]) (cap := []) [0] rfl rfl (bl rfl) rfl rfl en186 (c_slices_IndexFunc_Seed p1 A1 c1 r2 hr2) rfl (fun ret M' F' hR2 => ?_))
 obtain ⟨rfl, rfl, rfl⟩ := hR2
 refine TrL.v (v_arith rfl rfl rfl ar_geq) rfl rfl (bl rfl) ?_
 refine TrL.v (v_assign rfl rfl) rfl rfl (bl rfl) ?_
 refine TrL.nil (qthen_n ?_)
 have hz := Option.some.inj H
 subst hz
 refine Tr.ret (ret_r ⟨[(4, .bool (decide (0 ≤ r2)))], [], [], []⟩ [.bool (decide (0 ≤ r2))] [] [] (Imp.re _ [] [] (sc rfl sn) (by decide) rfl rfl rfl) rfl rfl ⟨rfl, rfl, rfl⟩ (.cons (resv_tmp rfl) .nil))

theorem c_slices_Clone_Seed (p1 : List (Int × Int)) (A1 : Option Addr) (c1 : Nat) (r : List (Int × Int)) (H : slices_Clone_Seed p1 = some r) :
  Ctr Try.prog 177 [.slice A1 p1.length c1] [] [slF rp_u64_u64 A1 c1 p1] (fun ret M' F' => ∃ m : Option Addr × Nat, ret = .slice m.1 r.length m.2 ∧ M' = [] ∧ F' = [slF rp_u64_u64 m.1 m.2 r]) := by
 unfold slices_Clone_Seed at H
 refine ctr_ofI (N := 8) Try.func177 rfl Try.ntmps177 rfl (Nat.le_of_ble_eq_true rfl) (fun γ0 w0 => ?_)
 refine Tr.seq ?_
 refine Tr.region ?_
 refine TrL.v (v_assign rfl rfl) rfl rfl (bl rfl) ?_
 refine TrL.nil (qthen_n ?_)
 refine Tr.seq ?_
 refine Tr.seq ?_
 refine Tr.region ?_
 refine TrL.v (v_move rfl rfl) rfl rfl (bl rfl) ?_
 refine TrL.v (v_slnil rfl Try.underlying89 rfl rfl) rfl rfl (bl rfl) ?_
 refine TrL.nil (qthen_n ?_)
 by_cases hA2 : A1 = none
 ·refine Tr.pure (nil_pre (k := 0) rfl hA2) (fun hx2 => ?_)
  obtain ⟨_, H⟩ := rom H
  rw [hx2] at H
  refine Tr.cond_t rfl (isN hA2) ?_
  refine Tr.seq ?_
  refine Tr.region ?_
  refine TrL.v (v_assign rfl rfl) rfl rfl (bl rfl) ?_
  refine TrL.nil (qthen_n ?_)
  have hz := Option.some.inj H
  subst hz
  refine Tr.ret (qthen_r (ret_r ⟨[(2, .slice none 0 0)], [], [slF rp_u64_u64 none 0 (([] : List (Int × Int)))], []⟩ [.slice none 0 0] [] [] (Imp.addF' _ (nilF rp_u64_u64) (Imp.re _ [] [1] (sc rfl sn) (by decide) rfl rfl rfl)) rfl rfl ⟨((none, 0)), rfl, rfl, rfl⟩ (.cons (resv_tmp rfl) .nil)))
 ·refine Tr.cond_f rfl (isS hA2) ?_
  refine Tr.skip (qthen_n ?_)
  refine Tr.seq ?_
  refine Tr.region ?_
  refine TrL.cons rfl (op_buildSlice' (rp := rp_u64_u64) (xs := []) (vs := []) (out := []) rfl (bl rfl) rfl sl89 ty184 ze184 rfl rfl (by decide) (by decide) rfl (fun γ w hF => rown) (fun A4 => ?_))
  refine TrL.v (v_move rfl rfl) rfl rfl (bl rfl) ?_
  refine TrL.full' (E := 184) (sz := 2) (A := A4) (n := 0) ?_
  obtain ⟨h2, H⟩ := rom H
  refine TrL.cons rfl (op_append' (rp := rp_u64_u64) (xs := ([] : List (Int × Int))) (ys := p1) (k := 0) (kx := 1) (ky := 0) rfl (bl rfl) rfl sl89 ty184 ze184 rfl by184 rfl rfl rfl rfl rfl rfl rfl h2.1 h2.2 (fun A5 c3 o2 => ?_))
  refine TrL.v (v_assign rfl rfl) rfl rfl (bl rfl) ?_
  refine TrL.nil (qthen_n ?_)
  have hz := Option.some.inj H
  subst hz
  refine Tr.ret (ret_r ⟨[(2, .slice A5 p1.length c3)], [], [slF rp_u64_u64 A5 c3 p1], []⟩ [.slice A5 p1.length c3] [] [] (Imp.re _ [] [2] (sc rfl sn) (by decide) rfl rfl rfl) rfl rfl ⟨((A5, c3)), rfl, rfl, rfl⟩ (.cons (resv_tmp rfl) .nil))

theorem c_slices_Repeat_Hist (p1 : List (Int × Int × List (List (Int × Int)))) (p2 : Int) (A1 : Option Addr) (c1 : Nat) (r : List (Int × Int × List (List (Int × Int)))) (H : slices_Repeat_Hist p1 p2 = some r) :
  Ctr Try.prog 178 [.slice A1 p1.length c1, .int .i64 p2] [] [slF rp_i64_i64_LLOu64_u64_C A1 c1 p1] (fun ret M' F' => ∃ m : Option Addr × Nat, ret = .slice m.1 r.length m.2 ∧ M' = [] ∧ F' = [slF rp_i64_i64_LLOu64_u64_C m.1 m.2 r]) := by
 unfold slices_Repeat_Hist at H
 refine ctr_ofI (N := 48) Try.func178 rfl Try.ntmps178 rfl (Nat.le_of_ble_eq_true rfl) (fun γ0 w0 => ?_)
 refine Tr.seq ?_
 refine Tr.region ?_
 refine TrL.v (v_assign rfl rfl) rfl rfl (bl rfl) ?_
 refine TrL.nil (qthen_n ?_)
 refine Tr.seq ?_
 refine Tr.seq ?_
 refine Tr.region ?_
 refine TrL.v (v_move rfl rfl) rfl rfl (bl rfl) ?_
 refine TrL.v (v_arith rfl rfl rfl ar_lss) rfl rfl (bl rfl) ?_
 refine TrL.nil (qthen_n ?_)
 obtain ⟨j4, hj4, H⟩ := bnd H
 refine Tr.cutE (D := Unit) (M := Unit) .normal (fun _d => j4 = _d) (fun j4 m9 => ⟨[(0, .slice A1 p1.length c1), (1, .int .i64 p2)], [], [slF rp_i64_i64_LLOu64_u64_C A1 c1 p1], []⟩) ?_ (fun j4 m9 hd5 => ?_)
 ·rcases ifc hj4 with ⟨h20, hj4⟩ | ⟨h20, hj4⟩
  ·refine Tr.cond_t rfl (bt_dec h20) ?_
   refine Tr.region ?_
   cases hj4
  ·refine Tr.cond_f rfl (bf_dec h20) ?_
   refine Tr.skip (qcut_hit (()) (()) (Option.some.inj hj4).symm (Imp.re _ [] [0] (sc rfl (sc rfl sn)) (by decide) rfl rfl rfl))
 ·subst hd5
  refine (qthen_n ?_)
  refine Tr.seq ?_
  refine Tr.region ?_
  refine TrL.v (v_move rfl rfl) rfl rfl (bl rfl) ?_
  refine TrL.v (v_len rfl sl266 rfl) rfl rfl (bl rfl) ?_
  refine TrL.v (v_conv' rfl ⟨_, Try.underlying3⟩ Try.underlying231 rfl wrap_u64') rfl rfl (bl rfl) ?_
  refine TrL.v (v_move rfl rfl) rfl rfl (bl rfl) ?_
  refine TrL.v (v_conv' rfl ⟨_, Try.underlying3⟩ Try.underlying231 rfl wrap_u64') rfl rfl (bl rfl) ?_
  obtain ⟨r2, hr2, H⟩ := bnd H
  refine TrL.cons rfl (op_call0' (vs := [.int .u64 (wu64 ((p1.length : Int))), .int .u64 (wu64 p2)]) (cap := []) [] rfl rfl (bl rfl) rfl rfl en187 (c_bits_Mul (wu64 ((p1.length : Int))) (wu64 p2) r2 hr2) rfl (fun ret M' F' hR2 => ?_))
  obtain ⟨rfl, rfl, rfl⟩ := hR2
  refine TrL.v (v_move rfl rfl) rfl rfl (bl rfl) ?_
  refine TrL.v (v_extract rfl rfl rfl) rfl rfl (bl rfl) ?_
  refine TrL.v (v_extract rfl rfl rfl) rfl rfl (bl rfl) ?_
  refine TrL.v (v_assign rfl rfl) rfl rfl (bl rfl) ?_
  refine TrL.v (v_assign rfl rfl) rfl rfl (bl rfl) ?_
  refine TrL.nil (qthen_n ?_)
  refine Tr.seq ?_
  refine Tr.seq ?_
  obtain ⟨j5, hj5, H⟩ := bnd H
  refine Tr.cutE (D := Bool) (M := Unit) .normal (fun _d => j5 = _d) (fun j5 m11 => ⟨[(0, .slice A1 p1.length c1), (6, .int .u64 (wu64 ((wu64 ((p1.length : Int))) * (wu64 p2)))), (26, .bool j5)], [], [slF rp_i64_i64_LLOu64_u64_C A1 c1 p1], []⟩) ?_ (fun j5 m11 hd6 => ?_)
  ·refine Tr.region ?_
   refine TrL.v (v_move rfl rfl) rfl rfl (bl rfl) ?_
   refine TrL.v (v_arith rfl rfl rfl ar_gtr) rfl rfl (bl rfl) ?_
   refine TrL.v (v_move rfl rfl) rfl rfl (bl rfl) ?_
   rcases ifc hj5 with ⟨h23, hj5⟩ | ⟨h23, hj5⟩
   ·refine TrL.cons_no rfl rfl rfl (gn_f (bt_dec h23)) rfl (bl rfl) ?_
    refine TrL.cons_no rfl rfl rfl (gn_f (bt_dec h23)) rfl (bl rfl) ?_
    refine TrL.v (v_pick_t rfl rfl (bt_dec h23) rfl) rfl rfl (bl rfl) ?_
    refine TrL.nil (qcut_hit true (()) (Option.some.inj hj5).symm (Imp.re _ [] [0] (sc rfl (sc rfl (sc rfl sn))) (by decide) rfl rfl rfl))
   ·refine TrL.cons_yes rfl rfl rfl (bf_dec h23) (OpTr.v (v_move rfl rfl) rfl (bl rfl) ?_)
    refine TrL.cons_yes rfl rfl rfl (bf_dec h23) (OpTr.v (v_arith rfl rfl rfl ar_gtr) rfl (bl rfl) ?_)
    refine TrL.v (v_pick_f rfl rfl (bf_dec h23) rfl) rfl rfl (bl rfl) ?_
    refine TrL.nil (qcut_hit (decide (9223372036854775807 < (wu64 ((wu64 ((p1.length : Int))) * (wu64 p2))))) (()) (Option.some.inj hj5).symm (Imp.re _ [] [0] (sc rfl (sc rfl (sc rfl sn))) (by decide) rfl rfl rfl))
  ·subst hd6
   refine (qthen_n ?_)
   obtain ⟨j6, hj6, H⟩ := bnd H
   refine Tr.cutE (D := Unit) (M := Unit) .normal (fun _d => j6 = _d) (fun j6 m12 => ⟨[(0, .slice A1 p1.length c1), (6, .int .u64 (wu64 ((wu64 ((p1.length : Int))) * (wu64 p2))))], [], [slF rp_i64_i64_LLOu64_u64_C A1 c1 p1], []⟩) ?_ (fun j6 m12 hd7 => ?_)
   ·rcases ifc hj6 with ⟨h25, hj6⟩ | ⟨h25, hj6⟩
    ·refine Tr.cond_t rfl h25 ?_
     refine Tr.region ?_
     cases hj6
    ·refine Tr.cond_f rfl (bf_b h25) ?_
     refine Tr.skip (qcut_hit (()) (()) (Option.some.inj hj6).symm (Imp.re _ [] [0] (sc rfl (sc rfl sn)) (by decide) rfl rfl rfl))
   ·subst hd7
    refine (qthen_n ?_)
    refine Tr.seq ?_
    refine Tr.region ?_
    refine TrL.v (v_move rfl rfl) rfl rfl (bl rfl) ?_
    refine TrL.v (v_conv' rfl ⟨_, Try.underlying231⟩ Try.underlying3 rfl wrap_i64') rfl rfl (bl rfl) ?_
    obtain ⟨h26, H⟩ := mst H
    obtain ⟨h27, H⟩ := rom H
    refine TrL.cons rfl (op_makeS (rp := rp_i64_i64_LLOu64_u64_C) (n := (wi64 (wu64 ((wu64 ((p1.length : Int))) * (wu64 p2)))).toNat) (z := (((0 : Int), (0 : Int), ([] : List (List (Int × Int)))) : Int × Int × List (List (Int × Int)))) rfl (bl rfl) rfl sl266 ty35 ze35 rfl by35 rfl rfl h26 rfl h27 (fun _ _ => ⟨(none, 0), rfl, (fcc (SlP.empty _ _ _) fcn)⟩) (fun A3 => ?_))
    refine TrL.v (v_assign rfl rfl) rfl rfl (bl rfl) ?_
    refine TrL.nil (qthen_n ?_)
    refine Tr.seq ?_
    refine Tr.region ?_
    refine TrL.v (v_move rfl rfl) rfl rfl (bl rfl) ?_
    refine TrL.v (v_move rfl rfl) rfl rfl (bl rfl) ?_
    refine TrL.cons rfl (op_copyG (l := 0) (zs := p1) (k := 0) rfl (bl rfl) rfl sl266 ty35 rfl (.inl ⟨rfl, rfl⟩) rfl rfl rfl (fun _ => by omega) (src_fact (ky := 0) rfl) ?_)
    refine TrL.v (v_assign rfl rfl) rfl rfl (bl rfl) ?_
    refine TrL.nil (qthen_n ?_)
    refine Tr.seq ?_
    obtain ⟨x2, hx3, H⟩ := bnd H
    refine Tr.cutE (D := List (Int × Int × List (List (Int × Int)))) (M := Unit) .normal (fun _d => x2 = _d) (fun x2 m16 => ⟨[(7, .slice A3 ((wi64 (wu64 ((wu64 ((p1.length : Int))) * (wu64 p2)))).toNat) ((wi64 (wu64 ((wu64 ((p1.length : Int))) * (wu64 p2)))).toNat))], [arr rp_i64_i64_LLOu64_u64_C 35 A3 ((wi64 (wu64 ((wu64 ((p1.length : Int))) * (wu64 p2)))).toNat) ((wi64 (wu64 ((wu64 ((p1.length : Int))) * (wu64 p2)))).toNat) x2], [], []⟩) ?_ (fun x2 m16 hd8 => ?_)
    ·refine Tr.block (Tr.loopI (ι := Unit) (step := slices_Repeat_Hist_s0 p1 p2) (fun s5 m14 => ⟨[(7, .slice A3 ((wi64 (wu64 ((wu64 ((p1.length : Int))) * (wu64 p2)))).toNat) ((wi64 (wu64 ((wu64 ((p1.length : Int))) * (wu64 p2)))).toNat)), (8, .int .i64 s5.2)], [arr rp_i64_i64_LLOu64_u64_C 35 A3 ((wi64 (wu64 ((wu64 ((p1.length : Int))) * (wu64 p2)))).toNat) ((wi64 (wu64 ((wu64 ((p1.length : Int))) * (wu64 p2)))).toNat) s5.1], [], []⟩) (()) hx3 (Imp.re _ [0] [] (sc rfl (sc rfl sn)) (by decide) rfl rfl rfl) (fun s5 m14 y2 hy2 hx4 => ?_))
     unfold slices_Repeat_Hist_s0 at hy2
     refine Tr.seq ?_
     refine Tr.seq ?_
     refine Tr.region ?_
     refine TrL.v (v_move rfl rfl) rfl rfl (bl rfl) ?_
     refine TrL.v (v_move rfl rfl) rfl rfl (bl rfl) ?_
     refine TrL.v (v_lenA (k := 0) rfl sl266 rfl rfl) rfl rfl (bl rfl) ?_
     refine TrL.v (v_arith rfl rfl rfl ar_lss) rfl rfl (bl rfl) ?_
     refine TrL.nil (qthen_n ?_)
     rcases ifc hy2 with ⟨h34, hy2⟩ | ⟨h34, hy2⟩
     ·refine Tr.cond_t rfl (bt_dec h34) ?_
      refine Tr.skip (qthen_n ?_)
      refine Tr.block ?_
      refine Tr.regionD drawn (fun hok => ?_)
      refine TrAny.prom (i := 0) (d := 38) hok (OpVal.plain rfl rfl (v_move rfl rfl)) (by kernel_rfl) rfl (bl rfl) ?_
      clear hok
      intro hok
      refine TrAny.prom (i := 1) (d := 39) hok (OpVal.plain rfl rfl (v_move rfl rfl)) (by kernel_rfl) rfl (bl rfl) ?_
      clear hok
      intro hok
      refine TrAny.prom (i := 2) (d := 40) hok (OpVal.plain rfl rfl (v_move rfl rfl)) (by kernel_rfl) rfl (bl rfl) ?_
      clear hok
      intro hok
      obtain ⟨h36, hy2⟩ := mst hy2
      refine TrAny.prom (i := 3) (d := 41) hok (OpVal.plain rfl rfl (v_viewLo (k := 0) rfl sl266 ty35 rfl rfl rfl h36)) (by kernel_rfl) rfl (bl rfl) ?_
      clear hok
      intro hok
      refine TrAny.prom (i := 4) (d := 42) hok (OpVal.plain rfl rfl (v_move rfl rfl)) (by kernel_rfl) rfl (bl rfl) ?_
      clear hok
      intro hok
      refine TrAny.prom (i := 5) (d := 43) hok (OpVal.plain rfl rfl (v_move rfl rfl)) (by kernel_rfl) rfl (bl rfl) ?_
      clear hok
      intro hok
      refine TrAny.prom (i := 6) (d := 44) hok (OpVal.plain rfl rfl (v_viewHi (k := 0) rfl sl266 ty35 rfl rfl rfl h36)) (by kernel_rfl) rfl (bl rfl) ?_
      clear hok
      intro hok
      refine TrAny.next (j := 7) (by kernel_rfl) hok rfl (by kernel_rfl) (op_copyG (l := s5.2.toNat) (zs := s5.1.take s5.2.toNat) (k := 0) rfl (bl rfl) rfl sl266 ty35 rfl (.inr rfl) rfl rfl rfl (fun hn => by have := h36; omega) (src_head (k := 0) (m := s5.2.toNat) rfl) ?_)
      refine nxp hok (kp_all (ac (.inr (OpVal.plain rfl rfl (v_move rfl rfl))) (ac (.inr (OpVal.plain rfl rfl (v_move rfl rfl))) (ac (.inr (OpVal.plain rfl rfl (v_move rfl rfl))) (ac (.inl (by kernel_rfl)) (ac (.inr (OpVal.plain rfl rfl (v_move rfl rfl))) (ac (.inr (OpVal.plain rfl rfl (v_move rfl rfl))) (ac (.inl (by kernel_rfl)) an)))))))) rfl (by kernel_rfl) ?_
      clear hok
      intro hok
      refine TrAny.prom (i := 8) (d := 46) hok (OpVal.plain rfl rfl (v_arith rfl rfl rfl ar_add_i64)) (by kernel_rfl) rfl (bl rfl) ?_
      clear hok
      intro hok
      refine TrAny.next (j := 9) (by kernel_rfl) hok rfl (by kernel_rfl) (OpTr.v (v_assign rfl rfl) rfl (bl rfl) ?_)
      refine nxp hok (kp_aw (by kernel_rfl)) rfl (by kernel_rfl) ?_
      clear hok
      intro hok
      have hz := Option.some.inj hy2
      subst hz
      refine TrAny.done (by kernel_rfl) (by kernel_rfl) hok (by kernel_rfl) (qblock_n (qloop_n (()) (Imp.re _ [0] [] (sc rfl (sc rfl sn)) (by decide) rfl rfl rfl)))
     ·refine Tr.cond_f rfl (bf_dec h34) ?_
      have hz := Option.some.inj hy2
      subst hz
      refine Tr.exit (qthen_x (qloop_x (qblock_hit (qcut_hit s5.1 (()) (hx4 _ rfl).symm (Imp.re _ [0] [] (sc rfl sn) (by decide) rfl rfl rfl)))))
    ·subst hd8
     refine (qthen_n ?_)
     refine Tr.seq ?_
     refine Tr.region ?_
     refine TrL.v (v_move rfl rfl) rfl rfl (bl rfl) ?_
     refine TrL.v (v_assign rfl rfl) rfl rfl (bl rfl) ?_
     refine TrL.nil (qthen_n ?_)
     refine Tr.renormF (fun nn => ⟨[(4, .slice A3 nn ((wi64 (wu64 ((wu64 ((p1.length : Int))) * (wu64 p2)))).toNat)), (7, .slice A3 nn ((wi64 (wu64 ((wu64 ((p1.length : Int))) * (wu64 p2)))).toNat)), (47, .slice A3 nn ((wi64 (wu64 ((wu64 ((p1.length : Int))) * (wu64 p2)))).toNat))], [arr rp_i64_i64_LLOu64_u64_C 35 A3 nn ((wi64 (wu64 ((wu64 ((p1.length : Int))) * (wu64 p2)))).toNat) x2], [], []⟩) 0 (Imp.re _ [0] [] (sc rfl (sc rfl (sc rfl sn))) (by decide) rfl rfl rfl) rfl ?_
     refine Tr.shut' 0 rfl ?_
     have hz := Option.some.inj H
     subst hz
     refine Tr.ret (ret_r ⟨[(4, .slice A3 x2.length ((wi64 (wu64 ((wu64 ((p1.length : Int))) * (wu64 p2)))).toNat))], [], [slF rp_i64_i64_LLOu64_u64_C A3 ((wi64 (wu64 ((wu64 ((p1.length : Int))) * (wu64 p2)))).toNat) x2], []⟩ [.slice A3 x2.length ((wi64 (wu64 ((wu64 ((p1.length : Int))) * (wu64 p2)))).toNat)] [] [] (Imp.re _ [] [0] (sc rfl sn) (by decide) rfl rfl rfl) rfl rfl ⟨((A3, (wi64 (wu64 ((wu64 ((p1.length : Int))) * (wu64 p2)))).toNat)), rfl, rfl, rfl⟩ (.cons (resv_tmp rfl) .nil))

theorem c_slices_Equal_Seed (p1 : List (Int × Int)) (p2 : List (Int × Int)) (A1 : Option Addr) (c1 : Nat) (A2 : Option Addr) (c2 : Nat) (r : Bool) (H : slices_Equal_Seed p1 p2 = some r) :
  Ctr Try.prog 114 [.slice A1 p1.length c1, .slice A2 p2.length c2] [] [slF rp_u64_u64 A1 c1 p1, slF rp_u64_u64 A2 c2 p2] (fun ret M' F' => ret = .bool r ∧ M' = [] ∧ F' = []) := by
 unfold slices_Equal_Seed at H
 refine ctr_ofI (N := 26) Try.func114 rfl Try.ntmps114 rfl (Nat.le_of_ble_eq_true rfl) (fun γ0 w0 => ?_)
 refine Tr.seq ?_
 refine Tr.region ?_
 refine TrL.v (v_assign rfl rfl) rfl rfl (bl rfl) ?_
 refine TrL.nil (qthen_n ?_)
 refine Tr.seq ?_
 refine Tr.seq ?_
 refine Tr.region ?_
 refine TrL.v (v_move rfl rfl) rfl rfl (bl rfl) ?_
 refine TrL.v (v_len rfl sl89 rfl) rfl rfl (bl rfl) ?_
 refine TrL.v (v_move rfl rfl) rfl rfl (bl rfl) ?_
 refine TrL.v (v_len rfl sl89 rfl) rfl rfl (bl rfl) ?_
 refine TrL.v (v_arith rfl rfl rfl ar_neq) rfl rfl (bl rfl) ?_
 refine TrL.nil (qthen_n ?_)
 rcases ifc H with ⟨h8, H⟩ | ⟨h8, H⟩
 ·refine Tr.cond_t rfl (bt_dec h8) ?_
  refine Tr.seq ?_
  refine Tr.region ?_
  refine TrL.v (v_assign rfl rfl) rfl rfl (bl rfl) ?_
  refine TrL.nil (qthen_n ?_)
  have hz := Option.some.inj H
  subst hz
  refine Tr.ret (qthen_r (ret_r ⟨[(4, .bool false)], [], [], []⟩ [.bool false] [] [] (Imp.re _ [] [] (sc rfl sn) (by decide) rfl rfl rfl) rfl rfl ⟨rfl, rfl, rfl⟩ (.cons (resv_tmp rfl) .nil)))
 ·refine Tr.cond_f rfl (bf_dec h8) ?_
  refine Tr.skip (qthen_n ?_)
  refine Tr.seq ?_
  refine Tr.seq ?_
  refine Tr.region ?_
  refine TrL.v (v_move rfl rfl) rfl rfl (bl rfl) ?_
  refine TrL.v (v_len rfl sl89 rfl) rfl rfl (bl rfl) ?_
  refine TrL.v (v_move rfl rfl) rfl rfl (bl rfl) ?_
  refine TrL.nil (qthen_n ?_)
  obtain ⟨x2, hx3, H⟩ := bnd H
  refine Tr.cutE (D := Unit) (M := Unit) .ret (fun d3 => x2 = .inl d3) (fun d3 m9 => ⟨[(4, .bool false)], [], [], []⟩) ?_ (fun d3 m9 hd3 => ?_)
  ·refine Tr.cutE (D := Unit) (M := Unit) .normal (fun d4 => x2 = .inr d4) (fun d4 m10 => ⟨[], [], [], []⟩) ?_ (fun d4 m10 hd4 => ?_)
   ·refine Tr.block (Tr.loopI (ι := Unit) (step := slices_Equal_Seed_s0 p1 p2) (fun s5 m7 => ⟨[(0, .slice A1 p1.length c1), (1, .slice A2 p2.length c2), (12, .int .i64 ((p1.length : Int))), (13, .int .i64 s5)], [], [slF rp_u64_u64 A1 c1 p1, slF rp_u64_u64 A2 c2 p2], []⟩) (()) hx3 (Imp.re _ [] [0, 1] (sc rfl (sc rfl (sc rfl (sc rfl sn)))) (by decide) rfl rfl rfl) (fun s5 m7 y2 hy2 hx4 => ?_))
    unfold slices_Equal_Seed_s0 at hy2
    refine Tr.seq ?_
    refine Tr.region ?_
    refine TrL.v (v_arith rfl rfl rfl ar_lss) rfl rfl (bl rfl) ?_
    refine TrL.nil (qthen_n ?_)
    refine Tr.seq ?_
    rcases ifc hy2 with ⟨h13, hy2⟩ | ⟨h13, hy2⟩
    ·refine Tr.cond_t rfl (bt_dec h13) ?_
     refine Tr.skip (qthen_n ?_)
     refine Tr.seq ?_
     refine Tr.block ?_
     refine Tr.seq ?_
     refine Tr.region ?_
     refine TrL.v (v_move rfl rfl) rfl rfl (bl rfl) ?_
     refine TrL.v (v_assign rfl rfl) rfl rfl (bl rfl) ?_
     refine TrL.nil (qthen_n ?_)
     refine Tr.seq ?_
     refine Tr.regionD drawn (fun hok => ?_)
     refine TrAny.prom (i := 0) (d := 16) hok (OpVal.plain rfl rfl (v_move rfl rfl)) (by kernel_rfl) rfl (bl rfl) ?_
     clear hok
     intro hok
     refine TrAny.prom (i := 1) (d := 17) hok (OpVal.plain rfl rfl (v_move rfl rfl)) (by kernel_rfl) rfl (bl rfl) ?_
     clear hok
     intro hok
     obtain ⟨z23, hz23, hy2⟩ := bnd hy2
     refine TrAny.prom (i := 2) (d := 18) hok (OpVal.plain rfl rfl (v_indexAddr (k := 0) rfl sl89 ty184 rfl rfl rfl rfl hz23)) (by kernel_rfl) rfl (bl rfl) ?_
     clear hok
     intro hok
     refine TrAny.prom (i := 3) (d := 19) hok (OpVal.plain rfl rfl (v_loadg (A := A1) (i := s5) (j := 0) (k := 0) rfl ty184 nofun rfl rfl hz23 rfl rfl)) (by kernel_rfl) rfl (bl rfl) ?_
     clear hok
     intro hok
     refine TrAny.prom (i := 4) (d := 20) hok (OpVal.plain rfl rfl (v_move rfl rfl)) (by kernel_rfl) rfl (bl rfl) ?_
     clear hok
     intro hok
     refine TrAny.prom (i := 5) (d := 21) hok (OpVal.plain rfl rfl (v_move rfl rfl)) (by kernel_rfl) rfl (bl rfl) ?_
     clear hok
     intro hok
     obtain ⟨z24, hz24, hy2⟩ := bnd hy2
     refine TrAny.prom (i := 6) (d := 22) hok (OpVal.plain rfl rfl (v_indexAddr (k := 1) rfl sl89 ty184 rfl rfl rfl rfl hz24)) (by kernel_rfl) rfl (bl rfl) ?_
     clear hok
     intro hok
     refine TrAny.prom (i := 7) (d := 23) hok (OpVal.plain rfl rfl (v_loadg (A := A2) (i := s5) (j := 0) (k := 1) rfl ty184 nofun rfl rfl hz24 rfl rfl)) (by kernel_rfl) rfl (bl rfl) ?_
     clear hok
     intro hok
     refine TrAny.prom (i := 8) (d := 24) hok (OpVal.plain rfl rfl (v_nes rfl if184 eg184 rfl rfl (eqc_cons rfl rfl (eqc_cons rfl rfl eqc_nil)))) (by kernel_rfl) rfl (bl rfl) ?_
     clear hok
     intro hok
     refine TrAny.done (by kernel_rfl) (by kernel_rfl) hok (by kernel_rfl) (qthen_n ?_)
     rcases ifc hy2 with ⟨h14, hy2⟩ | ⟨h14, hy2⟩
     ·refine Tr.cond_t rfl (bt_dec h14) ?_
      refine Tr.seq ?_
      refine Tr.region ?_
      refine TrL.v (v_assign rfl rfl) rfl rfl (bl rfl) ?_
      refine TrL.nil (qthen_n ?_)
      have hz := Option.some.inj hy2
      subst hz
      refine Tr.ret (qblock_r (qthen_r (qloop_r (qblock_r (qcut_miss (by simp) (qcut_hit (()) (()) (hx4 _ rfl).symm (Imp.re _ [] [] (sc rfl sn) (by decide) rfl rfl rfl)))))))
     ·refine Tr.cond_f rfl (bf_dec h14) ?_
      refine Tr.skip (qblock_n (qthen_n ?_))
      refine Tr.region ?_
      refine TrL.v (v_arith rfl rfl rfl ar_add_i64) rfl rfl (bl rfl) ?_
      refine TrL.v (v_move rfl rfl) rfl rfl (bl rfl) ?_
      have hz := Option.some.inj hy2
      subst hz
      refine TrL.nil (qloop_n (()) (Imp.re _ [] [0, 1] (sc rfl (sc rfl (sc rfl (sc rfl sn)))) (by decide) rfl rfl rfl))
    ·refine Tr.cond_f rfl (bf_dec h13) ?_
     have hz := Option.some.inj hy2
     subst hz
     refine Tr.exit (qthen_x (qloop_x (qblock_hit (qcut_hit (()) (()) (hx4 _ rfl).symm (Imp.re _ [] [] sn (by decide) rfl rfl rfl)))))
   ·subst hd4
    replace H := sumr H
    refine (qcut_miss (by simp) (qthen_n ?_))
    refine Tr.seq ?_
    refine Tr.region ?_
    refine TrL.v (v_assign rfl rfl) rfl rfl (bl rfl) ?_
    refine TrL.nil (qthen_n ?_)
    have hz := Option.some.inj H
    subst hz
    refine Tr.ret (ret_r ⟨[(4, .bool true)], [], [], []⟩ [.bool true] [] [] (Imp.re _ [] [] (sc rfl sn) (by decide) rfl rfl rfl) rfl rfl ⟨rfl, rfl, rfl⟩ (.cons (resv_tmp rfl) .nil))
  ·subst hd3
   replace H := suml H
   have hz := Option.some.inj H
   subst hz
   refine (qthen_r (ret_r ⟨[(4, .bool false)], [], [], []⟩ [.bool false] [] [] (Imp.re _ [] [] (sc rfl sn) (by decide) rfl rfl rfl) rfl rfl ⟨rfl, rfl, rfl⟩ (.cons (resv_tmp rfl) .nil)))
end Go.Proofs.Ytbeknohemgjfbaa.W
