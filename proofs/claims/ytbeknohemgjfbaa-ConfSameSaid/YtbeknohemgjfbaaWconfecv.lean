import Derived.Test.YtbeknohemgjfbaaKcv
import Derived.Test.YtbeknohemgjfbaaQcv
import Derived.Test.YtbeknohemgjfbaaWcodecacv
import Derived.Test.YtbeknohemgjfbaaWconfbcv
import Derived.Test.YtbeknohemgjfbaaWconfccv
import Derived.Test.YtbeknohemgjfbaaWconfdcv
import Derived.Test.YtbeknohemgjfbaaWtopacv
namespace Go.Proofs.Ytbeknohemgjfbaa.W
open Go Go.Proofs Go.Proofs.Ytbeknohemgjfbaa.L Go.Proofs.Ytbeknohemgjfbaa.Pu
set_option linter.unusedVariables false
set_option maxHeartbeats 4000000

theorem c_conf_Check_3 (p1 : Int × Int × Int × Int × Int × Int × (List (Int × Int)) × Int × Int) (A1 : Option Addr) (c1 : Nat) (r : Int) (H : conf_Check_3 p1 = some r) :
  Ctr Try.prog 100 [.agg #[.int .i64 p1.1, .int .i64 p1.2.1, .int .u64 p1.2.2.1, .int .u64 p1.2.2.2.1, .int .i64 p1.2.2.2.2.1, .int .i64 p1.2.2.2.2.2.1, .slice A1 p1.2.2.2.2.2.2.1.length c1, .int .i64 p1.2.2.2.2.2.2.2.1, .int .i64 p1.2.2.2.2.2.2.2.2]] [] [slF rp_u64_u64 A1 c1 p1.2.2.2.2.2.2.1] (fun ret M' F' => ret = .int .i64 r ∧ M' = [] ∧ F' = []) := by
 unfold conf_Check_3 at H
 refine ctr_ofI (N := 21) Try.func100 rfl Try.ntmps100 rfl (Nat.le_of_ble_eq_true rfl) (fun γ0 w0 => ?_)
 refine Tr.seq ?_
 refine Tr.region ?_
 refine TrL.cons rfl (op_box' rfl (bl rfl) rfl rfl rfl (fun b3 => ?_))
 refine TrL.v (v_assign rfl rfl) rfl rfl (bl rfl) ?_
 refine TrL.nil (qthen_n ?_)
 refine Tr.seq ?_
 refine Tr.seq ?_
 refine Tr.region ?_
 refine TrL.v (v_fieldAddr' rfl fo91_1 rfl rfl) rfl rfl (bl rfl) ?_
 refine TrL.v (v_load (k := 0) rfl rfl rfl ty3 (fun _ => rfl) rfl rfl) rfl rfl (bl rfl) ?_
 refine TrL.v (v_fieldAddr' rfl fo91_5 rfl rfl) rfl rfl (bl rfl) ?_
 refine TrL.v (v_load (k := 0) rfl rfl rfl ty3 (fun _ => rfl) rfl rfl) rfl rfl (bl rfl) ?_
 refine TrL.v (v_fieldAddr' rfl fo91_6 rfl rfl) rfl rfl (bl rfl) ?_
 refine TrL.v (v_load (k := 0) rfl rfl rfl ty89 (fun _ => rfl) rfl rfl) rfl rfl (bl rfl) ?_
 refine TrL.v (v_len rfl sl89 rfl) rfl rfl (bl rfl) ?_
 refine TrL.cons rfl (op_buildSlice' (rp := (rInt .i64)) (xs := [p1.2.1, p1.2.2.2.2.2.1, (p1.2.2.2.2.2.2.1.length : Int)]) (vs := [.int .i64 p1.2.1, .int .i64 p1.2.2.2.2.2.1, .int .i64 ((p1.2.2.2.2.2.2.1.length : Int))]) (out := [.int .i64 p1.2.1, .int .i64 p1.2.2.2.2.2.1, .int .i64 ((p1.2.2.2.2.2.2.1.length : Int))]) rfl (bl rfl) rfl sl221 ty3 ze3 rfl rfl (by decide) (by decide) rfl (fun γ w hF => (rowc rfl (rowc rfl (rowc rfl rown rfl) rfl) rfl)) (fun A3 => ?_))
 obtain ⟨r3, hr3, H⟩ := bnd H
 refine TrL.cons rfl (op_call0' (vs := [.slice A3 3 3]) (cap := []) [1] rfl rfl (bl rfl) rfl rfl en96 (c_conf_bare ([p1.2.1, p1.2.2.2.2.2.1, (p1.2.2.2.2.2.2.1.length : Int)]) A3 3 r3 hr3) rfl (fun ret M' F' hR3 => ?_))
 obtain ⟨rfl, rfl, rfl⟩ := hR3
 refine TrL.v (v_notd rfl (bdec rfl)) rfl rfl (bl rfl) ?_
 refine TrL.nil (qthen_n ?_)
 rcases ifc H with ⟨h2, H⟩ | ⟨h2, H⟩
 ·refine Tr.cond_t rfl (bt_dec h2) ?_
  refine Tr.seq ?_
  refine Tr.region ?_
  refine TrL.v (v_assign rfl rfl) rfl rfl (bl rfl) ?_
  refine TrL.nil (qthen_n ?_)
  have hz := Option.some.inj H
  subst hz
  refine Tr.ret (qthen_r (ret_r ⟨[(2, .int .i64 9)], [], [], []⟩ [.int .i64 9] [] [] (Imp.re _ [] [] (sc rfl sn) (by decide) rfl rfl rfl) rfl rfl ⟨rfl, rfl, rfl⟩ (.cons (resv_tmp rfl) .nil)))
 ·refine Tr.cond_f rfl (bf_dec h2) ?_
  refine Tr.skip (qthen_n ?_)
  refine Tr.seq ?_
  refine Tr.region ?_
  refine TrL.v (v_load (k := 0) rfl rfl rfl ty91 nofun rfl rfl) rfl rfl (bl rfl) ?_
  obtain ⟨r4, hr4, H⟩ := bnd H
  refine TrL.cons rfl (op_call0' (vs := [.agg #[.int .i64 p1.1, .int .i64 p1.2.1, .int .u64 p1.2.2.1, .int .u64 p1.2.2.2.1, .int .i64 p1.2.2.2.2.1, .int .i64 p1.2.2.2.2.2.1, .slice A1 p1.2.2.2.2.2.2.1.length c1, .int .i64 p1.2.2.2.2.2.2.2.1, .int .i64 p1.2.2.2.2.2.2.2.2]]) (cap := []) [0] rfl rfl (bl rfl) rfl rfl en101 (c_top_New p1 A1 c1 r4 hr4) rfl (fun ret M' F' hR4 => ?_))
  obtain ⟨rfl, rfl, rfl⟩ := hR4
  refine TrL.v (v_move rfl rfl) rfl rfl (bl rfl) ?_
  refine TrL.v (v_extract rfl rfl rfl) rfl rfl (bl rfl) ?_
  refine TrL.v (v_extract rfl rfl rfl) rfl rfl (bl rfl) ?_
  refine TrL.cons rfl (op_alloc' rfl (bl rfl) rfl ze171 (fun b4 => ?_))
  refine TrL.cons rfl (op_store' (k := 0) (c' := [.int .u64 r4.1, .int .i64 r4.2.1, .int .u64 0, .int .u64 0, .slice none 0 0, .int .i64 r4.2.2.1, .int .i64 r4.2.2.2.1, .int .u64 r4.2.2.2.2.1, .slice none 0 0]) rfl rfl rfl rfl rfl ty171 rfl (Nat.le_of_ble_eq_true rfl) (ones (oc rfl (oc rfl (oc rfl (oc rfl (oc rfl (oc rfl (oc rfl (oc rfl (oc rfl on)))))))))) rfl ?_)
  refine TrL.v (v_assign rfl rfl) rfl rfl (bl rfl) ?_
  refine TrL.nil (qthen_n ?_)
  refine Tr.seq ?_
  refine Tr.region ?_
  refine TrL.v (v_move rfl rfl) rfl rfl (bl rfl) ?_
  refine TrL.v (v_assign rfl rfl) rfl rfl (bl rfl) ?_
  refine TrL.nil (qthen_n ?_)
  have hz := Option.some.inj H
  subst hz
  refine Tr.ret (ret_r ⟨[(2, .int .i64 r4.2.2.2.2.2)], [], [], []⟩ [.int .i64 r4.2.2.2.2.2] [] [] (Imp.re _ [] [] (sc rfl sn) (by decide) rfl rfl rfl) rfl rfl ⟨rfl, rfl, rfl⟩ (.cons (resv_tmp rfl) .nil))

theorem c_conf_Check (p1 : Int × Int × Int × Int × Int × Int × (List (Int × Int)) × Int × Int) (A1 : Option Addr) (c1 : Nat) (r : Int) (H : conf_Check p1 = some r) :
  Ctr Try.prog 47 [.agg #[.int .i64 p1.1, .int .i64 p1.2.1, .int .u64 p1.2.2.1, .int .u64 p1.2.2.2.1, .int .i64 p1.2.2.2.2.1, .int .i64 p1.2.2.2.2.2.1, .slice A1 p1.2.2.2.2.2.2.1.length c1, .int .i64 p1.2.2.2.2.2.2.2.1, .int .i64 p1.2.2.2.2.2.2.2.2]] [] [slF rp_u64_u64 A1 c1 p1.2.2.2.2.2.2.1] (fun ret M' F' => ret = .int .i64 r ∧ M' = [] ∧ F' = []) := by
 unfold conf_Check at H
 refine ctr_ofI (N := 16) Try.func47 rfl Try.ntmps47 rfl (Nat.le_of_ble_eq_true rfl) (fun γ0 w0 => ?_)
 refine Tr.seq ?_
 refine Tr.region ?_
 refine TrL.cons rfl (op_box' rfl (bl rfl) rfl rfl rfl (fun b3 => ?_))
 refine TrL.v (v_assign rfl rfl) rfl rfl (bl rfl) ?_
 refine TrL.nil (qthen_n ?_)
 refine Tr.seq ?_
 refine Tr.region ?_
 refine TrL.cons rfl (op_makeMap rfl (bl rfl) rfl (fun b4 => ?_))
 refine TrL.cons rfl (op_insert (k := 0) rfl rfl mp174 Try.underlying3 rfl rfl rfl rfl fnow_end rfl ?_)
 refine TrL.cons rfl (op_insert (k := 0) rfl rfl mp174 Try.underlying3 rfl rfl rfl rfl (fnow_miss (by decide) fnow_end) rfl ?_)
 refine TrL.cons rfl (op_insert (k := 0) rfl rfl mp174 Try.underlying3 rfl rfl rfl rfl (fnow_miss (by decide) (fnow_miss (by decide) fnow_end)) rfl ?_)
 refine TrL.v (v_move rfl rfl) rfl rfl (bl rfl) ?_
 refine TrL.v (v_assign rfl rfl) rfl rfl (bl rfl) ?_
 refine TrL.nil (qthen_n ?_)
 refine Tr.seq ?_
 refine Tr.seq ?_
 refine Tr.region ?_
 refine TrL.v (v_move rfl rfl) rfl rfl (bl rfl) ?_
 refine TrL.v (v_fieldAddr' rfl fo91_0 rfl rfl) rfl rfl (bl rfl) ?_
 refine TrL.v (v_load (k := 1) rfl rfl rfl ty3 (fun _ => rfl) rfl rfl) rfl rfl (bl rfl) ?_
 rcases ifc H with ⟨h4, H⟩ | ⟨h4, H⟩
 ·refine TrL.v (v_lookupI (k := 0) rfl mp174 Try.underlying3 rfl rfl rfl (fnow_hit h4)) rfl rfl (bl rfl) ?_
  refine TrL.v (v_assign rfl rfl) rfl rfl (bl rfl) ?_
  refine TrL.nil (qthen_n ?_)
  refine Tr.seq ?_
  refine Tr.region ?_
  refine TrL.v (v_move rfl rfl) rfl rfl (bl rfl) ?_
  refine TrL.v (v_fnne rfl Try.underlying175 rfl rfl) rfl rfl (bl rfl) ?_
  refine TrL.nil (qthen_n ?_)
  refine Tr.cond_t rfl rfl ?_
  refine Tr.seq ?_
  refine Tr.region ?_
  refine TrL.v (v_move rfl rfl) rfl rfl (bl rfl) ?_
  refine TrL.v (v_load (k := 1) rfl rfl rfl ty91 nofun rfl rfl) rfl rfl (bl rfl) ?_
  obtain ⟨r4, hr4, H⟩ := bnd H
  refine TrL.cons rfl (op_call0' (vs := [.agg #[.int .i64 p1.1, .int .i64 p1.2.1, .int .u64 p1.2.2.1, .int .u64 p1.2.2.2.1, .int .i64 p1.2.2.2.2.1, .int .i64 p1.2.2.2.2.2.1, .slice A1 p1.2.2.2.2.2.2.1.length c1, .int .i64 p1.2.2.2.2.2.2.2.1, .int .i64 p1.2.2.2.2.2.2.2.2]]) (cap := []) [0] rfl rfl (bl rfl) rfl rfl en95 (c_conf_Check_1 p1 A1 c1 r4 hr4) rfl (fun ret M' F' hR4 => ?_))
  obtain ⟨rfl, rfl, rfl⟩ := hR4
  refine TrL.v (v_assign rfl rfl) rfl rfl (bl rfl) ?_
  refine TrL.nil (qthen_n ?_)
  have hz := Option.some.inj H
  subst hz
  refine Tr.ret (qthen_r (ret_r ⟨[(2, .int .i64 r4)], [], [], []⟩ [.int .i64 r4] [] [] (Imp.re _ [] [] (sc rfl sn) (by decide) rfl rfl rfl) rfl rfl ⟨rfl, rfl, rfl⟩ (.cons (resv_tmp rfl) .nil)))
 ·rcases ifc H with ⟨h5, H⟩ | ⟨h5, H⟩
  ·refine TrL.v (v_lookupI (k := 0) rfl mp174 Try.underlying3 rfl rfl rfl (fnow_miss h4 (fnow_hit h5))) rfl rfl (bl rfl) ?_
   refine TrL.v (v_assign rfl rfl) rfl rfl (bl rfl) ?_
   refine TrL.nil (qthen_n ?_)
   refine Tr.seq ?_
   refine Tr.region ?_
   refine TrL.v (v_move rfl rfl) rfl rfl (bl rfl) ?_
   refine TrL.v (v_fnne rfl Try.underlying175 rfl rfl) rfl rfl (bl rfl) ?_
   refine TrL.nil (qthen_n ?_)
   refine Tr.cond_t rfl rfl ?_
   refine Tr.seq ?_
   refine Tr.region ?_
   refine TrL.v (v_move rfl rfl) rfl rfl (bl rfl) ?_
   refine TrL.v (v_load (k := 1) rfl rfl rfl ty91 nofun rfl rfl) rfl rfl (bl rfl) ?_
   obtain ⟨r5, hr5, H⟩ := bnd H
   refine TrL.cons rfl (op_call0' (vs := [.agg #[.int .i64 p1.1, .int .i64 p1.2.1, .int .u64 p1.2.2.1, .int .u64 p1.2.2.2.1, .int .i64 p1.2.2.2.2.1, .int .i64 p1.2.2.2.2.2.1, .slice A1 p1.2.2.2.2.2.2.1.length c1, .int .i64 p1.2.2.2.2.2.2.2.1, .int .i64 p1.2.2.2.2.2.2.2.2]]) (cap := []) [0] rfl rfl (bl rfl) rfl rfl en98 (c_conf_Check_2 p1 A1 c1 r5 hr5) rfl (fun ret M' F' hR5 => ?_))
   obtain ⟨rfl, rfl, rfl⟩ := hR5
   refine TrL.v (v_assign rfl rfl) rfl rfl (bl rfl) ?_
   refine TrL.nil (qthen_n ?_)
   have hz := Option.some.inj H
   subst hz
   refine Tr.ret (qthen_r (ret_r ⟨[(2, .int .i64 r5)], [], [], []⟩ [.int .i64 r5] [] [] (Imp.re _ [] [] (sc rfl sn) (by decide) rfl rfl rfl) rfl rfl ⟨rfl, rfl, rfl⟩ (.cons (resv_tmp rfl) .nil)))
  ·rcases ifc H with ⟨h6, H⟩ | ⟨h6, H⟩
   ·refine TrL.v (v_lookupI (k := 0) rfl mp174 Try.underlying3 rfl rfl rfl (fnow_miss h4 (fnow_miss h5 (fnow_hit h6)))) rfl rfl (bl rfl) ?_
    refine TrL.v (v_assign rfl rfl) rfl rfl (bl rfl) ?_
    refine TrL.nil (qthen_n ?_)
    refine Tr.seq ?_
    refine Tr.region ?_
    refine TrL.v (v_move rfl rfl) rfl rfl (bl rfl) ?_
    refine TrL.v (v_fnne rfl Try.underlying175 rfl rfl) rfl rfl (bl rfl) ?_
    refine TrL.nil (qthen_n ?_)
    refine Tr.cond_t rfl rfl ?_
    refine Tr.seq ?_
    refine Tr.region ?_
    refine TrL.v (v_move rfl rfl) rfl rfl (bl rfl) ?_
    refine TrL.v (v_load (k := 1) rfl rfl rfl ty91 nofun rfl rfl) rfl rfl (bl rfl) ?_
    obtain ⟨r6, hr6, H⟩ := bnd H
    refine TrL.cons rfl (op_call0' (vs := [.agg #[.int .i64 p1.1, .int .i64 p1.2.1, .int .u64 p1.2.2.1, .int .u64 p1.2.2.2.1, .int .i64 p1.2.2.2.2.1, .int .i64 p1.2.2.2.2.2.1, .slice A1 p1.2.2.2.2.2.2.1.length c1, .int .i64 p1.2.2.2.2.2.2.2.1, .int .i64 p1.2.2.2.2.2.2.2.2]]) (cap := []) [0] rfl rfl (bl rfl) rfl rfl en100 (c_conf_Check_3 p1 A1 c1 r6 hr6) rfl (fun ret M' F' hR6 => ?_))
    obtain ⟨rfl, rfl, rfl⟩ := hR6
    refine TrL.v (v_assign rfl rfl) rfl rfl (bl rfl) ?_
    refine TrL.nil (qthen_n ?_)
    have hz := Option.some.inj H
    subst hz
    refine Tr.ret (qthen_r (ret_r ⟨[(2, .int .i64 r6)], [], [], []⟩ [.int .i64 r6] [] [] (Imp.re _ [] [] (sc rfl sn) (by decide) rfl rfl rfl) rfl rfl ⟨rfl, rfl, rfl⟩ (.cons (resv_tmp rfl) .nil)))
   ·refine TrL.v (v_lookupN (k := 0) rfl mp174 Try.underlying3 rfl rfl rfl (fnow_miss h4 (fnow_miss h5 (fnow_miss h6 fnow_end))) zv175) rfl rfl (bl rfl) ?_
    refine TrL.v (v_assign rfl rfl) rfl rfl (bl rfl) ?_
    refine TrL.nil (qthen_n ?_)
    refine Tr.seq ?_
    refine Tr.region ?_
    refine TrL.v (v_move rfl rfl) rfl rfl (bl rfl) ?_
    refine TrL.v (v_nilne rfl Try.underlying175 rfl rfl) rfl rfl (bl rfl) ?_
    refine TrL.nil (qthen_n ?_)
    refine Tr.cond_f rfl rfl ?_
    refine Tr.skip (qthen_n ?_)
    refine Tr.seq ?_
    refine Tr.region ?_
    refine TrL.v (v_assign rfl rfl) rfl rfl (bl rfl) ?_
    refine TrL.nil (qthen_n ?_)
    have hz := Option.some.inj H
    subst hz
    refine Tr.ret (ret_r ⟨[(2, .int .i64 14)], [], [], []⟩ [.int .i64 14] [] [] (Imp.re _ [] [] (sc rfl sn) (by decide) rfl rfl rfl) rfl rfl ⟨rfl, rfl, rfl⟩ (.cons (resv_tmp rfl) .nil))

theorem c_conf_nums (p1 : List Int) (A1 : Option Addr) (c1 : Nat) (r : List Int) (H : conf_nums p1 = some r) :
  Ctr Try.prog 105 [.slice A1 p1.length c1] [] [slF (rInt .i64) A1 c1 p1] (fun ret M' F' => ∃ m : Option Addr × Nat × Option Nat, ret = .slice m.1 r.length m.2.1 ∧ M' = [grow 5 1 (.slice m.1 r.length m.2.1) r.length m.2.2] ∧ F' = [slF (rInt .u8) m.1 m.2.1 r]) := by
 unfold conf_nums at H
 refine ctr_ofI (N := 19) Try.func105 rfl Try.ntmps105 rfl (Nat.le_of_ble_eq_true rfl) (fun γ0 w0 => ?_)
 refine Tr.seq ?_
 refine Tr.region ?_
 refine TrL.v (v_assign rfl rfl) rfl rfl (bl rfl) ?_
 refine TrL.nil (qthen_n ?_)
 refine Tr.seq ?_
 refine Tr.region ?_
 refine TrL.v (v_assign rfl rfl) rfl rfl (bl rfl) ?_
 refine TrL.nil (qthen_n ?_)
 refine Tr.seq ?_
 refine Tr.seq ?_
 refine Tr.region ?_
 refine TrL.v (v_move rfl rfl) rfl rfl (bl rfl) ?_
 refine TrL.v (v_len rfl sl221 rfl) rfl rfl (bl rfl) ?_
 refine TrL.v (v_move rfl rfl) rfl rfl (bl rfl) ?_
 refine TrL.nil (qthen_n ?_)
 obtain ⟨x2, hx3, H⟩ := bnd H
 refine Tr.cutE (D := List Int) (M := Option Addr × Nat × Option Nat) .normal (fun _d => x2 = _d) (fun x2 m13 => ⟨[(3, .slice m13.1 x2.length m13.2.1)], [grow 5 1 (.slice m13.1 x2.length m13.2.1) x2.length m13.2.2], [slF (rInt .u8) m13.1 m13.2.1 x2], []⟩) ?_ (fun x2 m13 hd2 => ?_)
 ·refine Tr.block (Tr.loopI (ι := Option Addr × Nat × Option Nat) (step := conf_nums_s0 p1) (fun s5 m10 => ⟨[(3, .slice m10.1 s5.1.length m10.2.1), (6, .slice A1 p1.length c1), (7, .int .i64 ((p1.length : Int))), (8, .int .i64 s5.2)], [grow 5 1 (.slice m10.1 s5.1.length m10.2.1) s5.1.length m10.2.2], [slF (rInt .u8) m10.1 m10.2.1 s5.1, slF (rInt .i64) A1 c1 p1], []⟩) ((none, 0, none)) hx3 (Imp.full' (E := 5) (sz := 1) (A := none) (n := 0) (Imp.addF' _ (nilF (rInt .u8)) (Imp.re _ [0] [1, 0] (sc rfl (sc rfl (sc rfl (sc rfl sn)))) (by decide) rfl rfl rfl))) (fun s5 m10 y2 hy2 hx4 => ?_))
  unfold conf_nums_s0 at hy2
  refine Tr.seq ?_
  refine Tr.region ?_
  refine TrL.v (v_arith rfl rfl rfl ar_lss) rfl rfl (bl rfl) ?_
  refine TrL.nil (qthen_n ?_)
  refine Tr.seq ?_
  rcases ifc hy2 with ⟨h11, hy2⟩ | ⟨h11, hy2⟩
  ·refine Tr.cond_t rfl (bt_dec h11) ?_
   refine Tr.skip (qthen_n ?_)
   refine Tr.seq ?_
   refine Tr.block ?_
   refine Tr.seq ?_
   refine Tr.region ?_
   obtain ⟨z6, hz6, hy2⟩ := bnd hy2
   refine TrL.v (v_indexAddr (k := 1) rfl sl221 ty3 rfl rfl rfl rfl hz6) rfl rfl (bl rfl) ?_
   refine TrL.v (v_loadg (A := A1) (i := s5.2) (j := 0) (k := 1) rfl ty3 (fun _ => rfl) rfl rfl hz6 rfl rfl) rfl rfl (bl rfl) ?_
   refine TrL.v (v_assign rfl rfl) rfl rfl (bl rfl) ?_
   refine TrL.nil (qthen_n ?_)
   refine Tr.region ?_
   refine TrL.v (v_move rfl rfl) rfl rfl (bl rfl) ?_
   refine TrL.v (v_move rfl rfl) rfl rfl (bl rfl) ?_
   refine TrL.v (v_conv' rfl ⟨_, Try.underlying3⟩ Try.underlying28 rfl wrap_u64') rfl rfl (bl rfl) ?_
   obtain ⟨r6, hr6, hy2⟩ := bnd hy2
   refine TrL.cons rfl (op_call0' (vs := [.int .u64 (wu64 z6)]) (cap := []) [] rfl rfl (bl rfl) rfl rfl en65 (c_codec_Num (wu64 z6) r6 hr6) rfl (fun ret M' F' hR6 => ?_))
   obtain ⟨m14, rfl, rfl, rfl⟩ := hR6
   obtain ⟨h12, hy2⟩ := rom hy2
   refine TrL.cons rfl (op_append' (rp := (rInt .u8)) (xs := s5.1) (ys := r6) (k := 1) (kx := 0) (ky := 2) rfl (bl rfl) rfl sl40 ty5 ze5 rfl by5 rfl rfl rfl rfl rfl rfl rfl h12.1 h12.2 (fun A7 c7 o6 => ?_))
   refine TrL.v (v_assign rfl rfl) rfl rfl (bl rfl) ?_
   refine TrL.nil (qblock_n (qthen_n ?_))
   refine Tr.region ?_
   refine TrL.v (v_arith rfl rfl rfl ar_add_i64) rfl rfl (bl rfl) ?_
   refine TrL.v (v_move rfl rfl) rfl rfl (bl rfl) ?_
   have hz := Option.some.inj hy2
   subst hz
   refine TrL.nil (qloop_n ((A7, c7, o6)) (Imp.re _ [1] [3, 1] (sc rfl (sc rfl (sc rfl (sc rfl sn)))) (by decide) rfl rfl rfl))
  ·refine Tr.cond_f rfl (bf_dec h11) ?_
   have hz := Option.some.inj hy2
   subst hz
   refine Tr.exit (qthen_x (qloop_x (qblock_hit (qcut_hit s5.1 ((m10.1, m10.2.1, m10.2.2)) (hx4 _ rfl).symm (Imp.re _ [0] [0] (sc rfl sn) (by decide) rfl rfl rfl)))))
 ·subst hd2
  refine (qthen_n ?_)
  refine Tr.seq ?_
  refine Tr.region ?_
  refine TrL.v (v_move rfl rfl) rfl rfl (bl rfl) ?_
  refine TrL.v (v_assign rfl rfl) rfl rfl (bl rfl) ?_
  refine TrL.nil (qthen_n ?_)
  have hz := Option.some.inj H
  subst hz
  refine Tr.ret (ret_r ⟨[(2, .slice m13.1 x2.length m13.2.1)], [grow 5 1 (.slice m13.1 x2.length m13.2.1) x2.length m13.2.2], [slF (rInt .u8) m13.1 m13.2.1 x2], []⟩ [.slice m13.1 x2.length m13.2.1] [grow 5 1 (.slice m13.1 x2.length m13.2.1) x2.length m13.2.2] [] (Imp.re _ [0] [0] (sc rfl sn) (by decide) rfl rfl rfl) rfl rfl ⟨((m13.1, m13.2.1, m13.2.2)), rfl, rfl, rfl⟩ (.cons (resv_tmp rfl) .nil))

theorem c_conf_seeds (p1 : List (Int × Int)) (A1 : Option Addr) (c1 : Nat) (r : Unit) (H : conf_seeds p1 = some r) :
  Ctr Try.prog 106 [.slice A1 p1.length c1] [] [slF rp_u64_u64 A1 c1 p1] (fun ret M' F' => ∃ m : Nat, ret = .func (.func 156) #[] #[.pointer (some ⟨m, 0, none⟩)] ∧ M' = [cells m [.slice A1 p1.length c1] 89] ∧ F' = [slF rp_u64_u64 A1 c1 p1]) := by
 unfold conf_seeds at H
 refine ctr_ofI (N := 4) Try.func106 rfl Try.ntmps106 rfl (Nat.le_of_ble_eq_true rfl) (fun γ0 w0 => ?_)
 refine Tr.seq ?_
 refine Tr.region ?_
 refine TrL.cons rfl (op_box' rfl (bl rfl) rfl rfl rfl (fun b2 => ?_))
 refine TrL.v (v_assign rfl rfl) rfl rfl (bl rfl) ?_
 refine TrL.nil (qthen_n ?_)
 refine Tr.seq ?_
 refine Tr.region ?_
 refine TrL.v (v_makeFunc (vs := [.pointer (some ⟨b2, 0, none⟩)]) rfl rfl) rfl rfl (bl rfl) ?_
 refine TrL.v (v_assign rfl rfl) rfl rfl (bl rfl) ?_
 refine TrL.nil (qthen_n ?_)
 have hz := Option.some.inj H
 subst hz
 refine Tr.ret (ret_r ⟨[(2, .func (.func 156) #[] #[.pointer (some ⟨b2, 0, none⟩)])], [cells b2 [.slice A1 p1.length c1] 89], [slF rp_u64_u64 A1 c1 p1], []⟩ [.func (.func 156) #[] #[.pointer (some ⟨b2, 0, none⟩)]] [cells b2 [.slice A1 p1.length c1] 89] [] (Imp.re _ [0] [0] (sc rfl sn) (by decide) rfl rfl rfl) rfl rfl ⟨b2, rfl, rfl, rfl⟩ (.cons (resv_tmp rfl) .nil))

theorem c_conf_seeds_1 {σ ι : Type} (y : List Int → σ → Option (Bool × σ)) (C : σ → ι → Chunk) (l : Nat) (hy : ∀ (x : List Int) (xm : Option Addr × Nat) (s : σ) (m : ι) (bo : Bool) (s' : σ), y x s = some (bo, s') → YCtr Try.prog l [.slice xm.1 x.length xm.2] [C s m] [slF (rInt .u8) xm.1 xm.2 x] (fun ret M' F' => ∃ m', ret = .bool bo ∧ M' = [C s' m'] ∧ F' = [])) (p1 : List (Int × Int)) (s0 : σ) (b1 : Nat) (A1 : Option Addr) (c1 : Nat) (m0 : ι) (r : σ) (H : conf_seeds_1 y p1 s0 = some r) :
  Ctr Try.prog 156 [.func (.yield l) #[] #[], .pointer (some ⟨b1, 0, none⟩)] [C s0 m0, cells b1 [.slice A1 p1.length c1] 89] [slF rp_u64_u64 A1 c1 p1] (fun ret M' F' => ∃ m : ι, ret = ret1 [] ∧ M' = [C r m, cells b1 [.slice A1 p1.length c1] 89] ∧ F' = [slF rp_u64_u64 A1 c1 p1]) := by
 unfold conf_seeds_1 at H
 refine ctr_ofI (N := 26) Try.func156 rfl Try.ntmps156 rfl (Nat.le_of_ble_eq_true rfl) (fun γ0 w0 => ?_)
 refine Tr.seq ?_
 refine Tr.region ?_
 refine TrL.v (v_load (k := 1) rfl rfl rfl ty89 (fun _ => rfl) rfl rfl) rfl rfl (bl rfl) ?_
 refine TrL.v (v_len rfl sl89 rfl) rfl rfl (bl rfl) ?_
 refine TrL.v (v_move rfl rfl) rfl rfl (bl rfl) ?_
 refine TrL.nil (qthen_n ?_)
 obtain ⟨x2, hx3, H⟩ := bnd H
 refine Tr.cutE (D := σ) (M := ι) .ret (fun d3 => x2 = .inl d3) (fun d3 m49 => ⟨[(1, .pointer (some ⟨b1, 0, none⟩))], [C d3 m49, cells b1 [.slice A1 p1.length c1] 89], [slF rp_u64_u64 A1 c1 p1], []⟩) ?_ (fun d3 m49 hd3 => ?_)
 ·refine Tr.cutE (D := σ) (M := ι) .normal (fun d4 => x2 = .inr d4) (fun d4 m50 => ⟨[(1, .pointer (some ⟨b1, 0, none⟩))], [C d4 m50, cells b1 [.slice A1 p1.length c1] 89], [slF rp_u64_u64 A1 c1 p1], []⟩) ?_ (fun d4 m50 hd4 => ?_)
  ·refine Tr.block (Tr.loopI (ι := ι) (step := conf_seeds_1_s0 y p1) (fun s5 m39 => ⟨[(0, .func (.yield l) #[] #[]), (1, .pointer (some ⟨b1, 0, none⟩)), (5, .slice A1 p1.length c1), (6, .int .i64 ((p1.length : Int))), (7, .int .i64 s5.1)], [C s5.2 m39, cells b1 [.slice A1 p1.length c1] 89], [slF rp_u64_u64 A1 c1 p1], []⟩) m0 hx3 (Imp.re _ [0, 1] [0] (sc rfl (sc rfl (sc rfl (sc rfl (sc rfl sn))))) (by decide) rfl rfl rfl) (fun s5 m39 y2 hy2 hx4 => ?_))
   unfold conf_seeds_1_s0 at hy2
   refine Tr.seq ?_
   refine Tr.region ?_
   refine TrL.v (v_arith rfl rfl rfl ar_lss) rfl rfl (bl rfl) ?_
   refine TrL.nil (qthen_n ?_)
   refine Tr.seq ?_
   rcases ifc hy2 with ⟨h21, hy2⟩ | ⟨h21, hy2⟩
   ·refine Tr.cond_t rfl (bt_dec h21) ?_
    refine Tr.skip (qthen_n ?_)
    refine Tr.seq ?_
    refine Tr.block ?_
    refine Tr.seq ?_
    refine Tr.region ?_
    obtain ⟨z6, hz6, hy2⟩ := bnd hy2
    refine TrL.v (v_indexAddr (k := 0) rfl sl89 ty184 rfl rfl rfl rfl hz6) rfl rfl (bl rfl) ?_
    refine TrL.v (v_loadg (A := A1) (i := s5.1) (j := 0) (k := 0) rfl ty184 nofun rfl rfl hz6 rfl rfl) rfl rfl (bl rfl) ?_
    refine TrL.cons rfl (op_alloc' rfl (bl rfl) rfl ze184 (fun b7 => ?_))
    refine TrL.cons rfl (op_store' (k := 0) (c' := [.int .u64 z6.1, .int .u64 z6.2]) rfl rfl rfl rfl rfl ty184 rfl (Nat.le_of_ble_eq_true rfl) (ones (oc rfl (oc rfl on))) rfl ?_)
    refine TrL.nil (qthen_n ?_)
    refine Tr.seq ?_
    refine Tr.region ?_
    refine TrL.v (v_move rfl rfl) rfl rfl (bl rfl) ?_
    refine TrL.v (v_fieldAddr' rfl fo184_0 rfl rfl) rfl rfl (bl rfl) ?_
    refine TrL.v (v_load (k := 0) rfl rfl rfl ty28 (fun _ => rfl) rfl rfl) rfl rfl (bl rfl) ?_
    obtain ⟨r45, hr45, hy2⟩ := bnd hy2
    refine TrL.cons rfl (op_call0' (vs := [.int .u64 z6.1]) (cap := []) [] rfl rfl (bl rfl) rfl rfl en157 (c_codec_Fixed z6.1 r45 hr45) rfl (fun ret M' F' hR45 => ?_))
    obtain ⟨m55, rfl, rfl, rfl⟩ := hR45
    obtain ⟨r46, hr46, hy2⟩ := bnd hy2
    refine TrL.cons rfl (op_yield (vs := [.slice m55.1 r45.length m55.2]) (Mr := [cells b7 [.int .u64 z6.1, .int .u64 z6.2] 184, cells b1 [.slice A1 p1.length c1] 89]) [1] [0, 2] [1] rfl rfl rfl (hy r45 ((m55.1, m55.2)) s5.2 m39 r46.1 r46.2 hr46) (by decide) rfl rfl rfl (bl rfl) (fun ret M' F' hR46 => ?_))
    obtain ⟨m56, rfl, rfl, rfl⟩ := hR46
    refine TrL.v (v_notd rfl (bdec rfl)) rfl rfl (bl rfl) ?_
    refine TrL.v (v_move rfl rfl) rfl rfl (bl rfl) ?_
    rcases ifc hy2 with ⟨h23, hy2⟩ | ⟨h23, hy2⟩
    ·refine TrL.cons_no rfl rfl rfl (gn_f (bt_dec h23)) rfl (bl rfl) ?_
     refine TrL.cons_no rfl rfl rfl (gn_f (bt_dec h23)) rfl (bl rfl) ?_
     refine TrL.cons_no rfl rfl rfl (gn_f (bt_dec h23)) rfl (bl rfl) ?_
     refine TrL.cons_no rfl rfl rfl (gn_f (bt_dec h23)) rfl (bl rfl) ?_
     refine TrL.cons_no rfl rfl rfl (gn_f (bt_dec h23)) rfl (bl rfl) ?_
     refine TrL.cons_no rfl rfl rfl (gn_f (bt_dec h23)) rfl (bl rfl) ?_
     refine TrL.v (v_pick_t rfl rfl (bt_dec h23) rfl) rfl rfl (bl rfl) ?_
     refine TrL.nil (qthen_n ?_)
     refine Tr.cond_t rfl rfl ?_
     have hz := Option.some.inj hy2
     subst hz
     refine Tr.ret (qblock_r (qthen_r (qloop_r (qblock_r (qcut_miss (by simp) (qcut_hit r46.2 m56 (hx4 _ rfl).symm (Imp.re _ [0, 2] [0] (sc rfl sn) (by decide) rfl rfl rfl)))))))
    ·refine TrL.cons_yes rfl rfl rfl (bf_dec h23) (OpTr.v (v_move rfl rfl) rfl (bl rfl) ?_)
     refine TrL.cons_yes rfl rfl rfl (bf_dec h23) (OpTr.v (v_fieldAddr' rfl fo184_1 rfl rfl) rfl (bl rfl) ?_)
     refine TrL.cons_yes rfl rfl rfl (bf_dec h23) (OpTr.v (v_load (k := 1) rfl rfl rfl ty28 (fun _ => rfl) rfl rfl) rfl (bl rfl) ?_)
     obtain ⟨r47, hr47, hy2⟩ := bnd hy2
     refine TrL.cons_yes rfl rfl rfl (bf_dec h23) (op_call0' (vs := [.int .u64 z6.2]) (cap := []) [] rfl rfl (bl rfl) rfl rfl en157 (c_codec_Fixed z6.2 r47 hr47) rfl (fun ret M' F' hR47 => ?_))
     obtain ⟨m57, rfl, rfl, rfl⟩ := hR47
     obtain ⟨r48, hr48, hy2⟩ := bnd hy2
     refine TrL.cons_yes rfl rfl rfl (bf_dec h23) (op_yield (vs := [.slice m57.1 r47.length m57.2]) (Mr := [cells b7 [.int .u64 z6.1, .int .u64 z6.2] 184, cells b1 [.slice A1 p1.length c1] 89]) [0] [1, 2] [2] rfl rfl rfl (hy r47 ((m57.1, m57.2)) r46.2 m56 r48.1 r48.2 hr48) (by decide) rfl rfl rfl (bl rfl) (fun ret M' F' hR48 => ?_))
     obtain ⟨m58, rfl, rfl, rfl⟩ := hR48
     refine TrL.cons_yes rfl rfl rfl (bf_dec h23) (OpTr.v (v_notd rfl (bdec rfl)) rfl (bl rfl) ?_)
     refine TrL.v (v_pick_f rfl rfl (bf_dec h23) rfl) rfl rfl (bl rfl) ?_
     refine TrL.nil (qthen_n ?_)
     rcases ifc hy2 with ⟨h24, hy2⟩ | ⟨h24, hy2⟩
     ·refine Tr.cond_t rfl (bt_dec h24) ?_
      have hz := Option.some.inj hy2
      subst hz
      refine Tr.ret (qblock_r (qthen_r (qloop_r (qblock_r (qcut_miss (by simp) (qcut_hit r48.2 m58 (hx4 _ rfl).symm (Imp.re _ [0, 2] [0] (sc rfl sn) (by decide) rfl rfl rfl)))))))
     ·refine Tr.cond_f rfl (bf_dec h24) ?_
      refine Tr.skip (qblock_n (qthen_n ?_))
      refine Tr.region ?_
      refine TrL.v (v_arith rfl rfl rfl ar_add_i64) rfl rfl (bl rfl) ?_
      refine TrL.v (v_move rfl rfl) rfl rfl (bl rfl) ?_
      have hz := Option.some.inj hy2
      subst hz
      refine TrL.nil (qloop_n m58 (Imp.re _ [0, 2] [0] (sc rfl (sc rfl (sc rfl (sc rfl (sc rfl sn))))) (by decide) rfl rfl rfl))
   ·refine Tr.cond_f rfl (bf_dec h21) ?_
    have hz := Option.some.inj hy2
    subst hz
    refine Tr.exit (qthen_x (qloop_x (qblock_hit (qcut_hit s5.2 m39 (hx4 _ rfl).symm (Imp.re _ [0, 1] [0] (sc rfl sn) (by decide) rfl rfl rfl)))))
  ·subst hd4
   replace H := sumr H
   have hz := Option.some.inj H
   subst hz
   refine (qcut_miss (by simp) (ret_n ⟨[], [C d4 m50, cells b1 [.slice A1 p1.length c1] 89], [slF rp_u64_u64 A1 c1 p1], []⟩ [] [C d4 m50, cells b1 [.slice A1 p1.length c1] 89] [] (Imp.re _ [0, 1] [0] sn (by decide) rfl rfl rfl) rfl rfl ⟨m50, rfl, rfl, rfl⟩ .nil))
 ·subst hd3
  replace H := suml H
  have hz := Option.some.inj H
  subst hz
  refine (ret_r ⟨[], [C d3 m49, cells b1 [.slice A1 p1.length c1] 89], [slF rp_u64_u64 A1 c1 p1], []⟩ [] [C d3 m49, cells b1 [.slice A1 p1.length c1] 89] [] (Imp.re _ [0, 1] [0] sn (by decide) rfl rfl rfl) rfl rfl ⟨m49, rfl, rfl, rfl⟩ .nil)
end Go.Proofs.Ytbeknohemgjfbaa.W
