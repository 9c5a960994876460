import Derived.Test.YtbeknohemgjfbaaKcv
import Derived.Test.YtbeknohemgjfbaaQcv
import Derived.Test.YtbeknohemgjfbaaWref01acv
namespace Go.Proofs.Ytbeknohemgjfbaa.W
open Go Go.Proofs Go.Proofs.Ytbeknohemgjfbaa.L Go.Proofs.Ytbeknohemgjfbaa.Pu
set_option linter.unusedVariables false
set_option maxHeartbeats 4000000

theorem c_ref02_Num (p1 : Int) (r : List Int) (H : ref02_Num p1 = some r) :
  Ctr Try.prog 67 [.int .u64 p1] [] [] (fun ret M' F' => ∃ m : Option Addr × Nat, ret = .slice m.1 r.length m.2 ∧ M' = [] ∧ F' = [slF (rInt .u8) m.1 m.2 r]) := by
 unfold ref02_Num at H
 refine ctr_ofI (N := 5) Try.func67 rfl Try.ntmps67 rfl (Nat.le_of_ble_eq_true rfl) (fun γ0 w0 => ?_)
 refine Tr.seq ?_
 refine Tr.region ?_
 refine TrL.v (v_assign rfl rfl) rfl rfl (bl rfl) ?_
 refine TrL.nil (qthen_n ?_)
 refine Tr.seq ?_
 refine Tr.region ?_
 refine TrL.v (v_move rfl rfl) rfl rfl (bl rfl) ?_
 obtain ⟨r2, hr2, H⟩ := bnd H
 refine TrL.cons rfl (op_call0' (vs := [.int .u64 p1]) (cap := []) [] rfl rfl (bl rfl) rfl rfl en128 (c_ref01_Put p1 r2 hr2) rfl (fun ret M' F' hR2 => ?_))
 obtain ⟨m2, rfl, rfl, rfl⟩ := hR2
 refine TrL.v (v_assign rfl rfl) rfl rfl (bl rfl) ?_
 refine TrL.nil (qthen_n ?_)
 have hz := Option.some.inj H
 subst hz
 refine Tr.ret (ret_r ⟨[(2, .slice m2.1 r2.length m2.2)], [], [slF (rInt .u8) m2.1 m2.2 r2], []⟩ [.slice m2.1 r2.length m2.2] [] [] (Imp.re _ [] [0] (sc rfl sn) (by decide) rfl rfl rfl) rfl rfl ⟨((m2.1, m2.2)), rfl, rfl, rfl⟩ (.cons (resv_tmp rfl) .nil))

theorem c_ref02_fail (p1 : List Int × Int) (p2 : Int) (A1 : Option Addr) (c1 : Nat) (r : Int) (H : ref02_fail p1 p2 = some r) :
  Ctr Try.prog 133 [.agg #[.slice A1 p1.1.length c1, .int .i64 p1.2], .int .i64 p2] [] [slF (rInt .u8) A1 c1 p1.1] (fun ret M' F' => ret = .agg #[.slice A1 p1.1.length c1, .int .i64 r] ∧ M' = [] ∧ F' = [slF (rInt .u8) A1 c1 p1.1]) := by
 unfold ref02_fail at H
 refine ctr_ofI (N := 11) Try.func133 rfl Try.ntmps133 rfl (Nat.le_of_ble_eq_true rfl) (fun γ0 w0 => ?_)
 refine Tr.seq ?_
 refine Tr.region ?_
 refine TrL.cons rfl (op_box' rfl (bl rfl) rfl rfl rfl (fun b3 => ?_))
 refine TrL.cons rfl (op_alloc' rfl (bl rfl) rfl ze51 (fun b4 => ?_))
 refine TrL.nil (qthen_n ?_)
 refine Tr.seq ?_
 refine Tr.seq ?_
 refine Tr.region ?_
 refine TrL.v (v_fieldAddr' rfl fo51_1 rfl rfl) rfl rfl (bl rfl) ?_
 refine TrL.v (v_load (k := 1) rfl rfl rfl ty3 (fun _ => rfl) rfl rfl) rfl rfl (bl rfl) ?_
 refine TrL.v (v_arith rfl rfl rfl ar_eql) rfl rfl (bl rfl) ?_
 refine TrL.nil (qthen_n ?_)
 rcases ifc H with ⟨h2, H⟩ | ⟨h2, H⟩
 ·refine Tr.cond_t rfl (bt_dec h2) ?_
  refine Tr.region ?_
  refine TrL.v (v_move rfl rfl) rfl rfl (bl rfl) ?_
  refine TrL.v (v_fieldAddr' rfl fo51_1 rfl rfl) rfl rfl (bl rfl) ?_
  refine TrL.cons rfl (op_store' (k := 1) (c' := [.slice A1 p1.1.length c1, .int .i64 p2]) rfl rfl rfl rfl rfl ty3 rfl (Nat.le_of_ble_eq_true rfl) (ones (oc rfl on)) rfl ?_)
  refine TrL.nil (qthen_n ?_)
  refine Tr.seq ?_
  refine Tr.region ?_
  refine TrL.v (v_load (k := 1) rfl rfl rfl ty51 nofun rfl rfl) rfl rfl (bl rfl) ?_
  refine TrL.cons rfl (op_store' (k := 0) (c' := [.slice A1 p1.1.length c1, .int .i64 p2]) rfl rfl rfl rfl rfl ty51 rfl (Nat.le_of_ble_eq_true rfl) (ones (oc rfl (oc rfl on))) rfl ?_)
  refine TrL.nil (qthen_n ?_)
  have hz := Option.some.inj H
  subst hz
  refine Tr.ret (ret_r ⟨[(4, .pointer (some ⟨b4, 0, none⟩))], [cells b4 [.slice A1 p1.1.length c1, .int .i64 p2] 51], [slF (rInt .u8) A1 c1 p1.1], []⟩ [.agg #[.slice A1 p1.1.length c1, .int .i64 p2]] [] [cells b4 [.slice A1 p1.1.length c1, .int .i64 p2] 51] (Imp.re _ [0] [0] (sc rfl sn) (by decide) rfl rfl rfl) rfl rfl ⟨rfl, rfl, rfl⟩ (.cons (resv_cell (k := 0) rfl rfl ty51 nofun rfl rfl) .nil))
 ·refine Tr.cond_f rfl (bf_dec h2) ?_
  refine Tr.skip (qthen_n ?_)
  refine Tr.seq ?_
  refine Tr.region ?_
  refine TrL.v (v_load (k := 1) rfl rfl rfl ty51 nofun rfl rfl) rfl rfl (bl rfl) ?_
  refine TrL.cons rfl (op_store' (k := 0) (c' := [.slice A1 p1.1.length c1, .int .i64 p1.2]) rfl rfl rfl rfl rfl ty51 rfl (Nat.le_of_ble_eq_true rfl) (ones (oc rfl (oc rfl on))) rfl ?_)
  refine TrL.nil (qthen_n ?_)
  have hz := Option.some.inj H
  subst hz
  refine Tr.ret (ret_r ⟨[(4, .pointer (some ⟨b4, 0, none⟩))], [cells b4 [.slice A1 p1.1.length c1, .int .i64 p1.2] 51], [slF (rInt .u8) A1 c1 p1.1], []⟩ [.agg #[.slice A1 p1.1.length c1, .int .i64 p1.2]] [] [cells b4 [.slice A1 p1.1.length c1, .int .i64 p1.2] 51] (Imp.re _ [0] [0] (sc rfl sn) (by decide) rfl rfl rfl) rfl rfl ⟨rfl, rfl, rfl⟩ (.cons (resv_cell (k := 0) rfl rfl ty51 nofun rfl rfl) .nil))

theorem c_ref02_Read (p1 : List Int × Int) (p2 : Int) (A1 : Option Addr) (c1 : Nat) (r : List Int × Int × Int) (H : ref02_Read p1 p2 = some r) :
  Ctr Try.prog 73 [.agg #[.slice A1 p1.1.length c1, .int .i64 p1.2], .int .u64 p2] [] [slF (rInt .u8) A1 c1 p1.1] (fun ret M' F' => ∃ m : Option Addr × Nat, ret = .tuple #[.agg #[.slice m.1 r.1.length m.2, .int .i64 r.2.1], .int .u64 r.2.2] ∧ M' = [] ∧ F' = [slF (rInt .u8) m.1 m.2 r.1]) := by
 unfold ref02_Read at H
 refine ctr_ofI (N := 37) Try.func73 rfl Try.ntmps73 rfl (Nat.le_of_ble_eq_true rfl) (fun γ0 w0 => ?_)
 refine Tr.seq ?_
 refine Tr.region ?_
 refine TrL.cons rfl (op_box' rfl (bl rfl) rfl rfl rfl (fun b3 => ?_))
 refine TrL.cons rfl (op_alloc' rfl (bl rfl) rfl ze51 (fun b4 => ?_))
 refine TrL.v (v_assign rfl rfl) rfl rfl (bl rfl) ?_
 refine TrL.nil (qthen_n ?_)
 refine Tr.seq ?_
 refine Tr.seq ?_
 refine Tr.region ?_
 refine TrL.v (v_fieldAddr' rfl fo51_1 rfl rfl) rfl rfl (bl rfl) ?_
 refine TrL.v (v_load (k := 1) rfl rfl rfl ty3 (fun _ => rfl) rfl rfl) rfl rfl (bl rfl) ?_
 refine TrL.v (v_arith rfl rfl rfl ar_neq) rfl rfl (bl rfl) ?_
 refine TrL.nil (qthen_n ?_)
 rcases ifc H with ⟨h5, H⟩ | ⟨h5, H⟩
 ·refine Tr.cond_t rfl (bt_dec h5) ?_
  refine Tr.seq ?_
  refine Tr.region ?_
  refine TrL.v (v_load (k := 1) rfl rfl rfl ty51 nofun rfl rfl) rfl rfl (bl rfl) ?_
  refine TrL.cons rfl (op_store' (k := 0) (c' := [.slice A1 p1.1.length c1, .int .i64 p1.2]) rfl rfl rfl rfl rfl ty51 rfl (Nat.le_of_ble_eq_true rfl) (ones (oc rfl (oc rfl on))) rfl ?_)
  refine TrL.v (v_assign rfl rfl) rfl rfl (bl rfl) ?_
  refine TrL.nil (qthen_n ?_)
  have hz := Option.some.inj H
  subst hz
  refine Tr.ret (qthen_r (ret_r ⟨[(4, .pointer (some ⟨b4, 0, none⟩)), (5, .int .u64 0)], [cells b4 [.slice A1 p1.1.length c1, .int .i64 p1.2] 51], [slF (rInt .u8) A1 c1 p1.1], []⟩ [.agg #[.slice A1 p1.1.length c1, .int .i64 p1.2], .int .u64 0] [] [cells b4 [.slice A1 p1.1.length c1, .int .i64 p1.2] 51] (Imp.re _ [0] [0] (sc rfl (sc rfl sn)) (by decide) rfl rfl rfl) rfl rfl ⟨((A1, c1)), rfl, rfl, rfl⟩ (.cons (resv_cell (k := 0) rfl rfl ty51 nofun rfl rfl) (.cons (resv_tmp rfl) .nil))))
 ·refine Tr.cond_f rfl (bf_dec h5) ?_
  refine Tr.skip (qthen_n ?_)
  refine Tr.seq ?_
  refine Tr.region ?_
  refine TrL.v (v_fieldAddr' rfl fo51_0 rfl rfl) rfl rfl (bl rfl) ?_
  refine TrL.v (v_load (k := 1) rfl rfl rfl ty40 (fun _ => rfl) rfl rfl) rfl rfl (bl rfl) ?_
  obtain ⟨r4, hr4, H⟩ := bnd H
  refine TrL.cons rfl (op_call0' (vs := [.slice A1 p1.1.length c1]) (cap := []) [0] rfl rfl (bl rfl) rfl rfl en132 (c_ref01_Take p1.1 A1 c1 r4 hr4) rfl (fun ret M' F' hR4 => ?_))
  obtain ⟨rfl, rfl, rfl⟩ := hR4
  refine TrL.v (v_move rfl rfl) rfl rfl (bl rfl) ?_
  refine TrL.v (v_extract rfl rfl rfl) rfl rfl (bl rfl) ?_
  refine TrL.v (v_extract rfl rfl rfl) rfl rfl (bl rfl) ?_
  refine TrL.v (v_extract rfl rfl rfl) rfl rfl (bl rfl) ?_
  refine TrL.v (v_assign rfl rfl) rfl rfl (bl rfl) ?_
  refine TrL.v (v_assign rfl rfl) rfl rfl (bl rfl) ?_
  refine TrL.v (v_assign rfl rfl) rfl rfl (bl rfl) ?_
  refine TrL.nil (qthen_n ?_)
  refine Tr.seq ?_
  refine Tr.seq ?_
  refine Tr.region ?_
  refine TrL.v (v_move rfl rfl) rfl rfl (bl rfl) ?_
  refine TrL.v (v_arith rfl rfl rfl ar_neq) rfl rfl (bl rfl) ?_
  refine TrL.nil (qthen_n ?_)
  rcases ifc H with ⟨h6, H⟩ | ⟨h6, H⟩
  ·refine Tr.cond_t rfl (bt_dec h6) ?_
   refine Tr.seq ?_
   refine Tr.region ?_
   refine TrL.v (v_load (k := 1) rfl rfl rfl ty51 nofun rfl rfl) rfl rfl (bl rfl) ?_
   refine TrL.v (v_move rfl rfl) rfl rfl (bl rfl) ?_
   obtain ⟨r5, hr5, H⟩ := bnd H
   refine TrL.cons rfl (op_call0' (vs := [.agg #[.slice A1 p1.1.length c1, .int .i64 p1.2], .int .i64 r4.2.2]) (cap := []) [0] rfl rfl (bl rfl) rfl rfl en133 (c_ref02_fail p1 r4.2.2 A1 c1 r5 hr5) rfl (fun ret M' F' hR5 => ?_))
   obtain ⟨rfl, rfl, rfl⟩ := hR5
   refine TrL.cons rfl (op_store' (k := 0) (c' := [.slice A1 p1.1.length c1, .int .i64 r5]) rfl rfl rfl rfl rfl ty51 rfl (Nat.le_of_ble_eq_true rfl) (ones (oc rfl (oc rfl on))) rfl ?_)
   refine TrL.v (v_assign rfl rfl) rfl rfl (bl rfl) ?_
   refine TrL.nil (qthen_n ?_)
   have hz := Option.some.inj H
   subst hz
   refine Tr.ret (qthen_r (ret_r ⟨[(4, .pointer (some ⟨b4, 0, none⟩)), (5, .int .u64 0)], [cells b4 [.slice A1 p1.1.length c1, .int .i64 r5] 51], [slF (rInt .u8) A1 c1 p1.1], []⟩ [.agg #[.slice A1 p1.1.length c1, .int .i64 r5], .int .u64 0] [] [cells b4 [.slice A1 p1.1.length c1, .int .i64 r5] 51] (Imp.re _ [0] [0] (sc rfl (sc rfl sn)) (by decide) rfl rfl rfl) rfl rfl ⟨((A1, c1)), rfl, rfl, rfl⟩ (.cons (resv_cell (k := 0) rfl rfl ty51 nofun rfl rfl) (.cons (resv_tmp rfl) .nil))))
  ·refine Tr.cond_f rfl (bf_dec h6) ?_
   refine Tr.skip (qthen_n ?_)
   refine Tr.seq ?_
   refine Tr.seq ?_
   refine Tr.region ?_
   refine TrL.v (v_move rfl rfl) rfl rfl (bl rfl) ?_
   refine TrL.v (v_move rfl rfl) rfl rfl (bl rfl) ?_
   refine TrL.v (v_arith rfl rfl rfl ar_gtr) rfl rfl (bl rfl) ?_
   refine TrL.nil (qthen_n ?_)
   rcases ifc H with ⟨h7, H⟩ | ⟨h7, H⟩
   ·refine Tr.cond_t rfl (bt_dec h7) ?_
    refine Tr.seq ?_
    refine Tr.region ?_
    refine TrL.v (v_load (k := 1) rfl rfl rfl ty51 nofun rfl rfl) rfl rfl (bl rfl) ?_
    obtain ⟨r6, hr6, H⟩ := bnd H
    refine TrL.cons rfl (op_call0' (vs := [.agg #[.slice A1 p1.1.length c1, .int .i64 p1.2], .int .i64 2]) (cap := []) [0] rfl rfl (bl rfl) rfl rfl en133 (c_ref02_fail p1 ((2 : Int)) A1 c1 r6 hr6) rfl (fun ret M' F' hR6 => ?_))
    obtain ⟨rfl, rfl, rfl⟩ := hR6
    refine TrL.cons rfl (op_store' (k := 0) (c' := [.slice A1 p1.1.length c1, .int .i64 r6]) rfl rfl rfl rfl rfl ty51 rfl (Nat.le_of_ble_eq_true rfl) (ones (oc rfl (oc rfl on))) rfl ?_)
    refine TrL.v (v_assign rfl rfl) rfl rfl (bl rfl) ?_
    refine TrL.nil (qthen_n ?_)
    have hz := Option.some.inj H
    subst hz
    refine Tr.ret (qthen_r (ret_r ⟨[(4, .pointer (some ⟨b4, 0, none⟩)), (5, .int .u64 0)], [cells b4 [.slice A1 p1.1.length c1, .int .i64 r6] 51], [slF (rInt .u8) A1 c1 p1.1], []⟩ [.agg #[.slice A1 p1.1.length c1, .int .i64 r6], .int .u64 0] [] [cells b4 [.slice A1 p1.1.length c1, .int .i64 r6] 51] (Imp.re _ [0] [0] (sc rfl (sc rfl sn)) (by decide) rfl rfl rfl) rfl rfl ⟨((A1, c1)), rfl, rfl, rfl⟩ (.cons (resv_cell (k := 0) rfl rfl ty51 nofun rfl rfl) (.cons (resv_tmp rfl) .nil))))
   ·refine Tr.cond_f rfl (bf_dec h7) ?_
    refine Tr.skip (qthen_n ?_)
    refine Tr.seq ?_
    refine Tr.region ?_
    refine TrL.v (v_fieldAddr' rfl fo51_0 rfl rfl) rfl rfl (bl rfl) ?_
    refine TrL.v (v_load (k := 1) rfl rfl rfl ty40 (fun _ => rfl) rfl rfl) rfl rfl (bl rfl) ?_
    refine TrL.v (v_move rfl rfl) rfl rfl (bl rfl) ?_
    obtain ⟨h8, H⟩ := mst H
    refine TrL.addF' (slF (rInt .u8) (slA A1 r4.2.1.toNat c1 1) (c1 - r4.2.1.toNat) (p1.1.drop r4.2.1.toNat)) (slx1_f (k := 0) rfl h8) ?_
    refine TrL.v (slx1_v (rp := (rInt .u8)) (xs := p1.1) (k := 0) rfl sl40 ty5 rfl rfl rfl h8 rfl) rfl rfl (bl rfl) ?_
    refine TrL.v (v_fieldAddr' rfl fo51_0 rfl rfl) rfl rfl (bl rfl) ?_
    refine TrL.cons rfl (op_store' (k := 1) (c' := [.slice (slA A1 r4.2.1.toNat c1 1) ((p1.1.drop r4.2.1.toNat).length) (c1 - r4.2.1.toNat), .int .i64 p1.2]) rfl rfl rfl rfl rfl ty40 rfl (Nat.le_of_ble_eq_true rfl) (ones (oc rfl on)) rfl ?_)
    refine TrL.nil (qthen_n ?_)
    refine Tr.seq ?_
    refine Tr.region ?_
    refine TrL.v (v_load (k := 1) rfl rfl rfl ty51 nofun rfl rfl) rfl rfl (bl rfl) ?_
    refine TrL.v (v_move rfl rfl) rfl rfl (bl rfl) ?_
    refine TrL.cons rfl (op_store' (k := 0) (c' := [.slice (slA A1 r4.2.1.toNat c1 1) ((p1.1.drop r4.2.1.toNat).length) (c1 - r4.2.1.toNat), .int .i64 p1.2]) rfl rfl rfl rfl rfl ty51 rfl (Nat.le_of_ble_eq_true rfl) (ones (oc rfl (oc rfl on))) rfl ?_)
    refine TrL.v (v_assign rfl rfl) rfl rfl (bl rfl) ?_
    refine TrL.nil (qthen_n ?_)
    have hz := Option.some.inj H
    subst hz
    refine Tr.ret (ret_r ⟨[(4, .pointer (some ⟨b4, 0, none⟩)), (5, .int .u64 r4.1)], [cells b4 [.slice (slA A1 r4.2.1.toNat c1 1) ((p1.1.drop r4.2.1.toNat).length) (c1 - r4.2.1.toNat), .int .i64 p1.2] 51], [slF (rInt .u8) (slA A1 r4.2.1.toNat c1 1) (c1 - r4.2.1.toNat) (p1.1.drop r4.2.1.toNat)], []⟩ [.agg #[.slice (slA A1 r4.2.1.toNat c1 1) ((p1.1.drop r4.2.1.toNat).length) (c1 - r4.2.1.toNat), .int .i64 p1.2], .int .u64 r4.1] [] [cells b4 [.slice (slA A1 r4.2.1.toNat c1 1) ((p1.1.drop r4.2.1.toNat).length) (c1 - r4.2.1.toNat), .int .i64 p1.2] 51] (Imp.re _ [0] [1] (sc rfl (sc rfl sn)) (by decide) rfl rfl rfl) rfl rfl ⟨((slA A1 r4.2.1.toNat c1 1, c1 - r4.2.1.toNat)), rfl, rfl, rfl⟩ (.cons (resv_cell (k := 0) rfl rfl ty51 nofun rfl rfl) (.cons (resv_tmp rfl) .nil)))

theorem c_ref02_Fixed (p1 : Int) (r : List Int) (H : ref02_Fixed p1 = some r) :
  Ctr Try.prog 108 [.int .u64 p1] [] [] (fun ret M' F' => ∃ m : Option Addr × Nat, ret = .slice m.1 r.length m.2 ∧ M' = [] ∧ F' = [slF (rInt .u8) m.1 m.2 r]) := by
 unfold ref02_Fixed at H
 refine ctr_ofI (N := 19) Try.func108 rfl Try.ntmps108 rfl (Nat.le_of_ble_eq_true rfl) (fun γ0 w0 => ?_)
 refine Tr.seq ?_
 refine Tr.region ?_
 refine TrL.v (v_assign rfl rfl) rfl rfl (bl rfl) ?_
 refine TrL.nil (qthen_n ?_)
 refine Tr.seq ?_
 refine Tr.region ?_
 refine TrL.v (v_assign rfl rfl) rfl rfl (bl rfl) ?_
 refine TrL.nil (qthen_n ?_)
 refine Tr.seq ?_
 refine Tr.seq ?_
 refine Tr.region ?_
 refine TrL.v (v_assign rfl rfl) rfl rfl (bl rfl) ?_
 refine TrL.nil (qthen_n ?_)
 obtain ⟨x2, hx3, H⟩ := bnd H
 refine Tr.cutE (D := List Int) (M := Option Addr × Nat × Option Nat) .normal (fun _d => x2 = _d) (fun x2 m8 => ⟨[(3, .slice m8.1 x2.length m8.2.1)], [grow 5 1 (.slice m8.1 x2.length m8.2.1) x2.length m8.2.2], [slF (rInt .u8) m8.1 m8.2.1 x2], []⟩) ?_ (fun x2 m8 hd2 => ?_)
 ·refine Tr.block (Tr.loopI (ι := Option Addr × Nat × Option Nat) (step := ref02_Fixed_s0 p1) (fun s5 m6 => ⟨[(0, .int .u64 p1), (3, .slice m6.1 s5.1.length m6.2.1), (4, .int .i64 s5.2)], [grow 5 1 (.slice m6.1 s5.1.length m6.2.1) s5.1.length m6.2.2], [slF (rInt .u8) m6.1 m6.2.1 s5.1], []⟩) ((none, 0, none)) hx3 (Imp.full' (E := 5) (sz := 1) (A := none) (n := 0) (Imp.addF' _ (nilF (rInt .u8)) (Imp.re _ [0] [0] (sc rfl (sc rfl (sc rfl sn))) (by decide) rfl rfl rfl))) (fun s5 m6 y2 hy2 hx4 => ?_))
  unfold ref02_Fixed_s0 at hy2
  refine Tr.seq ?_
  refine Tr.seq ?_
  refine Tr.region ?_
  refine TrL.v (v_move rfl rfl) rfl rfl (bl rfl) ?_
  refine TrL.v (v_arith rfl rfl rfl ar_lss) rfl rfl (bl rfl) ?_
  refine TrL.nil (qthen_n ?_)
  rcases ifc hy2 with ⟨h12, hy2⟩ | ⟨h12, hy2⟩
  ·refine Tr.cond_t rfl (bt_dec h12) ?_
   refine Tr.skip (qthen_n ?_)
   refine Tr.seq ?_
   refine Tr.block ?_
   refine Tr.region ?_
   refine TrL.v (v_move rfl rfl) rfl rfl (bl rfl) ?_
   refine TrL.v (v_move rfl rfl) rfl rfl (bl rfl) ?_
   refine TrL.v (v_move rfl rfl) rfl rfl (bl rfl) ?_
   refine TrL.v (v_arith rfl rfl rfl ar_mul_i64) rfl rfl (bl rfl) ?_
   refine TrL.v (v_arith rfl rfl rfl ar_sub_i64) rfl rfl (bl rfl) ?_
   obtain ⟨h13, hy2⟩ := mst hy2
   refine TrL.v (v_shr' rfl rfl rfl h13 rfl) rfl rfl (bl rfl) ?_
   refine TrL.v (v_conv' rfl ⟨_, Try.underlying28⟩ Try.underlying5 rfl wrap_u8') rfl rfl (bl rfl) ?_
   refine TrL.cons rfl (op_buildSlice' (rp := (rInt .u8)) (xs := [wu8 (shrk 64 p1 (wi64 (56 - (wi64 (8 * s5.2)))))]) (vs := [.int .u8 (wu8 (shrk 64 p1 (wi64 (56 - (wi64 (8 * s5.2))))))]) (out := [.int .u8 (wu8 (shrk 64 p1 (wi64 (56 - (wi64 (8 * s5.2))))))]) rfl (bl rfl) rfl sl40 ty5 ze5 rfl rfl (by decide) (by decide) rfl (fun γ w hF => (rowc rfl rown rfl)) (fun A11 => ?_))
   obtain ⟨h14, hy2⟩ := rom hy2
   refine TrL.cons rfl (op_append' (rp := (rInt .u8)) (xs := s5.1) (ys := [wu8 (shrk 64 p1 (wi64 (56 - (wi64 (8 * s5.2)))))]) (k := 0) (kx := 0) (ky := 1) rfl (bl rfl) rfl sl40 ty5 ze5 rfl by5 rfl rfl rfl rfl rfl rfl rfl h14.1 h14.2 (fun A12 c6 o6 => ?_))
   refine TrL.v (v_assign rfl rfl) rfl rfl (bl rfl) ?_
   refine TrL.nil (qblock_n (qthen_n ?_))
   refine Tr.region ?_
   refine TrL.v (v_move rfl rfl) rfl rfl (bl rfl) ?_
   refine TrL.v (v_arith rfl rfl rfl ar_add_i64) rfl rfl (bl rfl) ?_
   refine TrL.v (v_assign rfl rfl) rfl rfl (bl rfl) ?_
   have hz := Option.some.inj hy2
   subst hz
   refine TrL.nil (qloop_n ((A12, c6, o6)) (Imp.re _ [0] [2] (sc rfl (sc rfl (sc rfl sn))) (by decide) rfl rfl rfl))
  ·refine Tr.cond_f rfl (bf_dec h12) ?_
   have hz := Option.some.inj hy2
   subst hz
   refine Tr.exit (qthen_x (qloop_x (qblock_hit (qcut_hit s5.1 ((m6.1, m6.2.1, m6.2.2)) (hx4 _ rfl).symm (Imp.re _ [0] [0] (sc rfl sn) (by decide) rfl rfl rfl)))))
 ·subst hd2
  refine (qthen_n ?_)
  refine Tr.seq ?_
  refine Tr.region ?_
  refine TrL.v (v_move rfl rfl) rfl rfl (bl rfl) ?_
  refine TrL.v (v_assign rfl rfl) rfl rfl (bl rfl) ?_
  refine TrL.nil (qthen_n ?_)
  have hz := Option.some.inj H
  subst hz
  refine Tr.ret (ret_r ⟨[(2, .slice m8.1 x2.length m8.2.1)], [], [slF (rInt .u8) m8.1 m8.2.1 x2], []⟩ [.slice m8.1 x2.length m8.2.1] [] [] (Imp.re _ [] [0] (sc rfl sn) (by decide) rfl rfl rfl) rfl rfl ⟨((m8.1, m8.2.1)), rfl, rfl, rfl⟩ (.cons (resv_tmp rfl) .nil))

theorem c_ref02_ReadFixed (p1 : List Int × Int) (A1 : Option Addr) (c1 : Nat) (r : List Int × Int × Int) (H : ref02_ReadFixed p1 = some r) :
  Ctr Try.prog 158 [.agg #[.slice A1 p1.1.length c1, .int .i64 p1.2]] [] [slF (rInt .u8) A1 c1 p1.1] (fun ret M' F' => ∃ m : Option Addr × Nat, ret = .tuple #[.agg #[.slice m.1 r.1.length m.2, .int .i64 r.2.1], .int .u64 r.2.2] ∧ M' = [] ∧ F' = [slF (rInt .u8) m.1 m.2 r.1]) := by
 unfold ref02_ReadFixed at H
 refine ctr_ofI (N := 35) Try.func158 rfl Try.ntmps158 rfl (Nat.le_of_ble_eq_true rfl) (fun γ0 w0 => ?_)
 refine Tr.seq ?_
 refine Tr.region ?_
 refine TrL.cons rfl (op_box' rfl (bl rfl) rfl rfl rfl (fun b3 => ?_))
 refine TrL.cons rfl (op_alloc' rfl (bl rfl) rfl ze51 (fun b4 => ?_))
 refine TrL.v (v_assign rfl rfl) rfl rfl (bl rfl) ?_
 refine TrL.nil (qthen_n ?_)
 refine Tr.seq ?_
 refine Tr.seq ?_
 refine Tr.region ?_
 refine TrL.v (v_fieldAddr' rfl fo51_1 rfl rfl) rfl rfl (bl rfl) ?_
 refine TrL.v (v_load (k := 1) rfl rfl rfl ty3 (fun _ => rfl) rfl rfl) rfl rfl (bl rfl) ?_
 refine TrL.v (v_arith rfl rfl rfl ar_neq) rfl rfl (bl rfl) ?_
 refine TrL.nil (qthen_n ?_)
 rcases ifc H with ⟨h6, H⟩ | ⟨h6, H⟩
 ·refine Tr.cond_t rfl (bt_dec h6) ?_
  refine Tr.seq ?_
  refine Tr.region ?_
  refine TrL.v (v_load (k := 1) rfl rfl rfl ty51 nofun rfl rfl) rfl rfl (bl rfl) ?_
  refine TrL.cons rfl (op_store' (k := 0) (c' := [.slice A1 p1.1.length c1, .int .i64 p1.2]) rfl rfl rfl rfl rfl ty51 rfl (Nat.le_of_ble_eq_true rfl) (ones (oc rfl (oc rfl on))) rfl ?_)
  refine TrL.v (v_assign rfl rfl) rfl rfl (bl rfl) ?_
  refine TrL.nil (qthen_n ?_)
  have hz := Option.some.inj H
  subst hz
  refine Tr.ret (qthen_r (ret_r ⟨[(2, .pointer (some ⟨b4, 0, none⟩)), (3, .int .u64 0)], [cells b4 [.slice A1 p1.1.length c1, .int .i64 p1.2] 51], [slF (rInt .u8) A1 c1 p1.1], []⟩ [.agg #[.slice A1 p1.1.length c1, .int .i64 p1.2], .int .u64 0] [] [cells b4 [.slice A1 p1.1.length c1, .int .i64 p1.2] 51] (Imp.re _ [0] [0] (sc rfl (sc rfl sn)) (by decide) rfl rfl rfl) rfl rfl ⟨((A1, c1)), rfl, rfl, rfl⟩ (.cons (resv_cell (k := 0) rfl rfl ty51 nofun rfl rfl) (.cons (resv_tmp rfl) .nil))))
 ·refine Tr.cond_f rfl (bf_dec h6) ?_
  refine Tr.skip (qthen_n ?_)
  refine Tr.seq ?_
  refine Tr.seq ?_
  refine Tr.region ?_
  refine TrL.v (v_fieldAddr' rfl fo51_0 rfl rfl) rfl rfl (bl rfl) ?_
  refine TrL.v (v_load (k := 1) rfl rfl rfl ty40 (fun _ => rfl) rfl rfl) rfl rfl (bl rfl) ?_
  refine TrL.v (v_len rfl sl40 rfl) rfl rfl (bl rfl) ?_
  refine TrL.v (v_arith rfl rfl rfl ar_lss) rfl rfl (bl rfl) ?_
  refine TrL.nil (qthen_n ?_)
  rcases ifc H with ⟨h7, H⟩ | ⟨h7, H⟩
  ·refine Tr.cond_t rfl (bt_dec h7) ?_
   refine Tr.seq ?_
   refine Tr.region ?_
   refine TrL.v (v_load (k := 1) rfl rfl rfl ty51 nofun rfl rfl) rfl rfl (bl rfl) ?_
   obtain ⟨r2, hr2, H⟩ := bnd H
   refine TrL.cons rfl (op_call0' (vs := [.agg #[.slice A1 p1.1.length c1, .int .i64 p1.2], .int .i64 3]) (cap := []) [0] rfl rfl (bl rfl) rfl rfl en133 (c_ref02_fail p1 ((3 : Int)) A1 c1 r2 hr2) rfl (fun ret M' F' hR2 => ?_))
   obtain ⟨rfl, rfl, rfl⟩ := hR2
   refine TrL.cons rfl (op_store' (k := 0) (c' := [.slice A1 p1.1.length c1, .int .i64 r2]) rfl rfl rfl rfl rfl ty51 rfl (Nat.le_of_ble_eq_true rfl) (ones (oc rfl (oc rfl on))) rfl ?_)
   refine TrL.v (v_assign rfl rfl) rfl rfl (bl rfl) ?_
   refine TrL.nil (qthen_n ?_)
   have hz := Option.some.inj H
   subst hz
   refine Tr.ret (qthen_r (ret_r ⟨[(2, .pointer (some ⟨b4, 0, none⟩)), (3, .int .u64 0)], [cells b4 [.slice A1 p1.1.length c1, .int .i64 r2] 51], [slF (rInt .u8) A1 c1 p1.1], []⟩ [.agg #[.slice A1 p1.1.length c1, .int .i64 r2], .int .u64 0] [] [cells b4 [.slice A1 p1.1.length c1, .int .i64 r2] 51] (Imp.re _ [0] [0] (sc rfl (sc rfl sn)) (by decide) rfl rfl rfl) rfl rfl ⟨((A1, c1)), rfl, rfl, rfl⟩ (.cons (resv_cell (k := 0) rfl rfl ty51 nofun rfl rfl) (.cons (resv_tmp rfl) .nil))))
  ·refine Tr.cond_f rfl (bf_dec h7) ?_
   refine Tr.skip (qthen_n ?_)
   refine Tr.seq ?_
   refine Tr.region ?_
   refine TrL.v (v_assign rfl rfl) rfl rfl (bl rfl) ?_
   refine TrL.nil (qthen_n ?_)
   refine Tr.seq ?_
   refine Tr.seq ?_
   refine Tr.region ?_
   refine TrL.v (v_assign rfl rfl) rfl rfl (bl rfl) ?_
   refine TrL.nil (qthen_n ?_)
   obtain ⟨x2, hx3, H⟩ := bnd H
   refine Tr.cutE (D := Int) (M := Unit) .normal (fun _d => x2 = _d) (fun x2 m10 => ⟨[(1, .pointer (some ⟨b3, 0, none⟩)), (2, .pointer (some ⟨b4, 0, none⟩)), (4, .int .u64 x2)], [cells b3 [.slice A1 p1.1.length c1, .int .i64 p1.2] 51, cells b4 [.slice none 0 0, .int .i64 0] 51], [slF (rInt .u8) A1 c1 p1.1, slF (rInt .u8) none 0 (([] : List Int))], []⟩) ?_ (fun x2 m10 hd2 => ?_)
   ·refine Tr.block (Tr.loopI (ι := Unit) (step := ref02_ReadFixed_s0 p1) (fun s5 m8 => ⟨[(1, .pointer (some ⟨b3, 0, none⟩)), (2, .pointer (some ⟨b4, 0, none⟩)), (4, .int .u64 s5.1), (5, .int .i64 s5.2)], [cells b3 [.slice A1 p1.1.length c1, .int .i64 p1.2] 51, cells b4 [.slice none 0 0, .int .i64 0] 51], [slF (rInt .u8) A1 c1 p1.1, slF (rInt .u8) none 0 (([] : List Int))], []⟩) (()) hx3 (Imp.addF' _ (nilF (rInt .u8)) (Imp.re _ [1, 0] [0, 1] (sc rfl (sc rfl (sc rfl (sc rfl sn)))) (by decide) rfl rfl rfl)) (fun s5 m8 y2 hy2 hx4 => ?_))
    unfold ref02_ReadFixed_s0 at hy2
    refine Tr.seq ?_
    refine Tr.seq ?_
    refine Tr.region ?_
    refine TrL.v (v_move rfl rfl) rfl rfl (bl rfl) ?_
    refine TrL.v (v_arith rfl rfl rfl ar_lss) rfl rfl (bl rfl) ?_
    refine TrL.nil (qthen_n ?_)
    rcases ifc hy2 with ⟨h9, hy2⟩ | ⟨h9, hy2⟩
    ·refine Tr.cond_t rfl (bt_dec h9) ?_
     refine Tr.skip (qthen_n ?_)
     refine Tr.seq ?_
     refine Tr.block ?_
     refine Tr.region ?_
     refine TrL.v (v_move rfl rfl) rfl rfl (bl rfl) ?_
     refine TrL.v (v_arith rfl rfl rfl ar_mul_u64) rfl rfl (bl rfl) ?_
     refine TrL.v (v_fieldAddr' rfl fo51_0 rfl rfl) rfl rfl (bl rfl) ?_
     refine TrL.v (v_load (k := 0) rfl rfl rfl ty40 (fun _ => rfl) rfl rfl) rfl rfl (bl rfl) ?_
     refine TrL.v (v_move rfl rfl) rfl rfl (bl rfl) ?_
     obtain ⟨z6, hz6, hy2⟩ := bnd hy2
     refine TrL.v (v_indexAddr (k := 0) rfl sl40 ty5 rfl rfl rfl rfl hz6) rfl rfl (bl rfl) ?_
     refine TrL.v (v_loadg (A := A1) (i := s5.2) (j := 0) (k := 0) rfl ty5 (fun _ => rfl) rfl rfl hz6 rfl rfl) rfl rfl (bl rfl) ?_
     refine TrL.v (v_conv' rfl ⟨_, Try.underlying5⟩ Try.underlying28 rfl wrap_u64') rfl rfl (bl rfl) ?_
     refine TrL.v (v_arith rfl rfl rfl ar_add_u64) rfl rfl (bl rfl) ?_
     refine TrL.v (v_assign rfl rfl) rfl rfl (bl rfl) ?_
     refine TrL.nil (qblock_n (qthen_n ?_))
     refine Tr.region ?_
     refine TrL.v (v_move rfl rfl) rfl rfl (bl rfl) ?_
     refine TrL.v (v_arith rfl rfl rfl ar_add_i64) rfl rfl (bl rfl) ?_
     refine TrL.v (v_assign rfl rfl) rfl rfl (bl rfl) ?_
     have hz := Option.some.inj hy2
     subst hz
     refine TrL.nil (qloop_n (()) (Imp.re _ [0, 1] [0, 1] (sc rfl (sc rfl (sc rfl (sc rfl sn)))) (by decide) rfl rfl rfl))
    ·refine Tr.cond_f rfl (bf_dec h9) ?_
     have hz := Option.some.inj hy2
     subst hz
     refine Tr.exit (qthen_x (qloop_x (qblock_hit (qcut_hit s5.1 (()) (hx4 _ rfl).symm (Imp.re _ [0, 1] [0, 1] (sc rfl (sc rfl (sc rfl sn))) (by decide) rfl rfl rfl)))))
   ·subst hd2
    refine (qthen_n ?_)
    refine Tr.seq ?_
    refine Tr.region ?_
    refine TrL.v (v_fieldAddr' rfl fo51_0 rfl rfl) rfl rfl (bl rfl) ?_
    refine TrL.v (v_load (k := 0) rfl rfl rfl ty40 (fun _ => rfl) rfl rfl) rfl rfl (bl rfl) ?_
    obtain ⟨h10, H⟩ := mst H
    refine TrL.addF' (slF (rInt .u8) (slA A1 (8 : Int).toNat c1 1) (c1 - (8 : Int).toNat) (p1.1.drop (8 : Int).toNat)) (slx1_f (k := 0) rfl h10) ?_
    refine TrL.v (slx1_v (rp := (rInt .u8)) (xs := p1.1) (k := 0) rfl sl40 ty5 rfl rfl rfl h10 rfl) rfl rfl (bl rfl) ?_
    refine TrL.v (v_fieldAddr' rfl fo51_0 rfl rfl) rfl rfl (bl rfl) ?_
    refine TrL.cons rfl (op_store' (k := 0) (c' := [.slice (slA A1 (8 : Int).toNat c1 1) ((p1.1.drop (8 : Int).toNat).length) (c1 - (8 : Int).toNat), .int .i64 p1.2]) rfl rfl rfl rfl rfl ty40 rfl (Nat.le_of_ble_eq_true rfl) (ones (oc rfl on)) rfl ?_)
    refine TrL.nil (qthen_n ?_)
    refine Tr.seq ?_
    refine Tr.region ?_
    refine TrL.v (v_load (k := 0) rfl rfl rfl ty51 nofun rfl rfl) rfl rfl (bl rfl) ?_
    refine TrL.v (v_move rfl rfl) rfl rfl (bl rfl) ?_
    refine TrL.cons rfl (op_store' (k := 1) (c' := [.slice (slA A1 (8 : Int).toNat c1 1) ((p1.1.drop (8 : Int).toNat).length) (c1 - (8 : Int).toNat), .int .i64 p1.2]) rfl rfl rfl rfl rfl ty51 rfl (Nat.le_of_ble_eq_true rfl) (ones (oc rfl (oc rfl on))) rfl ?_)
    refine TrL.v (v_assign rfl rfl) rfl rfl (bl rfl) ?_
    refine TrL.nil (qthen_n ?_)
    have hz := Option.some.inj H
    subst hz
    refine Tr.ret (ret_r ⟨[(2, .pointer (some ⟨b4, 0, none⟩)), (3, .int .u64 x2)], [cells b4 [.slice (slA A1 (8 : Int).toNat c1 1) ((p1.1.drop (8 : Int).toNat).length) (c1 - (8 : Int).toNat), .int .i64 p1.2] 51], [slF (rInt .u8) (slA A1 (8 : Int).toNat c1 1) (c1 - (8 : Int).toNat) (p1.1.drop (8 : Int).toNat)], []⟩ [.agg #[.slice (slA A1 (8 : Int).toNat c1 1) ((p1.1.drop (8 : Int).toNat).length) (c1 - (8 : Int).toNat), .int .i64 p1.2], .int .u64 x2] [] [cells b4 [.slice (slA A1 (8 : Int).toNat c1 1) ((p1.1.drop (8 : Int).toNat).length) (c1 - (8 : Int).toNat), .int .i64 p1.2] 51] (Imp.re _ [1] [2] (sc rfl (sc rfl sn)) (by decide) rfl rfl rfl) rfl rfl ⟨((slA A1 (8 : Int).toNat c1 1, c1 - (8 : Int).toNat)), rfl, rfl, rfl⟩ (.cons (resv_cell (k := 0) rfl rfl ty51 nofun rfl rfl) (.cons (resv_tmp rfl) .nil)))
end Go.Proofs.Ytbeknohemgjfbaa.W
