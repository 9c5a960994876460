import Derived.Test.YtbeknohemgjfbaaKcv
import Derived.Test.YtbeknohemgjfbaaQcv
import Derived.Test.YtbeknohemgjfbaaWvarintacv
namespace Go.Proofs.Ytbeknohemgjfbaa.W
open Go Go.Proofs Go.Proofs.Ytbeknohemgjfbaa.L Go.Proofs.Ytbeknohemgjfbaa.Pu
set_option linter.unusedVariables false
set_option maxHeartbeats 4000000

theorem c_codec_Num (p1 : Int) (r : List Int) (H : codec_Num p1 = some r) :
  Ctr Try.prog 65 [.int .u64 p1] [] [] (fun ret M' F' => ∃ m : Option Addr × Nat × Option Nat, ret = .slice m.1 r.length m.2.1 ∧ M' = [grow 5 1 (.slice m.1 r.length m.2.1) r.length m.2.2] ∧ F' = [slF (rInt .u8) m.1 m.2.1 r]) := by
 unfold codec_Num at H
 refine ctr_ofI (N := 5) Try.func65 rfl Try.ntmps65 rfl (Nat.le_of_ble_eq_true rfl) (fun γ0 w0 => ?_)
 refine Tr.seq ?_
 refine Tr.region ?_
 refine TrL.v (v_assign rfl rfl) rfl rfl (bl rfl) ?_
 refine TrL.nil (qthen_n ?_)
 refine Tr.seq ?_
 refine Tr.region ?_
 refine TrL.v (v_move rfl rfl) rfl rfl (bl rfl) ?_
 obtain ⟨r2, hr2, H⟩ := bnd H
 refine TrL.cons rfl (op_call0' (vs := [.int .u64 p1]) (cap := []) [] rfl rfl (bl rfl) rfl rfl en126 (c_varint_Put p1 r2 hr2) rfl (fun ret M' F' hR2 => ?_))
 obtain ⟨m2, rfl, rfl, rfl⟩ := hR2
 refine TrL.v (v_assign rfl rfl) rfl rfl (bl rfl) ?_
 refine TrL.nil (qthen_n ?_)
 have hz := Option.some.inj H
 subst hz
 refine Tr.ret (ret_r ⟨[(2, .slice m2.1 r2.length m2.2.1)], [grow 5 1 (.slice m2.1 r2.length m2.2.1) r2.length m2.2.2], [slF (rInt .u8) m2.1 m2.2.1 r2], []⟩ [.slice m2.1 r2.length m2.2.1] [grow 5 1 (.slice m2.1 r2.length m2.2.1) r2.length m2.2.2] [] (Imp.re _ [0] [0] (sc rfl sn) (by decide) rfl rfl rfl) rfl rfl ⟨((m2.1, m2.2.1, m2.2.2)), rfl, rfl, rfl⟩ (.cons (resv_tmp rfl) .nil))

theorem c_codec_New (p1 : List Int) (A1 : Option Addr) (c1 : Nat) (r : Unit) (H : codec_New p1 = some r) :
  Ctr Try.prog 27 [.slice A1 p1.length c1] [] [slF (rInt .u8) A1 c1 p1] (fun ret M' F' => ∃ m : Nat, ret = .pointer (some ⟨m, 0, none⟩) ∧ M' = [cells m [.slice (slA A1 0 ((p1.length : Int)).toNat 1) ((p1.take ((p1.length : Int)).toNat).length) (((p1.length : Int)).toNat), .int .i64 0] 116] ∧ F' = [slF (rInt .u8) (slA A1 0 ((p1.length : Int)).toNat 1) (((p1.length : Int)).toNat) (p1.take ((p1.length : Int)).toNat)]) := by
 unfold codec_New at H
 refine ctr_ofI (N := 11) Try.func27 rfl Try.ntmps27 rfl (Nat.le_of_ble_eq_true rfl) (fun γ0 w0 => ?_)
 refine Tr.seq ?_
 refine Tr.region ?_
 refine TrL.v (v_assign rfl rfl) rfl rfl (bl rfl) ?_
 refine TrL.nil (qthen_n ?_)
 refine Tr.seq ?_
 refine Tr.region ?_
 refine TrL.v (v_move rfl rfl) rfl rfl (bl rfl) ?_
 refine TrL.v (v_move rfl rfl) rfl rfl (bl rfl) ?_
 refine TrL.v (v_len rfl sl40 rfl) rfl rfl (bl rfl) ?_
 refine TrL.v (v_move rfl rfl) rfl rfl (bl rfl) ?_
 refine TrL.v (v_len rfl sl40 rfl) rfl rfl (bl rfl) ?_
 obtain ⟨h2, H⟩ := mst H
 refine TrL.addF' (slF (rInt .u8) (slA A1 0 ((p1.length : Int)).toNat 1) (((p1.length : Int)).toNat) (p1.take ((p1.length : Int)).toNat)) (slx5_f (k := 0) rfl h2) ?_
 refine TrL.v (slx5_v (rp := (rInt .u8)) (xs := p1) (k := 0) rfl sl40 ty5 rfl rfl rfl rfl h2 rfl) rfl rfl (bl rfl) ?_
 refine TrL.v (v_build (vs := [.slice (slA A1 0 ((p1.length : Int)).toNat 1) ((p1.take ((p1.length : Int)).toNat).length) (((p1.length : Int)).toNat)]) (out := [.slice (slA A1 0 ((p1.length : Int)).toNat 1) ((p1.take ((p1.length : Int)).toNat).length) (((p1.length : Int)).toNat), .int .i64 0]) rfl pl116 ze116 rfl rfl) rfl rfl (bl rfl) ?_
 refine TrL.cons rfl (op_box' rfl (bl rfl) rfl rfl rfl (fun b2 => ?_))
 refine TrL.v (v_assign rfl rfl) rfl rfl (bl rfl) ?_
 refine TrL.nil (qthen_n ?_)
 have hz := Option.some.inj H
 subst hz
 refine Tr.ret (ret_r ⟨[(2, .pointer (some ⟨b2, 0, none⟩))], [cells b2 [.slice (slA A1 0 ((p1.length : Int)).toNat 1) ((p1.take ((p1.length : Int)).toNat).length) (((p1.length : Int)).toNat), .int .i64 0] 116], [slF (rInt .u8) (slA A1 0 ((p1.length : Int)).toNat 1) (((p1.length : Int)).toNat) (p1.take ((p1.length : Int)).toNat)], []⟩ [.pointer (some ⟨b2, 0, none⟩)] [cells b2 [.slice (slA A1 0 ((p1.length : Int)).toNat 1) ((p1.take ((p1.length : Int)).toNat).length) (((p1.length : Int)).toNat), .int .i64 0] 116] [] (Imp.re _ [0] [1] (sc rfl sn) (by decide) rfl rfl rfl) rfl rfl ⟨b2, rfl, rfl, rfl⟩ (.cons (resv_tmp rfl) .nil))

theorem c_codec_Reader_on (p1 : List Int × Int) (b1 : Nat) (A1 : Option Addr) (c1 : Nat) (r : Unit) (H : codec_Reader_on p1 = some r) :
  Ctr Try.prog 129 [.pointer (some ⟨b1, 0, none⟩)] [cells b1 [.slice A1 p1.1.length c1, .int .i64 p1.2] 116] [slF (rInt .u8) A1 c1 p1.1] (fun ret M' F' => ret = .bool (decide (p1.2 = 0)) ∧ M' = [cells b1 [.slice A1 p1.1.length c1, .int .i64 p1.2] 116] ∧ F' = [slF (rInt .u8) A1 c1 p1.1]) := by
 unfold codec_Reader_on at H
 refine ctr_ofI (N := 12) Try.func129 rfl Try.ntmps129 rfl (Nat.le_of_ble_eq_true rfl) (fun γ0 w0 => ?_)
 refine Tr.seq ?_
 refine Tr.region ?_
 refine TrL.v (v_assign rfl rfl) rfl rfl (bl rfl) ?_
 refine TrL.nil (qthen_n ?_)
 refine Tr.seq ?_
 refine Tr.region ?_
 refine TrL.v (v_move rfl rfl) rfl rfl (bl rfl) ?_
 refine TrL.v (v_pnilne (b := true) rfl Try.underlying47 rfl rfl rfl) rfl rfl (bl rfl) ?_
 refine TrL.v (v_move rfl rfl) rfl rfl (bl rfl) ?_
 refine TrL.cons_yes rfl rfl rfl rfl (OpTr.v (v_move rfl rfl) rfl (bl rfl) ?_)
 refine TrL.cons_yes rfl rfl rfl rfl (OpTr.v (v_nilCheck rfl rfl) rfl (bl rfl) ?_)
 refine TrL.cons_yes rfl rfl rfl rfl (OpTr.v (v_fieldAddr' rfl fo116_1 rfl rfl) rfl (bl rfl) ?_)
 refine TrL.cons_yes rfl rfl rfl rfl (OpTr.v (v_load (k := 0) rfl rfl rfl ty33 (fun _ => rfl) rfl rfl) rfl (bl rfl) ?_)
 refine TrL.cons_yes rfl rfl rfl rfl (OpTr.v (v_arith rfl rfl rfl ar_eql) rfl (bl rfl) ?_)
 refine TrL.v (v_pick_t rfl rfl rfl rfl) rfl rfl (bl rfl) ?_
 refine TrL.v (v_assign rfl rfl) rfl rfl (bl rfl) ?_
 refine TrL.nil (qthen_n ?_)
 have hz := Option.some.inj H
 subst hz
 refine Tr.ret (ret_r ⟨[(2, .bool (decide (p1.2 = 0)))], [cells b1 [.slice A1 p1.1.length c1, .int .i64 p1.2] 116], [slF (rInt .u8) A1 c1 p1.1], []⟩ [.bool (decide (p1.2 = 0))] [cells b1 [.slice A1 p1.1.length c1, .int .i64 p1.2] 116] [] (Imp.re _ [0] [0] (sc rfl sn) (by decide) rfl rfl rfl) rfl rfl ⟨rfl, rfl, rfl⟩ (.cons (resv_tmp rfl) .nil))

theorem c_codec_Reader_number (p1 : List Int × Int) (p2 : Int) (b1 : Nat) (A1 : Option Addr) (c1 : Nat) (r : Int × Int × Int) (H : codec_Reader_number p1 p2 = some r) :
  Ctr Try.prog 130 [.pointer (some ⟨b1, 0, none⟩), .int .u64 p2] [cells b1 [.slice A1 p1.1.length c1, .int .i64 p1.2] 116] [slF (rInt .u8) A1 c1 p1.1] (fun ret M' F' => ret = .tuple #[.int .u64 r.1, .int .i64 r.2.1] ∧ M' = [cells b1 [.slice A1 p1.1.length c1, .int .i64 r.2.2] 116] ∧ F' = [slF (rInt .u8) A1 c1 p1.1]) := by
 unfold codec_Reader_number at H
 refine ctr_ofI (N := 33) Try.func130 rfl Try.ntmps130 rfl (Nat.le_of_ble_eq_true rfl) (fun γ0 w0 => ?_)
 refine Tr.seq ?_
 refine Tr.region ?_
 refine TrL.v (v_assign rfl rfl) rfl rfl (bl rfl) ?_
 refine TrL.v (v_assign rfl rfl) rfl rfl (bl rfl) ?_
 refine TrL.nil (qthen_n ?_)
 refine Tr.seq ?_
 refine Tr.region ?_
 refine TrL.v (v_move rfl rfl) rfl rfl (bl rfl) ?_
 refine TrL.v (v_nilCheck rfl rfl) rfl rfl (bl rfl) ?_
 refine TrL.v (v_fieldAddr' rfl fo116_0 rfl rfl) rfl rfl (bl rfl) ?_
 refine TrL.v (v_load (k := 0) rfl rfl rfl ty40 (fun _ => rfl) rfl rfl) rfl rfl (bl rfl) ?_
 obtain ⟨r2, hr2, H⟩ := bnd H
 refine TrL.cons rfl (op_call0' (vs := [.slice A1 p1.1.length c1]) (cap := []) [0] rfl rfl (bl rfl) rfl rfl en164 (c_varint_Take p1.1 A1 c1 r2 hr2) rfl (fun ret M' F' hR2 => ?_))
 obtain ⟨rfl, rfl, rfl⟩ := hR2
 refine TrL.v (v_move rfl rfl) rfl rfl (bl rfl) ?_
 refine TrL.v (v_extract rfl rfl rfl) rfl rfl (bl rfl) ?_
 refine TrL.v (v_extract rfl rfl rfl) rfl rfl (bl rfl) ?_
 refine TrL.v (v_extract rfl rfl rfl) rfl rfl (bl rfl) ?_
 refine TrL.v (v_assign rfl rfl) rfl rfl (bl rfl) ?_
 refine TrL.v (v_assign rfl rfl) rfl rfl (bl rfl) ?_
 refine TrL.v (v_assign rfl rfl) rfl rfl (bl rfl) ?_
 refine TrL.nil (qthen_n ?_)
 refine Tr.seq ?_
 refine Tr.seq ?_
 obtain ⟨j2, hj2, H⟩ := bnd H
 refine Tr.cutE (D := Bool) (M := Unit) .normal (fun _d => j2 = _d) (fun j2 m4 => ⟨[(0, .pointer (some ⟨b1, 0, none⟩)), (6, .int .u64 r2.1), (7, .int .i64 r2.2.1), (8, .int .i64 r2.2.2), (24, .bool j2)], [cells b1 [.slice A1 p1.1.length c1, .int .i64 p1.2] 116], [slF (rInt .u8) A1 c1 p1.1], []⟩) ?_ (fun j2 m4 hd2 => ?_)
 ·refine Tr.region ?_
  refine TrL.v (v_move rfl rfl) rfl rfl (bl rfl) ?_
  refine TrL.v (v_arith rfl rfl rfl ar_eql) rfl rfl (bl rfl) ?_
  refine TrL.v (v_move rfl rfl) rfl rfl (bl rfl) ?_
  rcases ifc hj2 with ⟨h8, hj2⟩ | ⟨h8, hj2⟩
  ·refine TrL.cons_yes rfl rfl rfl (bt_dec h8) (OpTr.v (v_move rfl rfl) rfl (bl rfl) ?_)
   refine TrL.cons_yes rfl rfl rfl (bt_dec h8) (OpTr.v (v_move rfl rfl) rfl (bl rfl) ?_)
   refine TrL.cons_yes rfl rfl rfl (bt_dec h8) (OpTr.v (v_arith rfl rfl rfl ar_gtr) rfl (bl rfl) ?_)
   refine TrL.v (v_pick_t rfl rfl (bt_dec h8) rfl) rfl rfl (bl rfl) ?_
   refine TrL.nil (qcut_hit (decide (p2 < r2.1)) (()) (Option.some.inj hj2).symm (Imp.re _ [0] [0] (sc rfl (sc rfl (sc rfl (sc rfl (sc rfl sn))))) (by decide) rfl rfl rfl))
  ·refine TrL.cons_no rfl rfl rfl (gn_t (bf_dec h8)) rfl (bl rfl) ?_
   refine TrL.cons_no rfl rfl rfl (gn_t (bf_dec h8)) rfl (bl rfl) ?_
   refine TrL.cons_no rfl rfl rfl (gn_t (bf_dec h8)) rfl (bl rfl) ?_
   refine TrL.v (v_pick_f rfl rfl (bf_dec h8) rfl) rfl rfl (bl rfl) ?_
   refine TrL.nil (qcut_hit false (()) (Option.some.inj hj2).symm (Imp.re _ [0] [0] (sc rfl (sc rfl (sc rfl (sc rfl (sc rfl sn))))) (by decide) rfl rfl rfl))
 ·subst hd2
  refine (qthen_n ?_)
  rcases ifc H with ⟨h9, H⟩ | ⟨h9, H⟩
  ·refine Tr.cond_t rfl h9 ?_
   refine Tr.region ?_
   refine TrL.v (v_assign rfl rfl) rfl rfl (bl rfl) ?_
   refine TrL.nil (qthen_n ?_)
   refine Tr.seq ?_
   refine Tr.seq ?_
   refine Tr.region ?_
   refine TrL.v (v_move rfl rfl) rfl rfl (bl rfl) ?_
   refine TrL.v (v_arith (v := .bool true) rfl rfl rfl rfl) rfl rfl (bl rfl) ?_
   refine TrL.nil (qthen_n ?_)
   refine Tr.cond_t rfl rfl ?_
   refine Tr.seq ?_
   refine Tr.region ?_
   refine TrL.v (v_move rfl rfl) rfl rfl (bl rfl) ?_
   refine TrL.v (v_move rfl rfl) rfl rfl (bl rfl) ?_
   refine TrL.v (v_nilCheck rfl rfl) rfl rfl (bl rfl) ?_
   refine TrL.v (v_fieldAddr' rfl fo116_1 rfl rfl) rfl rfl (bl rfl) ?_
   refine TrL.cons rfl (op_store' (k := 0) (c' := [.slice A1 p1.1.length c1, .int .i64 2]) rfl rfl rfl rfl rfl ty33 rfl (Nat.le_of_ble_eq_true rfl) (ones (oc rfl on)) rfl ?_)
   refine TrL.nil (qthen_n ?_)
   refine Tr.seq ?_
   refine Tr.region ?_
   refine TrL.v (v_assign rfl rfl) rfl rfl (bl rfl) ?_
   refine TrL.v (v_assign rfl rfl) rfl rfl (bl rfl) ?_
   refine TrL.nil (qthen_n ?_)
   have hz := Option.some.inj H
   subst hz
   refine Tr.ret (qthen_r (ret_r ⟨[(4, .int .u64 0), (5, .int .i64 0)], [cells b1 [.slice A1 p1.1.length c1, .int .i64 2] 116], [slF (rInt .u8) A1 c1 p1.1], []⟩ [.int .u64 0, .int .i64 0] [cells b1 [.slice A1 p1.1.length c1, .int .i64 2] 116] [] (Imp.re _ [0] [0] (sc rfl (sc rfl sn)) (by decide) rfl rfl rfl) rfl rfl ⟨rfl, rfl, rfl⟩ (.cons (resv_tmp rfl) (.cons (resv_tmp rfl) .nil))))
  ·refine Tr.cond_f rfl (bf_b h9) ?_
   refine Tr.skip (qthen_n ?_)
   refine Tr.seq ?_
   refine Tr.seq ?_
   refine Tr.region ?_
   refine TrL.v (v_move rfl rfl) rfl rfl (bl rfl) ?_
   refine TrL.v (v_arith rfl rfl rfl ar_neq) rfl rfl (bl rfl) ?_
   refine TrL.nil (qthen_n ?_)
   rcases ifc H with ⟨h10, H⟩ | ⟨h10, H⟩
   ·refine Tr.cond_t rfl (bt_dec h10) ?_
    refine Tr.seq ?_
    refine Tr.region ?_
    refine TrL.v (v_move rfl rfl) rfl rfl (bl rfl) ?_
    refine TrL.v (v_move rfl rfl) rfl rfl (bl rfl) ?_
    refine TrL.v (v_nilCheck rfl rfl) rfl rfl (bl rfl) ?_
    refine TrL.v (v_fieldAddr' rfl fo116_1 rfl rfl) rfl rfl (bl rfl) ?_
    refine TrL.cons rfl (op_store' (k := 0) (c' := [.slice A1 p1.1.length c1, .int .i64 r2.2.2]) rfl rfl rfl rfl rfl ty33 rfl (Nat.le_of_ble_eq_true rfl) (ones (oc rfl on)) rfl ?_)
    refine TrL.nil (qthen_n ?_)
    refine Tr.seq ?_
    refine Tr.region ?_
    refine TrL.v (v_assign rfl rfl) rfl rfl (bl rfl) ?_
    refine TrL.v (v_assign rfl rfl) rfl rfl (bl rfl) ?_
    refine TrL.nil (qthen_n ?_)
    have hz := Option.some.inj H
    subst hz
    refine Tr.ret (qthen_r (ret_r ⟨[(4, .int .u64 0), (5, .int .i64 0)], [cells b1 [.slice A1 p1.1.length c1, .int .i64 r2.2.2] 116], [slF (rInt .u8) A1 c1 p1.1], []⟩ [.int .u64 0, .int .i64 0] [cells b1 [.slice A1 p1.1.length c1, .int .i64 r2.2.2] 116] [] (Imp.re _ [0] [0] (sc rfl (sc rfl sn)) (by decide) rfl rfl rfl) rfl rfl ⟨rfl, rfl, rfl⟩ (.cons (resv_tmp rfl) (.cons (resv_tmp rfl) .nil))))
   ·refine Tr.cond_f rfl (bf_dec h10) ?_
    refine Tr.skip (qthen_n ?_)
    refine Tr.seq ?_
    refine Tr.region ?_
    refine TrL.v (v_move rfl rfl) rfl rfl (bl rfl) ?_
    refine TrL.v (v_move rfl rfl) rfl rfl (bl rfl) ?_
    refine TrL.v (v_assign rfl rfl) rfl rfl (bl rfl) ?_
    refine TrL.v (v_assign rfl rfl) rfl rfl (bl rfl) ?_
    refine TrL.nil (qthen_n ?_)
    have hz := Option.some.inj H
    subst hz
    refine Tr.ret (ret_r ⟨[(4, .int .u64 r2.1), (5, .int .i64 r2.2.1)], [cells b1 [.slice A1 p1.1.length c1, .int .i64 p1.2] 116], [slF (rInt .u8) A1 c1 p1.1], []⟩ [.int .u64 r2.1, .int .i64 r2.2.1] [cells b1 [.slice A1 p1.1.length c1, .int .i64 p1.2] 116] [] (Imp.re _ [0] [0] (sc rfl (sc rfl sn)) (by decide) rfl rfl rfl) rfl rfl ⟨rfl, rfl, rfl⟩ (.cons (resv_tmp rfl) (.cons (resv_tmp rfl) .nil)))

theorem c_codec_Reader_Num (p1 : List Int × Int) (p2 : Int) (b1 : Nat) (A1 : Option Addr) (c1 : Nat) (r : Int × List Int × Int) (H : codec_Reader_Num p1 p2 = some r) :
  Ctr Try.prog 69 [.pointer (some ⟨b1, 0, none⟩), .int .u64 p2] [cells b1 [.slice A1 p1.1.length c1, .int .i64 p1.2] 116] [slF (rInt .u8) A1 c1 p1.1] (fun ret M' F' => ∃ m : Option Addr × Nat, ret = .int .u64 r.1 ∧ M' = [cells b1 [.slice m.1 r.2.1.length m.2, .int .i64 r.2.2] 116] ∧ F' = [slF (rInt .u8) m.1 m.2 r.2.1]) := by
 unfold codec_Reader_Num at H
 refine ctr_ofI (N := 26) Try.func69 rfl Try.ntmps69 rfl (Nat.le_of_ble_eq_true rfl) (fun γ0 w0 => ?_)
 refine Tr.seq ?_
 refine Tr.region ?_
 refine TrL.v (v_assign rfl rfl) rfl rfl (bl rfl) ?_
 refine TrL.nil (qthen_n ?_)
 refine Tr.seq ?_
 refine Tr.seq ?_
 refine Tr.region ?_
 refine TrL.v (v_move rfl rfl) rfl rfl (bl rfl) ?_
 obtain ⟨r3, hr3, H⟩ := bnd H
 refine TrL.cons rfl (op_callg' (fs := []) (vs := [.pointer (some ⟨b1, 0, none⟩)]) (cap := []) (Mr := []) [0] [] [0] rfl rfl rfl en129 (c_codec_Reader_on p1 b1 A1 c1 r3 hr3) (by decide) rfl rfl rfl (bl rfl) (fun ret M' F' hR3 => ?_))
 obtain ⟨rfl, rfl, rfl⟩ := hR3
 refine TrL.v (v_notd rfl rfl) rfl rfl (bl rfl) ?_
 refine TrL.nil (qthen_n ?_)
 rcases ifc H with ⟨h3, H⟩ | ⟨h3, H⟩
 ·refine Tr.cond_t rfl (bt_dec h3) ?_
  refine Tr.seq ?_
  refine Tr.region ?_
  refine TrL.v (v_assign rfl rfl) rfl rfl (bl rfl) ?_
  refine TrL.nil (qthen_n ?_)
  have hz := Option.some.inj H
  subst hz
  refine Tr.ret (qthen_r (ret_r ⟨[(4, .int .u64 0)], [cells b1 [.slice A1 p1.1.length c1, .int .i64 p1.2] 116], [slF (rInt .u8) A1 c1 p1.1], []⟩ [.int .u64 0] [cells b1 [.slice A1 p1.1.length c1, .int .i64 p1.2] 116] [] (Imp.re _ [0] [0] (sc rfl sn) (by decide) rfl rfl rfl) rfl rfl ⟨((A1, c1)), rfl, rfl, rfl⟩ (.cons (resv_tmp rfl) .nil)))
 ·refine Tr.cond_f rfl (bf_dec h3) ?_
  refine Tr.skip (qthen_n ?_)
  refine Tr.seq ?_
  refine Tr.region ?_
  refine TrL.v (v_move rfl rfl) rfl rfl (bl rfl) ?_
  refine TrL.v (v_move rfl rfl) rfl rfl (bl rfl) ?_
  obtain ⟨r4, hr4, H⟩ := bnd H
  refine TrL.cons rfl (op_callg' (fs := []) (vs := [.pointer (some ⟨b1, 0, none⟩), .int .u64 p2]) (cap := []) (Mr := []) [0] [] [0] rfl rfl rfl en130 (c_codec_Reader_number p1 p2 b1 A1 c1 r4 hr4) (by decide) rfl rfl rfl (bl rfl) (fun ret M' F' hR4 => ?_))
  obtain ⟨rfl, rfl, rfl⟩ := hR4
  refine TrL.v (v_move rfl rfl) rfl rfl (bl rfl) ?_
  refine TrL.v (v_extract rfl rfl rfl) rfl rfl (bl rfl) ?_
  refine TrL.v (v_extract rfl rfl rfl) rfl rfl (bl rfl) ?_
  refine TrL.v (v_assign rfl rfl) rfl rfl (bl rfl) ?_
  refine TrL.v (v_assign rfl rfl) rfl rfl (bl rfl) ?_
  refine TrL.nil (qthen_n ?_)
  refine Tr.seq ?_
  refine Tr.region ?_
  refine TrL.v (v_move rfl rfl) rfl rfl (bl rfl) ?_
  refine TrL.v (v_move rfl rfl) rfl rfl (bl rfl) ?_
  refine TrL.v (v_nilCheck rfl rfl) rfl rfl (bl rfl) ?_
  refine TrL.v (v_fieldAddr' rfl fo116_0 rfl rfl) rfl rfl (bl rfl) ?_
  refine TrL.v (v_load (k := 0) rfl rfl rfl ty40 (fun _ => rfl) rfl rfl) rfl rfl (bl rfl) ?_
  refine TrL.v (v_move rfl rfl) rfl rfl (bl rfl) ?_
  obtain ⟨h4, H⟩ := mst H
  refine TrL.addF' (slF (rInt .u8) (slA A1 r4.2.1.toNat c1 1) (c1 - r4.2.1.toNat) (p1.1.drop r4.2.1.toNat)) (slx1_f (k := 0) rfl h4) ?_
  refine TrL.v (slx1_v (rp := (rInt .u8)) (xs := p1.1) (k := 0) rfl sl40 ty5 rfl rfl rfl h4 rfl) rfl rfl (bl rfl) ?_
  refine TrL.v (v_nilCheck rfl rfl) rfl rfl (bl rfl) ?_
  refine TrL.v (v_fieldAddr' rfl fo116_0 rfl rfl) rfl rfl (bl rfl) ?_
  refine TrL.cons rfl (op_store' (k := 0) (c' := [.slice (slA A1 r4.2.1.toNat c1 1) ((p1.1.drop r4.2.1.toNat).length) (c1 - r4.2.1.toNat), .int .i64 r4.2.2]) rfl rfl rfl rfl rfl ty40 rfl (Nat.le_of_ble_eq_true rfl) (ones (oc rfl on)) rfl ?_)
  refine TrL.nil (qthen_n ?_)
  refine Tr.seq ?_
  refine Tr.region ?_
  refine TrL.v (v_move rfl rfl) rfl rfl (bl rfl) ?_
  refine TrL.v (v_assign rfl rfl) rfl rfl (bl rfl) ?_
  refine TrL.nil (qthen_n ?_)
  have hz := Option.some.inj H
  subst hz
  refine Tr.ret (ret_r ⟨[(4, .int .u64 r4.1)], [cells b1 [.slice (slA A1 r4.2.1.toNat c1 1) ((p1.1.drop r4.2.1.toNat).length) (c1 - r4.2.1.toNat), .int .i64 r4.2.2] 116], [slF (rInt .u8) (slA A1 r4.2.1.toNat c1 1) (c1 - r4.2.1.toNat) (p1.1.drop r4.2.1.toNat)], []⟩ [.int .u64 r4.1] [cells b1 [.slice (slA A1 r4.2.1.toNat c1 1) ((p1.1.drop r4.2.1.toNat).length) (c1 - r4.2.1.toNat), .int .i64 r4.2.2] 116] [] (Imp.re _ [0] [3] (sc rfl sn) (by decide) rfl rfl rfl) rfl rfl ⟨((slA A1 r4.2.1.toNat c1 1, c1 - r4.2.1.toNat)), rfl, rfl, rfl⟩ (.cons (resv_tmp rfl) .nil))

theorem c_codec_Reader_Err (p1 : List Int × Int) (b1 : Nat) (A1 : Option Addr) (c1 : Nat) (r : Unit) (H : codec_Reader_Err p1 = some r) :
  Ctr Try.prog 32 [.pointer (some ⟨b1, 0, none⟩)] [cells b1 [.slice A1 p1.1.length c1, .int .i64 p1.2] 116] [slF (rInt .u8) A1 c1 p1.1] (fun ret M' F' => ret = .int .i64 p1.2 ∧ M' = [cells b1 [.slice A1 p1.1.length c1, .int .i64 p1.2] 116] ∧ F' = [slF (rInt .u8) A1 c1 p1.1]) := by
 unfold codec_Reader_Err at H
 refine ctr_ofI (N := 9) Try.func32 rfl Try.ntmps32 rfl (Nat.le_of_ble_eq_true rfl) (fun γ0 w0 => ?_)
 refine Tr.seq ?_
 refine Tr.region ?_
 refine TrL.v (v_assign rfl rfl) rfl rfl (bl rfl) ?_
 refine TrL.nil (qthen_n ?_)
 refine Tr.seq ?_
 refine Tr.seq ?_
 refine Tr.region ?_
 refine TrL.v (v_move rfl rfl) rfl rfl (bl rfl) ?_
 refine TrL.v (v_pnil (b := false) rfl Try.underlying47 rfl rfl rfl) rfl rfl (bl rfl) ?_
 refine TrL.nil (qthen_n ?_)
 refine Tr.cond_f rfl rfl ?_
 refine Tr.skip (qthen_n ?_)
 refine Tr.seq ?_
 refine Tr.region ?_
 refine TrL.v (v_move rfl rfl) rfl rfl (bl rfl) ?_
 refine TrL.v (v_nilCheck rfl rfl) rfl rfl (bl rfl) ?_
 refine TrL.v (v_fieldAddr' rfl fo116_1 rfl rfl) rfl rfl (bl rfl) ?_
 refine TrL.v (v_load (k := 0) rfl rfl rfl ty33 (fun _ => rfl) rfl rfl) rfl rfl (bl rfl) ?_
 refine TrL.v (v_assign rfl rfl) rfl rfl (bl rfl) ?_
 refine TrL.nil (qthen_n ?_)
 have hz := Option.some.inj H
 subst hz
 refine Tr.ret (ret_r ⟨[(2, .int .i64 p1.2)], [cells b1 [.slice A1 p1.1.length c1, .int .i64 p1.2] 116], [slF (rInt .u8) A1 c1 p1.1], []⟩ [.int .i64 p1.2] [cells b1 [.slice A1 p1.1.length c1, .int .i64 p1.2] 116] [] (Imp.re _ [0] [0] (sc rfl sn) (by decide) rfl rfl rfl) rfl rfl ⟨rfl, rfl, rfl⟩ (.cons (resv_tmp rfl) .nil))

theorem c_codec_Reader_Fail (p1 : List Int × Int) (p2 : Int) (b1 : Nat) (A1 : Option Addr) (c1 : Nat) (r : Int) (H : codec_Reader_Fail p1 p2 = some r) :
  Ctr Try.prog 72 [.pointer (some ⟨b1, 0, none⟩), .int .i64 p2] [cells b1 [.slice A1 p1.1.length c1, .int .i64 p1.2] 116] [slF (rInt .u8) A1 c1 p1.1] (fun ret M' F' => ret = ret1 [] ∧ M' = [cells b1 [.slice A1 p1.1.length c1, .int .i64 r] 116] ∧ F' = [slF (rInt .u8) A1 c1 p1.1]) := by
 unfold codec_Reader_Fail at H
 refine ctr_ofI (N := 10) Try.func72 rfl Try.ntmps72 rfl (Nat.le_of_ble_eq_true rfl) (fun γ0 w0 => ?_)
 refine Tr.seq ?_
 refine Tr.region ?_
 refine TrL.v (v_move rfl rfl) rfl rfl (bl rfl) ?_
 obtain ⟨r2, hr2, H⟩ := bnd H
 refine TrL.cons rfl (op_callg' (fs := []) (vs := [.pointer (some ⟨b1, 0, none⟩)]) (cap := []) (Mr := []) [0] [] [0] rfl rfl rfl en129 (c_codec_Reader_on p1 b1 A1 c1 r2 hr2) (by decide) rfl rfl rfl (bl rfl) (fun ret M' F' hR2 => ?_))
 obtain ⟨rfl, rfl, rfl⟩ := hR2
 refine TrL.nil (qthen_n ?_)
 rcases ifc H with ⟨h2, H⟩ | ⟨h2, H⟩
 ·refine Tr.cond_t rfl (bt_dec h2) ?_
  refine Tr.region ?_
  refine TrL.v (v_move rfl rfl) rfl rfl (bl rfl) ?_
  refine TrL.v (v_move rfl rfl) rfl rfl (bl rfl) ?_
  refine TrL.v (v_nilCheck rfl rfl) rfl rfl (bl rfl) ?_
  refine TrL.v (v_fieldAddr' rfl fo116_1 rfl rfl) rfl rfl (bl rfl) ?_
  refine TrL.cons rfl (op_store' (k := 0) (c' := [.slice A1 p1.1.length c1, .int .i64 p2]) rfl rfl rfl rfl rfl ty33 rfl (Nat.le_of_ble_eq_true rfl) (ones (oc rfl on)) rfl ?_)
  have hz := Option.some.inj H
  subst hz
  refine TrL.nil (ret_n ⟨[], [cells b1 [.slice A1 p1.1.length c1, .int .i64 p2] 116], [slF (rInt .u8) A1 c1 p1.1], []⟩ [] [cells b1 [.slice A1 p1.1.length c1, .int .i64 p2] 116] [] (Imp.re _ [0] [0] sn (by decide) rfl rfl rfl) rfl rfl ⟨rfl, rfl, rfl⟩ .nil)
 ·refine Tr.cond_f rfl (bf_dec h2) ?_
  have hz := Option.some.inj H
  subst hz
  refine Tr.skip (ret_n ⟨[], [cells b1 [.slice A1 p1.1.length c1, .int .i64 p1.2] 116], [slF (rInt .u8) A1 c1 p1.1], []⟩ [] [cells b1 [.slice A1 p1.1.length c1, .int .i64 p1.2] 116] [] (Imp.re _ [0] [0] sn (by decide) rfl rfl rfl) rfl rfl ⟨rfl, rfl, rfl⟩ .nil)

theorem c_codec_Reader_Left (p1 : List Int × Int) (b1 : Nat) (A1 : Option Addr) (c1 : Nat) (r : Unit) (H : codec_Reader_Left p1 = some r) :
  Ctr Try.prog 31 [.pointer (some ⟨b1, 0, none⟩)] [cells b1 [.slice A1 p1.1.length c1, .int .i64 p1.2] 116] [slF (rInt .u8) A1 c1 p1.1] (fun ret M' F' => ret = .int .i64 ((p1.1.length : Int)) ∧ M' = [cells b1 [.slice A1 p1.1.length c1, .int .i64 p1.2] 116] ∧ F' = [slF (rInt .u8) A1 c1 p1.1]) := by
 unfold codec_Reader_Left at H
 refine ctr_ofI (N := 10) Try.func31 rfl Try.ntmps31 rfl (Nat.le_of_ble_eq_true rfl) (fun γ0 w0 => ?_)
 refine Tr.seq ?_
 refine Tr.region ?_
 refine TrL.v (v_assign rfl rfl) rfl rfl (bl rfl) ?_
 refine TrL.nil (qthen_n ?_)
 refine Tr.seq ?_
 refine Tr.seq ?_
 refine Tr.region ?_
 refine TrL.v (v_move rfl rfl) rfl rfl (bl rfl) ?_
 refine TrL.v (v_pnil (b := false) rfl Try.underlying47 rfl rfl rfl) rfl rfl (bl rfl) ?_
 refine TrL.nil (qthen_n ?_)
 refine Tr.cond_f rfl rfl ?_
 refine Tr.skip (qthen_n ?_)
 refine Tr.seq ?_
 refine Tr.region ?_
 refine TrL.v (v_move rfl rfl) rfl rfl (bl rfl) ?_
 refine TrL.v (v_nilCheck rfl rfl) rfl rfl (bl rfl) ?_
 refine TrL.v (v_fieldAddr' rfl fo116_0 rfl rfl) rfl rfl (bl rfl) ?_
 refine TrL.v (v_load (k := 0) rfl rfl rfl ty40 (fun _ => rfl) rfl rfl) rfl rfl (bl rfl) ?_
 refine TrL.v (v_len rfl sl40 rfl) rfl rfl (bl rfl) ?_
 refine TrL.v (v_assign rfl rfl) rfl rfl (bl rfl) ?_
 refine TrL.nil (qthen_n ?_)
 have hz := Option.some.inj H
 subst hz
 refine Tr.ret (ret_r ⟨[(2, .int .i64 ((p1.1.length : Int)))], [cells b1 [.slice A1 p1.1.length c1, .int .i64 p1.2] 116], [slF (rInt .u8) A1 c1 p1.1], []⟩ [.int .i64 ((p1.1.length : Int))] [cells b1 [.slice A1 p1.1.length c1, .int .i64 p1.2] 116] [] (Imp.re _ [0] [0] (sc rfl sn) (by decide) rfl rfl rfl) rfl rfl ⟨rfl, rfl, rfl⟩ (.cons (resv_tmp rfl) .nil))

theorem c_codec_Reader_End (p1 : List Int × Int) (b1 : Nat) (A1 : Option Addr) (c1 : Nat) (r : Int) (H : codec_Reader_End p1 = some r) :
  Ctr Try.prog 36 [.pointer (some ⟨b1, 0, none⟩)] [cells b1 [.slice A1 p1.1.length c1, .int .i64 p1.2] 116] [slF (rInt .u8) A1 c1 p1.1] (fun ret M' F' => ret = .int .i64 r ∧ M' = [cells b1 [.slice A1 p1.1.length c1, .int .i64 p1.2] 116] ∧ F' = [slF (rInt .u8) A1 c1 p1.1]) := by
 unfold codec_Reader_End at H
 refine ctr_ofI (N := 12) Try.func36 rfl Try.ntmps36 rfl (Nat.le_of_ble_eq_true rfl) (fun γ0 w0 => ?_)
 refine Tr.seq ?_
 refine Tr.region ?_
 refine TrL.v (v_assign rfl rfl) rfl rfl (bl rfl) ?_
 refine TrL.nil (qthen_n ?_)
 refine Tr.seq ?_
 refine Tr.seq ?_
 refine Tr.region ?_
 refine TrL.v (v_move rfl rfl) rfl rfl (bl rfl) ?_
 obtain ⟨r3, hr3, H⟩ := bnd H
 refine TrL.cons rfl (op_callg' (fs := []) (vs := [.pointer (some ⟨b1, 0, none⟩)]) (cap := []) (Mr := []) [0] [] [0] rfl rfl rfl en32 (c_codec_Reader_Err p1 b1 A1 c1 r3 hr3) (by decide) rfl rfl rfl (bl rfl) (fun ret M' F' hR3 => ?_))
 obtain ⟨rfl, rfl, rfl⟩ := hR3
 refine TrL.v (v_assign rfl rfl) rfl rfl (bl rfl) ?_
 refine TrL.nil (qthen_n ?_)
 refine Tr.seq ?_
 refine Tr.region ?_
 refine TrL.v (v_move rfl rfl) rfl rfl (bl rfl) ?_
 refine TrL.v (v_arith rfl rfl rfl ar_neq) rfl rfl (bl rfl) ?_
 refine TrL.nil (qthen_n ?_)
 rcases ifc H with ⟨h3, H⟩ | ⟨h3, H⟩
 ·refine Tr.cond_t rfl (bt_dec h3) ?_
  refine Tr.seq ?_
  refine Tr.region ?_
  refine TrL.v (v_move rfl rfl) rfl rfl (bl rfl) ?_
  refine TrL.v (v_assign rfl rfl) rfl rfl (bl rfl) ?_
  refine TrL.nil (qthen_n ?_)
  have hz := Option.some.inj H
  subst hz
  refine Tr.ret (qthen_r (ret_r ⟨[(2, .int .i64 p1.2)], [cells b1 [.slice A1 p1.1.length c1, .int .i64 p1.2] 116], [slF (rInt .u8) A1 c1 p1.1], []⟩ [.int .i64 p1.2] [cells b1 [.slice A1 p1.1.length c1, .int .i64 p1.2] 116] [] (Imp.re _ [0] [0] (sc rfl sn) (by decide) rfl rfl rfl) rfl rfl ⟨rfl, rfl, rfl⟩ (.cons (resv_tmp rfl) .nil)))
 ·refine Tr.cond_f rfl (bf_dec h3) ?_
  refine Tr.skip (qthen_n ?_)
  refine Tr.seq ?_
  refine Tr.seq ?_
  refine Tr.region ?_
  refine TrL.v (v_move rfl rfl) rfl rfl (bl rfl) ?_
  obtain ⟨r4, hr4, H⟩ := bnd H
  refine TrL.cons rfl (op_callg' (fs := []) (vs := [.pointer (some ⟨b1, 0, none⟩)]) (cap := []) (Mr := []) [0] [] [0] rfl rfl rfl en31 (c_codec_Reader_Left p1 b1 A1 c1 r4 hr4) (by decide) rfl rfl rfl (bl rfl) (fun ret M' F' hR4 => ?_))
  obtain ⟨rfl, rfl, rfl⟩ := hR4
  refine TrL.v (v_arith rfl rfl rfl ar_gtr) rfl rfl (bl rfl) ?_
  refine TrL.nil (qthen_n ?_)
  rcases ifc H with ⟨h4, H⟩ | ⟨h4, H⟩
  ·refine Tr.cond_t rfl (bt_dec h4) ?_
   refine Tr.seq ?_
   refine Tr.region ?_
   refine TrL.v (v_assign rfl rfl) rfl rfl (bl rfl) ?_
   refine TrL.nil (qthen_n ?_)
   have hz := Option.some.inj H
   subst hz
   refine Tr.ret (qthen_r (ret_r ⟨[(2, .int .i64 2)], [cells b1 [.slice A1 p1.1.length c1, .int .i64 p1.2] 116], [slF (rInt .u8) A1 c1 p1.1], []⟩ [.int .i64 2] [cells b1 [.slice A1 p1.1.length c1, .int .i64 p1.2] 116] [] (Imp.re _ [0] [0] (sc rfl sn) (by decide) rfl rfl rfl) rfl rfl ⟨rfl, rfl, rfl⟩ (.cons (resv_tmp rfl) .nil)))
  ·refine Tr.cond_f rfl (bf_dec h4) ?_
   refine Tr.skip (qthen_n ?_)
   refine Tr.seq ?_
   refine Tr.region ?_
   refine TrL.v (v_assign rfl rfl) rfl rfl (bl rfl) ?_
   refine TrL.nil (qthen_n ?_)
   have hz := Option.some.inj H
   subst hz
   refine Tr.ret (ret_r ⟨[(2, .int .i64 0)], [cells b1 [.slice A1 p1.1.length c1, .int .i64 p1.2] 116], [slF (rInt .u8) A1 c1 p1.1], []⟩ [.int .i64 0] [cells b1 [.slice A1 p1.1.length c1, .int .i64 p1.2] 116] [] (Imp.re _ [0] [0] (sc rfl sn) (by decide) rfl rfl rfl) rfl rfl ⟨rfl, rfl, rfl⟩ (.cons (resv_tmp rfl) .nil))

theorem c_codec_Fixed (p1 : Int) (r : List Int) (H : codec_Fixed p1 = some r) :
  Ctr Try.prog 157 [.int .u64 p1] [] [] (fun ret M' F' => ∃ m : Option Addr × Nat, ret = .slice m.1 r.length m.2 ∧ M' = [] ∧ F' = [slF (rInt .u8) m.1 m.2 r]) := by
 unfold codec_Fixed at H
 refine ctr_ofI (N := 20) Try.func157 rfl Try.ntmps157 rfl (Nat.le_of_ble_eq_true rfl) (fun γ0 w0 => ?_)
 refine Tr.seq ?_
 refine Tr.region ?_
 refine TrL.v (v_assign rfl rfl) rfl rfl (bl rfl) ?_
 refine TrL.nil (qthen_n ?_)
 refine Tr.seq ?_
 refine Tr.region ?_
 refine TrL.cons rfl (op_makeS (rp := (rInt .u8)) (n := 8) (z := ((0 : Int) : Int)) rfl (bl rfl) rfl sl40 ty5 ze5 rfl by5 rfl rfl (by decide) rfl (by decide) (fun _ _ => rfl) (fun A2 => ?_))
 refine TrL.v (v_assign rfl rfl) rfl rfl (bl rfl) ?_
 refine TrL.nil (qthen_n ?_)
 refine Tr.seq ?_
 refine Tr.seq ?_
 refine Tr.region ?_
 refine TrL.v (v_move rfl rfl) rfl rfl (bl rfl) ?_
 refine TrL.nil (qthen_n ?_)
 obtain ⟨x2, hx3, H⟩ := bnd H
 refine Tr.cutE (D := List Int) (M := Unit) .normal (fun _d => x2 = _d) (fun x2 m8 => ⟨[(3, .slice A2 8 8)], [arr (rInt .u8) 5 A2 8 8 x2], [], []⟩) ?_ (fun x2 m8 hd2 => ?_)
 ·refine Tr.block (Tr.loopI (ι := Unit) (step := codec_Fixed_s0 p1) (fun s5 m6 => ⟨[(0, .int .u64 p1), (3, .slice A2 8 8), (6, .int .i64 s5.2)], [arr (rInt .u8) 5 A2 8 8 s5.1], [], []⟩) (()) hx3 (Imp.re _ [0] [] (sc rfl (sc rfl (sc rfl sn))) (by decide) rfl rfl rfl) (fun s5 m6 y2 hy2 hx4 => ?_))
  unfold codec_Fixed_s0 at hy2
  refine Tr.seq ?_
  refine Tr.region ?_
  refine TrL.v (v_arith rfl rfl rfl ar_lss) rfl rfl (bl rfl) ?_
  refine TrL.nil (qthen_n ?_)
  refine Tr.seq ?_
  rcases ifc hy2 with ⟨h7, hy2⟩ | ⟨h7, hy2⟩
  ·refine Tr.cond_t rfl (bt_dec h7) ?_
   refine Tr.skip (qthen_n ?_)
   refine Tr.seq ?_
   refine Tr.block ?_
   refine Tr.seq ?_
   refine Tr.region ?_
   refine TrL.v (v_move rfl rfl) rfl rfl (bl rfl) ?_
   refine TrL.v (v_assign rfl rfl) rfl rfl (bl rfl) ?_
   refine TrL.nil (qthen_n ?_)
   refine Tr.region ?_
   refine TrL.v (v_move rfl rfl) rfl rfl (bl rfl) ?_
   refine TrL.v (v_move rfl rfl) rfl rfl (bl rfl) ?_
   refine TrL.v (v_arith rfl rfl rfl ar_sub_i64) rfl rfl (bl rfl) ?_
   refine TrL.v (v_move rfl rfl) rfl rfl (bl rfl) ?_
   refine TrL.v (v_move rfl rfl) rfl rfl (bl rfl) ?_
   refine TrL.v (v_arith rfl rfl rfl ar_mul_i64) rfl rfl (bl rfl) ?_
   obtain ⟨h8, hy2⟩ := mst hy2
   refine TrL.v (v_shr' rfl rfl rfl h8 rfl) rfl rfl (bl rfl) ?_
   refine TrL.v (v_conv' rfl ⟨_, Try.underlying28⟩ Try.underlying5 rfl wrap_u8') rfl rfl (bl rfl) ?_
   obtain ⟨z6, hz6, hy2⟩ := bnd hy2
   refine TrL.v (v_indexA (k := 0) rfl sl40 ty5 rfl rfl rfl hz6) rfl rfl (bl rfl) ?_
   refine TrL.cons rfl (op_storeAS (A := A2) (i := (wi64 (7 - s5.2))) (j := 0) (k := 0) (z' := wu8 (shrk 64 p1 (wi64 (8 * s5.2)))) rfl rfl rfl rfl rfl ty5 rfl hz6 (Nat.le_of_ble_eq_true rfl) (ones (oc rfl on)) rfl ?_)
   refine TrL.nil (qblock_n (qthen_n ?_))
   refine Tr.region ?_
   refine TrL.v (v_arith rfl rfl rfl ar_add_i64) rfl rfl (bl rfl) ?_
   refine TrL.v (v_move rfl rfl) rfl rfl (bl rfl) ?_
   have hz := Option.some.inj hy2
   subst hz
   refine TrL.nil (qloop_n (()) (Imp.re _ [0] [] (sc rfl (sc rfl (sc rfl sn))) (by decide) rfl rfl rfl))
  ·refine Tr.cond_f rfl (bf_dec h7) ?_
   have hz := Option.some.inj hy2
   subst hz
   refine Tr.exit (qthen_x (qloop_x (qblock_hit (qcut_hit s5.1 (()) (hx4 _ rfl).symm (Imp.re _ [0] [] (sc rfl sn) (by decide) rfl rfl rfl)))))
 ·subst hd2
  refine (qthen_n ?_)
  refine Tr.seq ?_
  refine Tr.region ?_
  refine TrL.v (v_move rfl rfl) rfl rfl (bl rfl) ?_
  refine TrL.v (v_assign rfl rfl) rfl rfl (bl rfl) ?_
  refine TrL.nil (qthen_n ?_)
  refine Tr.renormF (fun nn => ⟨[(2, .slice A2 nn 8), (3, .slice A2 nn 8), (19, .slice A2 nn 8)], [arr (rInt .u8) 5 A2 nn 8 x2], [], []⟩) 0 (Imp.re _ [0] [] (sc rfl (sc rfl (sc rfl sn))) (by decide) rfl rfl rfl) rfl ?_
  refine Tr.shut' 0 rfl ?_
  have hz := Option.some.inj H
  subst hz
  refine Tr.ret (ret_r ⟨[(2, .slice A2 x2.length 8)], [], [slF (rInt .u8) A2 8 x2], []⟩ [.slice A2 x2.length 8] [] [] (Imp.re _ [] [0] (sc rfl sn) (by decide) rfl rfl rfl) rfl rfl ⟨((A2, 8)), rfl, rfl, rfl⟩ (.cons (resv_tmp rfl) .nil))

theorem c_codec_Reader_Fixed (p1 : List Int × Int) (b1 : Nat) (A1 : Option Addr) (c1 : Nat) (r : Int × List Int × Int) (H : codec_Reader_Fixed p1 = some r) :
  Ctr Try.prog 109 [.pointer (some ⟨b1, 0, none⟩)] [cells b1 [.slice A1 p1.1.length c1, .int .i64 p1.2] 116] [slF (rInt .u8) A1 c1 p1.1] (fun ret M' F' => ∃ m : Option Addr × Nat, ret = .int .u64 r.1 ∧ M' = [cells b1 [.slice m.1 r.2.1.length m.2, .int .i64 r.2.2] 116] ∧ F' = [slF (rInt .u8) m.1 m.2 r.2.1]) := by
 unfold codec_Reader_Fixed at H
 refine ctr_ofI (N := 43) Try.func109 rfl Try.ntmps109 rfl (Nat.le_of_ble_eq_true rfl) (fun γ0 w0 => ?_)
 refine Tr.seq ?_
 refine Tr.region ?_
 refine TrL.v (v_assign rfl rfl) rfl rfl (bl rfl) ?_
 refine TrL.nil (qthen_n ?_)
 refine Tr.seq ?_
 refine Tr.seq ?_
 refine Tr.region ?_
 refine TrL.v (v_move rfl rfl) rfl rfl (bl rfl) ?_
 obtain ⟨r2, hr2, H⟩ := bnd H
 refine TrL.cons rfl (op_callg' (fs := []) (vs := [.pointer (some ⟨b1, 0, none⟩)]) (cap := []) (Mr := []) [0] [] [0] rfl rfl rfl en129 (c_codec_Reader_on p1 b1 A1 c1 r2 hr2) (by decide) rfl rfl rfl (bl rfl) (fun ret M' F' hR2 => ?_))
 obtain ⟨rfl, rfl, rfl⟩ := hR2
 refine TrL.v (v_notd rfl rfl) rfl rfl (bl rfl) ?_
 refine TrL.nil (qthen_n ?_)
 rcases ifc H with ⟨h7, H⟩ | ⟨h7, H⟩
 ·refine Tr.cond_t rfl (bt_dec h7) ?_
  refine Tr.seq ?_
  refine Tr.region ?_
  refine TrL.v (v_assign rfl rfl) rfl rfl (bl rfl) ?_
  refine TrL.nil (qthen_n ?_)
  have hz := Option.some.inj H
  subst hz
  refine Tr.ret (qthen_r (ret_r ⟨[(2, .int .u64 0)], [cells b1 [.slice A1 p1.1.length c1, .int .i64 p1.2] 116], [slF (rInt .u8) A1 c1 p1.1], []⟩ [.int .u64 0] [cells b1 [.slice A1 p1.1.length c1, .int .i64 p1.2] 116] [] (Imp.re _ [0] [0] (sc rfl sn) (by decide) rfl rfl rfl) rfl rfl ⟨((A1, c1)), rfl, rfl, rfl⟩ (.cons (resv_tmp rfl) .nil)))
 ·refine Tr.cond_f rfl (bf_dec h7) ?_
  refine Tr.skip (qthen_n ?_)
  refine Tr.seq ?_
  refine Tr.seq ?_
  refine Tr.region ?_
  refine TrL.v (v_move rfl rfl) rfl rfl (bl rfl) ?_
  refine TrL.v (v_nilCheck rfl rfl) rfl rfl (bl rfl) ?_
  refine TrL.v (v_fieldAddr' rfl fo116_0 rfl rfl) rfl rfl (bl rfl) ?_
  refine TrL.v (v_load (k := 0) rfl rfl rfl ty40 (fun _ => rfl) rfl rfl) rfl rfl (bl rfl) ?_
  refine TrL.v (v_len rfl sl40 rfl) rfl rfl (bl rfl) ?_
  refine TrL.v (v_arith rfl rfl rfl ar_lss) rfl rfl (bl rfl) ?_
  refine TrL.nil (qthen_n ?_)
  rcases ifc H with ⟨h8, H⟩ | ⟨h8, H⟩
  ·refine Tr.cond_t rfl (bt_dec h8) ?_
   refine Tr.seq ?_
   refine Tr.region ?_
   refine TrL.v (v_move rfl rfl) rfl rfl (bl rfl) ?_
   refine TrL.v (v_nilCheck rfl rfl) rfl rfl (bl rfl) ?_
   refine TrL.v (v_fieldAddr' rfl fo116_1 rfl rfl) rfl rfl (bl rfl) ?_
   refine TrL.cons rfl (op_store' (k := 0) (c' := [.slice A1 p1.1.length c1, .int .i64 3]) rfl rfl rfl rfl rfl ty33 rfl (Nat.le_of_ble_eq_true rfl) (ones (oc rfl on)) rfl ?_)
   refine TrL.nil (qthen_n ?_)
   refine Tr.seq ?_
   refine Tr.region ?_
   refine TrL.v (v_assign rfl rfl) rfl rfl (bl rfl) ?_
   refine TrL.nil (qthen_n ?_)
   have hz := Option.some.inj H
   subst hz
   refine Tr.ret (qthen_r (ret_r ⟨[(2, .int .u64 0)], [cells b1 [.slice A1 p1.1.length c1, .int .i64 3] 116], [slF (rInt .u8) A1 c1 p1.1], []⟩ [.int .u64 0] [cells b1 [.slice A1 p1.1.length c1, .int .i64 3] 116] [] (Imp.re _ [0] [0] (sc rfl sn) (by decide) rfl rfl rfl) rfl rfl ⟨((A1, c1)), rfl, rfl, rfl⟩ (.cons (resv_tmp rfl) .nil)))
  ·refine Tr.cond_f rfl (bf_dec h8) ?_
   refine Tr.skip (qthen_n ?_)
   refine Tr.seq ?_
   refine Tr.region ?_
   refine TrL.v (v_assign rfl rfl) rfl rfl (bl rfl) ?_
   refine TrL.nil (qthen_n ?_)
   refine Tr.seq ?_
   refine Tr.seq ?_
   refine Tr.region ?_
   refine TrL.v (v_move rfl rfl) rfl rfl (bl rfl) ?_
   refine TrL.v (v_nilCheck rfl rfl) rfl rfl (bl rfl) ?_
   refine TrL.v (v_fieldAddr' rfl fo116_0 rfl rfl) rfl rfl (bl rfl) ?_
   refine TrL.v (v_load (k := 0) rfl rfl rfl ty40 (fun _ => rfl) rfl rfl) rfl rfl (bl rfl) ?_
   obtain ⟨h9, H⟩ := mst H
   refine TrL.addF' (slF (rInt .u8) (slA A1 0 c1 1) c1 (p1.1.take (8 : Int).toNat)) (slx2_f (k := 0) rfl h9) ?_
   refine TrL.v (slx2_v (rp := (rInt .u8)) (xs := p1.1) (k := 0) rfl sl40 ty5 rfl rfl rfl h9 rfl) rfl rfl (bl rfl) ?_
   refine TrL.v (v_len rfl sl40 rfl) rfl rfl (bl rfl) ?_
   refine TrL.v (v_move rfl rfl) rfl rfl (bl rfl) ?_
   refine TrL.nil (qthen_n ?_)
   obtain ⟨x2, hx3, H⟩ := bnd H
   refine Tr.cutE (D := Int) (M := Unit) .normal (fun _d => x2 = _d) (fun x2 m10 => ⟨[(0, .pointer (some ⟨b1, 0, none⟩)), (3, .int .u64 x2)], [cells b1 [.slice A1 p1.1.length c1, .int .i64 p1.2] 116], [slF (rInt .u8) A1 c1 p1.1], []⟩) ?_ (fun x2 m10 hd2 => ?_)
   ·refine Tr.block (Tr.loopI (ι := Unit) (step := codec_Reader_Fixed_s0 p1) (fun s5 m8 => ⟨[(0, .pointer (some ⟨b1, 0, none⟩)), (3, .int .u64 s5.1), (22, .slice (slA A1 0 c1 1) ((p1.1.take (8 : Int).toNat).length) c1), (23, .int .i64 (((p1.1.take (8 : Int).toNat).length : Int))), (24, .int .i64 s5.2)], [cells b1 [.slice A1 p1.1.length c1, .int .i64 p1.2] 116], [slF (rInt .u8) (slA A1 0 c1 1) c1 (p1.1.take (8 : Int).toNat), slF (rInt .u8) A1 c1 p1.1], []⟩) (()) hx3 (Imp.re _ [0] [2, 0] (sc rfl (sc rfl (sc rfl (sc rfl (sc rfl sn))))) (by decide) rfl rfl rfl) (fun s5 m8 y2 hy2 hx4 => ?_))
    unfold codec_Reader_Fixed_s0 at hy2
    refine Tr.seq ?_
    refine Tr.region ?_
    refine TrL.v (v_arith rfl rfl rfl ar_lss) rfl rfl (bl rfl) ?_
    refine TrL.nil (qthen_n ?_)
    refine Tr.seq ?_
    rcases ifc hy2 with ⟨h12, hy2⟩ | ⟨h12, hy2⟩
    ·refine Tr.cond_t rfl (bt_dec h12) ?_
     refine Tr.skip (qthen_n ?_)
     refine Tr.seq ?_
     refine Tr.block ?_
     refine Tr.seq ?_
     refine Tr.region ?_
     obtain ⟨z6, hz6, hy2⟩ := bnd hy2
     refine TrL.v (v_indexAddr (k := 0) rfl sl40 ty5 rfl rfl rfl rfl hz6) rfl rfl (bl rfl) ?_
     refine TrL.v (v_loadg (A := (slA A1 0 c1 1)) (i := s5.2) (j := 0) (k := 0) rfl ty5 (fun _ => rfl) rfl rfl hz6 rfl rfl) rfl rfl (bl rfl) ?_
     refine TrL.v (v_assign rfl rfl) rfl rfl (bl rfl) ?_
     refine TrL.nil (qthen_n ?_)
     refine Tr.region ?_
     refine TrL.v (v_move rfl rfl) rfl rfl (bl rfl) ?_
     refine TrL.v (v_shl' rfl rfl rfl (by decide) rfl wrap_u64') rfl rfl (bl rfl) ?_
     refine TrL.v (v_move rfl rfl) rfl rfl (bl rfl) ?_
     refine TrL.v (v_conv' rfl ⟨_, Try.underlying5⟩ Try.underlying28 rfl wrap_u64') rfl rfl (bl rfl) ?_
     refine TrL.v (v_arith rfl rfl rfl ar_or_u64) rfl rfl (bl rfl) ?_
     refine TrL.v (v_assign rfl rfl) rfl rfl (bl rfl) ?_
     refine TrL.nil (qblock_n (qthen_n ?_))
     refine Tr.region ?_
     refine TrL.v (v_arith rfl rfl rfl ar_add_i64) rfl rfl (bl rfl) ?_
     refine TrL.v (v_move rfl rfl) rfl rfl (bl rfl) ?_
     have hz := Option.some.inj hy2
     subst hz
     refine TrL.nil (qloop_n (()) (Imp.re _ [0] [0, 1] (sc rfl (sc rfl (sc rfl (sc rfl (sc rfl sn))))) (by decide) rfl rfl rfl))
    ·refine Tr.cond_f rfl (bf_dec h12) ?_
     have hz := Option.some.inj hy2
     subst hz
     refine Tr.exit (qthen_x (qloop_x (qblock_hit (qcut_hit s5.1 (()) (hx4 _ rfl).symm (Imp.re _ [0] [1] (sc rfl (sc rfl sn)) (by decide) rfl rfl rfl)))))
   ·subst hd2
    refine (qthen_n ?_)
    refine Tr.seq ?_
    refine Tr.region ?_
    refine TrL.v (v_move rfl rfl) rfl rfl (bl rfl) ?_
    refine TrL.v (v_move rfl rfl) rfl rfl (bl rfl) ?_
    refine TrL.v (v_nilCheck rfl rfl) rfl rfl (bl rfl) ?_
    refine TrL.v (v_fieldAddr' rfl fo116_0 rfl rfl) rfl rfl (bl rfl) ?_
    refine TrL.v (v_load (k := 0) rfl rfl rfl ty40 (fun _ => rfl) rfl rfl) rfl rfl (bl rfl) ?_
    refine TrL.addF' (slF (rInt .u8) (slA A1 (8 : Int).toNat c1 1) (c1 - (8 : Int).toNat) (p1.1.drop (8 : Int).toNat)) (slx1_f (k := 0) rfl h9) ?_
    refine TrL.v (slx1_v (rp := (rInt .u8)) (xs := p1.1) (k := 0) rfl sl40 ty5 rfl rfl rfl h9 rfl) rfl rfl (bl rfl) ?_
    refine TrL.v (v_nilCheck rfl rfl) rfl rfl (bl rfl) ?_
    refine TrL.v (v_fieldAddr' rfl fo116_0 rfl rfl) rfl rfl (bl rfl) ?_
    refine TrL.cons rfl (op_store' (k := 0) (c' := [.slice (slA A1 (8 : Int).toNat c1 1) ((p1.1.drop (8 : Int).toNat).length) (c1 - (8 : Int).toNat), .int .i64 p1.2]) rfl rfl rfl rfl rfl ty40 rfl (Nat.le_of_ble_eq_true rfl) (ones (oc rfl on)) rfl ?_)
    refine TrL.nil (qthen_n ?_)
    refine Tr.seq ?_
    refine Tr.region ?_
    refine TrL.v (v_move rfl rfl) rfl rfl (bl rfl) ?_
    refine TrL.v (v_assign rfl rfl) rfl rfl (bl rfl) ?_
    refine TrL.nil (qthen_n ?_)
    have hz := Option.some.inj H
    subst hz
    refine Tr.ret (ret_r ⟨[(2, .int .u64 x2)], [cells b1 [.slice (slA A1 (8 : Int).toNat c1 1) ((p1.1.drop (8 : Int).toNat).length) (c1 - (8 : Int).toNat), .int .i64 p1.2] 116], [slF (rInt .u8) (slA A1 (8 : Int).toNat c1 1) (c1 - (8 : Int).toNat) (p1.1.drop (8 : Int).toNat)], []⟩ [.int .u64 x2] [cells b1 [.slice (slA A1 (8 : Int).toNat c1 1) ((p1.1.drop (8 : Int).toNat).length) (c1 - (8 : Int).toNat), .int .i64 p1.2] 116] [] (Imp.re _ [0] [1] (sc rfl sn) (by decide) rfl rfl rfl) rfl rfl ⟨((slA A1 (8 : Int).toNat c1 1, c1 - (8 : Int).toNat)), rfl, rfl, rfl⟩ (.cons (resv_tmp rfl) .nil))
end Go.Proofs.Ytbeknohemgjfbaa.W
