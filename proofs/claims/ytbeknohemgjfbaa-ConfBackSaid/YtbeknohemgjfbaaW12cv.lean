import Derived.Test.YtbeknohemgjfbaaKcv
import Derived.Test.YtbeknohemgjfbaaQcv
import Derived.Test.YtbeknohemgjfbaaWcodecacv
import Derived.Test.YtbeknohemgjfbaaWconffcv
import Derived.Test.YtbeknohemgjfbaaWconfgcv
import Derived.Test.YtbeknohemgjfbaaWlaw21acv
import Derived.Test.YtbeknohemgjfbaaWref21dcv
namespace Go.Proofs.Ytbeknohemgjfbaa.W
open Go Go.Proofs Go.Proofs.Ytbeknohemgjfbaa.L Go.Proofs.Ytbeknohemgjfbaa.Pu
set_option linter.unusedVariables false
set_option maxHeartbeats 4000000

theorem c_law21_ConfBack (p1 : Int) (p2 : Int × Int × Int × Int × Int × Int × (List (Int × Int)) × Int × Int) (p3 : Int) (A1 : Option Addr) (c1 : Nat) (r : Bool) (H : law21_ConfBack p1 p2 p3 = some r) :
  Ctr Try.prog 12 [.int .i64 p1, .agg #[.int .i64 p2.1, .int .i64 p2.2.1, .int .u64 p2.2.2.1, .int .u64 p2.2.2.2.1, .int .i64 p2.2.2.2.2.1, .int .i64 p2.2.2.2.2.2.1, .slice A1 p2.2.2.2.2.2.2.1.length c1, .int .i64 p2.2.2.2.2.2.2.2.1, .int .i64 p2.2.2.2.2.2.2.2.2], .int .u16 p3] [] [slF rp_u64_u64 A1 c1 p2.2.2.2.2.2.2.1] (fun ret M' F' => ret = .bool r ∧ M' = [] ∧ F' = []) := by
 unfold law21_ConfBack at H
 refine ctr_ofI (N := 52) Try.func12 rfl Try.ntmps12 rfl (Nat.le_of_ble_eq_true rfl) (fun γ0 w0 => ?_)
 refine Tr.seq ?_
 refine Tr.region ?_
 refine TrL.cons rfl (op_box' rfl (bl rfl) rfl rfl rfl (fun b4 => ?_))
 refine TrL.v (v_assign rfl rfl) rfl rfl (bl rfl) ?_
 refine TrL.nil (qthen_n ?_)
 refine Tr.seq ?_
 refine Tr.region ?_
 obtain ⟨r14, hr14, H⟩ := bnd H
 refine TrL.cons rfl (op_call0' (vs := []) (cap := []) [] rfl rfl (bl rfl) rfl rfl en46 (c_law21_awake r14 hr14) rfl (fun ret M' F' hR14 => ?_))
 obtain ⟨rfl, rfl, rfl⟩ := hR14
 refine TrL.v (v_assign rfl rfl) rfl rfl (bl rfl) ?_
 refine TrL.nil (qthen_n ?_)
 refine Tr.seq ?_
 refine Tr.region ?_
 refine TrL.v (v_move rfl rfl) rfl rfl (bl rfl) ?_
 refine TrL.v (v_load (k := 0) rfl rfl rfl ty91 nofun rfl rfl) rfl rfl (bl rfl) ?_
 obtain ⟨r15, hr15, H⟩ := bnd H
 refine TrL.cons rfl (op_call0' (vs := [.int .i64 p1, .agg #[.int .i64 p2.1, .int .i64 p2.2.1, .int .u64 p2.2.2.1, .int .u64 p2.2.2.2.1, .int .i64 p2.2.2.2.2.1, .int .i64 p2.2.2.2.2.2.1, .slice A1 p2.2.2.2.2.2.2.1.length c1, .int .i64 p2.2.2.2.2.2.2.2.1, .int .i64 p2.2.2.2.2.2.2.2.2]]) (cap := []) [0] rfl rfl (bl rfl) rfl rfl en54 (c_ref21_Tame p1 p2 A1 c1 r15 hr15) rfl (fun ret M' F' hR15 => ?_))
 obtain ⟨m15, rfl, rfl, rfl⟩ := hR15
 refine TrL.cons rfl (op_alloc' rfl (bl rfl) rfl ze91 (fun b5 => ?_))
 refine TrL.cons rfl (op_store' (k := 0) (c' := [.int .i64 r15.1, .int .i64 r15.2.1, .int .u64 r15.2.2.1, .int .u64 (p2.2.2.2.1.tmod 100), .int .i64 (wi64 (1 + ((max p2.2.2.2.2.1 0).tmod 7))), .int .i64 r15.2.2.2.1, .slice m15.1 r15.2.2.2.2.1.length m15.2, .int .i64 r15.2.2.2.2.2.1, .int .i64 r15.2.2.2.2.2.2]) rfl rfl rfl rfl rfl ty91 rfl (Nat.le_of_ble_eq_true rfl) (ones (oc rfl (oc rfl (oc rfl (oc rfl (oc rfl (oc rfl (oc rfl (oc rfl (oc rfl on)))))))))) rfl ?_)
 refine TrL.nil (qthen_n ?_)
 refine Tr.seq ?_
 refine Tr.region ?_
 refine TrL.v (v_load (k := 0) rfl rfl rfl ty91 nofun rfl rfl) rfl rfl (bl rfl) ?_
 obtain ⟨r16, hr16, H⟩ := bnd H
 refine TrL.cons rfl (op_call0' (vs := [.agg #[.int .i64 r15.1, .int .i64 r15.2.1, .int .u64 r15.2.2.1, .int .u64 (p2.2.2.2.1.tmod 100), .int .i64 (wi64 (1 + ((max p2.2.2.2.2.1 0).tmod 7))), .int .i64 r15.2.2.2.1, .slice m15.1 r15.2.2.2.2.1.length m15.2, .int .i64 r15.2.2.2.2.2.1, .int .i64 r15.2.2.2.2.2.2]]) (cap := []) [1] rfl rfl (bl rfl) rfl rfl en49 (c_conf_Put ((r15.1, r15.2.1, r15.2.2.1, p2.2.2.2.1.tmod 100, wi64 (1 + ((max p2.2.2.2.2.1 0).tmod 7)), r15.2.2.2.1, r15.2.2.2.2.1, r15.2.2.2.2.2.1, r15.2.2.2.2.2.2)) m15.1 m15.2 r16 hr16) rfl (fun ret M' F' hR16 => ?_))
 obtain ⟨m16, rfl, rfl, rfl⟩ := hR16
 refine TrL.v (v_assign rfl rfl) rfl rfl (bl rfl) ?_
 refine TrL.nil (qthen_n ?_)
 refine Tr.seq ?_
 refine Tr.seq ?_
 refine Tr.region ?_
 refine TrL.v (v_move rfl rfl) rfl rfl (bl rfl) ?_
 refine TrL.v (v_len rfl sl40 rfl) rfl rfl (bl rfl) ?_
 refine TrL.v (v_arith rfl rfl rfl ar_eql) rfl rfl (bl rfl) ?_
 refine TrL.nil (qthen_n ?_)
 rcases ifc H with ⟨h10, H⟩ | ⟨h10, H⟩
 ·refine Tr.cond_t rfl (bt_dec h10) ?_
  refine Tr.seq ?_
  refine Tr.region ?_
  refine TrL.v (v_assign rfl rfl) rfl rfl (bl rfl) ?_
  refine TrL.nil (qthen_n ?_)
  have hz := Option.some.inj H
  subst hz
  refine Tr.ret (qthen_r (ret_r ⟨[(6, .bool false)], [], [], []⟩ [.bool false] [] [] (Imp.re _ [] [] (sc rfl sn) (by decide) rfl rfl rfl) rfl rfl ⟨rfl, rfl, rfl⟩ (.cons (resv_tmp rfl) .nil)))
 ·refine Tr.cond_f rfl (bf_dec h10) ?_
  refine Tr.skip (qthen_n ?_)
  refine Tr.seq ?_
  refine Tr.region ?_
  refine TrL.v (v_move rfl rfl) rfl rfl (bl rfl) ?_
  obtain ⟨r17, hr17, H⟩ := bnd H
  refine TrL.cons rfl (op_call0' (vs := [.slice m16.1 r16.length m16.2]) (cap := []) [2] rfl rfl (bl rfl) rfl rfl en27 (c_codec_New r16 m16.1 m16.2 r17 hr17) rfl (fun ret M' F' hR17 => ?_))
  obtain ⟨m17, rfl, rfl, rfl⟩ := hR17
  refine TrL.v (v_assign rfl rfl) rfl rfl (bl rfl) ?_
  refine TrL.nil (qthen_n ?_)
  refine Tr.seq ?_
  refine Tr.region ?_
  refine TrL.v (v_move rfl rfl) rfl rfl (bl rfl) ?_
  obtain ⟨r18, hr18, H⟩ := bnd H
  refine TrL.cons rfl (op_callg' (fs := []) (vs := [.pointer (some ⟨m17, 0, none⟩)]) (cap := []) (Mr := [cells b5 [.int .i64 r15.1, .int .i64 r15.2.1, .int .u64 r15.2.2.1, .int .u64 (p2.2.2.2.1.tmod 100), .int .i64 (wi64 (1 + ((max p2.2.2.2.2.1 0).tmod 7))), .int .i64 r15.2.2.2.1, .slice m15.1 r15.2.2.2.2.1.length m15.2, .int .i64 r15.2.2.2.2.2.1, .int .i64 r15.2.2.2.2.2.2] 91, cells b4 [.int .i64 p2.1, .int .i64 p2.2.1, .int .u64 p2.2.2.1, .int .u64 p2.2.2.2.1, .int .i64 p2.2.2.2.2.1, .int .i64 p2.2.2.2.2.2.1, .slice A1 p2.2.2.2.2.2.2.1.length c1, .int .i64 p2.2.2.2.2.2.2.2.1, .int .i64 p2.2.2.2.2.2.2.2.2] 91]) [0] [1, 2] [3] rfl rfl rfl en51 (c_conf_Take ((r16.take ((r16.length : Int)).toNat, (0 : Int))) m17 (slA m16.1 0 ((r16.length : Int)).toNat 1) (((r16.length : Int)).toNat) r18 hr18) (by decide) rfl rfl rfl (bl rfl) (fun ret M' F' hR18 => ?_))
  obtain ⟨m18, rfl, rfl, rfl⟩ := hR18
  refine TrL.cons rfl (op_alloc' rfl (bl rfl) rfl ze91 (fun b6 => ?_))
  refine TrL.cons rfl (op_store' (k := 0) (c' := [.int .i64 r18.1, .int .i64 r18.2.1, .int .u64 r18.2.2.1, .int .u64 r18.2.2.2.1, .int .i64 r18.2.2.2.2.1, .int .i64 r18.2.2.2.2.2.1, .slice m18.1 r18.2.2.2.2.2.2.1.length m18.2.1, .int .i64 r18.2.2.2.2.2.2.2.1, .int .i64 r18.2.2.2.2.2.2.2.2.1]) rfl rfl rfl rfl rfl ty91 rfl (Nat.le_of_ble_eq_true rfl) (ones (oc rfl (oc rfl (oc rfl (oc rfl (oc rfl (oc rfl (oc rfl (oc rfl (oc rfl on)))))))))) rfl ?_)
  refine TrL.nil (qthen_n ?_)
  refine Tr.seq ?_
  refine Tr.region ?_
  refine TrL.v (v_move rfl rfl) rfl rfl (bl rfl) ?_
  refine TrL.v (v_move rfl rfl) rfl rfl (bl rfl) ?_
  refine TrL.v (v_conv' rfl ⟨_, Try.underlying61⟩ Try.underlying3 rfl wrap_i64') rfl rfl (bl rfl) ?_
  refine TrL.v (v_move rfl rfl) rfl rfl (bl rfl) ?_
  refine TrL.v (v_len rfl sl40 rfl) rfl rfl (bl rfl) ?_
  obtain ⟨h11, H⟩ := mst H
  refine TrL.v (v_rem rfl rfl rfl h11) rfl rfl (bl rfl) ?_
  obtain ⟨h12, H⟩ := mst H
  refine TrL.addF' (slF (rInt .u8) (slA m16.1 0 m16.2 1) m16.2 (r16.take ((wi64 p3).tmod ((r16.length : Int))).toNat)) (slx2_f (k := 2) rfl h12) ?_
  refine TrL.v (slx2_v (rp := (rInt .u8)) (xs := r16) (k := 2) rfl sl40 ty5 rfl rfl rfl h12 rfl) rfl rfl (bl rfl) ?_
  obtain ⟨r19, hr19, H⟩ := bnd H
  refine TrL.cons rfl (op_call0' (vs := [.slice (slA m16.1 0 m16.2 1) ((r16.take ((wi64 p3).tmod ((r16.length : Int))).toNat).length) m16.2]) (cap := []) [6] rfl rfl (bl rfl) rfl rfl en27 (c_codec_New (r16.take ((wi64 p3).tmod ((r16.length : Int))).toNat) (slA m16.1 0 m16.2 1) m16.2 r19 hr19) rfl (fun ret M' F' hR19 => ?_))
  obtain ⟨m19, rfl, rfl, rfl⟩ := hR19
  refine TrL.v (v_assign rfl rfl) rfl rfl (bl rfl) ?_
  refine TrL.nil (qthen_n ?_)
  refine Tr.seq ?_
  refine Tr.region ?_
  refine TrL.v (v_move rfl rfl) rfl rfl (bl rfl) ?_
  obtain ⟨r20, hr20, H⟩ := bnd H
  refine TrL.cons rfl (op_callg' (fs := []) (vs := [.pointer (some ⟨m19, 0, none⟩)]) (cap := []) (Mr := [cells b6 [.int .i64 r18.1, .int .i64 r18.2.1, .int .u64 r18.2.2.1, .int .u64 r18.2.2.2.1, .int .i64 r18.2.2.2.2.1, .int .i64 r18.2.2.2.2.2.1, .slice m18.1 r18.2.2.2.2.2.2.1.length m18.2.1, .int .i64 r18.2.2.2.2.2.2.2.1, .int .i64 r18.2.2.2.2.2.2.2.2.1] 91, cells m17 [.slice m18.2.2.1 r18.2.2.2.2.2.2.2.2.2.1.length m18.2.2.2, .int .i64 r18.2.2.2.2.2.2.2.2.2.2] 116, cells b5 [.int .i64 r15.1, .int .i64 r15.2.1, .int .u64 r15.2.2.1, .int .u64 (p2.2.2.2.1.tmod 100), .int .i64 (wi64 (1 + ((max p2.2.2.2.2.1 0).tmod 7))), .int .i64 r15.2.2.2.1, .slice m15.1 r15.2.2.2.2.1.length m15.2, .int .i64 r15.2.2.2.2.2.1, .int .i64 r15.2.2.2.2.2.2] 91, cells b4 [.int .i64 p2.1, .int .i64 p2.2.1, .int .u64 p2.2.2.1, .int .u64 p2.2.2.2.1, .int .i64 p2.2.2.2.2.1, .int .i64 p2.2.2.2.2.2.1, .slice A1 p2.2.2.2.2.2.2.1.length c1, .int .i64 p2.2.2.2.2.2.2.2.1, .int .i64 p2.2.2.2.2.2.2.2.2] 91]) [0] [1, 2, 3, 4] [7] rfl rfl rfl en51 (c_conf_Take (((r16.take ((wi64 p3).tmod ((r16.length : Int))).toNat).take (((r16.take ((wi64 p3).tmod ((r16.length : Int))).toNat).length : Int)).toNat, (0 : Int))) m19 (slA (slA m16.1 0 m16.2 1) 0 (((r16.take ((wi64 p3).tmod ((r16.length : Int))).toNat).length : Int)).toNat 1) ((((r16.take ((wi64 p3).tmod ((r16.length : Int))).toNat).length : Int)).toNat) r20 hr20) (by decide) rfl rfl rfl (bl rfl) (fun ret M' F' hR20 => ?_))
  obtain ⟨m20, rfl, rfl, rfl⟩ := hR20
  refine TrL.nil (qthen_n ?_)
  refine Tr.seq ?_
  refine Tr.region ?_
  refine TrL.v (v_move rfl rfl) rfl rfl (bl rfl) ?_
  refine TrL.v (v_move rfl rfl) rfl rfl (bl rfl) ?_
  rcases ifc H with ⟨h16, H⟩ | ⟨h16, H⟩
  ·refine TrL.cons_yes rfl rfl rfl h16 (OpTr.v (v_load (k := 1) rfl rfl rfl ty91 nofun rfl rfl) rfl (bl rfl) ?_)
   refine TrL.cons_yes rfl rfl rfl h16 (OpTr.v (v_load (k := 3) rfl rfl rfl ty91 nofun rfl rfl) rfl (bl rfl) ?_)
   obtain ⟨r24, hr24, H⟩ := bnd H
   refine TrL.cons_yes rfl rfl rfl h16 (op_call0' (vs := [.agg #[.int .i64 r18.1, .int .i64 r18.2.1, .int .u64 r18.2.2.1, .int .u64 r18.2.2.2.1, .int .i64 r18.2.2.2.2.1, .int .i64 r18.2.2.2.2.2.1, .slice m18.1 r18.2.2.2.2.2.2.1.length m18.2.1, .int .i64 r18.2.2.2.2.2.2.2.1, .int .i64 r18.2.2.2.2.2.2.2.2.1], .agg #[.int .i64 r15.1, .int .i64 r15.2.1, .int .u64 r15.2.2.1, .int .u64 (p2.2.2.2.1.tmod 100), .int .i64 (wi64 (1 + ((max p2.2.2.2.2.1 0).tmod 7))), .int .i64 r15.2.2.2.1, .slice m15.1 r15.2.2.2.2.1.length m15.2, .int .i64 r15.2.2.2.2.2.1, .int .i64 r15.2.2.2.2.2.2]]) (cap := []) [4, 1] rfl rfl (bl rfl) rfl rfl en53 (c_ref21_Same ((r18.1, r18.2.1, r18.2.2.1, r18.2.2.2.1, r18.2.2.2.2.1, r18.2.2.2.2.2.1, r18.2.2.2.2.2.2.1, r18.2.2.2.2.2.2.2.1, r18.2.2.2.2.2.2.2.2.1)) ((r15.1, r15.2.1, r15.2.2.1, p2.2.2.2.1.tmod 100, wi64 (1 + ((max p2.2.2.2.2.1 0).tmod 7)), r15.2.2.2.1, r15.2.2.2.2.1, r15.2.2.2.2.2.1, r15.2.2.2.2.2.2)) m18.1 m18.2.1 m15.1 m15.2 r24 hr24) rfl (fun ret M' F' hR24 => ?_))
   obtain ⟨rfl, rfl, rfl⟩ := hR24
   refine TrL.v (v_pick_t rfl rfl h16 rfl) rfl rfl (bl rfl) ?_
   refine TrL.v (v_move rfl rfl) rfl rfl (bl rfl) ?_
   rcases ifc H with ⟨h17, H⟩ | ⟨h17, H⟩
   ·refine TrL.cons_yes rfl rfl rfl h17 (OpTr.v (v_move rfl rfl) rfl (bl rfl) ?_)
    obtain ⟨r25, hr25, H⟩ := bnd H
    refine TrL.cons_yes rfl rfl rfl h17 (op_callg' (fs := []) (vs := [.pointer (some ⟨m17, 0, none⟩)]) (cap := []) (Mr := [cells m19 [.slice m20.2.2.1 r20.2.2.2.2.2.2.2.2.2.1.length m20.2.2.2, .int .i64 r20.2.2.2.2.2.2.2.2.2.2] 116, cells b6 [.int .i64 r18.1, .int .i64 r18.2.1, .int .u64 r18.2.2.1, .int .u64 r18.2.2.2.1, .int .i64 r18.2.2.2.2.1, .int .i64 r18.2.2.2.2.2.1, .slice m18.1 r18.2.2.2.2.2.2.1.length m18.2.1, .int .i64 r18.2.2.2.2.2.2.2.1, .int .i64 r18.2.2.2.2.2.2.2.2.1] 91, cells b5 [.int .i64 r15.1, .int .i64 r15.2.1, .int .u64 r15.2.2.1, .int .u64 (p2.2.2.2.1.tmod 100), .int .i64 (wi64 (1 + ((max p2.2.2.2.2.1 0).tmod 7))), .int .i64 r15.2.2.2.1, .slice m15.1 r15.2.2.2.2.1.length m15.2, .int .i64 r15.2.2.2.2.2.1, .int .i64 r15.2.2.2.2.2.2] 91, cells b4 [.int .i64 p2.1, .int .i64 p2.2.1, .int .u64 p2.2.2.1, .int .u64 p2.2.2.2.1, .int .i64 p2.2.2.2.2.1, .int .i64 p2.2.2.2.2.2.1, .slice A1 p2.2.2.2.2.2.2.1.length c1, .int .i64 p2.2.2.2.2.2.2.2.1, .int .i64 p2.2.2.2.2.2.2.2.2] 91]) [2] [0, 1, 3, 4] [5] rfl rfl rfl en36 (c_codec_Reader_End r18.2.2.2.2.2.2.2.2.2 m17 m18.2.2.1 m18.2.2.2 r25 hr25) (by decide) rfl rfl rfl (bl rfl) (fun ret M' F' hR25 => ?_))
    obtain ⟨rfl, rfl, rfl⟩ := hR25
    refine TrL.cons_yes rfl rfl rfl h17 (OpTr.v (v_arith rfl rfl rfl ar_eql) rfl (bl rfl) ?_)
    refine TrL.v (v_pick_t rfl rfl h17 rfl) rfl rfl (bl rfl) ?_
    refine TrL.v (v_move rfl rfl) rfl rfl (bl rfl) ?_
    rcases ifc H with ⟨h18, H⟩ | ⟨h18, H⟩
    ·refine TrL.cons_yes rfl rfl rfl (bt_dec h18) (OpTr.v (v_move rfl rfl) rfl (bl rfl) ?_)
     obtain ⟨r26, hr26, H⟩ := bnd H
     refine TrL.cons_yes rfl rfl rfl (bt_dec h18) (op_callg' (fs := []) (vs := [.pointer (some ⟨m19, 0, none⟩)]) (cap := []) (Mr := [cells m17 [.slice m18.2.2.1 r18.2.2.2.2.2.2.2.2.2.1.length m18.2.2.2, .int .i64 r18.2.2.2.2.2.2.2.2.2.2] 116, cells b6 [.int .i64 r18.1, .int .i64 r18.2.1, .int .u64 r18.2.2.1, .int .u64 r18.2.2.2.1, .int .i64 r18.2.2.2.2.1, .int .i64 r18.2.2.2.2.2.1, .slice m18.1 r18.2.2.2.2.2.2.1.length m18.2.1, .int .i64 r18.2.2.2.2.2.2.2.1, .int .i64 r18.2.2.2.2.2.2.2.2.1] 91, cells b5 [.int .i64 r15.1, .int .i64 r15.2.1, .int .u64 r15.2.2.1, .int .u64 (p2.2.2.2.1.tmod 100), .int .i64 (wi64 (1 + ((max p2.2.2.2.2.1 0).tmod 7))), .int .i64 r15.2.2.2.1, .slice m15.1 r15.2.2.2.2.1.length m15.2, .int .i64 r15.2.2.2.2.2.1, .int .i64 r15.2.2.2.2.2.2] 91, cells b4 [.int .i64 p2.1, .int .i64 p2.2.1, .int .u64 p2.2.2.1, .int .u64 p2.2.2.2.1, .int .i64 p2.2.2.2.2.1, .int .i64 p2.2.2.2.2.2.1, .slice A1 p2.2.2.2.2.2.2.1.length c1, .int .i64 p2.2.2.2.2.2.2.2.1, .int .i64 p2.2.2.2.2.2.2.2.2] 91]) [1] [0, 2, 3, 4] [9] rfl rfl rfl en32 (c_codec_Reader_Err r20.2.2.2.2.2.2.2.2.2 m19 m20.2.2.1 m20.2.2.2 r26 hr26) (by decide) rfl rfl rfl (bl rfl) (fun ret M' F' hR26 => ?_))
     obtain ⟨rfl, rfl, rfl⟩ := hR26
     refine TrL.cons_yes rfl rfl rfl (bt_dec h18) (OpTr.v (v_arith rfl rfl rfl ar_eql) rfl (bl rfl) ?_)
     refine TrL.v (v_pick_t rfl rfl (bt_dec h18) rfl) rfl rfl (bl rfl) ?_
     refine TrL.v (v_assign rfl rfl) rfl rfl (bl rfl) ?_
     refine TrL.nil (qthen_n ?_)
     have hz := Option.some.inj H
     subst hz
     refine Tr.ret (ret_r ⟨[(6, .bool (decide (r20.2.2.2.2.2.2.2.2.2.2 = 3)))], [], [], []⟩ [.bool (decide (r20.2.2.2.2.2.2.2.2.2.2 = 3))] [] [] (Imp.re _ [] [] (sc rfl sn) (by decide) rfl rfl rfl) rfl rfl ⟨rfl, rfl, rfl⟩ (.cons (resv_tmp rfl) .nil))
    ·refine TrL.cons_no rfl rfl rfl (gn_t (bf_dec h18)) rfl (bl rfl) ?_
     refine TrL.cons_no rfl rfl rfl (gn_t (bf_dec h18)) rfl (bl rfl) ?_
     refine TrL.cons_no rfl rfl rfl (gn_t (bf_dec h18)) rfl (bl rfl) ?_
     refine TrL.v (v_pick_f rfl rfl (bf_dec h18) rfl) rfl rfl (bl rfl) ?_
     refine TrL.v (v_assign rfl rfl) rfl rfl (bl rfl) ?_
     refine TrL.nil (qthen_n ?_)
     have hz := Option.some.inj H
     subst hz
     refine Tr.ret (ret_r ⟨[(6, .bool false)], [], [], []⟩ [.bool false] [] [] (Imp.re _ [] [] (sc rfl sn) (by decide) rfl rfl rfl) rfl rfl ⟨rfl, rfl, rfl⟩ (.cons (resv_tmp rfl) .nil))
   ·refine TrL.cons_no rfl rfl rfl (gn_t (bf_b h17)) rfl (bl rfl) ?_
    refine TrL.cons_no rfl rfl rfl (gn_t (bf_b h17)) rfl (bl rfl) ?_
    refine TrL.cons_no rfl rfl rfl (gn_t (bf_b h17)) rfl (bl rfl) ?_
    refine TrL.v (v_pick_f rfl rfl (bf_b h17) rfl) rfl rfl (bl rfl) ?_
    refine TrL.v (v_move rfl rfl) rfl rfl (bl rfl) ?_
    refine TrL.cons_no rfl rfl rfl (gn_t rfl) rfl (bl rfl) ?_
    refine TrL.cons_no rfl rfl rfl (gn_t rfl) rfl (bl rfl) ?_
    refine TrL.cons_no rfl rfl rfl (gn_t rfl) rfl (bl rfl) ?_
    refine TrL.v (v_pick_f rfl rfl rfl rfl) rfl rfl (bl rfl) ?_
    refine TrL.v (v_assign rfl rfl) rfl rfl (bl rfl) ?_
    refine TrL.nil (qthen_n ?_)
    have hz := Option.some.inj H
    subst hz
    refine Tr.ret (ret_r ⟨[(6, .bool false)], [], [], []⟩ [.bool false] [] [] (Imp.re _ [] [] (sc rfl sn) (by decide) rfl rfl rfl) rfl rfl ⟨rfl, rfl, rfl⟩ (.cons (resv_tmp rfl) .nil))
  ·refine TrL.cons_no rfl rfl rfl (gn_t (bf_b h16)) rfl (bl rfl) ?_
   refine TrL.cons_no rfl rfl rfl (gn_t (bf_b h16)) rfl (bl rfl) ?_
   refine TrL.cons_no rfl rfl rfl (gn_t (bf_b h16)) rfl (bl rfl) ?_
   refine TrL.v (v_pick_f rfl rfl (bf_b h16) rfl) rfl rfl (bl rfl) ?_
   refine TrL.v (v_move rfl rfl) rfl rfl (bl rfl) ?_
   refine TrL.cons_no rfl rfl rfl (gn_t rfl) rfl (bl rfl) ?_
   refine TrL.cons_no rfl rfl rfl (gn_t rfl) rfl (bl rfl) ?_
   refine TrL.cons_no rfl rfl rfl (gn_t rfl) rfl (bl rfl) ?_
   refine TrL.v (v_pick_f rfl rfl rfl rfl) rfl rfl (bl rfl) ?_
   refine TrL.v (v_move rfl rfl) rfl rfl (bl rfl) ?_
   refine TrL.cons_no rfl rfl rfl (gn_t rfl) rfl (bl rfl) ?_
   refine TrL.cons_no rfl rfl rfl (gn_t rfl) rfl (bl rfl) ?_
   refine TrL.cons_no rfl rfl rfl (gn_t rfl) rfl (bl rfl) ?_
   refine TrL.v (v_pick_f rfl rfl rfl rfl) rfl rfl (bl rfl) ?_
   refine TrL.v (v_assign rfl rfl) rfl rfl (bl rfl) ?_
   refine TrL.nil (qthen_n ?_)
   have hz := Option.some.inj H
   subst hz
   refine Tr.ret (ret_r ⟨[(6, .bool false)], [], [], []⟩ [.bool false] [] [] (Imp.re _ [] [] (sc rfl sn) (by decide) rfl rfl rfl) rfl rfl ⟨rfl, rfl, rfl⟩ (.cons (resv_tmp rfl) .nil))
end Go.Proofs.Ytbeknohemgjfbaa.W
