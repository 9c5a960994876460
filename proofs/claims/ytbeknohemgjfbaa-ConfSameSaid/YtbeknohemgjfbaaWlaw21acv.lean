import Derived.Test.YtbeknohemgjfbaaKcv
import Derived.Test.YtbeknohemgjfbaaQcv
import Derived.Test.YtbeknohemgjfbaaWcodecacv
import Derived.Test.YtbeknohemgjfbaaWconfecv
import Derived.Test.YtbeknohemgjfbaaWconffcv
import Derived.Test.YtbeknohemgjfbaaWconfgcv
import Derived.Test.YtbeknohemgjfbaaWconfhcv
namespace Go.Proofs.Ytbeknohemgjfbaa.W
open Go Go.Proofs Go.Proofs.Ytbeknohemgjfbaa.L Go.Proofs.Ytbeknohemgjfbaa.Pu
set_option linter.unusedVariables false
set_option maxHeartbeats 4000000

theorem c_law21_awake (r : Bool) (H : law21_awake = some r) :
  Ctr Try.prog 46 [] [] [] (fun ret M' F' => ret = .bool r ∧ M' = [] ∧ F' = []) := by
 unfold law21_awake at H
 refine ctr_ofI (N := 54) Try.func46 rfl Try.ntmps46 rfl (Nat.le_of_ble_eq_true rfl) (fun γ0 w0 => ?_)
 refine Tr.seq ?_
 refine Tr.region ?_
 refine TrL.v (v_assign rfl rfl) rfl rfl (bl rfl) ?_
 refine TrL.nil (qthen_n ?_)
 refine Tr.seq ?_
 refine Tr.region ?_
 refine TrL.v (v_build (vs := [.int .i64 1, .int .i64 2, .int .u64 10, .int .i64 1]) (out := [.int .i64 1, .int .i64 2, .int .u64 10, .int .u64 0, .int .i64 1, .int .i64 0, .slice none 0 0, .int .i64 0, .int .i64 0]) rfl pl91 ze91 rfl rfl) rfl rfl (bl rfl) ?_
 refine TrL.cons rfl (op_alloc' rfl (bl rfl) rfl ze91 (fun b3 => ?_))
 refine TrL.cons rfl (op_store' (k := 0) (c' := [.int .i64 1, .int .i64 2, .int .u64 10, .int .u64 0, .int .i64 1, .int .i64 0, .slice none 0 0, .int .i64 0, .int .i64 0]) rfl rfl rfl rfl rfl ty91 rfl (Nat.le_of_ble_eq_true rfl) (ones (oc rfl (oc rfl (oc rfl (oc rfl (oc rfl (oc rfl (oc rfl (oc rfl (oc rfl on)))))))))) rfl ?_)
 refine TrL.nil (qthen_n ?_)
 refine Tr.seq ?_
 refine Tr.region ?_
 refine TrL.v (v_load (k := 0) rfl rfl rfl ty91 nofun rfl rfl) rfl rfl (bl rfl) ?_
 refine TrL.addF' (slF rp_u64_u64 none 0 []) (nilF rp_u64_u64) ?_
 obtain ⟨r14, hr14, H⟩ := bnd H
 refine TrL.cons rfl (op_call0' (vs := [.agg #[.int .i64 1, .int .i64 2, .int .u64 10, .int .u64 0, .int .i64 1, .int .i64 0, .slice none 0 0, .int .i64 0, .int .i64 0]]) (cap := []) [0] rfl rfl (bl rfl) rfl rfl en49 (c_conf_Put (((1 : Int), (2 : Int), (10 : Int), (0 : Int), (1 : Int), (0 : Int), ([] : List (Int × Int)), (0 : Int), (0 : Int))) none 0 r14 hr14) rfl (fun ret M' F' hR14 => ?_))
 obtain ⟨m14, rfl, rfl, rfl⟩ := hR14
 refine TrL.v (v_assign rfl rfl) rfl rfl (bl rfl) ?_
 refine TrL.nil (qthen_n ?_)
 refine Tr.seq ?_
 refine Tr.region ?_
 refine TrL.v (v_move rfl rfl) rfl rfl (bl rfl) ?_
 obtain ⟨r15, hr15, H⟩ := bnd H
 refine TrL.cons rfl (op_call0' (vs := [.slice m14.1 r14.length m14.2]) (cap := []) [1] rfl rfl (bl rfl) rfl rfl en27 (c_codec_New r14 m14.1 m14.2 r15 hr15) rfl (fun ret M' F' hR15 => ?_))
 obtain ⟨m15, rfl, rfl, rfl⟩ := hR15
 refine TrL.v (v_assign rfl rfl) rfl rfl (bl rfl) ?_
 refine TrL.nil (qthen_n ?_)
 refine Tr.seq ?_
 refine Tr.region ?_
 refine TrL.v (v_move rfl rfl) rfl rfl (bl rfl) ?_
 obtain ⟨r16, hr16, H⟩ := bnd H
 refine TrL.cons rfl (op_callg' (fs := []) (vs := [.pointer (some ⟨m15, 0, none⟩)]) (cap := []) (Mr := [cells b3 [.int .i64 1, .int .i64 2, .int .u64 10, .int .u64 0, .int .i64 1, .int .i64 0, .slice none 0 0, .int .i64 0, .int .i64 0] 91]) [0] [1] [2] rfl rfl rfl en51 (c_conf_Take ((r14.take ((r14.length : Int)).toNat, (0 : Int))) m15 (slA m14.1 0 ((r14.length : Int)).toNat 1) (((r14.length : Int)).toNat) r16 hr16) (by decide) rfl rfl rfl (bl rfl) (fun ret M' F' hR16 => ?_))
 obtain ⟨m16, rfl, rfl, rfl⟩ := hR16
 refine TrL.cons rfl (op_alloc' rfl (bl rfl) rfl ze91 (fun b4 => ?_))
 refine TrL.cons rfl (op_store' (k := 0) (c' := [.int .i64 r16.1, .int .i64 r16.2.1, .int .u64 r16.2.2.1, .int .u64 r16.2.2.2.1, .int .i64 r16.2.2.2.2.1, .int .i64 r16.2.2.2.2.2.1, .slice m16.1 r16.2.2.2.2.2.2.1.length m16.2.1, .int .i64 r16.2.2.2.2.2.2.2.1, .int .i64 r16.2.2.2.2.2.2.2.2.1]) rfl rfl rfl rfl rfl ty91 rfl (Nat.le_of_ble_eq_true rfl) (ones (oc rfl (oc rfl (oc rfl (oc rfl (oc rfl (oc rfl (oc rfl (oc rfl (oc rfl on)))))))))) rfl ?_)
 refine TrL.nil (qthen_n ?_)
 refine Tr.seq ?_
 refine Tr.region ?_
 refine TrL.v (v_fieldAddr' rfl fo91_0 rfl rfl) rfl rfl (bl rfl) ?_
 refine TrL.cons rfl (op_store' (k := 2) (c' := [.int .i64 4, .int .i64 2, .int .u64 10, .int .u64 0, .int .i64 1, .int .i64 0, .slice none 0 0, .int .i64 0, .int .i64 0]) rfl rfl rfl rfl rfl ty3 rfl (Nat.le_of_ble_eq_true rfl) (ones (oc rfl on)) rfl ?_)
 refine TrL.nil (qthen_n ?_)
 refine Tr.seq ?_
 refine Tr.region ?_
 refine TrL.v (v_move rfl rfl) rfl rfl (bl rfl) ?_
 refine TrL.v (v_bstr (k := 1) rfl Try.underlying40 Try.underlying5 Try.underlying9 rfl rfl rfl) rfl rfl (bl rfl) ?_
 refine TrL.cons rfl (op_buildSlice' (rp := (rInt .u8)) (xs := [(1 : Int), (10 : Int), (0 : Int), (1 : Int), (2 : Int)]) (vs := [.int .u8 1, .int .u8 10, .int .u8 0, .int .u8 1, .int .u8 2]) (out := [.int .u8 1, .int .u8 10, .int .u8 0, .int .u8 1, .int .u8 2]) rfl (bl rfl) rfl sl40 ty5 ze5 rfl rfl (by decide) (by decide) rfl (fun γ w hF => (rowc rfl (rowc rfl (rowc rfl (rowc rfl (rowc rfl rown rfl) rfl) rfl) rfl) rfl)) (fun A4 => ?_))
 refine TrL.v (v_bstr (k := 5) rfl Try.underlying40 Try.underlying5 Try.underlying9 rfl rfl rfl) rfl rfl (bl rfl) ?_
 refine TrL.v (v_streq rfl rfl rfl) rfl rfl (bl rfl) ?_
 refine TrL.v (v_move rfl rfl) rfl rfl (bl rfl) ?_
 rcases ifc H with ⟨h22, H⟩ | ⟨h22, H⟩
 ·refine TrL.cons_yes rfl rfl rfl (bt_dec h22) (OpTr.v (v_fieldAddr' rfl fo91_1 rfl rfl) rfl (bl rfl) ?_)
  refine TrL.cons_yes rfl rfl rfl (bt_dec h22) (OpTr.v (v_load (k := 0) rfl rfl rfl ty3 (fun _ => rfl) rfl rfl) rfl (bl rfl) ?_)
  refine TrL.cons_yes rfl rfl rfl (bt_dec h22) (OpTr.v (v_arith rfl rfl rfl ar_eql) rfl (bl rfl) ?_)
  refine TrL.v (v_pick_t rfl rfl (bt_dec h22) rfl) rfl rfl (bl rfl) ?_
  refine TrL.v (v_move rfl rfl) rfl rfl (bl rfl) ?_
  rcases ifc H with ⟨h23, H⟩ | ⟨h23, H⟩
  ·refine TrL.cons_yes rfl rfl rfl (bt_dec h23) (OpTr.v (v_fieldAddr' rfl fo91_2 rfl rfl) rfl (bl rfl) ?_)
   refine TrL.cons_yes rfl rfl rfl (bt_dec h23) (OpTr.v (v_load (k := 0) rfl rfl rfl ty28 (fun _ => rfl) rfl rfl) rfl (bl rfl) ?_)
   refine TrL.cons_yes rfl rfl rfl (bt_dec h23) (OpTr.v (v_arith rfl rfl rfl ar_eql) rfl (bl rfl) ?_)
   refine TrL.v (v_pick_t rfl rfl (bt_dec h23) rfl) rfl rfl (bl rfl) ?_
   refine TrL.v (v_move rfl rfl) rfl rfl (bl rfl) ?_
   rcases ifc H with ⟨h24, H⟩ | ⟨h24, H⟩
   ·refine TrL.cons_yes rfl rfl rfl (bt_dec h24) (OpTr.v (v_move rfl rfl) rfl (bl rfl) ?_)
    obtain ⟨r22, hr22, H⟩ := bnd H
    refine TrL.cons_yes rfl rfl rfl (bt_dec h24) (op_callg' (fs := []) (vs := [.pointer (some ⟨m15, 0, none⟩)]) (cap := []) (Mr := [cells b4 [.int .i64 r16.1, .int .i64 r16.2.1, .int .u64 r16.2.2.1, .int .u64 r16.2.2.2.1, .int .i64 r16.2.2.2.2.1, .int .i64 r16.2.2.2.2.2.1, .slice m16.1 r16.2.2.2.2.2.2.1.length m16.2.1, .int .i64 r16.2.2.2.2.2.2.2.1, .int .i64 r16.2.2.2.2.2.2.2.2.1] 91, cells b3 [.int .i64 4, .int .i64 2, .int .u64 10, .int .u64 0, .int .i64 1, .int .i64 0, .slice none 0 0, .int .i64 0, .int .i64 0] 91]) [1] [0, 2] [4] rfl rfl rfl en36 (c_codec_Reader_End r16.2.2.2.2.2.2.2.2.2 m15 m16.2.2.1 m16.2.2.2 r22 hr22) (by decide) rfl rfl rfl (bl rfl) (fun ret M' F' hR22 => ?_))
    obtain ⟨rfl, rfl, rfl⟩ := hR22
    refine TrL.cons_yes rfl rfl rfl (bt_dec h24) (OpTr.v (v_arith rfl rfl rfl ar_eql) rfl (bl rfl) ?_)
    refine TrL.v (v_pick_t rfl rfl (bt_dec h24) rfl) rfl rfl (bl rfl) ?_
    refine TrL.v (v_move rfl rfl) rfl rfl (bl rfl) ?_
    rcases ifc H with ⟨h25, H⟩ | ⟨h25, H⟩
    ·refine TrL.cons_yes rfl rfl rfl (bt_dec h25) (OpTr.v (v_load (k := 1) rfl rfl rfl ty91 nofun rfl rfl) rfl (bl rfl) ?_)
     refine TrL.cons_yes rfl rfl rfl (bt_dec h25) (OpTr.v (v_load (k := 1) rfl rfl rfl ty91 nofun rfl rfl) rfl (bl rfl) ?_)
     obtain ⟨r23, hr23, H⟩ := bnd H
     refine TrL.cons_yes rfl rfl rfl (bt_dec h25) (op_call0' (vs := [.agg #[.int .i64 r16.1, .int .i64 r16.2.1, .int .u64 r16.2.2.1, .int .u64 r16.2.2.2.1, .int .i64 r16.2.2.2.2.1, .int .i64 r16.2.2.2.2.2.1, .slice m16.1 r16.2.2.2.2.2.2.1.length m16.2.1, .int .i64 r16.2.2.2.2.2.2.2.1, .int .i64 r16.2.2.2.2.2.2.2.2.1], .agg #[.int .i64 r16.1, .int .i64 r16.2.1, .int .u64 r16.2.2.1, .int .u64 r16.2.2.2.1, .int .i64 r16.2.2.2.2.1, .int .i64 r16.2.2.2.2.2.1, .slice m16.1 r16.2.2.2.2.2.2.1.length m16.2.1, .int .i64 r16.2.2.2.2.2.2.2.1, .int .i64 r16.2.2.2.2.2.2.2.2.1]]) (cap := []) [3, 3] rfl rfl (bl rfl) rfl rfl en55 (c_conf_Same ((r16.1, r16.2.1, r16.2.2.1, r16.2.2.2.1, r16.2.2.2.2.1, r16.2.2.2.2.2.1, r16.2.2.2.2.2.2.1, r16.2.2.2.2.2.2.2.1, r16.2.2.2.2.2.2.2.2.1)) ((r16.1, r16.2.1, r16.2.2.1, r16.2.2.2.1, r16.2.2.2.2.1, r16.2.2.2.2.2.1, r16.2.2.2.2.2.2.1, r16.2.2.2.2.2.2.2.1, r16.2.2.2.2.2.2.2.2.1)) m16.1 m16.2.1 m16.1 m16.2.1 r23 hr23) rfl (fun ret M' F' hR23 => ?_))
     obtain ⟨rfl, rfl, rfl⟩ := hR23
     refine TrL.v (v_pick_t rfl rfl (bt_dec h25) rfl) rfl rfl (bl rfl) ?_
     refine TrL.v (v_move rfl rfl) rfl rfl (bl rfl) ?_
     rcases ifc H with ⟨h26, H⟩ | ⟨h26, H⟩
     ·refine TrL.cons_yes rfl rfl rfl h26 (OpTr.v (v_load (k := 2) rfl rfl rfl ty91 nofun rfl rfl) rfl (bl rfl) ?_)
      refine TrL.cons_yes rfl rfl rfl h26 (OpTr.v (v_load (k := 1) rfl rfl rfl ty91 nofun rfl rfl) rfl (bl rfl) ?_)
      obtain ⟨r24, hr24, H⟩ := bnd H
      refine TrL.cons_yes rfl rfl rfl h26 (op_call0' (vs := [.agg #[.int .i64 4, .int .i64 2, .int .u64 10, .int .u64 0, .int .i64 1, .int .i64 0, .slice none 0 0, .int .i64 0, .int .i64 0], .agg #[.int .i64 r16.1, .int .i64 r16.2.1, .int .u64 r16.2.2.1, .int .u64 r16.2.2.2.1, .int .i64 r16.2.2.2.2.1, .int .i64 r16.2.2.2.2.2.1, .slice m16.1 r16.2.2.2.2.2.2.1.length m16.2.1, .int .i64 r16.2.2.2.2.2.2.2.1, .int .i64 r16.2.2.2.2.2.2.2.2.1]]) (cap := []) [0, 3] rfl rfl (bl rfl) rfl rfl en55 (c_conf_Same (((4 : Int), (2 : Int), (10 : Int), (0 : Int), (1 : Int), (0 : Int), ([] : List (Int × Int)), (0 : Int), (0 : Int))) ((r16.1, r16.2.1, r16.2.2.1, r16.2.2.2.1, r16.2.2.2.2.1, r16.2.2.2.2.2.1, r16.2.2.2.2.2.2.1, r16.2.2.2.2.2.2.2.1, r16.2.2.2.2.2.2.2.2.1)) none 0 m16.1 m16.2.1 r24 hr24) rfl (fun ret M' F' hR24 => ?_))
      obtain ⟨rfl, rfl, rfl⟩ := hR24
      refine TrL.cons_yes rfl rfl rfl h26 (OpTr.v (v_notd rfl (bdec rfl)) rfl (bl rfl) ?_)
      refine TrL.v (v_pick_t rfl rfl h26 rfl) rfl rfl (bl rfl) ?_
      refine TrL.v (v_move rfl rfl) rfl rfl (bl rfl) ?_
      rcases ifc H with ⟨h27, H⟩ | ⟨h27, H⟩
      ·refine TrL.cons_yes rfl rfl rfl (bt_dec h27) (OpTr.v (v_load (k := 2) rfl rfl rfl ty91 nofun rfl rfl) rfl (bl rfl) ?_)
       obtain ⟨r25, hr25, H⟩ := bnd H
       refine TrL.cons_yes rfl rfl rfl (bt_dec h27) (op_call0' (vs := [.agg #[.int .i64 4, .int .i64 2, .int .u64 10, .int .u64 0, .int .i64 1, .int .i64 0, .slice none 0 0, .int .i64 0, .int .i64 0]]) (cap := []) [0] rfl rfl (bl rfl) rfl rfl en47 (c_conf_Check (((4 : Int), (2 : Int), (10 : Int), (0 : Int), (1 : Int), (0 : Int), ([] : List (Int × Int)), (0 : Int), (0 : Int))) none 0 r25 hr25) rfl (fun ret M' F' hR25 => ?_))
       obtain ⟨rfl, rfl, rfl⟩ := hR25
       refine TrL.cons_yes rfl rfl rfl (bt_dec h27) (OpTr.v (v_arith rfl rfl rfl ar_eql) rfl (bl rfl) ?_)
       refine TrL.v (v_pick_t rfl rfl (bt_dec h27) rfl) rfl rfl (bl rfl) ?_
       refine TrL.v (v_move rfl rfl) rfl rfl (bl rfl) ?_
       rcases ifc H with ⟨h28, H⟩ | ⟨h28, H⟩
       ·refine TrL.cons_yes rfl rfl rfl (bt_dec h28) (OpTr.v (v_load (k := 1) rfl rfl rfl ty91 nofun rfl rfl) rfl (bl rfl) ?_)
        obtain ⟨r26, hr26, H⟩ := bnd H
        refine TrL.cons_yes rfl rfl rfl (bt_dec h28) (op_call0' (vs := [.agg #[.int .i64 r16.1, .int .i64 r16.2.1, .int .u64 r16.2.2.1, .int .u64 r16.2.2.2.1, .int .i64 r16.2.2.2.2.1, .int .i64 r16.2.2.2.2.2.1, .slice m16.1 r16.2.2.2.2.2.2.1.length m16.2.1, .int .i64 r16.2.2.2.2.2.2.2.1, .int .i64 r16.2.2.2.2.2.2.2.2.1]]) (cap := []) [3] rfl rfl (bl rfl) rfl rfl en47 (c_conf_Check ((r16.1, r16.2.1, r16.2.2.1, r16.2.2.2.1, r16.2.2.2.2.1, r16.2.2.2.2.2.1, r16.2.2.2.2.2.2.1, r16.2.2.2.2.2.2.2.1, r16.2.2.2.2.2.2.2.2.1)) m16.1 m16.2.1 r26 hr26) rfl (fun ret M' F' hR26 => ?_))
        obtain ⟨rfl, rfl, rfl⟩ := hR26
        refine TrL.cons_yes rfl rfl rfl (bt_dec h28) (OpTr.v (v_arith rfl rfl rfl ar_eql) rfl (bl rfl) ?_)
        refine TrL.v (v_pick_t rfl rfl (bt_dec h28) rfl) rfl rfl (bl rfl) ?_
        refine TrL.v (v_assign rfl rfl) rfl rfl (bl rfl) ?_
        refine TrL.nil (qthen_n ?_)
        have hz := Option.some.inj H
        subst hz
        refine Tr.ret (ret_r ⟨[(0, .bool (decide (r26 = 0)))], [], [], []⟩ [.bool (decide (r26 = 0))] [] [] (Imp.re _ [] [] (sc rfl sn) (by decide) rfl rfl rfl) rfl rfl ⟨rfl, rfl, rfl⟩ (.cons (resv_tmp rfl) .nil))
       ·refine TrL.cons_no rfl rfl rfl (gn_t (bf_dec h28)) rfl (bl rfl) ?_
        refine TrL.cons_no rfl rfl rfl (gn_t (bf_dec h28)) rfl (bl rfl) ?_
        refine TrL.cons_no rfl rfl rfl (gn_t (bf_dec h28)) rfl (bl rfl) ?_
        refine TrL.v (v_pick_f rfl rfl (bf_dec h28) rfl) rfl rfl (bl rfl) ?_
        refine TrL.v (v_assign rfl rfl) rfl rfl (bl rfl) ?_
        refine TrL.nil (qthen_n ?_)
        have hz := Option.some.inj H
        subst hz
        refine Tr.ret (ret_r ⟨[(0, .bool false)], [], [], []⟩ [.bool false] [] [] (Imp.re _ [] [] (sc rfl sn) (by decide) rfl rfl rfl) rfl rfl ⟨rfl, rfl, rfl⟩ (.cons (resv_tmp rfl) .nil))
      ·refine TrL.cons_no rfl rfl rfl (gn_t (bf_dec h27)) rfl (bl rfl) ?_
       refine TrL.cons_no rfl rfl rfl (gn_t (bf_dec h27)) rfl (bl rfl) ?_
       refine TrL.cons_no rfl rfl rfl (gn_t (bf_dec h27)) rfl (bl rfl) ?_
       refine TrL.v (v_pick_f rfl rfl (bf_dec h27) rfl) rfl rfl (bl rfl) ?_
       refine TrL.v (v_move rfl rfl) rfl rfl (bl rfl) ?_
       refine TrL.cons_no rfl rfl rfl (gn_t rfl) rfl (bl rfl) ?_
       refine TrL.cons_no rfl rfl rfl (gn_t rfl) rfl (bl rfl) ?_
       refine TrL.cons_no rfl rfl rfl (gn_t rfl) rfl (bl rfl) ?_
       refine TrL.v (v_pick_f rfl rfl rfl rfl) rfl rfl (bl rfl) ?_
       refine TrL.v (v_assign rfl rfl) rfl rfl (bl rfl) ?_
       refine TrL.nil (qthen_n ?_)
       have hz := Option.some.inj H
       subst hz
       refine Tr.ret (ret_r ⟨[(0, .bool false)], [], [], []⟩ [.bool false] [] [] (Imp.re _ [] [] (sc rfl sn) (by decide) rfl rfl rfl) rfl rfl ⟨rfl, rfl, rfl⟩ (.cons (resv_tmp rfl) .nil))
     ·refine TrL.cons_no rfl rfl rfl (gn_t (bf_b h26)) rfl (bl rfl) ?_
      refine TrL.cons_no rfl rfl rfl (gn_t (bf_b h26)) rfl (bl rfl) ?_
      refine TrL.cons_no rfl rfl rfl (gn_t (bf_b h26)) rfl (bl rfl) ?_
      refine TrL.cons_no rfl rfl rfl (gn_t (bf_b h26)) rfl (bl rfl) ?_
      refine TrL.v (v_pick_f rfl rfl (bf_b h26) rfl) rfl rfl (bl rfl) ?_
      refine TrL.v (v_move rfl rfl) rfl rfl (bl rfl) ?_
      refine TrL.cons_no rfl rfl rfl (gn_t rfl) rfl (bl rfl) ?_
      refine TrL.cons_no rfl rfl rfl (gn_t rfl) rfl (bl rfl) ?_
      refine TrL.cons_no rfl rfl rfl (gn_t rfl) rfl (bl rfl) ?_
      refine TrL.v (v_pick_f rfl rfl rfl rfl) rfl rfl (bl rfl) ?_
      refine TrL.v (v_move rfl rfl) rfl rfl (bl rfl) ?_
      refine TrL.cons_no rfl rfl rfl (gn_t rfl) rfl (bl rfl) ?_
      refine TrL.cons_no rfl rfl rfl (gn_t rfl) rfl (bl rfl) ?_
      refine TrL.cons_no rfl rfl rfl (gn_t rfl) rfl (bl rfl) ?_
      refine TrL.v (v_pick_f rfl rfl rfl rfl) rfl rfl (bl rfl) ?_
      refine TrL.v (v_assign rfl rfl) rfl rfl (bl rfl) ?_
      refine TrL.nil (qthen_n ?_)
      have hz := Option.some.inj H
      subst hz
      refine Tr.ret (ret_r ⟨[(0, .bool false)], [], [], []⟩ [.bool false] [] [] (Imp.re _ [] [] (sc rfl sn) (by decide) rfl rfl rfl) rfl rfl ⟨rfl, rfl, rfl⟩ (.cons (resv_tmp rfl) .nil))
    ·refine TrL.cons_no rfl rfl rfl (gn_t (bf_dec h25)) rfl (bl rfl) ?_
     refine TrL.cons_no rfl rfl rfl (gn_t (bf_dec h25)) rfl (bl rfl) ?_
     refine TrL.cons_no rfl rfl rfl (gn_t (bf_dec h25)) rfl (bl rfl) ?_
     refine TrL.v (v_pick_f rfl rfl (bf_dec h25) rfl) rfl rfl (bl rfl) ?_
     refine TrL.v (v_move rfl rfl) rfl rfl (bl rfl) ?_
     refine TrL.cons_no rfl rfl rfl (gn_t rfl) rfl (bl rfl) ?_
     refine TrL.cons_no rfl rfl rfl (gn_t rfl) rfl (bl rfl) ?_
     refine TrL.cons_no rfl rfl rfl (gn_t rfl) rfl (bl rfl) ?_
     refine TrL.cons_no rfl rfl rfl (gn_t rfl) rfl (bl rfl) ?_
     refine TrL.v (v_pick_f rfl rfl rfl rfl) rfl rfl (bl rfl) ?_
     refine TrL.v (v_move rfl rfl) rfl rfl (bl rfl) ?_
     refine TrL.cons_no rfl rfl rfl (gn_t rfl) rfl (bl rfl) ?_
     refine TrL.cons_no rfl rfl rfl (gn_t rfl) rfl (bl rfl) ?_
     refine TrL.cons_no rfl rfl rfl (gn_t rfl) rfl (bl rfl) ?_
     refine TrL.v (v_pick_f rfl rfl rfl rfl) rfl rfl (bl rfl) ?_
     refine TrL.v (v_move rfl rfl) rfl rfl (bl rfl) ?_
     refine TrL.cons_no rfl rfl rfl (gn_t rfl) rfl (bl rfl) ?_
     refine TrL.cons_no rfl rfl rfl (gn_t rfl) rfl (bl rfl) ?_
     refine TrL.cons_no rfl rfl rfl (gn_t rfl) rfl (bl rfl) ?_
     refine TrL.v (v_pick_f rfl rfl rfl rfl) rfl rfl (bl rfl) ?_
     refine TrL.v (v_assign rfl rfl) rfl rfl (bl rfl) ?_
     refine TrL.nil (qthen_n ?_)
     have hz := Option.some.inj H
     subst hz
     refine Tr.ret (ret_r ⟨[(0, .bool false)], [], [], []⟩ [.bool false] [] [] (Imp.re _ [] [] (sc rfl sn) (by decide) rfl rfl rfl) rfl rfl ⟨rfl, rfl, rfl⟩ (.cons (resv_tmp rfl) .nil))
   ·refine TrL.cons_no rfl rfl rfl (gn_t (bf_dec h24)) rfl (bl rfl) ?_
    refine TrL.cons_no rfl rfl rfl (gn_t (bf_dec h24)) rfl (bl rfl) ?_
    refine TrL.cons_no rfl rfl rfl (gn_t (bf_dec h24)) rfl (bl rfl) ?_
    refine TrL.v (v_pick_f rfl rfl (bf_dec h24) rfl) rfl rfl (bl rfl) ?_
    refine TrL.v (v_move rfl rfl) rfl rfl (bl rfl) ?_
    refine TrL.cons_no rfl rfl rfl (gn_t rfl) rfl (bl rfl) ?_
    refine TrL.cons_no rfl rfl rfl (gn_t rfl) rfl (bl rfl) ?_
    refine TrL.cons_no rfl rfl rfl (gn_t rfl) rfl (bl rfl) ?_
    refine TrL.v (v_pick_f rfl rfl rfl rfl) rfl rfl (bl rfl) ?_
    refine TrL.v (v_move rfl rfl) rfl rfl (bl rfl) ?_
    refine TrL.cons_no rfl rfl rfl (gn_t rfl) rfl (bl rfl) ?_
    refine TrL.cons_no rfl rfl rfl (gn_t rfl) rfl (bl rfl) ?_
    refine TrL.cons_no rfl rfl rfl (gn_t rfl) rfl (bl rfl) ?_
    refine TrL.cons_no rfl rfl rfl (gn_t rfl) rfl (bl rfl) ?_
    refine TrL.v (v_pick_f rfl rfl rfl rfl) rfl rfl (bl rfl) ?_
    refine TrL.v (v_move rfl rfl) rfl rfl (bl rfl) ?_
    refine TrL.cons_no rfl rfl rfl (gn_t rfl) rfl (bl rfl) ?_
    refine TrL.cons_no rfl rfl rfl (gn_t rfl) rfl (bl rfl) ?_
    refine TrL.cons_no rfl rfl rfl (gn_t rfl) rfl (bl rfl) ?_
    refine TrL.v (v_pick_f rfl rfl rfl rfl) rfl rfl (bl rfl) ?_
    refine TrL.v (v_move rfl rfl) rfl rfl (bl rfl) ?_
    refine TrL.cons_no rfl rfl rfl (gn_t rfl) rfl (bl rfl) ?_
    refine TrL.cons_no rfl rfl rfl (gn_t rfl) rfl (bl rfl) ?_
    refine TrL.cons_no rfl rfl rfl (gn_t rfl) rfl (bl rfl) ?_
    refine TrL.v (v_pick_f rfl rfl rfl rfl) rfl rfl (bl rfl) ?_
    refine TrL.v (v_assign rfl rfl) rfl rfl (bl rfl) ?_
    refine TrL.nil (qthen_n ?_)
    have hz := Option.some.inj H
    subst hz
    refine Tr.ret (ret_r ⟨[(0, .bool false)], [], [], []⟩ [.bool false] [] [] (Imp.re _ [] [] (sc rfl sn) (by decide) rfl rfl rfl) rfl rfl ⟨rfl, rfl, rfl⟩ (.cons (resv_tmp rfl) .nil))
  ·refine TrL.cons_no rfl rfl rfl (gn_t (bf_dec h23)) rfl (bl rfl) ?_
   refine TrL.cons_no rfl rfl rfl (gn_t (bf_dec h23)) rfl (bl rfl) ?_
   refine TrL.cons_no rfl rfl rfl (gn_t (bf_dec h23)) rfl (bl rfl) ?_
   refine TrL.v (v_pick_f rfl rfl (bf_dec h23) rfl) rfl rfl (bl rfl) ?_
   refine TrL.v (v_move rfl rfl) rfl rfl (bl rfl) ?_
   refine TrL.cons_no rfl rfl rfl (gn_t rfl) rfl (bl rfl) ?_
   refine TrL.cons_no rfl rfl rfl (gn_t rfl) rfl (bl rfl) ?_
   refine TrL.cons_no rfl rfl rfl (gn_t rfl) rfl (bl rfl) ?_
   refine TrL.v (v_pick_f rfl rfl rfl rfl) rfl rfl (bl rfl) ?_
   refine TrL.v (v_move rfl rfl) rfl rfl (bl rfl) ?_
   refine TrL.cons_no rfl rfl rfl (gn_t rfl) rfl (bl rfl) ?_
   refine TrL.cons_no rfl rfl rfl (gn_t rfl) rfl (bl rfl) ?_
   refine TrL.cons_no rfl rfl rfl (gn_t rfl) rfl (bl rfl) ?_
   refine TrL.v (v_pick_f rfl rfl rfl rfl) rfl rfl (bl rfl) ?_
   refine TrL.v (v_move rfl rfl) rfl rfl (bl rfl) ?_
   refine TrL.cons_no rfl rfl rfl (gn_t rfl) rfl (bl rfl) ?_
   refine TrL.cons_no rfl rfl rfl (gn_t rfl) rfl (bl rfl) ?_
   refine TrL.cons_no rfl rfl rfl (gn_t rfl) rfl (bl rfl) ?_
   refine TrL.cons_no rfl rfl rfl (gn_t rfl) rfl (bl rfl) ?_
   refine TrL.v (v_pick_f rfl rfl rfl rfl) rfl rfl (bl rfl) ?_
   refine TrL.v (v_move rfl rfl) rfl rfl (bl rfl) ?_
   refine TrL.cons_no rfl rfl rfl (gn_t rfl) rfl (bl rfl) ?_
   refine TrL.cons_no rfl rfl rfl (gn_t rfl) rfl (bl rfl) ?_
   refine TrL.cons_no rfl rfl rfl (gn_t rfl) rfl (bl rfl) ?_
   refine TrL.v (v_pick_f rfl rfl rfl rfl) rfl rfl (bl rfl) ?_
   refine TrL.v (v_move rfl rfl) rfl rfl (bl rfl) ?_
   refine TrL.cons_no rfl rfl rfl (gn_t rfl) rfl (bl rfl) ?_
   refine TrL.cons_no rfl rfl rfl (gn_t rfl) rfl (bl rfl) ?_
   refine TrL.cons_no rfl rfl rfl (gn_t rfl) rfl (bl rfl) ?_
   refine TrL.v (v_pick_f rfl rfl rfl rfl) rfl rfl (bl rfl) ?_
   refine TrL.v (v_assign rfl rfl) rfl rfl (bl rfl) ?_
   refine TrL.nil (qthen_n ?_)
   have hz := Option.some.inj H
   subst hz
   refine Tr.ret (ret_r ⟨[(0, .bool false)], [], [], []⟩ [.bool false] [] [] (Imp.re _ [] [] (sc rfl sn) (by decide) rfl rfl rfl) rfl rfl ⟨rfl, rfl, rfl⟩ (.cons (resv_tmp rfl) .nil))
 ·refine TrL.cons_no rfl rfl rfl (gn_t (bf_dec h22)) rfl (bl rfl) ?_
  refine TrL.cons_no rfl rfl rfl (gn_t (bf_dec h22)) rfl (bl rfl) ?_
  refine TrL.cons_no rfl rfl rfl (gn_t (bf_dec h22)) rfl (bl rfl) ?_
  refine TrL.v (v_pick_f rfl rfl (bf_dec h22) rfl) rfl rfl (bl rfl) ?_
  refine TrL.v (v_move rfl rfl) rfl rfl (bl rfl) ?_
  refine TrL.cons_no rfl rfl rfl (gn_t rfl) rfl (bl rfl) ?_
  refine TrL.cons_no rfl rfl rfl (gn_t rfl) rfl (bl rfl) ?_
  refine TrL.cons_no rfl rfl rfl (gn_t rfl) rfl (bl rfl) ?_
  refine TrL.v (v_pick_f rfl rfl rfl rfl) rfl rfl (bl rfl) ?_
  refine TrL.v (v_move rfl rfl) rfl rfl (bl rfl) ?_
  refine TrL.cons_no rfl rfl rfl (gn_t rfl) rfl (bl rfl) ?_
  refine TrL.cons_no rfl rfl rfl (gn_t rfl) rfl (bl rfl) ?_
  refine TrL.cons_no rfl rfl rfl (gn_t rfl) rfl (bl rfl) ?_
  refine TrL.v (v_pick_f rfl rfl rfl rfl) rfl rfl (bl rfl) ?_
  refine TrL.v (v_move rfl rfl) rfl rfl (bl rfl) ?_
  refine TrL.cons_no rfl rfl rfl (gn_t rfl) rfl (bl rfl) ?_
  refine TrL.cons_no rfl rfl rfl (gn_t rfl) rfl (bl rfl) ?_
  refine TrL.cons_no rfl rfl rfl (gn_t rfl) rfl (bl rfl) ?_
  refine TrL.v (v_pick_f rfl rfl rfl rfl) rfl rfl (bl rfl) ?_
  refine TrL.v (v_move rfl rfl) rfl rfl (bl rfl) ?_
  refine TrL.cons_no rfl rfl rfl (gn_t rfl) rfl (bl rfl) ?_
  refine TrL.cons_no rfl rfl rfl (gn_t rfl) rfl (bl rfl) ?_
  refine TrL.cons_no rfl rfl rfl (gn_t rfl) rfl (bl rfl) ?_
  refine TrL.cons_no rfl rfl rfl (gn_t rfl) rfl (bl rfl) ?_
  refine TrL.v (v_pick_f rfl rfl rfl rfl) rfl rfl (bl rfl) ?_
  refine TrL.v (v_move rfl rfl) rfl rfl (bl rfl) ?_
  refine TrL.cons_no rfl rfl rfl (gn_t rfl) rfl (bl rfl) ?_
  refine TrL.cons_no rfl rfl rfl (gn_t rfl) rfl (bl rfl) ?_
  refine TrL.cons_no rfl rfl rfl (gn_t rfl) rfl (bl rfl) ?_
  refine TrL.v (v_pick_f rfl rfl rfl rfl) rfl rfl (bl rfl) ?_
  refine TrL.v (v_move rfl rfl) rfl rfl (bl rfl) ?_
  refine TrL.cons_no rfl rfl rfl (gn_t rfl) rfl (bl rfl) ?_
  refine TrL.cons_no rfl rfl rfl (gn_t rfl) rfl (bl rfl) ?_
  refine TrL.cons_no rfl rfl rfl (gn_t rfl) rfl (bl rfl) ?_
  refine TrL.v (v_pick_f rfl rfl rfl rfl) rfl rfl (bl rfl) ?_
  refine TrL.v (v_assign rfl rfl) rfl rfl (bl rfl) ?_
  refine TrL.nil (qthen_n ?_)
  have hz := Option.some.inj H
  subst hz
  refine Tr.ret (ret_r ⟨[(0, .bool false)], [], [], []⟩ [.bool false] [] [] (Imp.re _ [] [] (sc rfl sn) (by decide) rfl rfl rfl) rfl rfl ⟨rfl, rfl, rfl⟩ (.cons (resv_tmp rfl) .nil))
end Go.Proofs.Ytbeknohemgjfbaa.W
