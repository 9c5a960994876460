/- The contracts of the walked functions: the printed walks. -/
import Derived.Test.YtbeknohemgjfbaaKc
import Derived.Test.YtbeknohemgjfbaaQc
import Derived.Test.YtbeknohemgjfbaaWlaw11ac
import Derived.Test.YtbeknohemgjfbaaWlaw11bc
import Derived.Test.YtbeknohemgjfbaaWlaw11cc
import Derived.Test.YtbeknohemgjfbaaWrecordac
import Derived.Test.YtbeknohemgjfbaaWrecordbc
import Derived.Test.YtbeknohemgjfbaaWref10ac
import Derived.Test.YtbeknohemgjfbaaWref10dc
namespace Go.Proofs.Ytbeknohemgjfbaa.W
open Go Go.Proofs Go.Proofs.Ytbeknohemgjfbaa.L Go.Proofs.Ytbeknohemgjfbaa.Pu
set_option linter.unusedVariables false
set_option maxHeartbeats 4000000

theorem c_law11_RecordBack (p1 : Int × (List (Int × Int)) × (List (Int × Int)) × (List (Int × Int)) × (List (Int × Int)) × Int) (p2 : Int) (p3 : Int) (A1 : Option Addr) (c1 : Nat) (A2 : Option Addr) (c2 : Nat) (A3 : Option Addr) (c3 : Nat) (A4 : Option Addr) (c4 : Nat) (r : Bool) (H : law11_RecordBack p1 p2 p3 = some r) :
    Ctr Try.prog 6 [.agg #[.int .i64 p1.1, .slice A1 p1.2.1.length c1, .slice A2 p1.2.2.1.length c2, .slice A3 p1.2.2.2.1.length c3, .slice A4 p1.2.2.2.2.1.length c4, .int .u8 p1.2.2.2.2.2], .int .u8 p2, .int .u16 p3] [] [slF rp_u64_u64 A1 c1 p1.2.1, slF rp_u64_u64 A2 c2 p1.2.2.1, slF rp_u64_u64 A3 c3 p1.2.2.2.1, slF rp_u64_u64 A4 c4 p1.2.2.2.2.1] (fun ret M' F' => ret = .bool r ∧ M' = [] ∧ F' = []) := by
  unfold law11_RecordBack at H
  refine ctr_ofI (N := 73) Try.func6 rfl Try.ntmps6 rfl (Nat.le_of_ble_eq_true rfl) (fun γ0 w0 => ?_)
  refine Tr.seq ?_
  refine Tr.region ?_
  refine TrL.cons rfl (op_box' rfl (bl rfl) rfl rfl rfl (fun b6 => ?_))
  refine TrL.v (v_assign rfl rfl) rfl rfl (bl rfl) ?_
  refine TrL.nil (qthen_n ?_)
  refine Tr.seq ?_
  refine Tr.region ?_
  obtain ⟨r11, hr11, H⟩ := bnd H
  refine TrL.cons rfl (op_call0' (vs := []) (cap := []) [] rfl rfl (bl rfl) rfl rfl en20 (c_law11_awake r11 hr11) rfl (fun ret M' F' hR11 => ?_))
  obtain ⟨rfl, rfl, rfl⟩ := hR11
  refine TrL.v (v_assign rfl rfl) rfl rfl (bl rfl) ?_
  refine TrL.nil (qthen_n ?_)
  refine Tr.seq ?_
  refine Tr.seq ?_
  refine Tr.region ?_
  refine TrL.v (v_load (k := 0) rfl rfl rfl ty60 nofun rfl rfl) rfl rfl (bl rfl) ?_
  obtain ⟨r12, hr12, H⟩ := bnd H
  refine TrL.cons rfl (op_call0' (vs := [.agg #[.int .i64 p1.1, .slice A1 p1.2.1.length c1, .slice A2 p1.2.2.1.length c2, .slice A3 p1.2.2.2.1.length c3, .slice A4 p1.2.2.2.2.1.length c4, .int .u8 p1.2.2.2.2.2]]) (cap := []) [0, 1, 2, 3] rfl rfl (bl rfl) rfl rfl en33 (c_ref10_Light p1 A1 c1 A2 c2 A3 c3 A4 c4 r12 hr12) rfl (fun ret M' F' hR12 => ?_))
  obtain ⟨rfl, rfl, rfl⟩ := hR12
  refine TrL.v (v_notd rfl (bdec rfl)) rfl rfl (bl rfl) ?_
  refine TrL.nil (qthen_n ?_)
  rcases ifc H with ⟨h15, H⟩ | ⟨h15, H⟩
  · refine Tr.cond_t rfl (bt_dec h15) ?_
    refine Tr.seq ?_
    refine Tr.region ?_
    refine TrL.v (v_move rfl rfl) rfl rfl (bl rfl) ?_
    refine TrL.v (v_assign rfl rfl) rfl rfl (bl rfl) ?_
    refine TrL.nil (qthen_n ?_)
    have hz := Option.some.inj H
    subst hz
    refine Tr.ret (qthen_r (ret_r ⟨[(6, .bool r11)], [], [], []⟩ [.bool r11] [] [] (Imp.re _ [] [] (sc rfl sn) (by decide) rfl rfl rfl) rfl rfl ⟨rfl, rfl, rfl⟩ (.cons (resv_tmp rfl) .nil)))
  · refine Tr.cond_f rfl (bf_dec h15) ?_
    refine Tr.skip (qthen_n ?_)
    refine Tr.seq ?_
    refine Tr.region ?_
    refine TrL.v (v_load (k := 0) rfl rfl rfl ty60 nofun rfl rfl) rfl rfl (bl rfl) ?_
    obtain ⟨r13, hr13, H⟩ := bnd H
    refine TrL.cons rfl (op_call0' (vs := [.agg #[.int .i64 p1.1, .slice A1 p1.2.1.length c1, .slice A2 p1.2.2.1.length c2, .slice A3 p1.2.2.2.1.length c3, .slice A4 p1.2.2.2.2.1.length c4, .int .u8 p1.2.2.2.2.2]]) (cap := []) [0, 1, 2, 3] rfl rfl (bl rfl) rfl rfl en34 (c_ref10_Build p1 A1 c1 A2 c2 A3 c3 A4 c4 r13 hr13) rfl (fun ret M' F' hR13 => ?_))
    obtain ⟨m13, rfl, rfl, rfl⟩ := hR13
    refine TrL.cons rfl (op_alloc' rfl (bl rfl) rfl ze26 (fun b7 => ?_))
    refine TrL.cons rfl (op_store' (k := 0) (c' := [.int .i64 r13.1, .int .i64 r13.2.1, .slice m13.1 r13.2.2.length m13.2]) rfl rfl rfl rfl rfl ty26 rfl (Nat.le_of_ble_eq_true rfl) (ones (oc rfl (oc rfl (oc rfl on)))) rfl ?_)
    refine TrL.nil (qthen_n ?_)
    refine Tr.seq ?_
    refine Tr.region ?_
    refine TrL.v (v_load (k := 0) rfl rfl rfl ty26 nofun rfl rfl) rfl rfl (bl rfl) ?_
    obtain ⟨r14, hr14, H⟩ := bnd H
    refine TrL.cons rfl (op_call0' (vs := [.agg #[.int .i64 r13.1, .int .i64 r13.2.1, .slice m13.1 r13.2.2.length m13.2]]) (cap := []) [4] rfl rfl (bl rfl) rfl rfl en23 (c_law11_made r13 m13.1 m13.2 r14 hr14) rfl (fun ret M' F' hR14 => ?_))
    obtain ⟨rfl, rfl, rfl⟩ := hR14
    obtain ⟨r15, hr15, H⟩ := bnd H
    refine TrL.cons rfl (op_call0' (vs := [.agg #[.int .i64 r13.1, .int .i64 r13.2.1, .slice m13.1 r13.2.2.length m13.2]]) (cap := []) [4] rfl rfl (bl rfl) rfl rfl en22 (c_record_Put r13 m13.1 m13.2 r15 hr15) rfl (fun ret M' F' hR15 => ?_))
    obtain ⟨m15, rfl, rfl, rfl⟩ := hR15
    refine TrL.v (v_assign rfl rfl) rfl rfl (bl rfl) ?_
    refine TrL.nil (qthen_n ?_)
    refine Tr.seq ?_
    refine Tr.seq ?_
    refine Tr.region ?_
    refine TrL.v (v_move rfl rfl) rfl rfl (bl rfl) ?_
    refine TrL.v (v_len rfl sl40 rfl) rfl rfl (bl rfl) ?_
    refine TrL.v (v_arith rfl rfl rfl ar_eql) rfl rfl (bl rfl) ?_
    refine TrL.nil (qthen_n ?_)
    rcases ifc H with ⟨h16, H⟩ | ⟨h16, H⟩
    · refine Tr.cond_t rfl (bt_dec h16) ?_
      refine Tr.seq ?_
      refine Tr.region ?_
      refine TrL.v (v_assign rfl rfl) rfl rfl (bl rfl) ?_
      refine TrL.nil (qthen_n ?_)
      have hz := Option.some.inj H
      subst hz
      refine Tr.ret (qthen_r (ret_r ⟨[(6, .bool false)], [], [], []⟩ [.bool false] [] [] (Imp.re _ [] [] (sc rfl sn) (by decide) rfl rfl rfl) rfl rfl ⟨rfl, rfl, rfl⟩ (.cons (resv_tmp rfl) .nil)))
    · refine Tr.cond_f rfl (bf_dec h16) ?_
      refine Tr.skip (qthen_n ?_)
      refine Tr.seq ?_
      refine Tr.region ?_
      refine TrL.v (v_move rfl rfl) rfl rfl (bl rfl) ?_
      obtain ⟨r16, hr16, H⟩ := bnd H
      refine TrL.cons rfl (op_call0' (vs := [.slice m15.1 r15.length m15.2]) (cap := []) [6] rfl rfl (bl rfl) rfl rfl en25 (c_record_One r15 m15.1 m15.2 r16 hr16) rfl (fun ret M' F' hR16 => ?_))
      obtain ⟨m16, rfl, rfl, rfl⟩ := hR16
      refine TrL.v (v_move rfl rfl) rfl rfl (bl rfl) ?_
      refine TrL.v (v_extract rfl rfl rfl) rfl rfl (bl rfl) ?_
      refine TrL.v (v_extract rfl rfl rfl) rfl rfl (bl rfl) ?_
      refine TrL.cons rfl (op_alloc' rfl (bl rfl) rfl ze35 (fun b8 => ?_))
      refine TrL.cons rfl (op_store' (k := 0) (c' := [.int .i64 r16.1, .int .i64 r16.2.1, .slice m16.1 r16.2.2.1.length m16.2]) rfl rfl rfl rfl rfl ty35 rfl (Nat.le_of_ble_eq_true rfl) (ones (oc rfl (oc rfl (oc rfl on)))) rfl ?_)
      refine TrL.v (v_assign rfl rfl) rfl rfl (bl rfl) ?_
      refine TrL.nil (qthen_n ?_)
      refine Tr.seq ?_
      refine Tr.region ?_
      refine TrL.v (v_move rfl rfl) rfl rfl (bl rfl) ?_
      refine TrL.v (v_move rfl rfl) rfl rfl (bl rfl) ?_
      refine TrL.v (v_conv' rfl ⟨_, Try.underlying61⟩ Try.underlying3 rfl wrap_i64') rfl rfl (bl rfl) ?_
      refine TrL.v (v_move rfl rfl) rfl rfl (bl rfl) ?_
      refine TrL.v (v_len rfl sl40 rfl) rfl rfl (bl rfl) ?_
      obtain ⟨h17, H⟩ := mst H
      refine TrL.v (v_rem rfl rfl rfl h17) rfl rfl (bl rfl) ?_
      obtain ⟨h18, H⟩ := mst H
      refine TrL.addF' (slF (rInt .u8) (slA m15.1 0 m15.2 1) m15.2 (r15.take ((wi64 p3).tmod ((r15.length : Int))).toNat)) (slx2_f (k := 6) rfl h18) ?_
      refine TrL.v (slx2_v (rp := (rInt .u8)) (xs := r15) (k := 6) rfl sl40 ty5 rfl rfl rfl h18 rfl) rfl rfl (bl rfl) ?_
      obtain ⟨r17, hr17, H⟩ := bnd H
      refine TrL.cons rfl (op_call0' (vs := [.slice (slA m15.1 0 m15.2 1) ((r15.take ((wi64 p3).tmod ((r15.length : Int))).toNat).length) m15.2]) (cap := []) [8] rfl rfl (bl rfl) rfl rfl en25 (c_record_One (r15.take ((wi64 p3).tmod ((r15.length : Int))).toNat) (slA m15.1 0 m15.2 1) m15.2 r17 hr17) rfl (fun ret M' F' hR17 => ?_))
      obtain ⟨m17, rfl, rfl, rfl⟩ := hR17
      refine TrL.v (v_move rfl rfl) rfl rfl (bl rfl) ?_
      refine TrL.v (v_extract rfl rfl rfl) rfl rfl (bl rfl) ?_
      refine TrL.v (v_extract rfl rfl rfl) rfl rfl (bl rfl) ?_
      refine TrL.cons rfl (op_alloc' rfl (bl rfl) rfl ze35 (fun b9 => ?_))
      refine TrL.cons rfl (op_store' (k := 0) (c' := [.int .i64 r17.1, .int .i64 r17.2.1, .slice m17.1 r17.2.2.1.length m17.2]) rfl rfl rfl rfl rfl ty35 rfl (Nat.le_of_ble_eq_true rfl) (ones (oc rfl (oc rfl (oc rfl on)))) rfl ?_)
      refine TrL.v (v_assign rfl rfl) rfl rfl (bl rfl) ?_
      refine TrL.nil (qthen_n ?_)
      refine Tr.seq ?_
      refine Tr.region ?_
      refine TrL.cons rfl (op_buildSlice' (rp := (rInt .u8)) (xs := []) (vs := []) (out := []) rfl (bl rfl) rfl sl40 ty5 ze5 rfl rfl (by decide) (by decide) rfl (fun γ w hF => rown) (fun A9 => ?_))
      refine TrL.v (v_move rfl rfl) rfl rfl (bl rfl) ?_
      refine TrL.full' (E := 5) (sz := 1) (A := A9) (n := 0) ?_
      obtain ⟨h19, H⟩ := rom H
      refine TrL.cons rfl (op_append' (rp := (rInt .u8)) (xs := ([] : List Int)) (ys := r15) (k := 0) (kx := 10) (ky := 6) rfl (bl rfl) rfl sl40 ty5 ze5 rfl by5 rfl rfl rfl rfl rfl rfl rfl h19.1 h19.2 (fun A10 c7 o3 => ?_))
      refine TrL.v (v_move rfl rfl) rfl rfl (bl rfl) ?_
      refine TrL.cons rfl (op_buildSlice' (rp := (rInt .u8)) (xs := [p2]) (vs := [.int .u8 p2]) (out := [.int .u8 p2]) rfl (bl rfl) rfl sl40 ty5 ze5 rfl rfl (by decide) (by decide) rfl (fun γ w hF => (rowc rfl rown rfl)) (fun A11 => ?_))
      obtain ⟨h20, H⟩ := rom H
      refine TrL.cons rfl (op_append' (rp := (rInt .u8)) (xs := r15) (ys := [p2]) (k := 0) (kx := 11) (ky := 12) rfl (bl rfl) rfl sl40 ty5 ze5 rfl by5 rfl rfl rfl rfl rfl rfl rfl h20.1 h20.2 (fun A12 c8 o4 => ?_))
      obtain ⟨r18, hr18, H⟩ := bnd H
      refine TrL.cons rfl (op_call0' (vs := [.slice A12 ((r15 ++ ([p2])).length) c8]) (cap := []) [13] rfl rfl (bl rfl) rfl rfl en25 (c_record_One (r15 ++ ([p2])) A12 c8 r18 hr18) rfl (fun ret M' F' hR18 => ?_))
      obtain ⟨m18, rfl, rfl, rfl⟩ := hR18
      refine TrL.v (v_move rfl rfl) rfl rfl (bl rfl) ?_
      refine TrL.v (v_extract rfl rfl rfl) rfl rfl (bl rfl) ?_
      refine TrL.v (v_extract rfl rfl rfl) rfl rfl (bl rfl) ?_
      refine TrL.cons rfl (op_alloc' rfl (bl rfl) rfl ze35 (fun b10 => ?_))
      refine TrL.cons rfl (op_store' (k := 0) (c' := [.int .i64 r18.1, .int .i64 r18.2.1, .slice m18.1 r18.2.2.1.length m18.2]) rfl rfl rfl rfl rfl ty35 rfl (Nat.le_of_ble_eq_true rfl) (ones (oc rfl (oc rfl (oc rfl on)))) rfl ?_)
      refine TrL.v (v_assign rfl rfl) rfl rfl (bl rfl) ?_
      refine TrL.nil (qthen_n ?_)
      refine Tr.seq ?_
      refine Tr.region ?_
      refine TrL.v (v_move rfl rfl) rfl rfl (bl rfl) ?_
      refine TrL.v (v_move rfl rfl) rfl rfl (bl rfl) ?_
      rcases ifc H with ⟨h25, H⟩ | ⟨h25, H⟩
      · refine TrL.cons_yes rfl rfl rfl h25 (OpTr.v (v_move rfl rfl) rfl (bl rfl) ?_)
        refine TrL.cons_yes rfl rfl rfl h25 (OpTr.v (v_arith rfl rfl rfl ar_eql) rfl (bl rfl) ?_)
        refine TrL.v (v_pick_t rfl rfl h25 rfl) rfl rfl (bl rfl) ?_
        refine TrL.v (v_move rfl rfl) rfl rfl (bl rfl) ?_
        rcases ifc H with ⟨h26, H⟩ | ⟨h26, H⟩
        · refine TrL.cons_yes rfl rfl rfl (bt_dec h26) (OpTr.v (v_load (k := 3) rfl rfl rfl ty35 nofun rfl rfl) rfl (bl rfl) ?_)
          refine TrL.cons_yes rfl rfl rfl (bt_dec h26) (OpTr.v (v_load (k := 4) rfl rfl rfl ty26 nofun rfl rfl) rfl (bl rfl) ?_)
          obtain ⟨r20, hr20, H⟩ := bnd H
          refine TrL.cons_yes rfl rfl rfl (bt_dec h26) (op_call0' (vs := [.agg #[.int .i64 r16.1, .int .i64 r16.2.1, .slice m16.1 r16.2.2.1.length m16.2], .agg #[.int .i64 r13.1, .int .i64 r13.2.1, .slice m13.1 r13.2.2.length m13.2]]) (cap := []) [7, 4] rfl rfl (bl rfl) rfl rfl en30 (c_law11_same ((r16.1, r16.2.1, r16.2.2.1)) r13 m16.1 m16.2 m13.1 m13.2 r20 hr20) rfl (fun ret M' F' hR20 => ?_))
          obtain ⟨rfl, rfl, rfl⟩ := hR20
          refine TrL.v (v_pick_t rfl rfl (bt_dec h26) rfl) rfl rfl (bl rfl) ?_
          refine TrL.v (v_move rfl rfl) rfl rfl (bl rfl) ?_
          rcases ifc H with ⟨h27, H⟩ | ⟨h27, H⟩
          · refine TrL.cons_yes rfl rfl rfl h27 (OpTr.v (v_move rfl rfl) rfl (bl rfl) ?_)
            refine TrL.cons_yes rfl rfl rfl h27 (OpTr.v (v_arith rfl rfl rfl ar_eql) rfl (bl rfl) ?_)
            refine TrL.v (v_pick_t rfl rfl h27 rfl) rfl rfl (bl rfl) ?_
            refine TrL.v (v_move rfl rfl) rfl rfl (bl rfl) ?_
            rcases ifc H with ⟨h28, H⟩ | ⟨h28, H⟩
            · refine TrL.cons_yes rfl rfl rfl (bt_dec h28) (OpTr.v (v_move rfl rfl) rfl (bl rfl) ?_)
              refine TrL.cons_yes rfl rfl rfl (bt_dec h28) (OpTr.v (v_arith rfl rfl rfl ar_eql) rfl (bl rfl) ?_)
              refine TrL.v (v_pick_t rfl rfl (bt_dec h28) rfl) rfl rfl (bl rfl) ?_
              refine TrL.v (v_assign rfl rfl) rfl rfl (bl rfl) ?_
              refine TrL.nil (qthen_n ?_)
              have hz := Option.some.inj H
              subst hz
              refine Tr.ret (ret_r ⟨[(6, .bool (decide (r18.2.2.2 = 2)))], [], [], []⟩ [.bool (decide (r18.2.2.2 = 2))] [] [] (Imp.re _ [] [] (sc rfl sn) (by decide) rfl rfl rfl) rfl rfl ⟨rfl, rfl, rfl⟩ (.cons (resv_tmp rfl) .nil))
            · refine TrL.cons_no rfl rfl rfl (gn_t (bf_dec h28)) rfl (bl rfl) ?_
              refine TrL.cons_no rfl rfl rfl (gn_t (bf_dec h28)) rfl (bl rfl) ?_
              refine TrL.v (v_pick_f rfl rfl (bf_dec h28) rfl) rfl rfl (bl rfl) ?_
              refine TrL.v (v_assign rfl rfl) rfl rfl (bl rfl) ?_
              refine TrL.nil (qthen_n ?_)
              have hz := Option.some.inj H
              subst hz
              refine Tr.ret (ret_r ⟨[(6, .bool false)], [], [], []⟩ [.bool false] [] [] (Imp.re _ [] [] (sc rfl sn) (by decide) rfl rfl rfl) rfl rfl ⟨rfl, rfl, rfl⟩ (.cons (resv_tmp rfl) .nil))
          · refine TrL.cons_no rfl rfl rfl (gn_t (bf_b h27)) rfl (bl rfl) ?_
            refine TrL.cons_no rfl rfl rfl (gn_t (bf_b h27)) rfl (bl rfl) ?_
            refine TrL.v (v_pick_f rfl rfl (bf_b h27) rfl) rfl rfl (bl rfl) ?_
            refine TrL.v (v_move rfl rfl) rfl rfl (bl rfl) ?_
            refine TrL.cons_no rfl rfl rfl (gn_t rfl) rfl (bl rfl) ?_
            refine TrL.cons_no rfl rfl rfl (gn_t rfl) rfl (bl rfl) ?_
            refine TrL.v (v_pick_f rfl rfl rfl rfl) rfl rfl (bl rfl) ?_
            refine TrL.v (v_assign rfl rfl) rfl rfl (bl rfl) ?_
            refine TrL.nil (qthen_n ?_)
            have hz := Option.some.inj H
            subst hz
            refine Tr.ret (ret_r ⟨[(6, .bool false)], [], [], []⟩ [.bool false] [] [] (Imp.re _ [] [] (sc rfl sn) (by decide) rfl rfl rfl) rfl rfl ⟨rfl, rfl, rfl⟩ (.cons (resv_tmp rfl) .nil))
        · refine TrL.cons_no rfl rfl rfl (gn_t (bf_dec h26)) rfl (bl rfl) ?_
          refine TrL.cons_no rfl rfl rfl (gn_t (bf_dec h26)) rfl (bl rfl) ?_
          refine TrL.cons_no rfl rfl rfl (gn_t (bf_dec h26)) rfl (bl rfl) ?_
          refine TrL.v (v_pick_f rfl rfl (bf_dec h26) rfl) rfl rfl (bl rfl) ?_
          refine TrL.v (v_move rfl rfl) rfl rfl (bl rfl) ?_
          refine TrL.cons_no rfl rfl rfl (gn_t rfl) rfl (bl rfl) ?_
          refine TrL.cons_no rfl rfl rfl (gn_t rfl) rfl (bl rfl) ?_
          refine TrL.v (v_pick_f rfl rfl rfl rfl) rfl rfl (bl rfl) ?_
          refine TrL.v (v_move rfl rfl) rfl rfl (bl rfl) ?_
          refine TrL.cons_no rfl rfl rfl (gn_t rfl) rfl (bl rfl) ?_
          refine TrL.cons_no rfl rfl rfl (gn_t rfl) rfl (bl rfl) ?_
          refine TrL.v (v_pick_f rfl rfl rfl rfl) rfl rfl (bl rfl) ?_
          refine TrL.v (v_assign rfl rfl) rfl rfl (bl rfl) ?_
          refine TrL.nil (qthen_n ?_)
          have hz := Option.some.inj H
          subst hz
          refine Tr.ret (ret_r ⟨[(6, .bool false)], [], [], []⟩ [.bool false] [] [] (Imp.re _ [] [] (sc rfl sn) (by decide) rfl rfl rfl) rfl rfl ⟨rfl, rfl, rfl⟩ (.cons (resv_tmp rfl) .nil))
      · refine TrL.cons_no rfl rfl rfl (gn_t (bf_b h25)) rfl (bl rfl) ?_
        refine TrL.cons_no rfl rfl rfl (gn_t (bf_b h25)) rfl (bl rfl) ?_
        refine TrL.v (v_pick_f rfl rfl (bf_b h25) rfl) rfl rfl (bl rfl) ?_
        refine TrL.v (v_move rfl rfl) rfl rfl (bl rfl) ?_
        refine TrL.cons_no rfl rfl rfl (gn_t rfl) rfl (bl rfl) ?_
        refine TrL.cons_no rfl rfl rfl (gn_t rfl) rfl (bl rfl) ?_
        refine TrL.cons_no rfl rfl rfl (gn_t rfl) rfl (bl rfl) ?_
        refine TrL.v (v_pick_f rfl rfl rfl rfl) rfl rfl (bl rfl) ?_
        refine TrL.v (v_move rfl rfl) rfl rfl (bl rfl) ?_
        refine TrL.cons_no rfl rfl rfl (gn_t rfl) rfl (bl rfl) ?_
        refine TrL.cons_no rfl rfl rfl (gn_t rfl) rfl (bl rfl) ?_
        refine TrL.v (v_pick_f rfl rfl rfl rfl) rfl rfl (bl rfl) ?_
        refine TrL.v (v_move rfl rfl) rfl rfl (bl rfl) ?_
        refine TrL.cons_no rfl rfl rfl (gn_t rfl) rfl (bl rfl) ?_
        refine TrL.cons_no rfl rfl rfl (gn_t rfl) rfl (bl rfl) ?_
        refine TrL.v (v_pick_f rfl rfl rfl rfl) rfl rfl (bl rfl) ?_
        refine TrL.v (v_assign rfl rfl) rfl rfl (bl rfl) ?_
        refine TrL.nil (qthen_n ?_)
        have hz := Option.some.inj H
        subst hz
        refine Tr.ret (ret_r ⟨[(6, .bool false)], [], [], []⟩ [.bool false] [] [] (Imp.re _ [] [] (sc rfl sn) (by decide) rfl rfl rfl) rfl rfl ⟨rfl, rfl, rfl⟩ (.cons (resv_tmp rfl) .nil))
end Go.Proofs.Ytbeknohemgjfbaa.W
