/- The contracts of the walked functions: the printed walks. -/
import Derived.Test.YthgeodagikmpjaaKb
import Derived.Test.YthgeodagikmpjaaQb
import Derived.Test.YthgeodagikmpjaaWcodecab
import Derived.Test.YthgeodagikmpjaaWlaw02ab
namespace Go.Proofs.Ythgeodagikmpjaa.W
open Go Go.Proofs Go.Proofs.Ythgeodagikmpjaa.L Go.Proofs.Ythgeodagikmpjaa.Pu
set_option linter.unusedVariables false
set_option maxHeartbeats 4000000

theorem c_law02_CodecBack (p1 : Int) (p2 : Int) (p3 : List Int) (A1 : Option Addr) (c1 : Nat) (r : Bool) (H : law02_CodecBack p1 p2 p3 = some r) :
    Ctr Try.prog 10 [.int .u64 p1, .int .u64 p2, .slice A1 p3.length c1] [] [slF (rInt .u8) A1 c1 p3] (fun ret M' F' => ret = .bool r ∧ M' = [] ∧ F' = []) := by
  unfold law02_CodecBack at H
  refine ctr_ofI (N := 67) Try.func10 rfl Try.ntmps10 rfl (Nat.le_of_ble_eq_true rfl) (fun γ0 w0 => ?_)
  refine Tr.seq ?_
  refine Tr.region ?_
  refine TrL.v (v_assign rfl rfl) rfl rfl (bl rfl) ?_
  refine TrL.nil (qthen_n ?_)
  refine Tr.seq ?_
  refine Tr.region ?_
  obtain ⟨r13, hr13, H⟩ := bnd H
  refine TrL.cons rfl (op_call0' (vs := []) (cap := []) [] rfl rfl (bl rfl) rfl rfl en24 (c_law02_awake r13 hr13) rfl (fun ret M' F' hR13 => ?_))
  obtain ⟨rfl, rfl, rfl⟩ := hR13
  refine TrL.v (v_assign rfl rfl) rfl rfl (bl rfl) ?_
  refine TrL.nil (qthen_n ?_)
  refine Tr.seq ?_
  refine Tr.seq ?_
  refine Tr.region ?_
  refine TrL.v (v_move rfl rfl) rfl rfl (bl rfl) ?_
  refine TrL.v (v_len rfl sl23 rfl) rfl rfl (bl rfl) ?_
  refine TrL.v (v_arith rfl rfl rfl ar_gtr) rfl rfl (bl rfl) ?_
  refine TrL.nil (qthen_n ?_)
  rcases ifc H with ⟨h15, H⟩ | ⟨h15, H⟩
  · refine Tr.cond_t rfl (bt_dec h15) ?_
    refine Tr.seq ?_
    refine Tr.region ?_
    refine TrL.v (v_move rfl rfl) rfl rfl (bl rfl) ?_
    refine TrL.v (v_assign rfl rfl) rfl rfl (bl rfl) ?_
    refine TrL.nil (qthen_n ?_)
    have hz := Option.some.inj H
    subst hz
    refine Tr.ret (qthen_r (ret_r ⟨[(6, .bool r13)], [], [], []⟩ [.bool r13] [] [] (Imp.re _ [] [] (sc rfl sn) (by decide) rfl rfl rfl) rfl rfl ⟨rfl, rfl, rfl⟩ (.cons (resv_tmp rfl) .nil)))
  · refine Tr.cond_f rfl (bf_dec h15) ?_
    refine Tr.skip (qthen_n ?_)
    refine Tr.seq ?_
    refine Tr.region ?_
    refine TrL.cons rfl (op_buildSlice' (rp := (rInt .u8)) (xs := []) (vs := []) (out := []) rfl (bl rfl) rfl sl23 ty5 ze5 rfl rfl (by decide) (by decide) rfl (fun γ w hF => rown) (fun A6 => ?_))
    refine TrL.v (v_move rfl rfl) rfl rfl (bl rfl) ?_
    obtain ⟨r14, hr14, H⟩ := bnd H
    refine TrL.cons rfl (op_call0' (vs := [.int .u64 p1]) (cap := []) [] rfl rfl (bl rfl) rfl rfl en25 (c_codec_Num p1 r14 hr14) rfl (fun ret M' F' hR14 => ?_))
    obtain ⟨m14, rfl, rfl, rfl⟩ := hR14
    refine TrL.full' (E := 5) (sz := 1) (A := A6) (n := 0) ?_
    obtain ⟨h16, H⟩ := rom H
    refine TrL.cons rfl (op_append' (rp := (rInt .u8)) (xs := ([] : List Int)) (ys := r14) (k := 0) (kx := 1) (ky := 2) rfl (bl rfl) rfl sl23 ty5 ze5 rfl by5 rfl rfl rfl rfl rfl rfl rfl h16.1 h16.2 (fun A7 c5 o4 => ?_))
    refine TrL.v (v_move rfl rfl) rfl rfl (bl rfl) ?_
    obtain ⟨r15, hr15, H⟩ := bnd H
    refine TrL.cons rfl (op_call0' (vs := [.int .u64 p2]) (cap := []) [] rfl rfl (bl rfl) rfl rfl en27 (c_codec_Fixed p2 r15 hr15) rfl (fun ret M' F' hR15 => ?_))
    obtain ⟨m15, rfl, rfl, rfl⟩ := hR15
    obtain ⟨h17, H⟩ := rom H
    refine TrL.cons rfl (op_append' (rp := (rInt .u8)) (xs := r14) (ys := r15) (k := 0) (kx := 3) (ky := 4) rfl (bl rfl) rfl sl23 ty5 ze5 rfl by5 rfl rfl rfl rfl rfl rfl rfl h17.1 h17.2 (fun A8 c6 o5 => ?_))
    refine TrL.v (v_move rfl rfl) rfl rfl (bl rfl) ?_
    obtain ⟨r16, hr16, H⟩ := bnd H
    refine TrL.cons rfl (op_call0' (vs := [.slice A1 p3.length c1]) (cap := []) [0] rfl rfl (bl rfl) rfl rfl en29 (c_codec_Text p3 A1 c1 r16 hr16) rfl (fun ret M' F' hR16 => ?_))
    obtain ⟨m16, rfl, rfl, rfl⟩ := hR16
    obtain ⟨h18, H⟩ := rom H
    refine TrL.cons rfl (op_append' (rp := (rInt .u8)) (xs := r14 ++ r15) (ys := r16) (k := 0) (kx := 5) (ky := 6) rfl (bl rfl) rfl sl23 ty5 ze5 rfl by5 rfl rfl rfl rfl rfl rfl rfl h18.1 h18.2 (fun A9 c7 o6 => ?_))
    refine TrL.v (v_assign rfl rfl) rfl rfl (bl rfl) ?_
    refine TrL.nil (qthen_n ?_)
    refine Tr.seq ?_
    refine Tr.region ?_
    refine TrL.v (v_move rfl rfl) rfl rfl (bl rfl) ?_
    obtain ⟨r17, hr17, H⟩ := bnd H
    refine TrL.cons rfl (op_call0' (vs := [.slice A9 (((r14 ++ r15) ++ r16).length) c7]) (cap := []) [7] rfl rfl (bl rfl) rfl rfl en31 (c_codec_New ((r14 ++ r15) ++ r16) A9 c7 r17 hr17) rfl (fun ret M' F' hR17 => ?_))
    obtain ⟨m17, rfl, rfl, rfl⟩ := hR17
    refine TrL.v (v_assign rfl rfl) rfl rfl (bl rfl) ?_
    refine TrL.nil (qthen_n ?_)
    refine Tr.seq ?_
    refine Tr.region ?_
    refine TrL.v (v_move rfl rfl) rfl rfl (bl rfl) ?_
    refine TrL.v (v_move rfl rfl) rfl rfl (bl rfl) ?_
    obtain ⟨r18, hr18, H⟩ := bnd H
    refine TrL.cons rfl (op_callg' (fs := []) (vs := [.pointer (some ⟨m17, 0, none⟩), .int .u64 p1]) (cap := []) (Mr := [grow 5 1 (.slice A9 (((r14 ++ r15) ++ r16).length) c7) (((r14 ++ r15) ++ r16).length) o6, grow 5 1 (.slice m14.1 r14.length m14.2.1) r14.length m14.2.2]) [0] [1, 2] [8] rfl rfl rfl en32 (c_codec_Reader_Num ((((r14 ++ r15) ++ r16).take ((((r14 ++ r15) ++ r16).length : Int)).toNat, (0 : Int))) p1 m17 (slA A9 0 ((((r14 ++ r15) ++ r16).length : Int)).toNat 1) (((((r14 ++ r15) ++ r16).length : Int)).toNat) r18 hr18) (by decide) rfl rfl rfl (bl rfl) (fun ret M' F' hR18 => ?_))
    obtain ⟨m18, rfl, rfl, rfl⟩ := hR18
    refine TrL.v (v_assign rfl rfl) rfl rfl (bl rfl) ?_
    refine TrL.nil (qthen_n ?_)
    refine Tr.seq ?_
    refine Tr.region ?_
    refine TrL.v (v_move rfl rfl) rfl rfl (bl rfl) ?_
    obtain ⟨r19, hr19, H⟩ := bnd H
    refine TrL.cons rfl (op_callg' (fs := []) (vs := [.pointer (some ⟨m17, 0, none⟩)]) (cap := []) (Mr := [grow 5 1 (.slice A9 (((r14 ++ r15) ++ r16).length) c7) (((r14 ++ r15) ++ r16).length) o6, grow 5 1 (.slice m14.1 r14.length m14.2.1) r14.length m14.2.2]) [0] [1, 2] [9] rfl rfl rfl en36 (c_codec_Reader_Fixed r18.2 m17 m18.1 m18.2 r19 hr19) (by decide) rfl rfl rfl (bl rfl) (fun ret M' F' hR19 => ?_))
    obtain ⟨m19, rfl, rfl, rfl⟩ := hR19
    refine TrL.v (v_assign rfl rfl) rfl rfl (bl rfl) ?_
    refine TrL.nil (qthen_n ?_)
    refine Tr.seq ?_
    refine Tr.region ?_
    refine TrL.v (v_move rfl rfl) rfl rfl (bl rfl) ?_
    refine TrL.v (v_move rfl rfl) rfl rfl (bl rfl) ?_
    refine TrL.v (v_len rfl sl23 rfl) rfl rfl (bl rfl) ?_
    obtain ⟨r20, hr20, H⟩ := bnd H
    refine TrL.cons rfl (op_callg' (fs := []) (vs := [.pointer (some ⟨m17, 0, none⟩), .int .i64 ((p3.length : Int))]) (cap := []) (Mr := [grow 5 1 (.slice A9 (((r14 ++ r15) ++ r16).length) c7) (((r14 ++ r15) ++ r16).length) o6, grow 5 1 (.slice m14.1 r14.length m14.2.1) r14.length m14.2.2]) [0] [1, 2] [10] rfl rfl rfl en35 (c_codec_Reader_Text r19.2 ((p3.length : Int)) m17 m19.1 m19.2 r20 hr20) (by decide) rfl rfl rfl (bl rfl) (fun ret M' F' hR20 => ?_))
    obtain ⟨m20, rfl, rfl, rfl⟩ := hR20
    refine TrL.v (v_assign rfl rfl) rfl rfl (bl rfl) ?_
    refine TrL.nil (qthen_n ?_)
    refine Tr.seq ?_
    refine Tr.region ?_
    refine TrL.v (v_move rfl rfl) rfl rfl (bl rfl) ?_
    refine TrL.v (v_move rfl rfl) rfl rfl (bl rfl) ?_
    rcases ifc H with ⟨h24, H⟩ | ⟨h24, H⟩
    · refine TrL.cons_yes rfl rfl rfl h24 (OpTr.v (v_move rfl rfl) rfl (bl rfl) ?_)
      refine TrL.cons_yes rfl rfl rfl h24 (OpTr.v (v_move rfl rfl) rfl (bl rfl) ?_)
      refine TrL.cons_yes rfl rfl rfl h24 (OpTr.v (v_arith rfl rfl rfl ar_eql) rfl (bl rfl) ?_)
      refine TrL.v (v_pick_t rfl rfl h24 rfl) rfl rfl (bl rfl) ?_
      refine TrL.v (v_move rfl rfl) rfl rfl (bl rfl) ?_
      rcases ifc H with ⟨h25, H⟩ | ⟨h25, H⟩
      · refine TrL.cons_yes rfl rfl rfl (bt_dec h25) (OpTr.v (v_move rfl rfl) rfl (bl rfl) ?_)
        refine TrL.cons_yes rfl rfl rfl (bt_dec h25) (OpTr.v (v_move rfl rfl) rfl (bl rfl) ?_)
        refine TrL.cons_yes rfl rfl rfl (bt_dec h25) (OpTr.v (v_arith rfl rfl rfl ar_eql) rfl (bl rfl) ?_)
        refine TrL.v (v_pick_t rfl rfl (bt_dec h25) rfl) rfl rfl (bl rfl) ?_
        refine TrL.v (v_move rfl rfl) rfl rfl (bl rfl) ?_
        rcases ifc H with ⟨h26, H⟩ | ⟨h26, H⟩
        · refine TrL.cons_yes rfl rfl rfl (bt_dec h26) (OpTr.v (v_move rfl rfl) rfl (bl rfl) ?_)
          refine TrL.shut' 1 rfl ?_
          refine TrL.cons_yes rfl rfl rfl (bt_dec h26) (OpTr.v (v_bstr (k := 12) rfl Try.underlying23 Try.underlying5 Try.underlying9 rfl rfl rfl) rfl (bl rfl) ?_)
          refine TrL.cons_yes rfl rfl rfl (bt_dec h26) (OpTr.v (v_move rfl rfl) rfl (bl rfl) ?_)
          refine TrL.cons_yes rfl rfl rfl (bt_dec h26) (OpTr.v (v_bstr (k := 0) rfl Try.underlying23 Try.underlying5 Try.underlying9 rfl rfl rfl) rfl (bl rfl) ?_)
          refine TrL.cons_yes rfl rfl rfl (bt_dec h26) (OpTr.v (v_streq rfl rfl rfl) rfl (bl rfl) ?_)
          refine TrL.v (v_pick_t rfl rfl (bt_dec h26) rfl) rfl rfl (bl rfl) ?_
          refine TrL.v (v_move rfl rfl) rfl rfl (bl rfl) ?_
          rcases ifc H with ⟨h27, H⟩ | ⟨h27, H⟩
          · refine TrL.cons_yes rfl rfl rfl (bt_dec h27) (OpTr.v (v_move rfl rfl) rfl (bl rfl) ?_)
            obtain ⟨r23, hr23, H⟩ := bnd H
            refine TrL.cons_yes rfl rfl rfl (bt_dec h27) (op_callg' (fs := []) (vs := [.pointer (some ⟨m17, 0, none⟩)]) (cap := []) (Mr := [grow 5 1 (.slice A9 (((r14 ++ r15) ++ r16).length) c7) (((r14 ++ r15) ++ r16).length) o6, grow 5 1 (.slice m14.1 r14.length m14.2.1) r14.length m14.2.2]) [0] [1, 2] [11] rfl rfl rfl en37 (c_codec_Reader_End r20.2 m17 m20.2.2.1 m20.2.2.2 r23 hr23) (by decide) rfl rfl rfl (bl rfl) (fun ret M' F' hR23 => ?_))
            obtain ⟨rfl, rfl, rfl⟩ := hR23
            refine TrL.cons_yes rfl rfl rfl (bt_dec h27) (OpTr.v (v_arith rfl rfl rfl ar_eql) rfl (bl rfl) ?_)
            refine TrL.v (v_pick_t rfl rfl (bt_dec h27) rfl) rfl rfl (bl rfl) ?_
            refine TrL.v (v_move rfl rfl) rfl rfl (bl rfl) ?_
            rcases ifc H with ⟨h28, H⟩ | ⟨h28, H⟩
            · refine TrL.cons_yes rfl rfl rfl (bt_dec h28) (OpTr.v (v_move rfl rfl) rfl (bl rfl) ?_)
              obtain ⟨r24, hr24, H⟩ := bnd H
              refine TrL.cons_yes rfl rfl rfl (bt_dec h28) (op_callg' (fs := []) (vs := [.pointer (some ⟨m17, 0, none⟩)]) (cap := []) (Mr := [grow 5 1 (.slice A9 (((r14 ++ r15) ++ r16).length) c7) (((r14 ++ r15) ++ r16).length) o6, grow 5 1 (.slice m14.1 r14.length m14.2.1) r14.length m14.2.2]) [0] [1, 2] [11] rfl rfl rfl en34 (c_codec_Reader_Left r20.2 m17 m20.2.2.1 m20.2.2.2 r24 hr24) (by decide) rfl rfl rfl (bl rfl) (fun ret M' F' hR24 => ?_))
              obtain ⟨rfl, rfl, rfl⟩ := hR24
              refine TrL.cons_yes rfl rfl rfl (bt_dec h28) (OpTr.v (v_arith rfl rfl rfl ar_eql) rfl (bl rfl) ?_)
              refine TrL.v (v_pick_t rfl rfl (bt_dec h28) rfl) rfl rfl (bl rfl) ?_
              refine TrL.v (v_assign rfl rfl) rfl rfl (bl rfl) ?_
              refine TrL.nil (qthen_n ?_)
              have hz := Option.some.inj H
              subst hz
              refine Tr.ret (ret_r ⟨[(6, .bool (decide (((r20.2.1.length : Int)) = 0)))], [], [], []⟩ [.bool (decide (((r20.2.1.length : Int)) = 0))] [] [] (Imp.re _ [] [] (sc rfl sn) (by decide) rfl rfl rfl) rfl rfl ⟨rfl, rfl, rfl⟩ (.cons (resv_tmp rfl) .nil))
            · refine TrL.cons_no rfl rfl rfl (gn_t (bf_dec h28)) rfl (bl rfl) ?_
              refine TrL.cons_no rfl rfl rfl (gn_t (bf_dec h28)) rfl (bl rfl) ?_
              refine TrL.cons_no rfl rfl rfl (gn_t (bf_dec h28)) rfl (bl rfl) ?_
              refine TrL.v (v_pick_f rfl rfl (bf_dec h28) rfl) rfl rfl (bl rfl) ?_
              refine TrL.v (v_assign rfl rfl) rfl rfl (bl rfl) ?_
              refine TrL.nil (qthen_n ?_)
              have hz := Option.some.inj H
              subst hz
              refine Tr.ret (ret_r ⟨[(6, .bool false)], [], [], []⟩ [.bool false] [] [] (Imp.re _ [] [] (sc rfl sn) (by decide) rfl rfl rfl) rfl rfl ⟨rfl, rfl, rfl⟩ (.cons (resv_tmp rfl) .nil))
          · refine TrL.cons_no rfl rfl rfl (gn_t (bf_dec h27)) rfl (bl rfl) ?_
            refine TrL.cons_no rfl rfl rfl (gn_t (bf_dec h27)) rfl (bl rfl) ?_
            refine TrL.cons_no rfl rfl rfl (gn_t (bf_dec h27)) rfl (bl rfl) ?_
            refine TrL.v (v_pick_f rfl rfl (bf_dec h27) rfl) rfl rfl (bl rfl) ?_
            refine TrL.v (v_move rfl rfl) rfl rfl (bl rfl) ?_
            refine TrL.cons_no rfl rfl rfl (gn_t rfl) rfl (bl rfl) ?_
            refine TrL.cons_no rfl rfl rfl (gn_t rfl) rfl (bl rfl) ?_
            refine TrL.cons_no rfl rfl rfl (gn_t rfl) rfl (bl rfl) ?_
            refine TrL.v (v_pick_f rfl rfl rfl rfl) rfl rfl (bl rfl) ?_
            refine TrL.v (v_assign rfl rfl) rfl rfl (bl rfl) ?_
            refine TrL.nil (qthen_n ?_)
            have hz := Option.some.inj H
            subst hz
            refine Tr.ret (ret_r ⟨[(6, .bool false)], [], [], []⟩ [.bool false] [] [] (Imp.re _ [] [] (sc rfl sn) (by decide) rfl rfl rfl) rfl rfl ⟨rfl, rfl, rfl⟩ (.cons (resv_tmp rfl) .nil))
        · refine TrL.cons_no rfl rfl rfl (gn_t (bf_dec h26)) rfl (bl rfl) ?_
          refine TrL.cons_no rfl rfl rfl (gn_t (bf_dec h26)) rfl (bl rfl) ?_
          refine TrL.cons_no rfl rfl rfl (gn_t (bf_dec h26)) rfl (bl rfl) ?_
          refine TrL.cons_no rfl rfl rfl (gn_t (bf_dec h26)) rfl (bl rfl) ?_
          refine TrL.cons_no rfl rfl rfl (gn_t (bf_dec h26)) rfl (bl rfl) ?_
          refine TrL.v (v_pick_f rfl rfl (bf_dec h26) rfl) rfl rfl (bl rfl) ?_
          refine TrL.v (v_move rfl rfl) rfl rfl (bl rfl) ?_
          refine TrL.cons_no rfl rfl rfl (gn_t rfl) rfl (bl rfl) ?_
          refine TrL.cons_no rfl rfl rfl (gn_t rfl) rfl (bl rfl) ?_
          refine TrL.cons_no rfl rfl rfl (gn_t rfl) rfl (bl rfl) ?_
          refine TrL.v (v_pick_f rfl rfl rfl rfl) rfl rfl (bl rfl) ?_
          refine TrL.v (v_move rfl rfl) rfl rfl (bl rfl) ?_
          refine TrL.cons_no rfl rfl rfl (gn_t rfl) rfl (bl rfl) ?_
          refine TrL.cons_no rfl rfl rfl (gn_t rfl) rfl (bl rfl) ?_
          refine TrL.cons_no rfl rfl rfl (gn_t rfl) rfl (bl rfl) ?_
          refine TrL.v (v_pick_f rfl rfl rfl rfl) rfl rfl (bl rfl) ?_
          refine TrL.v (v_assign rfl rfl) rfl rfl (bl rfl) ?_
          refine TrL.nil (qthen_n ?_)
          have hz := Option.some.inj H
          subst hz
          refine Tr.ret (ret_r ⟨[(6, .bool false)], [], [], []⟩ [.bool false] [] [] (Imp.re _ [] [] (sc rfl sn) (by decide) rfl rfl rfl) rfl rfl ⟨rfl, rfl, rfl⟩ (.cons (resv_tmp rfl) .nil))
      · refine TrL.cons_no rfl rfl rfl (gn_t (bf_dec h25)) rfl (bl rfl) ?_
        refine TrL.cons_no rfl rfl rfl (gn_t (bf_dec h25)) rfl (bl rfl) ?_
        refine TrL.cons_no rfl rfl rfl (gn_t (bf_dec h25)) rfl (bl rfl) ?_
        refine TrL.v (v_pick_f rfl rfl (bf_dec h25) rfl) rfl rfl (bl rfl) ?_
        refine TrL.v (v_move rfl rfl) rfl rfl (bl rfl) ?_
        refine TrL.cons_no rfl rfl rfl (gn_t rfl) rfl (bl rfl) ?_
        refine TrL.cons_no rfl rfl rfl (gn_t rfl) rfl (bl rfl) ?_
        refine TrL.cons_no rfl rfl rfl (gn_t rfl) rfl (bl rfl) ?_
        refine TrL.cons_no rfl rfl rfl (gn_t rfl) rfl (bl rfl) ?_
        refine TrL.cons_no rfl rfl rfl (gn_t rfl) rfl (bl rfl) ?_
        refine TrL.v (v_pick_f rfl rfl rfl rfl) rfl rfl (bl rfl) ?_
        refine TrL.v (v_move rfl rfl) rfl rfl (bl rfl) ?_
        refine TrL.cons_no rfl rfl rfl (gn_t rfl) rfl (bl rfl) ?_
        refine TrL.cons_no rfl rfl rfl (gn_t rfl) rfl (bl rfl) ?_
        refine TrL.cons_no rfl rfl rfl (gn_t rfl) rfl (bl rfl) ?_
        refine TrL.v (v_pick_f rfl rfl rfl rfl) rfl rfl (bl rfl) ?_
        refine TrL.v (v_move rfl rfl) rfl rfl (bl rfl) ?_
        refine TrL.cons_no rfl rfl rfl (gn_t rfl) rfl (bl rfl) ?_
        refine TrL.cons_no rfl rfl rfl (gn_t rfl) rfl (bl rfl) ?_
        refine TrL.cons_no rfl rfl rfl (gn_t rfl) rfl (bl rfl) ?_
        refine TrL.v (v_pick_f rfl rfl rfl rfl) rfl rfl (bl rfl) ?_
        refine TrL.v (v_assign rfl rfl) rfl rfl (bl rfl) ?_
        refine TrL.nil (qthen_n ?_)
        have hz := Option.some.inj H
        subst hz
        refine Tr.ret (ret_r ⟨[(6, .bool false)], [], [], []⟩ [.bool false] [] [] (Imp.re _ [] [] (sc rfl sn) (by decide) rfl rfl rfl) rfl rfl ⟨rfl, rfl, rfl⟩ (.cons (resv_tmp rfl) .nil))
    · refine TrL.cons_no rfl rfl rfl (gn_t (bf_b h24)) rfl (bl rfl) ?_
      refine TrL.cons_no rfl rfl rfl (gn_t (bf_b h24)) rfl (bl rfl) ?_
      refine TrL.cons_no rfl rfl rfl (gn_t (bf_b h24)) rfl (bl rfl) ?_
      refine TrL.v (v_pick_f rfl rfl (bf_b h24) rfl) rfl rfl (bl rfl) ?_
      refine TrL.v (v_move rfl rfl) rfl rfl (bl rfl) ?_
      refine TrL.cons_no rfl rfl rfl (gn_t rfl) rfl (bl rfl) ?_
      refine TrL.cons_no rfl rfl rfl (gn_t rfl) rfl (bl rfl) ?_
      refine TrL.cons_no rfl rfl rfl (gn_t rfl) rfl (bl rfl) ?_
      refine TrL.v (v_pick_f rfl rfl rfl rfl) rfl rfl (bl rfl) ?_
      refine TrL.v (v_move rfl rfl) rfl rfl (bl rfl) ?_
      refine TrL.cons_no rfl rfl rfl (gn_t rfl) rfl (bl rfl) ?_
      refine TrL.cons_no rfl rfl rfl (gn_t rfl) rfl (bl rfl) ?_
      refine TrL.cons_no rfl rfl rfl (gn_t rfl) rfl (bl rfl) ?_
      refine TrL.cons_no rfl rfl rfl (gn_t rfl) rfl (bl rfl) ?_
      refine TrL.cons_no rfl rfl rfl (gn_t rfl) rfl (bl rfl) ?_
      refine TrL.v (v_pick_f rfl rfl rfl rfl) rfl rfl (bl rfl) ?_
      refine TrL.v (v_move rfl rfl) rfl rfl (bl rfl) ?_
      refine TrL.cons_no rfl rfl rfl (gn_t rfl) rfl (bl rfl) ?_
      refine TrL.cons_no rfl rfl rfl (gn_t rfl) rfl (bl rfl) ?_
      refine TrL.cons_no rfl rfl rfl (gn_t rfl) rfl (bl rfl) ?_
      refine TrL.v (v_pick_f rfl rfl rfl rfl) rfl rfl (bl rfl) ?_
      refine TrL.v (v_move rfl rfl) rfl rfl (bl rfl) ?_
      refine TrL.cons_no rfl rfl rfl (gn_t rfl) rfl (bl rfl) ?_
      refine TrL.cons_no rfl rfl rfl (gn_t rfl) rfl (bl rfl) ?_
      refine TrL.cons_no rfl rfl rfl (gn_t rfl) rfl (bl rfl) ?_
      refine TrL.v (v_pick_f rfl rfl rfl rfl) rfl rfl (bl rfl) ?_
      refine TrL.v (v_assign rfl rfl) rfl rfl (bl rfl) ?_
      refine TrL.nil (qthen_n ?_)
      have hz := Option.some.inj H
      subst hz
      refine Tr.ret (ret_r ⟨[(6, .bool false)], [], [], []⟩ [.bool false] [] [] (Imp.re _ [] [] (sc rfl sn) (by decide) rfl rfl rfl) rfl rfl ⟨rfl, rfl, rfl⟩ (.cons (resv_tmp rfl) .nil))
end Go.Proofs.Ythgeodagikmpjaa.W
