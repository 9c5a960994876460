/- The contracts of the walked functions: the printed walks. -/
import Derived.Test.YthgeodagikmpjaaKb
import Derived.Test.YthgeodagikmpjaaQb
import Derived.Test.YthgeodagikmpjaaWcodecab
namespace Go.Proofs.Ythgeodagikmpjaa.W
open Go Go.Proofs Go.Proofs.Ythgeodagikmpjaa.L Go.Proofs.Ythgeodagikmpjaa.Pu
set_option linter.unusedVariables false
set_option maxHeartbeats 4000000

theorem c_law02_awake (r : Bool) (H : law02_awake = some r) :
    Ctr Try.prog 24 [] [] [] (fun ret M' F' => ret = .bool r ∧ M' = [] ∧ F' = []) := by
  unfold law02_awake at H
  refine ctr_ofI (N := 34) Try.func24 rfl Try.ntmps24 rfl (Nat.le_of_ble_eq_true rfl) (fun γ0 w0 => ?_)
  refine Tr.seq ?_
  refine Tr.region ?_
  refine TrL.v (v_assign rfl rfl) rfl rfl (bl rfl) ?_
  refine TrL.nil (qthen_n ?_)
  refine Tr.seq ?_
  refine Tr.region ?_
  refine TrL.cons rfl (op_buildSliceA (rp := (rInt .u8)) (ys := [(97 : Int), (98 : Int)]) (vs := [.int .u8 97, .int .u8 98]) (out := [.int .u8 97, .int .u8 98]) rfl (bl rfl) rfl sl23 ty5 ze5 rfl rfl (by decide) (by decide) rfl (fun γ w => (rowc rfl (rowc rfl rown rfl) rfl)) (fun A2 => ?_))
  refine TrL.cons rfl (op_convSame (k := 0) rfl (bl rfl) rfl Try.underlying23 Try.underlying5 rfl rfl (by decide) ?_)
  obtain ⟨r10, hr10, H⟩ := bnd H
  refine TrL.cons rfl (op_call0' (vs := [.slice A2 2 2]) (cap := []) [0] rfl rfl (bl rfl) rfl rfl en29 (c_codec_Text ([(97 : Int), (98 : Int)]) A2 2 r10 hr10) rfl (fun ret M' F' hR10 => ?_))
  obtain ⟨m10, rfl, rfl, rfl⟩ := hR10
  refine TrL.v (v_assign rfl rfl) rfl rfl (bl rfl) ?_
  refine TrL.nil (qthen_n ?_)
  refine Tr.seq ?_
  refine Tr.region ?_
  refine TrL.v (v_move rfl rfl) rfl rfl (bl rfl) ?_
  obtain ⟨r11, hr11, H⟩ := bnd H
  refine TrL.cons rfl (op_call0' (vs := [.slice m10.1 r10.length m10.2]) (cap := []) [1] rfl rfl (bl rfl) rfl rfl en31 (c_codec_New r10 m10.1 m10.2 r11 hr11) rfl (fun ret M' F' hR11 => ?_))
  obtain ⟨m11, rfl, rfl, rfl⟩ := hR11
  refine TrL.v (v_assign rfl rfl) rfl rfl (bl rfl) ?_
  refine TrL.nil (qthen_n ?_)
  refine Tr.seq ?_
  refine Tr.region ?_
  refine TrL.v (v_move rfl rfl) rfl rfl (bl rfl) ?_
  obtain ⟨r12, hr12, H⟩ := bnd H
  refine TrL.cons rfl (op_callg' (fs := []) (vs := [.pointer (some ⟨m11, 0, none⟩), .int .i64 2]) (cap := []) (Mr := []) [0] [] [2] rfl rfl rfl en35 (c_codec_Reader_Text ((r10.take ((r10.length : Int)).toNat, (0 : Int))) ((2 : Int)) m11 (slA m10.1 0 ((r10.length : Int)).toNat 1) (((r10.length : Int)).toNat) r12 hr12) (by decide) rfl rfl rfl (bl rfl) (fun ret M' F' hR12 => ?_))
  obtain ⟨m12, rfl, rfl, rfl⟩ := hR12
  refine TrL.v (v_assign rfl rfl) rfl rfl (bl rfl) ?_
  refine TrL.nil (qthen_n ?_)
  refine Tr.seq ?_
  refine Tr.region ?_
  refine TrL.v (v_move rfl rfl) rfl rfl (bl rfl) ?_
  refine TrL.v (v_bstr (k := 1) rfl Try.underlying23 Try.underlying5 Try.underlying9 rfl rfl rfl) rfl rfl (bl rfl) ?_
  refine TrL.v (v_streq rfl rfl rfl) rfl rfl (bl rfl) ?_
  refine TrL.v (v_move rfl rfl) rfl rfl (bl rfl) ?_
  rcases ifc H with ⟨h13, H⟩ | ⟨h13, H⟩
  · refine TrL.cons_yes rfl rfl rfl (bt_dec h13) (OpTr.v (v_move rfl rfl) rfl (bl rfl) ?_)
    refine TrL.shut' 1 rfl ?_
    refine TrL.cons_yes rfl rfl rfl (bt_dec h13) (OpTr.v (v_bstr (k := 4) rfl Try.underlying23 Try.underlying5 Try.underlying9 rfl rfl rfl) rfl (bl rfl) ?_)
    refine TrL.cons_yes rfl rfl rfl (bt_dec h13) (OpTr.v (v_streq rfl rfl rfl) rfl (bl rfl) ?_)
    refine TrL.v (v_pick_t rfl rfl (bt_dec h13) rfl) rfl rfl (bl rfl) ?_
    refine TrL.v (v_move rfl rfl) rfl rfl (bl rfl) ?_
    rcases ifc H with ⟨h14, H⟩ | ⟨h14, H⟩
    · refine TrL.cons_yes rfl rfl rfl (bt_dec h14) (OpTr.v (v_move rfl rfl) rfl (bl rfl) ?_)
      obtain ⟨r16, hr16, H⟩ := bnd H
      refine TrL.cons_yes rfl rfl rfl (bt_dec h14) (op_callg' (fs := []) (vs := [.pointer (some ⟨m11, 0, none⟩)]) (cap := []) (Mr := []) [0] [] [3] rfl rfl rfl en37 (c_codec_Reader_End r12.2 m11 m12.2.2.1 m12.2.2.2 r16 hr16) (by decide) rfl rfl rfl (bl rfl) (fun ret M' F' hR16 => ?_))
      obtain ⟨rfl, rfl, rfl⟩ := hR16
      refine TrL.cons_yes rfl rfl rfl (bt_dec h14) (OpTr.v (v_arith rfl rfl rfl ar_eql) rfl (bl rfl) ?_)
      refine TrL.v (v_pick_t rfl rfl (bt_dec h14) rfl) rfl rfl (bl rfl) ?_
      refine TrL.v (v_move rfl rfl) rfl rfl (bl rfl) ?_
      rcases ifc H with ⟨h15, H⟩ | ⟨h15, H⟩
      · obtain ⟨r17, hr17, H⟩ := bnd H
        refine TrL.cons_yes rfl rfl rfl (bt_dec h15) (op_call0' (vs := [.int .u64 258]) (cap := []) [] rfl rfl (bl rfl) rfl rfl en27 (c_codec_Fixed ((258 : Int)) r17 hr17) rfl (fun ret M' F' hR17 => ?_))
        obtain ⟨m17, rfl, rfl, rfl⟩ := hR17
        refine TrL.cons_yes rfl rfl rfl (bt_dec h15) (OpTr.v (v_bstr (k := 6) rfl Try.underlying23 Try.underlying5 Try.underlying9 rfl rfl rfl) rfl (bl rfl) ?_)
        refine TrL.cons_yes rfl rfl rfl (bt_dec h15) (OpTr.v (v_streq rfl rfl rfl) rfl (bl rfl) ?_)
        refine TrL.v (v_pick_t rfl rfl (bt_dec h15) rfl) rfl rfl (bl rfl) ?_
        refine TrL.v (v_move rfl rfl) rfl rfl (bl rfl) ?_
        rcases ifc H with ⟨h16, H⟩ | ⟨h16, H⟩
        · obtain ⟨r18, hr18, H⟩ := bnd H
          refine TrL.cons_yes rfl rfl rfl (bt_dec h16) (op_call0' (vs := [.int .u64 300]) (cap := []) [] rfl rfl (bl rfl) rfl rfl en25 (c_codec_Num ((300 : Int)) r18 hr18) rfl (fun ret M' F' hR18 => ?_))
          obtain ⟨m18, rfl, rfl, rfl⟩ := hR18
          refine TrL.cons_yes rfl rfl rfl (bt_dec h16) (OpTr.v (v_bstr (k := 7) rfl Try.underlying23 Try.underlying5 Try.underlying9 rfl rfl rfl) rfl (bl rfl) ?_)
          refine TrL.cons_yes rfl rfl rfl (bt_dec h16) (OpTr.v (v_streq rfl rfl rfl) rfl (bl rfl) ?_)
          refine TrL.v (v_pick_t rfl rfl (bt_dec h16) rfl) rfl rfl (bl rfl) ?_
          refine TrL.v (v_assign rfl rfl) rfl rfl (bl rfl) ?_
          refine TrL.nil (qthen_n ?_)
          have hz := Option.some.inj H
          subst hz
          refine Tr.ret (ret_r ⟨[(0, .bool (decide ((bstr r18) = bs3)))], [], [], []⟩ [.bool (decide ((bstr r18) = bs3))] [] [] (Imp.re _ [] [] (sc rfl sn) (by decide) rfl rfl rfl) rfl rfl ⟨rfl, rfl, rfl⟩ (.cons (resv_tmp rfl) .nil))
        · refine TrL.cons_no rfl rfl rfl (gn_t (bf_dec h16)) rfl (bl rfl) ?_
          refine TrL.cons_no rfl rfl rfl (gn_t (bf_dec h16)) rfl (bl rfl) ?_
          refine TrL.cons_no rfl rfl rfl (gn_t (bf_dec h16)) rfl (bl rfl) ?_
          refine TrL.v (v_pick_f rfl rfl (bf_dec h16) rfl) rfl rfl (bl rfl) ?_
          refine TrL.v (v_assign rfl rfl) rfl rfl (bl rfl) ?_
          refine TrL.nil (qthen_n ?_)
          have hz := Option.some.inj H
          subst hz
          refine Tr.ret (ret_r ⟨[(0, .bool false)], [], [], []⟩ [.bool false] [] [] (Imp.re _ [] [] (sc rfl sn) (by decide) rfl rfl rfl) rfl rfl ⟨rfl, rfl, rfl⟩ (.cons (resv_tmp rfl) .nil))
      · refine TrL.cons_no rfl rfl rfl (gn_t (bf_dec h15)) rfl (bl rfl) ?_
        refine TrL.cons_no rfl rfl rfl (gn_t (bf_dec h15)) rfl (bl rfl) ?_
        refine TrL.cons_no rfl rfl rfl (gn_t (bf_dec h15)) rfl (bl rfl) ?_
        refine TrL.v (v_pick_f rfl rfl (bf_dec h15) rfl) rfl rfl (bl rfl) ?_
        refine TrL.v (v_move rfl rfl) rfl rfl (bl rfl) ?_
        refine TrL.cons_no rfl rfl rfl (gn_t rfl) rfl (bl rfl) ?_
        refine TrL.cons_no rfl rfl rfl (gn_t rfl) rfl (bl rfl) ?_
        refine TrL.cons_no rfl rfl rfl (gn_t rfl) rfl (bl rfl) ?_
        refine TrL.v (v_pick_f rfl rfl rfl rfl) rfl rfl (bl rfl) ?_
        refine TrL.v (v_assign rfl rfl) rfl rfl (bl rfl) ?_
        refine TrL.nil (qthen_n ?_)
        have hz := Option.some.inj H
        subst hz
        refine Tr.ret (ret_r ⟨[(0, .bool false)], [], [], []⟩ [.bool false] [] [] (Imp.re _ [] [] (sc rfl sn) (by decide) rfl rfl rfl) rfl rfl ⟨rfl, rfl, rfl⟩ (.cons (resv_tmp rfl) .nil))
    · refine TrL.cons_no rfl rfl rfl (gn_t (bf_dec h14)) rfl (bl rfl) ?_
      refine TrL.cons_no rfl rfl rfl (gn_t (bf_dec h14)) rfl (bl rfl) ?_
      refine TrL.cons_no rfl rfl rfl (gn_t (bf_dec h14)) rfl (bl rfl) ?_
      refine TrL.v (v_pick_f rfl rfl (bf_dec h14) rfl) rfl rfl (bl rfl) ?_
      refine TrL.v (v_move rfl rfl) rfl rfl (bl rfl) ?_
      refine TrL.cons_no rfl rfl rfl (gn_t rfl) rfl (bl rfl) ?_
      refine TrL.cons_no rfl rfl rfl (gn_t rfl) rfl (bl rfl) ?_
      refine TrL.cons_no rfl rfl rfl (gn_t rfl) rfl (bl rfl) ?_
      refine TrL.v (v_pick_f rfl rfl rfl rfl) rfl rfl (bl rfl) ?_
      refine TrL.v (v_move rfl rfl) rfl rfl (bl rfl) ?_
      refine TrL.cons_no rfl rfl rfl (gn_t rfl) rfl (bl rfl) ?_
      refine TrL.cons_no rfl rfl rfl (gn_t rfl) rfl (bl rfl) ?_
      refine TrL.cons_no rfl rfl rfl (gn_t rfl) rfl (bl rfl) ?_
      refine TrL.v (v_pick_f rfl rfl rfl rfl) rfl rfl (bl rfl) ?_
      refine TrL.v (v_assign rfl rfl) rfl rfl (bl rfl) ?_
      refine TrL.nil (qthen_n ?_)
      have hz := Option.some.inj H
      subst hz
      refine Tr.ret (ret_r ⟨[(0, .bool false)], [], [], []⟩ [.bool false] [] [] (Imp.re _ [] [] (sc rfl sn) (by decide) rfl rfl rfl) rfl rfl ⟨rfl, rfl, rfl⟩ (.cons (resv_tmp rfl) .nil))
  · refine TrL.cons_no rfl rfl rfl (gn_t (bf_dec h13)) rfl (bl rfl) ?_
    refine TrL.cons_no rfl rfl rfl (gn_t (bf_dec h13)) rfl (bl rfl) ?_
    refine TrL.cons_no rfl rfl rfl (gn_t (bf_dec h13)) rfl (bl rfl) ?_
    refine TrL.v (v_pick_f rfl rfl (bf_dec h13) rfl) rfl rfl (bl rfl) ?_
    refine TrL.v (v_move rfl rfl) rfl rfl (bl rfl) ?_
    refine TrL.cons_no rfl rfl rfl (gn_t rfl) rfl (bl rfl) ?_
    refine TrL.cons_no rfl rfl rfl (gn_t rfl) rfl (bl rfl) ?_
    refine TrL.cons_no rfl rfl rfl (gn_t rfl) rfl (bl rfl) ?_
    refine TrL.v (v_pick_f rfl rfl rfl rfl) rfl rfl (bl rfl) ?_
    refine TrL.v (v_move rfl rfl) rfl rfl (bl rfl) ?_
    refine TrL.cons_no rfl rfl rfl (gn_t rfl) rfl (bl rfl) ?_
    refine TrL.cons_no rfl rfl rfl (gn_t rfl) rfl (bl rfl) ?_
    refine TrL.cons_no rfl rfl rfl (gn_t rfl) rfl (bl rfl) ?_
    refine TrL.v (v_pick_f rfl rfl rfl rfl) rfl rfl (bl rfl) ?_
    refine TrL.v (v_move rfl rfl) rfl rfl (bl rfl) ?_
    refine TrL.cons_no rfl rfl rfl (gn_t rfl) rfl (bl rfl) ?_
    refine TrL.cons_no rfl rfl rfl (gn_t rfl) rfl (bl rfl) ?_
    refine TrL.cons_no rfl rfl rfl (gn_t rfl) rfl (bl rfl) ?_
    refine TrL.v (v_pick_f rfl rfl rfl rfl) rfl rfl (bl rfl) ?_
    refine TrL.v (v_assign rfl rfl) rfl rfl (bl rfl) ?_
    refine TrL.nil (qthen_n ?_)
    have hz := Option.some.inj H
    subst hz
    refine Tr.ret (ret_r ⟨[(0, .bool false)], [], [], []⟩ [.bool false] [] [] (Imp.re _ [] [] (sc rfl sn) (by decide) rfl rfl rfl) rfl rfl ⟨rfl, rfl, rfl⟩ (.cons (resv_tmp rfl) .nil))
end Go.Proofs.Ythgeodagikmpjaa.W
