/- The contracts of the walked functions: the printed walks. -/
import Derived.Test.YthgeodagikmpjaaKb
import Derived.Test.YthgeodagikmpjaaQb
import Derived.Test.YthgeodagikmpjaaWcodecab
import Derived.Test.YthgeodagikmpjaaWlaw02ab
namespace Go.Proofs.Ythgeodagikmpjaa.W
open Go Go.Proofs Go.Proofs.Ythgeodagikmpjaa.L Go.Proofs.Ythgeodagikmpjaa.Pu
set_option linter.unusedVariables false
set_option maxHeartbeats 4000000

theorem c_law02_CodecLimits (p1 : Int) (p2 : List Int) (A1 : Option Addr) (c1 : Nat) (r : Bool) (H : law02_CodecLimits p1 p2 = some r) :
    Ctr Try.prog 9 [.int .u64 p1, .slice A1 p2.length c1] [] [slF (rInt .u8) A1 c1 p2] (fun ret M' F' => ret = .bool r ∧ M' = [] ∧ F' = []) := by
  unfold law02_CodecLimits at H
  refine ctr_ofI (N := 95) Try.func9 rfl Try.ntmps9 rfl (Nat.le_of_ble_eq_true rfl) (fun γ0 w0 => ?_)
  refine Tr.seq ?_
  refine Tr.region ?_
  refine TrL.v (v_assign rfl rfl) rfl rfl (bl rfl) ?_
  refine TrL.nil (qthen_n ?_)
  refine Tr.seq ?_
  refine Tr.region ?_
  obtain ⟨r15, hr15, H⟩ := bnd H
  refine TrL.cons rfl (op_call0' (vs := []) (cap := []) [] rfl rfl (bl rfl) rfl rfl en24 (c_law02_awake r15 hr15) rfl (fun ret M' F' hR18 => ?_))
  obtain ⟨rfl, rfl, rfl⟩ := hR18
  refine TrL.v (v_assign rfl rfl) rfl rfl (bl rfl) ?_
  refine TrL.nil (qthen_n ?_)
  refine Tr.seq ?_
  refine Tr.seq ?_
  refine Tr.region ?_
  refine TrL.v (v_move rfl rfl) rfl rfl (bl rfl) ?_
  refine TrL.v (v_len rfl sl23 rfl) rfl rfl (bl rfl) ?_
  refine TrL.v (v_arith rfl rfl rfl ar_gtr) rfl rfl (bl rfl) ?_
  refine TrL.v (v_move rfl rfl) rfl rfl (bl rfl) ?_
  rcases ifc H with ⟨h24, H⟩ | ⟨h24, H⟩
  · refine TrL.cons_no rfl rfl rfl (gn_f (bt_dec h24)) rfl (bl rfl) ?_
    refine TrL.cons_no rfl rfl rfl (gn_f (bt_dec h24)) rfl (bl rfl) ?_
    refine TrL.cons_no rfl rfl rfl (gn_f (bt_dec h24)) rfl (bl rfl) ?_
    refine TrL.v (v_pick_t rfl rfl (bt_dec h24) rfl) rfl rfl (bl rfl) ?_
    refine TrL.v (v_move rfl rfl) rfl rfl (bl rfl) ?_
    refine TrL.cons_no rfl rfl rfl (gn_f rfl) rfl (bl rfl) ?_
    refine TrL.cons_no rfl rfl rfl (gn_f rfl) rfl (bl rfl) ?_
    refine TrL.v (v_pick_t rfl rfl rfl rfl) rfl rfl (bl rfl) ?_
    refine TrL.nil (qthen_n ?_)
    refine Tr.cond_t rfl rfl ?_
    refine Tr.seq ?_
    refine Tr.region ?_
    refine TrL.v (v_move rfl rfl) rfl rfl (bl rfl) ?_
    refine TrL.v (v_assign rfl rfl) rfl rfl (bl rfl) ?_
    refine TrL.nil (qthen_n ?_)
    have hz := Option.some.inj H
    subst hz
    refine Tr.ret (qthen_r (ret_r ⟨[(4, .bool r15)], [], [], []⟩ [.bool r15] [] [] (Imp.re _ [] [] (sc rfl sn) (by decide) rfl rfl rfl) rfl rfl ⟨rfl, rfl, rfl⟩ (.cons (resv_tmp rfl) .nil)))
  · refine TrL.cons_yes rfl rfl rfl (bf_dec h24) (OpTr.v (v_move rfl rfl) rfl (bl rfl) ?_)
    refine TrL.cons_yes rfl rfl rfl (bf_dec h24) (OpTr.v (v_len rfl sl23 rfl) rfl (bl rfl) ?_)
    refine TrL.cons_yes rfl rfl rfl (bf_dec h24) (OpTr.v (v_arith rfl rfl rfl ar_eql) rfl (bl rfl) ?_)
    refine TrL.v (v_pick_f rfl rfl (bf_dec h24) rfl) rfl rfl (bl rfl) ?_
    refine TrL.v (v_move rfl rfl) rfl rfl (bl rfl) ?_
    rcases ifc H with ⟨h25, H⟩ | ⟨h25, H⟩
    · refine TrL.cons_no rfl rfl rfl (gn_f (bt_dec h25)) rfl (bl rfl) ?_
      refine TrL.cons_no rfl rfl rfl (gn_f (bt_dec h25)) rfl (bl rfl) ?_
      refine TrL.v (v_pick_t rfl rfl (bt_dec h25) rfl) rfl rfl (bl rfl) ?_
      refine TrL.nil (qthen_n ?_)
      refine Tr.cond_t rfl rfl ?_
      refine Tr.seq ?_
      refine Tr.region ?_
      refine TrL.v (v_move rfl rfl) rfl rfl (bl rfl) ?_
      refine TrL.v (v_assign rfl rfl) rfl rfl (bl rfl) ?_
      refine TrL.nil (qthen_n ?_)
      have hz := Option.some.inj H
      subst hz
      refine Tr.ret (qthen_r (ret_r ⟨[(4, .bool r15)], [], [], []⟩ [.bool r15] [] [] (Imp.re _ [] [] (sc rfl sn) (by decide) rfl rfl rfl) rfl rfl ⟨rfl, rfl, rfl⟩ (.cons (resv_tmp rfl) .nil)))
    · refine TrL.cons_yes rfl rfl rfl (bf_dec h25) (OpTr.v (v_move rfl rfl) rfl (bl rfl) ?_)
      refine TrL.cons_yes rfl rfl rfl (bf_dec h25) (OpTr.v (v_arith rfl rfl rfl ar_eql) rfl (bl rfl) ?_)
      refine TrL.v (v_pick_f rfl rfl (bf_dec h25) rfl) rfl rfl (bl rfl) ?_
      refine TrL.nil (qthen_n ?_)
      rcases ifc H with ⟨h26, H⟩ | ⟨h26, H⟩
      · refine Tr.cond_t rfl (bt_dec h26) ?_
        refine Tr.seq ?_
        refine Tr.region ?_
        refine TrL.v (v_move rfl rfl) rfl rfl (bl rfl) ?_
        refine TrL.v (v_assign rfl rfl) rfl rfl (bl rfl) ?_
        refine TrL.nil (qthen_n ?_)
        have hz := Option.some.inj H
        subst hz
        refine Tr.ret (qthen_r (ret_r ⟨[(4, .bool r15)], [], [], []⟩ [.bool r15] [] [] (Imp.re _ [] [] (sc rfl sn) (by decide) rfl rfl rfl) rfl rfl ⟨rfl, rfl, rfl⟩ (.cons (resv_tmp rfl) .nil)))
      · refine Tr.cond_f rfl (bf_dec h26) ?_
        refine Tr.skip (qthen_n ?_)
        refine Tr.seq ?_
        refine Tr.region ?_
        refine TrL.cons rfl (op_buildSlice' (rp := (rInt .u8)) (xs := []) (vs := []) (out := []) rfl (bl rfl) rfl sl23 ty5 ze5 rfl rfl (by decide) (by decide) rfl (fun γ w hF => rown) (fun A5 => ?_))
        refine TrL.v (v_move rfl rfl) rfl rfl (bl rfl) ?_
        obtain ⟨r16, hr16, H⟩ := bnd H
        refine TrL.cons rfl (op_call0' (vs := [.int .u64 p1]) (cap := []) [] rfl rfl (bl rfl) rfl rfl en25 (c_codec_Num p1 r16 hr16) rfl (fun ret M' F' hR19 => ?_))
        obtain ⟨m19, rfl, rfl, rfl⟩ := hR19
        refine TrL.full' (E := 5) (sz := 1) (A := A5) (n := 0) ?_
        obtain ⟨h27, H⟩ := rom H
        refine TrL.cons rfl (op_append' (rp := (rInt .u8)) (xs := ([] : List Int)) (ys := r16) (k := 0) (kx := 1) (ky := 2) rfl (bl rfl) rfl sl23 ty5 ze5 rfl by5 rfl rfl rfl rfl rfl rfl rfl h27.1 h27.2 (fun A6 c4 o3 => ?_))
        refine TrL.v (v_move rfl rfl) rfl rfl (bl rfl) ?_
        obtain ⟨r17, hr17, H⟩ := bnd H
        refine TrL.cons rfl (op_call0' (vs := [.slice A1 p2.length c1]) (cap := []) [0] rfl rfl (bl rfl) rfl rfl en29 (c_codec_Text p2 A1 c1 r17 hr17) rfl (fun ret M' F' hR20 => ?_))
        obtain ⟨m20, rfl, rfl, rfl⟩ := hR20
        obtain ⟨h28, H⟩ := rom H
        refine TrL.cons rfl (op_append' (rp := (rInt .u8)) (xs := r16) (ys := r17) (k := 0) (kx := 3) (ky := 4) rfl (bl rfl) rfl sl23 ty5 ze5 rfl by5 rfl rfl rfl rfl rfl rfl rfl h28.1 h28.2 (fun A7 c5 o4 => ?_))
        refine TrL.v (v_assign rfl rfl) rfl rfl (bl rfl) ?_
        refine TrL.nil (qthen_n ?_)
        refine Tr.seq ?_
        refine Tr.region ?_
        refine TrL.v (v_move rfl rfl) rfl rfl (bl rfl) ?_
        obtain ⟨r18, hr18, H⟩ := bnd H
        refine TrL.cons rfl (op_call0' (vs := [.slice A7 ((r16 ++ r17).length) c5]) (cap := []) [5] rfl rfl (bl rfl) rfl rfl en31 (c_codec_New (r16 ++ r17) A7 c5 r18 hr18) rfl (fun ret M' F' hR21 => ?_))
        obtain ⟨m21, rfl, rfl, rfl⟩ := hR21
        refine TrL.v (v_assign rfl rfl) rfl rfl (bl rfl) ?_
        refine TrL.nil (qthen_n ?_)
        refine Tr.seq ?_
        refine Tr.region ?_
        refine TrL.v (v_move rfl rfl) rfl rfl (bl rfl) ?_
        refine TrL.v (v_move rfl rfl) rfl rfl (bl rfl) ?_
        refine TrL.v (v_arith rfl rfl rfl ar_sub_u64) rfl rfl (bl rfl) ?_
        obtain ⟨r19, hr19, H⟩ := bnd H
        refine TrL.cons rfl (op_callg' (fs := []) (vs := [.pointer (some ⟨m21, 0, none⟩), .int .u64 (wu64 (p1 - 1))]) (cap := []) (Mr := [grow 5 1 (.slice A7 ((r16 ++ r17).length) c5) ((r16 ++ r17).length) o4, grow 5 1 (.slice m19.1 r16.length m19.2.1) r16.length m19.2.2]) [0] [1, 2] [6] rfl rfl rfl en32 (c_codec_Reader_Num (((r16 ++ r17).take (((r16 ++ r17).length : Int)).toNat, (0 : Int))) (wu64 (p1 - 1)) m21 (slA A7 0 (((r16 ++ r17).length : Int)).toNat 1) ((((r16 ++ r17).length : Int)).toNat) r19 hr19) (by decide) rfl rfl rfl (bl rfl) (fun ret M' F' hR22 => ?_))
        obtain ⟨m22, rfl, rfl, rfl⟩ := hR22
        refine TrL.v (v_assign rfl rfl) rfl rfl (bl rfl) ?_
        refine TrL.nil (qthen_n ?_)
        refine Tr.seq ?_
        refine Tr.region ?_
        refine TrL.v (v_move rfl rfl) rfl rfl (bl rfl) ?_
        obtain ⟨r20, hr20, H⟩ := bnd H
        refine TrL.cons rfl (op_callg' (fs := []) (vs := [.pointer (some ⟨m21, 0, none⟩)]) (cap := []) (Mr := [grow 5 1 (.slice A7 ((r16 ++ r17).length) c5) ((r16 ++ r17).length) o4, grow 5 1 (.slice m19.1 r16.length m19.2.1) r16.length m19.2.2]) [0] [1, 2] [7] rfl rfl rfl en33 (c_codec_Reader_Err r19.2 m21 m22.1 m22.2 r20 hr20) (by decide) rfl rfl rfl (bl rfl) (fun ret M' F' hR23 => ?_))
        obtain ⟨rfl, rfl, rfl⟩ := hR23
        refine TrL.v (v_assign rfl rfl) rfl rfl (bl rfl) ?_
        refine TrL.nil (qthen_n ?_)
        refine Tr.seq ?_
        refine Tr.region ?_
        refine TrL.v (v_move rfl rfl) rfl rfl (bl rfl) ?_
        refine TrL.v (v_move rfl rfl) rfl rfl (bl rfl) ?_
        obtain ⟨r21, hr21, H⟩ := bnd H
        refine TrL.cons rfl (op_callg' (fs := []) (vs := [.pointer (some ⟨m21, 0, none⟩), .int .u64 p1]) (cap := []) (Mr := [grow 5 1 (.slice A7 ((r16 ++ r17).length) c5) ((r16 ++ r17).length) o4, grow 5 1 (.slice m19.1 r16.length m19.2.1) r16.length m19.2.2]) [0] [1, 2] [7] rfl rfl rfl en32 (c_codec_Reader_Num r19.2 p1 m21 m22.1 m22.2 r21 hr21) (by decide) rfl rfl rfl (bl rfl) (fun ret M' F' hR24 => ?_))
        obtain ⟨m24, rfl, rfl, rfl⟩ := hR24
        refine TrL.v (v_assign rfl rfl) rfl rfl (bl rfl) ?_
        refine TrL.nil (qthen_n ?_)
        refine Tr.seq ?_
        refine Tr.region ?_
        refine TrL.v (v_move rfl rfl) rfl rfl (bl rfl) ?_
        obtain ⟨r22, hr22, H⟩ := bnd H
        refine TrL.cons rfl (op_callg' (fs := []) (vs := [.pointer (some ⟨m21, 0, none⟩)]) (cap := []) (Mr := [grow 5 1 (.slice A7 ((r16 ++ r17).length) c5) ((r16 ++ r17).length) o4, grow 5 1 (.slice m19.1 r16.length m19.2.1) r16.length m19.2.2]) [0] [1, 2] [9] rfl rfl rfl en34 (c_codec_Reader_Left r21.2 m21 m24.1 m24.2 r22 hr22) (by decide) rfl rfl rfl (bl rfl) (fun ret M' F' hR25 => ?_))
        obtain ⟨rfl, rfl, rfl⟩ := hR25
        refine TrL.v (v_assign rfl rfl) rfl rfl (bl rfl) ?_
        refine TrL.nil (qthen_n ?_)
        refine Tr.seq ?_
        refine Tr.region ?_
        refine TrL.v (v_move rfl rfl) rfl rfl (bl rfl) ?_
        refine TrL.cons rfl (op_call0' (vs := [.slice A7 ((r16 ++ r17).length) c5]) (cap := []) [5] rfl rfl (bl rfl) rfl rfl en31 (c_codec_New (r16 ++ r17) A7 c5 r18 hr18) rfl (fun ret M' F' hR26 => ?_))
        obtain ⟨m26, rfl, rfl, rfl⟩ := hR26
        refine TrL.v (v_assign rfl rfl) rfl rfl (bl rfl) ?_
        refine TrL.nil (qthen_n ?_)
        refine Tr.seq ?_
        refine Tr.region ?_
        refine TrL.v (v_move rfl rfl) rfl rfl (bl rfl) ?_
        refine TrL.v (v_move rfl rfl) rfl rfl (bl rfl) ?_
        obtain ⟨r23, hr23, H⟩ := bnd H
        refine TrL.cons rfl (op_callg' (fs := []) (vs := [.pointer (some ⟨m26, 0, none⟩), .int .u64 p1]) (cap := []) (Mr := [cells m21 [.slice m24.1 r21.2.1.length m24.2, .int .i64 r21.2.2] 108, grow 5 1 (.slice A7 ((r16 ++ r17).length) c5) ((r16 ++ r17).length) o4, grow 5 1 (.slice m19.1 r16.length m19.2.1) r16.length m19.2.2]) [0] [1, 2, 3] [6] rfl rfl rfl en32 (c_codec_Reader_Num (((r16 ++ r17).take (((r16 ++ r17).length : Int)).toNat, (0 : Int))) p1 m26 (slA A7 0 (((r16 ++ r17).length : Int)).toNat 1) ((((r16 ++ r17).length : Int)).toNat) r23 hr23) (by decide) rfl rfl rfl (bl rfl) (fun ret M' F' hR27 => ?_))
        obtain ⟨m27, rfl, rfl, rfl⟩ := hR27
        refine TrL.nil (qthen_n ?_)
        refine Tr.seq ?_
        refine Tr.region ?_
        refine TrL.v (v_move rfl rfl) rfl rfl (bl rfl) ?_
        refine TrL.v (v_move rfl rfl) rfl rfl (bl rfl) ?_
        refine TrL.v (v_len rfl sl23 rfl) rfl rfl (bl rfl) ?_
        refine TrL.v (v_arith rfl rfl rfl ar_sub_i64) rfl rfl (bl rfl) ?_
        obtain ⟨r24, hr24, H⟩ := bnd H
        refine TrL.cons rfl (op_callg' (fs := []) (vs := [.pointer (some ⟨m26, 0, none⟩), .int .i64 (wi64 (((p2.length : Int)) - 1))]) (cap := []) (Mr := [cells m21 [.slice m24.1 r21.2.1.length m24.2, .int .i64 r21.2.2] 108, grow 5 1 (.slice A7 ((r16 ++ r17).length) c5) ((r16 ++ r17).length) o4, grow 5 1 (.slice m19.1 r16.length m19.2.1) r16.length m19.2.2]) [0] [1, 2, 3] [12] rfl rfl rfl en35 (c_codec_Reader_Text r23.2 (wi64 (((p2.length : Int)) - 1)) m26 m27.1 m27.2 r24 hr24) (by decide) rfl rfl rfl (bl rfl) (fun ret M' F' hR28 => ?_))
        obtain ⟨m28, rfl, rfl, rfl⟩ := hR28
        refine TrL.v (v_assign rfl rfl) rfl rfl (bl rfl) ?_
        refine TrL.nil (qthen_n ?_)
        refine Tr.seq ?_
        refine Tr.region ?_
        refine TrL.v (v_move rfl rfl) rfl rfl (bl rfl) ?_
        refine TrL.v (v_move rfl rfl) rfl rfl (bl rfl) ?_
        rcases ifc H with ⟨h36, H⟩ | ⟨h36, H⟩
        · refine TrL.cons_yes rfl rfl rfl h36 (OpTr.v (v_move rfl rfl) rfl (bl rfl) ?_)
          refine TrL.cons_yes rfl rfl rfl h36 (OpTr.v (v_arith rfl rfl rfl ar_eql) rfl (bl rfl) ?_)
          refine TrL.v (v_pick_t rfl rfl h36 rfl) rfl rfl (bl rfl) ?_
          refine TrL.v (v_move rfl rfl) rfl rfl (bl rfl) ?_
          rcases ifc H with ⟨h37, H⟩ | ⟨h37, H⟩
          · refine TrL.cons_yes rfl rfl rfl (bt_dec h37) (OpTr.v (v_move rfl rfl) rfl (bl rfl) ?_)
            refine TrL.cons_yes rfl rfl rfl (bt_dec h37) (OpTr.v (v_arith rfl rfl rfl ar_eql) rfl (bl rfl) ?_)
            refine TrL.v (v_pick_t rfl rfl (bt_dec h37) rfl) rfl rfl (bl rfl) ?_
            refine TrL.v (v_move rfl rfl) rfl rfl (bl rfl) ?_
            rcases ifc H with ⟨h38, H⟩ | ⟨h38, H⟩
            · refine TrL.cons_yes rfl rfl rfl (bt_dec h38) (OpTr.v (v_move rfl rfl) rfl (bl rfl) ?_)
              refine TrL.cons_yes rfl rfl rfl (bt_dec h38) (OpTr.v (v_arith rfl rfl rfl ar_eql) rfl (bl rfl) ?_)
              refine TrL.v (v_pick_t rfl rfl (bt_dec h38) rfl) rfl rfl (bl rfl) ?_
              refine TrL.v (v_move rfl rfl) rfl rfl (bl rfl) ?_
              rcases ifc H with ⟨h39, H⟩ | ⟨h39, H⟩
              · refine TrL.cons_yes rfl rfl rfl (bt_dec h39) (OpTr.v (v_move rfl rfl) rfl (bl rfl) ?_)
                refine TrL.cons_yes rfl rfl rfl (bt_dec h39) (OpTr.v (v_move rfl rfl) rfl (bl rfl) ?_)
                refine TrL.cons_yes rfl rfl rfl (bt_dec h39) (OpTr.v (v_len rfl sl23 rfl) rfl (bl rfl) ?_)
                refine TrL.cons_yes rfl rfl rfl (bt_dec h39) (OpTr.v (v_arith rfl rfl rfl ar_eql) rfl (bl rfl) ?_)
                refine TrL.v (v_pick_t rfl rfl (bt_dec h39) rfl) rfl rfl (bl rfl) ?_
                refine TrL.v (v_move rfl rfl) rfl rfl (bl rfl) ?_
                rcases ifc H with ⟨h40, H⟩ | ⟨h40, H⟩
                · refine TrL.cons_yes rfl rfl rfl (bt_dec h40) (OpTr.v (v_move rfl rfl) rfl (bl rfl) ?_)
                  refine TrL.cons_yes rfl rfl rfl (bt_dec h40) (OpTr.v (v_len rfl sl23 rfl) rfl (bl rfl) ?_)
                  refine TrL.cons_yes rfl rfl rfl (bt_dec h40) (OpTr.v (v_arith rfl rfl rfl ar_eql) rfl (bl rfl) ?_)
                  refine TrL.v (v_pick_t rfl rfl (bt_dec h40) rfl) rfl rfl (bl rfl) ?_
                  refine TrL.v (v_move rfl rfl) rfl rfl (bl rfl) ?_
                  rcases ifc H with ⟨h41, H⟩ | ⟨h41, H⟩
                  · refine TrL.cons_yes rfl rfl rfl (bt_dec h41) (OpTr.v (v_move rfl rfl) rfl (bl rfl) ?_)
                    obtain ⟨r27, hr27, H⟩ := bnd H
                    refine TrL.cons_yes rfl rfl rfl (bt_dec h41) (op_callg' (fs := []) (vs := [.pointer (some ⟨m26, 0, none⟩)]) (cap := []) (Mr := [arr (rInt .u8) 5 m28.1 r24.1.length m28.2.1 r24.1, cells m21 [.slice m24.1 r21.2.1.length m24.2, .int .i64 r21.2.2] 108, grow 5 1 (.slice A7 ((r16 ++ r17).length) c5) ((r16 ++ r17).length) o4, grow 5 1 (.slice m19.1 r16.length m19.2.1) r16.length m19.2.2]) [0] [1, 2, 3, 4] [13] rfl rfl rfl en33 (c_codec_Reader_Err r24.2 m26 m28.2.2.1 m28.2.2.2 r27 hr27) (by decide) rfl rfl rfl (bl rfl) (fun ret M' F' hR32 => ?_))
                    obtain ⟨rfl, rfl, rfl⟩ := hR32
                    refine TrL.cons_yes rfl rfl rfl (bt_dec h41) (OpTr.v (v_arith rfl rfl rfl ar_eql) rfl (bl rfl) ?_)
                    refine TrL.v (v_pick_t rfl rfl (bt_dec h41) rfl) rfl rfl (bl rfl) ?_
                    refine TrL.v (v_move rfl rfl) rfl rfl (bl rfl) ?_
                    rcases ifc H with ⟨h42, H⟩ | ⟨h42, H⟩
                    · refine TrL.cons_yes rfl rfl rfl (bt_dec h42) (OpTr.v (v_move rfl rfl) rfl (bl rfl) ?_)
                      obtain ⟨r28, hr28, H⟩ := bnd H
                      refine TrL.cons_yes rfl rfl rfl (bt_dec h42) (op_callg' (fs := []) (vs := [.pointer (some ⟨m26, 0, none⟩)]) (cap := []) (Mr := [arr (rInt .u8) 5 m28.1 r24.1.length m28.2.1 r24.1, cells m21 [.slice m24.1 r21.2.1.length m24.2, .int .i64 r21.2.2] 108, grow 5 1 (.slice A7 ((r16 ++ r17).length) c5) ((r16 ++ r17).length) o4, grow 5 1 (.slice m19.1 r16.length m19.2.1) r16.length m19.2.2]) [0] [1, 2, 3, 4] [13] rfl rfl rfl en34 (c_codec_Reader_Left r24.2 m26 m28.2.2.1 m28.2.2.2 r28 hr28) (by decide) rfl rfl rfl (bl rfl) (fun ret M' F' hR33 => ?_))
                      obtain ⟨rfl, rfl, rfl⟩ := hR33
                      refine TrL.cons_yes rfl rfl rfl (bt_dec h42) (OpTr.v (v_move rfl rfl) rfl (bl rfl) ?_)
                      refine TrL.cons_yes rfl rfl rfl (bt_dec h42) (op_call0' (vs := [.slice A1 p2.length c1]) (cap := []) [0] rfl rfl (bl rfl) rfl rfl en29 (c_codec_Text p2 A1 c1 r17 hr17) rfl (fun ret M' F' hR34 => ?_))
                      obtain ⟨m34, rfl, rfl, rfl⟩ := hR34
                      refine TrL.cons_yes rfl rfl rfl (bt_dec h42) (OpTr.v (v_len rfl sl23 rfl) rfl (bl rfl) ?_)
                      refine TrL.cons_yes rfl rfl rfl (bt_dec h42) (OpTr.v (v_arith rfl rfl rfl ar_eql) rfl (bl rfl) ?_)
                      refine TrL.v (v_pick_t rfl rfl (bt_dec h42) rfl) rfl rfl (bl rfl) ?_
                      refine TrL.v (v_assign rfl rfl) rfl rfl (bl rfl) ?_
                      refine TrL.nil (qthen_n ?_)
                      have hz := Option.some.inj H
                      subst hz
                      refine Tr.ret (ret_r ⟨[(4, .bool (decide (((r24.2.1.length : Int)) = ((r17.length : Int)))))], [], [], []⟩ [.bool (decide (((r24.2.1.length : Int)) = ((r17.length : Int))))] [] [] (Imp.re _ [] [] (sc rfl sn) (by decide) rfl rfl rfl) rfl rfl ⟨rfl, rfl, rfl⟩ (.cons (resv_tmp rfl) .nil))
                    · refine TrL.cons_no rfl rfl rfl (gn_t (bf_dec h42)) rfl (bl rfl) ?_
                      refine TrL.cons_no rfl rfl rfl (gn_t (bf_dec h42)) rfl (bl rfl) ?_
                      refine TrL.cons_no rfl rfl rfl (gn_t (bf_dec h42)) rfl (bl rfl) ?_
                      refine TrL.cons_no rfl rfl rfl (gn_t (bf_dec h42)) rfl (bl rfl) ?_
                      refine TrL.cons_no rfl rfl rfl (gn_t (bf_dec h42)) rfl (bl rfl) ?_
                      refine TrL.cons_no rfl rfl rfl (gn_t (bf_dec h42)) rfl (bl rfl) ?_
                      refine TrL.v (v_pick_f rfl rfl (bf_dec h42) rfl) rfl rfl (bl rfl) ?_
                      refine TrL.v (v_assign rfl rfl) rfl rfl (bl rfl) ?_
                      refine TrL.nil (qthen_n ?_)
                      have hz := Option.some.inj H
                      subst hz
                      refine Tr.ret (ret_r ⟨[(4, .bool false)], [], [], []⟩ [.bool false] [] [] (Imp.re _ [] [] (sc rfl sn) (by decide) rfl rfl rfl) rfl rfl ⟨rfl, rfl, rfl⟩ (.cons (resv_tmp rfl) .nil))
                  · refine TrL.cons_no rfl rfl rfl (gn_t (bf_dec h41)) rfl (bl rfl) ?_
                    refine TrL.cons_no rfl rfl rfl (gn_t (bf_dec h41)) rfl (bl rfl) ?_
                    refine TrL.cons_no rfl rfl rfl (gn_t (bf_dec h41)) rfl (bl rfl) ?_
                    refine TrL.v (v_pick_f rfl rfl (bf_dec h41) rfl) rfl rfl (bl rfl) ?_
                    refine TrL.v (v_move rfl rfl) rfl rfl (bl rfl) ?_
                    refine TrL.cons_no rfl rfl rfl (gn_t rfl) rfl (bl rfl) ?_
                    refine TrL.cons_no rfl rfl rfl (gn_t rfl) rfl (bl rfl) ?_
                    refine TrL.cons_no rfl rfl rfl (gn_t rfl) rfl (bl rfl) ?_
                    refine TrL.cons_no rfl rfl rfl (gn_t rfl) rfl (bl rfl) ?_
                    refine TrL.cons_no rfl rfl rfl (gn_t rfl) rfl (bl rfl) ?_
                    refine TrL.cons_no rfl rfl rfl (gn_t rfl) rfl (bl rfl) ?_
                    refine TrL.v (v_pick_f rfl rfl rfl rfl) rfl rfl (bl rfl) ?_
                    refine TrL.v (v_assign rfl rfl) rfl rfl (bl rfl) ?_
                    refine TrL.nil (qthen_n ?_)
                    have hz := Option.some.inj H
                    subst hz
                    refine Tr.ret (ret_r ⟨[(4, .bool false)], [], [], []⟩ [.bool false] [] [] (Imp.re _ [] [] (sc rfl sn) (by decide) rfl rfl rfl) rfl rfl ⟨rfl, rfl, rfl⟩ (.cons (resv_tmp rfl) .nil))
                · refine TrL.cons_no rfl rfl rfl (gn_t (bf_dec h40)) rfl (bl rfl) ?_
                  refine TrL.cons_no rfl rfl rfl (gn_t (bf_dec h40)) rfl (bl rfl) ?_
                  refine TrL.cons_no rfl rfl rfl (gn_t (bf_dec h40)) rfl (bl rfl) ?_
                  refine TrL.v (v_pick_f rfl rfl (bf_dec h40) rfl) rfl rfl (bl rfl) ?_
                  refine TrL.v (v_move rfl rfl) rfl rfl (bl rfl) ?_
                  refine TrL.cons_no rfl rfl rfl (gn_t rfl) rfl (bl rfl) ?_
                  refine TrL.cons_no rfl rfl rfl (gn_t rfl) rfl (bl rfl) ?_
                  refine TrL.cons_no rfl rfl rfl (gn_t rfl) rfl (bl rfl) ?_
                  refine TrL.v (v_pick_f rfl rfl rfl rfl) rfl rfl (bl rfl) ?_
                  refine TrL.v (v_move rfl rfl) rfl rfl (bl rfl) ?_
                  refine TrL.cons_no rfl rfl rfl (gn_t rfl) rfl (bl rfl) ?_
                  refine TrL.cons_no rfl rfl rfl (gn_t rfl) rfl (bl rfl) ?_
                  refine TrL.cons_no rfl rfl rfl (gn_t rfl) rfl (bl rfl) ?_
                  refine TrL.cons_no rfl rfl rfl (gn_t rfl) rfl (bl rfl) ?_
                  refine TrL.cons_no rfl rfl rfl (gn_t rfl) rfl (bl rfl) ?_
                  refine TrL.cons_no rfl rfl rfl (gn_t rfl) rfl (bl rfl) ?_
                  refine TrL.v (v_pick_f rfl rfl rfl rfl) rfl rfl (bl rfl) ?_
                  refine TrL.v (v_assign rfl rfl) rfl rfl (bl rfl) ?_
                  refine TrL.nil (qthen_n ?_)
                  have hz := Option.some.inj H
                  subst hz
                  refine Tr.ret (ret_r ⟨[(4, .bool false)], [], [], []⟩ [.bool false] [] [] (Imp.re _ [] [] (sc rfl sn) (by decide) rfl rfl rfl) rfl rfl ⟨rfl, rfl, rfl⟩ (.cons (resv_tmp rfl) .nil))
              · refine TrL.cons_no rfl rfl rfl (gn_t (bf_dec h39)) rfl (bl rfl) ?_
                refine TrL.cons_no rfl rfl rfl (gn_t (bf_dec h39)) rfl (bl rfl) ?_
                refine TrL.cons_no rfl rfl rfl (gn_t (bf_dec h39)) rfl (bl rfl) ?_
                refine TrL.cons_no rfl rfl rfl (gn_t (bf_dec h39)) rfl (bl rfl) ?_
                refine TrL.v (v_pick_f rfl rfl (bf_dec h39) rfl) rfl rfl (bl rfl) ?_
                refine TrL.v (v_move rfl rfl) rfl rfl (bl rfl) ?_
                refine TrL.cons_no rfl rfl rfl (gn_t rfl) rfl (bl rfl) ?_
                refine TrL.cons_no rfl rfl rfl (gn_t rfl) rfl (bl rfl) ?_
                refine TrL.cons_no rfl rfl rfl (gn_t rfl) rfl (bl rfl) ?_
                refine TrL.v (v_pick_f rfl rfl rfl rfl) rfl rfl (bl rfl) ?_
                refine TrL.v (v_move rfl rfl) rfl rfl (bl rfl) ?_
                refine TrL.cons_no rfl rfl rfl (gn_t rfl) rfl (bl rfl) ?_
                refine TrL.cons_no rfl rfl rfl (gn_t rfl) rfl (bl rfl) ?_
                refine TrL.cons_no rfl rfl rfl (gn_t rfl) rfl (bl rfl) ?_
                refine TrL.v (v_pick_f rfl rfl rfl rfl) rfl rfl (bl rfl) ?_
                refine TrL.v (v_move rfl rfl) rfl rfl (bl rfl) ?_
                refine TrL.cons_no rfl rfl rfl (gn_t rfl) rfl (bl rfl) ?_
                refine TrL.cons_no rfl rfl rfl (gn_t rfl) rfl (bl rfl) ?_
                refine TrL.cons_no rfl rfl rfl (gn_t rfl) rfl (bl rfl) ?_
                refine TrL.cons_no rfl rfl rfl (gn_t rfl) rfl (bl rfl) ?_
                refine TrL.cons_no rfl rfl rfl (gn_t rfl) rfl (bl rfl) ?_
                refine TrL.cons_no rfl rfl rfl (gn_t rfl) rfl (bl rfl) ?_
                refine TrL.v (v_pick_f rfl rfl rfl rfl) rfl rfl (bl rfl) ?_
                refine TrL.v (v_assign rfl rfl) rfl rfl (bl rfl) ?_
                refine TrL.nil (qthen_n ?_)
                have hz := Option.some.inj H
                subst hz
                refine Tr.ret (ret_r ⟨[(4, .bool false)], [], [], []⟩ [.bool false] [] [] (Imp.re _ [] [] (sc rfl sn) (by decide) rfl rfl rfl) rfl rfl ⟨rfl, rfl, rfl⟩ (.cons (resv_tmp rfl) .nil))
            · refine TrL.cons_no rfl rfl rfl (gn_t (bf_dec h38)) rfl (bl rfl) ?_
              refine TrL.cons_no rfl rfl rfl (gn_t (bf_dec h38)) rfl (bl rfl) ?_
              refine TrL.v (v_pick_f rfl rfl (bf_dec h38) rfl) rfl rfl (bl rfl) ?_
              refine TrL.v (v_move rfl rfl) rfl rfl (bl rfl) ?_
              refine TrL.cons_no rfl rfl rfl (gn_t rfl) rfl (bl rfl) ?_
              refine TrL.cons_no rfl rfl rfl (gn_t rfl) rfl (bl rfl) ?_
              refine TrL.cons_no rfl rfl rfl (gn_t rfl) rfl (bl rfl) ?_
              refine TrL.cons_no rfl rfl rfl (gn_t rfl) rfl (bl rfl) ?_
              refine TrL.v (v_pick_f rfl rfl rfl rfl) rfl rfl (bl rfl) ?_
              refine TrL.v (v_move rfl rfl) rfl rfl (bl rfl) ?_
              refine TrL.cons_no rfl rfl rfl (gn_t rfl) rfl (bl rfl) ?_
              refine TrL.cons_no rfl rfl rfl (gn_t rfl) rfl (bl rfl) ?_
              refine TrL.cons_no rfl rfl rfl (gn_t rfl) rfl (bl rfl) ?_
              refine TrL.v (v_pick_f rfl rfl rfl rfl) rfl rfl (bl rfl) ?_
              refine TrL.v (v_move rfl rfl) rfl rfl (bl rfl) ?_
              refine TrL.cons_no rfl rfl rfl (gn_t rfl) rfl (bl rfl) ?_
              refine TrL.cons_no rfl rfl rfl (gn_t rfl) rfl (bl rfl) ?_
              refine TrL.cons_no rfl rfl rfl (gn_t rfl) rfl (bl rfl) ?_
              refine TrL.v (v_pick_f rfl rfl rfl rfl) rfl rfl (bl rfl) ?_
              refine TrL.v (v_move rfl rfl) rfl rfl (bl rfl) ?_
              refine TrL.cons_no rfl rfl rfl (gn_t rfl) rfl (bl rfl) ?_
              refine TrL.cons_no rfl rfl rfl (gn_t rfl) rfl (bl rfl) ?_
              refine TrL.cons_no rfl rfl rfl (gn_t rfl) rfl (bl rfl) ?_
              refine TrL.cons_no rfl rfl rfl (gn_t rfl) rfl (bl rfl) ?_
              refine TrL.cons_no rfl rfl rfl (gn_t rfl) rfl (bl rfl) ?_
              refine TrL.cons_no rfl rfl rfl (gn_t rfl) rfl (bl rfl) ?_
              refine TrL.v (v_pick_f rfl rfl rfl rfl) rfl rfl (bl rfl) ?_
              refine TrL.v (v_assign rfl rfl) rfl rfl (bl rfl) ?_
              refine TrL.nil (qthen_n ?_)
              have hz := Option.some.inj H
              subst hz
              refine Tr.ret (ret_r ⟨[(4, .bool false)], [], [], []⟩ [.bool false] [] [] (Imp.re _ [] [] (sc rfl sn) (by decide) rfl rfl rfl) rfl rfl ⟨rfl, rfl, rfl⟩ (.cons (resv_tmp rfl) .nil))
          · refine TrL.cons_no rfl rfl rfl (gn_t (bf_dec h37)) rfl (bl rfl) ?_
            refine TrL.cons_no rfl rfl rfl (gn_t (bf_dec h37)) rfl (bl rfl) ?_
            refine TrL.v (v_pick_f rfl rfl (bf_dec h37) rfl) rfl rfl (bl rfl) ?_
            refine TrL.v (v_move rfl rfl) rfl rfl (bl rfl) ?_
            refine TrL.cons_no rfl rfl rfl (gn_t rfl) rfl (bl rfl) ?_
            refine TrL.cons_no rfl rfl rfl (gn_t rfl) rfl (bl rfl) ?_
            refine TrL.v (v_pick_f rfl rfl rfl rfl) rfl rfl (bl rfl) ?_
            refine TrL.v (v_move rfl rfl) rfl rfl (bl rfl) ?_
            refine TrL.cons_no rfl rfl rfl (gn_t rfl) rfl (bl rfl) ?_
            refine TrL.cons_no rfl rfl rfl (gn_t rfl) rfl (bl rfl) ?_
            refine TrL.cons_no rfl rfl rfl (gn_t rfl) rfl (bl rfl) ?_
            refine TrL.cons_no rfl rfl rfl (gn_t rfl) rfl (bl rfl) ?_
            refine TrL.v (v_pick_f rfl rfl rfl rfl) rfl rfl (bl rfl) ?_
            refine TrL.v (v_move rfl rfl) rfl rfl (bl rfl) ?_
            refine TrL.cons_no rfl rfl rfl (gn_t rfl) rfl (bl rfl) ?_
            refine TrL.cons_no rfl rfl rfl (gn_t rfl) rfl (bl rfl) ?_
            refine TrL.cons_no rfl rfl rfl (gn_t rfl) rfl (bl rfl) ?_
            refine TrL.v (v_pick_f rfl rfl rfl rfl) rfl rfl (bl rfl) ?_
            refine TrL.v (v_move rfl rfl) rfl rfl (bl rfl) ?_
            refine TrL.cons_no rfl rfl rfl (gn_t rfl) rfl (bl rfl) ?_
            refine TrL.cons_no rfl rfl rfl (gn_t rfl) rfl (bl rfl) ?_
            refine TrL.cons_no rfl rfl rfl (gn_t rfl) rfl (bl rfl) ?_
            refine TrL.v (v_pick_f rfl rfl rfl rfl) rfl rfl (bl rfl) ?_
            refine TrL.v (v_move rfl rfl) rfl rfl (bl rfl) ?_
            refine TrL.cons_no rfl rfl rfl (gn_t rfl) rfl (bl rfl) ?_
            refine TrL.cons_no rfl rfl rfl (gn_t rfl) rfl (bl rfl) ?_
            refine TrL.cons_no rfl rfl rfl (gn_t rfl) rfl (bl rfl) ?_
            refine TrL.cons_no rfl rfl rfl (gn_t rfl) rfl (bl rfl) ?_
            refine TrL.cons_no rfl rfl rfl (gn_t rfl) rfl (bl rfl) ?_
            refine TrL.cons_no rfl rfl rfl (gn_t rfl) rfl (bl rfl) ?_
            refine TrL.v (v_pick_f rfl rfl rfl rfl) rfl rfl (bl rfl) ?_
            refine TrL.v (v_assign rfl rfl) rfl rfl (bl rfl) ?_
            refine TrL.nil (qthen_n ?_)
            have hz := Option.some.inj H
            subst hz
            refine Tr.ret (ret_r ⟨[(4, .bool false)], [], [], []⟩ [.bool false] [] [] (Imp.re _ [] [] (sc rfl sn) (by decide) rfl rfl rfl) rfl rfl ⟨rfl, rfl, rfl⟩ (.cons (resv_tmp rfl) .nil))
        · refine TrL.cons_no rfl rfl rfl (gn_t (bf_b h36)) rfl (bl rfl) ?_
          refine TrL.cons_no rfl rfl rfl (gn_t (bf_b h36)) rfl (bl rfl) ?_
          refine TrL.v (v_pick_f rfl rfl (bf_b h36) rfl) rfl rfl (bl rfl) ?_
          refine TrL.v (v_move rfl rfl) rfl rfl (bl rfl) ?_
          refine TrL.cons_no rfl rfl rfl (gn_t rfl) rfl (bl rfl) ?_
          refine TrL.cons_no rfl rfl rfl (gn_t rfl) rfl (bl rfl) ?_
          refine TrL.v (v_pick_f rfl rfl rfl rfl) rfl rfl (bl rfl) ?_
          refine TrL.v (v_move rfl rfl) rfl rfl (bl rfl) ?_
          refine TrL.cons_no rfl rfl rfl (gn_t rfl) rfl (bl rfl) ?_
          refine TrL.cons_no rfl rfl rfl (gn_t rfl) rfl (bl rfl) ?_
          refine TrL.v (v_pick_f rfl rfl rfl rfl) rfl rfl (bl rfl) ?_
          refine TrL.v (v_move rfl rfl) rfl rfl (bl rfl) ?_
          refine TrL.cons_no rfl rfl rfl (gn_t rfl) rfl (bl rfl) ?_
          refine TrL.cons_no rfl rfl rfl (gn_t rfl) rfl (bl rfl) ?_
          refine TrL.cons_no rfl rfl rfl (gn_t rfl) rfl (bl rfl) ?_
          refine TrL.cons_no rfl rfl rfl (gn_t rfl) rfl (bl rfl) ?_
          refine TrL.v (v_pick_f rfl rfl rfl rfl) rfl rfl (bl rfl) ?_
          refine TrL.v (v_move rfl rfl) rfl rfl (bl rfl) ?_
          refine TrL.cons_no rfl rfl rfl (gn_t rfl) rfl (bl rfl) ?_
          refine TrL.cons_no rfl rfl rfl (gn_t rfl) rfl (bl rfl) ?_
          refine TrL.cons_no rfl rfl rfl (gn_t rfl) rfl (bl rfl) ?_
          refine TrL.v (v_pick_f rfl rfl rfl rfl) rfl rfl (bl rfl) ?_
          refine TrL.v (v_move rfl rfl) rfl rfl (bl rfl) ?_
          refine TrL.cons_no rfl rfl rfl (gn_t rfl) rfl (bl rfl) ?_
          refine TrL.cons_no rfl rfl rfl (gn_t rfl) rfl (bl rfl) ?_
          refine TrL.cons_no rfl rfl rfl (gn_t rfl) rfl (bl rfl) ?_
          refine TrL.v (v_pick_f rfl rfl rfl rfl) rfl rfl (bl rfl) ?_
          refine TrL.v (v_move rfl rfl) rfl rfl (bl rfl) ?_
          refine TrL.cons_no rfl rfl rfl (gn_t rfl) rfl (bl rfl) ?_
          refine TrL.cons_no rfl rfl rfl (gn_t rfl) rfl (bl rfl) ?_
          refine TrL.cons_no rfl rfl rfl (gn_t rfl) rfl (bl rfl) ?_
          refine TrL.cons_no rfl rfl rfl (gn_t rfl) rfl (bl rfl) ?_
          refine TrL.cons_no rfl rfl rfl (gn_t rfl) rfl (bl rfl) ?_
          refine TrL.cons_no rfl rfl rfl (gn_t rfl) rfl (bl rfl) ?_
          refine TrL.v (v_pick_f rfl rfl rfl rfl) rfl rfl (bl rfl) ?_
          refine TrL.v (v_assign rfl rfl) rfl rfl (bl rfl) ?_
          refine TrL.nil (qthen_n ?_)
          have hz := Option.some.inj H
          subst hz
          refine Tr.ret (ret_r ⟨[(4, .bool false)], [], [], []⟩ [.bool false] [] [] (Imp.re _ [] [] (sc rfl sn) (by decide) rfl rfl rfl) rfl rfl ⟨rfl, rfl, rfl⟩ (.cons (resv_tmp rfl) .nil))
end Go.Proofs.Ythgeodagikmpjaa.W
