/- The contracts of the walked functions: the printed walks. -/
import Derived.Test.YtbeknohemgjfbaaKc
import Derived.Test.YtbeknohemgjfbaaQc
import Derived.Test.YtbeknohemgjfbaaWcheckcc
import Derived.Test.YtbeknohemgjfbaaWcodecac
import Derived.Test.YtbeknohemgjfbaaWrecordac
import Derived.Test.YtbeknohemgjfbaaWslicesac
namespace Go.Proofs.Ytbeknohemgjfbaa.W
open Go Go.Proofs Go.Proofs.Ytbeknohemgjfbaa.L Go.Proofs.Ytbeknohemgjfbaa.Pu
set_option linter.unusedVariables false
set_option maxHeartbeats 4000000

theorem c_record_Take (p1 : List Int × Int) (b1 : Nat) (A1 : Option Addr) (c1 : Nat) (r : Int × Int × (List (List (Int × Int))) × List Int × Int) (H : record_Take p1 = some r) :
    Ctr Try.prog 28 [.pointer (some ⟨b1, 0, none⟩)] [cells b1 [.slice A1 p1.1.length c1, .int .i64 p1.2] 116] [slF (rInt .u8) A1 c1 p1.1] (fun ret M' F' => ∃ m : Option Addr × Nat × Option Addr × Nat, ret = .agg #[.int .i64 r.1, .int .i64 r.2.1, .slice m.1 r.2.2.1.length m.2.1] ∧ M' = [cells b1 [.slice m.2.2.1 r.2.2.2.1.length m.2.2.2, .int .i64 r.2.2.2.2] 116] ∧ F' = [slF (rSl rp_u64_u64) m.1 m.2.1 r.2.2.1, slF (rInt .u8) m.2.2.1 m.2.2.2 r.2.2.2.1]) := by
  unfold record_Take at H
  refine ctr_ofI (N := 45) Try.func28 rfl Try.ntmps28 rfl (Nat.le_of_ble_eq_true rfl) (fun γ0 w0 => ?_)
  refine Tr.seq ?_
  refine Tr.region ?_
  refine TrL.cons rfl (op_alloc' rfl (bl rfl) rfl ze35 (fun b5 => ?_))
  refine TrL.nil (qthen_n ?_)
  refine Tr.seq ?_
  refine Tr.region ?_
  refine TrL.v (v_move rfl rfl) rfl rfl (bl rfl) ?_
  obtain ⟨r19, hr19, H⟩ := bnd H
  refine TrL.cons rfl (op_callg' (fs := []) (vs := [.pointer (some ⟨b1, 0, none⟩), .int .u64 1024]) (cap := []) (Mr := [cells b5 [.int .i64 0, .int .i64 0, .slice none 0 0] 35]) [1] [0] [0] rfl rfl rfl en69 (c_codec_Reader_Num p1 ((1024 : Int)) b1 A1 c1 r19 hr19) (by decide) rfl rfl rfl (bl rfl) (fun ret M' F' hR19 => ?_))
  obtain ⟨m23, rfl, rfl, rfl⟩ := hR19
  refine TrL.v (v_conv' rfl ⟨_, Try.underlying28⟩ Try.underlying3 rfl wrap_i64') rfl rfl (bl rfl) ?_
  refine TrL.v (v_move rfl rfl) rfl rfl (bl rfl) ?_
  obtain ⟨r20, hr20, H⟩ := bnd H
  refine TrL.cons rfl (op_callg' (fs := []) (vs := [.pointer (some ⟨b1, 0, none⟩), .int .u64 4]) (cap := []) (Mr := [cells b5 [.int .i64 0, .int .i64 0, .slice none 0 0] 35]) [0] [1] [1] rfl rfl rfl en69 (c_codec_Reader_Num r19.2 ((4 : Int)) b1 m23.1 m23.2 r20 hr20) (by decide) rfl rfl rfl (bl rfl) (fun ret M' F' hR20 => ?_))
  obtain ⟨m24, rfl, rfl, rfl⟩ := hR20
  refine TrL.v (v_conv' rfl ⟨_, Try.underlying28⟩ Try.underlying3 rfl wrap_i64') rfl rfl (bl rfl) ?_
  refine TrL.v (v_build (vs := [.int .i64 (wi64 r19.1), .int .i64 (wi64 r20.1)]) (out := [.int .i64 (wi64 r19.1), .int .i64 (wi64 r20.1), .slice none 0 0]) rfl pl35 ze35 rfl rfl) rfl rfl (bl rfl) ?_
  refine TrL.cons rfl (op_alloc' rfl (bl rfl) rfl ze35 (fun b6 => ?_))
  refine TrL.cons rfl (op_store' (k := 0) (c' := [.int .i64 (wi64 r19.1), .int .i64 (wi64 r20.1), .slice none 0 0]) rfl rfl rfl rfl rfl ty35 rfl (Nat.le_of_ble_eq_true rfl) (ones (oc rfl (oc rfl (oc rfl on)))) rfl ?_)
  refine TrL.nil (qthen_n ?_)
  refine Tr.seq ?_
  refine Tr.region ?_
  refine TrL.v (v_move rfl rfl) rfl rfl (bl rfl) ?_
  refine TrL.v (v_build (vs := [.pointer (some ⟨b1, 0, none⟩)]) (out := [.pointer (some ⟨b1, 0, none⟩), .int .u64 0]) rfl pl120 ze120 rfl rfl) rfl rfl (bl rfl) ?_
  refine TrL.cons rfl (op_box' rfl (bl rfl) rfl rfl rfl (fun b7 => ?_))
  refine TrL.v (v_assign rfl rfl) rfl rfl (bl rfl) ?_
  refine TrL.nil (qthen_n ?_)
  refine Tr.seq ?_
  refine Tr.seq ?_
  refine Tr.region ?_
  refine TrL.v (v_move rfl rfl) rfl rfl (bl rfl) ?_
  obtain ⟨r21, hr21, H⟩ := bnd H
  refine TrL.cons rfl (op_callg' (fs := []) (vs := [.pointer (some ⟨b1, 0, none⟩), .int .u64 52]) (cap := []) (Mr := [cells b7 [.pointer (some ⟨b1, 0, none⟩), .int .u64 0] 120, cells b6 [.int .i64 (wi64 r19.1), .int .i64 (wi64 r20.1), .slice none 0 0] 35, cells b5 [.int .i64 0, .int .i64 0, .slice none 0 0] 35]) [2] [0, 1, 3] [2] rfl rfl rfl en69 (c_codec_Reader_Num r20.2 ((52 : Int)) b1 m24.1 m24.2 r21 hr21) (by decide) rfl rfl rfl (bl rfl) (fun ret M' F' hR21 => ?_))
  obtain ⟨m25, rfl, rfl, rfl⟩ := hR21
  refine TrL.v (v_move rfl rfl) rfl rfl (bl rfl) ?_
  refine TrL.nil (qthen_n ?_)
  obtain ⟨x2, hx3, H⟩ := bnd H
  refine Tr.cutE (D := List Int × Int × List (List (Int × Int))) (M := Option Addr × Nat × Option Addr × Nat) .normal (fun _d => x2 = _d) (fun x2 m33 => ⟨[(0, .pointer (some ⟨b1, 0, none⟩)), (2, .pointer (some ⟨b5, 0, none⟩)), (3, .pointer (some ⟨b6, 0, none⟩))], [cells b1 [.slice m33.1 x2.1.length m33.2.1, .int .i64 x2.2.1] 116, cells b5 [.int .i64 0, .int .i64 0, .slice none 0 0] 35, cells b6 [.int .i64 (wi64 r19.1), .int .i64 (wi64 r20.1), .slice m33.2.2.1 x2.2.2.length m33.2.2.2] 35, arr (rSl rp_u64_u64) 31 m33.2.2.1 x2.2.2.length m33.2.2.2 x2.2.2], [slF (rInt .u8) m33.1 m33.2.1 x2.1, slF (rSl rp_u64_u64) none 0 (([] : List (List (Int × Int))))], []⟩) ?_ (fun x2 m33 hd2 => ?_)
  · refine Tr.block (Tr.loopI (ι := Option Addr × Nat × Option Addr × Nat) (step := record_Take_s0 r21) (fun s5 m29 => ⟨[(0, .pointer (some ⟨b1, 0, none⟩)), (2, .pointer (some ⟨b5, 0, none⟩)), (3, .pointer (some ⟨b6, 0, none⟩)), (4, .pointer (some ⟨b7, 0, none⟩)), (16, .int .u64 r21.1), (17, .int .u64 s5.1)], [cells b1 [.slice m29.1 s5.2.1.length m29.2.1, .int .i64 s5.2.2.1] 116, cells b5 [.int .i64 0, .int .i64 0, .slice none 0 0] 35, cells b6 [.int .i64 (wi64 r19.1), .int .i64 (wi64 r20.1), .slice m29.2.2.1 s5.2.2.2.1.length m29.2.2.2] 35, cells b7 [.pointer (some ⟨b1, 0, none⟩), .int .u64 s5.2.2.2.2] 120, arr (rSl rp_u64_u64) 31 m29.2.2.1 s5.2.2.2.1.length m29.2.2.2 s5.2.2.2.1], [slF (rInt .u8) m29.1 m29.2.1 s5.2.1, slF (rSl rp_u64_u64) none 0 (([] : List (List (Int × Int))))], []⟩) ((m25.1, m25.2, none, 0)) hx3 (Imp.arrNil' (rSl rp_u64_u64) 31 (Imp.addF' _ (nilF (rSl rp_u64_u64)) (Imp.re _ [1, 4, 3, 2, 0] [3, 4] (sc rfl (sc rfl (sc rfl (sc rfl (sc rfl (sc rfl sn)))))) (by decide) rfl rfl rfl))) (fun s5 m29 y2 hy2 hx4 => ?_))
    unfold record_Take_s0 at hy2
    refine Tr.seq ?_
    refine Tr.region ?_
    refine TrL.v (v_arith rfl rfl rfl ar_lss) rfl rfl (bl rfl) ?_
    refine TrL.nil (qthen_n ?_)
    refine Tr.seq ?_
    rcases ifc hy2 with ⟨h22, hy2⟩ | ⟨h22, hy2⟩
    · refine Tr.cond_t rfl (bt_dec h22) ?_
      refine Tr.skip (qthen_n ?_)
      refine Tr.seq ?_
      refine Tr.block ?_
      refine Tr.regionD drawn (fun hok => ?_)
      refine TrAny.prom (i := 0) (d := 19) hok (OpVal.plain rfl rfl (v_fieldAddr' rfl fo35_2 rfl rfl)) (by kernel_rfl) rfl (bl rfl) ?_
      clear hok
      intro hok
      refine TrAny.prom (i := 1) (d := 20) hok (OpVal.plain rfl rfl (v_load (k := 2) rfl rfl rfl ty24 (fun _ => rfl) rfl rfl)) (by kernel_rfl) rfl (bl rfl) ?_
      clear hok
      intro hok
      refine TrAny.prom (i := 2) (d := 21) hok (OpVal.plain rfl rfl (v_move rfl rfl)) (by kernel_rfl) rfl (bl rfl) ?_
      clear hok
      intro hok
      refine TrAny.prom (i := 6) (d := 25) hok (OpVal.plain rfl rfl (v_fieldAddr' rfl fo35_2 rfl rfl)) (by kernel_rfl) rfl (bl rfl) ?_
      clear hok
      intro hok
      obtain ⟨r27, hr27, hy2⟩ := bnd hy2
      refine TrAny.next (j := 3) (by kernel_rfl) hok rfl (by kernel_rfl) (op_callg' (fs := []) (vs := [.pointer (some ⟨b7, 0, none⟩)]) (cap := []) (Mr := [cells b5 [.int .i64 0, .int .i64 0, .slice none 0 0] 35, cells b6 [.int .i64 (wi64 r19.1), .int .i64 (wi64 r20.1), .slice m29.2.2.1 s5.2.2.2.1.length m29.2.2.2] 35, arr (rSl rp_u64_u64) 31 m29.2.2.1 s5.2.2.2.1.length m29.2.2.2 s5.2.2.2.1]) [0, 3] [1, 2, 4] [0] rfl rfl rfl en70 (c_record_clock_spans ((s5.2.1, s5.2.2.1, s5.2.2.2.2)) b7 b1 m29.1 m29.2.1 r27 hr27) (by decide) rfl rfl rfl (bl rfl) (fun ret M' F' hR27 => ?_))
      obtain ⟨m35, rfl, rfl, rfl⟩ := hR27
      refine nxp hok (by first | exact (kp_imp (kp_cc [0, 1, 2, 3, 4] rfl (by decide) rfl)) | exact (kp_all (ac (.inr (OpVal.plain rfl rfl (v_fieldAddr' rfl fo35_2 rfl rfl))) (ac (.inr (OpVal.plain rfl rfl (v_load (k := 3) rfl rfl rfl ty24 (fun _ => rfl) rfl rfl))) (ac (.inl (by kernel_rfl)) (ac (.inr (OpVal.plain rfl rfl (v_fieldAddr' rfl fo35_2 rfl rfl))) an)))))) rfl (by kernel_rfl) ?_
      clear hok
      intro hok
      refine TrAny.next (j := 4) (by kernel_rfl) hok rfl (by kernel_rfl) (op_buildSlice' (rp := (rSl rp_u64_u64)) (xs := [r27.1]) (vs := [.slice m35.1 r27.1.length m35.2.1]) (out := [.slice m35.1 r27.1.length m35.2.1]) rfl (bl rfl) rfl sl24 ty31 ze31 rfl rfl (by decide) (by decide) rfl (fun γ w hF => (rowc ⟨_, _, rfl, hF _ (List.mem_of_getElem? (i := 2) rfl)⟩ rown rfl)) (fun A24 => ?_))
      refine nxp hok (kp_imp (kp_cf rfl)) rfl (by kernel_rfl) ?_
      clear hok
      intro hok
      obtain ⟨h24, hy2⟩ := rom hy2
      refine TrAny.next (j := 5) (by kernel_rfl) hok rfl (by kernel_rfl) (op_appendAS (rp := (rSl rp_u64_u64)) (xs := s5.2.2.2.1) (ys := [r27.1]) (k := 4) (ky := 4) rfl (bl rfl) rfl sl24 ty31 ze31 rfl by31 rfl rfl rfl rfl rfl h24 (fun A25 c13 => ?_))
      refine nxp hok (kp_all (ac (.inr (OpVal.plain rfl rfl (v_fieldAddr' rfl fo35_2 rfl rfl))) (ac (.inl (by kernel_rfl)) (ac (.inr (OpVal.plain rfl rfl (v_move rfl rfl))) (ac (.inr (OpVal.plain rfl rfl (v_fieldAddr' rfl fo35_2 rfl rfl))) an))))) rfl (by kernel_rfl) ?_
      clear hok
      intro hok
      refine TrAny.next (j := 7) (by kernel_rfl) hok rfl (by kernel_rfl) (op_store' (k := 3) (c' := [.int .i64 (wi64 r19.1), .int .i64 (wi64 r20.1), .slice A25 ((s5.2.2.2.1 ++ ([r27.1])).length) c13]) rfl rfl rfl rfl rfl ty24 rfl (Nat.le_of_ble_eq_true rfl) (ones (oc rfl on)) rfl ?_)
      refine nxs hok (kp_aw (by kernel_rfl)) rfl ?_
      clear hok
      intro hok
      refine TrAny.done (by kernel_rfl) (by kernel_rfl) hok (by kernel_rfl) (qblock_n (qthen_n ?_))
      refine Tr.region ?_
      refine TrL.v (v_arith rfl rfl rfl ar_add_u64) rfl rfl (bl rfl) ?_
      refine TrL.v (v_move rfl rfl) rfl rfl (bl rfl) ?_
      have hz := Option.some.inj hy2
      subst hz
      refine TrL.nil (qloop_n ((m35.2.2.1, m35.2.2.2, A25, c13)) (Imp.re _ [0, 2, 3, 1, 4] [3, 1] (sc rfl (sc rfl (sc rfl (sc rfl (sc rfl (sc rfl sn)))))) (by decide) rfl rfl rfl))
    · refine Tr.cond_f rfl (bf_dec h22) ?_
      have hz := Option.some.inj hy2
      subst hz
      refine Tr.exit (qthen_x (qloop_x (qblock_hit (qcut_hit ((s5.2.1, s5.2.2.1, s5.2.2.2.1)) ((m29.1, m29.2.1, m29.2.2.1, m29.2.2.2)) (hx4 _ rfl).symm (Imp.re _ [0, 1, 2, 4] [0, 1] (sc rfl (sc rfl (sc rfl sn))) (by decide) rfl rfl rfl)))))
  · subst hd2
    refine (qthen_n ?_)
    refine Tr.seq ?_
    refine Tr.region ?_
    refine TrL.v (v_fieldAddr' rfl fo35_2 rfl rfl) rfl rfl (bl rfl) ?_
    refine TrL.v (v_load (k := 2) rfl rfl rfl ty24 (fun _ => rfl) rfl rfl) rfl rfl (bl rfl) ?_
    obtain ⟨r28, hr28, H⟩ := bnd H
    refine TrL.cons rfl (op_callg' (fs := []) (vs := [.slice m33.2.2.1 x2.2.2.length m33.2.2.2]) (cap := []) (Mr := [cells b1 [.slice m33.1 x2.1.length m33.2.1, .int .i64 x2.2.1] 116, cells b5 [.int .i64 0, .int .i64 0, .slice none 0 0] 35, cells b6 [.int .i64 (wi64 r19.1), .int .i64 (wi64 r20.1), .slice m33.2.2.1 x2.2.2.length m33.2.2.2] 35]) [3] [0, 1, 2] [] rfl rfl rfl en71 (c_slices_Reverse_Spans x2.2.2 m33.2.2.1 m33.2.2.2 x2.2.2.length r28 hr28) (by decide) rfl rfl rfl (bl rfl) (fun ret M' F' hR28 => ?_))
    obtain ⟨rfl, rfl, rfl⟩ := hR28
    refine TrL.nil (qthen_n ?_)
    refine Tr.seq ?_
    refine Tr.seq ?_
    refine Tr.region ?_
    refine TrL.v (v_move rfl rfl) rfl rfl (bl rfl) ?_
    obtain ⟨r31, hr31, H⟩ := bnd H
    refine TrL.cons rfl (op_callg' (fs := []) (vs := [.pointer (some ⟨b1, 0, none⟩)]) (cap := []) (Mr := [arr (rSl rp_u64_u64) 31 m33.2.2.1 x2.2.2.length m33.2.2.2 r28, cells b5 [.int .i64 0, .int .i64 0, .slice none 0 0] 35, cells b6 [.int .i64 (wi64 r19.1), .int .i64 (wi64 r20.1), .slice m33.2.2.1 x2.2.2.length m33.2.2.2] 35]) [1] [0, 2, 3] [0] rfl rfl rfl en32 (c_codec_Reader_Err ((x2.1, x2.2.1)) b1 m33.1 m33.2.1 r31 hr31) (by decide) rfl rfl rfl (bl rfl) (fun ret M' F' hR31 => ?_))
    obtain ⟨rfl, rfl, rfl⟩ := hR31
    refine TrL.v (v_arith rfl rfl rfl ar_eql) rfl rfl (bl rfl) ?_
    refine TrL.v (v_move rfl rfl) rfl rfl (bl rfl) ?_
    rcases ifc H with ⟨h26, H⟩ | ⟨h26, H⟩
    · refine TrL.cons_yes rfl rfl rfl (bt_dec h26) (OpTr.v (v_load (k := 3) rfl rfl rfl ty35 nofun rfl rfl) rfl (bl rfl) ?_)
      refine TrL.renormF (fun nn => ⟨[(0, .pointer (some ⟨b1, 0, none⟩)), (2, .pointer (some ⟨b5, 0, none⟩)), (3, .pointer (some ⟨b6, 0, none⟩)), (27, .pointer (some ⟨b6, 2, none⟩)), (28, .slice m33.2.2.1 nn m33.2.2.2), (30, .pointer (some ⟨b1, 0, none⟩)), (31, .int .i64 (((x2.1, x2.2.1)).2)), (32, .bool (decide ((((x2.1, x2.2.1)).2) = 0))), (33, .bool (decide ((((x2.1, x2.2.1)).2) = 0))), (34, .agg #[.int .i64 (wi64 r19.1), .int .i64 (wi64 r20.1), .slice m33.2.2.1 nn m33.2.2.2])], [cells b1 [.slice m33.1 ((((x2.1, x2.2.1)).1).length) m33.2.1, .int .i64 (((x2.1, x2.2.1)).2)] 116, arr (rSl rp_u64_u64) 31 m33.2.2.1 nn m33.2.2.2 r28, cells b5 [.int .i64 0, .int .i64 0, .slice none 0 0] 35, cells b6 [.int .i64 (wi64 r19.1), .int .i64 (wi64 r20.1), .slice m33.2.2.1 nn m33.2.2.2] 35], [slF (rInt .u8) m33.1 m33.2.1 x2.1, slF (rSl rp_u64_u64) none 0 (([] : List (List (Int × Int)))), slF (rInt .u8) m33.1 m33.2.1 (((x2.1, x2.2.1)).1)], []⟩) 1 (Imp.re _ [0, 1, 2, 3] [0, 1, 2] (sc rfl (sc rfl (sc rfl (sc rfl (sc rfl (sc rfl (sc rfl (sc rfl (sc rfl (sc rfl sn)))))))))) (by decide) rfl rfl rfl) rfl ?_
      refine TrL.shut' 1 rfl ?_
      obtain ⟨r32, hr32, H⟩ := bnd H
      refine TrL.cons_yes rfl rfl rfl (bt_dec h26) (op_call0' (vs := [.agg #[.int .i64 (wi64 r19.1), .int .i64 (wi64 r20.1), .slice m33.2.2.1 r28.length m33.2.2.2]]) (cap := []) [3] rfl rfl (bl rfl) rfl rfl en18 (c_check_Hist ((wi64 r19.1, wi64 r20.1, r28)) m33.2.2.1 m33.2.2.2 r32 hr32) rfl (fun ret M' F' hR32 => ?_))
      obtain ⟨rfl, rfl, rfl⟩ := hR32
      refine TrL.cons_yes rfl rfl rfl (bt_dec h26) (OpTr.v (v_arith rfl rfl rfl ar_neq) rfl (bl rfl) ?_)
      refine TrL.v (v_pick_t rfl rfl (bt_dec h26) rfl) rfl rfl (bl rfl) ?_
      refine TrL.nil (qthen_n ?_)
      rcases ifc H with ⟨h27, H⟩ | ⟨h27, H⟩
      · refine Tr.cond_t rfl (bt_dec h27) ?_
        refine Tr.region ?_
        refine TrL.v (v_move rfl rfl) rfl rfl (bl rfl) ?_
        obtain ⟨r33, hr33, H⟩ := bnd H
        refine TrL.cons rfl (op_callg' (fs := []) (vs := [.pointer (some ⟨b1, 0, none⟩), .int .i64 2]) (cap := []) (Mr := [cells b5 [.int .i64 0, .int .i64 0, .slice none 0 0] 35, cells b6 [.int .i64 (wi64 r19.1), .int .i64 (wi64 r20.1), .slice m33.2.2.1 r28.length m33.2.2.2] 35]) [0] [1, 2] [2] rfl rfl rfl en72 (c_codec_Reader_Fail (((x2.1, x2.2.1))) ((2 : Int)) b1 m33.1 m33.2.1 r33 hr33) (by decide) rfl rfl rfl (bl rfl) (fun ret M' F' hR33 => ?_))
        obtain ⟨rfl, rfl, rfl⟩ := hR33
        refine TrL.nil (qthen_n ?_)
        refine Tr.seq ?_
        refine Tr.seq ?_
        refine Tr.region ?_
        refine TrL.v (v_move rfl rfl) rfl rfl (bl rfl) ?_
        obtain ⟨r34, hr34, H⟩ := bnd H
        refine TrL.cons rfl (op_callg' (fs := []) (vs := [.pointer (some ⟨b1, 0, none⟩)]) (cap := []) (Mr := [cells b5 [.int .i64 0, .int .i64 0, .slice none 0 0] 35, cells b6 [.int .i64 (wi64 r19.1), .int .i64 (wi64 r20.1), .slice m33.2.2.1 r28.length m33.2.2.2] 35]) [0] [1, 2] [4] rfl rfl rfl en32 (c_codec_Reader_Err (((((x2.1, x2.2.1))).1, r33)) b1 m33.1 m33.2.1 r34 hr34) (by decide) rfl rfl rfl (bl rfl) (fun ret M' F' hR34 => ?_))
        obtain ⟨rfl, rfl, rfl⟩ := hR34
        refine TrL.v (v_arith rfl rfl rfl ar_neq) rfl rfl (bl rfl) ?_
        refine TrL.nil (qthen_n ?_)
        rcases ifc H with ⟨h28, H⟩ | ⟨h28, H⟩
        · refine Tr.cond_t rfl (bt_dec h28) ?_
          refine Tr.seq ?_
          refine Tr.region ?_
          refine TrL.v (v_build (vs := []) (out := [.int .i64 0, .int .i64 0, .slice none 0 0]) rfl pl35 ze35 rfl rfl) rfl rfl (bl rfl) ?_
          refine TrL.cons rfl (op_store' (k := 1) (c' := [.int .i64 0, .int .i64 0, .slice none 0 0]) rfl rfl rfl rfl rfl ty35 rfl (Nat.le_of_ble_eq_true rfl) (ones (oc rfl (oc rfl (oc rfl on)))) rfl ?_)
          refine TrL.nil (qthen_n ?_)
          have hz := Option.some.inj H
          subst hz
          refine Tr.ret (qthen_r (ret_r ⟨[(2, .pointer (some ⟨b5, 0, none⟩))], [cells b1 [.slice m33.1 (((((((x2.1, x2.2.1))).1, r33)).1).length) m33.2.1, .int .i64 ((((((x2.1, x2.2.1))).1, r33)).2)] 116, cells b5 [.int .i64 0, .int .i64 0, .slice none 0 0] 35], [slF (rSl rp_u64_u64) none 0 (([] : List (List (Int × Int)))), slF (rInt .u8) m33.1 m33.2.1 ((((((x2.1, x2.2.1))).1, r33)).1)], []⟩ [.agg #[.int .i64 0, .int .i64 0, .slice none 0 0]] [cells b1 [.slice m33.1 (((((((x2.1, x2.2.1))).1, r33)).1).length) m33.2.1, .int .i64 ((((((x2.1, x2.2.1))).1, r33)).2)] 116] [cells b5 [.int .i64 0, .int .i64 0, .slice none 0 0] 35] (Imp.re _ [0, 1] [1, 5] (sc rfl sn) (by decide) rfl rfl rfl) rfl rfl ⟨((none, 0, m33.1, m33.2.1)), rfl, rfl, rfl⟩ (.cons (resv_cell (k := 1) rfl rfl ty35 nofun rfl rfl) .nil)))
        · refine Tr.cond_f rfl (bf_dec h28) ?_
          refine Tr.skip (qthen_n ?_)
          refine Tr.seq ?_
          refine Tr.region ?_
          refine TrL.v (v_load (k := 2) rfl rfl rfl ty35 nofun rfl rfl) rfl rfl (bl rfl) ?_
          refine TrL.cons rfl (op_store' (k := 1) (c' := [.int .i64 (wi64 r19.1), .int .i64 (wi64 r20.1), .slice m33.2.2.1 r28.length m33.2.2.2]) rfl rfl rfl rfl rfl ty35 rfl (Nat.le_of_ble_eq_true rfl) (ones (oc rfl (oc rfl (oc rfl on)))) rfl ?_)
          refine TrL.nil (qthen_n ?_)
          have hz := Option.some.inj H
          subst hz
          refine Tr.ret (ret_r ⟨[(2, .pointer (some ⟨b5, 0, none⟩))], [cells b1 [.slice m33.1 (((((((x2.1, x2.2.1))).1, r33)).1).length) m33.2.1, .int .i64 ((((((x2.1, x2.2.1))).1, r33)).2)] 116, cells b5 [.int .i64 (wi64 r19.1), .int .i64 (wi64 r20.1), .slice m33.2.2.1 r28.length m33.2.2.2] 35], [slF (rSl rp_u64_u64) m33.2.2.1 m33.2.2.2 r28, slF (rInt .u8) m33.1 m33.2.1 ((((((x2.1, x2.2.1))).1, r33)).1)], []⟩ [.agg #[.int .i64 (wi64 r19.1), .int .i64 (wi64 r20.1), .slice m33.2.2.1 r28.length m33.2.2.2]] [cells b1 [.slice m33.1 (((((((x2.1, x2.2.1))).1, r33)).1).length) m33.2.1, .int .i64 ((((((x2.1, x2.2.1))).1, r33)).2)] 116] [cells b5 [.int .i64 (wi64 r19.1), .int .i64 (wi64 r20.1), .slice m33.2.2.1 r28.length m33.2.2.2] 35] (Imp.re _ [0, 1] [3, 5] (sc rfl sn) (by decide) rfl rfl rfl) rfl rfl ⟨((m33.2.2.1, m33.2.2.2, m33.1, m33.2.1)), rfl, rfl, rfl⟩ (.cons (resv_cell (k := 1) rfl rfl ty35 nofun rfl rfl) .nil))
      · refine Tr.cond_f rfl (bf_dec h27) ?_
        refine Tr.skip (qthen_n ?_)
        refine Tr.seq ?_
        refine Tr.seq ?_
        refine Tr.region ?_
        refine TrL.v (v_move rfl rfl) rfl rfl (bl rfl) ?_
        obtain ⟨r35, hr35, H⟩ := bnd H
        refine TrL.cons rfl (op_callg' (fs := []) (vs := [.pointer (some ⟨b1, 0, none⟩)]) (cap := []) (Mr := [cells b5 [.int .i64 0, .int .i64 0, .slice none 0 0] 35, cells b6 [.int .i64 (wi64 r19.1), .int .i64 (wi64 r20.1), .slice m33.2.2.1 r28.length m33.2.2.2] 35]) [0] [1, 2] [2] rfl rfl rfl en32 (c_codec_Reader_Err (((x2.1, x2.2.1))) b1 m33.1 m33.2.1 r35 hr35) (by decide) rfl rfl rfl (bl rfl) (fun ret M' F' hR35 => ?_))
        obtain ⟨rfl, rfl, rfl⟩ := hR35
        refine TrL.v (v_arith rfl rfl rfl ar_neq) rfl rfl (bl rfl) ?_
        refine TrL.nil (qthen_n ?_)
        rcases ifc H with ⟨h29, H⟩ | ⟨h29, H⟩
        · refine Tr.cond_t rfl (bt_dec h29) ?_
          refine Tr.seq ?_
          refine Tr.region ?_
          refine TrL.v (v_build (vs := []) (out := [.int .i64 0, .int .i64 0, .slice none 0 0]) rfl pl35 ze35 rfl rfl) rfl rfl (bl rfl) ?_
          refine TrL.cons rfl (op_store' (k := 1) (c' := [.int .i64 0, .int .i64 0, .slice none 0 0]) rfl rfl rfl rfl rfl ty35 rfl (Nat.le_of_ble_eq_true rfl) (ones (oc rfl (oc rfl (oc rfl on)))) rfl ?_)
          refine TrL.nil (qthen_n ?_)
          have hz := Option.some.inj H
          subst hz
          refine Tr.ret (qthen_r (ret_r ⟨[(2, .pointer (some ⟨b5, 0, none⟩))], [cells b1 [.slice m33.1 (((((x2.1, x2.2.1))).1).length) m33.2.1, .int .i64 ((((x2.1, x2.2.1))).2)] 116, cells b5 [.int .i64 0, .int .i64 0, .slice none 0 0] 35], [slF (rSl rp_u64_u64) none 0 (([] : List (List (Int × Int)))), slF (rInt .u8) m33.1 m33.2.1 ((((x2.1, x2.2.1))).1)], []⟩ [.agg #[.int .i64 0, .int .i64 0, .slice none 0 0]] [cells b1 [.slice m33.1 (((((x2.1, x2.2.1))).1).length) m33.2.1, .int .i64 ((((x2.1, x2.2.1))).2)] 116] [cells b5 [.int .i64 0, .int .i64 0, .slice none 0 0] 35] (Imp.re _ [0, 1] [1, 4] (sc rfl sn) (by decide) rfl rfl rfl) rfl rfl ⟨((none, 0, m33.1, m33.2.1)), rfl, rfl, rfl⟩ (.cons (resv_cell (k := 1) rfl rfl ty35 nofun rfl rfl) .nil)))
        · refine Tr.cond_f rfl (bf_dec h29) ?_
          refine Tr.skip (qthen_n ?_)
          refine Tr.seq ?_
          refine Tr.region ?_
          refine TrL.v (v_load (k := 2) rfl rfl rfl ty35 nofun rfl rfl) rfl rfl (bl rfl) ?_
          refine TrL.cons rfl (op_store' (k := 1) (c' := [.int .i64 (wi64 r19.1), .int .i64 (wi64 r20.1), .slice m33.2.2.1 r28.length m33.2.2.2]) rfl rfl rfl rfl rfl ty35 rfl (Nat.le_of_ble_eq_true rfl) (ones (oc rfl (oc rfl (oc rfl on)))) rfl ?_)
          refine TrL.nil (qthen_n ?_)
          have hz := Option.some.inj H
          subst hz
          refine Tr.ret (ret_r ⟨[(2, .pointer (some ⟨b5, 0, none⟩))], [cells b1 [.slice m33.1 (((((x2.1, x2.2.1))).1).length) m33.2.1, .int .i64 ((((x2.1, x2.2.1))).2)] 116, cells b5 [.int .i64 (wi64 r19.1), .int .i64 (wi64 r20.1), .slice m33.2.2.1 r28.length m33.2.2.2] 35], [slF (rSl rp_u64_u64) m33.2.2.1 m33.2.2.2 r28, slF (rInt .u8) m33.1 m33.2.1 ((((x2.1, x2.2.1))).1)], []⟩ [.agg #[.int .i64 (wi64 r19.1), .int .i64 (wi64 r20.1), .slice m33.2.2.1 r28.length m33.2.2.2]] [cells b1 [.slice m33.1 (((((x2.1, x2.2.1))).1).length) m33.2.1, .int .i64 ((((x2.1, x2.2.1))).2)] 116] [cells b5 [.int .i64 (wi64 r19.1), .int .i64 (wi64 r20.1), .slice m33.2.2.1 r28.length m33.2.2.2] 35] (Imp.re _ [0, 1] [3, 4] (sc rfl sn) (by decide) rfl rfl rfl) rfl rfl ⟨((m33.2.2.1, m33.2.2.2, m33.1, m33.2.1)), rfl, rfl, rfl⟩ (.cons (resv_cell (k := 1) rfl rfl ty35 nofun rfl rfl) .nil))
    · refine TrL.cons_no rfl rfl rfl (gn_t (bf_dec h26)) rfl (bl rfl) ?_
      refine TrL.cons_no rfl rfl rfl (gn_t (bf_dec h26)) rfl (bl rfl) ?_
      refine TrL.cons_no rfl rfl rfl (gn_t (bf_dec h26)) rfl (bl rfl) ?_
      refine TrL.v (v_pick_f rfl rfl (bf_dec h26) rfl) rfl rfl (bl rfl) ?_
      refine TrL.nil (qthen_n ?_)
      refine Tr.cond_f rfl rfl ?_
      refine Tr.skip (qthen_n ?_)
      refine Tr.seq ?_
      refine Tr.seq ?_
      refine Tr.region ?_
      refine TrL.v (v_move rfl rfl) rfl rfl (bl rfl) ?_
      obtain ⟨r36, hr36, H⟩ := bnd H
      refine TrL.cons rfl (op_callg' (fs := []) (vs := [.pointer (some ⟨b1, 0, none⟩)]) (cap := []) (Mr := [arr (rSl rp_u64_u64) 31 m33.2.2.1 x2.2.2.length m33.2.2.2 r28, cells b5 [.int .i64 0, .int .i64 0, .slice none 0 0] 35, cells b6 [.int .i64 (wi64 r19.1), .int .i64 (wi64 r20.1), .slice m33.2.2.1 x2.2.2.length m33.2.2.2] 35]) [0] [1, 2, 3] [2] rfl rfl rfl en32 (c_codec_Reader_Err (((x2.1, x2.2.1))) b1 m33.1 m33.2.1 r36 hr36) (by decide) rfl rfl rfl (bl rfl) (fun ret M' F' hR36 => ?_))
      obtain ⟨rfl, rfl, rfl⟩ := hR36
      refine TrL.v (v_arith rfl rfl rfl ar_neq) rfl rfl (bl rfl) ?_
      refine TrL.nil (qthen_n ?_)
      rcases ifc H with ⟨h30, H⟩ | ⟨h30, H⟩
      · refine Tr.cond_t rfl (bt_dec h30) ?_
        refine Tr.seq ?_
        refine Tr.region ?_
        refine TrL.v (v_build (vs := []) (out := [.int .i64 0, .int .i64 0, .slice none 0 0]) rfl pl35 ze35 rfl rfl) rfl rfl (bl rfl) ?_
        refine TrL.cons rfl (op_store' (k := 2) (c' := [.int .i64 0, .int .i64 0, .slice none 0 0]) rfl rfl rfl rfl rfl ty35 rfl (Nat.le_of_ble_eq_true rfl) (ones (oc rfl (oc rfl (oc rfl on)))) rfl ?_)
        refine TrL.nil (qthen_n ?_)
        have hz := Option.some.inj H
        subst hz
        refine Tr.ret (qthen_r (ret_r ⟨[(2, .pointer (some ⟨b5, 0, none⟩))], [cells b1 [.slice m33.1 (((((x2.1, x2.2.1))).1).length) m33.2.1, .int .i64 ((((x2.1, x2.2.1))).2)] 116, cells b5 [.int .i64 0, .int .i64 0, .slice none 0 0] 35], [slF (rSl rp_u64_u64) none 0 (([] : List (List (Int × Int)))), slF (rInt .u8) m33.1 m33.2.1 ((((x2.1, x2.2.1))).1)], []⟩ [.agg #[.int .i64 0, .int .i64 0, .slice none 0 0]] [cells b1 [.slice m33.1 (((((x2.1, x2.2.1))).1).length) m33.2.1, .int .i64 ((((x2.1, x2.2.1))).2)] 116] [cells b5 [.int .i64 0, .int .i64 0, .slice none 0 0] 35] (Imp.re _ [0, 2] [1, 3] (sc rfl sn) (by decide) rfl rfl rfl) rfl rfl ⟨((none, 0, m33.1, m33.2.1)), rfl, rfl, rfl⟩ (.cons (resv_cell (k := 1) rfl rfl ty35 nofun rfl rfl) .nil)))
      · refine Tr.cond_f rfl (bf_dec h30) ?_
        refine Tr.skip (qthen_n ?_)
        refine Tr.seq ?_
        refine Tr.region ?_
        refine TrL.v (v_load (k := 3) rfl rfl rfl ty35 nofun rfl rfl) rfl rfl (bl rfl) ?_
        refine TrL.cons rfl (op_store' (k := 2) (c' := [.int .i64 (wi64 r19.1), .int .i64 (wi64 r20.1), .slice m33.2.2.1 x2.2.2.length m33.2.2.2]) rfl rfl rfl rfl rfl ty35 rfl (Nat.le_of_ble_eq_true rfl) (ones (oc rfl (oc rfl (oc rfl on)))) rfl ?_)
        refine TrL.nil (qthen_n ?_)
        refine Tr.renormF (fun nn => ⟨[(0, .pointer (some ⟨b1, 0, none⟩)), (2, .pointer (some ⟨b5, 0, none⟩)), (3, .pointer (some ⟨b6, 0, none⟩)), (27, .pointer (some ⟨b6, 2, none⟩)), (28, .slice m33.2.2.1 nn m33.2.2.2), (30, .pointer (some ⟨b1, 0, none⟩)), (31, .int .i64 (((x2.1, x2.2.1)).2)), (32, .bool (decide ((((x2.1, x2.2.1)).2) = 0))), (33, .bool (decide ((((x2.1, x2.2.1)).2) = 0))), (34, undef), (35, undef), (36, undef), (37, .bool false), (40, .pointer (some ⟨b1, 0, none⟩)), (41, .int .i64 ((((x2.1, x2.2.1))).2)), (42, .bool (decide (¬ ((((x2.1, x2.2.1))).2) = 0))), (44, .agg #[.int .i64 (wi64 r19.1), .int .i64 (wi64 r20.1), .slice m33.2.2.1 nn m33.2.2.2])], [cells b1 [.slice m33.1 (((((x2.1, x2.2.1))).1).length) m33.2.1, .int .i64 ((((x2.1, x2.2.1))).2)] 116, arr (rSl rp_u64_u64) 31 m33.2.2.1 nn m33.2.2.2 r28, cells b5 [.int .i64 (wi64 r19.1), .int .i64 (wi64 r20.1), .slice m33.2.2.1 nn m33.2.2.2] 35, cells b6 [.int .i64 (wi64 r19.1), .int .i64 (wi64 r20.1), .slice m33.2.2.1 nn m33.2.2.2] 35], [slF (rInt .u8) m33.1 m33.2.1 x2.1, slF (rSl rp_u64_u64) none 0 (([] : List (List (Int × Int)))), slF (rInt .u8) m33.1 m33.2.1 (((x2.1, x2.2.1)).1), slF (rInt .u8) m33.1 m33.2.1 ((((x2.1, x2.2.1))).1)], []⟩) 1 (Imp.re _ [0, 1, 2, 3] [0, 1, 2, 3] (sc rfl (sc rfl (sc rfl (sc rfl (sc rfl (sc rfl (sc rfl (sc rfl (sc rfl (sc rfl (sc rfl (sc rfl (sc rfl (sc rfl (sc rfl (sc rfl (sc rfl sn))))))))))))))))) (by decide) rfl rfl rfl) rfl ?_
        refine Tr.shut' 1 rfl ?_
        have hz := Option.some.inj H
        subst hz
        refine Tr.ret (ret_r ⟨[(2, .pointer (some ⟨b5, 0, none⟩))], [cells b1 [.slice m33.1 (((((x2.1, x2.2.1))).1).length) m33.2.1, .int .i64 ((((x2.1, x2.2.1))).2)] 116, cells b5 [.int .i64 (wi64 r19.1), .int .i64 (wi64 r20.1), .slice m33.2.2.1 r28.length m33.2.2.2] 35], [slF (rSl rp_u64_u64) m33.2.2.1 m33.2.2.2 r28, slF (rInt .u8) m33.1 m33.2.1 ((((x2.1, x2.2.1))).1)], []⟩ [.agg #[.int .i64 (wi64 r19.1), .int .i64 (wi64 r20.1), .slice m33.2.2.1 r28.length m33.2.2.2]] [cells b1 [.slice m33.1 (((((x2.1, x2.2.1))).1).length) m33.2.1, .int .i64 ((((x2.1, x2.2.1))).2)] 116] [cells b5 [.int .i64 (wi64 r19.1), .int .i64 (wi64 r20.1), .slice m33.2.2.1 r28.length m33.2.2.2] 35] (Imp.re _ [0, 1] [4, 3] (sc rfl sn) (by decide) rfl rfl rfl) rfl rfl ⟨((m33.2.2.1, m33.2.2.2, m33.1, m33.2.1)), rfl, rfl, rfl⟩ (.cons (resv_cell (k := 1) rfl rfl ty35 nofun rfl rfl) .nil))

theorem c_record_One (p1 : List Int) (A1 : Option Addr) (c1 : Nat) (r : Int × Int × (List (List (Int × Int))) × Int) (H : record_One p1 = some r) :
    Ctr Try.prog 25 [.slice A1 p1.length c1] [] [slF (rInt .u8) A1 c1 p1] (fun ret M' F' => ∃ m : Option Addr × Nat, ret = .tuple #[.agg #[.int .i64 r.1, .int .i64 r.2.1, .slice m.1 r.2.2.1.length m.2], .int .i64 r.2.2.2] ∧ M' = [] ∧ F' = [slF (rSl rp_u64_u64) m.1 m.2 r.2.2.1]) := by
  unfold record_One at H
  refine ctr_ofI (N := 18) Try.func25 rfl Try.ntmps25 rfl (Nat.le_of_ble_eq_true rfl) (fun γ0 w0 => ?_)
  refine Tr.seq ?_
  refine Tr.region ?_
  refine TrL.cons rfl (op_alloc' rfl (bl rfl) rfl ze35 (fun b3 => ?_))
  refine TrL.v (v_assign rfl rfl) rfl rfl (bl rfl) ?_
  refine TrL.nil (qthen_n ?_)
  refine Tr.seq ?_
  refine Tr.region ?_
  refine TrL.v (v_move rfl rfl) rfl rfl (bl rfl) ?_
  obtain ⟨r4, hr4, H⟩ := bnd H
  refine TrL.cons rfl (op_call0' (vs := [.slice A1 p1.length c1]) (cap := []) [0] rfl rfl (bl rfl) rfl rfl en27 (c_codec_New p1 A1 c1 r4 hr4) rfl (fun ret M' F' hR4 => ?_))
  obtain ⟨m4, rfl, rfl, rfl⟩ := hR4
  refine TrL.v (v_assign rfl rfl) rfl rfl (bl rfl) ?_
  refine TrL.nil (qthen_n ?_)
  refine Tr.seq ?_
  refine Tr.region ?_
  refine TrL.v (v_move rfl rfl) rfl rfl (bl rfl) ?_
  obtain ⟨r5, hr5, H⟩ := bnd H
  refine TrL.cons rfl (op_callg' (fs := []) (vs := [.pointer (some ⟨m4, 0, none⟩)]) (cap := []) (Mr := [cells b3 [.int .i64 0, .int .i64 0, .slice none 0 0] 35]) [0] [1] [1] rfl rfl rfl en28 (c_record_Take ((p1.take ((p1.length : Int)).toNat, (0 : Int))) m4 (slA A1 0 ((p1.length : Int)).toNat 1) (((p1.length : Int)).toNat) r5 hr5) (by decide) rfl rfl rfl (bl rfl) (fun ret M' F' hR5 => ?_))
  obtain ⟨m5, rfl, rfl, rfl⟩ := hR5
  refine TrL.cons rfl (op_alloc' rfl (bl rfl) rfl ze35 (fun b4 => ?_))
  refine TrL.cons rfl (op_store' (k := 0) (c' := [.int .i64 r5.1, .int .i64 r5.2.1, .slice m5.1 r5.2.2.1.length m5.2.1]) rfl rfl rfl rfl rfl ty35 rfl (Nat.le_of_ble_eq_true rfl) (ones (oc rfl (oc rfl (oc rfl on)))) rfl ?_)
  refine TrL.nil (qthen_n ?_)
  refine Tr.seq ?_
  refine Tr.seq ?_
  refine Tr.region ?_
  refine TrL.v (v_move rfl rfl) rfl rfl (bl rfl) ?_
  obtain ⟨r6, hr6, H⟩ := bnd H
  refine TrL.cons rfl (op_callg' (fs := []) (vs := [.pointer (some ⟨m4, 0, none⟩)]) (cap := []) (Mr := [cells b4 [.int .i64 r5.1, .int .i64 r5.2.1, .slice m5.1 r5.2.2.1.length m5.2.1] 35, cells b3 [.int .i64 0, .int .i64 0, .slice none 0 0] 35]) [1] [0, 2] [3] rfl rfl rfl en36 (c_codec_Reader_End r5.2.2.2 m4 m5.2.2.1 m5.2.2.2 r6 hr6) (by decide) rfl rfl rfl (bl rfl) (fun ret M' F' hR6 => ?_))
  obtain ⟨rfl, rfl, rfl⟩ := hR6
  refine TrL.v (v_assign rfl rfl) rfl rfl (bl rfl) ?_
  refine TrL.nil (qthen_n ?_)
  refine Tr.seq ?_
  refine Tr.region ?_
  refine TrL.v (v_move rfl rfl) rfl rfl (bl rfl) ?_
  refine TrL.v (v_arith rfl rfl rfl ar_neq) rfl rfl (bl rfl) ?_
  refine TrL.nil (qthen_n ?_)
  rcases ifc H with ⟨h2, H⟩ | ⟨h2, H⟩
  · refine Tr.cond_t rfl (bt_dec h2) ?_
    refine Tr.seq ?_
    refine Tr.region ?_
    refine TrL.v (v_build (vs := []) (out := [.int .i64 0, .int .i64 0, .slice none 0 0]) rfl pl35 ze35 rfl rfl) rfl rfl (bl rfl) ?_
    refine TrL.v (v_move rfl rfl) rfl rfl (bl rfl) ?_
    refine TrL.cons rfl (op_store' (k := 2) (c' := [.int .i64 0, .int .i64 0, .slice none 0 0]) rfl rfl rfl rfl rfl ty35 rfl (Nat.le_of_ble_eq_true rfl) (ones (oc rfl (oc rfl (oc rfl on)))) rfl ?_)
    refine TrL.v (v_assign rfl rfl) rfl rfl (bl rfl) ?_
    refine TrL.nil (qthen_n ?_)
    have hz := Option.some.inj H
    subst hz
    refine Tr.ret (qthen_r (ret_r ⟨[(2, .pointer (some ⟨b3, 0, none⟩)), (3, .int .i64 r6)], [cells b3 [.int .i64 0, .int .i64 0, .slice none 0 0] 35], [slF (rSl rp_u64_u64) none 0 (([] : List (List (Int × Int))))], []⟩ [.agg #[.int .i64 0, .int .i64 0, .slice none 0 0], .int .i64 r6] [] [cells b3 [.int .i64 0, .int .i64 0, .slice none 0 0] 35] (Imp.addF' _ (nilF (rSl rp_u64_u64)) (Imp.re _ [2] [5] (sc rfl (sc rfl sn)) (by decide) rfl rfl rfl)) rfl rfl ⟨((none, 0)), rfl, rfl, rfl⟩ (.cons (resv_cell (k := 0) rfl rfl ty35 nofun rfl rfl) (.cons (resv_tmp rfl) .nil))))
  · refine Tr.cond_f rfl (bf_dec h2) ?_
    refine Tr.skip (qthen_n ?_)
    refine Tr.seq ?_
    refine Tr.region ?_
    refine TrL.v (v_load (k := 1) rfl rfl rfl ty35 nofun rfl rfl) rfl rfl (bl rfl) ?_
    refine TrL.cons rfl (op_store' (k := 2) (c' := [.int .i64 r5.1, .int .i64 r5.2.1, .slice m5.1 r5.2.2.1.length m5.2.1]) rfl rfl rfl rfl rfl ty35 rfl (Nat.le_of_ble_eq_true rfl) (ones (oc rfl (oc rfl (oc rfl on)))) rfl ?_)
    refine TrL.v (v_assign rfl rfl) rfl rfl (bl rfl) ?_
    refine TrL.nil (qthen_n ?_)
    have hz := Option.some.inj H
    subst hz
    refine Tr.ret (ret_r ⟨[(2, .pointer (some ⟨b3, 0, none⟩)), (3, .int .i64 0)], [cells b3 [.int .i64 r5.1, .int .i64 r5.2.1, .slice m5.1 r5.2.2.1.length m5.2.1] 35], [slF (rSl rp_u64_u64) m5.1 m5.2.1 r5.2.2.1], []⟩ [.agg #[.int .i64 r5.1, .int .i64 r5.2.1, .slice m5.1 r5.2.2.1.length m5.2.1], .int .i64 0] [] [cells b3 [.int .i64 r5.1, .int .i64 r5.2.1, .slice m5.1 r5.2.2.1.length m5.2.1] 35] (Imp.re _ [2] [2] (sc rfl (sc rfl sn)) (by decide) rfl rfl rfl) rfl rfl ⟨((m5.1, m5.2.1)), rfl, rfl, rfl⟩ (.cons (resv_cell (k := 0) rfl rfl ty35 nofun rfl rfl) (.cons (resv_tmp rfl) .nil)))
end Go.Proofs.Ytbeknohemgjfbaa.W
