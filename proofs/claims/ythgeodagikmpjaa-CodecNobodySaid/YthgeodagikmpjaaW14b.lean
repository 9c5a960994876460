/- The contracts of the walked functions: the printed walks. -/
import Derived.Test.YthgeodagikmpjaaKb
import Derived.Test.YthgeodagikmpjaaQb
import Derived.Test.YthgeodagikmpjaaWcodecab
import Derived.Test.YthgeodagikmpjaaWcodecbb
import Derived.Test.YthgeodagikmpjaaWlaw02ab
namespace Go.Proofs.Ythgeodagikmpjaa.W
open Go Go.Proofs Go.Proofs.Ythgeodagikmpjaa.L Go.Proofs.Ythgeodagikmpjaa.Pu
set_option linter.unusedVariables false
set_option maxHeartbeats 4000000

theorem c_law02_CodecNobody (p1 : List Int) (p2 : Int) (p3 : Int × Int) (A1 : Option Addr) (c1 : Nat) (r : Bool) (H : law02_CodecNobody p1 p2 p3 = some r) :
    Ctr Try.prog 14 [.slice A1 p1.length c1, .int .i64 p2, .agg #[.int .u8 p3.1, .int .u8 p3.2]] [] [slF (rInt .u8) A1 c1 p1] (fun ret M' F' => ret = .bool r ∧ M' = [] ∧ F' = []) := by
  unfold law02_CodecNobody at H
  refine ctr_ofI (N := 123) Try.func14 rfl Try.ntmps14 rfl (Nat.le_of_ble_eq_true rfl) (fun γ0 w0 => ?_)
  refine Tr.seq ?_
  refine Tr.region ?_
  refine TrL.cons rfl (op_box' rfl (bl rfl) rfl rfl rfl (fun b2 => ?_))
  refine TrL.v (v_assign rfl rfl) rfl rfl (bl rfl) ?_
  refine TrL.nil (qthen_n ?_)
  refine Tr.seq ?_
  refine Tr.region ?_
  obtain ⟨r39, hr39, H⟩ := bnd H
  refine TrL.cons rfl (op_call0' (vs := []) (cap := []) [] rfl rfl (bl rfl) rfl rfl en24 (c_law02_awake r39 hr39) rfl (fun ret M' F' hR41 => ?_))
  obtain ⟨rfl, rfl, rfl⟩ := hR41
  refine TrL.v (v_assign rfl rfl) rfl rfl (bl rfl) ?_
  refine TrL.nil (qthen_n ?_)
  refine Tr.seq ?_
  refine Tr.seq ?_
  refine Tr.region ?_
  refine TrL.v (v_move rfl rfl) rfl rfl (bl rfl) ?_
  refine TrL.v (v_len rfl sl23 rfl) rfl rfl (bl rfl) ?_
  refine TrL.v (v_arith rfl rfl rfl ar_gtr) rfl rfl (bl rfl) ?_
  refine TrL.nil (qthen_n ?_)
  rcases ifc H with ⟨h22, H⟩ | ⟨h22, H⟩
  · refine Tr.cond_t rfl (bt_dec h22) ?_
    refine Tr.seq ?_
    refine Tr.region ?_
    refine TrL.v (v_move rfl rfl) rfl rfl (bl rfl) ?_
    refine TrL.v (v_assign rfl rfl) rfl rfl (bl rfl) ?_
    refine TrL.nil (qthen_n ?_)
    have hz := Option.some.inj H
    subst hz
    refine Tr.ret (qthen_r (ret_r ⟨[(6, .bool r39)], [], [], []⟩ [.bool r39] [] [] (Imp.re _ [] [] (sc rfl sn) (by decide) rfl rfl rfl) rfl rfl ⟨rfl, rfl, rfl⟩ (.cons (resv_tmp rfl) .nil)))
  · refine Tr.cond_f rfl (bf_dec h22) ?_
    refine Tr.skip (qthen_n ?_)
    refine Tr.seq ?_
    refine Tr.region ?_
    refine TrL.v (v_assign rfl rfl) rfl rfl (bl rfl) ?_
    refine TrL.nil (qthen_n ?_)
    refine Tr.seq ?_
    refine Tr.region ?_
    refine TrL.v (v_move rfl rfl) rfl rfl (bl rfl) ?_
    obtain ⟨r40, hr40, H⟩ := bnd H
    refine TrL.cons rfl (op_call0' (vs := [.pointer none, .int .i64 9]) (cap := []) [] rfl rfl (bl rfl) rfl rfl en48 (c_codec_Reader_Fail_v1 ((9 : Int)) r40 hr40) rfl (fun ret M' F' hR42 => ?_))
    obtain ⟨rfl, rfl, rfl⟩ := hR42
    refine TrL.nil (qthen_n ?_)
    refine Tr.seq ?_
    refine Tr.region ?_
    refine TrL.v (v_move rfl rfl) rfl rfl (bl rfl) ?_
    obtain ⟨r41, hr41, H⟩ := bnd H
    refine TrL.cons rfl (op_call0' (vs := [.slice A1 p1.length c1]) (cap := []) [0] rfl rfl (bl rfl) rfl rfl en31 (c_codec_New p1 A1 c1 r41 hr41) rfl (fun ret M' F' hR43 => ?_))
    obtain ⟨m47, rfl, rfl, rfl⟩ := hR43
    refine TrL.v (v_assign rfl rfl) rfl rfl (bl rfl) ?_
    refine TrL.nil (qthen_n ?_)
    refine Tr.seq ?_
    refine Tr.region ?_
    refine TrL.v (v_move rfl rfl) rfl rfl (bl rfl) ?_
    obtain ⟨r42, hr42, H⟩ := bnd H
    refine TrL.cons rfl (op_callg' (fs := []) (vs := [.pointer (some ⟨m47, 0, none⟩), .int .i64 0]) (cap := []) (Mr := [cells b2 [.int .u8 p3.1, .int .u8 p3.2] 78]) [0] [1] [1] rfl rfl rfl en48 (c_codec_Reader_Fail ((p1.take ((p1.length : Int)).toNat, (0 : Int))) ((0 : Int)) m47 (slA A1 0 ((p1.length : Int)).toNat 1) (((p1.length : Int)).toNat) r42 hr42) (by decide) rfl rfl rfl (bl rfl) (fun ret M' F' hR44 => ?_))
    obtain ⟨rfl, rfl, rfl⟩ := hR44
    refine TrL.nil (qthen_n ?_)
    refine Tr.seq ?_
    refine Tr.region ?_
    refine TrL.v (v_move rfl rfl) rfl rfl (bl rfl) ?_
    obtain ⟨r43, hr43, H⟩ := bnd H
    refine TrL.cons rfl (op_callg' (fs := []) (vs := [.pointer (some ⟨m47, 0, none⟩)]) (cap := []) (Mr := [cells b2 [.int .u8 p3.1, .int .u8 p3.2] 78]) [0] [1] [2] rfl rfl rfl en33 (c_codec_Reader_Err ((((p1.take ((p1.length : Int)).toNat, (0 : Int))).1, r42)) m47 ((slA A1 0 ((p1.length : Int)).toNat 1)) ((((p1.length : Int)).toNat)) r43 hr43) (by decide) rfl rfl rfl (bl rfl) (fun ret M' F' hR45 => ?_))
    obtain ⟨rfl, rfl, rfl⟩ := hR45
    refine TrL.v (v_assign rfl rfl) rfl rfl (bl rfl) ?_
    refine TrL.nil (qthen_n ?_)
    refine Tr.seq ?_
    refine Tr.region ?_
    refine TrL.v (v_move rfl rfl) rfl rfl (bl rfl) ?_
    refine TrL.v (v_indexArr rfl ar78 ty5 rfl rfl (by decide) (by decide) rfl) rfl rfl (bl rfl) ?_
    refine TrL.v (v_load (k := 1) rfl rfl rfl ty5 (fun _ => rfl) rfl rfl) rfl rfl (bl rfl) ?_
    refine TrL.v (v_rem rfl rfl rfl (by decide)) rfl rfl (bl rfl) ?_
    refine TrL.v (v_arith rfl rfl rfl ar_add_u8) rfl rfl (bl rfl) ?_
    refine TrL.v (v_conv' rfl ⟨_, Try.underlying5⟩ Try.underlying25 rfl wrap_i64') rfl rfl (bl rfl) ?_
    obtain ⟨r44, hr44, H⟩ := bnd H
    refine TrL.cons rfl (op_callg' (fs := []) (vs := [.pointer (some ⟨m47, 0, none⟩), .int .i64 (wi64 (wu8 (1 + (p3.1.tmod 15))))]) (cap := []) (Mr := [cells b2 [.int .u8 p3.1, .int .u8 p3.2] 78]) [0] [1] [3] rfl rfl rfl en48 (c_codec_Reader_Fail (((((p1.take ((p1.length : Int)).toNat, (0 : Int))).1, r42))) (wi64 (wu8 (1 + (p3.1.tmod 15)))) m47 (((slA A1 0 ((p1.length : Int)).toNat 1))) (((((p1.length : Int)).toNat))) r44 hr44) (by decide) rfl rfl rfl (bl rfl) (fun ret M' F' hR46 => ?_))
    obtain ⟨rfl, rfl, rfl⟩ := hR46
    refine TrL.nil (qthen_n ?_)
    refine Tr.seq ?_
    refine Tr.region ?_
    refine TrL.v (v_move rfl rfl) rfl rfl (bl rfl) ?_
    refine TrL.v (v_indexArr rfl ar78 ty5 rfl rfl (by decide) (by decide) rfl) rfl rfl (bl rfl) ?_
    refine TrL.v (v_load (k := 1) rfl rfl rfl ty5 (fun _ => rfl) rfl rfl) rfl rfl (bl rfl) ?_
    refine TrL.v (v_rem rfl rfl rfl (by decide)) rfl rfl (bl rfl) ?_
    refine TrL.v (v_arith rfl rfl rfl ar_add_u8) rfl rfl (bl rfl) ?_
    refine TrL.v (v_conv' rfl ⟨_, Try.underlying5⟩ Try.underlying25 rfl wrap_i64') rfl rfl (bl rfl) ?_
    obtain ⟨r45, hr45, H⟩ := bnd H
    refine TrL.cons rfl (op_callg' (fs := []) (vs := [.pointer (some ⟨m47, 0, none⟩), .int .i64 (wi64 (wu8 (1 + (p3.2.tmod 15))))]) (cap := []) (Mr := [cells b2 [.int .u8 p3.1, .int .u8 p3.2] 78]) [0] [1] [4] rfl rfl rfl en48 (c_codec_Reader_Fail (((((((p1.take ((p1.length : Int)).toNat, (0 : Int))).1, r42))).1, r44)) (wi64 (wu8 (1 + (p3.2.tmod 15)))) m47 ((((slA A1 0 ((p1.length : Int)).toNat 1)))) ((((((p1.length : Int)).toNat)))) r45 hr45) (by decide) rfl rfl rfl (bl rfl) (fun ret M' F' hR47 => ?_))
    obtain ⟨rfl, rfl, rfl⟩ := hR47
    refine TrL.nil (qthen_n ?_)
    refine Tr.seq ?_
    refine Tr.region ?_
    refine TrL.cons rfl (op_buildSlice' (rp := (rInt .u8)) (xs := []) (vs := []) (out := []) rfl (bl rfl) rfl sl23 ty5 ze5 rfl rfl (by decide) (by decide) rfl (fun γ w hF => rown) (fun A4 => ?_))
    refine TrL.v (v_move rfl rfl) rfl rfl (bl rfl) ?_
    obtain ⟨r46, hr46, H⟩ := bnd H
    refine TrL.cons rfl (op_call0' (vs := [.slice A1 p1.length c1]) (cap := []) [0] rfl rfl (bl rfl) rfl rfl en29 (c_codec_Text p1 A1 c1 r46 hr46) rfl (fun ret M' F' hR48 => ?_))
    obtain ⟨m52, rfl, rfl, rfl⟩ := hR48
    refine TrL.full' (E := 5) (sz := 1) (A := A4) (n := 0) ?_
    obtain ⟨h23, H⟩ := rom H
    refine TrL.cons rfl (op_append' (rp := (rInt .u8)) (xs := ([] : List Int)) (ys := r46) (k := 0) (kx := 6) (ky := 7) rfl (bl rfl) rfl sl23 ty5 ze5 rfl by5 rfl rfl rfl rfl rfl rfl rfl h23.1 h23.2 (fun A5 c3 o2 => ?_))
    refine TrL.v (v_assign rfl rfl) rfl rfl (bl rfl) ?_
    refine TrL.nil (qthen_n ?_)
    refine Tr.seq ?_
    refine Tr.region ?_
    refine TrL.v (v_move rfl rfl) rfl rfl (bl rfl) ?_
    obtain ⟨r47, hr47, H⟩ := bnd H
    refine TrL.cons rfl (op_call0' (vs := [.slice A5 r46.length c3]) (cap := []) [8] rfl rfl (bl rfl) rfl rfl en31 (c_codec_New r46 A5 c3 r47 hr47) rfl (fun ret M' F' hR49 => ?_))
    obtain ⟨m53, rfl, rfl, rfl⟩ := hR49
    refine TrL.v (v_assign rfl rfl) rfl rfl (bl rfl) ?_
    refine TrL.nil (qthen_n ?_)
    refine Tr.seq ?_
    refine Tr.region ?_
    refine TrL.v (v_move rfl rfl) rfl rfl (bl rfl) ?_
    refine TrL.v (v_move rfl rfl) rfl rfl (bl rfl) ?_
    refine TrL.v (v_len rfl sl23 rfl) rfl rfl (bl rfl) ?_
    obtain ⟨r48, hr48, H⟩ := bnd H
    refine TrL.cons rfl (op_callg' (fs := []) (vs := [.pointer (some ⟨m53, 0, none⟩), .int .i64 ((p1.length : Int))]) (cap := []) (Mr := [grow 5 1 (.slice A5 r46.length c3) r46.length o2, cells m47 [.slice (((((slA A1 0 ((p1.length : Int)).toNat 1))))) (((((((((p1.take ((p1.length : Int)).toNat, (0 : Int))).1, r42))).1, r44)).1).length) (((((((p1.length : Int)).toNat))))), .int .i64 r45] 108, cells b2 [.int .u8 p3.1, .int .u8 p3.2] 78]) [0] [1, 2, 3] [9] rfl rfl rfl en35 (c_codec_Reader_Text ((r46.take ((r46.length : Int)).toNat, (0 : Int))) ((p1.length : Int)) m53 (slA A5 0 ((r46.length : Int)).toNat 1) (((r46.length : Int)).toNat) r48 hr48) (by decide) rfl rfl rfl (bl rfl) (fun ret M' F' hR50 => ?_))
    obtain ⟨m54, rfl, rfl, rfl⟩ := hR50
    refine TrL.v (v_assign rfl rfl) rfl rfl (bl rfl) ?_
    refine TrL.nil (qthen_n ?_)
    refine Tr.seq ?_
    refine Tr.seq ?_
    refine Tr.region ?_
    refine TrL.v (v_assign rfl rfl) rfl rfl (bl rfl) ?_
    refine TrL.nil (qthen_n ?_)
    obtain ⟨x2, hx3, H⟩ := bnd H
    refine Tr.cutE (D := Unit) (M := Unit) .normal (fun _d => x2 = _d) (fun x2 m58 => ⟨[(0, .slice A1 p1.length c1), (1, .int .i64 p2), (5, .pointer (some ⟨b2, 0, none⟩)), (7, .bool r39), (8, .pointer none), (9, .pointer (some ⟨m47, 0, none⟩)), (10, .int .i64 (((((p1.take ((p1.length : Int)).toNat, (0 : Int))).1, r42)).2)), (11, .slice A5 r46.length c3)], [cells b2 [.int .u8 p3.1, .int .u8 p3.2] 78, cells m47 [.slice (((((slA A1 0 ((p1.length : Int)).toNat 1))))) (((((((((p1.take ((p1.length : Int)).toNat, (0 : Int))).1, r42))).1, r44)).1).length) (((((((p1.length : Int)).toNat))))), .int .i64 r45] 108, grow 5 1 (.slice A5 r46.length c3) r46.length o2], [slF (rInt .u8) A1 c1 p1, slF (rInt .u8) A5 c3 r46, slF (rInt .u8) (((((slA A1 0 ((p1.length : Int)).toNat 1))))) (((((((p1.length : Int)).toNat))))) ((((((((p1.take ((p1.length : Int)).toNat, (0 : Int))).1, r42))).1, r44)).1)], []⟩) ?_ (fun x2 m58 hd2 => ?_)
    · refine Tr.block (Tr.loopI (ι := Unit) (step := law02_CodecNobody_s0 r48) (fun s5 m56 => ⟨[(0, .slice A1 p1.length c1), (1, .int .i64 p2), (5, .pointer (some ⟨b2, 0, none⟩)), (7, .bool r39), (8, .pointer none), (9, .pointer (some ⟨m47, 0, none⟩)), (10, .int .i64 (((((p1.take ((p1.length : Int)).toNat, (0 : Int))).1, r42)).2)), (11, .slice A5 r46.length c3), (13, .slice m54.1 r48.1.length m54.2.1), (14, .int .i64 s5.2)], [cells b2 [.int .u8 p3.1, .int .u8 p3.2] 78, cells m47 [.slice (((((slA A1 0 ((p1.length : Int)).toNat 1))))) (((((((((p1.take ((p1.length : Int)).toNat, (0 : Int))).1, r42))).1, r44)).1).length) (((((((p1.length : Int)).toNat))))), .int .i64 r45] 108, grow 5 1 (.slice A5 r46.length c3) r46.length o2, arr (rInt .u8) 5 m54.1 r48.1.length m54.2.1 s5.1], [slF (rInt .u8) A1 c1 p1, slF (rInt .u8) A5 c3 r46, slF (rInt .u8) (((((slA A1 0 ((p1.length : Int)).toNat 1))))) (((((((p1.length : Int)).toNat))))) ((((((((p1.take ((p1.length : Int)).toNat, (0 : Int))).1, r42))).1, r44)).1)], []⟩) (()) hx3 (Imp.re _ [4, 3, 2, 1] [0, 8, 5] (sc rfl (sc rfl (sc rfl (sc rfl (sc rfl (sc rfl (sc rfl (sc rfl (sc rfl (sc rfl sn)))))))))) (by decide) rfl rfl rfl) (fun s5 m56 y2 hy2 hx4 => ?_))
      unfold law02_CodecNobody_s0 at hy2
      refine Tr.seq ?_
      refine Tr.seq ?_
      refine Tr.region ?_
      refine TrL.v (v_move rfl rfl) rfl rfl (bl rfl) ?_
      refine TrL.v (v_move rfl rfl) rfl rfl (bl rfl) ?_
      refine TrL.v (v_len rfl sl23 rfl) rfl rfl (bl rfl) ?_
      refine TrL.v (v_arith rfl rfl rfl ar_lss) rfl rfl (bl rfl) ?_
      refine TrL.nil (qthen_n ?_)
      rcases ifc hy2 with ⟨h26, hy2⟩ | ⟨h26, hy2⟩
      · refine Tr.cond_t rfl (bt_dec h26) ?_
        refine Tr.skip (qthen_n ?_)
        refine Tr.seq ?_
        refine Tr.block ?_
        refine Tr.region ?_
        refine TrL.v (v_move rfl rfl) rfl rfl (bl rfl) ?_
        refine TrL.v (v_move rfl rfl) rfl rfl (bl rfl) ?_
        refine TrL.v (v_move rfl rfl) rfl rfl (bl rfl) ?_
        refine TrL.v (v_move rfl rfl) rfl rfl (bl rfl) ?_
        obtain ⟨z6, hz6, hy2⟩ := bnd hy2
        refine TrL.v (v_indexA (k := 3) rfl sl23 ty5 rfl rfl rfl hz6) rfl rfl (bl rfl) ?_
        refine TrL.v (v_loadA (A := m54.1) (i := s5.2) (j := 0) (k := 3) rfl ty5 (fun _ => rfl) rfl rfl hz6 rfl rfl) rfl rfl (bl rfl) ?_
        refine TrL.v (v_arith rfl rfl rfl ar_add_u8) rfl rfl (bl rfl) ?_
        refine TrL.v (v_indexA (k := 3) rfl sl23 ty5 rfl rfl rfl hz6) rfl rfl (bl rfl) ?_
        refine TrL.cons rfl (op_storeAS (A := m54.1) (i := s5.2) (j := 0) (k := 3) (z' := wu8 (z6 + 1)) rfl rfl rfl rfl rfl ty5 rfl hz6 (Nat.le_of_ble_eq_true rfl) (ones (oc rfl on)) rfl ?_)
        refine TrL.nil (qblock_n (qthen_n ?_))
        refine Tr.region ?_
        refine TrL.v (v_move rfl rfl) rfl rfl (bl rfl) ?_
        refine TrL.v (v_arith rfl rfl rfl ar_add_i64) rfl rfl (bl rfl) ?_
        refine TrL.v (v_assign rfl rfl) rfl rfl (bl rfl) ?_
        have hz := Option.some.inj hy2
        subst hz
        refine TrL.nil (qloop_n (()) (Imp.re _ [0, 1, 2, 3] [0, 1, 2] (sc rfl (sc rfl (sc rfl (sc rfl (sc rfl (sc rfl (sc rfl (sc rfl (sc rfl (sc rfl sn)))))))))) (by decide) rfl rfl rfl))
      · refine Tr.cond_f rfl (bf_dec h26) ?_
        have hz := Option.some.inj hy2
        subst hz
        refine Tr.exit (qthen_x (qloop_x (qblock_hit (qcut_hit (()) (()) (hx4 _ rfl).symm (Imp.re _ [0, 1, 2] [0, 1, 2] (sc rfl (sc rfl (sc rfl (sc rfl (sc rfl (sc rfl (sc rfl (sc rfl sn)))))))) (by decide) rfl rfl rfl)))))
    · subst hd2
      refine (qthen_n ?_)
      refine Tr.seq ?_
      refine Tr.regionD drawn (fun hok => ?_)
      refine TrAny.prom (i := 0) (d := 67) hok (OpVal.plain rfl rfl (v_move rfl rfl)) (by kernel_rfl) rfl (bl rfl) ?_
      clear hok
      intro hok
      refine TrAny.prom (i := 1) (d := 68) hok (OpVal.plain rfl rfl (v_bstr (k := 1) rfl Try.underlying23 Try.underlying5 Try.underlying9 rfl rfl rfl)) (by kernel_rfl) rfl (bl rfl) ?_
      clear hok
      intro hok
      refine TrAny.prom (i := 2) (d := 69) hok (OpVal.plain rfl rfl (v_move rfl rfl)) (by kernel_rfl) rfl (bl rfl) ?_
      clear hok
      intro hok
      refine TrAny.next (j := 3) (by kernel_rfl) hok rfl (by kernel_rfl) (op_call0' (vs := [.slice A1 p1.length c1]) (cap := []) [0] rfl rfl (bl rfl) rfl rfl en29 (c_codec_Text p1 A1 c1 r46 hr46) rfl (fun ret M' F' hR52 => ?_))
      obtain ⟨m60, rfl, rfl, rfl⟩ := hR52
      refine nxp hok (kp_imp (kp_c0 rfl)) rfl (by kernel_rfl) ?_
      clear hok
      intro hok
      refine TrAny.prom (i := 4) (d := 71) hok (OpVal.plain rfl rfl (v_bstr (k := 3) rfl Try.underlying23 Try.underlying5 Try.underlying9 rfl rfl rfl)) (by kernel_rfl) rfl (bl rfl) ?_
      clear hok
      intro hok
      refine TrAny.prom (i := 5) (d := 72) hok (OpVal.plain rfl rfl (v_streq rfl rfl rfl)) (by kernel_rfl) rfl (bl rfl) ?_
      clear hok
      intro hok
      refine TrAny.prom (i := 6) (d := 15) hok (OpVal.plain rfl rfl (v_assign rfl rfl)) (by kernel_rfl) rfl (bl rfl) ?_
      clear hok
      intro hok
      refine TrAny.done (by kernel_rfl) (by kernel_rfl) hok (by kernel_rfl) (qthen_n ?_)
      refine Tr.seq ?_
      refine Tr.regionD drawn (fun hok => ?_)
      refine TrAny.prom (i := 0) (d := 73) hok (OpVal.plain rfl rfl (v_move rfl rfl)) (by kernel_rfl) rfl (bl rfl) ?_
      clear hok
      intro hok
      refine TrAny.prom (i := 1) (d := 74) hok (OpVal.plain rfl rfl (v_move rfl rfl)) (by kernel_rfl) rfl (bl rfl) ?_
      clear hok
      intro hok
      rcases ifc H with ⟨h39, H⟩ | ⟨h39, H⟩
      · refine TrAny.prom (i := 2) (d := 75) hok (OpVal.yes rfl rfl rfl rfl h39 (v_move rfl rfl)) (by kernel_rfl) rfl (bl rfl) ?_
        clear hok
        intro hok
        refine TrAny.prom (i := 3) (d := 76) hok (OpVal.plain rfl rfl (v_pick_t rfl rfl h39 rfl)) (by kernel_rfl) rfl (bl rfl) ?_
        clear hok
        intro hok
        refine TrAny.prom (i := 4) (d := 77) hok (OpVal.plain rfl rfl (v_move rfl rfl)) (by kernel_rfl) rfl (bl rfl) ?_
        clear hok
        intro hok
        rcases ifc H with ⟨h40, H⟩ | ⟨h40, H⟩
        · refine TrAny.prom (i := 5) (d := 78) hok (OpVal.yes rfl rfl rfl rfl (bt_dec h40) (v_move rfl rfl)) (by kernel_rfl) rfl (bl rfl) ?_
          clear hok
          intro hok
          refine TrAny.prom (i := 6) (d := 79) hok (OpVal.yes rfl rfl rfl rfl (bt_dec h40) (v_arith rfl rfl rfl ar_eql)) (by kernel_rfl) rfl (bl rfl) ?_
          clear hok
          intro hok
          refine TrAny.prom (i := 7) (d := 80) hok (OpVal.plain rfl rfl (v_pick_t rfl rfl (bt_dec h40) rfl)) (by kernel_rfl) rfl (bl rfl) ?_
          clear hok
          intro hok
          refine TrAny.prom (i := 8) (d := 81) hok (OpVal.plain rfl rfl (v_move rfl rfl)) (by kernel_rfl) rfl (bl rfl) ?_
          clear hok
          intro hok
          rcases ifc H with ⟨h41, H⟩ | ⟨h41, H⟩
          · refine TrAny.prom (i := 9) (d := 82) hok (OpVal.yes rfl rfl rfl rfl (bt_dec h41) (v_move rfl rfl)) (by kernel_rfl) rfl (bl rfl) ?_
            clear hok
            intro hok
            refine TrAny.prom (i := 11) (d := 84) hok (OpVal.yes rfl rfl rfl rfl (bt_dec h41) (v_indexArr rfl ar78 ty5 rfl rfl (by decide) (by decide) rfl)) (by kernel_rfl) rfl (bl rfl) ?_
            clear hok
            intro hok
            refine TrAny.prom (i := 12) (d := 85) hok (OpVal.yes rfl rfl rfl rfl (bt_dec h41) (v_load (k := 0) rfl rfl rfl ty5 (fun _ => rfl) rfl rfl)) (by kernel_rfl) rfl (bl rfl) ?_
            clear hok
            intro hok
            refine TrAny.prom (i := 13) (d := 86) hok (OpVal.yes rfl rfl rfl rfl (bt_dec h41) (v_rem rfl rfl rfl (by decide))) (by kernel_rfl) rfl (bl rfl) ?_
            clear hok
            intro hok
            refine TrAny.prom (i := 14) (d := 87) hok (OpVal.yes rfl rfl rfl rfl (bt_dec h41) (v_arith rfl rfl rfl ar_add_u8)) (by kernel_rfl) rfl (bl rfl) ?_
            clear hok
            intro hok
            refine TrAny.prom (i := 15) (d := 88) hok (OpVal.yes rfl rfl rfl rfl (bt_dec h41) (v_conv' rfl ⟨_, Try.underlying5⟩ Try.underlying25 rfl wrap_i64')) (by kernel_rfl) rfl (bl rfl) ?_
            clear hok
            intro hok
            obtain ⟨r70, hr70, H⟩ := bnd H
            refine TrAny.nextY (j := 10) (by kernel_rfl) hok rfl (by kernel_rfl) rfl rfl rfl (bt_dec h41) (op_callg' (fs := []) (vs := [.pointer (some ⟨m47, 0, none⟩)]) (cap := []) (Mr := [cells b2 [.int .u8 p3.1, .int .u8 p3.2] 78, grow 5 1 (.slice A5 r46.length c3) r46.length o2]) [1] [0, 2] [2] rfl rfl rfl en33 (c_codec_Reader_Err (((((((((p1.take ((p1.length : Int)).toNat, (0 : Int))).1, r42))).1, r44)).1, r45)) m47 (((((slA A1 0 ((p1.length : Int)).toNat 1))))) (((((((p1.length : Int)).toNat))))) r70 hr70) (by decide) rfl rfl rfl (bl rfl) (fun ret M' F' hR74 => ?_))
            obtain ⟨rfl, rfl, rfl⟩ := hR74
            refine nxp hok (by first | exact (kp_imp (kp_cc [0, 1, 2] rfl (by decide) rfl)) | exact (kp_all (ac (.inr (OpVal.plain rfl rfl (v_move rfl rfl))) (ac (.inr (OpVal.plain rfl rfl (v_move rfl rfl))) (ac (.inr (OpVal.yes rfl rfl rfl rfl h39 (v_move rfl rfl))) (ac (.inr (OpVal.plain rfl rfl (v_pick_t rfl rfl h39 rfl))) (ac (.inr (OpVal.plain rfl rfl (v_move rfl rfl))) (ac (.inr (OpVal.yes rfl rfl rfl rfl (bt_dec h40) (v_move rfl rfl))) (ac (.inr (OpVal.yes rfl rfl rfl rfl (bt_dec h40) (v_arith rfl rfl rfl ar_eql))) (ac (.inr (OpVal.plain rfl rfl (v_pick_t rfl rfl (bt_dec h40) rfl))) (ac (.inl (by kernel_rfl)) (ac (.inl (by kernel_rfl)) (ac (.inr (OpVal.yes rfl rfl rfl rfl (bt_dec h41) (v_indexArr rfl ar78 ty5 rfl rfl (by decide) (by decide) rfl))) (ac (.inr (OpVal.yes rfl rfl rfl rfl (bt_dec h41) (v_load (k := 1) rfl rfl rfl ty5 (fun _ => rfl) rfl rfl))) (ac (.inr (OpVal.yes rfl rfl rfl rfl (bt_dec h41) (v_rem rfl rfl rfl (by decide)))) (ac (.inr (OpVal.yes rfl rfl rfl rfl (bt_dec h41) (v_arith rfl rfl rfl ar_add_u8))) (ac (.inr (OpVal.yes rfl rfl rfl rfl (bt_dec h41) (v_conv' rfl ⟨_, Try.underlying5⟩ Try.underlying25 rfl wrap_i64'))) an))))))))))))))))) rfl (by kernel_rfl) ?_
            clear hok
            intro hok
            refine TrAny.prom (i := 16) (d := 89) hok (OpVal.yes rfl rfl rfl rfl (bt_dec h41) (v_arith rfl rfl rfl ar_eql)) (by kernel_rfl) rfl (bl rfl) ?_
            clear hok
            intro hok
            refine TrAny.prom (i := 17) (d := 90) hok (OpVal.plain rfl rfl (v_pick_t rfl rfl (bt_dec h41) rfl)) (by kernel_rfl) rfl (bl rfl) ?_
            clear hok
            intro hok
            refine TrAny.prom (i := 18) (d := 91) hok (OpVal.plain rfl rfl (v_move rfl rfl)) (by kernel_rfl) rfl (bl rfl) ?_
            clear hok
            intro hok
            rcases ifc H with ⟨h42, H⟩ | ⟨h42, H⟩
            · refine TrAny.prom (i := 19) (d := 92) hok (OpVal.yes rfl rfl rfl rfl (bt_dec h42) (v_move rfl rfl)) (by kernel_rfl) rfl (bl rfl) ?_
              clear hok
              intro hok
              obtain ⟨r71, hr71, H⟩ := bnd H
              refine TrAny.nextY (j := 20) (by kernel_rfl) hok rfl (by kernel_rfl) rfl rfl rfl (bt_dec h42) (op_call0' (vs := [.pointer none, .int .u64 9]) (cap := []) [] rfl rfl (bl rfl) rfl rfl en32 (c_codec_Reader_Num_v1 ((9 : Int)) r71 hr71) rfl (fun ret M' F' hR75 => ?_))
              obtain ⟨rfl, rfl, rfl⟩ := hR75
              refine nxp hok (kp_imp (kp_c0 rfl)) rfl (by kernel_rfl) ?_
              clear hok
              intro hok
              refine TrAny.prom (i := 21) (d := 94) hok (OpVal.yes rfl rfl rfl rfl (bt_dec h42) (v_arith (v := .bool true) rfl rfl rfl rfl)) (by kernel_rfl) rfl (bl rfl) ?_
              clear hok
              intro hok
              refine TrAny.prom (i := 22) (d := 95) hok (OpVal.plain rfl rfl (v_pick_t rfl rfl (bt_dec h42) rfl)) (by kernel_rfl) rfl (bl rfl) ?_
              clear hok
              intro hok
              refine TrAny.prom (i := 23) (d := 96) hok (OpVal.plain rfl rfl (v_move rfl rfl)) (by kernel_rfl) rfl (bl rfl) ?_
              clear hok
              intro hok
              refine TrAny.prom (i := 24) (d := 97) hok (OpVal.yes rfl rfl rfl rfl rfl (v_move rfl rfl)) (by kernel_rfl) rfl (bl rfl) ?_
              clear hok
              intro hok
              obtain ⟨r72, hr72, H⟩ := bnd H
              refine TrAny.nextY (j := 25) (by kernel_rfl) hok rfl (by kernel_rfl) rfl rfl rfl rfl (op_call0' (vs := [.pointer none]) (cap := []) [] rfl rfl (bl rfl) rfl rfl en36 (c_codec_Reader_Fixed_v1 r72 hr72) rfl (fun ret M' F' hR76 => ?_))
              obtain ⟨rfl, rfl, rfl⟩ := hR76
              refine nxp hok (kp_imp (kp_c0 rfl)) rfl (by kernel_rfl) ?_
              clear hok
              intro hok
              refine TrAny.prom (i := 26) (d := 99) hok (OpVal.yes rfl rfl rfl rfl rfl (v_arith (v := .bool true) rfl rfl rfl rfl)) (by kernel_rfl) rfl (bl rfl) ?_
              clear hok
              intro hok
              refine TrAny.prom (i := 27) (d := 100) hok (OpVal.plain rfl rfl (v_pick_t rfl rfl rfl rfl)) (by kernel_rfl) rfl (bl rfl) ?_
              clear hok
              intro hok
              refine TrAny.prom (i := 28) (d := 101) hok (OpVal.plain rfl rfl (v_move rfl rfl)) (by kernel_rfl) rfl (bl rfl) ?_
              clear hok
              intro hok
              refine TrAny.prom (i := 29) (d := 102) hok (OpVal.yes rfl rfl rfl rfl rfl (v_move rfl rfl)) (by kernel_rfl) rfl (bl rfl) ?_
              clear hok
              intro hok
              refine TrAny.prom (i := 30) (d := 103) hok (OpVal.yes rfl rfl rfl rfl rfl (v_move rfl rfl)) (by kernel_rfl) rfl (bl rfl) ?_
              clear hok
              intro hok
              obtain ⟨r73, hr73, H⟩ := bnd H
              refine TrAny.nextY (j := 31) (by kernel_rfl) hok rfl (by kernel_rfl) rfl rfl rfl rfl (op_call0' (vs := [.pointer none, .int .i64 p2]) (cap := []) [] rfl rfl (bl rfl) rfl rfl en35 (c_codec_Reader_Text_v1 p2 r73 hr73) rfl (fun ret M' F' hR77 => ?_))
              obtain ⟨rfl, rfl, rfl⟩ := hR77
              refine nxp hok (kp_imp (kp_c0 rfl)) rfl (by kernel_rfl) ?_
              clear hok
              intro hok
              refine TrAny.prom (i := 32) (d := 105) hok (OpVal.yes rfl rfl rfl rfl rfl (v_len rfl sl23 rfl)) (by kernel_rfl) rfl (bl rfl) ?_
              clear hok
              intro hok
              refine TrAny.prom (i := 33) (d := 106) hok (OpVal.yes rfl rfl rfl rfl rfl (v_arith (v := .bool true) rfl rfl rfl rfl)) (by kernel_rfl) rfl (bl rfl) ?_
              clear hok
              intro hok
              refine TrAny.prom (i := 34) (d := 107) hok (OpVal.plain rfl rfl (v_pick_t rfl rfl rfl rfl)) (by kernel_rfl) rfl (bl rfl) ?_
              clear hok
              intro hok
              refine TrAny.prom (i := 35) (d := 108) hok (OpVal.plain rfl rfl (v_move rfl rfl)) (by kernel_rfl) rfl (bl rfl) ?_
              clear hok
              intro hok
              refine TrAny.prom (i := 36) (d := 109) hok (OpVal.yes rfl rfl rfl rfl rfl (v_move rfl rfl)) (by kernel_rfl) rfl (bl rfl) ?_
              clear hok
              intro hok
              obtain ⟨r74, hr74, H⟩ := bnd H
              refine TrAny.nextY (j := 37) (by kernel_rfl) hok rfl (by kernel_rfl) rfl rfl rfl rfl (op_call0' (vs := [.pointer none]) (cap := []) [] rfl rfl (bl rfl) rfl rfl en34 (c_codec_Reader_Left_v1 r74 hr74) rfl (fun ret M' F' hR78 => ?_))
              obtain ⟨rfl, rfl, rfl⟩ := hR78
              refine nxp hok (kp_imp (kp_c0 rfl)) rfl (by kernel_rfl) ?_
              clear hok
              intro hok
              refine TrAny.prom (i := 38) (d := 111) hok (OpVal.yes rfl rfl rfl rfl rfl (v_arith (v := .bool true) rfl rfl rfl rfl)) (by kernel_rfl) rfl (bl rfl) ?_
              clear hok
              intro hok
              refine TrAny.prom (i := 39) (d := 112) hok (OpVal.plain rfl rfl (v_pick_t rfl rfl rfl rfl)) (by kernel_rfl) rfl (bl rfl) ?_
              clear hok
              intro hok
              refine TrAny.prom (i := 40) (d := 113) hok (OpVal.plain rfl rfl (v_move rfl rfl)) (by kernel_rfl) rfl (bl rfl) ?_
              clear hok
              intro hok
              refine TrAny.prom (i := 41) (d := 114) hok (OpVal.yes rfl rfl rfl rfl rfl (v_move rfl rfl)) (by kernel_rfl) rfl (bl rfl) ?_
              clear hok
              intro hok
              obtain ⟨r75, hr75, H⟩ := bnd H
              refine TrAny.nextY (j := 42) (by kernel_rfl) hok rfl (by kernel_rfl) rfl rfl rfl rfl (op_call0' (vs := [.pointer none]) (cap := []) [] rfl rfl (bl rfl) rfl rfl en33 (c_codec_Reader_Err_v1 r75 hr75) rfl (fun ret M' F' hR79 => ?_))
              obtain ⟨rfl, rfl, rfl⟩ := hR79
              refine nxp hok (kp_imp (kp_c0 rfl)) rfl (by kernel_rfl) ?_
              clear hok
              intro hok
              refine TrAny.prom (i := 43) (d := 116) hok (OpVal.yes rfl rfl rfl rfl rfl (v_arith (v := .bool true) rfl rfl rfl rfl)) (by kernel_rfl) rfl (bl rfl) ?_
              clear hok
              intro hok
              refine TrAny.prom (i := 44) (d := 117) hok (OpVal.plain rfl rfl (v_pick_t rfl rfl rfl rfl)) (by kernel_rfl) rfl (bl rfl) ?_
              clear hok
              intro hok
              refine TrAny.prom (i := 45) (d := 118) hok (OpVal.plain rfl rfl (v_move rfl rfl)) (by kernel_rfl) rfl (bl rfl) ?_
              clear hok
              intro hok
              refine TrAny.prom (i := 46) (d := 119) hok (OpVal.yes rfl rfl rfl rfl rfl (v_move rfl rfl)) (by kernel_rfl) rfl (bl rfl) ?_
              clear hok
              intro hok
              obtain ⟨r76, hr76, H⟩ := bnd H
              refine TrAny.nextY (j := 47) (by kernel_rfl) hok rfl (by kernel_rfl) rfl rfl rfl rfl (op_call0' (vs := [.pointer none]) (cap := []) [] rfl rfl (bl rfl) rfl rfl en37 (c_codec_Reader_End_v1 r76 hr76) rfl (fun ret M' F' hR80 => ?_))
              obtain ⟨rfl, rfl, rfl⟩ := hR80
              refine nxp hok (kp_imp (kp_c0 rfl)) rfl (by kernel_rfl) ?_
              clear hok
              intro hok
              refine TrAny.prom (i := 48) (d := 121) hok (OpVal.yes rfl rfl rfl rfl rfl (v_arith (v := .bool true) rfl rfl rfl rfl)) (by kernel_rfl) rfl (bl rfl) ?_
              clear hok
              intro hok
              refine TrAny.prom (i := 49) (d := 122) hok (OpVal.plain rfl rfl (v_pick_t rfl rfl rfl rfl)) (by kernel_rfl) rfl (bl rfl) ?_
              clear hok
              intro hok
              refine TrAny.prom (i := 50) (d := 6) hok (OpVal.plain rfl rfl (v_assign rfl rfl)) (by kernel_rfl) rfl (bl rfl) ?_
              clear hok
              intro hok
              refine TrAny.done (by kernel_rfl) (by kernel_rfl) hok (by kernel_rfl) (qthen_n ?_)
              have hz := Option.some.inj H
              subst hz
              refine Tr.ret (ret_r ⟨[(6, .bool true)], [], [], []⟩ [.bool true] [] [] (Imp.re _ [] [] (sc rfl sn) (by decide) rfl rfl rfl) rfl rfl ⟨rfl, rfl, rfl⟩ (.cons (resv_tmp rfl) .nil))
            · refine TrAny.prom (i := 19) (d := 92) hok (OpVal.no rfl (fun c h => by cases h) rfl rfl rfl (gn_t (bf_dec h42))) (by kernel_rfl) rfl (bl rfl) ?_
              clear hok
              intro hok
              refine TrAny.prom (i := 20) (d := 93) hok (OpVal.no rfl (fun c h => by cases h) rfl rfl rfl (gn_t (bf_dec h42))) (by kernel_rfl) rfl (bl rfl) ?_
              clear hok
              intro hok
              refine TrAny.prom (i := 21) (d := 94) hok (OpVal.no rfl (fun c h => by cases h) rfl rfl rfl (gn_t (bf_dec h42))) (by kernel_rfl) rfl (bl rfl) ?_
              clear hok
              intro hok
              refine TrAny.prom (i := 22) (d := 95) hok (OpVal.plain rfl rfl (v_pick_f rfl rfl (bf_dec h42) rfl)) (by kernel_rfl) rfl (bl rfl) ?_
              clear hok
              intro hok
              refine TrAny.prom (i := 23) (d := 96) hok (OpVal.plain rfl rfl (v_move rfl rfl)) (by kernel_rfl) rfl (bl rfl) ?_
              clear hok
              intro hok
              refine TrAny.prom (i := 24) (d := 97) hok (OpVal.no rfl (fun c h => by cases h) rfl rfl rfl (gn_t rfl)) (by kernel_rfl) rfl (bl rfl) ?_
              clear hok
              intro hok
              refine TrAny.prom (i := 25) (d := 98) hok (OpVal.no rfl (fun c h => by cases h) rfl rfl rfl (gn_t rfl)) (by kernel_rfl) rfl (bl rfl) ?_
              clear hok
              intro hok
              refine TrAny.prom (i := 26) (d := 99) hok (OpVal.no rfl (fun c h => by cases h) rfl rfl rfl (gn_t rfl)) (by kernel_rfl) rfl (bl rfl) ?_
              clear hok
              intro hok
              refine TrAny.prom (i := 27) (d := 100) hok (OpVal.plain rfl rfl (v_pick_f rfl rfl rfl rfl)) (by kernel_rfl) rfl (bl rfl) ?_
              clear hok
              intro hok
              refine TrAny.prom (i := 28) (d := 101) hok (OpVal.plain rfl rfl (v_move rfl rfl)) (by kernel_rfl) rfl (bl rfl) ?_
              clear hok
              intro hok
              refine TrAny.prom (i := 29) (d := 102) hok (OpVal.no rfl (fun c h => by cases h) rfl rfl rfl (gn_t rfl)) (by kernel_rfl) rfl (bl rfl) ?_
              clear hok
              intro hok
              refine TrAny.prom (i := 30) (d := 103) hok (OpVal.no rfl (fun c h => by cases h) rfl rfl rfl (gn_t rfl)) (by kernel_rfl) rfl (bl rfl) ?_
              clear hok
              intro hok
              refine TrAny.prom (i := 31) (d := 104) hok (OpVal.no rfl (fun c h => by cases h) rfl rfl rfl (gn_t rfl)) (by kernel_rfl) rfl (bl rfl) ?_
              clear hok
              intro hok
              refine TrAny.prom (i := 32) (d := 105) hok (OpVal.no rfl (fun c h => by cases h) rfl rfl rfl (gn_t rfl)) (by kernel_rfl) rfl (bl rfl) ?_
              clear hok
              intro hok
              refine TrAny.prom (i := 33) (d := 106) hok (OpVal.no rfl (fun c h => by cases h) rfl rfl rfl (gn_t rfl)) (by kernel_rfl) rfl (bl rfl) ?_
              clear hok
              intro hok
              refine TrAny.prom (i := 34) (d := 107) hok (OpVal.plain rfl rfl (v_pick_f rfl rfl rfl rfl)) (by kernel_rfl) rfl (bl rfl) ?_
              clear hok
              intro hok
              refine TrAny.prom (i := 35) (d := 108) hok (OpVal.plain rfl rfl (v_move rfl rfl)) (by kernel_rfl) rfl (bl rfl) ?_
              clear hok
              intro hok
              refine TrAny.prom (i := 36) (d := 109) hok (OpVal.no rfl (fun c h => by cases h) rfl rfl rfl (gn_t rfl)) (by kernel_rfl) rfl (bl rfl) ?_
              clear hok
              intro hok
              refine TrAny.prom (i := 37) (d := 110) hok (OpVal.no rfl (fun c h => by cases h) rfl rfl rfl (gn_t rfl)) (by kernel_rfl) rfl (bl rfl) ?_
              clear hok
              intro hok
              refine TrAny.prom (i := 38) (d := 111) hok (OpVal.no rfl (fun c h => by cases h) rfl rfl rfl (gn_t rfl)) (by kernel_rfl) rfl (bl rfl) ?_
              clear hok
              intro hok
              refine TrAny.prom (i := 39) (d := 112) hok (OpVal.plain rfl rfl (v_pick_f rfl rfl rfl rfl)) (by kernel_rfl) rfl (bl rfl) ?_
              clear hok
              intro hok
              refine TrAny.prom (i := 40) (d := 113) hok (OpVal.plain rfl rfl (v_move rfl rfl)) (by kernel_rfl) rfl (bl rfl) ?_
              clear hok
              intro hok
              refine TrAny.prom (i := 41) (d := 114) hok (OpVal.no rfl (fun c h => by cases h) rfl rfl rfl (gn_t rfl)) (by kernel_rfl) rfl (bl rfl) ?_
              clear hok
              intro hok
              refine TrAny.prom (i := 42) (d := 115) hok (OpVal.no rfl (fun c h => by cases h) rfl rfl rfl (gn_t rfl)) (by kernel_rfl) rfl (bl rfl) ?_
              clear hok
              intro hok
              refine TrAny.prom (i := 43) (d := 116) hok (OpVal.no rfl (fun c h => by cases h) rfl rfl rfl (gn_t rfl)) (by kernel_rfl) rfl (bl rfl) ?_
              clear hok
              intro hok
              refine TrAny.prom (i := 44) (d := 117) hok (OpVal.plain rfl rfl (v_pick_f rfl rfl rfl rfl)) (by kernel_rfl) rfl (bl rfl) ?_
              clear hok
              intro hok
              refine TrAny.prom (i := 45) (d := 118) hok (OpVal.plain rfl rfl (v_move rfl rfl)) (by kernel_rfl) rfl (bl rfl) ?_
              clear hok
              intro hok
              refine TrAny.prom (i := 46) (d := 119) hok (OpVal.no rfl (fun c h => by cases h) rfl rfl rfl (gn_t rfl)) (by kernel_rfl) rfl (bl rfl) ?_
              clear hok
              intro hok
              refine TrAny.prom (i := 47) (d := 120) hok (OpVal.no rfl (fun c h => by cases h) rfl rfl rfl (gn_t rfl)) (by kernel_rfl) rfl (bl rfl) ?_
              clear hok
              intro hok
              refine TrAny.prom (i := 48) (d := 121) hok (OpVal.no rfl (fun c h => by cases h) rfl rfl rfl (gn_t rfl)) (by kernel_rfl) rfl (bl rfl) ?_
              clear hok
              intro hok
              refine TrAny.prom (i := 49) (d := 122) hok (OpVal.plain rfl rfl (v_pick_f rfl rfl rfl rfl)) (by kernel_rfl) rfl (bl rfl) ?_
              clear hok
              intro hok
              refine TrAny.prom (i := 50) (d := 6) hok (OpVal.plain rfl rfl (v_assign rfl rfl)) (by kernel_rfl) rfl (bl rfl) ?_
              clear hok
              intro hok
              refine TrAny.done (by kernel_rfl) (by kernel_rfl) hok (by kernel_rfl) (qthen_n ?_)
              have hz := Option.some.inj H
              subst hz
              refine Tr.ret (ret_r ⟨[(6, .bool false)], [], [], []⟩ [.bool false] [] [] (Imp.re _ [] [] (sc rfl sn) (by decide) rfl rfl rfl) rfl rfl ⟨rfl, rfl, rfl⟩ (.cons (resv_tmp rfl) .nil))
          · refine TrAny.prom (i := 9) (d := 82) hok (OpVal.no rfl (fun c h => by cases h) rfl rfl rfl (gn_t (bf_dec h41))) (by kernel_rfl) rfl (bl rfl) ?_
            clear hok
            intro hok
            refine TrAny.prom (i := 10) (d := 83) hok (OpVal.no rfl (fun c h => by cases h) rfl rfl rfl (gn_t (bf_dec h41))) (by kernel_rfl) rfl (bl rfl) ?_
            clear hok
            intro hok
            refine TrAny.prom (i := 11) (d := 84) hok (OpVal.no rfl (fun c h => by cases h) rfl rfl rfl (gn_t (bf_dec h41))) (by kernel_rfl) rfl (bl rfl) ?_
            clear hok
            intro hok
            refine TrAny.prom (i := 12) (d := 85) hok (OpVal.no rfl (fun c h => by cases h) rfl rfl rfl (gn_t (bf_dec h41))) (by kernel_rfl) rfl (bl rfl) ?_
            clear hok
            intro hok
            refine TrAny.prom (i := 13) (d := 86) hok (OpVal.no rfl (fun c h => by cases h) rfl rfl rfl (gn_t (bf_dec h41))) (by kernel_rfl) rfl (bl rfl) ?_
            clear hok
            intro hok
            refine TrAny.prom (i := 14) (d := 87) hok (OpVal.no rfl (fun c h => by cases h) rfl rfl rfl (gn_t (bf_dec h41))) (by kernel_rfl) rfl (bl rfl) ?_
            clear hok
            intro hok
            refine TrAny.prom (i := 15) (d := 88) hok (OpVal.no rfl (fun c h => by cases h) rfl rfl rfl (gn_t (bf_dec h41))) (by kernel_rfl) rfl (bl rfl) ?_
            clear hok
            intro hok
            refine TrAny.prom (i := 16) (d := 89) hok (OpVal.no rfl (fun c h => by cases h) rfl rfl rfl (gn_t (bf_dec h41))) (by kernel_rfl) rfl (bl rfl) ?_
            clear hok
            intro hok
            refine TrAny.prom (i := 17) (d := 90) hok (OpVal.plain rfl rfl (v_pick_f rfl rfl (bf_dec h41) rfl)) (by kernel_rfl) rfl (bl rfl) ?_
            clear hok
            intro hok
            refine TrAny.prom (i := 18) (d := 91) hok (OpVal.plain rfl rfl (v_move rfl rfl)) (by kernel_rfl) rfl (bl rfl) ?_
            clear hok
            intro hok
            refine TrAny.prom (i := 19) (d := 92) hok (OpVal.no rfl (fun c h => by cases h) rfl rfl rfl (gn_t rfl)) (by kernel_rfl) rfl (bl rfl) ?_
            clear hok
            intro hok
            refine TrAny.prom (i := 20) (d := 93) hok (OpVal.no rfl (fun c h => by cases h) rfl rfl rfl (gn_t rfl)) (by kernel_rfl) rfl (bl rfl) ?_
            clear hok
            intro hok
            refine TrAny.prom (i := 21) (d := 94) hok (OpVal.no rfl (fun c h => by cases h) rfl rfl rfl (gn_t rfl)) (by kernel_rfl) rfl (bl rfl) ?_
            clear hok
            intro hok
            refine TrAny.prom (i := 22) (d := 95) hok (OpVal.plain rfl rfl (v_pick_f rfl rfl rfl rfl)) (by kernel_rfl) rfl (bl rfl) ?_
            clear hok
            intro hok
            refine TrAny.prom (i := 23) (d := 96) hok (OpVal.plain rfl rfl (v_move rfl rfl)) (by kernel_rfl) rfl (bl rfl) ?_
            clear hok
            intro hok
            refine TrAny.prom (i := 24) (d := 97) hok (OpVal.no rfl (fun c h => by cases h) rfl rfl rfl (gn_t rfl)) (by kernel_rfl) rfl (bl rfl) ?_
            clear hok
            intro hok
            refine TrAny.prom (i := 25) (d := 98) hok (OpVal.no rfl (fun c h => by cases h) rfl rfl rfl (gn_t rfl)) (by kernel_rfl) rfl (bl rfl) ?_
            clear hok
            intro hok
            refine TrAny.prom (i := 26) (d := 99) hok (OpVal.no rfl (fun c h => by cases h) rfl rfl rfl (gn_t rfl)) (by kernel_rfl) rfl (bl rfl) ?_
            clear hok
            intro hok
            refine TrAny.prom (i := 27) (d := 100) hok (OpVal.plain rfl rfl (v_pick_f rfl rfl rfl rfl)) (by kernel_rfl) rfl (bl rfl) ?_
            clear hok
            intro hok
            refine TrAny.prom (i := 28) (d := 101) hok (OpVal.plain rfl rfl (v_move rfl rfl)) (by kernel_rfl) rfl (bl rfl) ?_
            clear hok
            intro hok
            refine TrAny.prom (i := 29) (d := 102) hok (OpVal.no rfl (fun c h => by cases h) rfl rfl rfl (gn_t rfl)) (by kernel_rfl) rfl (bl rfl) ?_
            clear hok
            intro hok
            refine TrAny.prom (i := 30) (d := 103) hok (OpVal.no rfl (fun c h => by cases h) rfl rfl rfl (gn_t rfl)) (by kernel_rfl) rfl (bl rfl) ?_
            clear hok
            intro hok
            refine TrAny.prom (i := 31) (d := 104) hok (OpVal.no rfl (fun c h => by cases h) rfl rfl rfl (gn_t rfl)) (by kernel_rfl) rfl (bl rfl) ?_
            clear hok
            intro hok
            refine TrAny.prom (i := 32) (d := 105) hok (OpVal.no rfl (fun c h => by cases h) rfl rfl rfl (gn_t rfl)) (by kernel_rfl) rfl (bl rfl) ?_
            clear hok
            intro hok
            refine TrAny.prom (i := 33) (d := 106) hok (OpVal.no rfl (fun c h => by cases h) rfl rfl rfl (gn_t rfl)) (by kernel_rfl) rfl (bl rfl) ?_
            clear hok
            intro hok
            refine TrAny.prom (i := 34) (d := 107) hok (OpVal.plain rfl rfl (v_pick_f rfl rfl rfl rfl)) (by kernel_rfl) rfl (bl rfl) ?_
            clear hok
            intro hok
            refine TrAny.prom (i := 35) (d := 108) hok (OpVal.plain rfl rfl (v_move rfl rfl)) (by kernel_rfl) rfl (bl rfl) ?_
            clear hok
            intro hok
            refine TrAny.prom (i := 36) (d := 109) hok (OpVal.no rfl (fun c h => by cases h) rfl rfl rfl (gn_t rfl)) (by kernel_rfl) rfl (bl rfl) ?_
            clear hok
            intro hok
            refine TrAny.prom (i := 37) (d := 110) hok (OpVal.no rfl (fun c h => by cases h) rfl rfl rfl (gn_t rfl)) (by kernel_rfl) rfl (bl rfl) ?_
            clear hok
            intro hok
            refine TrAny.prom (i := 38) (d := 111) hok (OpVal.no rfl (fun c h => by cases h) rfl rfl rfl (gn_t rfl)) (by kernel_rfl) rfl (bl rfl) ?_
            clear hok
            intro hok
            refine TrAny.prom (i := 39) (d := 112) hok (OpVal.plain rfl rfl (v_pick_f rfl rfl rfl rfl)) (by kernel_rfl) rfl (bl rfl) ?_
            clear hok
            intro hok
            refine TrAny.prom (i := 40) (d := 113) hok (OpVal.plain rfl rfl (v_move rfl rfl)) (by kernel_rfl) rfl (bl rfl) ?_
            clear hok
            intro hok
            refine TrAny.prom (i := 41) (d := 114) hok (OpVal.no rfl (fun c h => by cases h) rfl rfl rfl (gn_t rfl)) (by kernel_rfl) rfl (bl rfl) ?_
            clear hok
            intro hok
            refine TrAny.prom (i := 42) (d := 115) hok (OpVal.no rfl (fun c h => by cases h) rfl rfl rfl (gn_t rfl)) (by kernel_rfl) rfl (bl rfl) ?_
            clear hok
            intro hok
            refine TrAny.prom (i := 43) (d := 116) hok (OpVal.no rfl (fun c h => by cases h) rfl rfl rfl (gn_t rfl)) (by kernel_rfl) rfl (bl rfl) ?_
            clear hok
            intro hok
            refine TrAny.prom (i := 44) (d := 117) hok (OpVal.plain rfl rfl (v_pick_f rfl rfl rfl rfl)) (by kernel_rfl) rfl (bl rfl) ?_
            clear hok
            intro hok
            refine TrAny.prom (i := 45) (d := 118) hok (OpVal.plain rfl rfl (v_move rfl rfl)) (by kernel_rfl) rfl (bl rfl) ?_
            clear hok
            intro hok
            refine TrAny.prom (i := 46) (d := 119) hok (OpVal.no rfl (fun c h => by cases h) rfl rfl rfl (gn_t rfl)) (by kernel_rfl) rfl (bl rfl) ?_
            clear hok
            intro hok
            refine TrAny.prom (i := 47) (d := 120) hok (OpVal.no rfl (fun c h => by cases h) rfl rfl rfl (gn_t rfl)) (by kernel_rfl) rfl (bl rfl) ?_
            clear hok
            intro hok
            refine TrAny.prom (i := 48) (d := 121) hok (OpVal.no rfl (fun c h => by cases h) rfl rfl rfl (gn_t rfl)) (by kernel_rfl) rfl (bl rfl) ?_
            clear hok
            intro hok
            refine TrAny.prom (i := 49) (d := 122) hok (OpVal.plain rfl rfl (v_pick_f rfl rfl rfl rfl)) (by kernel_rfl) rfl (bl rfl) ?_
            clear hok
            intro hok
            refine TrAny.prom (i := 50) (d := 6) hok (OpVal.plain rfl rfl (v_assign rfl rfl)) (by kernel_rfl) rfl (bl rfl) ?_
            clear hok
            intro hok
            refine TrAny.done (by kernel_rfl) (by kernel_rfl) hok (by kernel_rfl) (qthen_n ?_)
            have hz := Option.some.inj H
            subst hz
            refine Tr.ret (ret_r ⟨[(6, .bool false)], [], [], []⟩ [.bool false] [] [] (Imp.re _ [] [] (sc rfl sn) (by decide) rfl rfl rfl) rfl rfl ⟨rfl, rfl, rfl⟩ (.cons (resv_tmp rfl) .nil))
        · refine TrAny.prom (i := 5) (d := 78) hok (OpVal.no rfl (fun c h => by cases h) rfl rfl rfl (gn_t (bf_dec h40))) (by kernel_rfl) rfl (bl rfl) ?_
          clear hok
          intro hok
          refine TrAny.prom (i := 6) (d := 79) hok (OpVal.no rfl (fun c h => by cases h) rfl rfl rfl (gn_t (bf_dec h40))) (by kernel_rfl) rfl (bl rfl) ?_
          clear hok
          intro hok
          refine TrAny.prom (i := 7) (d := 80) hok (OpVal.plain rfl rfl (v_pick_f rfl rfl (bf_dec h40) rfl)) (by kernel_rfl) rfl (bl rfl) ?_
          clear hok
          intro hok
          refine TrAny.prom (i := 8) (d := 81) hok (OpVal.plain rfl rfl (v_move rfl rfl)) (by kernel_rfl) rfl (bl rfl) ?_
          clear hok
          intro hok
          refine TrAny.prom (i := 9) (d := 82) hok (OpVal.no rfl (fun c h => by cases h) rfl rfl rfl (gn_t rfl)) (by kernel_rfl) rfl (bl rfl) ?_
          clear hok
          intro hok
          refine TrAny.prom (i := 10) (d := 83) hok (OpVal.no rfl (fun c h => by cases h) rfl rfl rfl (gn_t rfl)) (by kernel_rfl) rfl (bl rfl) ?_
          clear hok
          intro hok
          refine TrAny.prom (i := 11) (d := 84) hok (OpVal.no rfl (fun c h => by cases h) rfl rfl rfl (gn_t rfl)) (by kernel_rfl) rfl (bl rfl) ?_
          clear hok
          intro hok
          refine TrAny.prom (i := 12) (d := 85) hok (OpVal.no rfl (fun c h => by cases h) rfl rfl rfl (gn_t rfl)) (by kernel_rfl) rfl (bl rfl) ?_
          clear hok
          intro hok
          refine TrAny.prom (i := 13) (d := 86) hok (OpVal.no rfl (fun c h => by cases h) rfl rfl rfl (gn_t rfl)) (by kernel_rfl) rfl (bl rfl) ?_
          clear hok
          intro hok
          refine TrAny.prom (i := 14) (d := 87) hok (OpVal.no rfl (fun c h => by cases h) rfl rfl rfl (gn_t rfl)) (by kernel_rfl) rfl (bl rfl) ?_
          clear hok
          intro hok
          refine TrAny.prom (i := 15) (d := 88) hok (OpVal.no rfl (fun c h => by cases h) rfl rfl rfl (gn_t rfl)) (by kernel_rfl) rfl (bl rfl) ?_
          clear hok
          intro hok
          refine TrAny.prom (i := 16) (d := 89) hok (OpVal.no rfl (fun c h => by cases h) rfl rfl rfl (gn_t rfl)) (by kernel_rfl) rfl (bl rfl) ?_
          clear hok
          intro hok
          refine TrAny.prom (i := 17) (d := 90) hok (OpVal.plain rfl rfl (v_pick_f rfl rfl rfl rfl)) (by kernel_rfl) rfl (bl rfl) ?_
          clear hok
          intro hok
          refine TrAny.prom (i := 18) (d := 91) hok (OpVal.plain rfl rfl (v_move rfl rfl)) (by kernel_rfl) rfl (bl rfl) ?_
          clear hok
          intro hok
          refine TrAny.prom (i := 19) (d := 92) hok (OpVal.no rfl (fun c h => by cases h) rfl rfl rfl (gn_t rfl)) (by kernel_rfl) rfl (bl rfl) ?_
          clear hok
          intro hok
          refine TrAny.prom (i := 20) (d := 93) hok (OpVal.no rfl (fun c h => by cases h) rfl rfl rfl (gn_t rfl)) (by kernel_rfl) rfl (bl rfl) ?_
          clear hok
          intro hok
          refine TrAny.prom (i := 21) (d := 94) hok (OpVal.no rfl (fun c h => by cases h) rfl rfl rfl (gn_t rfl)) (by kernel_rfl) rfl (bl rfl) ?_
          clear hok
          intro hok
          refine TrAny.prom (i := 22) (d := 95) hok (OpVal.plain rfl rfl (v_pick_f rfl rfl rfl rfl)) (by kernel_rfl) rfl (bl rfl) ?_
          clear hok
          intro hok
          refine TrAny.prom (i := 23) (d := 96) hok (OpVal.plain rfl rfl (v_move rfl rfl)) (by kernel_rfl) rfl (bl rfl) ?_
          clear hok
          intro hok
          refine TrAny.prom (i := 24) (d := 97) hok (OpVal.no rfl (fun c h => by cases h) rfl rfl rfl (gn_t rfl)) (by kernel_rfl) rfl (bl rfl) ?_
          clear hok
          intro hok
          refine TrAny.prom (i := 25) (d := 98) hok (OpVal.no rfl (fun c h => by cases h) rfl rfl rfl (gn_t rfl)) (by kernel_rfl) rfl (bl rfl) ?_
          clear hok
          intro hok
          refine TrAny.prom (i := 26) (d := 99) hok (OpVal.no rfl (fun c h => by cases h) rfl rfl rfl (gn_t rfl)) (by kernel_rfl) rfl (bl rfl) ?_
          clear hok
          intro hok
          refine TrAny.prom (i := 27) (d := 100) hok (OpVal.plain rfl rfl (v_pick_f rfl rfl rfl rfl)) (by kernel_rfl) rfl (bl rfl) ?_
          clear hok
          intro hok
          refine TrAny.prom (i := 28) (d := 101) hok (OpVal.plain rfl rfl (v_move rfl rfl)) (by kernel_rfl) rfl (bl rfl) ?_
          clear hok
          intro hok
          refine TrAny.prom (i := 29) (d := 102) hok (OpVal.no rfl (fun c h => by cases h) rfl rfl rfl (gn_t rfl)) (by kernel_rfl) rfl (bl rfl) ?_
          clear hok
          intro hok
          refine TrAny.prom (i := 30) (d := 103) hok (OpVal.no rfl (fun c h => by cases h) rfl rfl rfl (gn_t rfl)) (by kernel_rfl) rfl (bl rfl) ?_
          clear hok
          intro hok
          refine TrAny.prom (i := 31) (d := 104) hok (OpVal.no rfl (fun c h => by cases h) rfl rfl rfl (gn_t rfl)) (by kernel_rfl) rfl (bl rfl) ?_
          clear hok
          intro hok
          refine TrAny.prom (i := 32) (d := 105) hok (OpVal.no rfl (fun c h => by cases h) rfl rfl rfl (gn_t rfl)) (by kernel_rfl) rfl (bl rfl) ?_
          clear hok
          intro hok
          refine TrAny.prom (i := 33) (d := 106) hok (OpVal.no rfl (fun c h => by cases h) rfl rfl rfl (gn_t rfl)) (by kernel_rfl) rfl (bl rfl) ?_
          clear hok
          intro hok
          refine TrAny.prom (i := 34) (d := 107) hok (OpVal.plain rfl rfl (v_pick_f rfl rfl rfl rfl)) (by kernel_rfl) rfl (bl rfl) ?_
          clear hok
          intro hok
          refine TrAny.prom (i := 35) (d := 108) hok (OpVal.plain rfl rfl (v_move rfl rfl)) (by kernel_rfl) rfl (bl rfl) ?_
          clear hok
          intro hok
          refine TrAny.prom (i := 36) (d := 109) hok (OpVal.no rfl (fun c h => by cases h) rfl rfl rfl (gn_t rfl)) (by kernel_rfl) rfl (bl rfl) ?_
          clear hok
          intro hok
          refine TrAny.prom (i := 37) (d := 110) hok (OpVal.no rfl (fun c h => by cases h) rfl rfl rfl (gn_t rfl)) (by kernel_rfl) rfl (bl rfl) ?_
          clear hok
          intro hok
          refine TrAny.prom (i := 38) (d := 111) hok (OpVal.no rfl (fun c h => by cases h) rfl rfl rfl (gn_t rfl)) (by kernel_rfl) rfl (bl rfl) ?_
          clear hok
          intro hok
          refine TrAny.prom (i := 39) (d := 112) hok (OpVal.plain rfl rfl (v_pick_f rfl rfl rfl rfl)) (by kernel_rfl) rfl (bl rfl) ?_
          clear hok
          intro hok
          refine TrAny.prom (i := 40) (d := 113) hok (OpVal.plain rfl rfl (v_move rfl rfl)) (by kernel_rfl) rfl (bl rfl) ?_
          clear hok
          intro hok
          refine TrAny.prom (i := 41) (d := 114) hok (OpVal.no rfl (fun c h => by cases h) rfl rfl rfl (gn_t rfl)) (by kernel_rfl) rfl (bl rfl) ?_
          clear hok
          intro hok
          refine TrAny.prom (i := 42) (d := 115) hok (OpVal.no rfl (fun c h => by cases h) rfl rfl rfl (gn_t rfl)) (by kernel_rfl) rfl (bl rfl) ?_
          clear hok
          intro hok
          refine TrAny.prom (i := 43) (d := 116) hok (OpVal.no rfl (fun c h => by cases h) rfl rfl rfl (gn_t rfl)) (by kernel_rfl) rfl (bl rfl) ?_
          clear hok
          intro hok
          refine TrAny.prom (i := 44) (d := 117) hok (OpVal.plain rfl rfl (v_pick_f rfl rfl rfl rfl)) (by kernel_rfl) rfl (bl rfl) ?_
          clear hok
          intro hok
          refine TrAny.prom (i := 45) (d := 118) hok (OpVal.plain rfl rfl (v_move rfl rfl)) (by kernel_rfl) rfl (bl rfl) ?_
          clear hok
          intro hok
          refine TrAny.prom (i := 46) (d := 119) hok (OpVal.no rfl (fun c h => by cases h) rfl rfl rfl (gn_t rfl)) (by kernel_rfl) rfl (bl rfl) ?_
          clear hok
          intro hok
          refine TrAny.prom (i := 47) (d := 120) hok (OpVal.no rfl (fun c h => by cases h) rfl rfl rfl (gn_t rfl)) (by kernel_rfl) rfl (bl rfl) ?_
          clear hok
          intro hok
          refine TrAny.prom (i := 48) (d := 121) hok (OpVal.no rfl (fun c h => by cases h) rfl rfl rfl (gn_t rfl)) (by kernel_rfl) rfl (bl rfl) ?_
          clear hok
          intro hok
          refine TrAny.prom (i := 49) (d := 122) hok (OpVal.plain rfl rfl (v_pick_f rfl rfl rfl rfl)) (by kernel_rfl) rfl (bl rfl) ?_
          clear hok
          intro hok
          refine TrAny.prom (i := 50) (d := 6) hok (OpVal.plain rfl rfl (v_assign rfl rfl)) (by kernel_rfl) rfl (bl rfl) ?_
          clear hok
          intro hok
          refine TrAny.done (by kernel_rfl) (by kernel_rfl) hok (by kernel_rfl) (qthen_n ?_)
          have hz := Option.some.inj H
          subst hz
          refine Tr.ret (ret_r ⟨[(6, .bool false)], [], [], []⟩ [.bool false] [] [] (Imp.re _ [] [] (sc rfl sn) (by decide) rfl rfl rfl) rfl rfl ⟨rfl, rfl, rfl⟩ (.cons (resv_tmp rfl) .nil))
      · refine TrAny.prom (i := 2) (d := 75) hok (OpVal.no rfl (fun c h => by cases h) rfl rfl rfl (gn_t (bf_b h39))) (by kernel_rfl) rfl (bl rfl) ?_
        clear hok
        intro hok
        refine TrAny.prom (i := 3) (d := 76) hok (OpVal.plain rfl rfl (v_pick_f rfl rfl (bf_b h39) rfl)) (by kernel_rfl) rfl (bl rfl) ?_
        clear hok
        intro hok
        refine TrAny.prom (i := 4) (d := 77) hok (OpVal.plain rfl rfl (v_move rfl rfl)) (by kernel_rfl) rfl (bl rfl) ?_
        clear hok
        intro hok
        refine TrAny.prom (i := 5) (d := 78) hok (OpVal.no rfl (fun c h => by cases h) rfl rfl rfl (gn_t rfl)) (by kernel_rfl) rfl (bl rfl) ?_
        clear hok
        intro hok
        refine TrAny.prom (i := 6) (d := 79) hok (OpVal.no rfl (fun c h => by cases h) rfl rfl rfl (gn_t rfl)) (by kernel_rfl) rfl (bl rfl) ?_
        clear hok
        intro hok
        refine TrAny.prom (i := 7) (d := 80) hok (OpVal.plain rfl rfl (v_pick_f rfl rfl rfl rfl)) (by kernel_rfl) rfl (bl rfl) ?_
        clear hok
        intro hok
        refine TrAny.prom (i := 8) (d := 81) hok (OpVal.plain rfl rfl (v_move rfl rfl)) (by kernel_rfl) rfl (bl rfl) ?_
        clear hok
        intro hok
        refine TrAny.prom (i := 9) (d := 82) hok (OpVal.no rfl (fun c h => by cases h) rfl rfl rfl (gn_t rfl)) (by kernel_rfl) rfl (bl rfl) ?_
        clear hok
        intro hok
        refine TrAny.prom (i := 10) (d := 83) hok (OpVal.no rfl (fun c h => by cases h) rfl rfl rfl (gn_t rfl)) (by kernel_rfl) rfl (bl rfl) ?_
        clear hok
        intro hok
        refine TrAny.prom (i := 11) (d := 84) hok (OpVal.no rfl (fun c h => by cases h) rfl rfl rfl (gn_t rfl)) (by kernel_rfl) rfl (bl rfl) ?_
        clear hok
        intro hok
        refine TrAny.prom (i := 12) (d := 85) hok (OpVal.no rfl (fun c h => by cases h) rfl rfl rfl (gn_t rfl)) (by kernel_rfl) rfl (bl rfl) ?_
        clear hok
        intro hok
        refine TrAny.prom (i := 13) (d := 86) hok (OpVal.no rfl (fun c h => by cases h) rfl rfl rfl (gn_t rfl)) (by kernel_rfl) rfl (bl rfl) ?_
        clear hok
        intro hok
        refine TrAny.prom (i := 14) (d := 87) hok (OpVal.no rfl (fun c h => by cases h) rfl rfl rfl (gn_t rfl)) (by kernel_rfl) rfl (bl rfl) ?_
        clear hok
        intro hok
        refine TrAny.prom (i := 15) (d := 88) hok (OpVal.no rfl (fun c h => by cases h) rfl rfl rfl (gn_t rfl)) (by kernel_rfl) rfl (bl rfl) ?_
        clear hok
        intro hok
        refine TrAny.prom (i := 16) (d := 89) hok (OpVal.no rfl (fun c h => by cases h) rfl rfl rfl (gn_t rfl)) (by kernel_rfl) rfl (bl rfl) ?_
        clear hok
        intro hok
        refine TrAny.prom (i := 17) (d := 90) hok (OpVal.plain rfl rfl (v_pick_f rfl rfl rfl rfl)) (by kernel_rfl) rfl (bl rfl) ?_
        clear hok
        intro hok
        refine TrAny.prom (i := 18) (d := 91) hok (OpVal.plain rfl rfl (v_move rfl rfl)) (by kernel_rfl) rfl (bl rfl) ?_
        clear hok
        intro hok
        refine TrAny.prom (i := 19) (d := 92) hok (OpVal.no rfl (fun c h => by cases h) rfl rfl rfl (gn_t rfl)) (by kernel_rfl) rfl (bl rfl) ?_
        clear hok
        intro hok
        refine TrAny.prom (i := 20) (d := 93) hok (OpVal.no rfl (fun c h => by cases h) rfl rfl rfl (gn_t rfl)) (by kernel_rfl) rfl (bl rfl) ?_
        clear hok
        intro hok
        refine TrAny.prom (i := 21) (d := 94) hok (OpVal.no rfl (fun c h => by cases h) rfl rfl rfl (gn_t rfl)) (by kernel_rfl) rfl (bl rfl) ?_
        clear hok
        intro hok
        refine TrAny.prom (i := 22) (d := 95) hok (OpVal.plain rfl rfl (v_pick_f rfl rfl rfl rfl)) (by kernel_rfl) rfl (bl rfl) ?_
        clear hok
        intro hok
        refine TrAny.prom (i := 23) (d := 96) hok (OpVal.plain rfl rfl (v_move rfl rfl)) (by kernel_rfl) rfl (bl rfl) ?_
        clear hok
        intro hok
        refine TrAny.prom (i := 24) (d := 97) hok (OpVal.no rfl (fun c h => by cases h) rfl rfl rfl (gn_t rfl)) (by kernel_rfl) rfl (bl rfl) ?_
        clear hok
        intro hok
        refine TrAny.prom (i := 25) (d := 98) hok (OpVal.no rfl (fun c h => by cases h) rfl rfl rfl (gn_t rfl)) (by kernel_rfl) rfl (bl rfl) ?_
        clear hok
        intro hok
        refine TrAny.prom (i := 26) (d := 99) hok (OpVal.no rfl (fun c h => by cases h) rfl rfl rfl (gn_t rfl)) (by kernel_rfl) rfl (bl rfl) ?_
        clear hok
        intro hok
        refine TrAny.prom (i := 27) (d := 100) hok (OpVal.plain rfl rfl (v_pick_f rfl rfl rfl rfl)) (by kernel_rfl) rfl (bl rfl) ?_
        clear hok
        intro hok
        refine TrAny.prom (i := 28) (d := 101) hok (OpVal.plain rfl rfl (v_move rfl rfl)) (by kernel_rfl) rfl (bl rfl) ?_
        clear hok
        intro hok
        refine TrAny.prom (i := 29) (d := 102) hok (OpVal.no rfl (fun c h => by cases h) rfl rfl rfl (gn_t rfl)) (by kernel_rfl) rfl (bl rfl) ?_
        clear hok
        intro hok
        refine TrAny.prom (i := 30) (d := 103) hok (OpVal.no rfl (fun c h => by cases h) rfl rfl rfl (gn_t rfl)) (by kernel_rfl) rfl (bl rfl) ?_
        clear hok
        intro hok
        refine TrAny.prom (i := 31) (d := 104) hok (OpVal.no rfl (fun c h => by cases h) rfl rfl rfl (gn_t rfl)) (by kernel_rfl) rfl (bl rfl) ?_
        clear hok
        intro hok
        refine TrAny.prom (i := 32) (d := 105) hok (OpVal.no rfl (fun c h => by cases h) rfl rfl rfl (gn_t rfl)) (by kernel_rfl) rfl (bl rfl) ?_
        clear hok
        intro hok
        refine TrAny.prom (i := 33) (d := 106) hok (OpVal.no rfl (fun c h => by cases h) rfl rfl rfl (gn_t rfl)) (by kernel_rfl) rfl (bl rfl) ?_
        clear hok
        intro hok
        refine TrAny.prom (i := 34) (d := 107) hok (OpVal.plain rfl rfl (v_pick_f rfl rfl rfl rfl)) (by kernel_rfl) rfl (bl rfl) ?_
        clear hok
        intro hok
        refine TrAny.prom (i := 35) (d := 108) hok (OpVal.plain rfl rfl (v_move rfl rfl)) (by kernel_rfl) rfl (bl rfl) ?_
        clear hok
        intro hok
        refine TrAny.prom (i := 36) (d := 109) hok (OpVal.no rfl (fun c h => by cases h) rfl rfl rfl (gn_t rfl)) (by kernel_rfl) rfl (bl rfl) ?_
        clear hok
        intro hok
        refine TrAny.prom (i := 37) (d := 110) hok (OpVal.no rfl (fun c h => by cases h) rfl rfl rfl (gn_t rfl)) (by kernel_rfl) rfl (bl rfl) ?_
        clear hok
        intro hok
        refine TrAny.prom (i := 38) (d := 111) hok (OpVal.no rfl (fun c h => by cases h) rfl rfl rfl (gn_t rfl)) (by kernel_rfl) rfl (bl rfl) ?_
        clear hok
        intro hok
        refine TrAny.prom (i := 39) (d := 112) hok (OpVal.plain rfl rfl (v_pick_f rfl rfl rfl rfl)) (by kernel_rfl) rfl (bl rfl) ?_
        clear hok
        intro hok
        refine TrAny.prom (i := 40) (d := 113) hok (OpVal.plain rfl rfl (v_move rfl rfl)) (by kernel_rfl) rfl (bl rfl) ?_
        clear hok
        intro hok
        refine TrAny.prom (i := 41) (d := 114) hok (OpVal.no rfl (fun c h => by cases h) rfl rfl rfl (gn_t rfl)) (by kernel_rfl) rfl (bl rfl) ?_
        clear hok
        intro hok
        refine TrAny.prom (i := 42) (d := 115) hok (OpVal.no rfl (fun c h => by cases h) rfl rfl rfl (gn_t rfl)) (by kernel_rfl) rfl (bl rfl) ?_
        clear hok
        intro hok
        refine TrAny.prom (i := 43) (d := 116) hok (OpVal.no rfl (fun c h => by cases h) rfl rfl rfl (gn_t rfl)) (by kernel_rfl) rfl (bl rfl) ?_
        clear hok
        intro hok
        refine TrAny.prom (i := 44) (d := 117) hok (OpVal.plain rfl rfl (v_pick_f rfl rfl rfl rfl)) (by kernel_rfl) rfl (bl rfl) ?_
        clear hok
        intro hok
        refine TrAny.prom (i := 45) (d := 118) hok (OpVal.plain rfl rfl (v_move rfl rfl)) (by kernel_rfl) rfl (bl rfl) ?_
        clear hok
        intro hok
        refine TrAny.prom (i := 46) (d := 119) hok (OpVal.no rfl (fun c h => by cases h) rfl rfl rfl (gn_t rfl)) (by kernel_rfl) rfl (bl rfl) ?_
        clear hok
        intro hok
        refine TrAny.prom (i := 47) (d := 120) hok (OpVal.no rfl (fun c h => by cases h) rfl rfl rfl (gn_t rfl)) (by kernel_rfl) rfl (bl rfl) ?_
        clear hok
        intro hok
        refine TrAny.prom (i := 48) (d := 121) hok (OpVal.no rfl (fun c h => by cases h) rfl rfl rfl (gn_t rfl)) (by kernel_rfl) rfl (bl rfl) ?_
        clear hok
        intro hok
        refine TrAny.prom (i := 49) (d := 122) hok (OpVal.plain rfl rfl (v_pick_f rfl rfl rfl rfl)) (by kernel_rfl) rfl (bl rfl) ?_
        clear hok
        intro hok
        refine TrAny.prom (i := 50) (d := 6) hok (OpVal.plain rfl rfl (v_assign rfl rfl)) (by kernel_rfl) rfl (bl rfl) ?_
        clear hok
        intro hok
        refine TrAny.done (by kernel_rfl) (by kernel_rfl) hok (by kernel_rfl) (qthen_n ?_)
        have hz := Option.some.inj H
        subst hz
        refine Tr.ret (ret_r ⟨[(6, .bool false)], [], [], []⟩ [.bool false] [] [] (Imp.re _ [] [] (sc rfl sn) (by decide) rfl rfl rfl) rfl rfl ⟨rfl, rfl, rfl⟩ (.cons (resv_tmp rfl) .nil))
end Go.Proofs.Ythgeodagikmpjaa.W
