/- The contracts of the walked functions: the printed walks. -/
import Derived.Test.YthgeodagikmpjaaKb
import Derived.Test.YthgeodagikmpjaaQb
import Derived.Test.YthgeodagikmpjaaWcodecab
import Derived.Test.YthgeodagikmpjaaWlaw02ab
import Derived.Test.YthgeodagikmpjaaWref02ab
namespace Go.Proofs.Ythgeodagikmpjaa.W
open Go Go.Proofs Go.Proofs.Ythgeodagikmpjaa.L Go.Proofs.Ythgeodagikmpjaa.Pu
set_option linter.unusedVariables false
set_option maxHeartbeats 4000000

theorem c_law02_CodecReads (p1 : List Int) (p2 : List (Int × Int)) (A1 : Option Addr) (c1 : Nat) (A2 : Option Addr) (c2 : Nat) (r : Bool) (H : law02_CodecReads p1 p2 = some r) :
    Ctr Try.prog 13 [.slice A1 p1.length c1, .slice A2 p2.length c2] [] [slF (rInt .u8) A1 c1 p1, slF rp_u8_i64 A2 c2 p2] (fun ret M' F' => ret = .bool r ∧ M' = [] ∧ F' = []) := by
  unfold law02_CodecReads at H
  refine ctr_ofI (N := 149) Try.func13 rfl Try.ntmps13 rfl (Nat.le_of_ble_eq_true rfl) (fun γ0 w0 => ?_)
  refine Tr.seq ?_
  refine Tr.region ?_
  refine TrL.v (v_assign rfl rfl) rfl rfl (bl rfl) ?_
  refine TrL.nil (qthen_n ?_)
  refine Tr.seq ?_
  refine Tr.region ?_
  obtain ⟨r121, hr121, H⟩ := bnd H
  refine TrL.cons rfl (op_call0' (vs := []) (cap := []) [] rfl rfl (bl rfl) rfl rfl en24 (c_law02_awake r121 hr121) rfl (fun ret M' F' hR193 => ?_))
  obtain ⟨rfl, rfl, rfl⟩ := hR193
  refine TrL.v (v_assign rfl rfl) rfl rfl (bl rfl) ?_
  refine TrL.nil (qthen_n ?_)
  refine Tr.seq ?_
  refine Tr.seq ?_
  refine Tr.region ?_
  refine TrL.v (v_move rfl rfl) rfl rfl (bl rfl) ?_
  refine TrL.v (v_len rfl sl23 rfl) rfl rfl (bl rfl) ?_
  refine TrL.v (v_arith rfl rfl rfl ar_gtr) rfl rfl (bl rfl) ?_
  refine TrL.v (v_move rfl rfl) rfl rfl (bl rfl) ?_
  rcases ifc H with ⟨h100, H⟩ | ⟨h100, H⟩
  · refine TrL.cons_no rfl rfl rfl (gn_f (bt_dec h100)) rfl (bl rfl) ?_
    refine TrL.cons_no rfl rfl rfl (gn_f (bt_dec h100)) rfl (bl rfl) ?_
    refine TrL.cons_no rfl rfl rfl (gn_f (bt_dec h100)) rfl (bl rfl) ?_
    refine TrL.v (v_pick_t rfl rfl (bt_dec h100) rfl) rfl rfl (bl rfl) ?_
    refine TrL.nil (qthen_n ?_)
    refine Tr.cond_t rfl rfl ?_
    refine Tr.seq ?_
    refine Tr.region ?_
    refine TrL.v (v_move rfl rfl) rfl rfl (bl rfl) ?_
    refine TrL.v (v_assign rfl rfl) rfl rfl (bl rfl) ?_
    refine TrL.nil (qthen_n ?_)
    have hz := Option.some.inj H
    subst hz
    refine Tr.ret (qthen_r (ret_r ⟨[(4, .bool r121)], [], [], []⟩ [.bool r121] [] [] (Imp.re _ [] [] (sc rfl sn) (by decide) rfl rfl rfl) rfl rfl ⟨rfl, rfl, rfl⟩ (.cons (resv_tmp rfl) .nil)))
  · refine TrL.cons_yes rfl rfl rfl (bf_dec h100) (OpTr.v (v_move rfl rfl) rfl (bl rfl) ?_)
    refine TrL.cons_yes rfl rfl rfl (bf_dec h100) (OpTr.v (v_len rfl sl65 rfl) rfl (bl rfl) ?_)
    refine TrL.cons_yes rfl rfl rfl (bf_dec h100) (OpTr.v (v_arith rfl rfl rfl ar_gtr) rfl (bl rfl) ?_)
    refine TrL.v (v_pick_f rfl rfl (bf_dec h100) rfl) rfl rfl (bl rfl) ?_
    refine TrL.nil (qthen_n ?_)
    rcases ifc H with ⟨h101, H⟩ | ⟨h101, H⟩
    · refine Tr.cond_t rfl (bt_dec h101) ?_
      refine Tr.seq ?_
      refine Tr.region ?_
      refine TrL.v (v_move rfl rfl) rfl rfl (bl rfl) ?_
      refine TrL.v (v_assign rfl rfl) rfl rfl (bl rfl) ?_
      refine TrL.nil (qthen_n ?_)
      have hz := Option.some.inj H
      subst hz
      refine Tr.ret (qthen_r (ret_r ⟨[(4, .bool r121)], [], [], []⟩ [.bool r121] [] [] (Imp.re _ [] [] (sc rfl sn) (by decide) rfl rfl rfl) rfl rfl ⟨rfl, rfl, rfl⟩ (.cons (resv_tmp rfl) .nil)))
    · refine Tr.cond_f rfl (bf_dec h101) ?_
      refine Tr.skip (qthen_n ?_)
      refine Tr.seq ?_
      refine Tr.region ?_
      refine TrL.v (v_move rfl rfl) rfl rfl (bl rfl) ?_
      obtain ⟨r122, hr122, H⟩ := bnd H
      refine TrL.cons rfl (op_call0' (vs := [.slice A1 p1.length c1]) (cap := []) [0] rfl rfl (bl rfl) rfl rfl en31 (c_codec_New p1 A1 c1 r122 hr122) rfl (fun ret M' F' hR194 => ?_))
      obtain ⟨m228, rfl, rfl, rfl⟩ := hR194
      refine TrL.v (v_assign rfl rfl) rfl rfl (bl rfl) ?_
      refine TrL.nil (qthen_n ?_)
      refine Tr.seq ?_
      refine Tr.region ?_
      refine TrL.v (v_move rfl rfl) rfl rfl (bl rfl) ?_
      refine TrL.v (v_build (vs := [.slice A1 p1.length c1]) (out := [.slice A1 p1.length c1, .int .i64 0]) rfl pl67 ze67 rfl rfl) rfl rfl (bl rfl) ?_
      refine TrL.cons rfl (op_alloc' rfl (bl rfl) rfl ze67 (fun b101 => ?_))
      refine TrL.cons rfl (op_store' (k := 0) (c' := [.slice A1 p1.length c1, .int .i64 0]) rfl rfl rfl rfl rfl ty67 rfl (Nat.le_of_ble_eq_true rfl) (ones (oc rfl (oc rfl on))) rfl ?_)
      refine TrL.nil (qthen_n ?_)
      refine Tr.seq ?_
      refine Tr.seq ?_
      refine Tr.region ?_
      refine TrL.v (v_assign rfl rfl) rfl rfl (bl rfl) ?_
      refine TrL.nil (qthen_n ?_)
      obtain ⟨x2, hx3, H⟩ := bnd H
      refine Tr.cutE (D := Unit) (M := Unit) .ret (fun d3 => x2 = .inl d3) (fun d3 m375 => ⟨[(4, .bool false)], [], [], []⟩) ?_ (fun d3 m375 hd25 => ?_)
      · refine Tr.cutE (D := List Int × Int × List Int × Int) (M := Option Addr × Nat × Option Addr × Nat) .normal (fun d4 => x2 = .inr d4) (fun d4 m376 => ⟨[(5, .bool r121), (6, .pointer (some ⟨m228, 0, none⟩)), (7, .pointer (some ⟨b101, 0, none⟩))], [cells m228 [.slice m376.1 d4.1.length m376.2.1, .int .i64 d4.2.1] 108, cells b101 [.slice m376.2.2.1 d4.2.2.1.length m376.2.2.2, .int .i64 d4.2.2.2] 67], [slF (rInt .u8) m376.1 m376.2.1 d4.1, slF (rInt .u8) m376.2.2.1 m376.2.2.2 d4.2.2.1], []⟩) ?_ (fun d4 m376 hd26 => ?_)
        · refine Tr.block (Tr.loopI (ι := Option Addr × Nat × Option Addr × Nat) (step := law02_CodecReads_s0 p2) (fun s5 m301 => ⟨[(1, .slice A2 p2.length c2), (5, .bool r121), (6, .pointer (some ⟨m228, 0, none⟩)), (7, .pointer (some ⟨b101, 0, none⟩)), (8, .int .i64 s5.1)], [cells m228 [.slice m301.1 s5.2.1.length m301.2.1, .int .i64 s5.2.2.1] 108, cells b101 [.slice m301.2.2.1 s5.2.2.2.1.length m301.2.2.2, .int .i64 s5.2.2.2.2] 67], [slF rp_u8_i64 A2 c2 p2, slF (rInt .u8) m301.1 m301.2.1 s5.2.1, slF (rInt .u8) m301.2.2.1 m301.2.2.2 s5.2.2.2.1], []⟩) ((slA A1 0 ((p1.length : Int)).toNat 1, ((p1.length : Int)).toNat, A1, c1)) hx3 (Imp.re _ [1, 0] [1, 2, 0] (sc rfl (sc rfl (sc rfl (sc rfl (sc rfl sn))))) (by decide) rfl rfl rfl) (fun s5 m301 y2 hy2 hx4 => ?_))
          unfold law02_CodecReads_s0 at hy2
          refine Tr.seq ?_
          refine Tr.seq ?_
          refine Tr.region ?_
          refine TrL.v (v_move rfl rfl) rfl rfl (bl rfl) ?_
          refine TrL.v (v_move rfl rfl) rfl rfl (bl rfl) ?_
          refine TrL.v (v_len rfl sl65 rfl) rfl rfl (bl rfl) ?_
          refine TrL.v (v_arith rfl rfl rfl ar_lss) rfl rfl (bl rfl) ?_
          refine TrL.nil (qthen_n ?_)
          rcases ifc hy2 with ⟨h161, hy2⟩ | ⟨h161, hy2⟩
          · refine Tr.cond_t rfl (bt_dec h161) ?_
            refine Tr.skip (qthen_n ?_)
            refine Tr.seq ?_
            refine Tr.block ?_
            refine Tr.seq ?_
            refine Tr.region ?_
            refine TrL.v (v_assign rfl rfl) rfl rfl (bl rfl) ?_
            refine TrL.nil (qthen_n ?_)
            refine Tr.seq ?_
            refine Tr.region ?_
            refine TrL.v (v_assign rfl rfl) rfl rfl (bl rfl) ?_
            refine TrL.nil (qthen_n ?_)
            refine Tr.seq ?_
            refine Tr.region ?_
            refine TrL.v (v_assign rfl rfl) rfl rfl (bl rfl) ?_
            refine TrL.nil (qthen_n ?_)
            refine Tr.seq ?_
            refine Tr.region ?_
            refine TrL.v (v_assign rfl rfl) rfl rfl (bl rfl) ?_
            refine TrL.nil (qthen_n ?_)
            refine Tr.seq ?_
            refine Tr.seq ?_
            refine Tr.region ?_
            refine TrL.v (v_move rfl rfl) rfl rfl (bl rfl) ?_
            refine TrL.v (v_move rfl rfl) rfl rfl (bl rfl) ?_
            obtain ⟨z6, hz6, hy2⟩ := bnd hy2
            refine TrL.v (v_indexAddr (k := 0) rfl sl65 ty69 rfl rfl rfl rfl hz6) rfl rfl (bl rfl) ?_
            refine TrL.v (v_fieldAddr rfl fo69_0 rfl) rfl rfl (bl rfl) ?_
            refine TrL.v (v_loadg (A := A2) (i := s5.1) (j := 0) (k := 0) rfl ty5 (fun _ => rfl) rfl rfl hz6 rfl rfl) rfl rfl (bl rfl) ?_
            refine TrL.v (v_rem rfl rfl rfl (by decide)) rfl rfl (bl rfl) ?_
            refine TrL.nil (qthen_n ?_)
            refine Tr.block ?_
            refine Tr.seq ?_
            refine Tr.region ?_
            refine TrL.v (v_arith rfl rfl rfl ar_eql) rfl rfl (bl rfl) ?_
            refine TrL.v (v_assign rfl rfl) rfl rfl (bl rfl) ?_
            refine TrL.nil (qthen_n ?_)
            obtain ⟨j22, hj22, hy2⟩ := bnd hy2
            refine Tr.cutE (D := Int × Int × ByteArray × ByteArray × List Int × Int × List Int × Int) (M := Option Addr × Nat × Option Addr × Nat) .normal (fun _d => j22 = _d) (fun j22 m415 => ⟨[(1, .slice A2 p2.length c2), (5, .bool r121), (6, .pointer (some ⟨m228, 0, none⟩)), (7, .pointer (some ⟨b101, 0, none⟩)), (8, .int .i64 s5.1), (9, .int .u64 j22.1), (10, .int .u64 j22.2.1), (11, .string j22.2.2.1), (12, .string j22.2.2.2.1)], [cells m228 [.slice m415.1 j22.2.2.2.2.1.length m415.2.1, .int .i64 j22.2.2.2.2.2.1] 108, cells b101 [.slice m415.2.2.1 j22.2.2.2.2.2.2.1.length m415.2.2.2, .int .i64 j22.2.2.2.2.2.2.2] 67], [slF rp_u8_i64 A2 c2 p2, slF (rInt .u8) m415.1 m415.2.1 j22.2.2.2.2.1, slF (rInt .u8) m415.2.2.1 m415.2.2.2 j22.2.2.2.2.2.2.1], []⟩) ?_ (fun j22 m415 hd24 => ?_)
            · rcases ifc hj22 with ⟨h172, hj22⟩ | ⟨h172, hj22⟩
              · refine Tr.cond_t rfl (bt_dec h172) ?_
                refine Tr.seq ?_
                refine Tr.region ?_
                refine TrL.v (v_move rfl rfl) rfl rfl (bl rfl) ?_
                refine TrL.v (v_move rfl rfl) rfl rfl (bl rfl) ?_
                refine TrL.v (v_move rfl rfl) rfl rfl (bl rfl) ?_
                refine TrL.v (v_indexAddr (k := 0) rfl sl65 ty69 rfl rfl rfl rfl hz6) rfl rfl (bl rfl) ?_
                refine TrL.v (v_fieldAddr rfl fo69_1 rfl) rfl rfl (bl rfl) ?_
                refine TrL.v (v_loadg (A := A2) (i := s5.1) (j := 1) (k := 0) rfl ty3 (fun _ => rfl) rfl rfl hz6 rfl rfl) rfl rfl (bl rfl) ?_
                refine TrL.v (v_max rfl rfl rfl) rfl rfl (bl rfl) ?_
                refine TrL.v (v_conv' rfl ⟨_, Try.underlying3⟩ Try.underlying22 rfl wrap_u64') rfl rfl (bl rfl) ?_
                obtain ⟨r214, hr214, hj22⟩ := bnd hj22
                refine TrL.cons rfl (op_callg' (fs := []) (vs := [.pointer (some ⟨m228, 0, none⟩), .int .u64 (wu64 (max z6.2 0))]) (cap := []) (Mr := [cells b101 [.slice m301.2.2.1 s5.2.2.2.1.length m301.2.2.2, .int .i64 s5.2.2.2.2] 67]) [0] [1] [1] rfl rfl rfl en32 (c_codec_Reader_Num ((s5.2.1, s5.2.2.1)) (wu64 (max z6.2 0)) m228 m301.1 m301.2.1 r214 hr214) (by decide) rfl rfl rfl (bl rfl) (fun ret M' F' hR350 => ?_))
                obtain ⟨m416, rfl, rfl, rfl⟩ := hR350
                refine TrL.v (v_assign rfl rfl) rfl rfl (bl rfl) ?_
                refine TrL.nil (qthen_n ?_)
                refine Tr.seq ?_
                refine Tr.regionD drawn (fun hok => ?_)
                obtain ⟨r215, hr215, hj22⟩ := bnd hj22
                refine TrAny.cut (ι := Nat × Option Addr × Nat) (fun m420 => ⟨[(1, .slice A2 p2.length c2), (5, .bool r121), (6, .pointer (some ⟨m228, 0, none⟩)), (7, .pointer (some ⟨b101, 0, none⟩)), (8, .int .i64 s5.1), (9, .int .u64 r214.1), (11, .string bs4), (12, .string bs4), (13, .pointer (some ⟨m420.1, 0, none⟩)), (14, .int .u64 r215.2.2)], [cells m228 [.slice m416.1 r214.2.1.length m416.2, .int .i64 r214.2.2] 108, cells b101 [.slice m301.2.2.1 s5.2.2.2.1.length m301.2.2.2, .int .i64 s5.2.2.2.2] 67, cells m420.1 [.slice m420.2.1 r215.1.length m420.2.2, .int .i64 r215.2.1] 67], [slF rp_u8_i64 A2 c2 p2, slF (rInt .u8) m416.1 m416.2 r214.2.1, slF (rInt .u8) m301.2.2.1 m301.2.2.2 s5.2.2.2.1, slF (rInt .u8) m420.2.1 m420.2.2 r215.1], []⟩) ?_ (fun m420 => ?_)
                · refine TrAny.prom (i := 0) (d := 63) hok (OpVal.plain rfl rfl (v_load (k := 1) rfl rfl rfl ty67 nofun rfl rfl)) (by kernel_rfl) rfl (bl rfl) ?_
                  clear hok
                  intro hok
                  refine TrAny.prom (i := 1) (d := 64) hok (OpVal.plain rfl rfl (v_move rfl rfl)) (by kernel_rfl) rfl (bl rfl) ?_
                  clear hok
                  intro hok
                  refine TrAny.prom (i := 2) (d := 65) hok (OpVal.plain rfl rfl (v_move rfl rfl)) (by kernel_rfl) rfl (bl rfl) ?_
                  clear hok
                  intro hok
                  refine TrAny.prom (i := 3) (d := 66) hok (OpVal.plain rfl rfl (v_indexAddr (k := 0) rfl sl65 ty69 rfl rfl rfl rfl hz6)) (by kernel_rfl) rfl (bl rfl) ?_
                  clear hok
                  intro hok
                  refine TrAny.prom (i := 4) (d := 67) hok (OpVal.plain rfl rfl (v_fieldAddr rfl fo69_1 rfl)) (by kernel_rfl) rfl (bl rfl) ?_
                  clear hok
                  intro hok
                  refine TrAny.prom (i := 5) (d := 68) hok (OpVal.plain rfl rfl (v_loadg (A := A2) (i := s5.1) (j := 1) (k := 0) rfl ty3 (fun _ => rfl) rfl rfl hz6 rfl rfl)) (by kernel_rfl) rfl (bl rfl) ?_
                  clear hok
                  intro hok
                  refine TrAny.prom (i := 6) (d := 69) hok (OpVal.plain rfl rfl (v_max rfl rfl rfl)) (by kernel_rfl) rfl (bl rfl) ?_
                  clear hok
                  intro hok
                  refine TrAny.prom (i := 7) (d := 70) hok (OpVal.plain rfl rfl (v_conv' rfl ⟨_, Try.underlying3⟩ Try.underlying22 rfl wrap_u64')) (by kernel_rfl) rfl (bl rfl) ?_
                  clear hok
                  intro hok
                  refine TrAny.fork [8, 12] (by kernel_rfl) hok ⟨8, by decide, bl rfl⟩ (by kernel_rfl) (.cons ?_ (.cons ?_ .nil))
                  · refine step_n rfl (by kernel_rfl) rfl (op_call0' (vs := [.agg #[.slice m301.2.2.1 s5.2.2.2.1.length m301.2.2.2, .int .i64 s5.2.2.2.2], .int .u64 (wu64 (max z6.2 0))]) (cap := []) [2] rfl rfl (bl rfl) rfl rfl en45 (c_ref02_Read s5.2.2.2 (wu64 (max z6.2 0)) m301.2.2.1 m301.2.2.2 r215 hr215) rfl (fun ret M' F' hR354 => ?_))
                    obtain ⟨m421, rfl, rfl, rfl⟩ := hR354
                    refine nxp hok (kp_imp (kp_c0 rfl)) rfl (by kernel_rfl) ?_
                    clear hok
                    intro hok
                    refine TrAny.prom (i := 9) (d := 62) hok (OpVal.plain rfl rfl (v_move rfl rfl)) (by kernel_rfl) rfl (bl rfl) ?_
                    clear hok
                    intro hok
                    refine TrAny.prom (i := 10) (d := 72) hok (OpVal.plain rfl rfl (v_extract rfl rfl rfl)) (by kernel_rfl) rfl (bl rfl) ?_
                    clear hok
                    intro hok
                    refine TrAny.prom (i := 11) (d := 73) hok (OpVal.plain rfl rfl (v_extract rfl rfl rfl)) (by kernel_rfl) rfl (bl rfl) ?_
                    clear hok
                    intro hok
                    refine TrAny.prom (i := 14) (d := 14) hok (OpVal.plain rfl rfl (v_assign rfl rfl)) (by kernel_rfl) rfl (bl rfl) ?_
                    clear hok
                    intro hok
                    refine TrAny.next (j := 12) (by kernel_rfl) hok rfl (by kernel_rfl) (op_alloc' rfl (bl rfl) rfl ze67 (fun b193 => ?_))
                    refine nxp hok (kp_imp (kp_cm rfl)) rfl (by kernel_rfl) ?_
                    clear hok
                    intro hok
                    refine TrAny.next (j := 13) (by kernel_rfl) hok rfl (by kernel_rfl) (op_store' (k := 0) (c' := [.slice m421.1 r215.1.length m421.2, .int .i64 r215.2.1]) rfl rfl rfl rfl rfl ty67 rfl (Nat.le_of_ble_eq_true rfl) (ones (oc rfl (oc rfl on))) rfl ?_)
                    refine nxs hok (kp_all (ac (.inl (by kernel_rfl)) (ac (.inl (by kernel_rfl)) (ac (.inl (by kernel_rfl)) (ac (.inl (by kernel_rfl)) (ac (.inl (by kernel_rfl)) (ac (.inl (by kernel_rfl)) (ac (.inl (by kernel_rfl)) (ac (.inl (by kernel_rfl)) (ac (.inl (by kernel_rfl)) (ac (.inl (by kernel_rfl)) (ac (.inr (OpVal.plain rfl rfl (v_extract rfl rfl rfl))) (ac (.inr (OpVal.plain rfl rfl (v_assign rfl rfl))) an))))))))))))) rfl ?_
                    clear hok
                    intro hok
                    refine TrAny.done (by kernel_rfl) (by kernel_rfl) hok (by kernel_rfl) (⟨(b193, m421.1, m421.2), Imp.re _ [1, 2, 0] [0, 3, 2, 4] (sc rfl (sc rfl (sc rfl (sc rfl (sc rfl (sc rfl (sc rfl (sc rfl (sc rfl (sc rfl sn)))))))))) (by decide) rfl rfl rfl⟩)
                  · refine step_n rfl (by kernel_rfl) rfl (op_alloc' rfl (bl rfl) rfl ze67 (fun b194 => ?_))
                    refine nxp hok (kp_imp (kp_cm rfl)) rfl (by kernel_rfl) ?_
                    clear hok
                    intro hok
                    refine TrAny.next (j := 8) (by kernel_rfl) hok rfl (by kernel_rfl) (op_call0' (vs := [.agg #[.slice m301.2.2.1 s5.2.2.2.1.length m301.2.2.2, .int .i64 s5.2.2.2.2], .int .u64 (wu64 (max z6.2 0))]) (cap := []) [2] rfl rfl (bl rfl) rfl rfl en45 (c_ref02_Read s5.2.2.2 (wu64 (max z6.2 0)) m301.2.2.1 m301.2.2.2 r215 hr215) rfl (fun ret M' F' hR355 => ?_))
                    obtain ⟨m422, rfl, rfl, rfl⟩ := hR355
                    refine nxp hok (kp_imp (kp_c0 rfl)) rfl (by kernel_rfl) ?_
                    clear hok
                    intro hok
                    refine TrAny.prom (i := 9) (d := 62) hok (OpVal.plain rfl rfl (v_move rfl rfl)) (by kernel_rfl) rfl (bl rfl) ?_
                    clear hok
                    intro hok
                    refine TrAny.prom (i := 10) (d := 72) hok (OpVal.plain rfl rfl (v_extract rfl rfl rfl)) (by kernel_rfl) rfl (bl rfl) ?_
                    clear hok
                    intro hok
                    refine TrAny.prom (i := 11) (d := 73) hok (OpVal.plain rfl rfl (v_extract rfl rfl rfl)) (by kernel_rfl) rfl (bl rfl) ?_
                    clear hok
                    intro hok
                    refine TrAny.prom (i := 14) (d := 14) hok (OpVal.plain rfl rfl (v_assign rfl rfl)) (by kernel_rfl) rfl (bl rfl) ?_
                    clear hok
                    intro hok
                    refine TrAny.next (j := 13) (by kernel_rfl) hok rfl (by kernel_rfl) (op_store' (k := 0) (c' := [.slice m422.1 r215.1.length m422.2, .int .i64 r215.2.1]) rfl rfl rfl rfl rfl ty67 rfl (Nat.le_of_ble_eq_true rfl) (ones (oc rfl (oc rfl on))) rfl ?_)
                    refine nxs hok (kp_all (ac (.inl (by kernel_rfl)) (ac (.inl (by kernel_rfl)) (ac (.inl (by kernel_rfl)) (ac (.inl (by kernel_rfl)) (ac (.inl (by kernel_rfl)) (ac (.inl (by kernel_rfl)) (ac (.inl (by kernel_rfl)) (ac (.inl (by kernel_rfl)) (ac (.inl (by kernel_rfl)) (ac (.inl (by kernel_rfl)) (ac (.inr (OpVal.plain rfl rfl (v_extract rfl rfl rfl))) (ac (.inr (OpVal.plain rfl rfl (v_assign rfl rfl))) an))))))))))))) rfl ?_
                    clear hok
                    intro hok
                    refine TrAny.done (by kernel_rfl) (by kernel_rfl) hok (by kernel_rfl) (⟨(b194, m422.1, m422.2), Imp.re _ [1, 2, 0] [0, 3, 2, 4] (sc rfl (sc rfl (sc rfl (sc rfl (sc rfl (sc rfl (sc rfl (sc rfl (sc rfl (sc rfl sn)))))))))) (by decide) rfl rfl rfl⟩)
                · refine (qthen_n ?_)
                  refine Tr.seq ?_
                  refine Tr.region ?_
                  refine TrL.v (v_load (k := 2) rfl rfl rfl ty67 nofun rfl rfl) rfl rfl (bl rfl) ?_
                  refine TrL.cons rfl (op_store' (k := 1) (c' := [.slice m420.2.1 r215.1.length m420.2.2, .int .i64 r215.2.1]) rfl rfl rfl rfl rfl ty67 rfl (Nat.le_of_ble_eq_true rfl) (ones (oc rfl (oc rfl on))) rfl ?_)
                  refine TrL.nil (qthen_n ?_)
                  refine Tr.region ?_
                  refine TrL.v (v_move rfl rfl) rfl rfl (bl rfl) ?_
                  refine TrL.v (v_assign rfl rfl) rfl rfl (bl rfl) ?_
                  refine TrL.nil (qcut_hit ((r214.1, r215.2.2, bs4, bs4, r214.2.1, r214.2.2, r215.1, r215.2.1)) ((m416.1, m416.2, m420.2.1, m420.2.2)) (Option.some.inj hj22).symm (Imp.re _ [0, 1] [0, 1, 3] (sc rfl (sc rfl (sc rfl (sc rfl (sc rfl (sc rfl (sc rfl (sc rfl (sc rfl sn))))))))) (by decide) rfl rfl rfl))
              · refine Tr.cond_f rfl (bf_dec h172) ?_
                refine Tr.seq ?_
                refine Tr.region ?_
                refine TrL.v (v_arith rfl rfl rfl ar_eql) rfl rfl (bl rfl) ?_
                refine TrL.v (v_assign rfl rfl) rfl rfl (bl rfl) ?_
                refine TrL.nil (qthen_n ?_)
                rcases ifc hj22 with ⟨h173, hj22⟩ | ⟨h173, hj22⟩
                · refine Tr.cond_t rfl (bt_dec h173) ?_
                  refine Tr.seq ?_
                  refine Tr.region ?_
                  refine TrL.v (v_move rfl rfl) rfl rfl (bl rfl) ?_
                  obtain ⟨r216, hr216, hj22⟩ := bnd hj22
                  refine TrL.cons rfl (op_callg' (fs := []) (vs := [.pointer (some ⟨m228, 0, none⟩)]) (cap := []) (Mr := [cells b101 [.slice m301.2.2.1 s5.2.2.2.1.length m301.2.2.2, .int .i64 s5.2.2.2.2] 67]) [0] [1] [1] rfl rfl rfl en36 (c_codec_Reader_Fixed ((s5.2.1, s5.2.2.1)) m228 m301.1 m301.2.1 r216 hr216) (by decide) rfl rfl rfl (bl rfl) (fun ret M' F' hR356 => ?_))
                  obtain ⟨m423, rfl, rfl, rfl⟩ := hR356
                  refine TrL.v (v_assign rfl rfl) rfl rfl (bl rfl) ?_
                  refine TrL.nil (qthen_n ?_)
                  refine Tr.seq ?_
                  refine Tr.region ?_
                  refine TrL.v (v_load (k := 1) rfl rfl rfl ty67 nofun rfl rfl) rfl rfl (bl rfl) ?_
                  obtain ⟨r217, hr217, hj22⟩ := bnd hj22
                  refine TrL.cons rfl (op_call0' (vs := [.agg #[.slice m301.2.2.1 s5.2.2.2.1.length m301.2.2.2, .int .i64 s5.2.2.2.2]]) (cap := []) [2] rfl rfl (bl rfl) rfl rfl en46 (c_ref02_ReadFixed s5.2.2.2 m301.2.2.1 m301.2.2.2 r217 hr217) rfl (fun ret M' F' hR357 => ?_))
                  obtain ⟨m424, rfl, rfl, rfl⟩ := hR357
                  refine TrL.v (v_move rfl rfl) rfl rfl (bl rfl) ?_
                  refine TrL.v (v_extract rfl rfl rfl) rfl rfl (bl rfl) ?_
                  refine TrL.v (v_extract rfl rfl rfl) rfl rfl (bl rfl) ?_
                  refine TrL.cons rfl (op_alloc' rfl (bl rfl) rfl ze67 (fun b195 => ?_))
                  refine TrL.cons rfl (op_store' (k := 0) (c' := [.slice m424.1 r217.1.length m424.2, .int .i64 r217.2.1]) rfl rfl rfl rfl rfl ty67 rfl (Nat.le_of_ble_eq_true rfl) (ones (oc rfl (oc rfl on))) rfl ?_)
                  refine TrL.v (v_assign rfl rfl) rfl rfl (bl rfl) ?_
                  refine TrL.nil (qthen_n ?_)
                  refine Tr.seq ?_
                  refine Tr.region ?_
                  refine TrL.v (v_load (k := 0) rfl rfl rfl ty67 nofun rfl rfl) rfl rfl (bl rfl) ?_
                  refine TrL.cons rfl (op_store' (k := 2) (c' := [.slice m424.1 r217.1.length m424.2, .int .i64 r217.2.1]) rfl rfl rfl rfl rfl ty67 rfl (Nat.le_of_ble_eq_true rfl) (ones (oc rfl (oc rfl on))) rfl ?_)
                  refine TrL.nil (qthen_n ?_)
                  refine Tr.region ?_
                  refine TrL.v (v_move rfl rfl) rfl rfl (bl rfl) ?_
                  refine TrL.v (v_assign rfl rfl) rfl rfl (bl rfl) ?_
                  refine TrL.nil (qcut_hit ((r216.1, r217.2.2, bs4, bs4, r216.2.1, r216.2.2, r217.1, r217.2.1)) ((m423.1, m423.2, m424.1, m424.2)) (Option.some.inj hj22).symm (Imp.re _ [1, 2] [0, 3, 4] (sc rfl (sc rfl (sc rfl (sc rfl (sc rfl (sc rfl (sc rfl (sc rfl (sc rfl sn))))))))) (by decide) rfl rfl rfl))
                · refine Tr.cond_f rfl (bf_dec h173) ?_
                  refine Tr.seq ?_
                  refine Tr.region ?_
                  refine TrL.v (v_arith rfl rfl rfl ar_eql) rfl rfl (bl rfl) ?_
                  refine TrL.v (v_assign rfl rfl) rfl rfl (bl rfl) ?_
                  refine TrL.nil (qthen_n ?_)
                  rcases ifc hj22 with ⟨h174, hj22⟩ | ⟨h174, hj22⟩
                  · refine Tr.cond_t rfl (bt_dec h174) ?_
                    refine Tr.seq ?_
                    refine Tr.region ?_
                    refine TrL.v (v_move rfl rfl) rfl rfl (bl rfl) ?_
                    refine TrL.v (v_move rfl rfl) rfl rfl (bl rfl) ?_
                    refine TrL.v (v_move rfl rfl) rfl rfl (bl rfl) ?_
                    refine TrL.v (v_indexAddr (k := 0) rfl sl65 ty69 rfl rfl rfl rfl hz6) rfl rfl (bl rfl) ?_
                    refine TrL.v (v_fieldAddr rfl fo69_1 rfl) rfl rfl (bl rfl) ?_
                    refine TrL.v (v_loadg (A := A2) (i := s5.1) (j := 1) (k := 0) rfl ty3 (fun _ => rfl) rfl rfl hz6 rfl rfl) rfl rfl (bl rfl) ?_
                    obtain ⟨r218, hr218, hj22⟩ := bnd hj22
                    refine TrL.cons rfl (op_callg' (fs := []) (vs := [.pointer (some ⟨m228, 0, none⟩), .int .i64 z6.2]) (cap := []) (Mr := [cells b101 [.slice m301.2.2.1 s5.2.2.2.1.length m301.2.2.2, .int .i64 s5.2.2.2.2] 67]) [0] [1] [1] rfl rfl rfl en35 (c_codec_Reader_Text ((s5.2.1, s5.2.2.1)) z6.2 m228 m301.1 m301.2.1 r218 hr218) (by decide) rfl rfl rfl (bl rfl) (fun ret M' F' hR358 => ?_))
                    obtain ⟨m425, rfl, rfl, rfl⟩ := hR358
                    refine TrL.shut' 1 rfl ?_
                    refine TrL.v (v_bstr (k := 4) rfl Try.underlying23 Try.underlying5 Try.underlying9 rfl rfl rfl) rfl rfl (bl rfl) ?_
                    refine TrL.v (v_assign rfl rfl) rfl rfl (bl rfl) ?_
                    refine TrL.nil (qthen_n ?_)
                    refine Tr.seq ?_
                    refine Tr.regionD drawn (fun hok => ?_)
                    obtain ⟨r219, hr219, hj22⟩ := bnd hj22
                    refine TrAny.cut (ι := Nat × Option Addr × Nat × Option Addr × Nat) (fun m429 => ⟨[(1, .slice A2 p2.length c2), (5, .bool r121), (6, .pointer (some ⟨m228, 0, none⟩)), (7, .pointer (some ⟨b101, 0, none⟩)), (8, .int .i64 s5.1), (9, .int .u64 0), (10, .int .u64 0), (11, .string (bstr r218.1)), (17, .pointer (some ⟨m429.1, 0, none⟩)), (18, .slice m429.2.1 r219.2.2.length m429.2.2.1)], [cells m228 [.slice m425.2.2.1 r218.2.1.length m425.2.2.2, .int .i64 r218.2.2] 108, cells b101 [.slice m301.2.2.1 s5.2.2.2.1.length m301.2.2.2, .int .i64 s5.2.2.2.2] 67, cells m429.1 [.slice m429.2.2.2.1 r219.1.length m429.2.2.2.2, .int .i64 r219.2.1] 67], [slF rp_u8_i64 A2 c2 p2, slF (rInt .u8) m429.2.1 m429.2.2.1 r219.2.2, slF (rInt .u8) m425.2.2.1 m425.2.2.2 r218.2.1, slF (rInt .u8) m301.2.2.1 m301.2.2.2 s5.2.2.2.1, slF (rInt .u8) m429.2.2.2.1 m429.2.2.2.2 r219.1], []⟩) ?_ (fun m429 => ?_)
                    · refine TrAny.prom (i := 0) (d := 98) hok (OpVal.plain rfl rfl (v_load (k := 1) rfl rfl rfl ty67 nofun rfl rfl)) (by kernel_rfl) rfl (bl rfl) ?_
                      clear hok
                      intro hok
                      refine TrAny.prom (i := 1) (d := 99) hok (OpVal.plain rfl rfl (v_move rfl rfl)) (by kernel_rfl) rfl (bl rfl) ?_
                      clear hok
                      intro hok
                      refine TrAny.prom (i := 2) (d := 100) hok (OpVal.plain rfl rfl (v_move rfl rfl)) (by kernel_rfl) rfl (bl rfl) ?_
                      clear hok
                      intro hok
                      refine TrAny.prom (i := 3) (d := 101) hok (OpVal.plain rfl rfl (v_indexAddr (k := 0) rfl sl65 ty69 rfl rfl rfl rfl hz6)) (by kernel_rfl) rfl (bl rfl) ?_
                      clear hok
                      intro hok
                      refine TrAny.prom (i := 4) (d := 102) hok (OpVal.plain rfl rfl (v_fieldAddr rfl fo69_1 rfl)) (by kernel_rfl) rfl (bl rfl) ?_
                      clear hok
                      intro hok
                      refine TrAny.prom (i := 5) (d := 103) hok (OpVal.plain rfl rfl (v_loadg (A := A2) (i := s5.1) (j := 1) (k := 0) rfl ty3 (fun _ => rfl) rfl rfl hz6 rfl rfl)) (by kernel_rfl) rfl (bl rfl) ?_
                      clear hok
                      intro hok
                      refine TrAny.fork [6, 10] (by kernel_rfl) hok ⟨6, by decide, bl rfl⟩ (by kernel_rfl) (.cons ?_ (.cons ?_ .nil))
                      · refine step_n rfl (by kernel_rfl) rfl (op_call0' (vs := [.agg #[.slice m301.2.2.1 s5.2.2.2.1.length m301.2.2.2, .int .i64 s5.2.2.2.2], .int .i64 z6.2]) (cap := []) [2] rfl rfl (bl rfl) rfl rfl en47 (c_ref02_ReadText s5.2.2.2 z6.2 m301.2.2.1 m301.2.2.2 r219 hr219) rfl (fun ret M' F' hR362 => ?_))
                        obtain ⟨m430, rfl, rfl, rfl⟩ := hR362
                        refine nxp hok (kp_imp (kp_c0 rfl)) rfl (by kernel_rfl) ?_
                        clear hok
                        intro hok
                        refine TrAny.prom (i := 7) (d := 97) hok (OpVal.plain rfl rfl (v_move rfl rfl)) (by kernel_rfl) rfl (bl rfl) ?_
                        clear hok
                        intro hok
                        refine TrAny.prom (i := 8) (d := 105) hok (OpVal.plain rfl rfl (v_extract rfl rfl rfl)) (by kernel_rfl) rfl (bl rfl) ?_
                        clear hok
                        intro hok
                        refine TrAny.prom (i := 9) (d := 106) hok (OpVal.plain rfl rfl (v_extract rfl rfl rfl)) (by kernel_rfl) rfl (bl rfl) ?_
                        clear hok
                        intro hok
                        refine TrAny.prom (i := 12) (d := 18) hok (OpVal.plain rfl rfl (v_assign rfl rfl)) (by kernel_rfl) rfl (bl rfl) ?_
                        clear hok
                        intro hok
                        refine TrAny.next (j := 10) (by kernel_rfl) hok rfl (by kernel_rfl) (op_alloc' rfl (bl rfl) rfl ze67 (fun b199 => ?_))
                        refine nxp hok (kp_imp (kp_cm rfl)) rfl (by kernel_rfl) ?_
                        clear hok
                        intro hok
                        refine TrAny.next (j := 11) (by kernel_rfl) hok rfl (by kernel_rfl) (op_store' (k := 0) (c' := [.slice m430.1 r219.1.length m430.2.1, .int .i64 r219.2.1]) rfl rfl rfl rfl rfl ty67 rfl (Nat.le_of_ble_eq_true rfl) (ones (oc rfl (oc rfl on))) rfl ?_)
                        refine nxs hok (kp_all (ac (.inl (by kernel_rfl)) (ac (.inl (by kernel_rfl)) (ac (.inl (by kernel_rfl)) (ac (.inl (by kernel_rfl)) (ac (.inl (by kernel_rfl)) (ac (.inl (by kernel_rfl)) (ac (.inl (by kernel_rfl)) (ac (.inl (by kernel_rfl)) (ac (.inr (OpVal.plain rfl rfl (v_extract rfl rfl rfl))) (ac (.inr (OpVal.plain rfl rfl (v_assign rfl rfl))) an))))))))))) rfl ?_
                        clear hok
                        intro hok
                        refine TrAny.done (by kernel_rfl) (by kernel_rfl) hok (by kernel_rfl) (⟨(b199, m430.2.2.1, m430.2.2.2, m430.1, m430.2.1), Imp.re _ [1, 2, 0] [0, 6, 3, 2, 5] (sc rfl (sc rfl (sc rfl (sc rfl (sc rfl (sc rfl (sc rfl (sc rfl (sc rfl (sc rfl sn)))))))))) (by decide) rfl rfl rfl⟩)
                      · refine step_n rfl (by kernel_rfl) rfl (op_alloc' rfl (bl rfl) rfl ze67 (fun b200 => ?_))
                        refine nxp hok (kp_imp (kp_cm rfl)) rfl (by kernel_rfl) ?_
                        clear hok
                        intro hok
                        refine TrAny.next (j := 6) (by kernel_rfl) hok rfl (by kernel_rfl) (op_call0' (vs := [.agg #[.slice m301.2.2.1 s5.2.2.2.1.length m301.2.2.2, .int .i64 s5.2.2.2.2], .int .i64 z6.2]) (cap := []) [2] rfl rfl (bl rfl) rfl rfl en47 (c_ref02_ReadText s5.2.2.2 z6.2 m301.2.2.1 m301.2.2.2 r219 hr219) rfl (fun ret M' F' hR363 => ?_))
                        obtain ⟨m431, rfl, rfl, rfl⟩ := hR363
                        refine nxp hok (kp_imp (kp_c0 rfl)) rfl (by kernel_rfl) ?_
                        clear hok
                        intro hok
                        refine TrAny.prom (i := 7) (d := 97) hok (OpVal.plain rfl rfl (v_move rfl rfl)) (by kernel_rfl) rfl (bl rfl) ?_
                        clear hok
                        intro hok
                        refine TrAny.prom (i := 8) (d := 105) hok (OpVal.plain rfl rfl (v_extract rfl rfl rfl)) (by kernel_rfl) rfl (bl rfl) ?_
                        clear hok
                        intro hok
                        refine TrAny.prom (i := 9) (d := 106) hok (OpVal.plain rfl rfl (v_extract rfl rfl rfl)) (by kernel_rfl) rfl (bl rfl) ?_
                        clear hok
                        intro hok
                        refine TrAny.prom (i := 12) (d := 18) hok (OpVal.plain rfl rfl (v_assign rfl rfl)) (by kernel_rfl) rfl (bl rfl) ?_
                        clear hok
                        intro hok
                        refine TrAny.next (j := 11) (by kernel_rfl) hok rfl (by kernel_rfl) (op_store' (k := 0) (c' := [.slice m431.1 r219.1.length m431.2.1, .int .i64 r219.2.1]) rfl rfl rfl rfl rfl ty67 rfl (Nat.le_of_ble_eq_true rfl) (ones (oc rfl (oc rfl on))) rfl ?_)
                        refine nxs hok (kp_all (ac (.inl (by kernel_rfl)) (ac (.inl (by kernel_rfl)) (ac (.inl (by kernel_rfl)) (ac (.inl (by kernel_rfl)) (ac (.inl (by kernel_rfl)) (ac (.inl (by kernel_rfl)) (ac (.inl (by kernel_rfl)) (ac (.inl (by kernel_rfl)) (ac (.inr (OpVal.plain rfl rfl (v_extract rfl rfl rfl))) (ac (.inr (OpVal.plain rfl rfl (v_assign rfl rfl))) an))))))))))) rfl ?_
                        clear hok
                        intro hok
                        refine TrAny.done (by kernel_rfl) (by kernel_rfl) hok (by kernel_rfl) (⟨(b200, m431.2.2.1, m431.2.2.2, m431.1, m431.2.1), Imp.re _ [1, 2, 0] [0, 6, 3, 2, 5] (sc rfl (sc rfl (sc rfl (sc rfl (sc rfl (sc rfl (sc rfl (sc rfl (sc rfl (sc rfl sn)))))))))) (by decide) rfl rfl rfl⟩)
                    · refine (qthen_n ?_)
                      refine Tr.seq ?_
                      refine Tr.region ?_
                      refine TrL.v (v_load (k := 2) rfl rfl rfl ty67 nofun rfl rfl) rfl rfl (bl rfl) ?_
                      refine TrL.cons rfl (op_store' (k := 1) (c' := [.slice m429.2.2.2.1 r219.1.length m429.2.2.2.2, .int .i64 r219.2.1]) rfl rfl rfl rfl rfl ty67 rfl (Nat.le_of_ble_eq_true rfl) (ones (oc rfl (oc rfl on))) rfl ?_)
                      refine TrL.nil (qthen_n ?_)
                      refine Tr.region ?_
                      refine TrL.v (v_move rfl rfl) rfl rfl (bl rfl) ?_
                      refine TrL.v (v_bstr (k := 1) rfl Try.underlying23 Try.underlying5 Try.underlying9 rfl rfl rfl) rfl rfl (bl rfl) ?_
                      refine TrL.v (v_assign rfl rfl) rfl rfl (bl rfl) ?_
                      refine TrL.nil (qcut_hit (((0 : Int), (0 : Int), bstr r218.1, bstr r219.2.2, r218.2.1, r218.2.2, r219.1, r219.2.1)) ((m425.2.2.1, m425.2.2.2, m429.2.2.2.1, m429.2.2.2.2)) (Option.some.inj hj22).symm (Imp.re _ [0, 1] [0, 2, 4] (sc rfl (sc rfl (sc rfl (sc rfl (sc rfl (sc rfl (sc rfl (sc rfl (sc rfl sn))))))))) (by decide) rfl rfl rfl))
                  · refine Tr.cond_f rfl (bf_dec h174) ?_
                    refine Tr.seq ?_
                    refine Tr.region ?_
                    refine TrL.v (v_move rfl rfl) rfl rfl (bl rfl) ?_
                    obtain ⟨r220, hr220, hj22⟩ := bnd hj22
                    refine TrL.cons rfl (op_callg' (fs := []) (vs := [.pointer (some ⟨m228, 0, none⟩), .int .i64 9]) (cap := []) (Mr := [cells b101 [.slice m301.2.2.1 s5.2.2.2.1.length m301.2.2.2, .int .i64 s5.2.2.2.2] 67]) [0] [1] [1] rfl rfl rfl en48 (c_codec_Reader_Fail ((s5.2.1, s5.2.2.1)) ((9 : Int)) m228 m301.1 m301.2.1 r220 hr220) (by decide) rfl rfl rfl (bl rfl) (fun ret M' F' hR364 => ?_))
                    obtain ⟨rfl, rfl, rfl⟩ := hR364
                    refine TrL.nil (qthen_n ?_)
                    refine Tr.seq ?_
                    refine Tr.region ?_
                    refine TrL.v (v_fieldAddr' rfl fo67_1 rfl rfl) rfl rfl (bl rfl) ?_
                    refine TrL.v (v_load (k := 1) rfl rfl rfl ty3 (fun _ => rfl) rfl rfl) rfl rfl (bl rfl) ?_
                    refine TrL.v (v_arith rfl rfl rfl ar_eql) rfl rfl (bl rfl) ?_
                    refine TrL.nil (qthen_n ?_)
                    rcases ifc hj22 with ⟨h175, hj22⟩ | ⟨h175, hj22⟩
                    · refine Tr.cond_t rfl (bt_dec h175) ?_
                      refine Tr.region ?_
                      refine TrL.v (v_fieldAddr' rfl fo67_1 rfl rfl) rfl rfl (bl rfl) ?_
                      refine TrL.cons rfl (op_store' (k := 1) (c' := [.slice m301.2.2.1 s5.2.2.2.1.length m301.2.2.2, .int .i64 9]) rfl rfl rfl rfl rfl ty3 rfl (Nat.le_of_ble_eq_true rfl) (ones (oc rfl on)) rfl ?_)
                      refine TrL.nil (qcut_hit (((0 : Int), (0 : Int), bs4, bs4, ((s5.2.1, s5.2.2.1)).1, r220, s5.2.2.2.1, (9 : Int))) ((m301.1, m301.2.1, m301.2.2.1, m301.2.2.2)) (Option.some.inj hj22).symm (Imp.re _ [0, 1] [0, 3, 2] (sc rfl (sc rfl (sc rfl (sc rfl (sc rfl (sc rfl (sc rfl (sc rfl (sc rfl sn))))))))) (by decide) rfl rfl rfl))
                    · refine Tr.cond_f rfl (bf_dec h175) ?_
                      refine Tr.skip (qcut_hit (((0 : Int), (0 : Int), bs4, bs4, ((s5.2.1, s5.2.2.1)).1, r220, s5.2.2.2.1, s5.2.2.2.2)) ((m301.1, m301.2.1, m301.2.2.1, m301.2.2.2)) (Option.some.inj hj22).symm (Imp.re _ [0, 1] [0, 3, 2] (sc rfl (sc rfl (sc rfl (sc rfl (sc rfl (sc rfl (sc rfl (sc rfl (sc rfl sn))))))))) (by decide) rfl rfl rfl))
            · subst hd24
              refine (qblock_n (qthen_n ?_))
              refine Tr.seq ?_
              refine Tr.regionD drawn (fun hok => ?_)
              refine TrAny.prom (i := 0) (d := 110) hok (OpVal.plain rfl rfl (v_move rfl rfl)) (by kernel_rfl) rfl (bl rfl) ?_
              clear hok
              intro hok
              refine TrAny.prom (i := 1) (d := 111) hok (OpVal.plain rfl rfl (v_move rfl rfl)) (by kernel_rfl) rfl (bl rfl) ?_
              clear hok
              intro hok
              refine TrAny.prom (i := 2) (d := 112) hok (OpVal.plain rfl rfl (v_arith rfl rfl rfl ar_neq)) (by kernel_rfl) rfl (bl rfl) ?_
              clear hok
              intro hok
              refine TrAny.prom (i := 3) (d := 113) hok (OpVal.plain rfl rfl (v_move rfl rfl)) (by kernel_rfl) rfl (bl rfl) ?_
              clear hok
              intro hok
              rcases ifc hy2 with ⟨h188, hy2⟩ | ⟨h188, hy2⟩
              · refine TrAny.prom (i := 4) (d := 114) hok (OpVal.no rfl (fun c h => by cases h) rfl rfl rfl (gn_f (bt_dec h188))) (by kernel_rfl) rfl (bl rfl) ?_
                clear hok
                intro hok
                refine TrAny.prom (i := 5) (d := 115) hok (OpVal.no rfl (fun c h => by cases h) rfl rfl rfl (gn_f (bt_dec h188))) (by kernel_rfl) rfl (bl rfl) ?_
                clear hok
                intro hok
                refine TrAny.prom (i := 6) (d := 116) hok (OpVal.no rfl (fun c h => by cases h) rfl rfl rfl (gn_f (bt_dec h188))) (by kernel_rfl) rfl (bl rfl) ?_
                clear hok
                intro hok
                refine TrAny.prom (i := 7) (d := 117) hok (OpVal.plain rfl rfl (v_pick_t rfl rfl (bt_dec h188) rfl)) (by kernel_rfl) rfl (bl rfl) ?_
                clear hok
                intro hok
                refine TrAny.prom (i := 8) (d := 118) hok (OpVal.plain rfl rfl (v_move rfl rfl)) (by kernel_rfl) rfl (bl rfl) ?_
                clear hok
                intro hok
                refine TrAny.prom (i := 9) (d := 119) hok (OpVal.no rfl (fun c h => by cases h) rfl rfl rfl (gn_f rfl)) (by kernel_rfl) rfl (bl rfl) ?_
                clear hok
                intro hok
                refine TrAny.prom (i := 10) (d := 120) hok (OpVal.no rfl (fun c h => by cases h) rfl rfl rfl (gn_f rfl)) (by kernel_rfl) rfl (bl rfl) ?_
                clear hok
                intro hok
                refine TrAny.prom (i := 11) (d := 121) hok (OpVal.no rfl (fun c h => by cases h) rfl rfl rfl (gn_f rfl)) (by kernel_rfl) rfl (bl rfl) ?_
                clear hok
                intro hok
                refine TrAny.prom (i := 12) (d := 122) hok (OpVal.no rfl (fun c h => by cases h) rfl rfl rfl (gn_f rfl)) (by kernel_rfl) rfl (bl rfl) ?_
                clear hok
                intro hok
                refine TrAny.prom (i := 13) (d := 123) hok (OpVal.no rfl (fun c h => by cases h) rfl rfl rfl (gn_f rfl)) (by kernel_rfl) rfl (bl rfl) ?_
                clear hok
                intro hok
                refine TrAny.prom (i := 14) (d := 124) hok (OpVal.no rfl (fun c h => by cases h) rfl rfl rfl (gn_f rfl)) (by kernel_rfl) rfl (bl rfl) ?_
                clear hok
                intro hok
                refine TrAny.prom (i := 15) (d := 125) hok (OpVal.plain rfl rfl (v_pick_t rfl rfl rfl rfl)) (by kernel_rfl) rfl (bl rfl) ?_
                clear hok
                intro hok
                refine TrAny.prom (i := 16) (d := 126) hok (OpVal.plain rfl rfl (v_move rfl rfl)) (by kernel_rfl) rfl (bl rfl) ?_
                clear hok
                intro hok
                refine TrAny.prom (i := 17) (d := 127) hok (OpVal.no rfl (fun c h => by cases h) rfl rfl rfl (gn_f rfl)) (by kernel_rfl) rfl (bl rfl) ?_
                clear hok
                intro hok
                refine TrAny.prom (i := 18) (d := 128) hok (OpVal.no rfl (fun c h => by cases h) rfl rfl rfl (gn_f rfl)) (by kernel_rfl) rfl (bl rfl) ?_
                clear hok
                intro hok
                refine TrAny.prom (i := 19) (d := 129) hok (OpVal.no rfl (fun c h => by cases h) rfl rfl rfl (gn_f rfl)) (by kernel_rfl) rfl (bl rfl) ?_
                clear hok
                intro hok
                refine TrAny.prom (i := 20) (d := 130) hok (OpVal.no rfl (fun c h => by cases h) rfl rfl rfl (gn_f rfl)) (by kernel_rfl) rfl (bl rfl) ?_
                clear hok
                intro hok
                refine TrAny.prom (i := 21) (d := 131) hok (OpVal.no rfl (fun c h => by cases h) rfl rfl rfl (gn_f rfl)) (by kernel_rfl) rfl (bl rfl) ?_
                clear hok
                intro hok
                refine TrAny.prom (i := 22) (d := 132) hok (OpVal.plain rfl rfl (v_pick_t rfl rfl rfl rfl)) (by kernel_rfl) rfl (bl rfl) ?_
                clear hok
                intro hok
                refine TrAny.prom (i := 23) (d := 133) hok (OpVal.plain rfl rfl (v_move rfl rfl)) (by kernel_rfl) rfl (bl rfl) ?_
                clear hok
                intro hok
                refine TrAny.prom (i := 24) (d := 134) hok (OpVal.no rfl (fun c h => by cases h) rfl rfl rfl (gn_f rfl)) (by kernel_rfl) rfl (bl rfl) ?_
                clear hok
                intro hok
                refine TrAny.prom (i := 25) (d := 135) hok (OpVal.no rfl (fun c h => by cases h) rfl rfl rfl (gn_f rfl)) (by kernel_rfl) rfl (bl rfl) ?_
                clear hok
                intro hok
                refine TrAny.prom (i := 26) (d := 136) hok (OpVal.no rfl (fun c h => by cases h) rfl rfl rfl (gn_f rfl)) (by kernel_rfl) rfl (bl rfl) ?_
                clear hok
                intro hok
                refine TrAny.prom (i := 27) (d := 137) hok (OpVal.no rfl (fun c h => by cases h) rfl rfl rfl (gn_f rfl)) (by kernel_rfl) rfl (bl rfl) ?_
                clear hok
                intro hok
                refine TrAny.prom (i := 28) (d := 138) hok (OpVal.no rfl (fun c h => by cases h) rfl rfl rfl (gn_f rfl)) (by kernel_rfl) rfl (bl rfl) ?_
                clear hok
                intro hok
                refine TrAny.prom (i := 29) (d := 139) hok (OpVal.plain rfl rfl (v_pick_t rfl rfl rfl rfl)) (by kernel_rfl) rfl (bl rfl) ?_
                clear hok
                intro hok
                refine TrAny.done (by kernel_rfl) (by kernel_rfl) hok (by kernel_rfl) (qthen_n ?_)
                refine Tr.cond_t rfl rfl ?_
                refine Tr.seq ?_
                refine Tr.region ?_
                refine TrL.v (v_assign rfl rfl) rfl rfl (bl rfl) ?_
                refine TrL.nil (qthen_n ?_)
                have hz := Option.some.inj hy2
                subst hz
                refine Tr.ret (qblock_r (qthen_r (qloop_r (qblock_r (qcut_miss (by simp) (qcut_hit (()) (()) (hx4 _ rfl).symm (Imp.re _ [] [] (sc rfl sn) (by decide) rfl rfl rfl)))))))
              · refine TrAny.prom (i := 4) (d := 114) hok (OpVal.yes rfl rfl rfl rfl (bf_dec h188) (v_move rfl rfl)) (by kernel_rfl) rfl (bl rfl) ?_
                clear hok
                intro hok
                refine TrAny.prom (i := 5) (d := 115) hok (OpVal.yes rfl rfl rfl rfl (bf_dec h188) (v_move rfl rfl)) (by kernel_rfl) rfl (bl rfl) ?_
                clear hok
                intro hok
                refine TrAny.prom (i := 6) (d := 116) hok (OpVal.yes rfl rfl rfl rfl (bf_dec h188) (v_strne rfl rfl rfl)) (by kernel_rfl) rfl (bl rfl) ?_
                clear hok
                intro hok
                refine TrAny.prom (i := 7) (d := 117) hok (OpVal.plain rfl rfl (v_pick_f rfl rfl (bf_dec h188) rfl)) (by kernel_rfl) rfl (bl rfl) ?_
                clear hok
                intro hok
                refine TrAny.prom (i := 8) (d := 118) hok (OpVal.plain rfl rfl (v_move rfl rfl)) (by kernel_rfl) rfl (bl rfl) ?_
                clear hok
                intro hok
                rcases ifc hy2 with ⟨h189, hy2⟩ | ⟨h189, hy2⟩
                · refine TrAny.prom (i := 9) (d := 119) hok (OpVal.no rfl (fun c h => by cases h) rfl rfl rfl (gn_f (bt_dec h189))) (by kernel_rfl) rfl (bl rfl) ?_
                  clear hok
                  intro hok
                  refine TrAny.prom (i := 10) (d := 120) hok (OpVal.no rfl (fun c h => by cases h) rfl rfl rfl (gn_f (bt_dec h189))) (by kernel_rfl) rfl (bl rfl) ?_
                  clear hok
                  intro hok
                  refine TrAny.prom (i := 11) (d := 121) hok (OpVal.no rfl (fun c h => by cases h) rfl rfl rfl (gn_f (bt_dec h189))) (by kernel_rfl) rfl (bl rfl) ?_
                  clear hok
                  intro hok
                  refine TrAny.prom (i := 12) (d := 122) hok (OpVal.no rfl (fun c h => by cases h) rfl rfl rfl (gn_f (bt_dec h189))) (by kernel_rfl) rfl (bl rfl) ?_
                  clear hok
                  intro hok
                  refine TrAny.prom (i := 13) (d := 123) hok (OpVal.no rfl (fun c h => by cases h) rfl rfl rfl (gn_f (bt_dec h189))) (by kernel_rfl) rfl (bl rfl) ?_
                  clear hok
                  intro hok
                  refine TrAny.prom (i := 14) (d := 124) hok (OpVal.no rfl (fun c h => by cases h) rfl rfl rfl (gn_f (bt_dec h189))) (by kernel_rfl) rfl (bl rfl) ?_
                  clear hok
                  intro hok
                  refine TrAny.prom (i := 15) (d := 125) hok (OpVal.plain rfl rfl (v_pick_t rfl rfl (bt_dec h189) rfl)) (by kernel_rfl) rfl (bl rfl) ?_
                  clear hok
                  intro hok
                  refine TrAny.prom (i := 16) (d := 126) hok (OpVal.plain rfl rfl (v_move rfl rfl)) (by kernel_rfl) rfl (bl rfl) ?_
                  clear hok
                  intro hok
                  refine TrAny.prom (i := 17) (d := 127) hok (OpVal.no rfl (fun c h => by cases h) rfl rfl rfl (gn_f rfl)) (by kernel_rfl) rfl (bl rfl) ?_
                  clear hok
                  intro hok
                  refine TrAny.prom (i := 18) (d := 128) hok (OpVal.no rfl (fun c h => by cases h) rfl rfl rfl (gn_f rfl)) (by kernel_rfl) rfl (bl rfl) ?_
                  clear hok
                  intro hok
                  refine TrAny.prom (i := 19) (d := 129) hok (OpVal.no rfl (fun c h => by cases h) rfl rfl rfl (gn_f rfl)) (by kernel_rfl) rfl (bl rfl) ?_
                  clear hok
                  intro hok
                  refine TrAny.prom (i := 20) (d := 130) hok (OpVal.no rfl (fun c h => by cases h) rfl rfl rfl (gn_f rfl)) (by kernel_rfl) rfl (bl rfl) ?_
                  clear hok
                  intro hok
                  refine TrAny.prom (i := 21) (d := 131) hok (OpVal.no rfl (fun c h => by cases h) rfl rfl rfl (gn_f rfl)) (by kernel_rfl) rfl (bl rfl) ?_
                  clear hok
                  intro hok
                  refine TrAny.prom (i := 22) (d := 132) hok (OpVal.plain rfl rfl (v_pick_t rfl rfl rfl rfl)) (by kernel_rfl) rfl (bl rfl) ?_
                  clear hok
                  intro hok
                  refine TrAny.prom (i := 23) (d := 133) hok (OpVal.plain rfl rfl (v_move rfl rfl)) (by kernel_rfl) rfl (bl rfl) ?_
                  clear hok
                  intro hok
                  refine TrAny.prom (i := 24) (d := 134) hok (OpVal.no rfl (fun c h => by cases h) rfl rfl rfl (gn_f rfl)) (by kernel_rfl) rfl (bl rfl) ?_
                  clear hok
                  intro hok
                  refine TrAny.prom (i := 25) (d := 135) hok (OpVal.no rfl (fun c h => by cases h) rfl rfl rfl (gn_f rfl)) (by kernel_rfl) rfl (bl rfl) ?_
                  clear hok
                  intro hok
                  refine TrAny.prom (i := 26) (d := 136) hok (OpVal.no rfl (fun c h => by cases h) rfl rfl rfl (gn_f rfl)) (by kernel_rfl) rfl (bl rfl) ?_
                  clear hok
                  intro hok
                  refine TrAny.prom (i := 27) (d := 137) hok (OpVal.no rfl (fun c h => by cases h) rfl rfl rfl (gn_f rfl)) (by kernel_rfl) rfl (bl rfl) ?_
                  clear hok
                  intro hok
                  refine TrAny.prom (i := 28) (d := 138) hok (OpVal.no rfl (fun c h => by cases h) rfl rfl rfl (gn_f rfl)) (by kernel_rfl) rfl (bl rfl) ?_
                  clear hok
                  intro hok
                  refine TrAny.prom (i := 29) (d := 139) hok (OpVal.plain rfl rfl (v_pick_t rfl rfl rfl rfl)) (by kernel_rfl) rfl (bl rfl) ?_
                  clear hok
                  intro hok
                  refine TrAny.done (by kernel_rfl) (by kernel_rfl) hok (by kernel_rfl) (qthen_n ?_)
                  refine Tr.cond_t rfl rfl ?_
                  refine Tr.seq ?_
                  refine Tr.region ?_
                  refine TrL.v (v_assign rfl rfl) rfl rfl (bl rfl) ?_
                  refine TrL.nil (qthen_n ?_)
                  have hz := Option.some.inj hy2
                  subst hz
                  refine Tr.ret (qblock_r (qthen_r (qloop_r (qblock_r (qcut_miss (by simp) (qcut_hit (()) (()) (hx4 _ rfl).symm (Imp.re _ [] [] (sc rfl sn) (by decide) rfl rfl rfl)))))))
                · refine TrAny.prom (i := 9) (d := 119) hok (OpVal.yes rfl rfl rfl rfl (bf_dec h189) (v_move rfl rfl)) (by kernel_rfl) rfl (bl rfl) ?_
                  clear hok
                  intro hok
                  refine TrAny.prom (i := 11) (d := 121) hok (OpVal.yes rfl rfl rfl rfl (bf_dec h189) (v_fieldAddr' rfl fo67_0 rfl rfl)) (by kernel_rfl) rfl (bl rfl) ?_
                  clear hok
                  intro hok
                  refine TrAny.prom (i := 12) (d := 122) hok (OpVal.yes rfl rfl rfl rfl (bf_dec h189) (v_load (k := 1) rfl rfl rfl ty23 (fun _ => rfl) rfl rfl)) (by kernel_rfl) rfl (bl rfl) ?_
                  clear hok
                  intro hok
                  refine TrAny.prom (i := 13) (d := 123) hok (OpVal.yes rfl rfl rfl rfl (bf_dec h189) (v_len rfl sl23 rfl)) (by kernel_rfl) rfl (bl rfl) ?_
                  clear hok
                  intro hok
                  obtain ⟨r233, hr233, hy2⟩ := bnd hy2
                  refine TrAny.nextY (j := 10) (by kernel_rfl) hok rfl (by kernel_rfl) rfl rfl rfl (bf_dec h189) (op_callg' (fs := []) (vs := [.pointer (some ⟨m228, 0, none⟩)]) (cap := []) (Mr := [cells b101 [.slice m415.2.2.1 j22.2.2.2.2.2.2.1.length m415.2.2.2, .int .i64 j22.2.2.2.2.2.2.2] 67]) [0] [1] [1] rfl rfl rfl en34 (c_codec_Reader_Left ((j22.2.2.2.2.1, j22.2.2.2.2.2.1)) m228 m415.1 m415.2.1 r233 hr233) (by decide) rfl rfl rfl (bl rfl) (fun ret M' F' hR377 => ?_))
                  obtain ⟨rfl, rfl, rfl⟩ := hR377
                  refine nxp hok (by first | exact (kp_imp (kp_cc [0, 1] rfl (by decide) rfl)) | exact (kp_all (ac (.inr (OpVal.plain rfl rfl (v_move rfl rfl))) (ac (.inr (OpVal.plain rfl rfl (v_move rfl rfl))) (ac (.inr (OpVal.plain rfl rfl (v_arith rfl rfl rfl ar_neq))) (ac (.inr (OpVal.plain rfl rfl (v_move rfl rfl))) (ac (.inr (OpVal.yes rfl rfl rfl rfl (bf_dec h188) (v_move rfl rfl))) (ac (.inr (OpVal.yes rfl rfl rfl rfl (bf_dec h188) (v_move rfl rfl))) (ac (.inr (OpVal.yes rfl rfl rfl rfl (bf_dec h188) (v_strne rfl rfl rfl))) (ac (.inr (OpVal.plain rfl rfl (v_pick_f rfl rfl (bf_dec h188) rfl))) (ac (.inl (by kernel_rfl)) (ac (.inl (by kernel_rfl)) (ac (.inr (OpVal.yes rfl rfl rfl rfl (bf_dec h189) (v_fieldAddr' rfl fo67_0 rfl rfl))) (ac (.inr (OpVal.yes rfl rfl rfl rfl (bf_dec h189) (v_load (k := 1) rfl rfl rfl ty23 (fun _ => rfl) rfl rfl))) (ac (.inr (OpVal.yes rfl rfl rfl rfl (bf_dec h189) (v_len rfl sl23 rfl))) an))))))))))))))) rfl (by kernel_rfl) ?_
                  clear hok
                  intro hok
                  refine TrAny.prom (i := 14) (d := 124) hok (OpVal.yes rfl rfl rfl rfl (bf_dec h189) (v_arith rfl rfl rfl ar_neq)) (by kernel_rfl) rfl (bl rfl) ?_
                  clear hok
                  intro hok
                  refine TrAny.prom (i := 15) (d := 125) hok (OpVal.plain rfl rfl (v_pick_f rfl rfl (bf_dec h189) rfl)) (by kernel_rfl) rfl (bl rfl) ?_
                  clear hok
                  intro hok
                  refine TrAny.prom (i := 16) (d := 126) hok (OpVal.plain rfl rfl (v_move rfl rfl)) (by kernel_rfl) rfl (bl rfl) ?_
                  clear hok
                  intro hok
                  rcases ifc hy2 with ⟨h190, hy2⟩ | ⟨h190, hy2⟩
                  · refine TrAny.prom (i := 17) (d := 127) hok (OpVal.no rfl (fun c h => by cases h) rfl rfl rfl (gn_f (bt_dec h190))) (by kernel_rfl) rfl (bl rfl) ?_
                    clear hok
                    intro hok
                    refine TrAny.prom (i := 18) (d := 128) hok (OpVal.no rfl (fun c h => by cases h) rfl rfl rfl (gn_f (bt_dec h190))) (by kernel_rfl) rfl (bl rfl) ?_
                    clear hok
                    intro hok
                    refine TrAny.prom (i := 19) (d := 129) hok (OpVal.no rfl (fun c h => by cases h) rfl rfl rfl (gn_f (bt_dec h190))) (by kernel_rfl) rfl (bl rfl) ?_
                    clear hok
                    intro hok
                    refine TrAny.prom (i := 20) (d := 130) hok (OpVal.no rfl (fun c h => by cases h) rfl rfl rfl (gn_f (bt_dec h190))) (by kernel_rfl) rfl (bl rfl) ?_
                    clear hok
                    intro hok
                    refine TrAny.prom (i := 21) (d := 131) hok (OpVal.no rfl (fun c h => by cases h) rfl rfl rfl (gn_f (bt_dec h190))) (by kernel_rfl) rfl (bl rfl) ?_
                    clear hok
                    intro hok
                    refine TrAny.prom (i := 22) (d := 132) hok (OpVal.plain rfl rfl (v_pick_t rfl rfl (bt_dec h190) rfl)) (by kernel_rfl) rfl (bl rfl) ?_
                    clear hok
                    intro hok
                    refine TrAny.prom (i := 23) (d := 133) hok (OpVal.plain rfl rfl (v_move rfl rfl)) (by kernel_rfl) rfl (bl rfl) ?_
                    clear hok
                    intro hok
                    refine TrAny.prom (i := 24) (d := 134) hok (OpVal.no rfl (fun c h => by cases h) rfl rfl rfl (gn_f rfl)) (by kernel_rfl) rfl (bl rfl) ?_
                    clear hok
                    intro hok
                    refine TrAny.prom (i := 25) (d := 135) hok (OpVal.no rfl (fun c h => by cases h) rfl rfl rfl (gn_f rfl)) (by kernel_rfl) rfl (bl rfl) ?_
                    clear hok
                    intro hok
                    refine TrAny.prom (i := 26) (d := 136) hok (OpVal.no rfl (fun c h => by cases h) rfl rfl rfl (gn_f rfl)) (by kernel_rfl) rfl (bl rfl) ?_
                    clear hok
                    intro hok
                    refine TrAny.prom (i := 27) (d := 137) hok (OpVal.no rfl (fun c h => by cases h) rfl rfl rfl (gn_f rfl)) (by kernel_rfl) rfl (bl rfl) ?_
                    clear hok
                    intro hok
                    refine TrAny.prom (i := 28) (d := 138) hok (OpVal.no rfl (fun c h => by cases h) rfl rfl rfl (gn_f rfl)) (by kernel_rfl) rfl (bl rfl) ?_
                    clear hok
                    intro hok
                    refine TrAny.prom (i := 29) (d := 139) hok (OpVal.plain rfl rfl (v_pick_t rfl rfl rfl rfl)) (by kernel_rfl) rfl (bl rfl) ?_
                    clear hok
                    intro hok
                    refine TrAny.done (by kernel_rfl) (by kernel_rfl) hok (by kernel_rfl) (qthen_n ?_)
                    refine Tr.cond_t rfl rfl ?_
                    refine Tr.seq ?_
                    refine Tr.region ?_
                    refine TrL.v (v_assign rfl rfl) rfl rfl (bl rfl) ?_
                    refine TrL.nil (qthen_n ?_)
                    have hz := Option.some.inj hy2
                    subst hz
                    refine Tr.ret (qblock_r (qthen_r (qloop_r (qblock_r (qcut_miss (by simp) (qcut_hit (()) (()) (hx4 _ rfl).symm (Imp.re _ [] [] (sc rfl sn) (by decide) rfl rfl rfl)))))))
                  · refine TrAny.prom (i := 17) (d := 127) hok (OpVal.yes rfl rfl rfl rfl (bf_dec h190) (v_move rfl rfl)) (by kernel_rfl) rfl (bl rfl) ?_
                    clear hok
                    intro hok
                    refine TrAny.prom (i := 19) (d := 129) hok (OpVal.yes rfl rfl rfl rfl (bf_dec h190) (v_fieldAddr' rfl fo67_1 rfl rfl)) (by kernel_rfl) rfl (bl rfl) ?_
                    clear hok
                    intro hok
                    refine TrAny.prom (i := 20) (d := 130) hok (OpVal.yes rfl rfl rfl rfl (bf_dec h190) (v_load (k := 1) rfl rfl rfl ty3 (fun _ => rfl) rfl rfl)) (by kernel_rfl) rfl (bl rfl) ?_
                    clear hok
                    intro hok
                    obtain ⟨r234, hr234, hy2⟩ := bnd hy2
                    refine TrAny.nextY (j := 18) (by kernel_rfl) hok rfl (by kernel_rfl) rfl rfl rfl (bf_dec h190) (op_callg' (fs := []) (vs := [.pointer (some ⟨m228, 0, none⟩)]) (cap := []) (Mr := [cells b101 [.slice m415.2.2.1 j22.2.2.2.2.2.2.1.length m415.2.2.2, .int .i64 j22.2.2.2.2.2.2.2] 67]) [0] [1] [3] rfl rfl rfl en33 (c_codec_Reader_Err (((j22.2.2.2.2.1, j22.2.2.2.2.2.1))) m228 m415.1 m415.2.1 r234 hr234) (by decide) rfl rfl rfl (bl rfl) (fun ret M' F' hR378 => ?_))
                    obtain ⟨rfl, rfl, rfl⟩ := hR378
                    refine nxp hok (by first | exact (kp_imp (kp_cc [0, 1] rfl (by decide) rfl)) | exact (kp_all (ac (.inr (OpVal.plain rfl rfl (v_move rfl rfl))) (ac (.inr (OpVal.plain rfl rfl (v_move rfl rfl))) (ac (.inr (OpVal.plain rfl rfl (v_arith rfl rfl rfl ar_neq))) (ac (.inr (OpVal.plain rfl rfl (v_move rfl rfl))) (ac (.inr (OpVal.yes rfl rfl rfl rfl (bf_dec h188) (v_move rfl rfl))) (ac (.inr (OpVal.yes rfl rfl rfl rfl (bf_dec h188) (v_move rfl rfl))) (ac (.inr (OpVal.yes rfl rfl rfl rfl (bf_dec h188) (v_strne rfl rfl rfl))) (ac (.inr (OpVal.plain rfl rfl (v_pick_f rfl rfl (bf_dec h188) rfl))) (ac (.inr (OpVal.plain rfl rfl (v_move rfl rfl))) (ac (.inr (OpVal.yes rfl rfl rfl rfl (bf_dec h189) (v_move rfl rfl))) (ac (.inr (OpVal.yes rfl rfl rfl rfl (bf_dec h189) (v_fieldAddr' rfl fo67_0 rfl rfl))) (ac (.inr (OpVal.yes rfl rfl rfl rfl (bf_dec h189) (v_load (k := 1) rfl rfl rfl ty23 (fun _ => rfl) rfl rfl))) (ac (.inr (OpVal.yes rfl rfl rfl rfl (bf_dec h189) (v_len rfl sl23 rfl))) (ac (.inr (OpVal.yes rfl rfl rfl rfl (bf_dec h189) (v_arith rfl rfl rfl ar_neq))) (ac (.inr (OpVal.plain rfl rfl (v_pick_f rfl rfl (bf_dec h189) rfl))) (ac (.inl (by kernel_rfl)) (ac (.inl (by kernel_rfl)) (ac (.inr (OpVal.yes rfl rfl rfl rfl (bf_dec h190) (v_fieldAddr' rfl fo67_1 rfl rfl))) (ac (.inr (OpVal.yes rfl rfl rfl rfl (bf_dec h190) (v_load (k := 1) rfl rfl rfl ty3 (fun _ => rfl) rfl rfl))) an))))))))))))))))))))) rfl (by kernel_rfl) ?_
                    clear hok
                    intro hok
                    refine TrAny.prom (i := 21) (d := 131) hok (OpVal.yes rfl rfl rfl rfl (bf_dec h190) (v_arith rfl rfl rfl ar_neq)) (by kernel_rfl) rfl (bl rfl) ?_
                    clear hok
                    intro hok
                    refine TrAny.prom (i := 22) (d := 132) hok (OpVal.plain rfl rfl (v_pick_f rfl rfl (bf_dec h190) rfl)) (by kernel_rfl) rfl (bl rfl) ?_
                    clear hok
                    intro hok
                    refine TrAny.prom (i := 23) (d := 133) hok (OpVal.plain rfl rfl (v_move rfl rfl)) (by kernel_rfl) rfl (bl rfl) ?_
                    clear hok
                    intro hok
                    rcases ifc hy2 with ⟨h191, hy2⟩ | ⟨h191, hy2⟩
                    · refine TrAny.prom (i := 24) (d := 134) hok (OpVal.no rfl (fun c h => by cases h) rfl rfl rfl (gn_f (bt_dec h191))) (by kernel_rfl) rfl (bl rfl) ?_
                      clear hok
                      intro hok
                      refine TrAny.prom (i := 25) (d := 135) hok (OpVal.no rfl (fun c h => by cases h) rfl rfl rfl (gn_f (bt_dec h191))) (by kernel_rfl) rfl (bl rfl) ?_
                      clear hok
                      intro hok
                      refine TrAny.prom (i := 26) (d := 136) hok (OpVal.no rfl (fun c h => by cases h) rfl rfl rfl (gn_f (bt_dec h191))) (by kernel_rfl) rfl (bl rfl) ?_
                      clear hok
                      intro hok
                      refine TrAny.prom (i := 27) (d := 137) hok (OpVal.no rfl (fun c h => by cases h) rfl rfl rfl (gn_f (bt_dec h191))) (by kernel_rfl) rfl (bl rfl) ?_
                      clear hok
                      intro hok
                      refine TrAny.prom (i := 28) (d := 138) hok (OpVal.no rfl (fun c h => by cases h) rfl rfl rfl (gn_f (bt_dec h191))) (by kernel_rfl) rfl (bl rfl) ?_
                      clear hok
                      intro hok
                      refine TrAny.prom (i := 29) (d := 139) hok (OpVal.plain rfl rfl (v_pick_t rfl rfl (bt_dec h191) rfl)) (by kernel_rfl) rfl (bl rfl) ?_
                      clear hok
                      intro hok
                      refine TrAny.done (by kernel_rfl) (by kernel_rfl) hok (by kernel_rfl) (qthen_n ?_)
                      refine Tr.cond_t rfl rfl ?_
                      refine Tr.seq ?_
                      refine Tr.region ?_
                      refine TrL.v (v_assign rfl rfl) rfl rfl (bl rfl) ?_
                      refine TrL.nil (qthen_n ?_)
                      have hz := Option.some.inj hy2
                      subst hz
                      refine Tr.ret (qblock_r (qthen_r (qloop_r (qblock_r (qcut_miss (by simp) (qcut_hit (()) (()) (hx4 _ rfl).symm (Imp.re _ [] [] (sc rfl sn) (by decide) rfl rfl rfl)))))))
                    · refine TrAny.prom (i := 24) (d := 134) hok (OpVal.yes rfl rfl rfl rfl (bf_dec h191) (v_move rfl rfl)) (by kernel_rfl) rfl (bl rfl) ?_
                      clear hok
                      intro hok
                      refine TrAny.prom (i := 26) (d := 136) hok (OpVal.yes rfl rfl rfl rfl (bf_dec h191) (v_load (k := 1) rfl rfl rfl ty67 nofun rfl rfl)) (by kernel_rfl) rfl (bl rfl) ?_
                      clear hok
                      intro hok
                      obtain ⟨r235, hr235, hy2⟩ := bnd hy2
                      refine TrAny.nextY (j := 25) (by kernel_rfl) hok rfl (by kernel_rfl) rfl rfl rfl (bf_dec h191) (op_callg' (fs := []) (vs := [.pointer (some ⟨m228, 0, none⟩)]) (cap := []) (Mr := [cells b101 [.slice m415.2.2.1 j22.2.2.2.2.2.2.1.length m415.2.2.2, .int .i64 j22.2.2.2.2.2.2.2] 67]) [0] [1] [4] rfl rfl rfl en37 (c_codec_Reader_End ((((j22.2.2.2.2.1, j22.2.2.2.2.2.1)))) m228 m415.1 m415.2.1 r235 hr235) (by decide) rfl rfl rfl (bl rfl) (fun ret M' F' hR379 => ?_))
                      obtain ⟨rfl, rfl, rfl⟩ := hR379
                      refine nxp hok (by first | exact (kp_imp (kp_cc [0, 1] rfl (by decide) rfl)) | exact (kp_all (ac (.inr (OpVal.plain rfl rfl (v_move rfl rfl))) (ac (.inr (OpVal.plain rfl rfl (v_move rfl rfl))) (ac (.inr (OpVal.plain rfl rfl (v_arith rfl rfl rfl ar_neq))) (ac (.inr (OpVal.plain rfl rfl (v_move rfl rfl))) (ac (.inr (OpVal.yes rfl rfl rfl rfl (bf_dec h188) (v_move rfl rfl))) (ac (.inr (OpVal.yes rfl rfl rfl rfl (bf_dec h188) (v_move rfl rfl))) (ac (.inr (OpVal.yes rfl rfl rfl rfl (bf_dec h188) (v_strne rfl rfl rfl))) (ac (.inr (OpVal.plain rfl rfl (v_pick_f rfl rfl (bf_dec h188) rfl))) (ac (.inr (OpVal.plain rfl rfl (v_move rfl rfl))) (ac (.inr (OpVal.yes rfl rfl rfl rfl (bf_dec h189) (v_move rfl rfl))) (ac (.inr (OpVal.yes rfl rfl rfl rfl (bf_dec h189) (v_fieldAddr' rfl fo67_0 rfl rfl))) (ac (.inr (OpVal.yes rfl rfl rfl rfl (bf_dec h189) (v_load (k := 1) rfl rfl rfl ty23 (fun _ => rfl) rfl rfl))) (ac (.inr (OpVal.yes rfl rfl rfl rfl (bf_dec h189) (v_len rfl sl23 rfl))) (ac (.inr (OpVal.yes rfl rfl rfl rfl (bf_dec h189) (v_arith rfl rfl rfl ar_neq))) (ac (.inr (OpVal.plain rfl rfl (v_pick_f rfl rfl (bf_dec h189) rfl))) (ac (.inr (OpVal.plain rfl rfl (v_move rfl rfl))) (ac (.inr (OpVal.yes rfl rfl rfl rfl (bf_dec h190) (v_move rfl rfl))) (ac (.inr (OpVal.yes rfl rfl rfl rfl (bf_dec h190) (v_fieldAddr' rfl fo67_1 rfl rfl))) (ac (.inr (OpVal.yes rfl rfl rfl rfl (bf_dec h190) (v_load (k := 1) rfl rfl rfl ty3 (fun _ => rfl) rfl rfl))) (ac (.inr (OpVal.yes rfl rfl rfl rfl (bf_dec h190) (v_arith rfl rfl rfl ar_neq))) (ac (.inr (OpVal.plain rfl rfl (v_pick_f rfl rfl (bf_dec h190) rfl))) (ac (.inl (by kernel_rfl)) (ac (.inl (by kernel_rfl)) (ac (.inr (OpVal.yes rfl rfl rfl rfl (bf_dec h191) (v_load (k := 1) rfl rfl rfl ty67 nofun rfl rfl))) an)))))))))))))))))))))))))) rfl (by kernel_rfl) ?_
                      clear hok
                      intro hok
                      obtain ⟨r236, hr236, hy2⟩ := bnd hy2
                      refine TrAny.nextY (j := 27) (by kernel_rfl) hok rfl (by kernel_rfl) rfl rfl rfl (bf_dec h191) (op_call0' (vs := [.agg #[.slice m415.2.2.1 j22.2.2.2.2.2.2.1.length m415.2.2.2, .int .i64 j22.2.2.2.2.2.2.2]]) (cap := []) [2] rfl rfl (bl rfl) rfl rfl en49 (c_ref02_End j22.2.2.2.2.2.2 m415.2.2.1 m415.2.2.2 r236 hr236) rfl (fun ret M' F' hR380 => ?_))
                      obtain ⟨rfl, rfl, rfl⟩ := hR380
                      refine nxp hok (kp_imp (kp_c0 rfl)) rfl (by kernel_rfl) ?_
                      clear hok
                      intro hok
                      refine TrAny.prom (i := 28) (d := 138) hok (OpVal.yes rfl rfl rfl rfl (bf_dec h191) (v_arith rfl rfl rfl ar_neq)) (by kernel_rfl) rfl (bl rfl) ?_
                      clear hok
                      intro hok
                      refine TrAny.prom (i := 29) (d := 139) hok (OpVal.plain rfl rfl (v_pick_f rfl rfl (bf_dec h191) rfl)) (by kernel_rfl) rfl (bl rfl) ?_
                      clear hok
                      intro hok
                      refine TrAny.done (by kernel_rfl) (by kernel_rfl) hok (by kernel_rfl) (qthen_n ?_)
                      rcases ifc hy2 with ⟨h192, hy2⟩ | ⟨h192, hy2⟩
                      · refine Tr.cond_t rfl (bt_dec h192) ?_
                        refine Tr.seq ?_
                        refine Tr.region ?_
                        refine TrL.v (v_assign rfl rfl) rfl rfl (bl rfl) ?_
                        refine TrL.nil (qthen_n ?_)
                        have hz := Option.some.inj hy2
                        subst hz
                        refine Tr.ret (qblock_r (qthen_r (qloop_r (qblock_r (qcut_miss (by simp) (qcut_hit (()) (()) (hx4 _ rfl).symm (Imp.re _ [] [] (sc rfl sn) (by decide) rfl rfl rfl)))))))
                      · refine Tr.cond_f rfl (bf_dec h192) ?_
                        refine Tr.skip (qblock_n (qthen_n ?_))
                        refine Tr.region ?_
                        refine TrL.v (v_move rfl rfl) rfl rfl (bl rfl) ?_
                        refine TrL.v (v_arith rfl rfl rfl ar_add_i64) rfl rfl (bl rfl) ?_
                        refine TrL.v (v_assign rfl rfl) rfl rfl (bl rfl) ?_
                        have hz := Option.some.inj hy2
                        subst hz
                        refine TrL.nil (qloop_n ((m415.1, m415.2.1, m415.2.2.1, m415.2.2.2)) (Imp.re _ [0, 1] [0, 5, 2] (sc rfl (sc rfl (sc rfl (sc rfl (sc rfl sn))))) (by decide) rfl rfl rfl))
          · refine Tr.cond_f rfl (bf_dec h161) ?_
            have hz := Option.some.inj hy2
            subst hz
            refine Tr.exit (qthen_x (qloop_x (qblock_hit (qcut_hit ((s5.2.1, s5.2.2.1, s5.2.2.2.1, s5.2.2.2.2)) ((m301.1, m301.2.1, m301.2.2.1, m301.2.2.2)) (hx4 _ rfl).symm (Imp.re _ [0, 1] [1, 2] (sc rfl (sc rfl (sc rfl sn))) (by decide) rfl rfl rfl)))))
        · subst hd26
          replace H := sumr H
          refine (qcut_miss (by simp) (qthen_n ?_))
          refine Tr.seq ?_
          refine Tr.regionD drawn (fun hok => ?_)
          refine TrAny.prom (i := 0) (d := 140) hok (OpVal.plain rfl rfl (v_move rfl rfl)) (by kernel_rfl) rfl (bl rfl) ?_
          clear hok
          intro hok
          refine TrAny.prom (i := 1) (d := 141) hok (OpVal.plain rfl rfl (v_move rfl rfl)) (by kernel_rfl) rfl (bl rfl) ?_
          clear hok
          intro hok
          rcases ifc H with ⟨h196, H⟩ | ⟨h196, H⟩
          · refine TrAny.prom (i := 2) (d := 142) hok (OpVal.yes rfl rfl rfl rfl h196 (v_move rfl rfl)) (by kernel_rfl) rfl (bl rfl) ?_
            clear hok
            intro hok
            refine TrAny.prom (i := 4) (d := 144) hok (OpVal.yes rfl rfl rfl rfl h196 (v_fieldAddr' rfl fo67_0 rfl rfl)) (by kernel_rfl) rfl (bl rfl) ?_
            clear hok
            intro hok
            refine TrAny.prom (i := 5) (d := 145) hok (OpVal.yes rfl rfl rfl rfl h196 (v_load (k := 1) rfl rfl rfl ty23 (fun _ => rfl) rfl rfl)) (by kernel_rfl) rfl (bl rfl) ?_
            clear hok
            intro hok
            refine TrAny.prom (i := 6) (d := 146) hok (OpVal.yes rfl rfl rfl rfl h196 (v_len rfl sl23 rfl)) (by kernel_rfl) rfl (bl rfl) ?_
            clear hok
            intro hok
            obtain ⟨r240, hr240, H⟩ := bnd H
            refine TrAny.nextY (j := 3) (by kernel_rfl) hok rfl (by kernel_rfl) rfl rfl rfl h196 (op_callg' (fs := []) (vs := [.pointer (some ⟨m228, 0, none⟩)]) (cap := []) (Mr := [cells b101 [.slice m376.2.2.1 d4.2.2.1.length m376.2.2.2, .int .i64 d4.2.2.2] 67]) [0] [1] [0] rfl rfl rfl en34 (c_codec_Reader_Left ((d4.1, d4.2.1)) m228 m376.1 m376.2.1 r240 hr240) (by decide) rfl rfl rfl (bl rfl) (fun ret M' F' hR384 => ?_))
            obtain ⟨rfl, rfl, rfl⟩ := hR384
            refine nxp hok (by first | exact (kp_imp (kp_cc [0, 1] rfl (by decide) rfl)) | exact (kp_all (ac (.inr (OpVal.plain rfl rfl (v_move rfl rfl))) (ac (.inl (by kernel_rfl)) (ac (.inl (by kernel_rfl)) (ac (.inr (OpVal.yes rfl rfl rfl rfl h196 (v_fieldAddr' rfl fo67_0 rfl rfl))) (ac (.inr (OpVal.yes rfl rfl rfl rfl h196 (v_load (k := 1) rfl rfl rfl ty23 (fun _ => rfl) rfl rfl))) (ac (.inr (OpVal.yes rfl rfl rfl rfl h196 (v_len rfl sl23 rfl))) an)))))))) rfl (by kernel_rfl) ?_
            clear hok
            intro hok
            refine TrAny.prom (i := 7) (d := 147) hok (OpVal.yes rfl rfl rfl rfl h196 (v_arith rfl rfl rfl ar_eql)) (by kernel_rfl) rfl (bl rfl) ?_
            clear hok
            intro hok
            refine TrAny.prom (i := 8) (d := 148) hok (OpVal.plain rfl rfl (v_pick_t rfl rfl h196 rfl)) (by kernel_rfl) rfl (bl rfl) ?_
            clear hok
            intro hok
            refine TrAny.prom (i := 9) (d := 4) hok (OpVal.plain rfl rfl (v_assign rfl rfl)) (by kernel_rfl) rfl (bl rfl) ?_
            clear hok
            intro hok
            refine TrAny.done (by kernel_rfl) (by kernel_rfl) hok (by kernel_rfl) (qthen_n ?_)
            have hz := Option.some.inj H
            subst hz
            refine Tr.ret (ret_r ⟨[(4, .bool (decide (((((d4.1, d4.2.1)).1.length : Int)) = ((d4.2.2.1.length : Int)))))], [], [], []⟩ [.bool (decide (((((d4.1, d4.2.1)).1.length : Int)) = ((d4.2.2.1.length : Int))))] [] [] (Imp.re _ [] [] (sc rfl sn) (by decide) rfl rfl rfl) rfl rfl ⟨rfl, rfl, rfl⟩ (.cons (resv_tmp rfl) .nil))
          · refine TrAny.prom (i := 2) (d := 142) hok (OpVal.no rfl (fun c h => by cases h) rfl rfl rfl (gn_t (bf_b h196))) (by kernel_rfl) rfl (bl rfl) ?_
            clear hok
            intro hok
            refine TrAny.prom (i := 3) (d := 143) hok (OpVal.no rfl (fun c h => by cases h) rfl rfl rfl (gn_t (bf_b h196))) (by kernel_rfl) rfl (bl rfl) ?_
            clear hok
            intro hok
            refine TrAny.prom (i := 4) (d := 144) hok (OpVal.no rfl (fun c h => by cases h) rfl rfl rfl (gn_t (bf_b h196))) (by kernel_rfl) rfl (bl rfl) ?_
            clear hok
            intro hok
            refine TrAny.prom (i := 5) (d := 145) hok (OpVal.no rfl (fun c h => by cases h) rfl rfl rfl (gn_t (bf_b h196))) (by kernel_rfl) rfl (bl rfl) ?_
            clear hok
            intro hok
            refine TrAny.prom (i := 6) (d := 146) hok (OpVal.no rfl (fun c h => by cases h) rfl rfl rfl (gn_t (bf_b h196))) (by kernel_rfl) rfl (bl rfl) ?_
            clear hok
            intro hok
            refine TrAny.prom (i := 7) (d := 147) hok (OpVal.no rfl (fun c h => by cases h) rfl rfl rfl (gn_t (bf_b h196))) (by kernel_rfl) rfl (bl rfl) ?_
            clear hok
            intro hok
            refine TrAny.prom (i := 8) (d := 148) hok (OpVal.plain rfl rfl (v_pick_f rfl rfl (bf_b h196) rfl)) (by kernel_rfl) rfl (bl rfl) ?_
            clear hok
            intro hok
            refine TrAny.prom (i := 9) (d := 4) hok (OpVal.plain rfl rfl (v_assign rfl rfl)) (by kernel_rfl) rfl (bl rfl) ?_
            clear hok
            intro hok
            refine TrAny.done (by kernel_rfl) (by kernel_rfl) hok (by kernel_rfl) (qthen_n ?_)
            have hz := Option.some.inj H
            subst hz
            refine Tr.ret (ret_r ⟨[(4, .bool false)], [], [], []⟩ [.bool false] [] [] (Imp.re _ [] [] (sc rfl sn) (by decide) rfl rfl rfl) rfl rfl ⟨rfl, rfl, rfl⟩ (.cons (resv_tmp rfl) .nil))
      · subst hd25
        replace H := suml H
        have hz := Option.some.inj H
        subst hz
        refine (qthen_r (ret_r ⟨[(4, .bool false)], [], [], []⟩ [.bool false] [] [] (Imp.re _ [] [] (sc rfl sn) (by decide) rfl rfl rfl) rfl rfl ⟨rfl, rfl, rfl⟩ (.cons (resv_tmp rfl) .nil)))
end Go.Proofs.Ythgeodagikmpjaa.W
