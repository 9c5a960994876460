/- The contracts of the walked functions: the printed walks. -/
import Derived.Test.YtbeknohemgjfbaaKc
import Derived.Test.YtbeknohemgjfbaaQc
import Derived.Test.YtbeknohemgjfbaaWcodecac
import Derived.Test.YtbeknohemgjfbaaWlaw11ac
import Derived.Test.YtbeknohemgjfbaaWlaw11bc
import Derived.Test.YtbeknohemgjfbaaWlaw11cc
import Derived.Test.YtbeknohemgjfbaaWrecordac
import Derived.Test.YtbeknohemgjfbaaWrecordbc
import Derived.Test.YtbeknohemgjfbaaWref06bc
namespace Go.Proofs.Ytbeknohemgjfbaa.W
open Go Go.Proofs Go.Proofs.Ytbeknohemgjfbaa.L Go.Proofs.Ytbeknohemgjfbaa.Pu
set_option linter.unusedVariables false
set_option maxHeartbeats 4000000

theorem c_law11_RecordLists (p1 : Int) (p2 : List (List (Int × Int))) (A1 : Option Addr) (c1 : Nat) (r : Bool) (H : law11_RecordLists p1 p2 = some r) :
    Ctr Try.prog 8 [.int .i64 p1, .slice A1 p2.length c1] [] [slF (rSl rp_u64_u64) A1 c1 p2] (fun ret M' F' => ret = .bool r ∧ M' = [] ∧ F' = []) := by
  unfold law11_RecordLists at H
  refine ctr_ofI (N := 55) Try.func8 rfl Try.ntmps8 rfl (Nat.le_of_ble_eq_true rfl) (fun γ0 w0 => ?_)
  refine Tr.seq ?_
  refine Tr.region ?_
  refine TrL.v (v_assign rfl rfl) rfl rfl (bl rfl) ?_
  refine TrL.nil (qthen_n ?_)
  refine Tr.seq ?_
  refine Tr.region ?_
  obtain ⟨r32, hr32, H⟩ := bnd H
  refine TrL.cons rfl (op_call0' (vs := []) (cap := []) [] rfl rfl (bl rfl) rfl rfl en20 (c_law11_awake r32 hr32) rfl (fun ret M' F' hR32 => ?_))
  obtain ⟨rfl, rfl, rfl⟩ := hR32
  refine TrL.v (v_assign rfl rfl) rfl rfl (bl rfl) ?_
  refine TrL.nil (qthen_n ?_)
  refine Tr.seq ?_
  refine Tr.seq ?_
  refine Tr.region ?_
  refine TrL.v (v_move rfl rfl) rfl rfl (bl rfl) ?_
  refine TrL.v (v_len rfl sl66 rfl) rfl rfl (bl rfl) ?_
  refine TrL.v (v_arith rfl rfl rfl ar_gtr) rfl rfl (bl rfl) ?_
  refine TrL.nil (qthen_n ?_)
  rcases ifc H with ⟨h16, H⟩ | ⟨h16, H⟩
  · refine Tr.cond_t rfl (bt_dec h16) ?_
    refine Tr.seq ?_
    refine Tr.region ?_
    refine TrL.v (v_move rfl rfl) rfl rfl (bl rfl) ?_
    refine TrL.v (v_assign rfl rfl) rfl rfl (bl rfl) ?_
    refine TrL.nil (qthen_n ?_)
    have hz := Option.some.inj H
    subst hz
    refine Tr.ret (qthen_r (ret_r ⟨[(4, .bool r32)], [], [], []⟩ [.bool r32] [] [] (Imp.re _ [] [] (sc rfl sn) (by decide) rfl rfl rfl) rfl rfl ⟨rfl, rfl, rfl⟩ (.cons (resv_tmp rfl) .nil)))
  · refine Tr.cond_f rfl (bf_dec h16) ?_
    refine Tr.skip (qthen_n ?_)
    refine Tr.seq ?_
    refine Tr.region ?_
    refine TrL.v (v_assign rfl rfl) rfl rfl (bl rfl) ?_
    refine TrL.nil (qthen_n ?_)
    refine Tr.seq ?_
    refine Tr.seq ?_
    refine Tr.region ?_
    refine TrL.v (v_assign rfl rfl) rfl rfl (bl rfl) ?_
    refine TrL.nil (qthen_n ?_)
    obtain ⟨x3, hx5, H⟩ := bnd H
    refine Tr.cutE (D := List Int) (M := Option Addr × Nat × Option Nat) .normal (fun _d => x3 = _d) (fun x3 m51 => ⟨[(0, .int .i64 p1), (1, .slice A1 p2.length c1), (5, .bool r32), (6, .slice m51.1 x3.length m51.2.1)], [grow 5 1 (.slice m51.1 x3.length m51.2.1) x3.length m51.2.2], [slF (rSl rp_u64_u64) A1 c1 p2, slF (rInt .u8) m51.1 m51.2.1 x3], []⟩) ?_ (fun x3 m51 hd4 => ?_)
    · refine Tr.block (Tr.loopI (ι := Option Addr × Nat × Option Nat) (step := law11_RecordLists_s0 p1 p2) (fun s8 m46 => ⟨[(0, .int .i64 p1), (1, .slice A1 p2.length c1), (5, .bool r32), (6, .slice m46.1 s8.1.length m46.2.1), (7, .int .i64 s8.2)], [grow 5 1 (.slice m46.1 s8.1.length m46.2.1) s8.1.length m46.2.2], [slF (rSl rp_u64_u64) A1 c1 p2, slF (rInt .u8) m46.1 m46.2.1 s8.1], []⟩) ((none, 0, none)) hx5 (Imp.full' (E := 5) (sz := 1) (A := none) (n := 0) (Imp.addF' _ (nilF (rInt .u8)) (Imp.re _ [0] [0, 1] (sc rfl (sc rfl (sc rfl (sc rfl (sc rfl sn))))) (by decide) rfl rfl rfl))) (fun s8 m46 y3 hy3 hx6 => ?_))
      unfold law11_RecordLists_s0 at hy3
      refine Tr.seq ?_
      refine Tr.seq ?_
      refine Tr.region ?_
      refine TrL.v (v_move rfl rfl) rfl rfl (bl rfl) ?_
      refine TrL.v (v_move rfl rfl) rfl rfl (bl rfl) ?_
      refine TrL.v (v_len rfl sl66 rfl) rfl rfl (bl rfl) ?_
      refine TrL.v (v_arith rfl rfl rfl ar_lss) rfl rfl (bl rfl) ?_
      refine TrL.nil (qthen_n ?_)
      rcases ifc hy3 with ⟨h21, hy3⟩ | ⟨h21, hy3⟩
      · refine Tr.cond_t rfl (bt_dec h21) ?_
        refine Tr.skip (qthen_n ?_)
        refine Tr.seq ?_
        refine Tr.block ?_
        refine Tr.region ?_
        refine TrL.v (v_move rfl rfl) rfl rfl (bl rfl) ?_
        refine TrL.v (v_move rfl rfl) rfl rfl (bl rfl) ?_
        refine TrL.v (v_move rfl rfl) rfl rfl (bl rfl) ?_
        refine TrL.v (v_move rfl rfl) rfl rfl (bl rfl) ?_
        obtain ⟨z12, hz12, hy3⟩ := bnd hy3
        refine TrL.v (v_indexAddr (k := 0) rfl sl66 ty22 rfl rfl rfl rfl hz12) rfl rfl (bl rfl) ?_
        refine TrL.openS' (k := 0) rfl hz12 (fun A18 c18 => ?_)
        refine TrL.v (v_loadF (k := 3) rfl ty22 rfl rfl) rfl rfl (bl rfl) ?_
        obtain ⟨r39, hr39, hy3⟩ := bnd hy3
        refine TrL.cons rfl (op_call0' (vs := [.int .i64 p1, .slice A18 z12.length c18]) (cap := []) [2] rfl rfl (bl rfl) rfl rfl en16 (c_ref06_Made p1 z12 A18 c18 r39 hr39) rfl (fun ret M' F' hR39 => ?_))
        obtain ⟨m52, rfl, rfl, rfl⟩ := hR39
        obtain ⟨r40, hr40, hy3⟩ := bnd hy3
        refine TrL.cons rfl (op_call0' (vs := [.agg #[.int .i64 r39.1, .int .i64 r39.2.1, .slice m52.1 r39.2.2.length m52.2]]) (cap := []) [4] rfl rfl (bl rfl) rfl rfl en23 (c_law11_made r39 m52.1 m52.2 r40 hr40) rfl (fun ret M' F' hR40 => ?_))
        obtain ⟨rfl, rfl, rfl⟩ := hR40
        obtain ⟨r41, hr41, hy3⟩ := bnd hy3
        refine TrL.cons rfl (op_call0' (vs := [.agg #[.int .i64 r39.1, .int .i64 r39.2.1, .slice m52.1 r39.2.2.length m52.2]]) (cap := []) [4] rfl rfl (bl rfl) rfl rfl en22 (c_record_Put r39 m52.1 m52.2 r41 hr41) rfl (fun ret M' F' hR41 => ?_))
        obtain ⟨m54, rfl, rfl, rfl⟩ := hR41
        obtain ⟨h22, hy3⟩ := rom hy3
        refine TrL.cons rfl (op_append' (rp := (rInt .u8)) (xs := s8.1) (ys := r41) (k := 0) (kx := 1) (ky := 6) rfl (bl rfl) rfl sl40 ty5 ze5 rfl by5 rfl rfl rfl rfl rfl rfl rfl h22.1 h22.2 (fun A19 c19 o6 => ?_))
        refine TrL.v (v_assign rfl rfl) rfl rfl (bl rfl) ?_
        refine TrL.nil (qblock_n (qthen_n ?_))
        refine Tr.region ?_
        refine TrL.v (v_move rfl rfl) rfl rfl (bl rfl) ?_
        refine TrL.v (v_arith rfl rfl rfl ar_add_i64) rfl rfl (bl rfl) ?_
        refine TrL.v (v_assign rfl rfl) rfl rfl (bl rfl) ?_
        have hz := Option.some.inj hy3
        subst hz
        refine TrL.nil (qloop_n ((A19, c19, o6)) (Imp.re _ [0] [0, 7] (sc rfl (sc rfl (sc rfl (sc rfl (sc rfl sn))))) (by decide) rfl rfl rfl))
      · refine Tr.cond_f rfl (bf_dec h21) ?_
        have hz := Option.some.inj hy3
        subst hz
        refine Tr.exit (qthen_x (qloop_x (qblock_hit (qcut_hit s8.1 ((m46.1, m46.2.1, m46.2.2)) (hx6 _ rfl).symm (Imp.re _ [0] [0, 1] (sc rfl (sc rfl (sc rfl (sc rfl sn)))) (by decide) rfl rfl rfl)))))
    · subst hd4
      refine (qthen_n ?_)
      refine Tr.seq ?_
      refine Tr.region ?_
      refine TrL.v (v_move rfl rfl) rfl rfl (bl rfl) ?_
      obtain ⟨r42, hr42, H⟩ := bnd H
      refine TrL.cons rfl (op_call0' (vs := [.slice m51.1 x3.length m51.2.1]) (cap := []) [1] rfl rfl (bl rfl) rfl rfl en27 (c_codec_New x3 m51.1 m51.2.1 r42 hr42) rfl (fun ret M' F' hR42 => ?_))
      obtain ⟨m55, rfl, rfl, rfl⟩ := hR42
      refine TrL.v (v_assign rfl rfl) rfl rfl (bl rfl) ?_
      refine TrL.nil (qthen_n ?_)
      refine Tr.seq ?_
      refine Tr.seq ?_
      refine Tr.region ?_
      refine TrL.v (v_assign rfl rfl) rfl rfl (bl rfl) ?_
      refine TrL.nil (qthen_n ?_)
      obtain ⟨x4, hx7, H⟩ := bnd H
      refine Tr.cutE (D := Unit) (M := Unit) .ret (fun d3 => x4 = .inl d3) (fun d3 m71 => ⟨[(4, .bool false)], [], [], []⟩) ?_ (fun d3 m71 hd5 => ?_)
      · refine Tr.cutE (D := List Int × Int) (M := Option Addr × Nat) .normal (fun d4 => x4 = .inr d4) (fun d4 m72 => ⟨[(5, .bool r32), (8, .pointer (some ⟨m55, 0, none⟩))], [cells m55 [.slice m72.1 d4.1.length m72.2, .int .i64 d4.2] 116], [slF (rInt .u8) m72.1 m72.2 d4.1], []⟩) ?_ (fun d4 m72 hd6 => ?_)
        · refine Tr.block (Tr.loopI (ι := Option Addr × Nat) (step := law11_RecordLists_s1 p1 p2) (fun s11 m63 => ⟨[(0, .int .i64 p1), (1, .slice A1 p2.length c1), (5, .bool r32), (8, .pointer (some ⟨m55, 0, none⟩)), (9, .int .i64 s11.1)], [cells m55 [.slice m63.1 s11.2.1.length m63.2, .int .i64 s11.2.2] 116], [slF (rSl rp_u64_u64) A1 c1 p2, slF (rInt .u8) m63.1 m63.2 s11.2.1], []⟩) ((slA m51.1 0 ((x3.length : Int)).toNat 1, ((x3.length : Int)).toNat)) hx7 (Imp.re _ [0] [0, 2] (sc rfl (sc rfl (sc rfl (sc rfl (sc rfl sn))))) (by decide) rfl rfl rfl) (fun s11 m63 y4 hy4 hx8 => ?_))
          unfold law11_RecordLists_s1 at hy4
          refine Tr.seq ?_
          refine Tr.seq ?_
          refine Tr.region ?_
          refine TrL.v (v_move rfl rfl) rfl rfl (bl rfl) ?_
          refine TrL.v (v_move rfl rfl) rfl rfl (bl rfl) ?_
          refine TrL.v (v_len rfl sl66 rfl) rfl rfl (bl rfl) ?_
          refine TrL.v (v_arith rfl rfl rfl ar_lss) rfl rfl (bl rfl) ?_
          refine TrL.nil (qthen_n ?_)
          rcases ifc hy4 with ⟨h27, hy4⟩ | ⟨h27, hy4⟩
          · refine Tr.cond_t rfl (bt_dec h27) ?_
            refine Tr.skip (qthen_n ?_)
            refine Tr.seq ?_
            refine Tr.block ?_
            refine Tr.seq ?_
            refine Tr.regionD drawn (fun hok => ?_)
            refine TrAny.prom (i := 0) (d := 39) hok (OpVal.plain rfl rfl (v_move rfl rfl)) (by kernel_rfl) rfl (bl rfl) ?_
            clear hok
            intro hok
            refine TrAny.prom (i := 2) (d := 41) hok (OpVal.plain rfl rfl (v_move rfl rfl)) (by kernel_rfl) rfl (bl rfl) ?_
            clear hok
            intro hok
            refine TrAny.prom (i := 3) (d := 42) hok (OpVal.plain rfl rfl (v_move rfl rfl)) (by kernel_rfl) rfl (bl rfl) ?_
            clear hok
            intro hok
            refine TrAny.prom (i := 4) (d := 43) hok (OpVal.plain rfl rfl (v_move rfl rfl)) (by kernel_rfl) rfl (bl rfl) ?_
            clear hok
            intro hok
            obtain ⟨z18, hz18, hy4⟩ := bnd hy4
            refine TrAny.prom (i := 5) (d := 44) hok (OpVal.plain rfl rfl (v_indexAddr (k := 0) rfl sl66 ty22 rfl rfl rfl rfl hz18)) (by kernel_rfl) rfl (bl rfl) ?_
            clear hok
            intro hok
            refine TrAny.openS' (k := 0) rfl hz18 hok (fun A25 c25 hok => ?_)
            refine TrAny.prom (i := 6) (d := 45) hok (OpVal.plain rfl rfl (v_loadF (k := 3) rfl ty22 rfl rfl)) (by kernel_rfl) rfl (bl rfl) ?_
            clear hok
            intro hok
            obtain ⟨r58, hr58, hy4⟩ := bnd hy4
            refine TrAny.next (j := 1) (by kernel_rfl) hok rfl (by kernel_rfl) (op_callg' (fs := []) (vs := [.pointer (some ⟨m55, 0, none⟩)]) (cap := []) (Mr := []) [0] [] [1] rfl rfl rfl en28 (c_record_Take s11.2 m55 m63.1 m63.2 r58 hr58) (by decide) rfl rfl rfl (bl rfl) (fun ret M' F' hR58 => ?_))
            obtain ⟨m76, rfl, rfl, rfl⟩ := hR58
            refine nxp hok (by first | exact (kp_imp (kp_cc [0] rfl (by decide) rfl)) | exact (kp_all (ac (.inl (by kernel_rfl)) (ac (.inr (OpVal.plain rfl rfl (v_move rfl rfl))) (ac (.inr (OpVal.plain rfl rfl (v_move rfl rfl))) (ac (.inr (OpVal.plain rfl rfl (v_move rfl rfl))) (ac (.inr (OpVal.plain rfl rfl (v_indexAddr (k := 0) rfl sl66 ty22 rfl rfl rfl rfl hz18))) (ac (.inr (OpVal.plain rfl rfl (v_loadF (k := 3) rfl ty22 rfl rfl))) an)))))))) rfl (by kernel_rfl) ?_
            clear hok
            intro hok
            obtain ⟨r59, hr59, hy4⟩ := bnd hy4
            refine TrAny.next (j := 7) (by kernel_rfl) hok rfl (by kernel_rfl) (op_call0' (vs := [.int .i64 p1, .slice A25 z18.length c25]) (cap := []) [2] rfl rfl (bl rfl) rfl rfl en16 (c_ref06_Made p1 z18 A25 c25 r59 hr59) rfl (fun ret M' F' hR59 => ?_))
            obtain ⟨m77, rfl, rfl, rfl⟩ := hR59
            refine nxp hok (kp_imp (kp_c0 rfl)) rfl (by kernel_rfl) ?_
            clear hok
            intro hok
            obtain ⟨r60, hr60, hy4⟩ := bnd hy4
            refine TrAny.next (j := 8) (by kernel_rfl) hok rfl (by kernel_rfl) (op_call0' (vs := [.agg #[.int .i64 r58.1, .int .i64 r58.2.1, .slice m76.1 r58.2.2.1.length m76.2.1], .agg #[.int .i64 r59.1, .int .i64 r59.2.1, .slice m77.1 r59.2.2.length m77.2]]) (cap := []) [4, 6] rfl rfl (bl rfl) rfl rfl en30 (c_law11_same ((r58.1, r58.2.1, r58.2.2.1)) r59 m76.1 m76.2.1 m77.1 m77.2 r60 hr60) rfl (fun ret M' F' hR60 => ?_))
            obtain ⟨rfl, rfl, rfl⟩ := hR60
            refine nxp hok (kp_imp (kp_c0 rfl)) rfl (by kernel_rfl) ?_
            clear hok
            intro hok
            refine TrAny.prom (i := 9) (d := 48) hok (OpVal.plain rfl rfl (v_notd rfl (bdec rfl))) (by kernel_rfl) rfl (bl rfl) ?_
            clear hok
            intro hok
            refine TrAny.done (by kernel_rfl) (by kernel_rfl) hok (by kernel_rfl) (qthen_n ?_)
            rcases ifc hy4 with ⟨h28, hy4⟩ | ⟨h28, hy4⟩
            · refine Tr.cond_t rfl (bt_dec h28) ?_
              refine Tr.seq ?_
              refine Tr.region ?_
              refine TrL.v (v_assign rfl rfl) rfl rfl (bl rfl) ?_
              refine TrL.nil (qthen_n ?_)
              have hz := Option.some.inj hy4
              subst hz
              refine Tr.ret (qblock_r (qthen_r (qloop_r (qblock_r (qcut_miss (by simp) (qcut_hit (()) (()) (hx8 _ rfl).symm (Imp.re _ [] [] (sc rfl sn) (by decide) rfl rfl rfl)))))))
            · refine Tr.cond_f rfl (bf_dec h28) ?_
              refine Tr.skip (qblock_n (qthen_n ?_))
              refine Tr.region ?_
              refine TrL.v (v_move rfl rfl) rfl rfl (bl rfl) ?_
              refine TrL.v (v_arith rfl rfl rfl ar_add_i64) rfl rfl (bl rfl) ?_
              refine TrL.v (v_assign rfl rfl) rfl rfl (bl rfl) ?_
              have hz := Option.some.inj hy4
              subst hz
              refine TrL.nil (qloop_n ((m76.2.2.1, m76.2.2.2)) (Imp.re _ [0] [0, 5] (sc rfl (sc rfl (sc rfl (sc rfl (sc rfl sn))))) (by decide) rfl rfl rfl))
          · refine Tr.cond_f rfl (bf_dec h27) ?_
            have hz := Option.some.inj hy4
            subst hz
            refine Tr.exit (qthen_x (qloop_x (qblock_hit (qcut_hit ((s11.2.1, s11.2.2)) ((m63.1, m63.2)) (hx8 _ rfl).symm (Imp.re _ [0] [1] (sc rfl (sc rfl sn)) (by decide) rfl rfl rfl)))))
        · subst hd6
          replace H := sumr H
          refine (qcut_miss (by simp) (qthen_n ?_))
          refine Tr.seq ?_
          refine Tr.region ?_
          refine TrL.v (v_move rfl rfl) rfl rfl (bl rfl) ?_
          refine TrL.v (v_move rfl rfl) rfl rfl (bl rfl) ?_
          rcases ifc H with ⟨h30, H⟩ | ⟨h30, H⟩
          · refine TrL.cons_yes rfl rfl rfl h30 (OpTr.v (v_move rfl rfl) rfl (bl rfl) ?_)
            obtain ⟨r62, hr62, H⟩ := bnd H
            refine TrL.cons_yes rfl rfl rfl h30 (op_callg' (fs := []) (vs := [.pointer (some ⟨m55, 0, none⟩)]) (cap := []) (Mr := []) [0] [] [0] rfl rfl rfl en36 (c_codec_Reader_End d4 m55 m72.1 m72.2 r62 hr62) (by decide) rfl rfl rfl (bl rfl) (fun ret M' F' hR62 => ?_))
            obtain ⟨rfl, rfl, rfl⟩ := hR62
            refine TrL.cons_yes rfl rfl rfl h30 (OpTr.v (v_arith rfl rfl rfl ar_eql) rfl (bl rfl) ?_)
            refine TrL.v (v_pick_t rfl rfl h30 rfl) rfl rfl (bl rfl) ?_
            refine TrL.v (v_assign rfl rfl) rfl rfl (bl rfl) ?_
            refine TrL.nil (qthen_n ?_)
            have hz := Option.some.inj H
            subst hz
            refine Tr.ret (ret_r ⟨[(4, .bool (decide (r62 = 0)))], [], [], []⟩ [.bool (decide (r62 = 0))] [] [] (Imp.re _ [] [] (sc rfl sn) (by decide) rfl rfl rfl) rfl rfl ⟨rfl, rfl, rfl⟩ (.cons (resv_tmp rfl) .nil))
          · refine TrL.cons_no rfl rfl rfl (gn_t (bf_b h30)) rfl (bl rfl) ?_
            refine TrL.cons_no rfl rfl rfl (gn_t (bf_b h30)) rfl (bl rfl) ?_
            refine TrL.cons_no rfl rfl rfl (gn_t (bf_b h30)) rfl (bl rfl) ?_
            refine TrL.v (v_pick_f rfl rfl (bf_b h30) rfl) rfl rfl (bl rfl) ?_
            refine TrL.v (v_assign rfl rfl) rfl rfl (bl rfl) ?_
            refine TrL.nil (qthen_n ?_)
            have hz := Option.some.inj H
            subst hz
            refine Tr.ret (ret_r ⟨[(4, .bool false)], [], [], []⟩ [.bool false] [] [] (Imp.re _ [] [] (sc rfl sn) (by decide) rfl rfl rfl) rfl rfl ⟨rfl, rfl, rfl⟩ (.cons (resv_tmp rfl) .nil))
      · subst hd5
        replace H := suml H
        have hz := Option.some.inj H
        subst hz
        refine (qthen_r (ret_r ⟨[(4, .bool false)], [], [], []⟩ [.bool false] [] [] (Imp.re _ [] [] (sc rfl sn) (by decide) rfl rfl rfl) rfl rfl ⟨rfl, rfl, rfl⟩ (.cons (resv_tmp rfl) .nil)))
end Go.Proofs.Ytbeknohemgjfbaa.W
