/- The contracts of the walked functions: the printed walks. -/
import Derived.Test.YtbnjjpmlaknaoaaKa
import Derived.Test.YtbnjjpmlaknaoaaQa
import Derived.Test.YtbnjjpmlaknaoaaWcheckaa
import Derived.Test.YtbnjjpmlaknaoaaWcheckba
import Derived.Test.YtbnjjpmlaknaoaaWexpiryaa
import Derived.Test.YtbnjjpmlaknaoaaWlaw09aa
import Derived.Test.YtbnjjpmlaknaoaaWlaw09ba
import Derived.Test.YtbnjjpmlaknaoaaWref06ba
import Derived.Test.YtbnjjpmlaknaoaaWref07aa
namespace Go.Proofs.Ytbnjjpmlaknaoaa.W
open Go Go.Proofs Go.Proofs.Ytbnjjpmlaknaoaa.L Go.Proofs.Ytbnjjpmlaknaoaa.Pu
set_option linter.unusedVariables false
set_option maxHeartbeats 4000000

theorem c_law09_CheckBound (p1 : Int) (p2 : List (Int × Int)) (p3 : Int × Int) (A1 : Option Addr) (c1 : Nat) (r : Bool) (H : law09_CheckBound p1 p2 p3 = some r) :
    Ctr Try.prog 21 [.int .i64 p1, .slice A1 p2.length c1, .agg #[.int .u64 p3.1, .int .u64 p3.2]] [] [slF rp_u64_u64 A1 c1 p2] (fun ret M' F' => ret = .bool r ∧ M' = [] ∧ F' = []) := by
  unfold law09_CheckBound at H
  refine ctr_ofI (N := 93) Try.func21 rfl Try.ntmps21 rfl (Nat.le_of_ble_eq_true rfl) (fun γ0 w0 => ?_)
  refine Tr.seq ?_
  refine Tr.region ?_
  refine TrL.cons rfl (op_box' rfl (bl rfl) rfl rfl rfl (fun b25 => ?_))
  refine TrL.v (v_assign rfl rfl) rfl rfl (bl rfl) ?_
  refine TrL.nil (qthen_n ?_)
  refine Tr.seq ?_
  refine Tr.region ?_
  obtain ⟨r18, hr18, H⟩ := bnd H
  refine TrL.cons rfl (op_call0' (vs := []) (cap := []) [] rfl rfl (bl rfl) rfl rfl en57 (c_law09_awake r18 hr18) rfl (fun ret M' F' hR44 => ?_))
  obtain ⟨rfl, rfl, rfl⟩ := hR44
  refine TrL.v (v_assign rfl rfl) rfl rfl (bl rfl) ?_
  refine TrL.nil (qthen_n ?_)
  refine Tr.seq ?_
  refine Tr.region ?_
  refine TrL.v (v_move rfl rfl) rfl rfl (bl rfl) ?_
  refine TrL.v (v_max rfl rfl rfl) rfl rfl (bl rfl) ?_
  refine TrL.v (v_rem rfl rfl rfl (by decide)) rfl rfl (bl rfl) ?_
  refine TrL.v (v_arith rfl rfl rfl ar_add_i64) rfl rfl (bl rfl) ?_
  refine TrL.v (v_build (vs := [.int .i64 (wi64 (2 + ((max p1 0).tmod 30)))]) (out := [.int .i64 (wi64 (2 + ((max p1 0).tmod 30))), .int .i64 0, .slice none 0 0]) rfl pl28 ze28 rfl rfl) rfl rfl (bl rfl) ?_
  refine TrL.cons rfl (op_alloc' rfl (bl rfl) rfl ze28 (fun b26 => ?_))
  refine TrL.cons rfl (op_store' (k := 0) (c' := [.int .i64 (wi64 (2 + ((max p1 0).tmod 30))), .int .i64 0, .slice none 0 0]) rfl rfl rfl rfl rfl ty28 rfl (Nat.le_of_ble_eq_true rfl) (ones (oc rfl (oc rfl (oc rfl on)))) rfl ?_)
  refine TrL.nil (qthen_n ?_)
  refine Tr.seq ?_
  refine Tr.region ?_
  refine TrL.v (v_assign rfl rfl) rfl rfl (bl rfl) ?_
  refine TrL.nil (qthen_n ?_)
  refine Tr.seq ?_
  refine Tr.region ?_
  refine TrL.v (v_assign rfl rfl) rfl rfl (bl rfl) ?_
  refine TrL.nil (qthen_n ?_)
  refine Tr.seq ?_
  refine Tr.seq ?_
  refine Tr.region ?_
  refine TrL.v (v_assign rfl rfl) rfl rfl (bl rfl) ?_
  refine TrL.nil (qthen_n ?_)
  obtain ⟨x2, hx3, H⟩ := bnd H
  refine Tr.cutE (D := Int × Int × Int × List (List (Int × Int))) (M := Option Addr × Nat) .normal (fun _d => x2 = _d) (fun x2 m70 => ⟨[(5, .pointer (some ⟨b25, 0, none⟩)), (7, .bool r18), (8, .pointer (some ⟨b26, 0, none⟩)), (10, .int .u64 x2.1)], [cells b25 [.int .u64 p3.1, .int .u64 p3.2] 37, cells b26 [.int .i64 x2.2.1, .int .i64 x2.2.2.1, .slice m70.1 x2.2.2.2.length m70.2] 28], [slF (rSl rp_u64_u64) m70.1 m70.2 x2.2.2.2], []⟩) ?_ (fun x2 m70 hd2 => ?_)
  · refine Tr.block (Tr.loopI (ι := Option Addr × Nat) (step := law09_CheckBound_s0 p2 p3) (fun s5 m61 => ⟨[(1, .slice A1 p2.length c1), (5, .pointer (some ⟨b25, 0, none⟩)), (7, .bool r18), (8, .pointer (some ⟨b26, 0, none⟩)), (9, .int .u64 s5.1), (10, .int .u64 s5.2.1), (11, .int .i64 s5.2.2.1)], [cells b25 [.int .u64 p3.1, .int .u64 p3.2] 37, cells b26 [.int .i64 s5.2.2.2.1, .int .i64 s5.2.2.2.2.1, .slice m61.1 s5.2.2.2.2.2.length m61.2] 28], [slF rp_u64_u64 A1 c1 p2, slF (rSl rp_u64_u64) m61.1 m61.2 s5.2.2.2.2.2], []⟩) ((none, 0)) hx3 (Imp.addF' _ (nilF (rSl rp_u64_u64)) (Imp.re _ [1, 0] [0, 1] (sc rfl (sc rfl (sc rfl (sc rfl (sc rfl (sc rfl (sc rfl sn))))))) (by decide) rfl rfl rfl)) (fun s5 m61 y2 hy2 hx4 => ?_))
    unfold law09_CheckBound_s0 at hy2
    refine Tr.seq ?_
    refine Tr.seq ?_
    refine Tr.region ?_
    refine TrL.v (v_move rfl rfl) rfl rfl (bl rfl) ?_
    refine TrL.v (v_move rfl rfl) rfl rfl (bl rfl) ?_
    refine TrL.v (v_len rfl sl22 rfl) rfl rfl (bl rfl) ?_
    refine TrL.v (v_arith rfl rfl rfl ar_lss) rfl rfl (bl rfl) ?_
    refine TrL.v (v_move rfl rfl) rfl rfl (bl rfl) ?_
    rcases ifc hy2 with ⟨h37, hy2⟩ | ⟨h37, hy2⟩
    · refine TrL.cons_yes rfl rfl rfl (bt_dec h37) (OpTr.v (v_move rfl rfl) rfl (bl rfl) ?_)
      refine TrL.cons_yes rfl rfl rfl (bt_dec h37) (OpTr.v (v_arith rfl rfl rfl ar_lss) rfl (bl rfl) ?_)
      refine TrL.v (v_pick_t rfl rfl (bt_dec h37) rfl) rfl rfl (bl rfl) ?_
      refine TrL.nil (qthen_n ?_)
      rcases ifc hy2 with ⟨h38, hy2⟩ | ⟨h38, hy2⟩
      · refine Tr.cond_t rfl (bt_dec h38) ?_
        refine Tr.skip (qthen_n ?_)
        refine Tr.seq ?_
        refine Tr.block ?_
        refine Tr.seq ?_
        refine Tr.region ?_
        refine TrL.v (v_move rfl rfl) rfl rfl (bl rfl) ?_
        refine TrL.v (v_move rfl rfl) rfl rfl (bl rfl) ?_
        refine TrL.v (v_move rfl rfl) rfl rfl (bl rfl) ?_
        obtain ⟨z6, hz6, hy2⟩ := bnd hy2
        refine TrL.v (v_indexAddr (k := 0) rfl sl22 ty80 rfl rfl rfl rfl hz6) rfl rfl (bl rfl) ?_
        refine TrL.v (v_fieldAddr rfl fo80_0 rfl) rfl rfl (bl rfl) ?_
        refine TrL.v (v_loadg (A := A1) (i := s5.2.2.1) (j := 0) (k := 0) rfl ty23 (fun _ => rfl) rfl rfl hz6 rfl rfl) rfl rfl (bl rfl) ?_
        refine TrL.v (v_rem rfl rfl rfl (by decide)) rfl rfl (bl rfl) ?_
        refine TrL.v (v_arith rfl rfl rfl ar_add_u64) rfl rfl (bl rfl) ?_
        refine TrL.v (v_assign rfl rfl) rfl rfl (bl rfl) ?_
        refine TrL.nil (qthen_n ?_)
        refine Tr.seq ?_
        refine Tr.regionD drawn (fun hok => ?_)
        obtain ⟨r23, hr23, hy2⟩ := bnd hy2
        refine TrAny.cut (ι := Nat × Option Addr × Nat) (fun m74 => ⟨[(1, .slice A1 p2.length c1), (5, .pointer (some ⟨b25, 0, none⟩)), (7, .bool r18), (8, .pointer (some ⟨b26, 0, none⟩)), (9, .int .u64 (wu64 (s5.1 + (z6.1.tmod 1000)))), (10, .int .u64 s5.2.1), (11, .int .i64 s5.2.2.1), (12, .pointer (some ⟨m74.1, 0, none⟩)), (13, .int .i64 r23.2.2.2), (26, .int .i64 s5.2.2.1), (27, .bool (decide (s5.2.2.1 < 30)))], [cells b25 [.int .u64 p3.1, .int .u64 p3.2] 37, cells b26 [.int .i64 s5.2.2.2.1, .int .i64 s5.2.2.2.2.1, .slice m61.1 s5.2.2.2.2.2.length m61.2] 28, cells m74.1 [.int .i64 r23.1, .int .i64 r23.2.1, .slice m74.2.1 r23.2.2.1.length m74.2.2] 28], [slF rp_u64_u64 A1 c1 p2, slF (rSl rp_u64_u64) m61.1 m61.2 s5.2.2.2.2.2, slF (rSl rp_u64_u64) m74.2.1 m74.2.2 r23.2.2.1], []⟩) ?_ (fun m74 => ?_)
        · refine TrAny.prom (i := 0) (d := 40) hok (OpVal.plain rfl rfl (v_load (k := 1) rfl rfl rfl ty28 nofun rfl rfl)) (by kernel_rfl) rfl (bl rfl) ?_
          clear hok
          intro hok
          refine TrAny.prom (i := 1) (d := 41) hok (OpVal.plain rfl rfl (v_move rfl rfl)) (by kernel_rfl) rfl (bl rfl) ?_
          clear hok
          intro hok
          refine TrAny.prom (i := 2) (d := 42) hok (OpVal.plain rfl rfl (v_move rfl rfl)) (by kernel_rfl) rfl (bl rfl) ?_
          clear hok
          intro hok
          refine TrAny.prom (i := 3) (d := 43) hok (OpVal.plain rfl rfl (v_move rfl rfl)) (by kernel_rfl) rfl (bl rfl) ?_
          clear hok
          intro hok
          refine TrAny.prom (i := 4) (d := 44) hok (OpVal.plain rfl rfl (v_indexAddr (k := 0) rfl sl22 ty80 rfl rfl rfl rfl hz6)) (by kernel_rfl) rfl (bl rfl) ?_
          clear hok
          intro hok
          refine TrAny.prom (i := 5) (d := 45) hok (OpVal.plain rfl rfl (v_fieldAddr rfl fo80_1 rfl)) (by kernel_rfl) rfl (bl rfl) ?_
          clear hok
          intro hok
          refine TrAny.prom (i := 6) (d := 46) hok (OpVal.plain rfl rfl (v_loadg (A := A1) (i := s5.2.2.1) (j := 1) (k := 0) rfl ty23 (fun _ => rfl) rfl rfl hz6 rfl rfl)) (by kernel_rfl) rfl (bl rfl) ?_
          clear hok
          intro hok
          refine TrAny.fork [7, 11] (by kernel_rfl) hok ⟨7, by decide, bl rfl⟩ (by kernel_rfl) (.cons ?_ (.cons ?_ .nil))
          · refine step_n rfl (by kernel_rfl) rfl (op_call0' (vs := [.agg #[.int .i64 s5.2.2.2.1, .int .i64 s5.2.2.2.2.1, .slice m61.1 s5.2.2.2.2.2.length m61.2], .int .u64 (wu64 (s5.1 + (z6.1.tmod 1000))), .int .u64 z6.2]) (cap := []) [1] rfl rfl (bl rfl) rfl rfl en67 (c_ref06_Add s5.2.2.2 (wu64 (s5.1 + (z6.1.tmod 1000))) z6.2 m61.1 m61.2 r23 hr23) rfl (fun ret M' F' hR60 => ?_))
            obtain ⟨m75, rfl, rfl, rfl⟩ := hR60
            refine nxp hok (kp_imp (kp_c0 rfl)) rfl (by kernel_rfl) ?_
            clear hok
            intro hok
            refine TrAny.prom (i := 8) (d := 39) hok (OpVal.plain rfl rfl (v_move rfl rfl)) (by kernel_rfl) rfl (bl rfl) ?_
            clear hok
            intro hok
            refine TrAny.prom (i := 9) (d := 48) hok (OpVal.plain rfl rfl (v_extract rfl rfl rfl)) (by kernel_rfl) rfl (bl rfl) ?_
            clear hok
            intro hok
            refine TrAny.prom (i := 10) (d := 49) hok (OpVal.plain rfl rfl (v_extract rfl rfl rfl)) (by kernel_rfl) rfl (bl rfl) ?_
            clear hok
            intro hok
            refine TrAny.prom (i := 13) (d := 13) hok (OpVal.plain rfl rfl (v_assign rfl rfl)) (by kernel_rfl) rfl (bl rfl) ?_
            clear hok
            intro hok
            refine TrAny.next (j := 11) (by kernel_rfl) hok rfl (by kernel_rfl) (op_alloc' rfl (bl rfl) rfl ze28 (fun b40 => ?_))
            refine nxp hok (kp_imp (kp_cm rfl)) rfl (by kernel_rfl) ?_
            clear hok
            intro hok
            refine TrAny.next (j := 12) (by kernel_rfl) hok rfl (by kernel_rfl) (op_store' (k := 0) (c' := [.int .i64 r23.1, .int .i64 r23.2.1, .slice m75.1 r23.2.2.1.length m75.2]) rfl rfl rfl rfl rfl ty28 rfl (Nat.le_of_ble_eq_true rfl) (ones (oc rfl (oc rfl (oc rfl on)))) rfl ?_)
            refine nxs hok (kp_all (ac (.inl (by kernel_rfl)) (ac (.inl (by kernel_rfl)) (ac (.inl (by kernel_rfl)) (ac (.inl (by kernel_rfl)) (ac (.inl (by kernel_rfl)) (ac (.inl (by kernel_rfl)) (ac (.inl (by kernel_rfl)) (ac (.inl (by kernel_rfl)) (ac (.inl (by kernel_rfl)) (ac (.inr (OpVal.plain rfl rfl (v_extract rfl rfl rfl))) (ac (.inr (OpVal.plain rfl rfl (v_assign rfl rfl))) an)))))))))))) rfl ?_
            clear hok
            intro hok
            refine TrAny.done (by kernel_rfl) (by kernel_rfl) hok (by kernel_rfl) (⟨(b40, m75.1, m75.2), Imp.re _ [1, 2, 0] [0, 1, 2] (sc rfl (sc rfl (sc rfl (sc rfl (sc rfl (sc rfl (sc rfl (sc rfl (sc rfl (sc rfl (sc rfl sn))))))))))) (by decide) rfl rfl rfl⟩)
          · refine step_n rfl (by kernel_rfl) rfl (op_alloc' rfl (bl rfl) rfl ze28 (fun b41 => ?_))
            refine nxp hok (kp_imp (kp_cm rfl)) rfl (by kernel_rfl) ?_
            clear hok
            intro hok
            refine TrAny.next (j := 7) (by kernel_rfl) hok rfl (by kernel_rfl) (op_call0' (vs := [.agg #[.int .i64 s5.2.2.2.1, .int .i64 s5.2.2.2.2.1, .slice m61.1 s5.2.2.2.2.2.length m61.2], .int .u64 (wu64 (s5.1 + (z6.1.tmod 1000))), .int .u64 z6.2]) (cap := []) [1] rfl rfl (bl rfl) rfl rfl en67 (c_ref06_Add s5.2.2.2 (wu64 (s5.1 + (z6.1.tmod 1000))) z6.2 m61.1 m61.2 r23 hr23) rfl (fun ret M' F' hR61 => ?_))
            obtain ⟨m76, rfl, rfl, rfl⟩ := hR61
            refine nxp hok (kp_imp (kp_c0 rfl)) rfl (by kernel_rfl) ?_
            clear hok
            intro hok
            refine TrAny.prom (i := 8) (d := 39) hok (OpVal.plain rfl rfl (v_move rfl rfl)) (by kernel_rfl) rfl (bl rfl) ?_
            clear hok
            intro hok
            refine TrAny.prom (i := 9) (d := 48) hok (OpVal.plain rfl rfl (v_extract rfl rfl rfl)) (by kernel_rfl) rfl (bl rfl) ?_
            clear hok
            intro hok
            refine TrAny.prom (i := 10) (d := 49) hok (OpVal.plain rfl rfl (v_extract rfl rfl rfl)) (by kernel_rfl) rfl (bl rfl) ?_
            clear hok
            intro hok
            refine TrAny.prom (i := 13) (d := 13) hok (OpVal.plain rfl rfl (v_assign rfl rfl)) (by kernel_rfl) rfl (bl rfl) ?_
            clear hok
            intro hok
            refine TrAny.next (j := 12) (by kernel_rfl) hok rfl (by kernel_rfl) (op_store' (k := 0) (c' := [.int .i64 r23.1, .int .i64 r23.2.1, .slice m76.1 r23.2.2.1.length m76.2]) rfl rfl rfl rfl rfl ty28 rfl (Nat.le_of_ble_eq_true rfl) (ones (oc rfl (oc rfl (oc rfl on)))) rfl ?_)
            refine nxs hok (kp_all (ac (.inl (by kernel_rfl)) (ac (.inl (by kernel_rfl)) (ac (.inl (by kernel_rfl)) (ac (.inl (by kernel_rfl)) (ac (.inl (by kernel_rfl)) (ac (.inl (by kernel_rfl)) (ac (.inl (by kernel_rfl)) (ac (.inl (by kernel_rfl)) (ac (.inl (by kernel_rfl)) (ac (.inr (OpVal.plain rfl rfl (v_extract rfl rfl rfl))) (ac (.inr (OpVal.plain rfl rfl (v_assign rfl rfl))) an)))))))))))) rfl ?_
            clear hok
            intro hok
            refine TrAny.done (by kernel_rfl) (by kernel_rfl) hok (by kernel_rfl) (⟨(b41, m76.1, m76.2), Imp.re _ [1, 2, 0] [0, 1, 2] (sc rfl (sc rfl (sc rfl (sc rfl (sc rfl (sc rfl (sc rfl (sc rfl (sc rfl (sc rfl (sc rfl sn))))))))))) (by decide) rfl rfl rfl⟩)
        · refine (qthen_n ?_)
          refine Tr.seq ?_
          refine Tr.region ?_
          refine TrL.v (v_move rfl rfl) rfl rfl (bl rfl) ?_
          refine TrL.v (v_arith rfl rfl rfl ar_eql) rfl rfl (bl rfl) ?_
          refine TrL.nil (qthen_n ?_)
          rcases ifc hy2 with ⟨h39, hy2⟩ | ⟨h39, hy2⟩
          · refine Tr.cond_t rfl (bt_dec h39) ?_
            refine Tr.seq ?_
            refine Tr.region ?_
            refine TrL.v (v_load (k := 2) rfl rfl rfl ty28 nofun rfl rfl) rfl rfl (bl rfl) ?_
            refine TrL.cons rfl (op_store' (k := 1) (c' := [.int .i64 r23.1, .int .i64 r23.2.1, .slice m74.2.1 r23.2.2.1.length m74.2.2]) rfl rfl rfl rfl rfl ty28 rfl (Nat.le_of_ble_eq_true rfl) (ones (oc rfl (oc rfl (oc rfl on)))) rfl ?_)
            refine TrL.nil (qthen_n ?_)
            refine Tr.seq ?_
            refine Tr.region ?_
            refine TrL.v (v_move rfl rfl) rfl rfl (bl rfl) ?_
            refine TrL.v (v_indexArr rfl ar37 ty23 rfl rfl (by decide) (by decide) rfl) rfl rfl (bl rfl) ?_
            refine TrL.v (v_load (k := 0) rfl rfl rfl ty23 (fun _ => rfl) rfl rfl) rfl rfl (bl rfl) ?_
            refine TrL.v (v_indexArr rfl ar37 ty23 rfl rfl (by decide) (by decide) rfl) rfl rfl (bl rfl) ?_
            refine TrL.v (v_load (k := 0) rfl rfl rfl ty23 (fun _ => rfl) rfl rfl) rfl rfl (bl rfl) ?_
            obtain ⟨r24, hr24, hy2⟩ := bnd hy2
            refine TrL.cons rfl (op_call0' (vs := [.int .u64 (wu64 (s5.1 + (z6.1.tmod 1000))), .int .u64 p3.1, .int .u64 p3.2]) (cap := []) [] rfl rfl (bl rfl) rfl rfl en36 (c_ref07_Old (wu64 (s5.1 + (z6.1.tmod 1000))) p3.1 p3.2 r24 hr24) rfl (fun ret M' F' hR62 => ?_))
            obtain ⟨rfl, rfl, rfl⟩ := hR62
            refine TrL.v (v_notd rfl (bdec rfl)) rfl rfl (bl rfl) ?_
            refine TrL.nil (qthen_n ?_)
            rcases ifc hy2 with ⟨h40, hy2⟩ | ⟨h40, hy2⟩
            · refine Tr.cond_t rfl (bt_dec h40) ?_
              refine Tr.region ?_
              refine TrL.v (v_move rfl rfl) rfl rfl (bl rfl) ?_
              refine TrL.v (v_move rfl rfl) rfl rfl (bl rfl) ?_
              refine TrL.v (v_move rfl rfl) rfl rfl (bl rfl) ?_
              refine TrL.v (v_indexAddr (k := 0) rfl sl22 ty80 rfl rfl rfl rfl hz6) rfl rfl (bl rfl) ?_
              refine TrL.v (v_fieldAddr rfl fo80_1 rfl) rfl rfl (bl rfl) ?_
              refine TrL.v (v_loadg (A := A1) (i := s5.2.2.1) (j := 1) (k := 0) rfl ty23 (fun _ => rfl) rfl rfl hz6 rfl rfl) rfl rfl (bl rfl) ?_
              refine TrL.v (v_arith rfl rfl rfl ar_add_u64) rfl rfl (bl rfl) ?_
              refine TrL.v (v_assign rfl rfl) rfl rfl (bl rfl) ?_
              refine TrL.nil (qblock_n (qthen_n ?_))
              refine Tr.region ?_
              refine TrL.v (v_move rfl rfl) rfl rfl (bl rfl) ?_
              refine TrL.v (v_arith rfl rfl rfl ar_add_i64) rfl rfl (bl rfl) ?_
              refine TrL.v (v_assign rfl rfl) rfl rfl (bl rfl) ?_
              have hz := Option.some.inj hy2
              subst hz
              refine TrL.nil (qloop_n ((m74.2.1, m74.2.2)) (Imp.re _ [0, 1] [0, 2] (sc rfl (sc rfl (sc rfl (sc rfl (sc rfl (sc rfl (sc rfl sn))))))) (by decide) rfl rfl rfl))
            · refine Tr.cond_f rfl (bf_dec h40) ?_
              refine Tr.skip (qblock_n (qthen_n ?_))
              refine Tr.region ?_
              refine TrL.v (v_move rfl rfl) rfl rfl (bl rfl) ?_
              refine TrL.v (v_arith rfl rfl rfl ar_add_i64) rfl rfl (bl rfl) ?_
              refine TrL.v (v_assign rfl rfl) rfl rfl (bl rfl) ?_
              have hz := Option.some.inj hy2
              subst hz
              refine TrL.nil (qloop_n ((m74.2.1, m74.2.2)) (Imp.re _ [0, 1] [0, 2] (sc rfl (sc rfl (sc rfl (sc rfl (sc rfl (sc rfl (sc rfl sn))))))) (by decide) rfl rfl rfl))
          · refine Tr.cond_f rfl (bf_dec h39) ?_
            refine Tr.skip (qblock_n (qthen_n ?_))
            refine Tr.region ?_
            refine TrL.v (v_move rfl rfl) rfl rfl (bl rfl) ?_
            refine TrL.v (v_arith rfl rfl rfl ar_add_i64) rfl rfl (bl rfl) ?_
            refine TrL.v (v_assign rfl rfl) rfl rfl (bl rfl) ?_
            have hz := Option.some.inj hy2
            subst hz
            refine TrL.nil (qloop_n ((m61.1, m61.2)) (Imp.re _ [0, 1] [0, 1] (sc rfl (sc rfl (sc rfl (sc rfl (sc rfl (sc rfl (sc rfl sn))))))) (by decide) rfl rfl rfl))
      · refine Tr.cond_f rfl (bf_dec h38) ?_
        have hz := Option.some.inj hy2
        subst hz
        refine Tr.exit (qthen_x (qloop_x (qblock_hit (qcut_hit ((s5.2.1, s5.2.2.2.1, s5.2.2.2.2.1, s5.2.2.2.2.2)) ((m61.1, m61.2)) (hx4 _ rfl).symm (Imp.re _ [0, 1] [1] (sc rfl (sc rfl (sc rfl (sc rfl sn)))) (by decide) rfl rfl rfl)))))
    · refine TrL.cons_no rfl rfl rfl (gn_t (bf_dec h37)) rfl (bl rfl) ?_
      refine TrL.cons_no rfl rfl rfl (gn_t (bf_dec h37)) rfl (bl rfl) ?_
      refine TrL.v (v_pick_f rfl rfl (bf_dec h37) rfl) rfl rfl (bl rfl) ?_
      refine TrL.nil (qthen_n ?_)
      refine Tr.cond_f rfl rfl ?_
      have hz := Option.some.inj hy2
      subst hz
      refine Tr.exit (qthen_x (qloop_x (qblock_hit (qcut_hit ((s5.2.1, s5.2.2.2.1, s5.2.2.2.2.1, s5.2.2.2.2.2)) ((m61.1, m61.2)) (hx4 _ rfl).symm (Imp.re _ [0, 1] [1] (sc rfl (sc rfl (sc rfl (sc rfl sn)))) (by decide) rfl rfl rfl)))))
  · subst hd2
    refine (qthen_n ?_)
    refine Tr.seq ?_
    refine Tr.regionD drawn (fun hok => ?_)
    obtain ⟨r25, hr25, H⟩ := bnd H
    obtain ⟨r26, hr26, H⟩ := bnd H
    refine TrAny.cut (ι := Nat × Option Addr × Nat) (fun m85 => ⟨[(7, .bool r18), (8, .pointer (some ⟨b26, 0, none⟩)), (10, .int .u64 x2.1), (14, .pointer (some ⟨m85.1, 0, none⟩))], [cells b26 [.int .i64 x2.2.1, .int .i64 x2.2.2.1, .slice m70.1 x2.2.2.2.length m70.2] 28, cells m85.1 [.int .i64 x2.2.1, .int .i64 x2.2.2.1, .slice m85.2.1 r26.length m85.2.2] 31], [slF (rSl rp_u64_u64) m70.1 m70.2 x2.2.2.2, slF (rSl rp_u64_u64) m85.2.1 m85.2.2 r26], []⟩) ?_ (fun m85 => ?_)
    · refine TrAny.prom (i := 0) (d := 67) hok (OpVal.plain rfl rfl (v_load (k := 1) rfl rfl rfl ty28 nofun rfl rfl)) (by kernel_rfl) rfl (bl rfl) ?_
      clear hok
      intro hok
      refine TrAny.prom (i := 2) (d := 69) hok (OpVal.plain rfl rfl (v_indexArr rfl ar37 ty23 rfl rfl (by decide) (by decide) rfl)) (by kernel_rfl) rfl (bl rfl) ?_
      clear hok
      intro hok
      refine TrAny.prom (i := 3) (d := 70) hok (OpVal.plain rfl rfl (v_load (k := 0) rfl rfl rfl ty23 (fun _ => rfl) rfl rfl)) (by kernel_rfl) rfl (bl rfl) ?_
      clear hok
      intro hok
      refine TrAny.prom (i := 4) (d := 71) hok (OpVal.plain rfl rfl (v_indexArr rfl ar37 ty23 rfl rfl (by decide) (by decide) rfl)) (by kernel_rfl) rfl (bl rfl) ?_
      clear hok
      intro hok
      refine TrAny.prom (i := 5) (d := 72) hok (OpVal.plain rfl rfl (v_load (k := 0) rfl rfl rfl ty23 (fun _ => rfl) rfl rfl)) (by kernel_rfl) rfl (bl rfl) ?_
      clear hok
      intro hok
      refine TrAny.fork [1, 7] (by kernel_rfl) hok ⟨1, by decide, bl rfl⟩ (by kernel_rfl) (.cons ?_ (.cons ?_ .nil))
      · refine step_n rfl (by kernel_rfl) rfl (op_call0' (vs := [.agg #[.int .i64 x2.2.1, .int .i64 x2.2.2.1, .slice m70.1 x2.2.2.2.length m70.2]]) (cap := []) [0] rfl rfl (bl rfl) rfl rfl en60 (c_law09_made x2.2 m70.1 m70.2 r25 hr25) rfl (fun ret M' F' hR70 => ?_))
        obtain ⟨rfl, rfl, rfl⟩ := hR70
        refine nxp hok (kp_imp (kp_c0 rfl)) rfl (by kernel_rfl) ?_
        clear hok
        intro hok
        refine TrAny.fork [6, 7] (by kernel_rfl) hok ⟨6, by decide, bl rfl⟩ (by kernel_rfl) (.cons ?_ (.cons ?_ .nil))
        · refine step_n rfl (by kernel_rfl) rfl (op_call0' (vs := [.agg #[.int .i64 x2.2.1, .int .i64 x2.2.2.1, .slice m70.1 x2.2.2.2.length m70.2], .int .u64 p3.1, .int .u64 p3.2]) (cap := []) [0] rfl rfl (bl rfl) rfl rfl en32 (c_expiry_Drop x2.2 p3.1 p3.2 m70.1 m70.2 r26 hr26) rfl (fun ret M' F' hR71 => ?_))
          obtain ⟨m87, rfl, rfl, rfl⟩ := hR71
          refine nxp hok (kp_imp (kp_c0 rfl)) rfl (by kernel_rfl) ?_
          clear hok
          intro hok
          refine TrAny.next (j := 7) (by kernel_rfl) hok rfl (by kernel_rfl) (op_alloc' rfl (bl rfl) rfl ze31 (fun b46 => ?_))
          refine nxp hok (kp_imp (kp_cm rfl)) rfl (by kernel_rfl) ?_
          clear hok
          intro hok
          refine TrAny.next (j := 8) (by kernel_rfl) hok rfl (by kernel_rfl) (op_store' (k := 0) (c' := [.int .i64 x2.2.1, .int .i64 x2.2.2.1, .slice m87.1 r26.length m87.2]) rfl rfl rfl rfl rfl ty31 rfl (Nat.le_of_ble_eq_true rfl) (ones (oc rfl (oc rfl (oc rfl on)))) rfl ?_)
          refine nxs hok (kp_aw (by kernel_rfl)) rfl ?_
          clear hok
          intro hok
          refine TrAny.done (by kernel_rfl) (by kernel_rfl) hok (by kernel_rfl) (⟨(b46, m87.1, m87.2), Imp.re _ [2, 0] [0, 2] (sc rfl (sc rfl (sc rfl (sc rfl sn)))) (by decide) rfl rfl rfl⟩)
        · refine step_n rfl (by kernel_rfl) rfl (op_alloc' rfl (bl rfl) rfl ze31 (fun b47 => ?_))
          refine nxp hok (kp_imp (kp_cm rfl)) rfl (by kernel_rfl) ?_
          clear hok
          intro hok
          refine TrAny.next (j := 6) (by kernel_rfl) hok rfl (by kernel_rfl) (op_call0' (vs := [.agg #[.int .i64 x2.2.1, .int .i64 x2.2.2.1, .slice m70.1 x2.2.2.2.length m70.2], .int .u64 p3.1, .int .u64 p3.2]) (cap := []) [0] rfl rfl (bl rfl) rfl rfl en32 (c_expiry_Drop x2.2 p3.1 p3.2 m70.1 m70.2 r26 hr26) rfl (fun ret M' F' hR72 => ?_))
          obtain ⟨m88, rfl, rfl, rfl⟩ := hR72
          refine nxp hok (kp_imp (kp_c0 rfl)) rfl (by kernel_rfl) ?_
          clear hok
          intro hok
          refine TrAny.next (j := 8) (by kernel_rfl) hok rfl (by kernel_rfl) (op_store' (k := 0) (c' := [.int .i64 x2.2.1, .int .i64 x2.2.2.1, .slice m88.1 r26.length m88.2]) rfl rfl rfl rfl rfl ty31 rfl (Nat.le_of_ble_eq_true rfl) (ones (oc rfl (oc rfl (oc rfl on)))) rfl ?_)
          refine nxs hok (kp_aw (by kernel_rfl)) rfl ?_
          clear hok
          intro hok
          refine TrAny.done (by kernel_rfl) (by kernel_rfl) hok (by kernel_rfl) (⟨(b47, m88.1, m88.2), Imp.re _ [2, 0] [0, 2] (sc rfl (sc rfl (sc rfl (sc rfl sn)))) (by decide) rfl rfl rfl⟩)
      · refine step_n rfl (by kernel_rfl) rfl (op_alloc' rfl (bl rfl) rfl ze31 (fun b48 => ?_))
        refine nxp hok (kp_imp (kp_cm rfl)) rfl (by kernel_rfl) ?_
        clear hok
        intro hok
        refine TrAny.next (j := 1) (by kernel_rfl) hok rfl (by kernel_rfl) (op_call0' (vs := [.agg #[.int .i64 x2.2.1, .int .i64 x2.2.2.1, .slice m70.1 x2.2.2.2.length m70.2]]) (cap := []) [0] rfl rfl (bl rfl) rfl rfl en60 (c_law09_made x2.2 m70.1 m70.2 r25 hr25) rfl (fun ret M' F' hR73 => ?_))
        obtain ⟨rfl, rfl, rfl⟩ := hR73
        refine nxp hok (kp_imp (kp_c0 rfl)) rfl (by kernel_rfl) ?_
        clear hok
        intro hok
        refine TrAny.next (j := 6) (by kernel_rfl) hok rfl (by kernel_rfl) (op_call0' (vs := [.agg #[.int .i64 x2.2.1, .int .i64 x2.2.2.1, .slice m70.1 x2.2.2.2.length m70.2], .int .u64 p3.1, .int .u64 p3.2]) (cap := []) [0] rfl rfl (bl rfl) rfl rfl en32 (c_expiry_Drop x2.2 p3.1 p3.2 m70.1 m70.2 r26 hr26) rfl (fun ret M' F' hR74 => ?_))
        obtain ⟨m90, rfl, rfl, rfl⟩ := hR74
        refine nxp hok (kp_imp (kp_c0 rfl)) rfl (by kernel_rfl) ?_
        clear hok
        intro hok
        refine TrAny.next (j := 8) (by kernel_rfl) hok rfl (by kernel_rfl) (op_store' (k := 0) (c' := [.int .i64 x2.2.1, .int .i64 x2.2.2.1, .slice m90.1 r26.length m90.2]) rfl rfl rfl rfl rfl ty31 rfl (Nat.le_of_ble_eq_true rfl) (ones (oc rfl (oc rfl (oc rfl on)))) rfl ?_)
        refine nxs hok (kp_aw (by kernel_rfl)) rfl ?_
        clear hok
        intro hok
        refine TrAny.done (by kernel_rfl) (by kernel_rfl) hok (by kernel_rfl) (⟨(b48, m90.1, m90.2), Imp.re _ [2, 0] [0, 2] (sc rfl (sc rfl (sc rfl (sc rfl sn)))) (by decide) rfl rfl rfl⟩)
    · refine (qthen_n ?_)
      refine Tr.seq ?_
      refine Tr.regionD drawn (fun hok => ?_)
      refine TrAny.prom (i := 0) (d := 74) hok (OpVal.plain rfl rfl (v_move rfl rfl)) (by kernel_rfl) rfl (bl rfl) ?_
      clear hok
      intro hok
      refine TrAny.prom (i := 1) (d := 75) hok (OpVal.plain rfl rfl (v_move rfl rfl)) (by kernel_rfl) rfl (bl rfl) ?_
      clear hok
      intro hok
      rcases ifc H with ⟨h50, H⟩ | ⟨h50, H⟩
      · refine TrAny.prom (i := 2) (d := 76) hok (OpVal.yes rfl rfl rfl rfl h50 (v_load (k := 1) rfl rfl rfl ty31 nofun rfl rfl)) (by kernel_rfl) rfl (bl rfl) ?_
        clear hok
        intro hok
        refine TrAny.prom (i := 4) (d := 78) hok (OpVal.yes rfl rfl rfl rfl h50 (v_fieldAddr' rfl fo28_0 rfl rfl)) (by kernel_rfl) rfl (bl rfl) ?_
        clear hok
        intro hok
        refine TrAny.prom (i := 5) (d := 79) hok (OpVal.yes rfl rfl rfl rfl h50 (v_load (k := 0) rfl rfl rfl ty3 (fun _ => rfl) rfl rfl)) (by kernel_rfl) rfl (bl rfl) ?_
        clear hok
        intro hok
        refine TrAny.prom (i := 6) (d := 80) hok (OpVal.yes rfl rfl rfl rfl h50 (v_move rfl rfl)) (by kernel_rfl) rfl (bl rfl) ?_
        clear hok
        intro hok
        obtain ⟨r33, hr33, H⟩ := bnd H
        refine TrAny.nextY (j := 3) (by kernel_rfl) hok rfl (by kernel_rfl) rfl rfl rfl h50 (op_call0' (vs := [.agg #[.int .i64 x2.2.1, .int .i64 x2.2.2.1, .slice m85.2.1 r26.length m85.2.2]]) (cap := []) [1] rfl rfl (bl rfl) rfl rfl en62 (c_check_Buckets ((x2.2.1, x2.2.2.1, r26)) m85.2.1 m85.2.2 r33 hr33) rfl (fun ret M' F' hR84 => ?_))
        obtain ⟨rfl, rfl, rfl⟩ := hR84
        refine nxp hok (kp_imp (kp_c0 rfl)) rfl (by kernel_rfl) ?_
        clear hok
        intro hok
        obtain ⟨r34, hr34, H⟩ := bnd H
        refine TrAny.nextY (j := 7) (by kernel_rfl) hok rfl (by kernel_rfl) rfl rfl rfl h50 (op_call0' (vs := [.int .i64 x2.2.1, .int .i64 0, .int .u64 x2.1]) (cap := []) [] rfl rfl (bl rfl) rfl rfl en64 (c_check_Bound x2.2.1 ((0 : Int)) x2.1 r34 hr34) rfl (fun ret M' F' hR85 => ?_))
        obtain ⟨rfl, rfl, rfl⟩ := hR85
        refine nxp hok (kp_imp (kp_c0 rfl)) rfl (by kernel_rfl) ?_
        clear hok
        intro hok
        refine TrAny.prom (i := 8) (d := 82) hok (OpVal.yes rfl rfl rfl rfl h50 (v_arith rfl rfl rfl ar_leq)) (by kernel_rfl) rfl (bl rfl) ?_
        clear hok
        intro hok
        refine TrAny.prom (i := 9) (d := 83) hok (OpVal.plain rfl rfl (v_pick_t rfl rfl h50 rfl)) (by kernel_rfl) rfl (bl rfl) ?_
        clear hok
        intro hok
        refine TrAny.prom (i := 10) (d := 84) hok (OpVal.plain rfl rfl (v_move rfl rfl)) (by kernel_rfl) rfl (bl rfl) ?_
        clear hok
        intro hok
        rcases ifc H with ⟨h51, H⟩ | ⟨h51, H⟩
        · refine TrAny.prom (i := 11) (d := 85) hok (OpVal.yes rfl rfl rfl rfl (bt_dec h51) (v_move rfl rfl)) (by kernel_rfl) rfl (bl rfl) ?_
          clear hok
          intro hok
          refine TrAny.prom (i := 12) (d := 86) hok (OpVal.yes rfl rfl rfl rfl (bt_dec h51) (v_arith rfl rfl rfl ar_gtr)) (by kernel_rfl) rfl (bl rfl) ?_
          clear hok
          intro hok
          refine TrAny.prom (i := 13) (d := 87) hok (OpVal.yes rfl rfl rfl rfl (bt_dec h51) (v_move rfl rfl)) (by kernel_rfl) rfl (bl rfl) ?_
          clear hok
          intro hok
          rcases ifc H with ⟨h52, H⟩ | ⟨h52, H⟩
          · refine TrAny.prom (i := 14) (d := 88) hok (OpVal.no rfl (fun c h => by cases h) rfl rfl rfl (gn_f (bt_dec h52))) (by kernel_rfl) rfl (bl rfl) ?_
            clear hok
            intro hok
            refine TrAny.prom (i := 15) (d := 89) hok (OpVal.no rfl (fun c h => by cases h) rfl rfl rfl (gn_f (bt_dec h52))) (by kernel_rfl) rfl (bl rfl) ?_
            clear hok
            intro hok
            refine TrAny.prom (i := 16) (d := 90) hok (OpVal.no rfl (fun c h => by cases h) rfl rfl rfl (gn_f (bt_dec h52))) (by kernel_rfl) rfl (bl rfl) ?_
            clear hok
            intro hok
            refine TrAny.prom (i := 17) (d := 91) hok (OpVal.yes rfl rfl rfl rfl (bt_dec h51) (v_pick_t rfl rfl (bt_dec h52) rfl)) (by kernel_rfl) rfl (bl rfl) ?_
            clear hok
            intro hok
            refine TrAny.prom (i := 18) (d := 92) hok (OpVal.plain rfl rfl (v_pick_t rfl rfl (bt_dec h51) rfl)) (by kernel_rfl) rfl (bl rfl) ?_
            clear hok
            intro hok
            refine TrAny.prom (i := 19) (d := 6) hok (OpVal.plain rfl rfl (v_assign rfl rfl)) (by kernel_rfl) rfl (bl rfl) ?_
            clear hok
            intro hok
            refine TrAny.done (by kernel_rfl) (by kernel_rfl) hok (by kernel_rfl) (qthen_n ?_)
            have hz := Option.some.inj H
            subst hz
            refine Tr.ret (ret_r ⟨[(6, .bool true)], [], [], []⟩ [.bool true] [] [] (Imp.re _ [] [] (sc rfl sn) (by decide) rfl rfl rfl) rfl rfl ⟨rfl, rfl, rfl⟩ (.cons (resv_tmp rfl) .nil))
          · refine TrAny.prom (i := 14) (d := 88) hok (OpVal.yes rfl rfl rfl rfl (bf_dec h52) (v_load (k := 1) rfl rfl rfl ty31 nofun rfl rfl)) (by kernel_rfl) rfl (bl rfl) ?_
            clear hok
            intro hok
            refine TrAny.nextY (j := 15) (by kernel_rfl) hok rfl (by kernel_rfl) rfl rfl rfl (bf_dec h52) (op_call0' (vs := [.agg #[.int .i64 x2.2.1, .int .i64 x2.2.2.1, .slice m85.2.1 r26.length m85.2.2]]) (cap := []) [1] rfl rfl (bl rfl) rfl rfl en62 (c_check_Buckets ((x2.2.1, x2.2.2.1, r26)) m85.2.1 m85.2.2 r33 hr33) rfl (fun ret M' F' hR86 => ?_))
            obtain ⟨rfl, rfl, rfl⟩ := hR86
            refine nxp hok (kp_imp (kp_c0 rfl)) rfl (by kernel_rfl) ?_
            clear hok
            intro hok
            refine TrAny.prom (i := 16) (d := 90) hok (OpVal.yes rfl rfl rfl rfl (bf_dec h52) (v_arith rfl rfl rfl ar_eql)) (by kernel_rfl) rfl (bl rfl) ?_
            clear hok
            intro hok
            refine TrAny.prom (i := 17) (d := 91) hok (OpVal.yes rfl rfl rfl rfl (bt_dec h51) (v_pick_f rfl rfl (bf_dec h52) rfl)) (by kernel_rfl) rfl (bl rfl) ?_
            clear hok
            intro hok
            refine TrAny.prom (i := 18) (d := 92) hok (OpVal.plain rfl rfl (v_pick_t rfl rfl (bt_dec h51) rfl)) (by kernel_rfl) rfl (bl rfl) ?_
            clear hok
            intro hok
            refine TrAny.prom (i := 19) (d := 6) hok (OpVal.plain rfl rfl (v_assign rfl rfl)) (by kernel_rfl) rfl (bl rfl) ?_
            clear hok
            intro hok
            refine TrAny.done (by kernel_rfl) (by kernel_rfl) hok (by kernel_rfl) (qthen_n ?_)
            have hz := Option.some.inj H
            subst hz
            refine Tr.ret (ret_r ⟨[(6, .bool (decide (r33 = 0)))], [], [], []⟩ [.bool (decide (r33 = 0))] [] [] (Imp.re _ [] [] (sc rfl sn) (by decide) rfl rfl rfl) rfl rfl ⟨rfl, rfl, rfl⟩ (.cons (resv_tmp rfl) .nil))
        · refine TrAny.prom (i := 11) (d := 85) hok (OpVal.no rfl (fun c h => by cases h) rfl rfl rfl (gn_t (bf_dec h51))) (by kernel_rfl) rfl (bl rfl) ?_
          clear hok
          intro hok
          refine TrAny.prom (i := 12) (d := 86) hok (OpVal.no rfl (fun c h => by cases h) rfl rfl rfl (gn_t (bf_dec h51))) (by kernel_rfl) rfl (bl rfl) ?_
          clear hok
          intro hok
          refine TrAny.prom (i := 13) (d := 87) hok (OpVal.no rfl (fun c h => by cases h) rfl rfl rfl (gn_t (bf_dec h51))) (by kernel_rfl) rfl (bl rfl) ?_
          clear hok
          intro hok
          refine TrAny.prom (i := 14) (d := 88) hok (OpVal.un rfl (fun c h => by cases h) rfl rfl rfl) (by kernel_rfl) rfl (bl rfl) ?_
          clear hok
          intro hok
          refine TrAny.prom (i := 15) (d := 89) hok (OpVal.un rfl (fun c h => by cases h) rfl rfl rfl) (by kernel_rfl) rfl (bl rfl) ?_
          clear hok
          intro hok
          refine TrAny.prom (i := 16) (d := 90) hok (OpVal.un rfl (fun c h => by cases h) rfl rfl rfl) (by kernel_rfl) rfl (bl rfl) ?_
          clear hok
          intro hok
          refine TrAny.prom (i := 17) (d := 91) hok (OpVal.no rfl (fun c h => by cases h) rfl rfl rfl (gn_t (bf_dec h51))) (by kernel_rfl) rfl (bl rfl) ?_
          clear hok
          intro hok
          refine TrAny.prom (i := 18) (d := 92) hok (OpVal.plain rfl rfl (v_pick_f rfl rfl (bf_dec h51) rfl)) (by kernel_rfl) rfl (bl rfl) ?_
          clear hok
          intro hok
          refine TrAny.prom (i := 19) (d := 6) hok (OpVal.plain rfl rfl (v_assign rfl rfl)) (by kernel_rfl) rfl (bl rfl) ?_
          clear hok
          intro hok
          refine TrAny.done (by kernel_rfl) (by kernel_rfl) hok (by kernel_rfl) (qthen_n ?_)
          have hz := Option.some.inj H
          subst hz
          refine Tr.ret (ret_r ⟨[(6, .bool false)], [], [], []⟩ [.bool false] [] [] (Imp.re _ [] [] (sc rfl sn) (by decide) rfl rfl rfl) rfl rfl ⟨rfl, rfl, rfl⟩ (.cons (resv_tmp rfl) .nil))
      · refine TrAny.prom (i := 2) (d := 76) hok (OpVal.no rfl (fun c h => by cases h) rfl rfl rfl (gn_t (bf_b h50))) (by kernel_rfl) rfl (bl rfl) ?_
        clear hok
        intro hok
        refine TrAny.prom (i := 3) (d := 77) hok (OpVal.no rfl (fun c h => by cases h) rfl rfl rfl (gn_t (bf_b h50))) (by kernel_rfl) rfl (bl rfl) ?_
        clear hok
        intro hok
        refine TrAny.prom (i := 4) (d := 78) hok (OpVal.no rfl (fun c h => by cases h) rfl rfl rfl (gn_t (bf_b h50))) (by kernel_rfl) rfl (bl rfl) ?_
        clear hok
        intro hok
        refine TrAny.prom (i := 5) (d := 79) hok (OpVal.no rfl (fun c h => by cases h) rfl rfl rfl (gn_t (bf_b h50))) (by kernel_rfl) rfl (bl rfl) ?_
        clear hok
        intro hok
        refine TrAny.prom (i := 6) (d := 80) hok (OpVal.no rfl (fun c h => by cases h) rfl rfl rfl (gn_t (bf_b h50))) (by kernel_rfl) rfl (bl rfl) ?_
        clear hok
        intro hok
        refine TrAny.prom (i := 7) (d := 81) hok (OpVal.no rfl (fun c h => by cases h) rfl rfl rfl (gn_t (bf_b h50))) (by kernel_rfl) rfl (bl rfl) ?_
        clear hok
        intro hok
        refine TrAny.prom (i := 8) (d := 82) hok (OpVal.no rfl (fun c h => by cases h) rfl rfl rfl (gn_t (bf_b h50))) (by kernel_rfl) rfl (bl rfl) ?_
        clear hok
        intro hok
        refine TrAny.prom (i := 9) (d := 83) hok (OpVal.plain rfl rfl (v_pick_f rfl rfl (bf_b h50) rfl)) (by kernel_rfl) rfl (bl rfl) ?_
        clear hok
        intro hok
        refine TrAny.prom (i := 10) (d := 84) hok (OpVal.plain rfl rfl (v_move rfl rfl)) (by kernel_rfl) rfl (bl rfl) ?_
        clear hok
        intro hok
        refine TrAny.prom (i := 11) (d := 85) hok (OpVal.no rfl (fun c h => by cases h) rfl rfl rfl (gn_t rfl)) (by kernel_rfl) rfl (bl rfl) ?_
        clear hok
        intro hok
        refine TrAny.prom (i := 12) (d := 86) hok (OpVal.no rfl (fun c h => by cases h) rfl rfl rfl (gn_t rfl)) (by kernel_rfl) rfl (bl rfl) ?_
        clear hok
        intro hok
        refine TrAny.prom (i := 13) (d := 87) hok (OpVal.no rfl (fun c h => by cases h) rfl rfl rfl (gn_t rfl)) (by kernel_rfl) rfl (bl rfl) ?_
        clear hok
        intro hok
        refine TrAny.prom (i := 14) (d := 88) hok (OpVal.un rfl (fun c h => by cases h) rfl rfl rfl) (by kernel_rfl) rfl (bl rfl) ?_
        clear hok
        intro hok
        refine TrAny.prom (i := 15) (d := 89) hok (OpVal.un rfl (fun c h => by cases h) rfl rfl rfl) (by kernel_rfl) rfl (bl rfl) ?_
        clear hok
        intro hok
        refine TrAny.prom (i := 16) (d := 90) hok (OpVal.un rfl (fun c h => by cases h) rfl rfl rfl) (by kernel_rfl) rfl (bl rfl) ?_
        clear hok
        intro hok
        refine TrAny.prom (i := 17) (d := 91) hok (OpVal.no rfl (fun c h => by cases h) rfl rfl rfl (gn_t rfl)) (by kernel_rfl) rfl (bl rfl) ?_
        clear hok
        intro hok
        refine TrAny.prom (i := 18) (d := 92) hok (OpVal.plain rfl rfl (v_pick_f rfl rfl rfl rfl)) (by kernel_rfl) rfl (bl rfl) ?_
        clear hok
        intro hok
        refine TrAny.prom (i := 19) (d := 6) hok (OpVal.plain rfl rfl (v_assign rfl rfl)) (by kernel_rfl) rfl (bl rfl) ?_
        clear hok
        intro hok
        refine TrAny.done (by kernel_rfl) (by kernel_rfl) hok (by kernel_rfl) (qthen_n ?_)
        have hz := Option.some.inj H
        subst hz
        refine Tr.ret (ret_r ⟨[(6, .bool false)], [], [], []⟩ [.bool false] [] [] (Imp.re _ [] [] (sc rfl sn) (by decide) rfl rfl rfl) rfl rfl ⟨rfl, rfl, rfl⟩ (.cons (resv_tmp rfl) .nil))
end Go.Proofs.Ytbnjjpmlaknaoaa.W
