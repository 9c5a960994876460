/- The contracts of the walked functions: the printed walks. -/
import Derived.Test.YtbnjjpmlaknaoaaKa
import Derived.Test.YtbnjjpmlaknaoaaQa
import Derived.Test.YtbnjjpmlaknaoaaWexpiryaa
import Derived.Test.YtbnjjpmlaknaoaaWhistaa
import Derived.Test.YtbnjjpmlaknaoaaWhistba
import Derived.Test.YtbnjjpmlaknaoaaWlaw07aa
import Derived.Test.YtbnjjpmlaknaoaaWlaw07ba
import Derived.Test.YtbnjjpmlaknaoaaWref05aa
import Derived.Test.YtbnjjpmlaknaoaaWref06aa
import Derived.Test.YtbnjjpmlaknaoaaWref06ba
namespace Go.Proofs.Ytbnjjpmlaknaoaa.W
open Go Go.Proofs Go.Proofs.Ytbnjjpmlaknaoaa.L Go.Proofs.Ytbnjjpmlaknaoaa.Pu
set_option linter.unusedVariables false
set_option maxHeartbeats 4000000

theorem c_law07_ExpiryShape (p1 : Int) (p2 : List (Int × Int)) (p3 : Int × Int × Int) (A1 : Option Addr) (c1 : Nat) (r : Bool) (H : law07_ExpiryShape p1 p2 p3 = some r) :
    Ctr Try.prog 22 [.int .i64 p1, .slice A1 p2.length c1, .agg #[.int .u64 p3.1, .int .u64 p3.2.1, .int .u64 p3.2.2]] [] [slF rp_u64_u64 A1 c1 p2] (fun ret M' F' => ret = .bool r ∧ M' = [] ∧ F' = []) := by
  unfold law07_ExpiryShape at H
  refine ctr_ofI (N := 91) Try.func22 rfl Try.ntmps22 rfl (Nat.le_of_ble_eq_true rfl) (fun γ0 w0 => ?_)
  refine Tr.seq ?_
  refine Tr.region ?_
  refine TrL.cons rfl (op_box' rfl (bl rfl) rfl rfl rfl (fun b11 => ?_))
  refine TrL.v (v_assign rfl rfl) rfl rfl (bl rfl) ?_
  refine TrL.nil (qthen_n ?_)
  refine Tr.seq ?_
  refine Tr.region ?_
  obtain ⟨r21, hr21, H⟩ := bnd H
  refine TrL.cons rfl (op_call0' (vs := []) (cap := []) [] rfl rfl (bl rfl) rfl rfl en29 (c_law07_awake r21 hr21) rfl (fun ret M' F' hR31 => ?_))
  obtain ⟨rfl, rfl, rfl⟩ := hR31
  refine TrL.v (v_assign rfl rfl) rfl rfl (bl rfl) ?_
  refine TrL.nil (qthen_n ?_)
  refine Tr.seq ?_
  refine Tr.region ?_
  refine TrL.v (v_move rfl rfl) rfl rfl (bl rfl) ?_
  refine TrL.v (v_move rfl rfl) rfl rfl (bl rfl) ?_
  obtain ⟨r22, hr22, H⟩ := bnd H
  refine TrL.cons rfl (op_call0' (vs := [.int .i64 p1, .slice A1 p2.length c1]) (cap := []) [0] rfl rfl (bl rfl) rfl rfl en30 (c_ref06_Made p1 p2 A1 c1 r22 hr22) rfl (fun ret M' F' hR32 => ?_))
  obtain ⟨m39, rfl, rfl, rfl⟩ := hR32
  refine TrL.cons rfl (op_alloc' rfl (bl rfl) rfl ze28 (fun b12 => ?_))
  refine TrL.cons rfl (op_store' (k := 0) (c' := [.int .i64 r22.1, .int .i64 r22.2.1, .slice m39.1 r22.2.2.length m39.2]) rfl rfl rfl rfl rfl ty28 rfl (Nat.le_of_ble_eq_true rfl) (ones (oc rfl (oc rfl (oc rfl on)))) rfl ?_)
  refine TrL.nil (qthen_n ?_)
  refine Tr.seq ?_
  refine Tr.region ?_
  refine TrL.v (v_load (k := 0) rfl rfl rfl ty28 nofun rfl rfl) rfl rfl (bl rfl) ?_
  obtain ⟨r23, hr23, H⟩ := bnd H
  refine TrL.cons rfl (op_call0' (vs := [.agg #[.int .i64 r22.1, .int .i64 r22.2.1, .slice m39.1 r22.2.2.length m39.2]]) (cap := []) [1] rfl rfl (bl rfl) rfl rfl en68 (c_ref06_Last r22 m39.1 m39.2 r23 hr23) rfl (fun ret M' F' hR33 => ?_))
  obtain ⟨rfl, rfl, rfl⟩ := hR33
  refine TrL.v (v_move rfl rfl) rfl rfl (bl rfl) ?_
  refine TrL.v (v_extract rfl rfl rfl) rfl rfl (bl rfl) ?_
  refine TrL.v (v_extract rfl rfl rfl) rfl rfl (bl rfl) ?_
  refine TrL.v (v_assign rfl rfl) rfl rfl (bl rfl) ?_
  refine TrL.v (v_assign rfl rfl) rfl rfl (bl rfl) ?_
  refine TrL.nil (qthen_n ?_)
  refine Tr.seq ?_
  refine Tr.regionD drawn (fun hok => ?_)
  obtain ⟨r24, hr24, H⟩ := bnd H
  obtain ⟨r25, hr25, H⟩ := bnd H
  refine TrAny.cut (ι := Nat × Option Addr × Nat) (fun m48 => ⟨[(5, .pointer (some ⟨b11, 0, none⟩)), (7, .bool r21), (9, .int .u64 r23.1), (11, .pointer (some ⟨m48.1, 0, none⟩))], [cells b11 [.int .u64 p3.1, .int .u64 p3.2.1, .int .u64 p3.2.2] 24, cells m48.1 [.int .i64 r22.1, .int .i64 r22.2.1, .slice m48.2.1 r25.length m48.2.2] 31], [slF (rSl rp_u64_u64) m48.2.1 m48.2.2 r25], []⟩) ?_ (fun m48 => ?_)
  · refine TrAny.prom (i := 0) (d := 26) hok (OpVal.plain rfl rfl (v_load (k := 0) rfl rfl rfl ty28 nofun rfl rfl)) (by kernel_rfl) rfl (bl rfl) ?_
    clear hok
    intro hok
    refine TrAny.prom (i := 2) (d := 28) hok (OpVal.plain rfl rfl (v_indexArr rfl ar24 ty23 rfl rfl (by decide) (by decide) rfl)) (by kernel_rfl) rfl (bl rfl) ?_
    clear hok
    intro hok
    refine TrAny.prom (i := 3) (d := 29) hok (OpVal.plain rfl rfl (v_load (k := 1) rfl rfl rfl ty23 (fun _ => rfl) rfl rfl)) (by kernel_rfl) rfl (bl rfl) ?_
    clear hok
    intro hok
    refine TrAny.prom (i := 4) (d := 30) hok (OpVal.plain rfl rfl (v_indexArr rfl ar24 ty23 rfl rfl (by decide) (by decide) rfl)) (by kernel_rfl) rfl (bl rfl) ?_
    clear hok
    intro hok
    refine TrAny.prom (i := 5) (d := 31) hok (OpVal.plain rfl rfl (v_load (k := 1) rfl rfl rfl ty23 (fun _ => rfl) rfl rfl)) (by kernel_rfl) rfl (bl rfl) ?_
    clear hok
    intro hok
    refine TrAny.fork [1, 7] (by kernel_rfl) hok ⟨1, by decide, bl rfl⟩ (by kernel_rfl) (.cons ?_ (.cons ?_ .nil))
    · refine step_n rfl (by kernel_rfl) rfl (op_call0' (vs := [.agg #[.int .i64 r22.1, .int .i64 r22.2.1, .slice m39.1 r22.2.2.length m39.2]]) (cap := []) [1] rfl rfl (bl rfl) rfl rfl en33 (c_law07_made r22 m39.1 m39.2 r24 hr24) rfl (fun ret M' F' hR41 => ?_))
      obtain ⟨rfl, rfl, rfl⟩ := hR41
      refine nxp hok (kp_imp (kp_c0 rfl)) rfl (by kernel_rfl) ?_
      clear hok
      intro hok
      refine TrAny.fork [6, 7] (by kernel_rfl) hok ⟨6, by decide, bl rfl⟩ (by kernel_rfl) (.cons ?_ (.cons ?_ .nil))
      · refine step_n rfl (by kernel_rfl) rfl (op_call0' (vs := [.agg #[.int .i64 r22.1, .int .i64 r22.2.1, .slice m39.1 r22.2.2.length m39.2], .int .u64 p3.1, .int .u64 p3.2.1]) (cap := []) [1] rfl rfl (bl rfl) rfl rfl en32 (c_expiry_Drop r22 p3.1 p3.2.1 m39.1 m39.2 r25 hr25) rfl (fun ret M' F' hR42 => ?_))
        obtain ⟨m50, rfl, rfl, rfl⟩ := hR42
        refine nxp hok (kp_imp (kp_c0 rfl)) rfl (by kernel_rfl) ?_
        clear hok
        intro hok
        refine TrAny.next (j := 7) (by kernel_rfl) hok rfl (by kernel_rfl) (op_alloc' rfl (bl rfl) rfl ze31 (fun b17 => ?_))
        refine nxp hok (kp_imp (kp_cm rfl)) rfl (by kernel_rfl) ?_
        clear hok
        intro hok
        refine TrAny.next (j := 8) (by kernel_rfl) hok rfl (by kernel_rfl) (op_store' (k := 0) (c' := [.int .i64 r22.1, .int .i64 r22.2.1, .slice m50.1 r25.length m50.2]) rfl rfl rfl rfl rfl ty31 rfl (Nat.le_of_ble_eq_true rfl) (ones (oc rfl (oc rfl (oc rfl on)))) rfl ?_)
        refine nxs hok (kp_aw (by kernel_rfl)) rfl ?_
        clear hok
        intro hok
        refine TrAny.done (by kernel_rfl) (by kernel_rfl) hok (by kernel_rfl) (⟨(b17, m50.1, m50.2), Imp.re _ [2, 0] [3] (sc rfl (sc rfl (sc rfl (sc rfl sn)))) (by decide) rfl rfl rfl⟩)
      · refine step_n rfl (by kernel_rfl) rfl (op_alloc' rfl (bl rfl) rfl ze31 (fun b18 => ?_))
        refine nxp hok (kp_imp (kp_cm rfl)) rfl (by kernel_rfl) ?_
        clear hok
        intro hok
        refine TrAny.next (j := 6) (by kernel_rfl) hok rfl (by kernel_rfl) (op_call0' (vs := [.agg #[.int .i64 r22.1, .int .i64 r22.2.1, .slice m39.1 r22.2.2.length m39.2], .int .u64 p3.1, .int .u64 p3.2.1]) (cap := []) [1] rfl rfl (bl rfl) rfl rfl en32 (c_expiry_Drop r22 p3.1 p3.2.1 m39.1 m39.2 r25 hr25) rfl (fun ret M' F' hR43 => ?_))
        obtain ⟨m51, rfl, rfl, rfl⟩ := hR43
        refine nxp hok (kp_imp (kp_c0 rfl)) rfl (by kernel_rfl) ?_
        clear hok
        intro hok
        refine TrAny.next (j := 8) (by kernel_rfl) hok rfl (by kernel_rfl) (op_store' (k := 0) (c' := [.int .i64 r22.1, .int .i64 r22.2.1, .slice m51.1 r25.length m51.2]) rfl rfl rfl rfl rfl ty31 rfl (Nat.le_of_ble_eq_true rfl) (ones (oc rfl (oc rfl (oc rfl on)))) rfl ?_)
        refine nxs hok (kp_aw (by kernel_rfl)) rfl ?_
        clear hok
        intro hok
        refine TrAny.done (by kernel_rfl) (by kernel_rfl) hok (by kernel_rfl) (⟨(b18, m51.1, m51.2), Imp.re _ [2, 0] [3] (sc rfl (sc rfl (sc rfl (sc rfl sn)))) (by decide) rfl rfl rfl⟩)
    · refine step_n rfl (by kernel_rfl) rfl (op_alloc' rfl (bl rfl) rfl ze31 (fun b19 => ?_))
      refine nxp hok (kp_imp (kp_cm rfl)) rfl (by kernel_rfl) ?_
      clear hok
      intro hok
      refine TrAny.next (j := 1) (by kernel_rfl) hok rfl (by kernel_rfl) (op_call0' (vs := [.agg #[.int .i64 r22.1, .int .i64 r22.2.1, .slice m39.1 r22.2.2.length m39.2]]) (cap := []) [1] rfl rfl (bl rfl) rfl rfl en33 (c_law07_made r22 m39.1 m39.2 r24 hr24) rfl (fun ret M' F' hR44 => ?_))
      obtain ⟨rfl, rfl, rfl⟩ := hR44
      refine nxp hok (kp_imp (kp_c0 rfl)) rfl (by kernel_rfl) ?_
      clear hok
      intro hok
      refine TrAny.next (j := 6) (by kernel_rfl) hok rfl (by kernel_rfl) (op_call0' (vs := [.agg #[.int .i64 r22.1, .int .i64 r22.2.1, .slice m39.1 r22.2.2.length m39.2], .int .u64 p3.1, .int .u64 p3.2.1]) (cap := []) [1] rfl rfl (bl rfl) rfl rfl en32 (c_expiry_Drop r22 p3.1 p3.2.1 m39.1 m39.2 r25 hr25) rfl (fun ret M' F' hR45 => ?_))
      obtain ⟨m53, rfl, rfl, rfl⟩ := hR45
      refine nxp hok (kp_imp (kp_c0 rfl)) rfl (by kernel_rfl) ?_
      clear hok
      intro hok
      refine TrAny.next (j := 8) (by kernel_rfl) hok rfl (by kernel_rfl) (op_store' (k := 0) (c' := [.int .i64 r22.1, .int .i64 r22.2.1, .slice m53.1 r25.length m53.2]) rfl rfl rfl rfl rfl ty31 rfl (Nat.le_of_ble_eq_true rfl) (ones (oc rfl (oc rfl (oc rfl on)))) rfl ?_)
      refine nxs hok (kp_aw (by kernel_rfl)) rfl ?_
      clear hok
      intro hok
      refine TrAny.done (by kernel_rfl) (by kernel_rfl) hok (by kernel_rfl) (⟨(b19, m53.1, m53.2), Imp.re _ [2, 0] [3] (sc rfl (sc rfl (sc rfl (sc rfl sn)))) (by decide) rfl rfl rfl⟩)
  · refine (qthen_n ?_)
    refine Tr.seq ?_
    refine Tr.region ?_
    refine TrL.v (v_load (k := 1) rfl rfl rfl ty31 nofun rfl rfl) rfl rfl (bl rfl) ?_
    refine TrL.v (v_move rfl rfl) rfl rfl (bl rfl) ?_
    refine TrL.v (v_indexArr rfl ar24 ty23 rfl rfl (by decide) (by decide) rfl) rfl rfl (bl rfl) ?_
    refine TrL.v (v_load (k := 0) rfl rfl rfl ty23 (fun _ => rfl) rfl rfl) rfl rfl (bl rfl) ?_
    obtain ⟨r26, hr26, H⟩ := bnd H
    refine TrL.cons rfl (op_call0' (vs := [.agg #[.int .i64 r22.1, .int .i64 r22.2.1, .slice m48.2.1 r25.length m48.2.2], .int .u64 r23.1, .int .u64 p3.2.2]) (cap := []) [0] rfl rfl (bl rfl) rfl rfl en69 (c_hist_Add ((r22.1, r22.2.1, r25)) r23.1 p3.2.2 m48.2.1 m48.2.2 r26 hr26) rfl (fun ret M' F' hR46 => ?_))
    obtain ⟨m54, rfl, rfl, rfl⟩ := hR46
    refine TrL.v (v_move rfl rfl) rfl rfl (bl rfl) ?_
    refine TrL.v (v_extract rfl rfl rfl) rfl rfl (bl rfl) ?_
    refine TrL.v (v_extract rfl rfl rfl) rfl rfl (bl rfl) ?_
    refine TrL.cons rfl (op_alloc' rfl (bl rfl) rfl ze31 (fun b20 => ?_))
    refine TrL.cons rfl (op_store' (k := 0) (c' := [.int .i64 r26.1, .int .i64 r26.2.1, .slice m54.1 r26.2.2.1.length m54.2]) rfl rfl rfl rfl rfl ty31 rfl (Nat.le_of_ble_eq_true rfl) (ones (oc rfl (oc rfl (oc rfl on)))) rfl ?_)
    refine TrL.v (v_assign rfl rfl) rfl rfl (bl rfl) ?_
    refine TrL.nil (qthen_n ?_)
    refine Tr.seq ?_
    refine Tr.seq ?_
    refine Tr.region ?_
    refine TrL.v (v_move rfl rfl) rfl rfl (bl rfl) ?_
    refine TrL.v (v_arith rfl rfl rfl ar_eql) rfl rfl (bl rfl) ?_
    refine TrL.nil (qthen_n ?_)
    obtain ⟨j2, hj2, H⟩ := bnd H
    refine Tr.cutE (D := Int × Int × List (List (Int × Int))) (M := Option Addr × Nat) .normal (fun _d => j2 = _d) (fun j2 m55 => ⟨[(7, .bool r21), (11, .pointer (some ⟨m48.1, 0, none⟩))], [cells m48.1 [.int .i64 j2.1, .int .i64 j2.2.1, .slice m55.1 j2.2.2.length m55.2] 31], [slF (rSl rp_u64_u64) m55.1 m55.2 j2.2.2], []⟩) ?_ (fun j2 m55 hd4 => ?_)
    · rcases ifc hj2 with ⟨h30, hj2⟩ | ⟨h30, hj2⟩
      · refine Tr.cond_t rfl (bt_dec h30) ?_
        refine Tr.region ?_
        refine TrL.v (v_load (k := 0) rfl rfl rfl ty31 nofun rfl rfl) rfl rfl (bl rfl) ?_
        refine TrL.cons rfl (op_store' (k := 2) (c' := [.int .i64 r26.1, .int .i64 r26.2.1, .slice m54.1 r26.2.2.1.length m54.2]) rfl rfl rfl rfl rfl ty31 rfl (Nat.le_of_ble_eq_true rfl) (ones (oc rfl (oc rfl (oc rfl on)))) rfl ?_)
        refine TrL.nil (qcut_hit ((r26.1, r26.2.1, r26.2.2.1)) ((m54.1, m54.2)) (Option.some.inj hj2).symm (Imp.re _ [2] [1] (sc rfl (sc rfl sn)) (by decide) rfl rfl rfl))
      · refine Tr.cond_f rfl (bf_dec h30) ?_
        refine Tr.skip (qcut_hit ((r22.1, r22.2.1, r25)) ((m48.2.1, m48.2.2)) (Option.some.inj hj2).symm (Imp.re _ [2] [0] (sc rfl (sc rfl sn)) (by decide) rfl rfl rfl))
    · subst hd4
      refine (qthen_n ?_)
      refine Tr.seq ?_
      refine Tr.seq ?_
      refine Tr.region ?_
      refine TrL.v (v_assign rfl rfl) rfl rfl (bl rfl) ?_
      refine TrL.nil (qthen_n ?_)
      obtain ⟨x2, hx3, H⟩ := bnd H
      refine Tr.cutE (D := Unit) (M := Unit) .ret (fun d3 => x2 = .inl d3) (fun d3 m67 => ⟨[(6, .bool false)], [], [], []⟩) ?_ (fun d3 m67 hd5 => ?_)
      · refine Tr.cutE (D := Unit) (M := Unit) .normal (fun d4 => x2 = .inr d4) (fun d4 m68 => ⟨[(7, .bool r21), (11, .pointer (some ⟨m48.1, 0, none⟩))], [cells m48.1 [.int .i64 j2.1, .int .i64 j2.2.1, .slice m55.1 j2.2.2.length m55.2] 31], [slF (rSl rp_u64_u64) m55.1 m55.2 j2.2.2], []⟩) ?_ (fun d4 m68 hd6 => ?_)
        · refine Tr.block (Tr.loopI (ι := Unit) (step := law07_ExpiryShape_s0 j2) (fun s5 m61 => ⟨[(7, .bool r21), (11, .pointer (some ⟨m48.1, 0, none⟩)), (14, .int .i64 s5)], [cells m48.1 [.int .i64 j2.1, .int .i64 j2.2.1, .slice m55.1 j2.2.2.length m55.2] 31], [slF (rSl rp_u64_u64) m55.1 m55.2 j2.2.2], []⟩) (()) hx3 (Imp.re _ [0] [0] (sc rfl (sc rfl (sc rfl sn))) (by decide) rfl rfl rfl) (fun s5 m61 y2 hy2 hx4 => ?_))
          unfold law07_ExpiryShape_s0 at hy2
          refine Tr.seq ?_
          refine Tr.seq ?_
          refine Tr.region ?_
          refine TrL.v (v_move rfl rfl) rfl rfl (bl rfl) ?_
          refine TrL.v (v_fieldAddr' rfl fo31_2 rfl rfl) rfl rfl (bl rfl) ?_
          refine TrL.v (v_load (k := 0) rfl rfl rfl ty26 (fun _ => rfl) rfl rfl) rfl rfl (bl rfl) ?_
          refine TrL.v (v_len rfl sl26 rfl) rfl rfl (bl rfl) ?_
          refine TrL.v (v_arith rfl rfl rfl ar_lss) rfl rfl (bl rfl) ?_
          refine TrL.nil (qthen_n ?_)
          rcases ifc hy2 with ⟨h47, hy2⟩ | ⟨h47, hy2⟩
          · refine Tr.cond_t rfl (bt_dec h47) ?_
            refine Tr.skip (qthen_n ?_)
            refine Tr.seq ?_
            refine Tr.block ?_
            refine Tr.seq ?_
            refine Tr.region ?_
            refine TrL.v (v_move rfl rfl) rfl rfl (bl rfl) ?_
            refine TrL.v (v_fieldAddr' rfl fo31_2 rfl rfl) rfl rfl (bl rfl) ?_
            refine TrL.v (v_load (k := 0) rfl rfl rfl ty26 (fun _ => rfl) rfl rfl) rfl rfl (bl rfl) ?_
            refine TrL.v (v_len rfl sl26 rfl) rfl rfl (bl rfl) ?_
            refine TrL.v (v_arith rfl rfl rfl ar_sub_i64) rfl rfl (bl rfl) ?_
            refine TrL.v (v_arith rfl rfl rfl ar_eql) rfl rfl (bl rfl) ?_
            refine TrL.v (v_assign rfl rfl) rfl rfl (bl rfl) ?_
            refine TrL.nil (qthen_n ?_)
            refine Tr.seq ?_
            refine Tr.region ?_
            refine TrL.v (v_fieldAddr' rfl fo31_2 rfl rfl) rfl rfl (bl rfl) ?_
            refine TrL.v (v_load (k := 0) rfl rfl rfl ty26 (fun _ => rfl) rfl rfl) rfl rfl (bl rfl) ?_
            refine TrL.v (v_move rfl rfl) rfl rfl (bl rfl) ?_
            obtain ⟨z6, hz6, hy2⟩ := bnd hy2
            refine TrL.v (v_indexAddr (k := 0) rfl sl26 ty38 rfl rfl rfl rfl hz6) rfl rfl (bl rfl) ?_
            refine TrL.openS' (k := 0) rfl hz6 (fun A7 c7 => ?_)
            refine TrL.v (v_loadF (k := 2) rfl ty38 rfl rfl) rfl rfl (bl rfl) ?_
            refine TrL.v (v_len rfl sl38 rfl) rfl rfl (bl rfl) ?_
            refine TrL.v (v_assign rfl rfl) rfl rfl (bl rfl) ?_
            refine TrL.nil (qthen_n ?_)
            refine Tr.seq ?_
            refine Tr.region ?_
            refine TrL.v (v_move rfl rfl) rfl rfl (bl rfl) ?_
            refine TrL.v (v_arith rfl rfl rfl ar_lss) rfl rfl (bl rfl) ?_
            refine TrL.v (v_move rfl rfl) rfl rfl (bl rfl) ?_
            rcases ifc hy2 with ⟨h51, hy2⟩ | ⟨h51, hy2⟩
            · refine TrL.cons_no rfl rfl rfl (gn_f (bt_dec h51)) rfl (bl rfl) ?_
              refine TrL.cons_no rfl rfl rfl (gn_f (bt_dec h51)) rfl (bl rfl) ?_
              refine TrL.cons_no rfl rfl rfl (gn_f (bt_dec h51)) rfl (bl rfl) ?_
              refine TrL.cons_no rfl rfl rfl (gn_f (bt_dec h51)) rfl (bl rfl) ?_
              refine TrL.cons_no rfl rfl rfl (gn_f (bt_dec h51)) rfl (bl rfl) ?_
              refine TrL.cons_no rfl rfl rfl (gn_f (bt_dec h51)) rfl (bl rfl) ?_
              refine TrL.v (v_pick_t rfl rfl (bt_dec h51) rfl) rfl rfl (bl rfl) ?_
              refine TrL.v (v_move rfl rfl) rfl rfl (bl rfl) ?_
              refine TrL.cons_no rfl rfl rfl (gn_f rfl) rfl (bl rfl) ?_
              refine TrL.cons_no rfl rfl rfl (gn_f rfl) rfl (bl rfl) ?_
              refine TrL.cons_no rfl rfl rfl (gn_f rfl) rfl (bl rfl) ?_
              refine TrL.cons_un rfl rfl rfl rfl (bl rfl) ?_
              refine TrL.cons_un rfl rfl rfl rfl (bl rfl) ?_
              refine TrL.cons_un rfl rfl rfl rfl (bl rfl) ?_
              refine TrL.cons_un rfl rfl rfl rfl (bl rfl) ?_
              refine TrL.cons_un rfl rfl rfl rfl (bl rfl) ?_
              refine TrL.cons_un rfl rfl rfl rfl (bl rfl) ?_
              refine TrL.cons_no rfl rfl rfl (gn_f rfl) rfl (bl rfl) ?_
              refine TrL.v (v_pick_t rfl rfl rfl rfl) rfl rfl (bl rfl) ?_
              refine TrL.nil (qthen_n ?_)
              refine Tr.cond_t rfl rfl ?_
              refine Tr.seq ?_
              refine Tr.region ?_
              refine TrL.v (v_assign rfl rfl) rfl rfl (bl rfl) ?_
              refine TrL.nil (qthen_n ?_)
              have hz := Option.some.inj hy2
              subst hz
              refine Tr.ret (qblock_r (qthen_r (qloop_r (qblock_r (qcut_miss (by simp) (qcut_hit (()) (()) (hx4 _ rfl).symm (Imp.re _ [] [] (sc rfl sn) (by decide) rfl rfl rfl)))))))
            · refine TrL.cons_yes rfl rfl rfl (bf_dec h51) (OpTr.v (v_move rfl rfl) rfl (bl rfl) ?_)
              refine TrL.cons_yes rfl rfl rfl (bf_dec h51) (OpTr.v (v_fieldAddr' rfl fo31_0 rfl rfl) rfl (bl rfl) ?_)
              refine TrL.cons_yes rfl rfl rfl (bf_dec h51) (OpTr.v (v_load (k := 0) rfl rfl rfl ty3 (fun _ => rfl) rfl rfl) rfl (bl rfl) ?_)
              refine TrL.cons_yes rfl rfl rfl (bf_dec h51) (OpTr.v (v_move rfl rfl) rfl (bl rfl) ?_)
              obtain ⟨r37, hr37, hy2⟩ := bnd hy2
              refine TrL.cons_yes rfl rfl rfl (bf_dec h51) (op_call0' (vs := [.int .i64 j2.1, .int .i64 s5]) (cap := []) [] rfl rfl (bl rfl) rfl rfl en51 (c_ref05_Most j2.1 s5 r37 hr37) rfl (fun ret M' F' hR57 => ?_))
              obtain ⟨rfl, rfl, rfl⟩ := hR57
              refine TrL.cons_yes rfl rfl rfl (bf_dec h51) (OpTr.v (v_arith rfl rfl rfl ar_gtr) rfl (bl rfl) ?_)
              refine TrL.v (v_pick_f rfl rfl (bf_dec h51) rfl) rfl rfl (bl rfl) ?_
              refine TrL.v (v_move rfl rfl) rfl rfl (bl rfl) ?_
              rcases ifc hy2 with ⟨h52, hy2⟩ | ⟨h52, hy2⟩
              · refine TrL.cons_no rfl rfl rfl (gn_f (bt_dec h52)) rfl (bl rfl) ?_
                refine TrL.cons_no rfl rfl rfl (gn_f (bt_dec h52)) rfl (bl rfl) ?_
                refine TrL.cons_no rfl rfl rfl (gn_f (bt_dec h52)) rfl (bl rfl) ?_
                refine TrL.cons_un rfl rfl rfl rfl (bl rfl) ?_
                refine TrL.cons_un rfl rfl rfl rfl (bl rfl) ?_
                refine TrL.cons_un rfl rfl rfl rfl (bl rfl) ?_
                refine TrL.cons_un rfl rfl rfl rfl (bl rfl) ?_
                refine TrL.cons_un rfl rfl rfl rfl (bl rfl) ?_
                refine TrL.cons_un rfl rfl rfl rfl (bl rfl) ?_
                refine TrL.cons_no rfl rfl rfl (gn_f (bt_dec h52)) rfl (bl rfl) ?_
                refine TrL.v (v_pick_t rfl rfl (bt_dec h52) rfl) rfl rfl (bl rfl) ?_
                refine TrL.nil (qthen_n ?_)
                refine Tr.cond_t rfl rfl ?_
                refine Tr.seq ?_
                refine Tr.region ?_
                refine TrL.v (v_assign rfl rfl) rfl rfl (bl rfl) ?_
                refine TrL.nil (qthen_n ?_)
                have hz := Option.some.inj hy2
                subst hz
                refine Tr.ret (qblock_r (qthen_r (qloop_r (qblock_r (qcut_miss (by simp) (qcut_hit (()) (()) (hx4 _ rfl).symm (Imp.re _ [] [] (sc rfl sn) (by decide) rfl rfl rfl)))))))
              · refine TrL.cons_yes rfl rfl rfl (bf_dec h52) (OpTr.v (v_move rfl rfl) rfl (bl rfl) ?_)
                refine TrL.cons_yes rfl rfl rfl (bf_dec h52) (OpTr.v (v_notd rfl rfl) rfl (bl rfl) ?_)
                refine TrL.cons_yes rfl rfl rfl (bf_dec h52) (OpTr.v (v_move rfl rfl) rfl (bl rfl) ?_)
                rcases ifc hy2 with ⟨h53, hy2⟩ | ⟨h53, hy2⟩
                · refine TrL.cons_yes rfl rfl rfl (bt_dec h53) (OpTr.v (v_move rfl rfl) rfl (bl rfl) ?_)
                  refine TrL.cons_yes rfl rfl rfl (bt_dec h53) (OpTr.v (v_fieldAddr' rfl fo31_0 rfl rfl) rfl (bl rfl) ?_)
                  refine TrL.cons_yes rfl rfl rfl (bt_dec h53) (OpTr.v (v_load (k := 0) rfl rfl rfl ty3 (fun _ => rfl) rfl rfl) rfl (bl rfl) ?_)
                  refine TrL.cons_yes rfl rfl rfl (bt_dec h53) (OpTr.v (v_move rfl rfl) rfl (bl rfl) ?_)
                  obtain ⟨r38, hr38, hy2⟩ := bnd hy2
                  refine TrL.cons_yes rfl rfl rfl (bt_dec h53) (op_call0' (vs := [.int .i64 j2.1, .int .i64 s5]) (cap := []) [] rfl rfl (bl rfl) rfl rfl en53 (c_ref05_Least j2.1 s5 r38 hr38) rfl (fun ret M' F' hR58 => ?_))
                  obtain ⟨rfl, rfl, rfl⟩ := hR58
                  refine TrL.cons_yes rfl rfl rfl (bt_dec h53) (OpTr.v (v_arith rfl rfl rfl ar_lss) rfl (bl rfl) ?_)
                  refine TrL.cons_yes rfl rfl rfl (bf_dec h52) (OpTr.v (v_pick_t rfl rfl (bt_dec h53) rfl) rfl (bl rfl) ?_)
                  refine TrL.v (v_pick_f rfl rfl (bf_dec h52) rfl) rfl rfl (bl rfl) ?_
                  refine TrL.nil (qthen_n ?_)
                  rcases ifc hy2 with ⟨h54, hy2⟩ | ⟨h54, hy2⟩
                  · refine Tr.cond_t rfl (bt_dec h54) ?_
                    refine Tr.seq ?_
                    refine Tr.region ?_
                    refine TrL.v (v_assign rfl rfl) rfl rfl (bl rfl) ?_
                    refine TrL.nil (qthen_n ?_)
                    have hz := Option.some.inj hy2
                    subst hz
                    refine Tr.ret (qblock_r (qthen_r (qloop_r (qblock_r (qcut_miss (by simp) (qcut_hit (()) (()) (hx4 _ rfl).symm (Imp.re _ [] [] (sc rfl sn) (by decide) rfl rfl rfl)))))))
                  · refine Tr.cond_f rfl (bf_dec h54) ?_
                    refine Tr.skip (qblock_n (qthen_n ?_))
                    refine Tr.region ?_
                    refine TrL.v (v_move rfl rfl) rfl rfl (bl rfl) ?_
                    refine TrL.v (v_arith rfl rfl rfl ar_add_i64) rfl rfl (bl rfl) ?_
                    refine TrL.v (v_assign rfl rfl) rfl rfl (bl rfl) ?_
                    have hz := Option.some.inj hy2
                    subst hz
                    refine TrL.nil (qloop_n (()) (Imp.re _ [0] [0] (sc rfl (sc rfl (sc rfl sn))) (by decide) rfl rfl rfl))
                · refine TrL.cons_no rfl rfl rfl (gn_t (bf_dec h53)) rfl (bl rfl) ?_
                  refine TrL.cons_no rfl rfl rfl (gn_t (bf_dec h53)) rfl (bl rfl) ?_
                  refine TrL.cons_no rfl rfl rfl (gn_t (bf_dec h53)) rfl (bl rfl) ?_
                  refine TrL.cons_no rfl rfl rfl (gn_t (bf_dec h53)) rfl (bl rfl) ?_
                  refine TrL.cons_no rfl rfl rfl (gn_t (bf_dec h53)) rfl (bl rfl) ?_
                  refine TrL.cons_no rfl rfl rfl (gn_t (bf_dec h53)) rfl (bl rfl) ?_
                  refine TrL.cons_yes rfl rfl rfl (bf_dec h52) (OpTr.v (v_pick_f rfl rfl (bf_dec h53) rfl) rfl (bl rfl) ?_)
                  refine TrL.v (v_pick_f rfl rfl (bf_dec h52) rfl) rfl rfl (bl rfl) ?_
                  refine TrL.nil (qthen_n ?_)
                  refine Tr.cond_f rfl rfl ?_
                  refine Tr.skip (qblock_n (qthen_n ?_))
                  refine Tr.region ?_
                  refine TrL.v (v_move rfl rfl) rfl rfl (bl rfl) ?_
                  refine TrL.v (v_arith rfl rfl rfl ar_add_i64) rfl rfl (bl rfl) ?_
                  refine TrL.v (v_assign rfl rfl) rfl rfl (bl rfl) ?_
                  have hz := Option.some.inj hy2
                  subst hz
                  refine TrL.nil (qloop_n (()) (Imp.re _ [0] [0] (sc rfl (sc rfl (sc rfl sn))) (by decide) rfl rfl rfl))
          · refine Tr.cond_f rfl (bf_dec h47) ?_
            have hz := Option.some.inj hy2
            subst hz
            refine Tr.exit (qthen_x (qloop_x (qblock_hit (qcut_hit (()) (()) (hx4 _ rfl).symm (Imp.re _ [0] [0] (sc rfl (sc rfl sn)) (by decide) rfl rfl rfl)))))
        · subst hd6
          replace H := sumr H
          refine (qcut_miss (by simp) (qthen_n ?_))
          refine Tr.seq ?_
          refine Tr.region ?_
          refine TrL.v (v_move rfl rfl) rfl rfl (bl rfl) ?_
          refine TrL.v (v_move rfl rfl) rfl rfl (bl rfl) ?_
          rcases ifc H with ⟨h56, H⟩ | ⟨h56, H⟩
          · refine TrL.cons_yes rfl rfl rfl h56 (OpTr.v (v_load (k := 0) rfl rfl rfl ty31 nofun rfl rfl) rfl (bl rfl) ?_)
            obtain ⟨r40, hr40, H⟩ := bnd H
            refine TrL.cons_yes rfl rfl rfl h56 (op_call0' (vs := [.agg #[.int .i64 j2.1, .int .i64 j2.2.1, .slice m55.1 j2.2.2.length m55.2]]) (cap := []) [0] rfl rfl (bl rfl) rfl rfl en45 (c_hist_Total j2 m55.1 m55.2 r40 hr40) rfl (fun ret M' F' hR60 => ?_))
            obtain ⟨rfl, rfl, rfl⟩ := hR60
            refine TrL.cons_yes rfl rfl rfl h56 (OpTr.v (v_arith rfl rfl rfl ar_leq) rfl (bl rfl) ?_)
            refine TrL.v (v_pick_t rfl rfl h56 rfl) rfl rfl (bl rfl) ?_
            refine TrL.v (v_assign rfl rfl) rfl rfl (bl rfl) ?_
            refine TrL.nil (qthen_n ?_)
            have hz := Option.some.inj H
            subst hz
            refine Tr.ret (ret_r ⟨[(6, .bool (decide (r40 ≤ 4503599627370496)))], [], [], []⟩ [.bool (decide (r40 ≤ 4503599627370496))] [] [] (Imp.re _ [] [] (sc rfl sn) (by decide) rfl rfl rfl) rfl rfl ⟨rfl, rfl, rfl⟩ (.cons (resv_tmp rfl) .nil))
          · refine TrL.cons_no rfl rfl rfl (gn_t (bf_b h56)) rfl (bl rfl) ?_
            refine TrL.cons_no rfl rfl rfl (gn_t (bf_b h56)) rfl (bl rfl) ?_
            refine TrL.cons_no rfl rfl rfl (gn_t (bf_b h56)) rfl (bl rfl) ?_
            refine TrL.v (v_pick_f rfl rfl (bf_b h56) rfl) rfl rfl (bl rfl) ?_
            refine TrL.v (v_assign rfl rfl) rfl rfl (bl rfl) ?_
            refine TrL.nil (qthen_n ?_)
            have hz := Option.some.inj H
            subst hz
            refine Tr.ret (ret_r ⟨[(6, .bool false)], [], [], []⟩ [.bool false] [] [] (Imp.re _ [] [] (sc rfl sn) (by decide) rfl rfl rfl) rfl rfl ⟨rfl, rfl, rfl⟩ (.cons (resv_tmp rfl) .nil))
      · subst hd5
        replace H := suml H
        have hz := Option.some.inj H
        subst hz
        refine (qthen_r (ret_r ⟨[(6, .bool false)], [], [], []⟩ [.bool false] [] [] (Imp.re _ [] [] (sc rfl sn) (by decide) rfl rfl rfl) rfl rfl ⟨rfl, rfl, rfl⟩ (.cons (resv_tmp rfl) .nil)))
end Go.Proofs.Ytbnjjpmlaknaoaa.W
