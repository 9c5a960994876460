/- The contracts of the walked functions: the printed walks. -/
import Derived.Test.YtbnjjpmlaknaoaaKa
import Derived.Test.YtbnjjpmlaknaoaaQa
import Derived.Test.YtbnjjpmlaknaoaaWexpiryaa
import Derived.Test.YtbnjjpmlaknaoaaWlaw07aa
import Derived.Test.YtbnjjpmlaknaoaaWlaw07ba
import Derived.Test.YtbnjjpmlaknaoaaWref05aa
import Derived.Test.YtbnjjpmlaknaoaaWref06ba
import Derived.Test.YtbnjjpmlaknaoaaWref07aa
namespace Go.Proofs.Ytbnjjpmlaknaoaa.W
open Go Go.Proofs Go.Proofs.Ytbnjjpmlaknaoaa.L Go.Proofs.Ytbnjjpmlaknaoaa.Pu
set_option linter.unusedVariables false
set_option maxHeartbeats 4000000

theorem c_law07_ExpiryStays (p1 : Int) (p2 : List (Int × Int)) (p3 : Int × Int) (A1 : Option Addr) (c1 : Nat) (r : Bool) (H : law07_ExpiryStays p1 p2 p3 = some r) :
    Ctr Try.prog 4 [.int .i64 p1, .slice A1 p2.length c1, .agg #[.int .u64 p3.1, .int .u64 p3.2]] [] [slF rp_u64_u64 A1 c1 p2] (fun ret M' F' => ret = .bool r ∧ M' = [] ∧ F' = []) := by
  unfold law07_ExpiryStays at H
  refine ctr_ofI (N := 117) Try.func4 rfl Try.ntmps4 rfl (Nat.le_of_ble_eq_true rfl) (fun γ0 w0 => ?_)
  refine Tr.seq ?_
  refine Tr.region ?_
  refine TrL.cons rfl (op_box' rfl (bl rfl) rfl rfl rfl (fun b10 => ?_))
  refine TrL.v (v_assign rfl rfl) rfl rfl (bl rfl) ?_
  refine TrL.nil (qthen_n ?_)
  refine Tr.seq ?_
  refine Tr.region ?_
  obtain ⟨r29, hr29, H⟩ := bnd H
  refine TrL.cons rfl (op_call0' (vs := []) (cap := []) [] rfl rfl (bl rfl) rfl rfl en29 (c_law07_awake r29 hr29) rfl (fun ret M' F' hR39 => ?_))
  obtain ⟨rfl, rfl, rfl⟩ := hR39
  refine TrL.v (v_assign rfl rfl) rfl rfl (bl rfl) ?_
  refine TrL.nil (qthen_n ?_)
  refine Tr.seq ?_
  refine Tr.region ?_
  refine TrL.v (v_move rfl rfl) rfl rfl (bl rfl) ?_
  refine TrL.v (v_move rfl rfl) rfl rfl (bl rfl) ?_
  obtain ⟨r30, hr30, H⟩ := bnd H
  refine TrL.cons rfl (op_call0' (vs := [.int .i64 p1, .slice A1 p2.length c1]) (cap := []) [0] rfl rfl (bl rfl) rfl rfl en30 (c_ref06_Made p1 p2 A1 c1 r30 hr30) rfl (fun ret M' F' hR40 => ?_))
  obtain ⟨m64, rfl, rfl, rfl⟩ := hR40
  refine TrL.cons rfl (op_alloc' rfl (bl rfl) rfl ze28 (fun b11 => ?_))
  refine TrL.cons rfl (op_store' (k := 0) (c' := [.int .i64 r30.1, .int .i64 r30.2.1, .slice m64.1 r30.2.2.length m64.2]) rfl rfl rfl rfl rfl ty28 rfl (Nat.le_of_ble_eq_true rfl) (ones (oc rfl (oc rfl (oc rfl on)))) rfl ?_)
  refine TrL.nil (qthen_n ?_)
  refine Tr.seq ?_
  refine Tr.regionD drawn (fun hok => ?_)
  obtain ⟨r31, hr31, H⟩ := bnd H
  obtain ⟨r32, hr32, H⟩ := bnd H
  refine TrAny.cut (ι := Nat × Option Addr × Nat) (fun m72 => ⟨[(5, .pointer (some ⟨b10, 0, none⟩)), (7, .bool r29), (8, .pointer (some ⟨b11, 0, none⟩)), (9, .pointer (some ⟨m72.1, 0, none⟩))], [cells b10 [.int .u64 p3.1, .int .u64 p3.2] 37, cells b11 [.int .i64 r30.1, .int .i64 r30.2.1, .slice m64.1 r30.2.2.length m64.2] 28, cells m72.1 [.int .i64 r30.1, .int .i64 r30.2.1, .slice m72.2.1 r32.length m72.2.2] 31], [slF (rSl rp_u64_u64) m64.1 m64.2 r30.2.2, slF (rSl rp_u64_u64) m72.2.1 m72.2.2 r32], []⟩) ?_ (fun m72 => ?_)
  · refine TrAny.prom (i := 0) (d := 18) hok (OpVal.plain rfl rfl (v_load (k := 0) rfl rfl rfl ty28 nofun rfl rfl)) (by kernel_rfl) rfl (bl rfl) ?_
    clear hok
    intro hok
    refine TrAny.prom (i := 2) (d := 20) hok (OpVal.plain rfl rfl (v_indexArr rfl ar37 ty23 rfl rfl (by decide) (by decide) rfl)) (by kernel_rfl) rfl (bl rfl) ?_
    clear hok
    intro hok
    refine TrAny.prom (i := 3) (d := 21) hok (OpVal.plain rfl rfl (v_load (k := 1) rfl rfl rfl ty23 (fun _ => rfl) rfl rfl)) (by kernel_rfl) rfl (bl rfl) ?_
    clear hok
    intro hok
    refine TrAny.prom (i := 4) (d := 22) hok (OpVal.plain rfl rfl (v_indexArr rfl ar37 ty23 rfl rfl (by decide) (by decide) rfl)) (by kernel_rfl) rfl (bl rfl) ?_
    clear hok
    intro hok
    refine TrAny.prom (i := 5) (d := 23) hok (OpVal.plain rfl rfl (v_load (k := 1) rfl rfl rfl ty23 (fun _ => rfl) rfl rfl)) (by kernel_rfl) rfl (bl rfl) ?_
    clear hok
    intro hok
    refine TrAny.fork [1, 7] (by kernel_rfl) hok ⟨1, by decide, bl rfl⟩ (by kernel_rfl) (.cons ?_ (.cons ?_ .nil))
    · refine step_n rfl (by kernel_rfl) rfl (op_call0' (vs := [.agg #[.int .i64 r30.1, .int .i64 r30.2.1, .slice m64.1 r30.2.2.length m64.2]]) (cap := []) [1] rfl rfl (bl rfl) rfl rfl en33 (c_law07_made r30 m64.1 m64.2 r31 hr31) rfl (fun ret M' F' hR48 => ?_))
      obtain ⟨rfl, rfl, rfl⟩ := hR48
      refine nxp hok (kp_imp (kp_c0 rfl)) rfl (by kernel_rfl) ?_
      clear hok
      intro hok
      refine TrAny.fork [6, 7] (by kernel_rfl) hok ⟨6, by decide, bl rfl⟩ (by kernel_rfl) (.cons ?_ (.cons ?_ .nil))
      · refine step_n rfl (by kernel_rfl) rfl (op_call0' (vs := [.agg #[.int .i64 r30.1, .int .i64 r30.2.1, .slice m64.1 r30.2.2.length m64.2], .int .u64 p3.1, .int .u64 p3.2]) (cap := []) [1] rfl rfl (bl rfl) rfl rfl en32 (c_expiry_Drop r30 p3.1 p3.2 m64.1 m64.2 r32 hr32) rfl (fun ret M' F' hR49 => ?_))
        obtain ⟨m74, rfl, rfl, rfl⟩ := hR49
        refine nxp hok (kp_imp (kp_c0 rfl)) rfl (by kernel_rfl) ?_
        clear hok
        intro hok
        refine TrAny.next (j := 7) (by kernel_rfl) hok rfl (by kernel_rfl) (op_alloc' rfl (bl rfl) rfl ze31 (fun b16 => ?_))
        refine nxp hok (kp_imp (kp_cm rfl)) rfl (by kernel_rfl) ?_
        clear hok
        intro hok
        refine TrAny.next (j := 8) (by kernel_rfl) hok rfl (by kernel_rfl) (op_store' (k := 0) (c' := [.int .i64 r30.1, .int .i64 r30.2.1, .slice m74.1 r32.length m74.2]) rfl rfl rfl rfl rfl ty31 rfl (Nat.le_of_ble_eq_true rfl) (ones (oc rfl (oc rfl (oc rfl on)))) rfl ?_)
        refine nxs hok (kp_aw (by kernel_rfl)) rfl ?_
        clear hok
        intro hok
        refine TrAny.done (by kernel_rfl) (by kernel_rfl) hok (by kernel_rfl) (⟨(b16, m74.1, m74.2), Imp.re _ [2, 1, 0] [1, 3] (sc rfl (sc rfl (sc rfl (sc rfl sn)))) (by decide) rfl rfl rfl⟩)
      · refine step_n rfl (by kernel_rfl) rfl (op_alloc' rfl (bl rfl) rfl ze31 (fun b17 => ?_))
        refine nxp hok (kp_imp (kp_cm rfl)) rfl (by kernel_rfl) ?_
        clear hok
        intro hok
        refine TrAny.next (j := 6) (by kernel_rfl) hok rfl (by kernel_rfl) (op_call0' (vs := [.agg #[.int .i64 r30.1, .int .i64 r30.2.1, .slice m64.1 r30.2.2.length m64.2], .int .u64 p3.1, .int .u64 p3.2]) (cap := []) [1] rfl rfl (bl rfl) rfl rfl en32 (c_expiry_Drop r30 p3.1 p3.2 m64.1 m64.2 r32 hr32) rfl (fun ret M' F' hR50 => ?_))
        obtain ⟨m75, rfl, rfl, rfl⟩ := hR50
        refine nxp hok (kp_imp (kp_c0 rfl)) rfl (by kernel_rfl) ?_
        clear hok
        intro hok
        refine TrAny.next (j := 8) (by kernel_rfl) hok rfl (by kernel_rfl) (op_store' (k := 0) (c' := [.int .i64 r30.1, .int .i64 r30.2.1, .slice m75.1 r32.length m75.2]) rfl rfl rfl rfl rfl ty31 rfl (Nat.le_of_ble_eq_true rfl) (ones (oc rfl (oc rfl (oc rfl on)))) rfl ?_)
        refine nxs hok (kp_aw (by kernel_rfl)) rfl ?_
        clear hok
        intro hok
        refine TrAny.done (by kernel_rfl) (by kernel_rfl) hok (by kernel_rfl) (⟨(b17, m75.1, m75.2), Imp.re _ [2, 1, 0] [1, 3] (sc rfl (sc rfl (sc rfl (sc rfl sn)))) (by decide) rfl rfl rfl⟩)
    · refine step_n rfl (by kernel_rfl) rfl (op_alloc' rfl (bl rfl) rfl ze31 (fun b18 => ?_))
      refine nxp hok (kp_imp (kp_cm rfl)) rfl (by kernel_rfl) ?_
      clear hok
      intro hok
      refine TrAny.next (j := 1) (by kernel_rfl) hok rfl (by kernel_rfl) (op_call0' (vs := [.agg #[.int .i64 r30.1, .int .i64 r30.2.1, .slice m64.1 r30.2.2.length m64.2]]) (cap := []) [1] rfl rfl (bl rfl) rfl rfl en33 (c_law07_made r30 m64.1 m64.2 r31 hr31) rfl (fun ret M' F' hR51 => ?_))
      obtain ⟨rfl, rfl, rfl⟩ := hR51
      refine nxp hok (kp_imp (kp_c0 rfl)) rfl (by kernel_rfl) ?_
      clear hok
      intro hok
      refine TrAny.next (j := 6) (by kernel_rfl) hok rfl (by kernel_rfl) (op_call0' (vs := [.agg #[.int .i64 r30.1, .int .i64 r30.2.1, .slice m64.1 r30.2.2.length m64.2], .int .u64 p3.1, .int .u64 p3.2]) (cap := []) [1] rfl rfl (bl rfl) rfl rfl en32 (c_expiry_Drop r30 p3.1 p3.2 m64.1 m64.2 r32 hr32) rfl (fun ret M' F' hR52 => ?_))
      obtain ⟨m77, rfl, rfl, rfl⟩ := hR52
      refine nxp hok (kp_imp (kp_c0 rfl)) rfl (by kernel_rfl) ?_
      clear hok
      intro hok
      refine TrAny.next (j := 8) (by kernel_rfl) hok rfl (by kernel_rfl) (op_store' (k := 0) (c' := [.int .i64 r30.1, .int .i64 r30.2.1, .slice m77.1 r32.length m77.2]) rfl rfl rfl rfl rfl ty31 rfl (Nat.le_of_ble_eq_true rfl) (ones (oc rfl (oc rfl (oc rfl on)))) rfl ?_)
      refine nxs hok (kp_aw (by kernel_rfl)) rfl ?_
      clear hok
      intro hok
      refine TrAny.done (by kernel_rfl) (by kernel_rfl) hok (by kernel_rfl) (⟨(b18, m77.1, m77.2), Imp.re _ [2, 1, 0] [1, 3] (sc rfl (sc rfl (sc rfl (sc rfl sn)))) (by decide) rfl rfl rfl⟩)
  · refine (qthen_n ?_)
    refine Tr.seq ?_
    refine Tr.seq ?_
    refine Tr.region ?_
    refine TrL.v (v_assign rfl rfl) rfl rfl (bl rfl) ?_
    refine TrL.nil (qthen_n ?_)
    obtain ⟨x7, hx13, H⟩ := bnd H
    refine Tr.cutE (D := Unit) (M := Unit) .ret (fun d13 => x7 = .inl d13) (fun d13 m109 => ⟨[(6, .bool false)], [], [], []⟩) ?_ (fun d13 m109 hd21 => ?_)
    · refine Tr.cutE (D := Unit) (M := Unit) .normal (fun d14 => x7 = .inr d14) (fun d14 m110 => ⟨[(7, .bool r29), (8, .pointer (some ⟨b11, 0, none⟩)), (9, .pointer (some ⟨m72.1, 0, none⟩))], [cells b11 [.int .i64 r30.1, .int .i64 r30.2.1, .slice m64.1 r30.2.2.length m64.2] 28, cells m72.1 [.int .i64 r30.1, .int .i64 r30.2.1, .slice m72.2.1 r32.length m72.2.2] 31], [slF (rSl rp_u64_u64) m64.1 m64.2 r30.2.2, slF (rSl rp_u64_u64) m72.2.1 m72.2.2 r32], []⟩) ?_ (fun d14 m110 hd22 => ?_)
      · refine Tr.block (Tr.loopI (ι := Unit) (step := law07_ExpiryStays_s0 p3 r30 r32) (fun s17 m93 => ⟨[(5, .pointer (some ⟨b10, 0, none⟩)), (7, .bool r29), (8, .pointer (some ⟨b11, 0, none⟩)), (9, .pointer (some ⟨m72.1, 0, none⟩)), (10, .int .i64 s17)], [cells b10 [.int .u64 p3.1, .int .u64 p3.2] 37, cells b11 [.int .i64 r30.1, .int .i64 r30.2.1, .slice m64.1 r30.2.2.length m64.2] 28, cells m72.1 [.int .i64 r30.1, .int .i64 r30.2.1, .slice m72.2.1 r32.length m72.2.2] 31], [slF (rSl rp_u64_u64) m64.1 m64.2 r30.2.2, slF (rSl rp_u64_u64) m72.2.1 m72.2.2 r32], []⟩) (()) hx13 (Imp.re _ [0, 1, 2] [0, 1] (sc rfl (sc rfl (sc rfl (sc rfl (sc rfl sn))))) (by decide) rfl rfl rfl) (fun s17 m93 y7 hy7 hx14 => ?_))
        unfold law07_ExpiryStays_s0 at hy7
        refine Tr.seq ?_
        refine Tr.seq ?_
        refine Tr.region ?_
        refine TrL.v (v_move rfl rfl) rfl rfl (bl rfl) ?_
        refine TrL.v (v_fieldAddr' rfl fo28_2 rfl rfl) rfl rfl (bl rfl) ?_
        refine TrL.v (v_load (k := 1) rfl rfl rfl ty26 (fun _ => rfl) rfl rfl) rfl rfl (bl rfl) ?_
        refine TrL.v (v_len rfl sl26 rfl) rfl rfl (bl rfl) ?_
        refine TrL.v (v_arith rfl rfl rfl ar_lss) rfl rfl (bl rfl) ?_
        refine TrL.nil (qthen_n ?_)
        rcases ifc hy7 with ⟨h77, hy7⟩ | ⟨h77, hy7⟩
        · refine Tr.cond_t rfl (bt_dec h77) ?_
          refine Tr.skip (qthen_n ?_)
          refine Tr.seq ?_
          refine Tr.block ?_
          refine Tr.seq ?_
          refine Tr.region ?_
          refine TrL.v (v_assign rfl rfl) rfl rfl (bl rfl) ?_
          refine TrL.nil (qthen_n ?_)
          refine Tr.seq ?_
          refine Tr.seq ?_
          refine Tr.region ?_
          refine TrL.v (v_move rfl rfl) rfl rfl (bl rfl) ?_
          refine TrL.v (v_fieldAddr' rfl fo31_2 rfl rfl) rfl rfl (bl rfl) ?_
          refine TrL.v (v_load (k := 2) rfl rfl rfl ty26 (fun _ => rfl) rfl rfl) rfl rfl (bl rfl) ?_
          refine TrL.v (v_len rfl sl26 rfl) rfl rfl (bl rfl) ?_
          refine TrL.v (v_arith rfl rfl rfl ar_lss) rfl rfl (bl rfl) ?_
          refine TrL.nil (qthen_n ?_)
          obtain ⟨j6, hj6, hy7⟩ := bnd hy7
          refine Tr.cutE (D := List (Int × Int)) (M := Option Addr × Nat) .normal (fun _d => j6 = _d) (fun j6 m111 => ⟨[(5, .pointer (some ⟨b10, 0, none⟩)), (7, .bool r29), (8, .pointer (some ⟨b11, 0, none⟩)), (9, .pointer (some ⟨m72.1, 0, none⟩)), (10, .int .i64 s17), (11, .slice m111.1 j6.length m111.2)], [cells b10 [.int .u64 p3.1, .int .u64 p3.2] 37, cells b11 [.int .i64 r30.1, .int .i64 r30.2.1, .slice m64.1 r30.2.2.length m64.2] 28, cells m72.1 [.int .i64 r30.1, .int .i64 r30.2.1, .slice m72.2.1 r32.length m72.2.2] 31], [slF rp_u64_u64 m111.1 m111.2 j6, slF (rSl rp_u64_u64) m64.1 m64.2 r30.2.2, slF (rSl rp_u64_u64) m72.2.1 m72.2.2 r32], []⟩) ?_ (fun j6 m111 hd18 => ?_)
          · rcases ifc hj6 with ⟨h79, hj6⟩ | ⟨h79, hj6⟩
            · refine Tr.cond_t rfl (bt_dec h79) ?_
              refine Tr.region ?_
              refine TrL.v (v_fieldAddr' rfl fo31_2 rfl rfl) rfl rfl (bl rfl) ?_
              refine TrL.v (v_load (k := 2) rfl rfl rfl ty26 (fun _ => rfl) rfl rfl) rfl rfl (bl rfl) ?_
              refine TrL.v (v_move rfl rfl) rfl rfl (bl rfl) ?_
              obtain ⟨z47, hz47, hj6⟩ := bnd hj6
              refine TrL.v (v_indexAddr (k := 1) rfl sl26 ty38 rfl rfl rfl rfl hz47) rfl rfl (bl rfl) ?_
              refine TrL.openS' (k := 1) rfl hz47 (fun A33 c33 => ?_)
              refine TrL.v (v_loadF (k := 3) rfl ty38 rfl rfl) rfl rfl (bl rfl) ?_
              refine TrL.v (v_assign rfl rfl) rfl rfl (bl rfl) ?_
              refine TrL.nil (qcut_hit z47 ((A33, c33)) (Option.some.inj hj6).symm (Imp.re _ [0, 1, 2] [2, 0, 1] (sc rfl (sc rfl (sc rfl (sc rfl (sc rfl (sc rfl sn)))))) (by decide) rfl rfl rfl))
            · refine Tr.cond_f rfl (bf_dec h79) ?_
              refine Tr.skip (qcut_hit (([] : List (Int × Int))) ((none, 0)) (Option.some.inj hj6).symm (Imp.addF' _ (nilF rp_u64_u64) (Imp.re _ [0, 1, 2] [2, 0, 1] (sc rfl (sc rfl (sc rfl (sc rfl (sc rfl (sc rfl sn)))))) (by decide) rfl rfl rfl)))
          · subst hd18
            refine (qthen_n ?_)
            refine Tr.seq ?_
            refine Tr.region ?_
            refine TrL.v (v_fieldAddr' rfl fo28_2 rfl rfl) rfl rfl (bl rfl) ?_
            refine TrL.v (v_load (k := 1) rfl rfl rfl ty26 (fun _ => rfl) rfl rfl) rfl rfl (bl rfl) ?_
            refine TrL.v (v_move rfl rfl) rfl rfl (bl rfl) ?_
            obtain ⟨z48, hz48, hy7⟩ := bnd hy7
            refine TrL.v (v_indexAddr (k := 1) rfl sl26 ty38 rfl rfl rfl rfl hz48) rfl rfl (bl rfl) ?_
            refine TrL.openS' (k := 1) rfl hz48 (fun A34 c34 => ?_)
            refine TrL.v (v_loadF (k := 4) rfl ty38 rfl rfl) rfl rfl (bl rfl) ?_
            refine TrL.v (v_len rfl sl38 rfl) rfl rfl (bl rfl) ?_
            refine TrL.v (v_move rfl rfl) rfl rfl (bl rfl) ?_
            refine TrL.v (v_len rfl sl38 rfl) rfl rfl (bl rfl) ?_
            refine TrL.v (v_arith rfl rfl rfl ar_sub_i64) rfl rfl (bl rfl) ?_
            refine TrL.v (v_assign rfl rfl) rfl rfl (bl rfl) ?_
            refine TrL.nil (qthen_n ?_)
            refine Tr.seq ?_
            refine Tr.seq ?_
            refine Tr.region ?_
            refine TrL.v (v_move rfl rfl) rfl rfl (bl rfl) ?_
            refine TrL.v (v_arith rfl rfl rfl ar_lss) rfl rfl (bl rfl) ?_
            refine TrL.v (v_move rfl rfl) rfl rfl (bl rfl) ?_
            rcases ifc hy7 with ⟨h82, hy7⟩ | ⟨h82, hy7⟩
            · refine TrL.cons_no rfl rfl rfl (gn_f (bt_dec h82)) rfl (bl rfl) ?_
              refine TrL.cons_no rfl rfl rfl (gn_f (bt_dec h82)) rfl (bl rfl) ?_
              refine TrL.cons_no rfl rfl rfl (gn_f (bt_dec h82)) rfl (bl rfl) ?_
              refine TrL.cons_no rfl rfl rfl (gn_f (bt_dec h82)) rfl (bl rfl) ?_
              refine TrL.cons_no rfl rfl rfl (gn_f (bt_dec h82)) rfl (bl rfl) ?_
              refine TrL.cons_no rfl rfl rfl (gn_f (bt_dec h82)) rfl (bl rfl) ?_
              refine TrL.cons_no rfl rfl rfl (gn_f (bt_dec h82)) rfl (bl rfl) ?_
              refine TrL.cons_no rfl rfl rfl (gn_f (bt_dec h82)) rfl (bl rfl) ?_
              refine TrL.cons_no rfl rfl rfl (gn_f (bt_dec h82)) rfl (bl rfl) ?_
              refine TrL.cons_no rfl rfl rfl (gn_f (bt_dec h82)) rfl (bl rfl) ?_
              refine TrL.v (v_pick_t rfl rfl (bt_dec h82) rfl) rfl rfl (bl rfl) ?_
              refine TrL.nil (qthen_n ?_)
              refine Tr.cond_t rfl rfl ?_
              refine Tr.seq ?_
              refine Tr.region ?_
              refine TrL.v (v_assign rfl rfl) rfl rfl (bl rfl) ?_
              refine TrL.nil (qthen_n ?_)
              have hz := Option.some.inj hy7
              subst hz
              refine Tr.ret (qthen_r (qblock_r (qthen_r (qloop_r (qblock_r (qcut_miss (by simp) (qcut_hit (()) (()) (hx14 _ rfl).symm (Imp.re _ [] [] (sc rfl sn) (by decide) rfl rfl rfl))))))))
            · refine TrL.cons_yes rfl rfl rfl (bf_dec h82) (OpTr.v (v_move rfl rfl) rfl (bl rfl) ?_)
              refine TrL.cons_yes rfl rfl rfl (bf_dec h82) (OpTr.v (v_fieldAddr' rfl fo28_2 rfl rfl) rfl (bl rfl) ?_)
              refine TrL.cons_yes rfl rfl rfl (bf_dec h82) (OpTr.v (v_load (k := 1) rfl rfl rfl ty26 (fun _ => rfl) rfl rfl) rfl (bl rfl) ?_)
              refine TrL.cons_yes rfl rfl rfl (bf_dec h82) (OpTr.v (v_move rfl rfl) rfl (bl rfl) ?_)
              refine TrL.cons_yes rfl rfl rfl (bf_dec h82) (OpTr.v (v_indexAddr (k := 1) rfl sl26 ty38 rfl rfl rfl rfl hz48) rfl (bl rfl) ?_)
              refine TrL.cons_yes rfl rfl rfl (bf_dec h82) (OpTr.v (v_loadF (k := 4) rfl ty38 rfl rfl) rfl (bl rfl) ?_)
              refine TrL.cons_yes rfl rfl rfl (bf_dec h82) (OpTr.v (v_move rfl rfl) rfl (bl rfl) ?_)
              obtain ⟨h83, hy7⟩ := mst hy7
              refine TrL.addF' (slF rp_u64_u64 (slA A34 (wi64 (((z48.length : Int)) - ((j6.length : Int)))).toNat c34 2) (c34 - (wi64 (((z48.length : Int)) - ((j6.length : Int)))).toNat) (z48.drop (wi64 (((z48.length : Int)) - ((j6.length : Int)))).toNat)) (slx1_f (k := 3) rfl h83) ?_
              refine TrL.cons_yes rfl rfl rfl (bf_dec h82) (OpTr.v (slx1_v (rp := rp_u64_u64) (xs := z48) (k := 3) rfl sl38 ty41 rfl rfl rfl h83 rfl) rfl (bl rfl) ?_)
              obtain ⟨r50, hr50, hy7⟩ := bnd hy7
              refine TrL.cons_yes rfl rfl rfl (bf_dec h82) (op_call0' (vs := [.slice m111.1 j6.length m111.2, .slice (slA A34 (wi64 (((z48.length : Int)) - ((j6.length : Int)))).toNat c34 2) ((z48.drop (wi64 (((z48.length : Int)) - ((j6.length : Int)))).toNat).length) (c34 - (wi64 (((z48.length : Int)) - ((j6.length : Int)))).toNat)]) (cap := []) [0, 5] rfl rfl (bl rfl) rfl rfl en37 (c_ref05_Same j6 (z48.drop (wi64 (((z48.length : Int)) - ((j6.length : Int)))).toNat) m111.1 m111.2 (slA A34 (wi64 (((z48.length : Int)) - ((j6.length : Int)))).toNat c34 2) (c34 - (wi64 (((z48.length : Int)) - ((j6.length : Int)))).toNat) r50 hr50) rfl (fun ret M' F' hR70 => ?_))
              obtain ⟨rfl, rfl, rfl⟩ := hR70
              refine TrL.cons_yes rfl rfl rfl (bf_dec h82) (OpTr.v (v_notd rfl (bdec rfl)) rfl (bl rfl) ?_)
              refine TrL.v (v_pick_f rfl rfl (bf_dec h82) rfl) rfl rfl (bl rfl) ?_
              refine TrL.nil (qthen_n ?_)
              rcases ifc hy7 with ⟨h84, hy7⟩ | ⟨h84, hy7⟩
              · refine Tr.cond_t rfl (bt_dec h84) ?_
                refine Tr.seq ?_
                refine Tr.region ?_
                refine TrL.v (v_assign rfl rfl) rfl rfl (bl rfl) ?_
                refine TrL.nil (qthen_n ?_)
                have hz := Option.some.inj hy7
                subst hz
                refine Tr.ret (qthen_r (qblock_r (qthen_r (qloop_r (qblock_r (qcut_miss (by simp) (qcut_hit (()) (()) (hx14 _ rfl).symm (Imp.re _ [] [] (sc rfl sn) (by decide) rfl rfl rfl))))))))
              · refine Tr.cond_f rfl (bf_dec h84) ?_
                refine Tr.skip (qthen_n ?_)
                refine Tr.seq ?_
                refine Tr.region ?_
                refine TrL.v (v_assign rfl rfl) rfl rfl (bl rfl) ?_
                refine TrL.nil (qthen_n ?_)
                obtain ⟨x8, hx15, hy7⟩ := bnd hy7
                refine Tr.cutE (D := Unit) (M := Unit) .ret (fun d15 => x8 = .inl d15) (fun d15 m121 => ⟨[(6, .bool false)], [], [], []⟩) ?_ (fun d15 m121 hd19 => ?_)
                · refine Tr.cutE (D := Unit) (M := Unit) .normal (fun d16 => x8 = .inr d16) (fun d16 m122 => ⟨[(5, .pointer (some ⟨b10, 0, none⟩)), (7, .bool r29), (8, .pointer (some ⟨b11, 0, none⟩)), (9, .pointer (some ⟨m72.1, 0, none⟩)), (10, .int .i64 s17), (54, .slice m111.1 j6.length m111.2), (55, .pointer (some ⟨b11, 2, none⟩)), (56, .slice m64.1 r30.2.2.length m64.2), (57, .int .i64 s17), (59, .slice A34 z48.length c34), (60, .int .i64 (wi64 (((z48.length : Int)) - ((j6.length : Int))))), (61, .slice (slA A34 (wi64 (((z48.length : Int)) - ((j6.length : Int)))).toNat c34 2) ((z48.drop (wi64 (((z48.length : Int)) - ((j6.length : Int)))).toNat).length) (c34 - (wi64 (((z48.length : Int)) - ((j6.length : Int)))).toNat)), (62, .bool r50), (63, .bool (decide (¬ (r50 = true))))], [cells b10 [.int .u64 p3.1, .int .u64 p3.2] 37, cells b11 [.int .i64 r30.1, .int .i64 r30.2.1, .slice m64.1 r30.2.2.length m64.2] 28, cells m72.1 [.int .i64 r30.1, .int .i64 r30.2.1, .slice m72.2.1 r32.length m72.2.2] 31], [slF rp_u64_u64 m111.1 m111.2 j6, slF (rSl rp_u64_u64) m64.1 m64.2 r30.2.2, slF rp_u64_u64 A34 c34 z48, slF rp_u64_u64 (slA A34 (wi64 (((z48.length : Int)) - ((j6.length : Int)))).toNat c34 2) (c34 - (wi64 (((z48.length : Int)) - ((j6.length : Int)))).toNat) (z48.drop (wi64 (((z48.length : Int)) - ((j6.length : Int)))).toNat), slF (rSl rp_u64_u64) m72.2.1 m72.2.2 r32], []⟩) ?_ (fun d16 m122 hd20 => ?_)
                  · refine Tr.block (Tr.loopI (ι := Unit) (step := law07_ExpiryStays_s1 p3 j6 z48) (fun s23 m117 => ⟨[(5, .pointer (some ⟨b10, 0, none⟩)), (7, .bool r29), (8, .pointer (some ⟨b11, 0, none⟩)), (9, .pointer (some ⟨m72.1, 0, none⟩)), (10, .int .i64 s17), (12, .int .i64 (wi64 (((z48.length : Int)) - ((j6.length : Int))))), (13, .int .i64 s23), (54, .slice m111.1 j6.length m111.2), (55, .pointer (some ⟨b11, 2, none⟩)), (56, .slice m64.1 r30.2.2.length m64.2), (57, .int .i64 s17), (59, .slice A34 z48.length c34), (60, .int .i64 (wi64 (((z48.length : Int)) - ((j6.length : Int))))), (61, .slice (slA A34 (wi64 (((z48.length : Int)) - ((j6.length : Int)))).toNat c34 2) ((z48.drop (wi64 (((z48.length : Int)) - ((j6.length : Int)))).toNat).length) (c34 - (wi64 (((z48.length : Int)) - ((j6.length : Int)))).toNat)), (62, .bool r50), (63, .bool (decide (¬ (r50 = true))))], [cells b10 [.int .u64 p3.1, .int .u64 p3.2] 37, cells b11 [.int .i64 r30.1, .int .i64 r30.2.1, .slice m64.1 r30.2.2.length m64.2] 28, cells m72.1 [.int .i64 r30.1, .int .i64 r30.2.1, .slice m72.2.1 r32.length m72.2.2] 31], [slF rp_u64_u64 m111.1 m111.2 j6, slF (rSl rp_u64_u64) m64.1 m64.2 r30.2.2, slF rp_u64_u64 A34 c34 z48, slF rp_u64_u64 (slA A34 (wi64 (((z48.length : Int)) - ((j6.length : Int)))).toNat c34 2) (c34 - (wi64 (((z48.length : Int)) - ((j6.length : Int)))).toNat) (z48.drop (wi64 (((z48.length : Int)) - ((j6.length : Int)))).toNat), slF (rSl rp_u64_u64) m72.2.1 m72.2.2 r32], []⟩) (()) hx15 (Imp.re _ [0, 1, 2] [0, 1, 3, 5, 2] (sc rfl (sc rfl (sc rfl (sc rfl (sc rfl (sc rfl (sc rfl (sc rfl (sc rfl (sc rfl (sc rfl (sc rfl (sc rfl (sc rfl (sc rfl (sc rfl sn)))))))))))))))) (by decide) rfl rfl rfl) (fun s23 m117 y8 hy8 hx16 => ?_))
                    unfold law07_ExpiryStays_s1 at hy8
                    refine Tr.seq ?_
                    refine Tr.seq ?_
                    refine Tr.region ?_
                    refine TrL.v (v_move rfl rfl) rfl rfl (bl rfl) ?_
                    refine TrL.v (v_fieldAddr' rfl fo28_2 rfl rfl) rfl rfl (bl rfl) ?_
                    refine TrL.v (v_load (k := 1) rfl rfl rfl ty26 (fun _ => rfl) rfl rfl) rfl rfl (bl rfl) ?_
                    refine TrL.v (v_move rfl rfl) rfl rfl (bl rfl) ?_
                    refine TrL.v (v_indexAddr (k := 1) rfl sl26 ty38 rfl rfl rfl rfl hz48) rfl rfl (bl rfl) ?_
                    refine TrL.openS' (k := 1) rfl hz48 (fun A37 c37 => ?_)
                    refine TrL.v (v_loadF (k := 6) rfl ty38 rfl rfl) rfl rfl (bl rfl) ?_
                    refine TrL.v (v_len rfl sl38 rfl) rfl rfl (bl rfl) ?_
                    refine TrL.v (v_arith rfl rfl rfl ar_lss) rfl rfl (bl rfl) ?_
                    refine TrL.nil (qthen_n ?_)
                    rcases ifc hy8 with ⟨h89, hy8⟩ | ⟨h89, hy8⟩
                    · refine Tr.cond_t rfl (bt_dec h89) ?_
                      refine Tr.skip (qthen_n ?_)
                      refine Tr.seq ?_
                      refine Tr.block ?_
                      refine Tr.seq ?_
                      refine Tr.regionD drawn (fun hok => ?_)
                      refine TrAny.prom (i := 0) (d := 75) hok (OpVal.plain rfl rfl (v_fieldAddr' rfl fo28_2 rfl rfl)) (by kernel_rfl) rfl (bl rfl) ?_
                      clear hok
                      intro hok
                      refine TrAny.prom (i := 1) (d := 76) hok (OpVal.plain rfl rfl (v_load (k := 1) rfl rfl rfl ty26 (fun _ => rfl) rfl rfl)) (by kernel_rfl) rfl (bl rfl) ?_
                      clear hok
                      intro hok
                      refine TrAny.prom (i := 2) (d := 77) hok (OpVal.plain rfl rfl (v_move rfl rfl)) (by kernel_rfl) rfl (bl rfl) ?_
                      clear hok
                      intro hok
                      refine TrAny.prom (i := 3) (d := 78) hok (OpVal.plain rfl rfl (v_indexAddr (k := 1) rfl sl26 ty38 rfl rfl rfl rfl hz48)) (by kernel_rfl) rfl (bl rfl) ?_
                      clear hok
                      intro hok
                      refine TrAny.prom (i := 4) (d := 79) hok (OpVal.plain rfl rfl (v_loadF (k := 6) rfl ty38 rfl rfl)) (by kernel_rfl) rfl (bl rfl) ?_
                      clear hok
                      intro hok
                      refine TrAny.prom (i := 5) (d := 80) hok (OpVal.plain rfl rfl (v_move rfl rfl)) (by kernel_rfl) rfl (bl rfl) ?_
                      clear hok
                      intro hok
                      obtain ⟨z54, hz54, hy8⟩ := bnd hy8
                      refine TrAny.prom (i := 6) (d := 81) hok (OpVal.plain rfl rfl (v_indexAddr (k := 5) rfl sl38 ty41 rfl rfl rfl rfl hz54)) (by kernel_rfl) rfl (bl rfl) ?_
                      clear hok
                      intro hok
                      refine TrAny.prom (i := 7) (d := 82) hok (OpVal.plain rfl rfl (v_fieldAddr rfl fo41_1 rfl)) (by kernel_rfl) rfl (bl rfl) ?_
                      clear hok
                      intro hok
                      refine TrAny.prom (i := 8) (d := 83) hok (OpVal.plain rfl rfl (v_loadg (A := A37) (i := s23) (j := 1) (k := 5) rfl ty23 (fun _ => rfl) rfl rfl hz54 rfl rfl)) (by kernel_rfl) rfl (bl rfl) ?_
                      clear hok
                      intro hok
                      refine TrAny.prom (i := 9) (d := 84) hok (OpVal.plain rfl rfl (v_indexArr rfl ar37 ty23 rfl rfl (by decide) (by decide) rfl)) (by kernel_rfl) rfl (bl rfl) ?_
                      clear hok
                      intro hok
                      refine TrAny.prom (i := 10) (d := 85) hok (OpVal.plain rfl rfl (v_load (k := 0) rfl rfl rfl ty23 (fun _ => rfl) rfl rfl)) (by kernel_rfl) rfl (bl rfl) ?_
                      clear hok
                      intro hok
                      refine TrAny.prom (i := 11) (d := 86) hok (OpVal.plain rfl rfl (v_indexArr rfl ar37 ty23 rfl rfl (by decide) (by decide) rfl)) (by kernel_rfl) rfl (bl rfl) ?_
                      clear hok
                      intro hok
                      refine TrAny.prom (i := 12) (d := 87) hok (OpVal.plain rfl rfl (v_load (k := 0) rfl rfl rfl ty23 (fun _ => rfl) rfl rfl)) (by kernel_rfl) rfl (bl rfl) ?_
                      clear hok
                      intro hok
                      refine TrAny.prom (i := 14) (d := 89) hok (OpVal.plain rfl rfl (v_move rfl rfl)) (by kernel_rfl) rfl (bl rfl) ?_
                      clear hok
                      intro hok
                      refine TrAny.prom (i := 15) (d := 90) hok (OpVal.plain rfl rfl (v_move rfl rfl)) (by kernel_rfl) rfl (bl rfl) ?_
                      clear hok
                      intro hok
                      refine TrAny.prom (i := 16) (d := 91) hok (OpVal.plain rfl rfl (v_arith rfl rfl rfl ar_lss)) (by kernel_rfl) rfl (bl rfl) ?_
                      clear hok
                      intro hok
                      obtain ⟨r56, hr56, hy8⟩ := bnd hy8
                      refine TrAny.next (j := 13) (by kernel_rfl) hok rfl (by kernel_rfl) (op_call0' (vs := [.int .u64 z54.2, .int .u64 p3.1, .int .u64 p3.2]) (cap := []) [] rfl rfl (bl rfl) rfl rfl en36 (c_ref07_Old z54.2 p3.1 p3.2 r56 hr56) rfl (fun ret M' F' hR76 => ?_))
                      obtain ⟨rfl, rfl, rfl⟩ := hR76
                      refine nxp hok (kp_imp (kp_c0 rfl)) rfl (by kernel_rfl) ?_
                      clear hok
                      intro hok
                      refine TrAny.prom (i := 17) (d := 92) hok (OpVal.plain rfl rfl (v_ned rfl Try.underlying4 rfl rfl)) (by kernel_rfl) rfl (bl rfl) ?_
                      clear hok
                      intro hok
                      refine TrAny.done (by kernel_rfl) (by kernel_rfl) hok (by kernel_rfl) (qthen_n ?_)
                      rcases ifc hy8 with ⟨h90, hy8⟩ | ⟨h90, hy8⟩
                      · refine Tr.cond_t rfl (bt_dec h90) ?_
                        refine Tr.seq ?_
                        refine Tr.region ?_
                        refine TrL.v (v_assign rfl rfl) rfl rfl (bl rfl) ?_
                        refine TrL.nil (qthen_n ?_)
                        have hz := Option.some.inj hy8
                        subst hz
                        refine Tr.ret (qblock_r (qthen_r (qloop_r (qblock_r (qcut_miss (by simp) (qcut_hit (()) (()) (hx16 _ rfl).symm (Imp.re _ [] [] (sc rfl sn) (by decide) rfl rfl rfl)))))))
                      · refine Tr.cond_f rfl (bf_dec h90) ?_
                        refine Tr.skip (qblock_n (qthen_n ?_))
                        refine Tr.region ?_
                        refine TrL.v (v_move rfl rfl) rfl rfl (bl rfl) ?_
                        refine TrL.v (v_arith rfl rfl rfl ar_add_i64) rfl rfl (bl rfl) ?_
                        refine TrL.v (v_assign rfl rfl) rfl rfl (bl rfl) ?_
                        have hz := Option.some.inj hy8
                        subst hz
                        refine TrL.nil (qloop_n (()) (Imp.re _ [0, 1, 2] [0, 1, 2, 3, 4] (sc rfl (sc rfl (sc rfl (sc rfl (sc rfl (sc rfl (sc rfl (sc rfl (sc rfl (sc rfl (sc rfl (sc rfl (sc rfl (sc rfl (sc rfl (sc rfl sn)))))))))))))))) (by decide) rfl rfl rfl))
                    · refine Tr.cond_f rfl (bf_dec h89) ?_
                      have hz := Option.some.inj hy8
                      subst hz
                      refine Tr.exit (qthen_x (qloop_x (qblock_hit (qcut_hit (()) (()) (hx16 _ rfl).symm (Imp.re _ [0, 1, 2] [0, 1, 2, 3, 4] (sc rfl (sc rfl (sc rfl (sc rfl (sc rfl (sc rfl (sc rfl (sc rfl (sc rfl (sc rfl (sc rfl (sc rfl (sc rfl (sc rfl sn)))))))))))))) (by decide) rfl rfl rfl)))))
                  · subst hd20
                    replace hy7 := sumr hy7
                    refine (qcut_miss (by simp) (qblock_n (qthen_n ?_)))
                    refine Tr.region ?_
                    refine TrL.v (v_move rfl rfl) rfl rfl (bl rfl) ?_
                    refine TrL.v (v_arith rfl rfl rfl ar_add_i64) rfl rfl (bl rfl) ?_
                    refine TrL.v (v_assign rfl rfl) rfl rfl (bl rfl) ?_
                    have hz := Option.some.inj hy7
                    subst hz
                    refine TrL.nil (qloop_n (()) (Imp.re _ [0, 1, 2] [1, 4] (sc rfl (sc rfl (sc rfl (sc rfl (sc rfl sn))))) (by decide) rfl rfl rfl))
                · subst hd19
                  replace hy7 := suml hy7
                  have hz := Option.some.inj hy7
                  subst hz
                  refine (qblock_r (qthen_r (qloop_r (qblock_r (qcut_miss (by simp) (qcut_hit (()) (()) (hx14 _ rfl).symm (Imp.re _ [] [] (sc rfl sn) (by decide) rfl rfl rfl)))))))
        · refine Tr.cond_f rfl (bf_dec h77) ?_
          have hz := Option.some.inj hy7
          subst hz
          refine Tr.exit (qthen_x (qloop_x (qblock_hit (qcut_hit (()) (()) (hx14 _ rfl).symm (Imp.re _ [1, 2] [0, 1] (sc rfl (sc rfl (sc rfl sn))) (by decide) rfl rfl rfl)))))
      · subst hd22
        replace H := sumr H
        refine (qcut_miss (by simp) (qthen_n ?_))
        refine Tr.seq ?_
        refine Tr.region ?_
        refine TrL.v (v_move rfl rfl) rfl rfl (bl rfl) ?_
        refine TrL.v (v_move rfl rfl) rfl rfl (bl rfl) ?_
        rcases ifc H with ⟨h94, H⟩ | ⟨h94, H⟩
        · refine TrL.cons_yes rfl rfl rfl h94 (OpTr.v (v_fieldAddr' rfl fo31_2 rfl rfl) rfl (bl rfl) ?_)
          refine TrL.cons_yes rfl rfl rfl h94 (OpTr.v (v_load (k := 1) rfl rfl rfl ty26 (fun _ => rfl) rfl rfl) rfl (bl rfl) ?_)
          refine TrL.cons_yes rfl rfl rfl h94 (OpTr.v (v_len rfl sl26 rfl) rfl (bl rfl) ?_)
          refine TrL.cons_yes rfl rfl rfl h94 (OpTr.v (v_fieldAddr' rfl fo28_2 rfl rfl) rfl (bl rfl) ?_)
          refine TrL.cons_yes rfl rfl rfl h94 (OpTr.v (v_load (k := 0) rfl rfl rfl ty26 (fun _ => rfl) rfl rfl) rfl (bl rfl) ?_)
          refine TrL.cons_yes rfl rfl rfl h94 (OpTr.v (v_len rfl sl26 rfl) rfl (bl rfl) ?_)
          refine TrL.cons_yes rfl rfl rfl h94 (OpTr.v (v_arith rfl rfl rfl ar_leq) rfl (bl rfl) ?_)
          refine TrL.v (v_pick_t rfl rfl h94 rfl) rfl rfl (bl rfl) ?_
          refine TrL.v (v_move rfl rfl) rfl rfl (bl rfl) ?_
          rcases ifc H with ⟨h95, H⟩ | ⟨h95, H⟩
          · refine TrL.cons_yes rfl rfl rfl (bt_dec h95) (OpTr.v (v_fieldAddr' rfl fo31_0 rfl rfl) rfl (bl rfl) ?_)
            refine TrL.cons_yes rfl rfl rfl (bt_dec h95) (OpTr.v (v_load (k := 1) rfl rfl rfl ty3 (fun _ => rfl) rfl rfl) rfl (bl rfl) ?_)
            refine TrL.cons_yes rfl rfl rfl (bt_dec h95) (OpTr.v (v_fieldAddr' rfl fo28_0 rfl rfl) rfl (bl rfl) ?_)
            refine TrL.cons_yes rfl rfl rfl (bt_dec h95) (OpTr.v (v_load (k := 0) rfl rfl rfl ty3 (fun _ => rfl) rfl rfl) rfl (bl rfl) ?_)
            refine TrL.cons_yes rfl rfl rfl (bt_dec h95) (OpTr.v (v_arith rfl rfl rfl ar_eql) rfl (bl rfl) ?_)
            refine TrL.v (v_pick_t rfl rfl (bt_dec h95) rfl) rfl rfl (bl rfl) ?_
            refine TrL.v (v_move rfl rfl) rfl rfl (bl rfl) ?_
            rcases ifc H with ⟨h96, H⟩ | ⟨h96, H⟩
            · refine TrL.cons_yes rfl rfl rfl (bt_dec h96) (OpTr.v (v_fieldAddr' rfl fo31_1 rfl rfl) rfl (bl rfl) ?_)
              refine TrL.cons_yes rfl rfl rfl (bt_dec h96) (OpTr.v (v_load (k := 1) rfl rfl rfl ty3 (fun _ => rfl) rfl rfl) rfl (bl rfl) ?_)
              refine TrL.cons_yes rfl rfl rfl (bt_dec h96) (OpTr.v (v_fieldAddr' rfl fo28_1 rfl rfl) rfl (bl rfl) ?_)
              refine TrL.cons_yes rfl rfl rfl (bt_dec h96) (OpTr.v (v_load (k := 0) rfl rfl rfl ty3 (fun _ => rfl) rfl rfl) rfl (bl rfl) ?_)
              refine TrL.cons_yes rfl rfl rfl (bt_dec h96) (OpTr.v (v_arith rfl rfl rfl ar_eql) rfl (bl rfl) ?_)
              refine TrL.v (v_pick_t rfl rfl (bt_dec h96) rfl) rfl rfl (bl rfl) ?_
              refine TrL.v (v_assign rfl rfl) rfl rfl (bl rfl) ?_
              refine TrL.nil (qthen_n ?_)
              have hz := Option.some.inj H
              subst hz
              refine Tr.ret (ret_r ⟨[(6, .bool (decide (r30.2.1 = r30.2.1)))], [], [], []⟩ [.bool (decide (r30.2.1 = r30.2.1))] [] [] (Imp.re _ [] [] (sc rfl sn) (by decide) rfl rfl rfl) rfl rfl ⟨rfl, rfl, rfl⟩ (.cons (resv_tmp rfl) .nil))
            · refine TrL.cons_no rfl rfl rfl (gn_t (bf_dec h96)) rfl (bl rfl) ?_
              refine TrL.cons_no rfl rfl rfl (gn_t (bf_dec h96)) rfl (bl rfl) ?_
              refine TrL.cons_no rfl rfl rfl (gn_t (bf_dec h96)) rfl (bl rfl) ?_
              refine TrL.cons_no rfl rfl rfl (gn_t (bf_dec h96)) rfl (bl rfl) ?_
              refine TrL.cons_no rfl rfl rfl (gn_t (bf_dec h96)) rfl (bl rfl) ?_
              refine TrL.v (v_pick_f rfl rfl (bf_dec h96) rfl) rfl rfl (bl rfl) ?_
              refine TrL.v (v_assign rfl rfl) rfl rfl (bl rfl) ?_
              refine TrL.nil (qthen_n ?_)
              have hz := Option.some.inj H
              subst hz
              refine Tr.ret (ret_r ⟨[(6, .bool false)], [], [], []⟩ [.bool false] [] [] (Imp.re _ [] [] (sc rfl sn) (by decide) rfl rfl rfl) rfl rfl ⟨rfl, rfl, rfl⟩ (.cons (resv_tmp rfl) .nil))
          · refine TrL.cons_no rfl rfl rfl (gn_t (bf_dec h95)) rfl (bl rfl) ?_
            refine TrL.cons_no rfl rfl rfl (gn_t (bf_dec h95)) rfl (bl rfl) ?_
            refine TrL.cons_no rfl rfl rfl (gn_t (bf_dec h95)) rfl (bl rfl) ?_
            refine TrL.cons_no rfl rfl rfl (gn_t (bf_dec h95)) rfl (bl rfl) ?_
            refine TrL.cons_no rfl rfl rfl (gn_t (bf_dec h95)) rfl (bl rfl) ?_
            refine TrL.v (v_pick_f rfl rfl (bf_dec h95) rfl) rfl rfl (bl rfl) ?_
            refine TrL.v (v_move rfl rfl) rfl rfl (bl rfl) ?_
            refine TrL.cons_no rfl rfl rfl (gn_t rfl) rfl (bl rfl) ?_
            refine TrL.cons_no rfl rfl rfl (gn_t rfl) rfl (bl rfl) ?_
            refine TrL.cons_no rfl rfl rfl (gn_t rfl) rfl (bl rfl) ?_
            refine TrL.cons_no rfl rfl rfl (gn_t rfl) rfl (bl rfl) ?_
            refine TrL.cons_no rfl rfl rfl (gn_t rfl) rfl (bl rfl) ?_
            refine TrL.v (v_pick_f rfl rfl rfl rfl) rfl rfl (bl rfl) ?_
            refine TrL.v (v_assign rfl rfl) rfl rfl (bl rfl) ?_
            refine TrL.nil (qthen_n ?_)
            have hz := Option.some.inj H
            subst hz
            refine Tr.ret (ret_r ⟨[(6, .bool false)], [], [], []⟩ [.bool false] [] [] (Imp.re _ [] [] (sc rfl sn) (by decide) rfl rfl rfl) rfl rfl ⟨rfl, rfl, rfl⟩ (.cons (resv_tmp rfl) .nil))
        · refine TrL.cons_no rfl rfl rfl (gn_t (bf_b h94)) rfl (bl rfl) ?_
          refine TrL.cons_no rfl rfl rfl (gn_t (bf_b h94)) rfl (bl rfl) ?_
          refine TrL.cons_no rfl rfl rfl (gn_t (bf_b h94)) rfl (bl rfl) ?_
          refine TrL.cons_no rfl rfl rfl (gn_t (bf_b h94)) rfl (bl rfl) ?_
          refine TrL.cons_no rfl rfl rfl (gn_t (bf_b h94)) rfl (bl rfl) ?_
          refine TrL.cons_no rfl rfl rfl (gn_t (bf_b h94)) rfl (bl rfl) ?_
          refine TrL.cons_no rfl rfl rfl (gn_t (bf_b h94)) rfl (bl rfl) ?_
          refine TrL.v (v_pick_f rfl rfl (bf_b h94) rfl) rfl rfl (bl rfl) ?_
          refine TrL.v (v_move rfl rfl) rfl rfl (bl rfl) ?_
          refine TrL.cons_no rfl rfl rfl (gn_t rfl) rfl (bl rfl) ?_
          refine TrL.cons_no rfl rfl rfl (gn_t rfl) rfl (bl rfl) ?_
          refine TrL.cons_no rfl rfl rfl (gn_t rfl) rfl (bl rfl) ?_
          refine TrL.cons_no rfl rfl rfl (gn_t rfl) rfl (bl rfl) ?_
          refine TrL.cons_no rfl rfl rfl (gn_t rfl) rfl (bl rfl) ?_
          refine TrL.v (v_pick_f rfl rfl rfl rfl) rfl rfl (bl rfl) ?_
          refine TrL.v (v_move rfl rfl) rfl rfl (bl rfl) ?_
          refine TrL.cons_no rfl rfl rfl (gn_t rfl) rfl (bl rfl) ?_
          refine TrL.cons_no rfl rfl rfl (gn_t rfl) rfl (bl rfl) ?_
          refine TrL.cons_no rfl rfl rfl (gn_t rfl) rfl (bl rfl) ?_
          refine TrL.cons_no rfl rfl rfl (gn_t rfl) rfl (bl rfl) ?_
          refine TrL.cons_no rfl rfl rfl (gn_t rfl) rfl (bl rfl) ?_
          refine TrL.v (v_pick_f rfl rfl rfl rfl) rfl rfl (bl rfl) ?_
          refine TrL.v (v_assign rfl rfl) rfl rfl (bl rfl) ?_
          refine TrL.nil (qthen_n ?_)
          have hz := Option.some.inj H
          subst hz
          refine Tr.ret (ret_r ⟨[(6, .bool false)], [], [], []⟩ [.bool false] [] [] (Imp.re _ [] [] (sc rfl sn) (by decide) rfl rfl rfl) rfl rfl ⟨rfl, rfl, rfl⟩ (.cons (resv_tmp rfl) .nil))
    · subst hd21
      replace H := suml H
      have hz := Option.some.inj H
      subst hz
      refine (qthen_r (ret_r ⟨[(6, .bool false)], [], [], []⟩ [.bool false] [] [] (Imp.re _ [] [] (sc rfl sn) (by decide) rfl rfl rfl) rfl rfl ⟨rfl, rfl, rfl⟩ (.cons (resv_tmp rfl) .nil)))
end Go.Proofs.Ytbnjjpmlaknaoaa.W
