/- The contracts of the walked functions: the printed walks. -/
import Derived.Test.YtbnjjpmlaknaoaaKa
import Derived.Test.YtbnjjpmlaknaoaaQa
import Derived.Test.YtbnjjpmlaknaoaaWexpiryaa
import Derived.Test.YtbnjjpmlaknaoaaWhistba
import Derived.Test.YtbnjjpmlaknaoaaWlaw07aa
import Derived.Test.YtbnjjpmlaknaoaaWlaw07ba
import Derived.Test.YtbnjjpmlaknaoaaWref06ba
namespace Go.Proofs.Ytbnjjpmlaknaoaa.W
open Go Go.Proofs Go.Proofs.Ytbnjjpmlaknaoaa.L Go.Proofs.Ytbnjjpmlaknaoaa.Pu
set_option linter.unusedVariables false
set_option maxHeartbeats 4000000

theorem c_law07_ExpiryTwice (p1 : Int) (p2 : List (Int × Int)) (p3 : Int × Int × Int) (A1 : Option Addr) (c1 : Nat) (r : Bool) (H : law07_ExpiryTwice p1 p2 p3 = some r) :
    Ctr Try.prog 15 [.int .i64 p1, .slice A1 p2.length c1, .agg #[.int .u64 p3.1, .int .u64 p3.2.1, .int .u64 p3.2.2]] [] [slF rp_u64_u64 A1 c1 p2] (fun ret M' F' => ret = .bool r ∧ M' = [] ∧ F' = []) := by
  unfold law07_ExpiryTwice at H
  refine ctr_ofI (N := 42) Try.func15 rfl Try.ntmps15 rfl (Nat.le_of_ble_eq_true rfl) (fun γ0 w0 => ?_)
  refine Tr.seq ?_
  refine Tr.region ?_
  refine TrL.cons rfl (op_box' rfl (bl rfl) rfl rfl rfl (fun b11 => ?_))
  refine TrL.v (v_assign rfl rfl) rfl rfl (bl rfl) ?_
  refine TrL.nil (qthen_n ?_)
  refine Tr.seq ?_
  refine Tr.region ?_
  obtain ⟨r9, hr9, H⟩ := bnd H
  refine TrL.cons rfl (op_call0' (vs := []) (cap := []) [] rfl rfl (bl rfl) rfl rfl en29 (c_law07_awake r9 hr9) rfl (fun ret M' F' hR19 => ?_))
  obtain ⟨rfl, rfl, rfl⟩ := hR19
  refine TrL.v (v_assign rfl rfl) rfl rfl (bl rfl) ?_
  refine TrL.nil (qthen_n ?_)
  refine Tr.seq ?_
  refine Tr.region ?_
  refine TrL.v (v_move rfl rfl) rfl rfl (bl rfl) ?_
  refine TrL.v (v_move rfl rfl) rfl rfl (bl rfl) ?_
  obtain ⟨r10, hr10, H⟩ := bnd H
  refine TrL.cons rfl (op_call0' (vs := [.int .i64 p1, .slice A1 p2.length c1]) (cap := []) [0] rfl rfl (bl rfl) rfl rfl en30 (c_ref06_Made p1 p2 A1 c1 r10 hr10) rfl (fun ret M' F' hR20 => ?_))
  obtain ⟨m21, rfl, rfl, rfl⟩ := hR20
  obtain ⟨r11, hr11, H⟩ := bnd H
  refine TrL.cons rfl (op_call0' (vs := [.agg #[.int .i64 r10.1, .int .i64 r10.2.1, .slice m21.1 r10.2.2.length m21.2]]) (cap := []) [1] rfl rfl (bl rfl) rfl rfl en33 (c_law07_made r10 m21.1 m21.2 r11 hr11) rfl (fun ret M' F' hR21 => ?_))
  obtain ⟨rfl, rfl, rfl⟩ := hR21
  refine TrL.cons rfl (op_alloc' rfl (bl rfl) rfl ze31 (fun b12 => ?_))
  refine TrL.cons rfl (op_store' (k := 0) (c' := [.int .i64 r10.1, .int .i64 r10.2.1, .slice m21.1 r10.2.2.length m21.2]) rfl rfl rfl rfl rfl ty31 rfl (Nat.le_of_ble_eq_true rfl) (ones (oc rfl (oc rfl (oc rfl on)))) rfl ?_)
  refine TrL.nil (qthen_n ?_)
  refine Tr.seq ?_
  refine Tr.regionD drawn (fun hok => ?_)
  obtain ⟨r12, hr12, H⟩ := bnd H
  obtain ⟨r13, hr13, H⟩ := bnd H
  refine TrAny.cut (ι := Nat × Option Addr × Nat) (fun m30 => ⟨[(5, .pointer (some ⟨b11, 0, none⟩)), (7, .bool r9), (8, .pointer (some ⟨b12, 0, none⟩)), (9, .pointer (some ⟨m30.1, 0, none⟩))], [cells b11 [.int .u64 p3.1, .int .u64 p3.2.1, .int .u64 p3.2.2] 24, cells b12 [.int .i64 r10.1, .int .i64 r10.2.1, .slice m21.1 r10.2.2.length m21.2] 31, cells m30.1 [.int .i64 (((r10.1, r10.2.1, r12)).1), .int .i64 (((r10.1, r10.2.1, r12)).2.1), .slice m30.2.1 r13.length m30.2.2] 31], [slF (rSl rp_u64_u64) m21.1 m21.2 r10.2.2, slF (rSl rp_u64_u64) m30.2.1 m30.2.2 r13], []⟩) ?_ (fun m30 => ?_)
  · refine TrAny.prom (i := 0) (d := 16) hok (OpVal.plain rfl rfl (v_load (k := 0) rfl rfl rfl ty31 nofun rfl rfl)) (by kernel_rfl) rfl (bl rfl) ?_
    clear hok
    intro hok
    refine TrAny.prom (i := 1) (d := 17) hok (OpVal.plain rfl rfl (v_indexArr rfl ar24 ty23 rfl rfl (by decide) (by decide) rfl)) (by kernel_rfl) rfl (bl rfl) ?_
    clear hok
    intro hok
    refine TrAny.prom (i := 2) (d := 18) hok (OpVal.plain rfl rfl (v_load (k := 1) rfl rfl rfl ty23 (fun _ => rfl) rfl rfl)) (by kernel_rfl) rfl (bl rfl) ?_
    clear hok
    intro hok
    refine TrAny.prom (i := 3) (d := 19) hok (OpVal.plain rfl rfl (v_indexArr rfl ar24 ty23 rfl rfl (by decide) (by decide) rfl)) (by kernel_rfl) rfl (bl rfl) ?_
    clear hok
    intro hok
    refine TrAny.prom (i := 4) (d := 20) hok (OpVal.plain rfl rfl (v_load (k := 1) rfl rfl rfl ty23 (fun _ => rfl) rfl rfl)) (by kernel_rfl) rfl (bl rfl) ?_
    clear hok
    intro hok
    refine TrAny.prom (i := 6) (d := 22) hok (OpVal.plain rfl rfl (v_indexArr rfl ar24 ty23 rfl rfl (by decide) (by decide) rfl)) (by kernel_rfl) rfl (bl rfl) ?_
    clear hok
    intro hok
    refine TrAny.prom (i := 7) (d := 23) hok (OpVal.plain rfl rfl (v_load (k := 1) rfl rfl rfl ty23 (fun _ => rfl) rfl rfl)) (by kernel_rfl) rfl (bl rfl) ?_
    clear hok
    intro hok
    refine TrAny.prom (i := 8) (d := 24) hok (OpVal.plain rfl rfl (v_indexArr rfl ar24 ty23 rfl rfl (by decide) (by decide) rfl)) (by kernel_rfl) rfl (bl rfl) ?_
    clear hok
    intro hok
    refine TrAny.prom (i := 9) (d := 25) hok (OpVal.plain rfl rfl (v_load (k := 1) rfl rfl rfl ty23 (fun _ => rfl) rfl rfl)) (by kernel_rfl) rfl (bl rfl) ?_
    clear hok
    intro hok
    refine TrAny.fork [5, 11] (by kernel_rfl) hok ⟨5, by decide, bl rfl⟩ (by kernel_rfl) (.cons ?_ (.cons ?_ .nil))
    · refine step_n rfl (by kernel_rfl) rfl (op_call0' (vs := [.agg #[.int .i64 r10.1, .int .i64 r10.2.1, .slice m21.1 r10.2.2.length m21.2], .int .u64 p3.1, .int .u64 p3.2.2]) (cap := []) [1] rfl rfl (bl rfl) rfl rfl en32 (c_expiry_Drop r10 p3.1 p3.2.2 m21.1 m21.2 r12 hr12) rfl (fun ret M' F' hR29 => ?_))
      obtain ⟨m31, rfl, rfl, rfl⟩ := hR29
      refine nxp hok (kp_imp (kp_c0 rfl)) rfl (by kernel_rfl) ?_
      clear hok
      intro hok
      refine TrAny.fork [10, 11] (by kernel_rfl) hok ⟨10, by decide, bl rfl⟩ (by kernel_rfl) (.cons ?_ (.cons ?_ .nil))
      · refine step_n rfl (by kernel_rfl) rfl (op_call0' (vs := [.agg #[.int .i64 r10.1, .int .i64 r10.2.1, .slice m31.1 r12.length m31.2], .int .u64 p3.2.1, .int .u64 p3.2.2]) (cap := []) [3] rfl rfl (bl rfl) rfl rfl en32 (c_expiry_Drop ((r10.1, r10.2.1, r12)) p3.2.1 p3.2.2 m31.1 m31.2 r13 hr13) rfl (fun ret M' F' hR30 => ?_))
        obtain ⟨m32, rfl, rfl, rfl⟩ := hR30
        refine nxp hok (kp_imp (kp_c0 rfl)) rfl (by kernel_rfl) ?_
        clear hok
        intro hok
        refine TrAny.next (j := 11) (by kernel_rfl) hok rfl (by kernel_rfl) (op_alloc' rfl (bl rfl) rfl ze31 (fun b17 => ?_))
        refine nxp hok (kp_imp (kp_cm rfl)) rfl (by kernel_rfl) ?_
        clear hok
        intro hok
        refine TrAny.next (j := 12) (by kernel_rfl) hok rfl (by kernel_rfl) (op_store' (k := 0) (c' := [.int .i64 (((r10.1, r10.2.1, r12)).1), .int .i64 (((r10.1, r10.2.1, r12)).2.1), .slice m32.1 r13.length m32.2]) rfl rfl rfl rfl rfl ty31 rfl (Nat.le_of_ble_eq_true rfl) (ones (oc rfl (oc rfl (oc rfl on)))) rfl ?_)
        refine nxs hok (kp_aw (by kernel_rfl)) rfl ?_
        clear hok
        intro hok
        refine TrAny.done (by kernel_rfl) (by kernel_rfl) hok (by kernel_rfl) (⟨(b17, m32.1, m32.2), Imp.re _ [2, 1, 0] [1, 4] (sc rfl (sc rfl (sc rfl (sc rfl sn)))) (by decide) rfl rfl rfl⟩)
      · refine step_n rfl (by kernel_rfl) rfl (op_alloc' rfl (bl rfl) rfl ze31 (fun b18 => ?_))
        refine nxp hok (kp_imp (kp_cm rfl)) rfl (by kernel_rfl) ?_
        clear hok
        intro hok
        refine TrAny.next (j := 10) (by kernel_rfl) hok rfl (by kernel_rfl) (op_call0' (vs := [.agg #[.int .i64 r10.1, .int .i64 r10.2.1, .slice m31.1 r12.length m31.2], .int .u64 p3.2.1, .int .u64 p3.2.2]) (cap := []) [3] rfl rfl (bl rfl) rfl rfl en32 (c_expiry_Drop ((r10.1, r10.2.1, r12)) p3.2.1 p3.2.2 m31.1 m31.2 r13 hr13) rfl (fun ret M' F' hR31 => ?_))
        obtain ⟨m33, rfl, rfl, rfl⟩ := hR31
        refine nxp hok (kp_imp (kp_c0 rfl)) rfl (by kernel_rfl) ?_
        clear hok
        intro hok
        refine TrAny.next (j := 12) (by kernel_rfl) hok rfl (by kernel_rfl) (op_store' (k := 0) (c' := [.int .i64 (((r10.1, r10.2.1, r12)).1), .int .i64 (((r10.1, r10.2.1, r12)).2.1), .slice m33.1 r13.length m33.2]) rfl rfl rfl rfl rfl ty31 rfl (Nat.le_of_ble_eq_true rfl) (ones (oc rfl (oc rfl (oc rfl on)))) rfl ?_)
        refine nxs hok (kp_aw (by kernel_rfl)) rfl ?_
        clear hok
        intro hok
        refine TrAny.done (by kernel_rfl) (by kernel_rfl) hok (by kernel_rfl) (⟨(b18, m33.1, m33.2), Imp.re _ [2, 1, 0] [1, 4] (sc rfl (sc rfl (sc rfl (sc rfl sn)))) (by decide) rfl rfl rfl⟩)
    · refine step_n rfl (by kernel_rfl) rfl (op_alloc' rfl (bl rfl) rfl ze31 (fun b19 => ?_))
      refine nxp hok (kp_imp (kp_cm rfl)) rfl (by kernel_rfl) ?_
      clear hok
      intro hok
      refine TrAny.next (j := 5) (by kernel_rfl) hok rfl (by kernel_rfl) (op_call0' (vs := [.agg #[.int .i64 r10.1, .int .i64 r10.2.1, .slice m21.1 r10.2.2.length m21.2], .int .u64 p3.1, .int .u64 p3.2.2]) (cap := []) [1] rfl rfl (bl rfl) rfl rfl en32 (c_expiry_Drop r10 p3.1 p3.2.2 m21.1 m21.2 r12 hr12) rfl (fun ret M' F' hR32 => ?_))
      obtain ⟨m34, rfl, rfl, rfl⟩ := hR32
      refine nxp hok (kp_imp (kp_c0 rfl)) rfl (by kernel_rfl) ?_
      clear hok
      intro hok
      refine TrAny.next (j := 10) (by kernel_rfl) hok rfl (by kernel_rfl) (op_call0' (vs := [.agg #[.int .i64 r10.1, .int .i64 r10.2.1, .slice m34.1 r12.length m34.2], .int .u64 p3.2.1, .int .u64 p3.2.2]) (cap := []) [3] rfl rfl (bl rfl) rfl rfl en32 (c_expiry_Drop ((r10.1, r10.2.1, r12)) p3.2.1 p3.2.2 m34.1 m34.2 r13 hr13) rfl (fun ret M' F' hR33 => ?_))
      obtain ⟨m35, rfl, rfl, rfl⟩ := hR33
      refine nxp hok (kp_imp (kp_c0 rfl)) rfl (by kernel_rfl) ?_
      clear hok
      intro hok
      refine TrAny.next (j := 12) (by kernel_rfl) hok rfl (by kernel_rfl) (op_store' (k := 0) (c' := [.int .i64 (((r10.1, r10.2.1, r12)).1), .int .i64 (((r10.1, r10.2.1, r12)).2.1), .slice m35.1 r13.length m35.2]) rfl rfl rfl rfl rfl ty31 rfl (Nat.le_of_ble_eq_true rfl) (ones (oc rfl (oc rfl (oc rfl on)))) rfl ?_)
      refine nxs hok (kp_aw (by kernel_rfl)) rfl ?_
      clear hok
      intro hok
      refine TrAny.done (by kernel_rfl) (by kernel_rfl) hok (by kernel_rfl) (⟨(b19, m35.1, m35.2), Imp.re _ [2, 1, 0] [1, 4] (sc rfl (sc rfl (sc rfl (sc rfl sn)))) (by decide) rfl rfl rfl⟩)
  · refine (qthen_n ?_)
    refine Tr.seq ?_
    refine Tr.region ?_
    refine TrL.v (v_load (k := 1) rfl rfl rfl ty31 nofun rfl rfl) rfl rfl (bl rfl) ?_
    refine TrL.v (v_indexArr rfl ar24 ty23 rfl rfl (by decide) (by decide) rfl) rfl rfl (bl rfl) ?_
    refine TrL.v (v_load (k := 0) rfl rfl rfl ty23 (fun _ => rfl) rfl rfl) rfl rfl (bl rfl) ?_
    refine TrL.v (v_indexArr rfl ar24 ty23 rfl rfl (by decide) (by decide) rfl) rfl rfl (bl rfl) ?_
    refine TrL.v (v_load (k := 0) rfl rfl rfl ty23 (fun _ => rfl) rfl rfl) rfl rfl (bl rfl) ?_
    refine TrL.v (v_max rfl rfl rfl) rfl rfl (bl rfl) ?_
    refine TrL.v (v_indexArr rfl ar24 ty23 rfl rfl (by decide) (by decide) rfl) rfl rfl (bl rfl) ?_
    refine TrL.v (v_load (k := 0) rfl rfl rfl ty23 (fun _ => rfl) rfl rfl) rfl rfl (bl rfl) ?_
    obtain ⟨r14, hr14, H⟩ := bnd H
    refine TrL.cons rfl (op_call0' (vs := [.agg #[.int .i64 r10.1, .int .i64 r10.2.1, .slice m21.1 r10.2.2.length m21.2], .int .u64 (max p3.1 p3.2.1), .int .u64 p3.2.2]) (cap := []) [0] rfl rfl (bl rfl) rfl rfl en32 (c_expiry_Drop r10 (max p3.1 p3.2.1) p3.2.2 m21.1 m21.2 r14 hr14) rfl (fun ret M' F' hR34 => ?_))
    obtain ⟨m36, rfl, rfl, rfl⟩ := hR34
    refine TrL.cons rfl (op_alloc' rfl (bl rfl) rfl ze31 (fun b20 => ?_))
    refine TrL.cons rfl (op_store' (k := 0) (c' := [.int .i64 r10.1, .int .i64 r10.2.1, .slice m36.1 r14.length m36.2]) rfl rfl rfl rfl rfl ty31 rfl (Nat.le_of_ble_eq_true rfl) (ones (oc rfl (oc rfl (oc rfl on)))) rfl ?_)
    refine TrL.nil (qthen_n ?_)
    refine Tr.seq ?_
    refine Tr.region ?_
    refine TrL.v (v_move rfl rfl) rfl rfl (bl rfl) ?_
    refine TrL.v (v_move rfl rfl) rfl rfl (bl rfl) ?_
    rcases ifc H with ⟨h4, H⟩ | ⟨h4, H⟩
    · refine TrL.cons_yes rfl rfl rfl h4 (OpTr.v (v_load (k := 3) rfl rfl rfl ty31 nofun rfl rfl) rfl (bl rfl) ?_)
      refine TrL.cons_yes rfl rfl rfl h4 (OpTr.v (v_load (k := 0) rfl rfl rfl ty31 nofun rfl rfl) rfl (bl rfl) ?_)
      obtain ⟨r16, hr16, H⟩ := bnd H
      refine TrL.cons_yes rfl rfl rfl h4 (op_call0' (vs := [.agg #[.int .i64 (((r10.1, r10.2.1, r12)).1), .int .i64 (((r10.1, r10.2.1, r12)).2.1), .slice m30.2.1 r13.length m30.2.2], .agg #[.int .i64 r10.1, .int .i64 r10.2.1, .slice m36.1 r14.length m36.2]]) (cap := []) [1, 2] rfl rfl (bl rfl) rfl rfl en56 (c_hist_Same ((((r10.1, r10.2.1, r12)).1, ((r10.1, r10.2.1, r12)).2.1, r13)) ((r10.1, r10.2.1, r14)) m30.2.1 m30.2.2 m36.1 m36.2 r16 hr16) rfl (fun ret M' F' hR36 => ?_))
      obtain ⟨rfl, rfl, rfl⟩ := hR36
      refine TrL.v (v_pick_t rfl rfl h4 rfl) rfl rfl (bl rfl) ?_
      refine TrL.v (v_assign rfl rfl) rfl rfl (bl rfl) ?_
      refine TrL.nil (qthen_n ?_)
      have hz := Option.some.inj H
      subst hz
      refine Tr.ret (ret_r ⟨[(6, .bool r16)], [], [], []⟩ [.bool r16] [] [] (Imp.re _ [] [] (sc rfl sn) (by decide) rfl rfl rfl) rfl rfl ⟨rfl, rfl, rfl⟩ (.cons (resv_tmp rfl) .nil))
    · refine TrL.cons_no rfl rfl rfl (gn_t (bf_b h4)) rfl (bl rfl) ?_
      refine TrL.cons_no rfl rfl rfl (gn_t (bf_b h4)) rfl (bl rfl) ?_
      refine TrL.cons_no rfl rfl rfl (gn_t (bf_b h4)) rfl (bl rfl) ?_
      refine TrL.v (v_pick_f rfl rfl (bf_b h4) rfl) rfl rfl (bl rfl) ?_
      refine TrL.v (v_assign rfl rfl) rfl rfl (bl rfl) ?_
      refine TrL.nil (qthen_n ?_)
      have hz := Option.some.inj H
      subst hz
      refine Tr.ret (ret_r ⟨[(6, .bool false)], [], [], []⟩ [.bool false] [] [] (Imp.re _ [] [] (sc rfl sn) (by decide) rfl rfl rfl) rfl rfl ⟨rfl, rfl, rfl⟩ (.cons (resv_tmp rfl) .nil))
end Go.Proofs.Ytbnjjpmlaknaoaa.W
