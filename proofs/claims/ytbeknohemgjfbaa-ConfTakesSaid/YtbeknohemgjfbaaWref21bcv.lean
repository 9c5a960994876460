import Derived.Test.YtbeknohemgjfbaaKcv
import Derived.Test.YtbeknohemgjfbaaQcv
import Derived.Test.YtbeknohemgjfbaaWref02acv
namespace Go.Proofs.Ytbeknohemgjfbaa.W
open Go Go.Proofs Go.Proofs.Ytbeknohemgjfbaa.L Go.Proofs.Ytbeknohemgjfbaa.Pu
set_option linter.unusedVariables false
set_option maxHeartbeats 4000000

theorem c_ref21_read (p1 : List Int × Int) (p2 : List Int) (A1 : Option Addr) (c1 : Nat) (A2 : Option Addr) (c2 : Nat) (r : List Int × Int × List Int) (H : ref21_read p1 p2 = some r) :
  Ctr Try.prog 110 [.agg #[.slice A1 p1.1.length c1, .int .i64 p1.2], .slice A2 p2.length c2] [] [slF (rInt .u8) A1 c1 p1.1, slF (rInt .u64) A2 c2 p2] (fun ret M' F' => ∃ m : Option Addr × Nat × Option Addr × Nat, ret = .tuple #[.agg #[.slice m.1 r.1.length m.2.1, .int .i64 r.2.1], .slice m.2.2.1 r.2.2.length m.2.2.2] ∧ M' = [] ∧ F' = [slF (rInt .u8) m.1 m.2.1 r.1, slF (rInt .u64) m.2.2.1 m.2.2.2 r.2.2]) := by
 unfold ref21_read at H
 refine ctr_ofI (N := 32) Try.func110 rfl Try.ntmps110 rfl (Nat.le_of_ble_eq_true rfl) (fun γ0 w0 => ?_)
 refine Tr.seq ?_
 refine Tr.region ?_
 refine TrL.cons rfl (op_box' rfl (bl rfl) rfl rfl rfl (fun b18 => ?_))
 refine TrL.cons rfl (op_alloc' rfl (bl rfl) rfl ze51 (fun b19 => ?_))
 refine TrL.v (v_assign rfl rfl) rfl rfl (bl rfl) ?_
 refine TrL.nil (qthen_n ?_)
 refine Tr.seq ?_
 refine Tr.region ?_
 refine TrL.v (v_assign rfl rfl) rfl rfl (bl rfl) ?_
 refine TrL.nil (qthen_n ?_)
 refine Tr.seq ?_
 refine Tr.seq ?_
 refine Tr.region ?_
 refine TrL.v (v_assign rfl rfl) rfl rfl (bl rfl) ?_
 refine TrL.nil (qthen_n ?_)
 obtain ⟨x2, hx3, H⟩ := bnd H
 refine Tr.cutE (D := List Int × List Int × Int) (M := Option Addr × Nat × Option Addr × Nat × Option Nat) .normal (fun _d => x2 = _d) (fun x2 m38 => ⟨[(2, .pointer (some ⟨b18, 0, none⟩)), (4, .pointer (some ⟨b19, 0, none⟩)), (6, .slice m38.1 x2.1.length m38.2.1)], [cells b18 [.slice m38.2.2.1 x2.2.1.length m38.2.2.2.1, .int .i64 x2.2.2] 51, cells b19 [.slice none 0 0, .int .i64 0] 51, grow 28 1 (.slice m38.1 x2.1.length m38.2.1) x2.1.length m38.2.2.2.2], [slF (rInt .u64) m38.1 m38.2.1 x2.1, slF (rInt .u8) m38.2.2.1 m38.2.2.2.1 x2.2.1, slF (rInt .u8) none 0 (([] : List Int))], []⟩) ?_ (fun x2 m38 hd2 => ?_)
 ·refine Tr.block (Tr.loopI (ι := Option Addr × Nat × Option Addr × Nat × Option Nat) (step := ref21_read_s0 p2) (fun s5 m30 => ⟨[(1, .slice A2 p2.length c2), (2, .pointer (some ⟨b18, 0, none⟩)), (4, .pointer (some ⟨b19, 0, none⟩)), (6, .slice m30.1 s5.1.length m30.2.1), (7, .int .i64 s5.2.1)], [cells b18 [.slice m30.2.2.1 s5.2.2.1.length m30.2.2.2.1, .int .i64 s5.2.2.2] 51, cells b19 [.slice none 0 0, .int .i64 0] 51, grow 28 1 (.slice m30.1 s5.1.length m30.2.1) s5.1.length m30.2.2.2.2], [slF (rInt .u64) A2 c2 p2, slF (rInt .u64) m30.1 m30.2.1 s5.1, slF (rInt .u8) m30.2.2.1 m30.2.2.2.1 s5.2.2.1, slF (rInt .u8) none 0 (([] : List Int))], []⟩) ((none, 0, A1, c1, none)) hx3 (Imp.full' (E := 28) (sz := 1) (A := none) (n := 0) (Imp.addF' _ (nilF (rInt .u64)) (Imp.addF' _ (nilF (rInt .u8)) (Imp.re _ [2, 1, 0] [1, 2, 0, 3] (sc rfl (sc rfl (sc rfl (sc rfl (sc rfl sn))))) (by decide) rfl rfl rfl)))) (fun s5 m30 y2 hy2 hx4 => ?_))
  unfold ref21_read_s0 at hy2
  refine Tr.seq ?_
  refine Tr.seq ?_
  refine Tr.region ?_
  refine TrL.v (v_move rfl rfl) rfl rfl (bl rfl) ?_
  refine TrL.v (v_move rfl rfl) rfl rfl (bl rfl) ?_
  refine TrL.v (v_len rfl sl182 rfl) rfl rfl (bl rfl) ?_
  refine TrL.v (v_arith rfl rfl rfl ar_lss) rfl rfl (bl rfl) ?_
  refine TrL.nil (qthen_n ?_)
  rcases ifc hy2 with ⟨h11, hy2⟩ | ⟨h11, hy2⟩
  ·refine Tr.cond_t rfl (bt_dec h11) ?_
   refine Tr.skip (qthen_n ?_)
   refine Tr.seq ?_
   refine Tr.block ?_
   refine Tr.seq ?_
   refine Tr.regionD drawn (fun hok => ?_)
   obtain ⟨z12, hz12, hy2⟩ := bnd hy2
   obtain ⟨r6, hr6, hy2⟩ := bnd hy2
   refine TrAny.cut (ι := Nat × Option Addr × Nat) (fun m42 => ⟨[(1, .slice A2 p2.length c2), (2, .pointer (some ⟨b18, 0, none⟩)), (4, .pointer (some ⟨b19, 0, none⟩)), (6, .slice m30.1 s5.1.length m30.2.1), (7, .int .i64 s5.2.1), (8, .pointer (some ⟨m42.1, 0, none⟩)), (9, .int .u64 r6.2.2)], [cells b18 [.slice m30.2.2.1 s5.2.2.1.length m30.2.2.2.1, .int .i64 s5.2.2.2] 51, cells b19 [.slice none 0 0, .int .i64 0] 51, cells m42.1 [.slice m42.2.1 r6.1.length m42.2.2, .int .i64 r6.2.1] 51, grow 28 1 (.slice m30.1 s5.1.length m30.2.1) s5.1.length m30.2.2.2.2], [slF (rInt .u64) A2 c2 p2, slF (rInt .u64) m30.1 m30.2.1 s5.1, slF (rInt .u8) m30.2.2.1 m30.2.2.2.1 s5.2.2.1, slF (rInt .u8) none 0 (([] : List Int)), slF (rInt .u8) m42.2.1 m42.2.2 r6.1], []⟩) ?_ (fun m42 => ?_)
   ·refine TrAny.prom (i := 0) (d := 17) hok (OpVal.plain rfl rfl (v_load (k := 0) rfl rfl rfl ty51 nofun rfl rfl)) (by kernel_rfl) rfl (bl rfl) ?_
    clear hok
    intro hok
    refine TrAny.prom (i := 1) (d := 18) hok (OpVal.plain rfl rfl (v_move rfl rfl)) (by kernel_rfl) rfl (bl rfl) ?_
    clear hok
    intro hok
    refine TrAny.prom (i := 2) (d := 19) hok (OpVal.plain rfl rfl (v_move rfl rfl)) (by kernel_rfl) rfl (bl rfl) ?_
    clear hok
    intro hok
    refine TrAny.prom (i := 3) (d := 20) hok (OpVal.plain rfl rfl (v_indexAddr (k := 0) rfl sl182 ty28 rfl rfl rfl rfl hz12)) (by kernel_rfl) rfl (bl rfl) ?_
    clear hok
    intro hok
    refine TrAny.prom (i := 4) (d := 21) hok (OpVal.plain rfl rfl (v_loadg (A := A2) (i := s5.2.1) (j := 0) (k := 0) rfl ty28 (fun _ => rfl) rfl rfl hz12 rfl rfl)) (by kernel_rfl) rfl (bl rfl) ?_
    clear hok
    intro hok
    refine TrAny.fork [5, 9] (by kernel_rfl) hok ⟨5, by decide, bl rfl⟩ (by kernel_rfl) (.cons ?_ (.cons ?_ .nil))
    ·refine step_n rfl (by kernel_rfl) rfl (op_call0' (vs := [.agg #[.slice m30.2.2.1 s5.2.2.1.length m30.2.2.2.1, .int .i64 s5.2.2.2], .int .u64 z12]) (cap := []) [2] rfl rfl (bl rfl) rfl rfl en73 (c_ref02_Read s5.2.2 z12 m30.2.2.1 m30.2.2.2.1 r6 hr6) rfl (fun ret M' F' hR29 => ?_))
     obtain ⟨m43, rfl, rfl, rfl⟩ := hR29
     refine nxp hok (kp_imp (kp_c0 rfl)) rfl (by kernel_rfl) ?_
     clear hok
     intro hok
     refine TrAny.prom (i := 6) (d := 16) hok (OpVal.plain rfl rfl (v_move rfl rfl)) (by kernel_rfl) rfl (bl rfl) ?_
     clear hok
     intro hok
     refine TrAny.prom (i := 7) (d := 23) hok (OpVal.plain rfl rfl (v_extract rfl rfl rfl)) (by kernel_rfl) rfl (bl rfl) ?_
     clear hok
     intro hok
     refine TrAny.prom (i := 8) (d := 24) hok (OpVal.plain rfl rfl (v_extract rfl rfl rfl)) (by kernel_rfl) rfl (bl rfl) ?_
     clear hok
     intro hok
     refine TrAny.prom (i := 11) (d := 9) hok (OpVal.plain rfl rfl (v_assign rfl rfl)) (by kernel_rfl) rfl (bl rfl) ?_
     clear hok
     intro hok
     refine TrAny.next (j := 9) (by kernel_rfl) hok rfl (by kernel_rfl) (op_alloc' rfl (bl rfl) rfl ze51 (fun b33 => ?_))
     refine nxp hok (kp_imp (kp_cm rfl)) rfl (by kernel_rfl) ?_
     clear hok
     intro hok
     refine TrAny.next (j := 10) (by kernel_rfl) hok rfl (by kernel_rfl) (op_store' (k := 0) (c' := [.slice m43.1 r6.1.length m43.2, .int .i64 r6.2.1]) rfl rfl rfl rfl rfl ty51 rfl (Nat.le_of_ble_eq_true rfl) (ones (oc rfl (oc rfl on))) rfl ?_)
     refine nxs hok (kp_allE [(0, 17, .agg #[.slice m30.2.2.1 s5.2.2.1.length m30.2.2.2.1, .int .i64 s5.2.2.2]), (1, 18, .slice A2 p2.length c2), (2, 19, .int .i64 s5.2.1), (3, 20, .pointer (some ⟨ablk A2, aoff A2 + (s5.2.1).toNat * 1, none⟩)), (4, 21, .int .u64 z12), (6, 16, .tuple #[.agg #[.slice m43.1 r6.1.length m43.2, .int .i64 r6.2.1], .int .u64 r6.2.2]), (7, 23, .agg #[.slice m43.1 r6.1.length m43.2, .int .i64 r6.2.1]), (8, 24, .int .u64 r6.2.2), (11, 9, .int .u64 r6.2.2)] (by kernel_rfl) (ac (.inl (by kernel_rfl)) (ac (.inl (by kernel_rfl)) (ac (.inl (by kernel_rfl)) (ac (.inl (by kernel_rfl)) (ac (.inl (by kernel_rfl)) (ac (.inl (by kernel_rfl)) (ac (.inl (by kernel_rfl)) (ac (.inr (OpVal.plain rfl rfl (v_extract rfl rfl rfl))) (ac (.inr (OpVal.plain rfl rfl (v_assign rfl rfl))) an)))))))))) rfl ?_
     clear hok
     intro hok
     refine TrAny.done (by kernel_rfl) (by kernel_rfl) hok (by kernel_rfl) (⟨(b33, m43.1, m43.2), Imp.re _ [1, 2, 0, 3] [0, 1, 2, 3, 4] (sc rfl (sc rfl (sc rfl (sc rfl (sc rfl (sc rfl (sc rfl sn))))))) (by decide) rfl rfl rfl⟩)
    ·refine step_n rfl (by kernel_rfl) rfl (op_alloc' rfl (bl rfl) rfl ze51 (fun b34 => ?_))
     refine nxp hok (kp_imp (kp_cm rfl)) rfl (by kernel_rfl) ?_
     clear hok
     intro hok
     refine TrAny.next (j := 5) (by kernel_rfl) hok rfl (by kernel_rfl) (op_call0' (vs := [.agg #[.slice m30.2.2.1 s5.2.2.1.length m30.2.2.2.1, .int .i64 s5.2.2.2], .int .u64 z12]) (cap := []) [2] rfl rfl (bl rfl) rfl rfl en73 (c_ref02_Read s5.2.2 z12 m30.2.2.1 m30.2.2.2.1 r6 hr6) rfl (fun ret M' F' hR30 => ?_))
     obtain ⟨m44, rfl, rfl, rfl⟩ := hR30
     refine nxp hok (kp_imp (kp_c0 rfl)) rfl (by kernel_rfl) ?_
     clear hok
     intro hok
     refine TrAny.prom (i := 6) (d := 16) hok (OpVal.plain rfl rfl (v_move rfl rfl)) (by kernel_rfl) rfl (bl rfl) ?_
     clear hok
     intro hok
     refine TrAny.prom (i := 7) (d := 23) hok (OpVal.plain rfl rfl (v_extract rfl rfl rfl)) (by kernel_rfl) rfl (bl rfl) ?_
     clear hok
     intro hok
     refine TrAny.prom (i := 8) (d := 24) hok (OpVal.plain rfl rfl (v_extract rfl rfl rfl)) (by kernel_rfl) rfl (bl rfl) ?_
     clear hok
     intro hok
     refine TrAny.prom (i := 11) (d := 9) hok (OpVal.plain rfl rfl (v_assign rfl rfl)) (by kernel_rfl) rfl (bl rfl) ?_
     clear hok
     intro hok
     refine TrAny.next (j := 10) (by kernel_rfl) hok rfl (by kernel_rfl) (op_store' (k := 0) (c' := [.slice m44.1 r6.1.length m44.2, .int .i64 r6.2.1]) rfl rfl rfl rfl rfl ty51 rfl (Nat.le_of_ble_eq_true rfl) (ones (oc rfl (oc rfl on))) rfl ?_)
     refine nxs hok (kp_allE [(0, 17, .agg #[.slice m30.2.2.1 s5.2.2.1.length m30.2.2.2.1, .int .i64 s5.2.2.2]), (1, 18, .slice A2 p2.length c2), (2, 19, .int .i64 s5.2.1), (3, 20, .pointer (some ⟨ablk A2, aoff A2 + (s5.2.1).toNat * 1, none⟩)), (4, 21, .int .u64 z12), (6, 16, .tuple #[.agg #[.slice m44.1 r6.1.length m44.2, .int .i64 r6.2.1], .int .u64 r6.2.2]), (7, 23, .agg #[.slice m44.1 r6.1.length m44.2, .int .i64 r6.2.1]), (8, 24, .int .u64 r6.2.2), (11, 9, .int .u64 r6.2.2)] (by kernel_rfl) (ac (.inl (by kernel_rfl)) (ac (.inl (by kernel_rfl)) (ac (.inl (by kernel_rfl)) (ac (.inl (by kernel_rfl)) (ac (.inl (by kernel_rfl)) (ac (.inl (by kernel_rfl)) (ac (.inl (by kernel_rfl)) (ac (.inr (OpVal.plain rfl rfl (v_extract rfl rfl rfl))) (ac (.inr (OpVal.plain rfl rfl (v_assign rfl rfl))) an)))))))))) rfl ?_
     clear hok
     intro hok
     refine TrAny.done (by kernel_rfl) (by kernel_rfl) hok (by kernel_rfl) (⟨(b34, m44.1, m44.2), Imp.re _ [1, 2, 0, 3] [0, 1, 2, 3, 4] (sc rfl (sc rfl (sc rfl (sc rfl (sc rfl (sc rfl (sc rfl sn))))))) (by decide) rfl rfl rfl⟩)
   ·refine (qthen_n ?_)
    refine Tr.seq ?_
    refine Tr.region ?_
    refine TrL.v (v_load (k := 2) rfl rfl rfl ty51 nofun rfl rfl) rfl rfl (bl rfl) ?_
    refine TrL.cons rfl (op_store' (k := 0) (c' := [.slice m42.2.1 r6.1.length m42.2.2, .int .i64 r6.2.1]) rfl rfl rfl rfl rfl ty51 rfl (Nat.le_of_ble_eq_true rfl) (ones (oc rfl (oc rfl on))) rfl ?_)
    refine TrL.nil (qthen_n ?_)
    refine Tr.region ?_
    refine TrL.v (v_move rfl rfl) rfl rfl (bl rfl) ?_
    refine TrL.v (v_move rfl rfl) rfl rfl (bl rfl) ?_
    refine TrL.cons rfl (op_buildSlice' (rp := (rInt .u64)) (xs := [r6.2.2]) (vs := [.int .u64 r6.2.2]) (out := [.int .u64 r6.2.2]) rfl (bl rfl) rfl sl182 ty28 ze28 rfl rfl (by decide) (by decide) rfl (fun γ w hF => (rowc rfl rown rfl)) (fun A13 => ?_))
    obtain ⟨h12, hy2⟩ := rom hy2
    refine TrL.cons rfl (op_append' (rp := (rInt .u64)) (xs := s5.1) (ys := [r6.2.2]) (k := 3) (kx := 1) (ky := 5) rfl (bl rfl) rfl sl182 ty28 ze28 rfl by28 rfl rfl rfl rfl rfl rfl rfl h12.1 h12.2 (fun A14 c8 o6 => ?_))
    refine TrL.v (v_assign rfl rfl) rfl rfl (bl rfl) ?_
    refine TrL.nil (qblock_n (qthen_n ?_))
    refine Tr.region ?_
    refine TrL.v (v_move rfl rfl) rfl rfl (bl rfl) ?_
    refine TrL.v (v_arith rfl rfl rfl ar_add_i64) rfl rfl (bl rfl) ?_
    refine TrL.v (v_assign rfl rfl) rfl rfl (bl rfl) ?_
    have hz := Option.some.inj hy2
    subst hz
    refine TrL.nil (qloop_n ((A14, c8, m42.2.1, m42.2.2, o6)) (Imp.re _ [0, 1, 3] [0, 6, 4, 3] (sc rfl (sc rfl (sc rfl (sc rfl (sc rfl sn))))) (by decide) rfl rfl rfl))
  ·refine Tr.cond_f rfl (bf_dec h11) ?_
   have hz := Option.some.inj hy2
   subst hz
   refine Tr.exit (qthen_x (qloop_x (qblock_hit (qcut_hit ((s5.1, s5.2.2.1, s5.2.2.2)) ((m30.1, m30.2.1, m30.2.2.1, m30.2.2.2.1, m30.2.2.2.2)) (hx4 _ rfl).symm (Imp.re _ [0, 1, 2] [1, 2, 3] (sc rfl (sc rfl (sc rfl sn))) (by decide) rfl rfl rfl)))))
 ·subst hd2
  refine (qthen_n ?_)
  refine Tr.seq ?_
  refine Tr.region ?_
  refine TrL.v (v_load (k := 0) rfl rfl rfl ty51 nofun rfl rfl) rfl rfl (bl rfl) ?_
  refine TrL.v (v_move rfl rfl) rfl rfl (bl rfl) ?_
  refine TrL.cons rfl (op_store' (k := 1) (c' := [.slice m38.2.2.1 x2.2.1.length m38.2.2.2.1, .int .i64 x2.2.2]) rfl rfl rfl rfl rfl ty51 rfl (Nat.le_of_ble_eq_true rfl) (ones (oc rfl (oc rfl on))) rfl ?_)
  refine TrL.v (v_assign rfl rfl) rfl rfl (bl rfl) ?_
  refine TrL.nil (qthen_n ?_)
  have hz := Option.some.inj H
  subst hz
  refine Tr.ret (ret_r ⟨[(4, .pointer (some ⟨b19, 0, none⟩)), (5, .slice m38.1 x2.1.length m38.2.1)], [cells b19 [.slice m38.2.2.1 x2.2.1.length m38.2.2.2.1, .int .i64 x2.2.2] 51], [slF (rInt .u8) m38.2.2.1 m38.2.2.2.1 x2.2.1, slF (rInt .u64) m38.1 m38.2.1 x2.1], []⟩ [.agg #[.slice m38.2.2.1 x2.2.1.length m38.2.2.2.1, .int .i64 x2.2.2], .slice m38.1 x2.1.length m38.2.1] [] [cells b19 [.slice m38.2.2.1 x2.2.1.length m38.2.2.2.1, .int .i64 x2.2.2] 51] (Imp.re _ [1] [1, 0] (sc rfl (sc rfl sn)) (by decide) rfl rfl rfl) rfl rfl ⟨((m38.2.2.1, m38.2.2.2.1, m38.1, m38.2.1)), rfl, rfl, rfl⟩ (.cons (resv_cell (k := 0) rfl rfl ty51 nofun rfl rfl) (.cons (resv_tmp rfl) .nil)))

theorem c_ref21_rest (p1 : List Int × Int) (p2 : Int × Int × Int × Int × Int × Int × Int × Int) (A1 : Option Addr) (c1 : Nat) (r : List Int × Int × Int × Int × (List (Int × Int)) × Int × Int) (H : ref21_rest p1 p2 = some r) :
  Ctr Try.prog 111 [.agg #[.slice A1 p1.1.length c1, .int .i64 p1.2], .agg #[.int .i64 p2.1, .int .i64 p2.2.1, .int .u64 p2.2.2.1, .int .u64 p2.2.2.2.1, .int .i64 p2.2.2.2.2.1, .int .i64 p2.2.2.2.2.2.1, .slice none 0 0, .int .i64 p2.2.2.2.2.2.2.1, .int .i64 p2.2.2.2.2.2.2.2]] [] [slF (rInt .u8) A1 c1 p1.1] (fun ret M' F' => ∃ m : Option Addr × Nat × Option Addr × Nat, ret = .tuple #[.agg #[.slice m.1 r.1.length m.2.1, .int .i64 r.2.1], .agg #[.int .i64 p2.1, .int .i64 r.2.2.1, .int .u64 p2.2.2.1, .int .u64 p2.2.2.2.1, .int .i64 p2.2.2.2.2.1, .int .i64 r.2.2.2.1, .slice m.2.2.1 r.2.2.2.2.1.length m.2.2.2, .int .i64 r.2.2.2.2.2.1, .int .i64 r.2.2.2.2.2.2]] ∧ M' = [] ∧ F' = [slF (rInt .u8) m.1 m.2.1 r.1, slF rp_u64_u64 m.2.2.1 m.2.2.2 r.2.2.2.2.1]) := by
 unfold ref21_rest at H
 refine ctr_ofI (N := 102) Try.func111 rfl Try.ntmps111 rfl (Nat.le_of_ble_eq_true rfl) (fun γ0 w0 => ?_)
 refine Tr.seq ?_
 refine Tr.region ?_
 refine TrL.cons rfl (op_box' rfl (bl rfl) rfl rfl rfl (fun b14 => ?_))
 refine TrL.cons rfl (op_box' rfl (bl rfl) rfl rfl rfl (fun b15 => ?_))
 refine TrL.cons rfl (op_alloc' rfl (bl rfl) rfl ze51 (fun b16 => ?_))
 refine TrL.cons rfl (op_alloc' rfl (bl rfl) rfl ze91 (fun b17 => ?_))
 refine TrL.nil (qthen_n ?_)
 refine Tr.seq ?_
 refine Tr.seq ?_
 refine Tr.region ?_
 refine TrL.v (v_fieldAddr' rfl fo91_0 rfl rfl) rfl rfl (bl rfl) ?_
 refine TrL.v (v_load (k := 2) rfl rfl rfl ty3 (fun _ => rfl) rfl rfl) rfl rfl (bl rfl) ?_
 refine TrL.nil (qthen_n ?_)
 refine Tr.block ?_
 refine Tr.seq ?_
 refine Tr.region ?_
 refine TrL.v (v_arith rfl rfl rfl ar_eql) rfl rfl (bl rfl) ?_
 refine TrL.v (v_assign rfl rfl) rfl rfl (bl rfl) ?_
 refine TrL.nil (qthen_n ?_)
 rcases ifc H with ⟨h10, H⟩ | ⟨h10, H⟩
 ·refine Tr.cond_t rfl (bt_dec h10) ?_
  refine Tr.seq ?_
  refine Tr.region ?_
  refine TrL.v (v_load (k := 3) rfl rfl rfl ty51 nofun rfl rfl) rfl rfl (bl rfl) ?_
  refine TrL.cons rfl (op_buildSlice' (rp := (rInt .u64)) (xs := [(1024 : Int)]) (vs := [.int .u64 1024]) (out := [.int .u64 1024]) rfl (bl rfl) rfl sl182 ty28 ze28 rfl rfl (by decide) (by decide) rfl (fun γ w hF => (rowc rfl rown rfl)) (fun A11 => ?_))
  obtain ⟨r10, hr10, H⟩ := bnd H
  refine TrL.cons rfl (op_call0' (vs := [.agg #[.slice A1 p1.1.length c1, .int .i64 p1.2], .slice A11 1 1]) (cap := []) [0, 1] rfl rfl (bl rfl) rfl rfl en110 (c_ref21_read p1 ([(1024 : Int)]) A1 c1 A11 1 r10 hr10) rfl (fun ret M' F' hR10 => ?_))
  obtain ⟨m14, rfl, rfl, rfl⟩ := hR10
  refine TrL.v (v_move rfl rfl) rfl rfl (bl rfl) ?_
  refine TrL.v (v_extract rfl rfl rfl) rfl rfl (bl rfl) ?_
  refine TrL.v (v_extract rfl rfl rfl) rfl rfl (bl rfl) ?_
  refine TrL.cons rfl (op_alloc' rfl (bl rfl) rfl ze51 (fun b18 => ?_))
  refine TrL.cons rfl (op_store' (k := 0) (c' := [.slice m14.1 r10.1.length m14.2.1, .int .i64 r10.2.1]) rfl rfl rfl rfl rfl ty51 rfl (Nat.le_of_ble_eq_true rfl) (ones (oc rfl (oc rfl on))) rfl ?_)
  refine TrL.v (v_assign rfl rfl) rfl rfl (bl rfl) ?_
  refine TrL.nil (qthen_n ?_)
  refine Tr.seq ?_
  refine Tr.region ?_
  refine TrL.v (v_move rfl rfl) rfl rfl (bl rfl) ?_
  obtain ⟨z9, hz9, H⟩ := bnd H
  refine TrL.v (v_indexAddr (k := 3) rfl sl182 ty28 rfl rfl rfl rfl hz9) rfl rfl (bl rfl) ?_
  refine TrL.v (v_loadg (A := m14.2.2.1) (i := 0) (j := 0) (k := 3) rfl ty28 (fun _ => rfl) rfl rfl hz9 rfl rfl) rfl rfl (bl rfl) ?_
  refine TrL.v (v_conv' rfl ⟨_, Try.underlying28⟩ Try.underlying3 rfl wrap_i64') rfl rfl (bl rfl) ?_
  refine TrL.v (v_fieldAddr' rfl fo91_1 rfl rfl) rfl rfl (bl rfl) ?_
  refine TrL.cons rfl (op_store' (k := 3) (c' := [.int .i64 p2.1, .int .i64 (wi64 z9), .int .u64 p2.2.2.1, .int .u64 p2.2.2.2.1, .int .i64 p2.2.2.2.2.1, .int .i64 p2.2.2.2.2.2.1, .slice none 0 0, .int .i64 p2.2.2.2.2.2.2.1, .int .i64 p2.2.2.2.2.2.2.2]) rfl rfl rfl rfl rfl ty3 rfl (Nat.le_of_ble_eq_true rfl) (ones (oc rfl on)) rfl ?_)
  refine TrL.nil (qthen_n ?_)
  refine Tr.seq ?_
  refine Tr.regionD drawn (fun hok => ?_)
  refine TrAny.prom (i := 0) (d := 32) hok (OpVal.plain rfl rfl (v_load (k := 0) rfl rfl rfl ty51 nofun rfl rfl)) (by kernel_rfl) rfl (bl rfl) ?_
  clear hok
  intro hok
  refine TrAny.prom (i := 1) (d := 33) hok (OpVal.plain rfl rfl (v_load (k := 3) rfl rfl rfl ty91 nofun rfl rfl)) (by kernel_rfl) rfl (bl rfl) ?_
  clear hok
  intro hok
  refine TrAny.next (j := 2) (by kernel_rfl) hok rfl (by kernel_rfl) (op_store' (k := 2) (c' := [.slice m14.1 r10.1.length m14.2.1, .int .i64 r10.2.1]) rfl rfl rfl rfl rfl ty51 rfl (Nat.le_of_ble_eq_true rfl) (ones (oc rfl (oc rfl on))) rfl ?_)
  refine nxs hok (kp_all (ac (.inl (by kernel_rfl)) (ac (.inr (OpVal.plain rfl rfl (v_load (k := 3) rfl rfl rfl ty91 nofun rfl rfl))) an))) rfl ?_
  clear hok
  intro hok
  refine TrAny.next (j := 3) (by kernel_rfl) hok rfl (by kernel_rfl) (op_store' (k := 1) (c' := [.int .i64 p2.1, .int .i64 (wi64 z9), .int .u64 p2.2.2.1, .int .u64 p2.2.2.2.1, .int .i64 p2.2.2.2.2.1, .int .i64 p2.2.2.2.2.2.1, .slice none 0 0, .int .i64 p2.2.2.2.2.2.2.1, .int .i64 p2.2.2.2.2.2.2.2]) rfl rfl rfl rfl rfl ty91 rfl (Nat.le_of_ble_eq_true rfl) (ones (oc rfl (oc rfl (oc rfl (oc rfl (oc rfl (oc rfl (oc rfl (oc rfl (oc rfl on)))))))))) rfl ?_)
  refine nxs hok (kp_aw (by kernel_rfl)) rfl ?_
  clear hok
  intro hok
  refine TrAny.done (by kernel_rfl) (by kernel_rfl) hok (by kernel_rfl) (qthen_n ?_)
  have hz := Option.some.inj H
  subst hz
  refine Tr.ret (qblock_r (qthen_r (ret_r ⟨[(4, .pointer (some ⟨b16, 0, none⟩)), (5, .pointer (some ⟨b17, 0, none⟩))], [cells b16 [.slice m14.1 r10.1.length m14.2.1, .int .i64 r10.2.1] 51, cells b17 [.int .i64 p2.1, .int .i64 (wi64 z9), .int .u64 p2.2.2.1, .int .u64 p2.2.2.2.1, .int .i64 p2.2.2.2.2.1, .int .i64 p2.2.2.2.2.2.1, .slice none 0 0, .int .i64 p2.2.2.2.2.2.2.1, .int .i64 p2.2.2.2.2.2.2.2] 91], [slF (rInt .u8) m14.1 m14.2.1 r10.1, slF rp_u64_u64 none 0 (([] : List (Int × Int)))], []⟩ [.agg #[.slice m14.1 r10.1.length m14.2.1, .int .i64 r10.2.1], .agg #[.int .i64 p2.1, .int .i64 (wi64 z9), .int .u64 p2.2.2.1, .int .u64 p2.2.2.2.1, .int .i64 p2.2.2.2.2.1, .int .i64 p2.2.2.2.2.2.1, .slice none 0 0, .int .i64 p2.2.2.2.2.2.2.1, .int .i64 p2.2.2.2.2.2.2.2]] [] [cells b16 [.slice m14.1 r10.1.length m14.2.1, .int .i64 r10.2.1] 51, cells b17 [.int .i64 p2.1, .int .i64 (wi64 z9), .int .u64 p2.2.2.1, .int .u64 p2.2.2.2.1, .int .i64 p2.2.2.2.2.1, .int .i64 p2.2.2.2.2.2.1, .slice none 0 0, .int .i64 p2.2.2.2.2.2.2.1, .int .i64 p2.2.2.2.2.2.2.2] 91] (Imp.addF' _ (nilF rp_u64_u64) (Imp.re _ [2, 1] [2, 4] (sc rfl (sc rfl sn)) (by decide) rfl rfl rfl)) rfl rfl ⟨((m14.1, m14.2.1, none, 0)), rfl, rfl, rfl⟩ (.cons (resv_cell (k := 0) rfl rfl ty51 nofun rfl rfl) (.cons (resv_cell (k := 1) rfl rfl ty91 nofun rfl rfl) .nil)))))
 ·refine Tr.cond_f rfl (bf_dec h10) ?_
  refine Tr.seq ?_
  refine Tr.region ?_
  refine TrL.v (v_arith rfl rfl rfl ar_eql) rfl rfl (bl rfl) ?_
  refine TrL.v (v_assign rfl rfl) rfl rfl (bl rfl) ?_
  refine TrL.nil (qthen_n ?_)
  rcases ifc H with ⟨h11, H⟩ | ⟨h11, H⟩
  ·refine Tr.cond_t rfl (bt_dec h11) ?_
   refine Tr.seq ?_
   refine Tr.region ?_
   refine TrL.v (v_load (k := 3) rfl rfl rfl ty51 nofun rfl rfl) rfl rfl (bl rfl) ?_
   refine TrL.cons rfl (op_buildSlice' (rp := (rInt .u64)) (xs := [(1024 : Int), (256 : Int), (8 : Int)]) (vs := [.int .u64 1024, .int .u64 256, .int .u64 8]) (out := [.int .u64 1024, .int .u64 256, .int .u64 8]) rfl (bl rfl) rfl sl182 ty28 ze28 rfl rfl (by decide) (by decide) rfl (fun γ w hF => (rowc rfl (rowc rfl (rowc rfl rown rfl) rfl) rfl)) (fun A12 => ?_))
   obtain ⟨r11, hr11, H⟩ := bnd H
   refine TrL.cons rfl (op_call0' (vs := [.agg #[.slice A1 p1.1.length c1, .int .i64 p1.2], .slice A12 3 3]) (cap := []) [0, 1] rfl rfl (bl rfl) rfl rfl en110 (c_ref21_read p1 ([(1024 : Int), (256 : Int), (8 : Int)]) A1 c1 A12 3 r11 hr11) rfl (fun ret M' F' hR11 => ?_))
   obtain ⟨m15, rfl, rfl, rfl⟩ := hR11
   refine TrL.v (v_move rfl rfl) rfl rfl (bl rfl) ?_
   refine TrL.v (v_extract rfl rfl rfl) rfl rfl (bl rfl) ?_
   refine TrL.v (v_extract rfl rfl rfl) rfl rfl (bl rfl) ?_
   refine TrL.cons rfl (op_alloc' rfl (bl rfl) rfl ze51 (fun b19 => ?_))
   refine TrL.cons rfl (op_store' (k := 0) (c' := [.slice m15.1 r11.1.length m15.2.1, .int .i64 r11.2.1]) rfl rfl rfl rfl rfl ty51 rfl (Nat.le_of_ble_eq_true rfl) (ones (oc rfl (oc rfl on))) rfl ?_)
   refine TrL.v (v_assign rfl rfl) rfl rfl (bl rfl) ?_
   refine TrL.nil (qthen_n ?_)
   refine Tr.seq ?_
   refine Tr.region ?_
   refine TrL.v (v_move rfl rfl) rfl rfl (bl rfl) ?_
   obtain ⟨z10, hz10, H⟩ := bnd H
   refine TrL.v (v_indexAddr (k := 3) rfl sl182 ty28 rfl rfl rfl rfl hz10) rfl rfl (bl rfl) ?_
   refine TrL.v (v_loadg (A := m15.2.2.1) (i := 0) (j := 0) (k := 3) rfl ty28 (fun _ => rfl) rfl rfl hz10 rfl rfl) rfl rfl (bl rfl) ?_
   refine TrL.v (v_conv' rfl ⟨_, Try.underlying28⟩ Try.underlying3 rfl wrap_i64') rfl rfl (bl rfl) ?_
   refine TrL.v (v_fieldAddr' rfl fo91_1 rfl rfl) rfl rfl (bl rfl) ?_
   refine TrL.cons rfl (op_store' (k := 3) (c' := [.int .i64 p2.1, .int .i64 (wi64 z10), .int .u64 p2.2.2.1, .int .u64 p2.2.2.2.1, .int .i64 p2.2.2.2.2.1, .int .i64 p2.2.2.2.2.2.1, .slice none 0 0, .int .i64 p2.2.2.2.2.2.2.1, .int .i64 p2.2.2.2.2.2.2.2]) rfl rfl rfl rfl rfl ty3 rfl (Nat.le_of_ble_eq_true rfl) (ones (oc rfl on)) rfl ?_)
   refine TrL.nil (qthen_n ?_)
   refine Tr.seq ?_
   refine Tr.region ?_
   refine TrL.v (v_move rfl rfl) rfl rfl (bl rfl) ?_
   obtain ⟨z11, hz11, H⟩ := bnd H
   refine TrL.v (v_indexAddr (k := 3) rfl sl182 ty28 rfl rfl rfl rfl hz11) rfl rfl (bl rfl) ?_
   refine TrL.v (v_loadg (A := m15.2.2.1) (i := 1) (j := 0) (k := 3) rfl ty28 (fun _ => rfl) rfl rfl hz11 rfl rfl) rfl rfl (bl rfl) ?_
   refine TrL.v (v_conv' rfl ⟨_, Try.underlying28⟩ Try.underlying3 rfl wrap_i64') rfl rfl (bl rfl) ?_
   refine TrL.v (v_fieldAddr' rfl fo91_5 rfl rfl) rfl rfl (bl rfl) ?_
   refine TrL.cons rfl (op_store' (k := 3) (c' := [.int .i64 p2.1, .int .i64 (wi64 z10), .int .u64 p2.2.2.1, .int .u64 p2.2.2.2.1, .int .i64 p2.2.2.2.2.1, .int .i64 (wi64 z11), .slice none 0 0, .int .i64 p2.2.2.2.2.2.2.1, .int .i64 p2.2.2.2.2.2.2.2]) rfl rfl rfl rfl rfl ty3 rfl (Nat.le_of_ble_eq_true rfl) (ones (oc rfl on)) rfl ?_)
   refine TrL.nil (qthen_n ?_)
   refine Tr.seq ?_
   refine Tr.seq ?_
   refine Tr.region ?_
   refine TrL.v (v_assign rfl rfl) rfl rfl (bl rfl) ?_
   refine TrL.nil (qthen_n ?_)
   obtain ⟨x2, hx3, H⟩ := bnd H
   refine Tr.cutE (D := (List (Int × Int)) × List Int × Int) (M := Option Addr × Nat × Option Addr × Nat × Option Nat) .normal (fun _d => x2 = _d) (fun x2 m23 => ⟨[(3, .pointer (some ⟨b15, 0, none⟩)), (4, .pointer (some ⟨b16, 0, none⟩)), (5, .pointer (some ⟨b17, 0, none⟩)), (8, .pointer (some ⟨b19, 0, none⟩))], [cells b15 [.int .i64 p2.1, .int .i64 (wi64 z10), .int .u64 p2.2.2.1, .int .u64 p2.2.2.2.1, .int .i64 p2.2.2.2.2.1, .int .i64 (wi64 z11), .slice m23.1 x2.1.length m23.2.1, .int .i64 p2.2.2.2.2.2.2.1, .int .i64 p2.2.2.2.2.2.2.2] 91, cells b16 [.slice none 0 0, .int .i64 0] 51, cells b17 [.int .i64 0, .int .i64 0, .int .u64 0, .int .u64 0, .int .i64 0, .int .i64 0, .slice none 0 0, .int .i64 0, .int .i64 0] 91, cells b19 [.slice m23.2.2.1 x2.2.1.length m23.2.2.2.1, .int .i64 x2.2.2] 51, grow 184 2 (.slice m23.1 x2.1.length m23.2.1) x2.1.length m23.2.2.2.2], [slF rp_u64_u64 m23.1 m23.2.1 x2.1, slF (rInt .u8) none 0 (([] : List Int)), slF rp_u64_u64 none 0 (([] : List (Int × Int))), slF (rInt .u8) m23.2.2.1 m23.2.2.2.1 x2.2.1], []⟩) ?_ (fun x2 m23 hd2 => ?_)
   ·refine Tr.block (Tr.loopI (ι := Option Addr × Nat × Option Addr × Nat × Option Nat) (step := ref21_rest_s0 r11) (fun s5 m19 => ⟨[(3, .pointer (some ⟨b15, 0, none⟩)), (4, .pointer (some ⟨b16, 0, none⟩)), (5, .pointer (some ⟨b17, 0, none⟩)), (8, .pointer (some ⟨b19, 0, none⟩)), (9, .slice m15.2.2.1 r11.2.2.length m15.2.2.2), (10, .int .u64 s5.1)], [cells b15 [.int .i64 p2.1, .int .i64 (wi64 z10), .int .u64 p2.2.2.1, .int .u64 p2.2.2.2.1, .int .i64 p2.2.2.2.2.1, .int .i64 (wi64 z11), .slice m19.1 s5.2.1.length m19.2.1, .int .i64 p2.2.2.2.2.2.2.1, .int .i64 p2.2.2.2.2.2.2.2] 91, cells b16 [.slice none 0 0, .int .i64 0] 51, cells b17 [.int .i64 0, .int .i64 0, .int .u64 0, .int .u64 0, .int .i64 0, .int .i64 0, .slice none 0 0, .int .i64 0, .int .i64 0] 91, cells b19 [.slice m19.2.2.1 s5.2.2.1.length m19.2.2.2.1, .int .i64 s5.2.2.2] 51, grow 184 2 (.slice m19.1 s5.2.1.length m19.2.1) s5.2.1.length m19.2.2.2.2], [slF (rInt .u64) m15.2.2.1 m15.2.2.2 r11.2.2, slF rp_u64_u64 m19.1 m19.2.1 s5.2.1, slF (rInt .u8) none 0 (([] : List Int)), slF rp_u64_u64 none 0 (([] : List (Int × Int))), slF (rInt .u8) m19.2.2.1 m19.2.2.2.1 s5.2.2.1], []⟩) ((none, 0, m15.1, m15.2.1, none)) hx3 (Imp.full' (E := 184) (sz := 2) (A := none) (n := 0) (Imp.addF' _ (nilF rp_u64_u64) (Imp.addF' _ (nilF (rInt .u8)) (Imp.re _ [4, 3, 2, 1, 0] [3, 4, 5, 4, 2] (sc rfl (sc rfl (sc rfl (sc rfl (sc rfl (sc rfl sn)))))) (by decide) rfl rfl rfl)))) (fun s5 m19 y2 hy2 hx4 => ?_))
    unfold ref21_rest_s0 at hy2
    refine Tr.seq ?_
    refine Tr.seq ?_
    refine Tr.region ?_
    refine TrL.v (v_move rfl rfl) rfl rfl (bl rfl) ?_
    refine TrL.v (v_move rfl rfl) rfl rfl (bl rfl) ?_
    obtain ⟨z14, hz14, hy2⟩ := bnd hy2
    refine TrL.v (v_indexAddr (k := 0) rfl sl182 ty28 rfl rfl rfl rfl hz14) rfl rfl (bl rfl) ?_
    refine TrL.v (v_loadg (A := m15.2.2.1) (i := 2) (j := 0) (k := 0) rfl ty28 (fun _ => rfl) rfl rfl hz14 rfl rfl) rfl rfl (bl rfl) ?_
    refine TrL.v (v_arith rfl rfl rfl ar_lss) rfl rfl (bl rfl) ?_
    refine TrL.nil (qthen_n ?_)
    rcases ifc hy2 with ⟨h16, hy2⟩ | ⟨h16, hy2⟩
    ·refine Tr.cond_t rfl (bt_dec h16) ?_
     refine Tr.skip (qthen_n ?_)
     refine Tr.seq ?_
     refine Tr.block ?_
     refine Tr.seq ?_
     refine Tr.region ?_
     refine TrL.v (v_load (k := 3) rfl rfl rfl ty51 nofun rfl rfl) rfl rfl (bl rfl) ?_
     obtain ⟨r16, hr16, hy2⟩ := bnd hy2
     refine TrL.cons rfl (op_call0' (vs := [.agg #[.slice m19.2.2.1 s5.2.2.1.length m19.2.2.2.1, .int .i64 s5.2.2.2]]) (cap := []) [4] rfl rfl (bl rfl) rfl rfl en158 (c_ref02_ReadFixed s5.2.2 m19.2.2.1 m19.2.2.2.1 r16 hr16) rfl (fun ret M' F' hR16 => ?_))
     obtain ⟨m24, rfl, rfl, rfl⟩ := hR16
     refine TrL.v (v_move rfl rfl) rfl rfl (bl rfl) ?_
     refine TrL.v (v_extract rfl rfl rfl) rfl rfl (bl rfl) ?_
     refine TrL.v (v_extract rfl rfl rfl) rfl rfl (bl rfl) ?_
     refine TrL.cons rfl (op_alloc' rfl (bl rfl) rfl ze51 (fun b24 => ?_))
     refine TrL.cons rfl (op_store' (k := 0) (c' := [.slice m24.1 r16.1.length m24.2, .int .i64 r16.2.1]) rfl rfl rfl rfl rfl ty51 rfl (Nat.le_of_ble_eq_true rfl) (ones (oc rfl (oc rfl on))) rfl ?_)
     refine TrL.v (v_assign rfl rfl) rfl rfl (bl rfl) ?_
     refine TrL.nil (qthen_n ?_)
     refine Tr.seq ?_
     refine Tr.region ?_
     refine TrL.v (v_load (k := 0) rfl rfl rfl ty51 nofun rfl rfl) rfl rfl (bl rfl) ?_
     obtain ⟨r17, hr17, hy2⟩ := bnd hy2
     refine TrL.cons rfl (op_call0' (vs := [.agg #[.slice m24.1 r16.1.length m24.2, .int .i64 r16.2.1]]) (cap := []) [5] rfl rfl (bl rfl) rfl rfl en158 (c_ref02_ReadFixed ((r16.1, r16.2.1)) m24.1 m24.2 r17 hr17) rfl (fun ret M' F' hR17 => ?_))
     obtain ⟨m25, rfl, rfl, rfl⟩ := hR17
     refine TrL.v (v_move rfl rfl) rfl rfl (bl rfl) ?_
     refine TrL.v (v_extract rfl rfl rfl) rfl rfl (bl rfl) ?_
     refine TrL.v (v_extract rfl rfl rfl) rfl rfl (bl rfl) ?_
     refine TrL.cons rfl (op_alloc' rfl (bl rfl) rfl ze51 (fun b25 => ?_))
     refine TrL.cons rfl (op_store' (k := 0) (c' := [.slice m25.1 r17.1.length m25.2, .int .i64 r17.2.1]) rfl rfl rfl rfl rfl ty51 rfl (Nat.le_of_ble_eq_true rfl) (ones (oc rfl (oc rfl on))) rfl ?_)
     refine TrL.v (v_assign rfl rfl) rfl rfl (bl rfl) ?_
     refine TrL.nil (qthen_n ?_)
     refine Tr.seq ?_
     refine Tr.region ?_
     refine TrL.v (v_load (k := 0) rfl rfl rfl ty51 nofun rfl rfl) rfl rfl (bl rfl) ?_
     refine TrL.cons rfl (op_store' (k := 5) (c' := [.slice m25.1 r17.1.length m25.2, .int .i64 r17.2.1]) rfl rfl rfl rfl rfl ty51 rfl (Nat.le_of_ble_eq_true rfl) (ones (oc rfl (oc rfl on))) rfl ?_)
     refine TrL.nil (qthen_n ?_)
     refine Tr.region ?_
     refine TrL.v (v_fieldAddr' rfl fo91_6 rfl rfl) rfl rfl (bl rfl) ?_
     refine TrL.v (v_load (k := 2) rfl rfl rfl ty89 (fun _ => rfl) rfl rfl) rfl rfl (bl rfl) ?_
     refine TrL.v (v_move rfl rfl) rfl rfl (bl rfl) ?_
     refine TrL.v (v_move rfl rfl) rfl rfl (bl rfl) ?_
     refine TrL.v (v_build (vs := [.int .u64 r16.2.2, .int .u64 r17.2.2]) (out := [.int .u64 r16.2.2, .int .u64 r17.2.2]) rfl pl184 ze184 rfl rfl) rfl rfl (bl rfl) ?_
     refine TrL.cons rfl (op_buildSlice' (rp := rp_u64_u64) (xs := [(r16.2.2, r17.2.2)]) (vs := [.agg #[.int .u64 r16.2.2, .int .u64 r17.2.2]]) (out := [.int .u64 r16.2.2, .int .u64 r17.2.2]) rfl (bl rfl) rfl sl89 ty184 ze184 rfl rfl (by decide) (by decide) rfl (fun γ w hF => (rowc rfl rown rfl)) (fun A17 => ?_))
     obtain ⟨h17, hy2⟩ := rom hy2
     refine TrL.cons rfl (op_append' (rp := rp_u64_u64) (xs := s5.2.1) (ys := [(r16.2.2, r17.2.2)]) (k := 6) (kx := 1) (ky := 7) rfl (bl rfl) rfl sl89 ty184 ze184 rfl by184 rfl rfl rfl rfl rfl rfl rfl h17.1 h17.2 (fun A18 c7 o6 => ?_))
     refine TrL.v (v_fieldAddr' rfl fo91_6 rfl rfl) rfl rfl (bl rfl) ?_
     refine TrL.cons rfl (op_store' (k := 2) (c' := [.int .i64 p2.1, .int .i64 (wi64 z10), .int .u64 p2.2.2.1, .int .u64 p2.2.2.2.1, .int .i64 p2.2.2.2.2.1, .int .i64 (wi64 z11), .slice A18 ((s5.2.1 ++ ([(r16.2.2, r17.2.2)])).length) c7, .int .i64 p2.2.2.2.2.2.2.1, .int .i64 p2.2.2.2.2.2.2.2]) rfl rfl rfl rfl rfl ty89 rfl (Nat.le_of_ble_eq_true rfl) (ones (oc rfl on)) rfl ?_)
     refine TrL.nil (qblock_n (qthen_n ?_))
     refine Tr.region ?_
     refine TrL.v (v_move rfl rfl) rfl rfl (bl rfl) ?_
     refine TrL.v (v_arith rfl rfl rfl ar_add_u64) rfl rfl (bl rfl) ?_
     refine TrL.v (v_assign rfl rfl) rfl rfl (bl rfl) ?_
     have hz := Option.some.inj hy2
     subst hz
     refine TrL.nil (qloop_n ((A18, c7, m25.1, m25.2, o6)) (Imp.re _ [2, 3, 4, 5, 6] [0, 8, 2, 3, 6] (sc rfl (sc rfl (sc rfl (sc rfl (sc rfl (sc rfl sn)))))) (by decide) rfl rfl rfl))
    ·refine Tr.cond_f rfl (bf_dec h16) ?_
     have hz := Option.some.inj hy2
     subst hz
     refine Tr.exit (qthen_x (qloop_x (qblock_hit (qcut_hit ((s5.2.1, s5.2.2.1, s5.2.2.2)) ((m19.1, m19.2.1, m19.2.2.1, m19.2.2.2.1, m19.2.2.2.2)) (hx4 _ rfl).symm (Imp.re _ [0, 1, 2, 3, 4] [1, 2, 3, 4] (sc rfl (sc rfl (sc rfl (sc rfl sn)))) (by decide) rfl rfl rfl)))))
   ·subst hd2
    refine (qthen_n ?_)
    refine Tr.seq ?_
    refine Tr.regionD drawn (fun hok => ?_)
    refine TrAny.prom (i := 0) (d := 78) hok (OpVal.plain rfl rfl (v_load (k := 3) rfl rfl rfl ty51 nofun rfl rfl)) (by kernel_rfl) rfl (bl rfl) ?_
    clear hok
    intro hok
    refine TrAny.prom (i := 1) (d := 79) hok (OpVal.plain rfl rfl (v_load (k := 0) rfl rfl rfl ty91 nofun rfl rfl)) (by kernel_rfl) rfl (bl rfl) ?_
    clear hok
    intro hok
    refine TrAny.next (j := 2) (by kernel_rfl) hok rfl (by kernel_rfl) (op_store' (k := 1) (c' := [.slice m23.2.2.1 x2.2.1.length m23.2.2.2.1, .int .i64 x2.2.2]) rfl rfl rfl rfl rfl ty51 rfl (Nat.le_of_ble_eq_true rfl) (ones (oc rfl (oc rfl on))) rfl ?_)
    refine nxs hok (kp_all (ac (.inl (by kernel_rfl)) (ac (.inr (OpVal.plain rfl rfl (v_load (k := 0) rfl rfl rfl ty91 nofun rfl rfl))) an))) rfl ?_
    clear hok
    intro hok
    refine TrAny.next (j := 3) (by kernel_rfl) hok rfl (by kernel_rfl) (op_store' (k := 2) (c' := [.int .i64 p2.1, .int .i64 (wi64 z10), .int .u64 p2.2.2.1, .int .u64 p2.2.2.2.1, .int .i64 p2.2.2.2.2.1, .int .i64 (wi64 z11), .slice m23.1 x2.1.length m23.2.1, .int .i64 p2.2.2.2.2.2.2.1, .int .i64 p2.2.2.2.2.2.2.2]) rfl rfl rfl rfl rfl ty91 rfl (Nat.le_of_ble_eq_true rfl) (ones (oc rfl (oc rfl (oc rfl (oc rfl (oc rfl (oc rfl (oc rfl (oc rfl (oc rfl on)))))))))) rfl ?_)
    refine nxs hok (kp_aw (by kernel_rfl)) rfl ?_
    clear hok
    intro hok
    refine TrAny.done (by kernel_rfl) (by kernel_rfl) hok (by kernel_rfl) (qthen_n ?_)
    have hz := Option.some.inj H
    subst hz
    refine Tr.ret (qblock_r (qthen_r (ret_r ⟨[(4, .pointer (some ⟨b16, 0, none⟩)), (5, .pointer (some ⟨b17, 0, none⟩))], [cells b16 [.slice m23.2.2.1 x2.2.1.length m23.2.2.2.1, .int .i64 x2.2.2] 51, cells b17 [.int .i64 p2.1, .int .i64 (wi64 z10), .int .u64 p2.2.2.1, .int .u64 p2.2.2.2.1, .int .i64 p2.2.2.2.2.1, .int .i64 (wi64 z11), .slice m23.1 x2.1.length m23.2.1, .int .i64 p2.2.2.2.2.2.2.1, .int .i64 p2.2.2.2.2.2.2.2] 91], [slF (rInt .u8) m23.2.2.1 m23.2.2.2.1 x2.2.1, slF rp_u64_u64 m23.1 m23.2.1 x2.1], []⟩ [.agg #[.slice m23.2.2.1 x2.2.1.length m23.2.2.2.1, .int .i64 x2.2.2], .agg #[.int .i64 p2.1, .int .i64 (wi64 z10), .int .u64 p2.2.2.1, .int .u64 p2.2.2.2.1, .int .i64 p2.2.2.2.2.1, .int .i64 (wi64 z11), .slice m23.1 x2.1.length m23.2.1, .int .i64 p2.2.2.2.2.2.2.1, .int .i64 p2.2.2.2.2.2.2.2]] [] [cells b16 [.slice m23.2.2.1 x2.2.1.length m23.2.2.2.1, .int .i64 x2.2.2] 51, cells b17 [.int .i64 p2.1, .int .i64 (wi64 z10), .int .u64 p2.2.2.1, .int .u64 p2.2.2.2.1, .int .i64 p2.2.2.2.2.1, .int .i64 (wi64 z11), .slice m23.1 x2.1.length m23.2.1, .int .i64 p2.2.2.2.2.2.2.1, .int .i64 p2.2.2.2.2.2.2.2] 91] (Imp.re _ [1, 2] [3, 0] (sc rfl (sc rfl sn)) (by decide) rfl rfl rfl) rfl rfl ⟨((m23.2.2.1, m23.2.2.2.1, m23.1, m23.2.1)), rfl, rfl, rfl⟩ (.cons (resv_cell (k := 0) rfl rfl ty51 nofun rfl rfl) (.cons (resv_cell (k := 1) rfl rfl ty91 nofun rfl rfl) .nil)))))
  ·refine Tr.cond_f rfl (bf_dec h11) ?_
   refine Tr.seq ?_
   refine Tr.region ?_
   refine TrL.v (v_arith rfl rfl rfl ar_eql) rfl rfl (bl rfl) ?_
   refine TrL.v (v_assign rfl rfl) rfl rfl (bl rfl) ?_
   refine TrL.nil (qthen_n ?_)
   rcases ifc H with ⟨h18, H⟩ | ⟨h18, H⟩
   ·refine Tr.cond_t rfl (bt_dec h18) ?_
    refine Tr.seq ?_
    refine Tr.region ?_
    refine TrL.v (v_load (k := 3) rfl rfl rfl ty51 nofun rfl rfl) rfl rfl (bl rfl) ?_
    refine TrL.cons rfl (op_buildSlice' (rp := (rInt .u64)) (xs := [(256 : Int), (64 : Int)]) (vs := [.int .u64 256, .int .u64 64]) (out := [.int .u64 256, .int .u64 64]) rfl (bl rfl) rfl sl182 ty28 ze28 rfl rfl (by decide) (by decide) rfl (fun γ w hF => (rowc rfl (rowc rfl rown rfl) rfl)) (fun A19 => ?_))
    obtain ⟨r18, hr18, H⟩ := bnd H
    refine TrL.cons rfl (op_call0' (vs := [.agg #[.slice A1 p1.1.length c1, .int .i64 p1.2], .slice A19 2 2]) (cap := []) [0, 1] rfl rfl (bl rfl) rfl rfl en110 (c_ref21_read p1 ([(256 : Int), (64 : Int)]) A1 c1 A19 2 r18 hr18) rfl (fun ret M' F' hR18 => ?_))
    obtain ⟨m26, rfl, rfl, rfl⟩ := hR18
    refine TrL.v (v_move rfl rfl) rfl rfl (bl rfl) ?_
    refine TrL.v (v_extract rfl rfl rfl) rfl rfl (bl rfl) ?_
    refine TrL.v (v_extract rfl rfl rfl) rfl rfl (bl rfl) ?_
    refine TrL.cons rfl (op_alloc' rfl (bl rfl) rfl ze51 (fun b26 => ?_))
    refine TrL.cons rfl (op_store' (k := 0) (c' := [.slice m26.1 r18.1.length m26.2.1, .int .i64 r18.2.1]) rfl rfl rfl rfl rfl ty51 rfl (Nat.le_of_ble_eq_true rfl) (ones (oc rfl (oc rfl on))) rfl ?_)
    refine TrL.v (v_assign rfl rfl) rfl rfl (bl rfl) ?_
    refine TrL.nil (qthen_n ?_)
    refine Tr.seq ?_
    refine Tr.region ?_
    refine TrL.v (v_move rfl rfl) rfl rfl (bl rfl) ?_
    obtain ⟨z15, hz15, H⟩ := bnd H
    refine TrL.v (v_indexAddr (k := 3) rfl sl182 ty28 rfl rfl rfl rfl hz15) rfl rfl (bl rfl) ?_
    refine TrL.v (v_loadg (A := m26.2.2.1) (i := 0) (j := 0) (k := 3) rfl ty28 (fun _ => rfl) rfl rfl hz15 rfl rfl) rfl rfl (bl rfl) ?_
    refine TrL.v (v_conv' rfl ⟨_, Try.underlying28⟩ Try.underlying3 rfl wrap_i64') rfl rfl (bl rfl) ?_
    refine TrL.v (v_fieldAddr' rfl fo91_7 rfl rfl) rfl rfl (bl rfl) ?_
    refine TrL.cons rfl (op_store' (k := 3) (c' := [.int .i64 p2.1, .int .i64 p2.2.1, .int .u64 p2.2.2.1, .int .u64 p2.2.2.2.1, .int .i64 p2.2.2.2.2.1, .int .i64 p2.2.2.2.2.2.1, .slice none 0 0, .int .i64 (wi64 z15), .int .i64 p2.2.2.2.2.2.2.2]) rfl rfl rfl rfl rfl ty3 rfl (Nat.le_of_ble_eq_true rfl) (ones (oc rfl on)) rfl ?_)
    refine TrL.nil (qthen_n ?_)
    refine Tr.seq ?_
    refine Tr.region ?_
    refine TrL.v (v_move rfl rfl) rfl rfl (bl rfl) ?_
    obtain ⟨z16, hz16, H⟩ := bnd H
    refine TrL.v (v_indexAddr (k := 3) rfl sl182 ty28 rfl rfl rfl rfl hz16) rfl rfl (bl rfl) ?_
    refine TrL.v (v_loadg (A := m26.2.2.1) (i := 1) (j := 0) (k := 3) rfl ty28 (fun _ => rfl) rfl rfl hz16 rfl rfl) rfl rfl (bl rfl) ?_
    refine TrL.v (v_conv' rfl ⟨_, Try.underlying28⟩ Try.underlying3 rfl wrap_i64') rfl rfl (bl rfl) ?_
    refine TrL.v (v_fieldAddr' rfl fo91_8 rfl rfl) rfl rfl (bl rfl) ?_
    refine TrL.cons rfl (op_store' (k := 3) (c' := [.int .i64 p2.1, .int .i64 p2.2.1, .int .u64 p2.2.2.1, .int .u64 p2.2.2.2.1, .int .i64 p2.2.2.2.2.1, .int .i64 p2.2.2.2.2.2.1, .slice none 0 0, .int .i64 (wi64 z15), .int .i64 (wi64 z16)]) rfl rfl rfl rfl rfl ty3 rfl (Nat.le_of_ble_eq_true rfl) (ones (oc rfl on)) rfl ?_)
    refine TrL.nil (qthen_n ?_)
    refine Tr.seq ?_
    refine Tr.regionD drawn (fun hok => ?_)
    refine TrAny.prom (i := 0) (d := 98) hok (OpVal.plain rfl rfl (v_load (k := 0) rfl rfl rfl ty51 nofun rfl rfl)) (by kernel_rfl) rfl (bl rfl) ?_
    clear hok
    intro hok
    refine TrAny.prom (i := 1) (d := 99) hok (OpVal.plain rfl rfl (v_load (k := 3) rfl rfl rfl ty91 nofun rfl rfl)) (by kernel_rfl) rfl (bl rfl) ?_
    clear hok
    intro hok
    refine TrAny.next (j := 2) (by kernel_rfl) hok rfl (by kernel_rfl) (op_store' (k := 2) (c' := [.slice m26.1 r18.1.length m26.2.1, .int .i64 r18.2.1]) rfl rfl rfl rfl rfl ty51 rfl (Nat.le_of_ble_eq_true rfl) (ones (oc rfl (oc rfl on))) rfl ?_)
    refine nxs hok (kp_all (ac (.inl (by kernel_rfl)) (ac (.inr (OpVal.plain rfl rfl (v_load (k := 3) rfl rfl rfl ty91 nofun rfl rfl))) an))) rfl ?_
    clear hok
    intro hok
    refine TrAny.next (j := 3) (by kernel_rfl) hok rfl (by kernel_rfl) (op_store' (k := 1) (c' := [.int .i64 p2.1, .int .i64 p2.2.1, .int .u64 p2.2.2.1, .int .u64 p2.2.2.2.1, .int .i64 p2.2.2.2.2.1, .int .i64 p2.2.2.2.2.2.1, .slice none 0 0, .int .i64 (wi64 z15), .int .i64 (wi64 z16)]) rfl rfl rfl rfl rfl ty91 rfl (Nat.le_of_ble_eq_true rfl) (ones (oc rfl (oc rfl (oc rfl (oc rfl (oc rfl (oc rfl (oc rfl (oc rfl (oc rfl on)))))))))) rfl ?_)
    refine nxs hok (kp_aw (by kernel_rfl)) rfl ?_
    clear hok
    intro hok
    refine TrAny.done (by kernel_rfl) (by kernel_rfl) hok (by kernel_rfl) (qthen_n ?_)
    have hz := Option.some.inj H
    subst hz
    refine Tr.ret (qblock_r (qthen_r (ret_r ⟨[(4, .pointer (some ⟨b16, 0, none⟩)), (5, .pointer (some ⟨b17, 0, none⟩))], [cells b16 [.slice m26.1 r18.1.length m26.2.1, .int .i64 r18.2.1] 51, cells b17 [.int .i64 p2.1, .int .i64 p2.2.1, .int .u64 p2.2.2.1, .int .u64 p2.2.2.2.1, .int .i64 p2.2.2.2.2.1, .int .i64 p2.2.2.2.2.2.1, .slice none 0 0, .int .i64 (wi64 z15), .int .i64 (wi64 z16)] 91], [slF (rInt .u8) m26.1 m26.2.1 r18.1, slF rp_u64_u64 none 0 (([] : List (Int × Int)))], []⟩ [.agg #[.slice m26.1 r18.1.length m26.2.1, .int .i64 r18.2.1], .agg #[.int .i64 p2.1, .int .i64 p2.2.1, .int .u64 p2.2.2.1, .int .u64 p2.2.2.2.1, .int .i64 p2.2.2.2.2.1, .int .i64 p2.2.2.2.2.2.1, .slice none 0 0, .int .i64 (wi64 z15), .int .i64 (wi64 z16)]] [] [cells b16 [.slice m26.1 r18.1.length m26.2.1, .int .i64 r18.2.1] 51, cells b17 [.int .i64 p2.1, .int .i64 p2.2.1, .int .u64 p2.2.2.1, .int .u64 p2.2.2.2.1, .int .i64 p2.2.2.2.2.1, .int .i64 p2.2.2.2.2.2.1, .slice none 0 0, .int .i64 (wi64 z15), .int .i64 (wi64 z16)] 91] (Imp.addF' _ (nilF rp_u64_u64) (Imp.re _ [2, 1] [2, 4] (sc rfl (sc rfl sn)) (by decide) rfl rfl rfl)) rfl rfl ⟨((m26.1, m26.2.1, none, 0)), rfl, rfl, rfl⟩ (.cons (resv_cell (k := 0) rfl rfl ty51 nofun rfl rfl) (.cons (resv_cell (k := 1) rfl rfl ty91 nofun rfl rfl) .nil)))))
   ·refine Tr.cond_f rfl (bf_dec h18) ?_
    refine Tr.skip (qblock_n (qthen_n ?_))
    refine Tr.seq ?_
    refine Tr.regionD drawn (fun hok => ?_)
    refine TrAny.prom (i := 0) (d := 100) hok (OpVal.plain rfl rfl (v_load (k := 3) rfl rfl rfl ty51 nofun rfl rfl)) (by kernel_rfl) rfl (bl rfl) ?_
    clear hok
    intro hok
    refine TrAny.prom (i := 1) (d := 101) hok (OpVal.plain rfl rfl (v_load (k := 2) rfl rfl rfl ty91 nofun rfl rfl)) (by kernel_rfl) rfl (bl rfl) ?_
    clear hok
    intro hok
    refine TrAny.next (j := 2) (by kernel_rfl) hok rfl (by kernel_rfl) (op_store' (k := 1) (c' := [.slice A1 p1.1.length c1, .int .i64 p1.2]) rfl rfl rfl rfl rfl ty51 rfl (Nat.le_of_ble_eq_true rfl) (ones (oc rfl (oc rfl on))) rfl ?_)
    refine nxs hok (kp_all (ac (.inl (by kernel_rfl)) (ac (.inr (OpVal.plain rfl rfl (v_load (k := 2) rfl rfl rfl ty91 nofun rfl rfl))) an))) rfl ?_
    clear hok
    intro hok
    refine TrAny.next (j := 3) (by kernel_rfl) hok rfl (by kernel_rfl) (op_store' (k := 0) (c' := [.int .i64 p2.1, .int .i64 p2.2.1, .int .u64 p2.2.2.1, .int .u64 p2.2.2.2.1, .int .i64 p2.2.2.2.2.1, .int .i64 p2.2.2.2.2.2.1, .slice none 0 0, .int .i64 p2.2.2.2.2.2.2.1, .int .i64 p2.2.2.2.2.2.2.2]) rfl rfl rfl rfl rfl ty91 rfl (Nat.le_of_ble_eq_true rfl) (ones (oc rfl (oc rfl (oc rfl (oc rfl (oc rfl (oc rfl (oc rfl (oc rfl (oc rfl on)))))))))) rfl ?_)
    refine nxs hok (kp_aw (by kernel_rfl)) rfl ?_
    clear hok
    intro hok
    refine TrAny.done (by kernel_rfl) (by kernel_rfl) hok (by kernel_rfl) (qthen_n ?_)
    have hz := Option.some.inj H
    subst hz
    refine Tr.ret (ret_r ⟨[(4, .pointer (some ⟨b16, 0, none⟩)), (5, .pointer (some ⟨b17, 0, none⟩))], [cells b16 [.slice A1 p1.1.length c1, .int .i64 p1.2] 51, cells b17 [.int .i64 p2.1, .int .i64 p2.2.1, .int .u64 p2.2.2.1, .int .u64 p2.2.2.2.1, .int .i64 p2.2.2.2.2.1, .int .i64 p2.2.2.2.2.2.1, .slice none 0 0, .int .i64 p2.2.2.2.2.2.2.1, .int .i64 p2.2.2.2.2.2.2.2] 91], [slF (rInt .u8) A1 c1 p1.1, slF rp_u64_u64 none 0 (([] : List (Int × Int)))], []⟩ [.agg #[.slice A1 p1.1.length c1, .int .i64 p1.2], .agg #[.int .i64 p2.1, .int .i64 p2.2.1, .int .u64 p2.2.2.1, .int .u64 p2.2.2.2.1, .int .i64 p2.2.2.2.2.1, .int .i64 p2.2.2.2.2.2.1, .slice none 0 0, .int .i64 p2.2.2.2.2.2.2.1, .int .i64 p2.2.2.2.2.2.2.2]] [] [cells b16 [.slice A1 p1.1.length c1, .int .i64 p1.2] 51, cells b17 [.int .i64 p2.1, .int .i64 p2.2.1, .int .u64 p2.2.2.1, .int .u64 p2.2.2.2.1, .int .i64 p2.2.2.2.2.1, .int .i64 p2.2.2.2.2.2.1, .slice none 0 0, .int .i64 p2.2.2.2.2.2.2.1, .int .i64 p2.2.2.2.2.2.2.2] 91] (Imp.addF' _ (nilF rp_u64_u64) (Imp.re _ [1, 0] [0, 1] (sc rfl (sc rfl sn)) (by decide) rfl rfl rfl)) rfl rfl ⟨((A1, c1, none, 0)), rfl, rfl, rfl⟩ (.cons (resv_cell (k := 0) rfl rfl ty51 nofun rfl rfl) (.cons (resv_cell (k := 1) rfl rfl ty91 nofun rfl rfl) .nil)))
end Go.Proofs.Ytbeknohemgjfbaa.W
