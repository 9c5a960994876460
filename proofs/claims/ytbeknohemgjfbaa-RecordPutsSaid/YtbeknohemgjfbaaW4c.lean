/- The contracts of the walked functions: the printed walks. -/
import Derived.Test.YtbeknohemgjfbaaKc
import Derived.Test.YtbeknohemgjfbaaQc
import Derived.Test.YtbeknohemgjfbaaWlaw11ac
import Derived.Test.YtbeknohemgjfbaaWlaw11bc
import Derived.Test.YtbeknohemgjfbaaWrecordac
import Derived.Test.YtbeknohemgjfbaaWref09ac
import Derived.Test.YtbeknohemgjfbaaWref11ac
namespace Go.Proofs.Ytbeknohemgjfbaa.W
open Go Go.Proofs Go.Proofs.Ytbeknohemgjfbaa.L Go.Proofs.Ytbeknohemgjfbaa.Pu
set_option linter.unusedVariables false
set_option maxHeartbeats 4000000

theorem c_law11_RecordPuts (p1 : Int × Int × List (List (Int × Int))) (A1 : Option Addr) (c1 : Nat) (r : Bool) (H : law11_RecordPuts p1 = some r) :
    Ctr Try.prog 4 [.agg #[.int .i64 p1.1, .int .i64 p1.2.1, .slice A1 p1.2.2.length c1]] [] [slF (rSl rp_u64_u64) A1 c1 p1.2.2] (fun ret M' F' => ret = .bool r ∧ M' = [] ∧ F' = []) := by
  unfold law11_RecordPuts at H
  refine ctr_ofI (N := 28) Try.func4 rfl Try.ntmps4 rfl (Nat.le_of_ble_eq_true rfl) (fun γ0 w0 => ?_)
  refine Tr.seq ?_
  refine Tr.region ?_
  refine TrL.cons rfl (op_box' rfl (bl rfl) rfl rfl rfl (fun b3 => ?_))
  refine TrL.v (v_assign rfl rfl) rfl rfl (bl rfl) ?_
  refine TrL.nil (qthen_n ?_)
  refine Tr.seq ?_
  refine Tr.region ?_
  obtain ⟨r15, hr15, H⟩ := bnd H
  refine TrL.cons rfl (op_call0' (vs := []) (cap := []) [] rfl rfl (bl rfl) rfl rfl en20 (c_law11_awake r15 hr15) rfl (fun ret M' F' hR15 => ?_))
  obtain ⟨rfl, rfl, rfl⟩ := hR15
  refine TrL.v (v_assign rfl rfl) rfl rfl (bl rfl) ?_
  refine TrL.nil (qthen_n ?_)
  refine Tr.seq ?_
  refine Tr.seq ?_
  refine Tr.region ?_
  refine TrL.v (v_load (k := 0) rfl rfl rfl ty38 nofun rfl rfl) rfl rfl (bl rfl) ?_
  obtain ⟨r16, hr16, H⟩ := bnd H
  refine TrL.cons rfl (op_call0' (vs := [.agg #[.int .i64 p1.1, .int .i64 p1.2.1, .slice A1 p1.2.2.length c1]]) (cap := []) [0] rfl rfl (bl rfl) rfl rfl en21 (c_ref09_Few p1 A1 c1 r16 hr16) rfl (fun ret M' F' hR16 => ?_))
  obtain ⟨rfl, rfl, rfl⟩ := hR16
  refine TrL.v (v_notd rfl (bdec rfl)) rfl rfl (bl rfl) ?_
  refine TrL.nil (qthen_n ?_)
  rcases ifc H with ⟨h6, H⟩ | ⟨h6, H⟩
  · refine Tr.cond_t rfl (bt_dec h6) ?_
    refine Tr.seq ?_
    refine Tr.region ?_
    refine TrL.v (v_move rfl rfl) rfl rfl (bl rfl) ?_
    refine TrL.v (v_assign rfl rfl) rfl rfl (bl rfl) ?_
    refine TrL.nil (qthen_n ?_)
    have hz := Option.some.inj H
    subst hz
    refine Tr.ret (qthen_r (ret_r ⟨[(2, .bool r15)], [], [], []⟩ [.bool r15] [] [] (Imp.re _ [] [] (sc rfl sn) (by decide) rfl rfl rfl) rfl rfl ⟨rfl, rfl, rfl⟩ (.cons (resv_tmp rfl) .nil)))
  · refine Tr.cond_f rfl (bf_dec h6) ?_
    refine Tr.skip (qthen_n ?_)
    refine Tr.seq ?_
    refine Tr.region ?_
    refine TrL.v (v_fieldAddr' rfl fo38_0 rfl rfl) rfl rfl (bl rfl) ?_
    refine TrL.v (v_load (k := 0) rfl rfl rfl ty3 (fun _ => rfl) rfl rfl) rfl rfl (bl rfl) ?_
    refine TrL.v (v_fieldAddr' rfl fo38_1 rfl rfl) rfl rfl (bl rfl) ?_
    refine TrL.v (v_load (k := 0) rfl rfl rfl ty3 (fun _ => rfl) rfl rfl) rfl rfl (bl rfl) ?_
    refine TrL.v (v_fieldAddr' rfl fo38_2 rfl rfl) rfl rfl (bl rfl) ?_
    refine TrL.v (v_load (k := 0) rfl rfl rfl ty24 (fun _ => rfl) rfl rfl) rfl rfl (bl rfl) ?_
    refine TrL.v (v_build (vs := [.int .i64 p1.1, .int .i64 p1.2.1, .slice A1 p1.2.2.length c1]) (out := [.int .i64 p1.1, .int .i64 p1.2.1, .slice A1 p1.2.2.length c1]) rfl pl26 ze26 rfl rfl) rfl rfl (bl rfl) ?_
    refine TrL.cons rfl (op_alloc' rfl (bl rfl) rfl ze26 (fun b4 => ?_))
    refine TrL.cons rfl (op_store' (k := 0) (c' := [.int .i64 p1.1, .int .i64 p1.2.1, .slice A1 p1.2.2.length c1]) rfl rfl rfl rfl rfl ty26 rfl (Nat.le_of_ble_eq_true rfl) (ones (oc rfl (oc rfl (oc rfl on)))) rfl ?_)
    refine TrL.nil (qthen_n ?_)
    refine Tr.seq ?_
    refine Tr.re ⟨[(0, .agg #[.int .i64 p1.1, .int .i64 p1.2.1, .slice A1 p1.2.2.length c1]), (1, .pointer (some ⟨b3, 0, none⟩)), (3, .bool r15), (4, .pointer (some ⟨b4, 0, none⟩)), (5, .bool r15), (6, .agg #[.int .i64 p1.1, .int .i64 p1.2.1, .slice A1 p1.2.2.length c1]), (7, .bool r16), (8, .bool (decide (¬ (r16 = true)))), (10, .pointer (some ⟨b3, 0, none⟩)), (11, .int .i64 p1.1), (12, .pointer (some ⟨b3, 1, none⟩)), (13, .int .i64 p1.2.1), (14, .pointer (some ⟨b3, 2, none⟩)), (15, .slice A1 p1.2.2.length c1), (16, .agg #[.int .i64 p1.1, .int .i64 p1.2.1, .slice A1 p1.2.2.length c1])], [cells b4 [.int .i64 p1.1, .int .i64 p1.2.1, .slice A1 p1.2.2.length c1] 26, cells b3 [.int .i64 p1.1, .int .i64 p1.2.1, .slice A1 p1.2.2.length c1] 38], [slF (rSl rp_u64_u64) A1 c1 p1.2.2], []⟩ [0, 1] [0] (sc rfl (sc rfl (sc rfl (sc rfl (sc rfl (sc rfl (sc rfl (sc rfl (sc rfl (sc rfl (sc rfl (sc rfl (sc rfl (sc rfl (sc rfl sn))))))))))))))) (by decide) rfl rfl rfl ?_
    refine Tr.regionD drawn (fun hok => ?_)
    refine TrAny.prom (i := 0) (d := 17) hok (OpVal.plain rfl rfl (v_move rfl rfl)) (by kernel_rfl) rfl (bl rfl) ?_
    clear hok
    intro hok
    refine TrAny.prom (i := 1) (d := 18) hok (OpVal.plain rfl rfl (v_move rfl rfl)) (by kernel_rfl) rfl (bl rfl) ?_
    clear hok
    intro hok
    rcases ifc H with ⟨h10, H⟩ | ⟨h10, H⟩
    · refine TrAny.prom (i := 2) (d := 19) hok (OpVal.yes rfl rfl rfl rfl h10 (v_load (k := 0) rfl rfl rfl ty26 nofun rfl rfl)) (by kernel_rfl) rfl (bl rfl) ?_
      clear hok
      intro hok
      refine TrAny.prom (i := 6) (d := 23) hok (OpVal.yes rfl rfl rfl rfl h10 (v_load (k := 0) rfl rfl rfl ty26 nofun rfl rfl)) (by kernel_rfl) rfl (bl rfl) ?_
      clear hok
      intro hok
      obtain ⟨r26, hr26, H⟩ := bnd H
      refine TrAny.nextY (j := 3) (by kernel_rfl) hok rfl (by kernel_rfl) rfl rfl rfl h10 (op_call0' (vs := [.agg #[.int .i64 p1.1, .int .i64 p1.2.1, .slice A1 p1.2.2.length c1]]) (cap := []) [0] rfl rfl (bl rfl) rfl rfl en23 (c_law11_made p1 A1 c1 r26 hr26) rfl (fun ret M' F' hR26 => ?_))
      obtain ⟨rfl, rfl, rfl⟩ := hR26
      refine nxp hok (kp_imp (kp_c0 rfl)) rfl (by kernel_rfl) ?_
      clear hok
      intro hok
      obtain ⟨r27, hr27, H⟩ := bnd H
      refine TrAny.nextY (j := 4) (by kernel_rfl) hok rfl (by kernel_rfl) rfl rfl rfl h10 (op_call0' (vs := [.agg #[.int .i64 p1.1, .int .i64 p1.2.1, .slice A1 p1.2.2.length c1]]) (cap := []) [0] rfl rfl (bl rfl) rfl rfl en22 (c_record_Put p1 A1 c1 r27 hr27) rfl (fun ret M' F' hR27 => ?_))
      obtain ⟨m27, rfl, rfl, rfl⟩ := hR27
      refine nxp hok (kp_imp (kp_c0 rfl)) rfl (by kernel_rfl) ?_
      clear hok
      intro hok
      refine TrAny.prom (i := 5) (d := 22) hok (OpVal.yes rfl rfl rfl rfl h10 (v_bstr (k := 2) rfl Try.underlying40 Try.underlying5 Try.underlying9 rfl rfl rfl)) (by kernel_rfl) rfl (bl rfl) ?_
      clear hok
      intro hok
      obtain ⟨r28, hr28, H⟩ := bnd H
      refine TrAny.nextY (j := 7) (by kernel_rfl) hok rfl (by kernel_rfl) rfl rfl rfl h10 (op_call0' (vs := [.agg #[.int .i64 p1.1, .int .i64 p1.2.1, .slice A1 p1.2.2.length c1]]) (cap := []) [0] rfl rfl (bl rfl) rfl rfl en24 (c_ref11_Put p1 A1 c1 r28 hr28) rfl (fun ret M' F' hR28 => ?_))
      obtain ⟨m28, rfl, rfl, rfl⟩ := hR28
      refine nxp hok (kp_imp (kp_c0 rfl)) rfl (by kernel_rfl) ?_
      clear hok
      intro hok
      refine TrAny.prom (i := 8) (d := 25) hok (OpVal.yes rfl rfl rfl rfl h10 (v_bstr (k := 3) rfl Try.underlying40 Try.underlying5 Try.underlying9 rfl rfl rfl)) (by kernel_rfl) rfl (bl rfl) ?_
      clear hok
      intro hok
      refine TrAny.prom (i := 9) (d := 26) hok (OpVal.yes rfl rfl rfl rfl h10 (v_streq rfl rfl rfl)) (by kernel_rfl) rfl (bl rfl) ?_
      clear hok
      intro hok
      refine TrAny.prom (i := 10) (d := 27) hok (OpVal.plain rfl rfl (v_pick_t rfl rfl h10 rfl)) (by kernel_rfl) rfl (bl rfl) ?_
      clear hok
      intro hok
      refine TrAny.prom (i := 11) (d := 2) hok (OpVal.plain rfl rfl (v_assign rfl rfl)) (by kernel_rfl) rfl (bl rfl) ?_
      clear hok
      intro hok
      refine TrAny.done (by kernel_rfl) (by kernel_rfl) hok (by kernel_rfl) (qthen_n ?_)
      have hz := Option.some.inj H
      subst hz
      refine Tr.ret (ret_r ⟨[(2, .bool (decide ((bstr r27) = (bstr r28))))], [], [], []⟩ [.bool (decide ((bstr r27) = (bstr r28)))] [] [] (Imp.re _ [] [] (sc rfl sn) (by decide) rfl rfl rfl) rfl rfl ⟨rfl, rfl, rfl⟩ (.cons (resv_tmp rfl) .nil))
    · refine TrAny.prom (i := 2) (d := 19) hok (OpVal.no rfl (fun c h => by cases h) rfl rfl rfl (gn_t (bf_b h10))) (by kernel_rfl) rfl (bl rfl) ?_
      clear hok
      intro hok
      refine TrAny.prom (i := 3) (d := 20) hok (OpVal.no rfl (fun c h => by cases h) rfl rfl rfl (gn_t (bf_b h10))) (by kernel_rfl) rfl (bl rfl) ?_
      clear hok
      intro hok
      refine TrAny.prom (i := 4) (d := 21) hok (OpVal.no rfl (fun c h => by cases h) rfl rfl rfl (gn_t (bf_b h10))) (by kernel_rfl) rfl (bl rfl) ?_
      clear hok
      intro hok
      refine TrAny.prom (i := 5) (d := 22) hok (OpVal.no rfl (fun c h => by cases h) rfl rfl rfl (gn_t (bf_b h10))) (by kernel_rfl) rfl (bl rfl) ?_
      clear hok
      intro hok
      refine TrAny.prom (i := 6) (d := 23) hok (OpVal.no rfl (fun c h => by cases h) rfl rfl rfl (gn_t (bf_b h10))) (by kernel_rfl) rfl (bl rfl) ?_
      clear hok
      intro hok
      refine TrAny.prom (i := 7) (d := 24) hok (OpVal.no rfl (fun c h => by cases h) rfl rfl rfl (gn_t (bf_b h10))) (by kernel_rfl) rfl (bl rfl) ?_
      clear hok
      intro hok
      refine TrAny.prom (i := 8) (d := 25) hok (OpVal.no rfl (fun c h => by cases h) rfl rfl rfl (gn_t (bf_b h10))) (by kernel_rfl) rfl (bl rfl) ?_
      clear hok
      intro hok
      refine TrAny.prom (i := 9) (d := 26) hok (OpVal.no rfl (fun c h => by cases h) rfl rfl rfl (gn_t (bf_b h10))) (by kernel_rfl) rfl (bl rfl) ?_
      clear hok
      intro hok
      refine TrAny.prom (i := 10) (d := 27) hok (OpVal.plain rfl rfl (v_pick_f rfl rfl (bf_b h10) rfl)) (by kernel_rfl) rfl (bl rfl) ?_
      clear hok
      intro hok
      refine TrAny.prom (i := 11) (d := 2) hok (OpVal.plain rfl rfl (v_assign rfl rfl)) (by kernel_rfl) rfl (bl rfl) ?_
      clear hok
      intro hok
      refine TrAny.done (by kernel_rfl) (by kernel_rfl) hok (by kernel_rfl) (qthen_n ?_)
      have hz := Option.some.inj H
      subst hz
      refine Tr.ret (ret_r ⟨[(2, .bool false)], [], [], []⟩ [.bool false] [] [] (Imp.re _ [] [] (sc rfl sn) (by decide) rfl rfl rfl) rfl rfl ⟨rfl, rfl, rfl⟩ (.cons (resv_tmp rfl) .nil))
end Go.Proofs.Ytbeknohemgjfbaa.W
