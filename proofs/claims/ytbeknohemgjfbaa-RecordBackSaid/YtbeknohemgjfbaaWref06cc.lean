/- The contracts of the walked functions: the printed walks. -/
import Derived.Test.YtbeknohemgjfbaaKc
import Derived.Test.YtbeknohemgjfbaaQc
import Derived.Test.YtbeknohemgjfbaaWref05ac
namespace Go.Proofs.Ytbeknohemgjfbaa.W
open Go Go.Proofs Go.Proofs.Ytbeknohemgjfbaa.L Go.Proofs.Ytbeknohemgjfbaa.Pu
set_option linter.unusedVariables false
set_option maxHeartbeats 4000000

theorem c_ref06_Same (p1 : Int × Int × List (List (Int × Int))) (p2 : Int × Int × List (List (Int × Int))) (A1 : Option Addr) (c1 : Nat) (A2 : Option Addr) (c2 : Nat) (r : Bool) (H : ref06_Same p1 p2 = some r) :
    Ctr Try.prog 76 [.agg #[.int .i64 p1.1, .int .i64 p1.2.1, .slice A1 p1.2.2.length c1], .agg #[.int .i64 p2.1, .int .i64 p2.2.1, .slice A2 p2.2.2.length c2]] [] [slF (rSl rp_u64_u64) A1 c1 p1.2.2, slF (rSl rp_u64_u64) A2 c2 p2.2.2] (fun ret M' F' => ret = .bool r ∧ M' = [] ∧ F' = []) := by
  unfold ref06_Same at H
  refine ctr_ofI (N := 46) Try.func76 rfl Try.ntmps76 rfl (Nat.le_of_ble_eq_true rfl) (fun γ0 w0 => ?_)
  refine Tr.seq ?_
  refine Tr.region ?_
  refine TrL.cons rfl (op_box' rfl (bl rfl) rfl rfl rfl (fun b3 => ?_))
  refine TrL.cons rfl (op_box' rfl (bl rfl) rfl rfl rfl (fun b4 => ?_))
  refine TrL.v (v_assign rfl rfl) rfl rfl (bl rfl) ?_
  refine TrL.nil (qthen_n ?_)
  refine Tr.seq ?_
  refine Tr.seq ?_
  refine Tr.region ?_
  refine TrL.v (v_fieldAddr' rfl fo26_0 rfl rfl) rfl rfl (bl rfl) ?_
  refine TrL.v (v_load (k := 1) rfl rfl rfl ty3 (fun _ => rfl) rfl rfl) rfl rfl (bl rfl) ?_
  refine TrL.v (v_fieldAddr' rfl fo26_0 rfl rfl) rfl rfl (bl rfl) ?_
  refine TrL.v (v_load (k := 0) rfl rfl rfl ty3 (fun _ => rfl) rfl rfl) rfl rfl (bl rfl) ?_
  refine TrL.v (v_arith rfl rfl rfl ar_neq) rfl rfl (bl rfl) ?_
  refine TrL.v (v_move rfl rfl) rfl rfl (bl rfl) ?_
  rcases ifc H with ⟨h14, H⟩ | ⟨h14, H⟩
  · refine TrL.cons_no rfl rfl rfl (gn_f (bt_dec h14)) rfl (bl rfl) ?_
    refine TrL.cons_no rfl rfl rfl (gn_f (bt_dec h14)) rfl (bl rfl) ?_
    refine TrL.cons_no rfl rfl rfl (gn_f (bt_dec h14)) rfl (bl rfl) ?_
    refine TrL.cons_no rfl rfl rfl (gn_f (bt_dec h14)) rfl (bl rfl) ?_
    refine TrL.cons_no rfl rfl rfl (gn_f (bt_dec h14)) rfl (bl rfl) ?_
    refine TrL.v (v_pick_t rfl rfl (bt_dec h14) rfl) rfl rfl (bl rfl) ?_
    refine TrL.v (v_move rfl rfl) rfl rfl (bl rfl) ?_
    refine TrL.cons_no rfl rfl rfl (gn_f rfl) rfl (bl rfl) ?_
    refine TrL.cons_no rfl rfl rfl (gn_f rfl) rfl (bl rfl) ?_
    refine TrL.cons_no rfl rfl rfl (gn_f rfl) rfl (bl rfl) ?_
    refine TrL.cons_no rfl rfl rfl (gn_f rfl) rfl (bl rfl) ?_
    refine TrL.cons_no rfl rfl rfl (gn_f rfl) rfl (bl rfl) ?_
    refine TrL.cons_no rfl rfl rfl (gn_f rfl) rfl (bl rfl) ?_
    refine TrL.cons_no rfl rfl rfl (gn_f rfl) rfl (bl rfl) ?_
    refine TrL.v (v_pick_t rfl rfl rfl rfl) rfl rfl (bl rfl) ?_
    refine TrL.nil (qthen_n ?_)
    refine Tr.cond_t rfl rfl ?_
    refine Tr.seq ?_
    refine Tr.region ?_
    refine TrL.v (v_assign rfl rfl) rfl rfl (bl rfl) ?_
    refine TrL.nil (qthen_n ?_)
    have hz := Option.some.inj H
    subst hz
    refine Tr.ret (qthen_r (ret_r ⟨[(4, .bool false)], [], [], []⟩ [.bool false] [] [] (Imp.re _ [] [] (sc rfl sn) (by decide) rfl rfl rfl) rfl rfl ⟨rfl, rfl, rfl⟩ (.cons (resv_tmp rfl) .nil)))
  · refine TrL.cons_yes rfl rfl rfl (bf_dec h14) (OpTr.v (v_fieldAddr' rfl fo26_1 rfl rfl) rfl (bl rfl) ?_)
    refine TrL.cons_yes rfl rfl rfl (bf_dec h14) (OpTr.v (v_load (k := 1) rfl rfl rfl ty3 (fun _ => rfl) rfl rfl) rfl (bl rfl) ?_)
    refine TrL.cons_yes rfl rfl rfl (bf_dec h14) (OpTr.v (v_fieldAddr' rfl fo26_1 rfl rfl) rfl (bl rfl) ?_)
    refine TrL.cons_yes rfl rfl rfl (bf_dec h14) (OpTr.v (v_load (k := 0) rfl rfl rfl ty3 (fun _ => rfl) rfl rfl) rfl (bl rfl) ?_)
    refine TrL.cons_yes rfl rfl rfl (bf_dec h14) (OpTr.v (v_arith rfl rfl rfl ar_neq) rfl (bl rfl) ?_)
    refine TrL.v (v_pick_f rfl rfl (bf_dec h14) rfl) rfl rfl (bl rfl) ?_
    refine TrL.v (v_move rfl rfl) rfl rfl (bl rfl) ?_
    rcases ifc H with ⟨h15, H⟩ | ⟨h15, H⟩
    · refine TrL.cons_no rfl rfl rfl (gn_f (bt_dec h15)) rfl (bl rfl) ?_
      refine TrL.cons_no rfl rfl rfl (gn_f (bt_dec h15)) rfl (bl rfl) ?_
      refine TrL.cons_no rfl rfl rfl (gn_f (bt_dec h15)) rfl (bl rfl) ?_
      refine TrL.cons_no rfl rfl rfl (gn_f (bt_dec h15)) rfl (bl rfl) ?_
      refine TrL.cons_no rfl rfl rfl (gn_f (bt_dec h15)) rfl (bl rfl) ?_
      refine TrL.cons_no rfl rfl rfl (gn_f (bt_dec h15)) rfl (bl rfl) ?_
      refine TrL.cons_no rfl rfl rfl (gn_f (bt_dec h15)) rfl (bl rfl) ?_
      refine TrL.v (v_pick_t rfl rfl (bt_dec h15) rfl) rfl rfl (bl rfl) ?_
      refine TrL.nil (qthen_n ?_)
      refine Tr.cond_t rfl rfl ?_
      refine Tr.seq ?_
      refine Tr.region ?_
      refine TrL.v (v_assign rfl rfl) rfl rfl (bl rfl) ?_
      refine TrL.nil (qthen_n ?_)
      have hz := Option.some.inj H
      subst hz
      refine Tr.ret (qthen_r (ret_r ⟨[(4, .bool false)], [], [], []⟩ [.bool false] [] [] (Imp.re _ [] [] (sc rfl sn) (by decide) rfl rfl rfl) rfl rfl ⟨rfl, rfl, rfl⟩ (.cons (resv_tmp rfl) .nil)))
    · refine TrL.cons_yes rfl rfl rfl (bf_dec h15) (OpTr.v (v_fieldAddr' rfl fo26_2 rfl rfl) rfl (bl rfl) ?_)
      refine TrL.cons_yes rfl rfl rfl (bf_dec h15) (OpTr.v (v_load (k := 1) rfl rfl rfl ty24 (fun _ => rfl) rfl rfl) rfl (bl rfl) ?_)
      refine TrL.cons_yes rfl rfl rfl (bf_dec h15) (OpTr.v (v_len rfl sl24 rfl) rfl (bl rfl) ?_)
      refine TrL.cons_yes rfl rfl rfl (bf_dec h15) (OpTr.v (v_fieldAddr' rfl fo26_2 rfl rfl) rfl (bl rfl) ?_)
      refine TrL.cons_yes rfl rfl rfl (bf_dec h15) (OpTr.v (v_load (k := 0) rfl rfl rfl ty24 (fun _ => rfl) rfl rfl) rfl (bl rfl) ?_)
      refine TrL.cons_yes rfl rfl rfl (bf_dec h15) (OpTr.v (v_len rfl sl24 rfl) rfl (bl rfl) ?_)
      refine TrL.cons_yes rfl rfl rfl (bf_dec h15) (OpTr.v (v_arith rfl rfl rfl ar_neq) rfl (bl rfl) ?_)
      refine TrL.v (v_pick_f rfl rfl (bf_dec h15) rfl) rfl rfl (bl rfl) ?_
      refine TrL.nil (qthen_n ?_)
      rcases ifc H with ⟨h16, H⟩ | ⟨h16, H⟩
      · refine Tr.cond_t rfl (bt_dec h16) ?_
        refine Tr.seq ?_
        refine Tr.region ?_
        refine TrL.v (v_assign rfl rfl) rfl rfl (bl rfl) ?_
        refine TrL.nil (qthen_n ?_)
        have hz := Option.some.inj H
        subst hz
        refine Tr.ret (qthen_r (ret_r ⟨[(4, .bool false)], [], [], []⟩ [.bool false] [] [] (Imp.re _ [] [] (sc rfl sn) (by decide) rfl rfl rfl) rfl rfl ⟨rfl, rfl, rfl⟩ (.cons (resv_tmp rfl) .nil)))
      · refine Tr.cond_f rfl (bf_dec h16) ?_
        refine Tr.skip (qthen_n ?_)
        refine Tr.seq ?_
        refine Tr.seq ?_
        refine Tr.region ?_
        refine TrL.v (v_assign rfl rfl) rfl rfl (bl rfl) ?_
        refine TrL.nil (qthen_n ?_)
        obtain ⟨x2, hx3, H⟩ := bnd H
        refine Tr.cutE (D := Unit) (M := Unit) .ret (fun d3 => x2 = .inl d3) (fun d3 m19 => ⟨[(4, .bool false)], [], [], []⟩) ?_ (fun d3 m19 hd3 => ?_)
        · refine Tr.cutE (D := Unit) (M := Unit) .normal (fun d4 => x2 = .inr d4) (fun d4 m20 => ⟨[], [], [], []⟩) ?_ (fun d4 m20 hd4 => ?_)
          · refine Tr.block (Tr.loopI (ι := Unit) (step := ref06_Same_s0 p1 p2) (fun s5 m15 => ⟨[(2, .pointer (some ⟨b3, 0, none⟩)), (3, .pointer (some ⟨b4, 0, none⟩)), (5, .int .i64 s5)], [cells b3 [.int .i64 p1.1, .int .i64 p1.2.1, .slice A1 p1.2.2.length c1] 26, cells b4 [.int .i64 p2.1, .int .i64 p2.2.1, .slice A2 p2.2.2.length c2] 26], [slF (rSl rp_u64_u64) A1 c1 p1.2.2, slF (rSl rp_u64_u64) A2 c2 p2.2.2], []⟩) (()) hx3 (Imp.re _ [1, 0] [0, 1] (sc rfl (sc rfl (sc rfl sn))) (by decide) rfl rfl rfl) (fun s5 m15 y2 hy2 hx4 => ?_))
            unfold ref06_Same_s0 at hy2
            refine Tr.seq ?_
            refine Tr.seq ?_
            refine Tr.region ?_
            refine TrL.v (v_move rfl rfl) rfl rfl (bl rfl) ?_
            refine TrL.v (v_fieldAddr' rfl fo26_2 rfl rfl) rfl rfl (bl rfl) ?_
            refine TrL.v (v_load (k := 0) rfl rfl rfl ty24 (fun _ => rfl) rfl rfl) rfl rfl (bl rfl) ?_
            refine TrL.v (v_len rfl sl24 rfl) rfl rfl (bl rfl) ?_
            refine TrL.v (v_arith rfl rfl rfl ar_lss) rfl rfl (bl rfl) ?_
            refine TrL.nil (qthen_n ?_)
            rcases ifc hy2 with ⟨h21, hy2⟩ | ⟨h21, hy2⟩
            · refine Tr.cond_t rfl (bt_dec h21) ?_
              refine Tr.skip (qthen_n ?_)
              refine Tr.seq ?_
              refine Tr.block ?_
              refine Tr.seq ?_
              refine Tr.regionD drawn (fun hok => ?_)
              refine TrAny.prom (i := 0) (d := 34) hok (OpVal.plain rfl rfl (v_fieldAddr' rfl fo26_2 rfl rfl)) (by kernel_rfl) rfl (bl rfl) ?_
              clear hok
              intro hok
              refine TrAny.prom (i := 1) (d := 35) hok (OpVal.plain rfl rfl (v_load (k := 0) rfl rfl rfl ty24 (fun _ => rfl) rfl rfl)) (by kernel_rfl) rfl (bl rfl) ?_
              clear hok
              intro hok
              refine TrAny.prom (i := 2) (d := 36) hok (OpVal.plain rfl rfl (v_move rfl rfl)) (by kernel_rfl) rfl (bl rfl) ?_
              clear hok
              intro hok
              obtain ⟨z23, hz23, hy2⟩ := bnd hy2
              refine TrAny.prom (i := 3) (d := 37) hok (OpVal.plain rfl rfl (v_indexAddr (k := 0) rfl sl24 ty31 rfl rfl rfl rfl hz23)) (by kernel_rfl) rfl (bl rfl) ?_
              clear hok
              intro hok
              refine TrAny.openS' (k := 0) rfl hz23 hok (fun A25 c25 hok => ?_)
              refine TrAny.prom (i := 4) (d := 38) hok (OpVal.plain rfl rfl (v_loadF (k := 3) rfl ty31 rfl rfl)) (by kernel_rfl) rfl (bl rfl) ?_
              clear hok
              intro hok
              refine TrAny.prom (i := 5) (d := 39) hok (OpVal.plain rfl rfl (v_fieldAddr' rfl fo26_2 rfl rfl)) (by kernel_rfl) rfl (bl rfl) ?_
              clear hok
              intro hok
              refine TrAny.prom (i := 6) (d := 40) hok (OpVal.plain rfl rfl (v_load (k := 1) rfl rfl rfl ty24 (fun _ => rfl) rfl rfl)) (by kernel_rfl) rfl (bl rfl) ?_
              clear hok
              intro hok
              refine TrAny.prom (i := 7) (d := 41) hok (OpVal.plain rfl rfl (v_move rfl rfl)) (by kernel_rfl) rfl (bl rfl) ?_
              clear hok
              intro hok
              obtain ⟨z24, hz24, hy2⟩ := bnd hy2
              refine TrAny.prom (i := 8) (d := 42) hok (OpVal.plain rfl rfl (v_indexAddr (k := 1) rfl sl24 ty31 rfl rfl rfl rfl hz24)) (by kernel_rfl) rfl (bl rfl) ?_
              clear hok
              intro hok
              refine TrAny.openS' (k := 1) rfl hz24 hok (fun A26 c26 hok => ?_)
              refine TrAny.prom (i := 9) (d := 43) hok (OpVal.plain rfl rfl (v_loadF (k := 5) rfl ty31 rfl rfl)) (by kernel_rfl) rfl (bl rfl) ?_
              clear hok
              intro hok
              obtain ⟨r12, hr12, hy2⟩ := bnd hy2
              refine TrAny.next (j := 10) (by kernel_rfl) hok rfl (by kernel_rfl) (op_call0' (vs := [.slice A25 z23.length c25, .slice A26 z24.length c26]) (cap := []) [2, 4] rfl rfl (bl rfl) rfl rfl en134 (c_ref05_Same z23 z24 A25 c25 A26 c26 r12 hr12) rfl (fun ret M' F' hR12 => ?_))
              obtain ⟨rfl, rfl, rfl⟩ := hR12
              refine nxp hok (kp_imp (kp_c0 rfl)) rfl (by kernel_rfl) ?_
              clear hok
              intro hok
              refine TrAny.prom (i := 11) (d := 45) hok (OpVal.plain rfl rfl (v_notd rfl (bdec rfl))) (by kernel_rfl) rfl (bl rfl) ?_
              clear hok
              intro hok
              refine TrAny.done (by kernel_rfl) (by kernel_rfl) hok (by kernel_rfl) (qthen_n ?_)
              rcases ifc hy2 with ⟨h22, hy2⟩ | ⟨h22, hy2⟩
              · refine Tr.cond_t rfl (bt_dec h22) ?_
                refine Tr.seq ?_
                refine Tr.region ?_
                refine TrL.v (v_assign rfl rfl) rfl rfl (bl rfl) ?_
                refine TrL.nil (qthen_n ?_)
                have hz := Option.some.inj hy2
                subst hz
                refine Tr.ret (qblock_r (qthen_r (qloop_r (qblock_r (qcut_miss (by simp) (qcut_hit (()) (()) (hx4 _ rfl).symm (Imp.re _ [] [] (sc rfl sn) (by decide) rfl rfl rfl)))))))
              · refine Tr.cond_f rfl (bf_dec h22) ?_
                refine Tr.skip (qblock_n (qthen_n ?_))
                refine Tr.region ?_
                refine TrL.v (v_move rfl rfl) rfl rfl (bl rfl) ?_
                refine TrL.v (v_arith rfl rfl rfl ar_add_i64) rfl rfl (bl rfl) ?_
                refine TrL.v (v_assign rfl rfl) rfl rfl (bl rfl) ?_
                have hz := Option.some.inj hy2
                subst hz
                refine TrL.nil (qloop_n (()) (Imp.re _ [0, 1] [0, 1] (sc rfl (sc rfl (sc rfl sn))) (by decide) rfl rfl rfl))
            · refine Tr.cond_f rfl (bf_dec h21) ?_
              have hz := Option.some.inj hy2
              subst hz
              refine Tr.exit (qthen_x (qloop_x (qblock_hit (qcut_hit (()) (()) (hx4 _ rfl).symm (Imp.re _ [] [] sn (by decide) rfl rfl rfl)))))
          · subst hd4
            replace H := sumr H
            refine (qcut_miss (by simp) (qthen_n ?_))
            refine Tr.seq ?_
            refine Tr.region ?_
            refine TrL.v (v_assign rfl rfl) rfl rfl (bl rfl) ?_
            refine TrL.nil (qthen_n ?_)
            have hz := Option.some.inj H
            subst hz
            refine Tr.ret (ret_r ⟨[(4, .bool true)], [], [], []⟩ [.bool true] [] [] (Imp.re _ [] [] (sc rfl sn) (by decide) rfl rfl rfl) rfl rfl ⟨rfl, rfl, rfl⟩ (.cons (resv_tmp rfl) .nil))
        · subst hd3
          replace H := suml H
          have hz := Option.some.inj H
          subst hz
          refine (qthen_r (ret_r ⟨[(4, .bool false)], [], [], []⟩ [.bool false] [] [] (Imp.re _ [] [] (sc rfl sn) (by decide) rfl rfl rfl) rfl rfl ⟨rfl, rfl, rfl⟩ (.cons (resv_tmp rfl) .nil)))
end Go.Proofs.Ytbeknohemgjfbaa.W
