/- The contracts of the walked functions: the printed walks. -/
import Derived.Test.YthgeodagikmpjaaKb
import Derived.Test.YthgeodagikmpjaaQb
import Derived.Test.YthgeodagikmpjaaWref12ab
namespace Go.Proofs.Ythgeodagikmpjaa.W
open Go Go.Proofs Go.Proofs.Ythgeodagikmpjaa.L Go.Proofs.Ythgeodagikmpjaa.Pu
set_option linter.unusedVariables false
set_option maxHeartbeats 4000000

theorem c_ref12_May (p1 : Int × Int × Int × Int × List (Int × Int × Int)) (A1 : Option Addr) (c1 : Nat) (r : Int) (H : ref12_May p1 = some r) :
    Ctr Try.prog 57 [.agg #[.int .u64 p1.1, .int .i64 p1.2.1, .int .u64 p1.2.2.1, .int .u64 p1.2.2.2.1, .slice A1 p1.2.2.2.2.length c1]] [] [slF rp_u64_u64_u64 A1 c1 p1.2.2.2.2] (fun ret M' F' => ret = .int .i64 r ∧ M' = [] ∧ F' = []) := by
  unfold ref12_May at H
  refine ctr_ofI (N := 84) Try.func57 rfl Try.ntmps57 rfl (Nat.le_of_ble_eq_true rfl) (fun γ0 w0 => ?_)
  refine Tr.seq ?_
  refine Tr.region ?_
  refine TrL.cons rfl (op_box' rfl (bl rfl) rfl rfl rfl (fun b5 => ?_))
  refine TrL.v (v_assign rfl rfl) rfl rfl (bl rfl) ?_
  refine TrL.nil (qthen_n ?_)
  refine Tr.seq ?_
  refine Tr.seq ?_
  refine Tr.region ?_
  refine TrL.v (v_fieldAddr' rfl fo58_0 rfl rfl) rfl rfl (bl rfl) ?_
  refine TrL.v (v_load (k := 0) rfl rfl rfl ty22 (fun _ => rfl) rfl rfl) rfl rfl (bl rfl) ?_
  refine TrL.v (v_fieldAddr' rfl fo58_1 rfl rfl) rfl rfl (bl rfl) ?_
  refine TrL.v (v_load (k := 0) rfl rfl rfl ty3 (fun _ => rfl) rfl rfl) rfl rfl (bl rfl) ?_
  obtain ⟨r2, hr2, H⟩ := bnd H
  refine TrL.cons rfl (op_call0' (vs := [.int .u64 p1.1, .int .i64 p1.2.1]) (cap := []) [] rfl rfl (bl rfl) rfl rfl en56 (c_ref12_Conf p1.1 p1.2.1 r2 hr2) rfl (fun ret M' F' hR2 => ?_))
  obtain ⟨rfl, rfl, rfl⟩ := hR2
  refine TrL.v (v_notd rfl (bdec rfl)) rfl rfl (bl rfl) ?_
  refine TrL.nil (qthen_n ?_)
  rcases ifc H with ⟨h58, H⟩ | ⟨h58, H⟩
  · refine Tr.cond_t rfl (bt_dec h58) ?_
    refine Tr.seq ?_
    refine Tr.region ?_
    refine TrL.v (v_assign rfl rfl) rfl rfl (bl rfl) ?_
    refine TrL.nil (qthen_n ?_)
    have hz := Option.some.inj H
    subst hz
    refine Tr.ret (qthen_r (ret_r ⟨[(2, .int .i64 9)], [], [], []⟩ [.int .i64 9] [] [] (Imp.re _ [] [] (sc rfl sn) (by decide) rfl rfl rfl) rfl rfl ⟨rfl, rfl, rfl⟩ (.cons (resv_tmp rfl) .nil)))
  · refine Tr.cond_f rfl (bf_dec h58) ?_
    refine Tr.skip (qthen_n ?_)
    refine Tr.seq ?_
    refine Tr.seq ?_
    refine Tr.region ?_
    refine TrL.v (v_fieldAddr' rfl fo58_4 rfl rfl) rfl rfl (bl rfl) ?_
    refine TrL.v (v_load (k := 0) rfl rfl rfl ty46 (fun _ => rfl) rfl rfl) rfl rfl (bl rfl) ?_
    refine TrL.v (v_len rfl sl46 rfl) rfl rfl (bl rfl) ?_
    refine TrL.v (v_fieldAddr' rfl fo58_1 rfl rfl) rfl rfl (bl rfl) ?_
    refine TrL.v (v_load (k := 0) rfl rfl rfl ty3 (fun _ => rfl) rfl rfl) rfl rfl (bl rfl) ?_
    refine TrL.v (v_arith rfl rfl rfl ar_gtr) rfl rfl (bl rfl) ?_
    refine TrL.v (v_move rfl rfl) rfl rfl (bl rfl) ?_
    rcases ifc H with ⟨h62, H⟩ | ⟨h62, H⟩
    · refine TrL.cons_no rfl rfl rfl (gn_f (bt_dec h62)) rfl (bl rfl) ?_
      refine TrL.cons_no rfl rfl rfl (gn_f (bt_dec h62)) rfl (bl rfl) ?_
      refine TrL.cons_no rfl rfl rfl (gn_f (bt_dec h62)) rfl (bl rfl) ?_
      refine TrL.cons_no rfl rfl rfl (gn_f (bt_dec h62)) rfl (bl rfl) ?_
      refine TrL.cons_no rfl rfl rfl (gn_f (bt_dec h62)) rfl (bl rfl) ?_
      refine TrL.v (v_pick_t rfl rfl (bt_dec h62) rfl) rfl rfl (bl rfl) ?_
      refine TrL.v (v_move rfl rfl) rfl rfl (bl rfl) ?_
      refine TrL.cons_no rfl rfl rfl (gn_f rfl) rfl (bl rfl) ?_
      refine TrL.cons_no rfl rfl rfl (gn_f rfl) rfl (bl rfl) ?_
      refine TrL.cons_no rfl rfl rfl (gn_f rfl) rfl (bl rfl) ?_
      refine TrL.v (v_pick_t rfl rfl rfl rfl) rfl rfl (bl rfl) ?_
      refine TrL.v (v_move rfl rfl) rfl rfl (bl rfl) ?_
      refine TrL.cons_no rfl rfl rfl (gn_f rfl) rfl (bl rfl) ?_
      refine TrL.cons_no rfl rfl rfl (gn_f rfl) rfl (bl rfl) ?_
      refine TrL.cons_no rfl rfl rfl (gn_f rfl) rfl (bl rfl) ?_
      refine TrL.cons_no rfl rfl rfl (gn_f rfl) rfl (bl rfl) ?_
      refine TrL.cons_no rfl rfl rfl (gn_f rfl) rfl (bl rfl) ?_
      refine TrL.cons_no rfl rfl rfl (gn_f rfl) rfl (bl rfl) ?_
      refine TrL.cons_no rfl rfl rfl (gn_f rfl) rfl (bl rfl) ?_
      refine TrL.cons_no rfl rfl rfl (gn_f rfl) rfl (bl rfl) ?_
      refine TrL.v (v_pick_t rfl rfl rfl rfl) rfl rfl (bl rfl) ?_
      refine TrL.nil (qthen_n ?_)
      refine Tr.cond_t rfl rfl ?_
      refine Tr.seq ?_
      refine Tr.region ?_
      refine TrL.v (v_assign rfl rfl) rfl rfl (bl rfl) ?_
      refine TrL.nil (qthen_n ?_)
      have hz := Option.some.inj H
      subst hz
      refine Tr.ret (qthen_r (ret_r ⟨[(2, .int .i64 2)], [], [], []⟩ [.int .i64 2] [] [] (Imp.re _ [] [] (sc rfl sn) (by decide) rfl rfl rfl) rfl rfl ⟨rfl, rfl, rfl⟩ (.cons (resv_tmp rfl) .nil)))
    · refine TrL.cons_yes rfl rfl rfl (bf_dec h62) (OpTr.v (v_fieldAddr' rfl fo58_3 rfl rfl) rfl (bl rfl) ?_)
      refine TrL.cons_yes rfl rfl rfl (bf_dec h62) (OpTr.v (v_load (k := 0) rfl rfl rfl ty22 (fun _ => rfl) rfl rfl) rfl (bl rfl) ?_)
      refine TrL.cons_yes rfl rfl rfl (bf_dec h62) (OpTr.v (v_fieldAddr' rfl fo58_2 rfl rfl) rfl (bl rfl) ?_)
      refine TrL.cons_yes rfl rfl rfl (bf_dec h62) (OpTr.v (v_load (k := 0) rfl rfl rfl ty22 (fun _ => rfl) rfl rfl) rfl (bl rfl) ?_)
      refine TrL.cons_yes rfl rfl rfl (bf_dec h62) (OpTr.v (v_arith rfl rfl rfl ar_gtr) rfl (bl rfl) ?_)
      refine TrL.v (v_pick_f rfl rfl (bf_dec h62) rfl) rfl rfl (bl rfl) ?_
      refine TrL.v (v_move rfl rfl) rfl rfl (bl rfl) ?_
      rcases ifc H with ⟨h63, H⟩ | ⟨h63, H⟩
      · refine TrL.cons_no rfl rfl rfl (gn_f (bt_dec h63)) rfl (bl rfl) ?_
        refine TrL.cons_no rfl rfl rfl (gn_f (bt_dec h63)) rfl (bl rfl) ?_
        refine TrL.cons_no rfl rfl rfl (gn_f (bt_dec h63)) rfl (bl rfl) ?_
        refine TrL.v (v_pick_t rfl rfl (bt_dec h63) rfl) rfl rfl (bl rfl) ?_
        refine TrL.v (v_move rfl rfl) rfl rfl (bl rfl) ?_
        refine TrL.cons_no rfl rfl rfl (gn_f rfl) rfl (bl rfl) ?_
        refine TrL.cons_no rfl rfl rfl (gn_f rfl) rfl (bl rfl) ?_
        refine TrL.cons_no rfl rfl rfl (gn_f rfl) rfl (bl rfl) ?_
        refine TrL.cons_no rfl rfl rfl (gn_f rfl) rfl (bl rfl) ?_
        refine TrL.cons_no rfl rfl rfl (gn_f rfl) rfl (bl rfl) ?_
        refine TrL.cons_no rfl rfl rfl (gn_f rfl) rfl (bl rfl) ?_
        refine TrL.cons_no rfl rfl rfl (gn_f rfl) rfl (bl rfl) ?_
        refine TrL.cons_no rfl rfl rfl (gn_f rfl) rfl (bl rfl) ?_
        refine TrL.v (v_pick_t rfl rfl rfl rfl) rfl rfl (bl rfl) ?_
        refine TrL.nil (qthen_n ?_)
        refine Tr.cond_t rfl rfl ?_
        refine Tr.seq ?_
        refine Tr.region ?_
        refine TrL.v (v_assign rfl rfl) rfl rfl (bl rfl) ?_
        refine TrL.nil (qthen_n ?_)
        have hz := Option.some.inj H
        subst hz
        refine Tr.ret (qthen_r (ret_r ⟨[(2, .int .i64 2)], [], [], []⟩ [.int .i64 2] [] [] (Imp.re _ [] [] (sc rfl sn) (by decide) rfl rfl rfl) rfl rfl ⟨rfl, rfl, rfl⟩ (.cons (resv_tmp rfl) .nil)))
      · refine TrL.cons_yes rfl rfl rfl (bf_dec h63) (OpTr.v (v_fieldAddr' rfl fo58_2 rfl rfl) rfl (bl rfl) ?_)
        refine TrL.cons_yes rfl rfl rfl (bf_dec h63) (OpTr.v (v_load (k := 0) rfl rfl rfl ty22 (fun _ => rfl) rfl rfl) rfl (bl rfl) ?_)
        refine TrL.cons_yes rfl rfl rfl (bf_dec h63) (OpTr.v (v_arith rfl rfl rfl ar_gtr) rfl (bl rfl) ?_)
        refine TrL.v (v_pick_f rfl rfl (bf_dec h63) rfl) rfl rfl (bl rfl) ?_
        refine TrL.v (v_move rfl rfl) rfl rfl (bl rfl) ?_
        rcases ifc H with ⟨h64, H⟩ | ⟨h64, H⟩
        · refine TrL.cons_no rfl rfl rfl (gn_f (bt_dec h64)) rfl (bl rfl) ?_
          refine TrL.cons_no rfl rfl rfl (gn_f (bt_dec h64)) rfl (bl rfl) ?_
          refine TrL.cons_no rfl rfl rfl (gn_f (bt_dec h64)) rfl (bl rfl) ?_
          refine TrL.cons_no rfl rfl rfl (gn_f (bt_dec h64)) rfl (bl rfl) ?_
          refine TrL.cons_no rfl rfl rfl (gn_f (bt_dec h64)) rfl (bl rfl) ?_
          refine TrL.cons_no rfl rfl rfl (gn_f (bt_dec h64)) rfl (bl rfl) ?_
          refine TrL.cons_no rfl rfl rfl (gn_f (bt_dec h64)) rfl (bl rfl) ?_
          refine TrL.cons_no rfl rfl rfl (gn_f (bt_dec h64)) rfl (bl rfl) ?_
          refine TrL.v (v_pick_t rfl rfl (bt_dec h64) rfl) rfl rfl (bl rfl) ?_
          refine TrL.nil (qthen_n ?_)
          refine Tr.cond_t rfl rfl ?_
          refine Tr.seq ?_
          refine Tr.region ?_
          refine TrL.v (v_assign rfl rfl) rfl rfl (bl rfl) ?_
          refine TrL.nil (qthen_n ?_)
          have hz := Option.some.inj H
          subst hz
          refine Tr.ret (qthen_r (ret_r ⟨[(2, .int .i64 2)], [], [], []⟩ [.int .i64 2] [] [] (Imp.re _ [] [] (sc rfl sn) (by decide) rfl rfl rfl) rfl rfl ⟨rfl, rfl, rfl⟩ (.cons (resv_tmp rfl) .nil)))
        · refine TrL.cons_yes rfl rfl rfl (bf_dec h64) (OpTr.v (v_fieldAddr' rfl fo58_2 rfl rfl) rfl (bl rfl) ?_)
          refine TrL.cons_yes rfl rfl rfl (bf_dec h64) (OpTr.v (v_load (k := 0) rfl rfl rfl ty22 (fun _ => rfl) rfl rfl) rfl (bl rfl) ?_)
          refine TrL.cons_yes rfl rfl rfl (bf_dec h64) (OpTr.v (v_fieldAddr' rfl fo58_3 rfl rfl) rfl (bl rfl) ?_)
          refine TrL.cons_yes rfl rfl rfl (bf_dec h64) (OpTr.v (v_load (k := 0) rfl rfl rfl ty22 (fun _ => rfl) rfl rfl) rfl (bl rfl) ?_)
          refine TrL.cons_yes rfl rfl rfl (bf_dec h64) (OpTr.v (v_arith rfl rfl rfl ar_sub_u64) rfl (bl rfl) ?_)
          refine TrL.cons_yes rfl rfl rfl (bf_dec h64) (OpTr.v (v_fieldAddr' rfl fo58_0 rfl rfl) rfl (bl rfl) ?_)
          refine TrL.cons_yes rfl rfl rfl (bf_dec h64) (OpTr.v (v_load (k := 0) rfl rfl rfl ty22 (fun _ => rfl) rfl rfl) rfl (bl rfl) ?_)
          refine TrL.cons_yes rfl rfl rfl (bf_dec h64) (OpTr.v (v_arith rfl rfl rfl ar_gtr) rfl (bl rfl) ?_)
          refine TrL.v (v_pick_f rfl rfl (bf_dec h64) rfl) rfl rfl (bl rfl) ?_
          refine TrL.nil (qthen_n ?_)
          rcases ifc H with ⟨h65, H⟩ | ⟨h65, H⟩
          · refine Tr.cond_t rfl (bt_dec h65) ?_
            refine Tr.seq ?_
            refine Tr.region ?_
            refine TrL.v (v_assign rfl rfl) rfl rfl (bl rfl) ?_
            refine TrL.nil (qthen_n ?_)
            have hz := Option.some.inj H
            subst hz
            refine Tr.ret (qthen_r (ret_r ⟨[(2, .int .i64 2)], [], [], []⟩ [.int .i64 2] [] [] (Imp.re _ [] [] (sc rfl sn) (by decide) rfl rfl rfl) rfl rfl ⟨rfl, rfl, rfl⟩ (.cons (resv_tmp rfl) .nil)))
          · refine Tr.cond_f rfl (bf_dec h65) ?_
            refine Tr.skip (qthen_n ?_)
            refine Tr.seq ?_
            refine Tr.seq ?_
            refine Tr.region ?_
            refine TrL.v (v_assign rfl rfl) rfl rfl (bl rfl) ?_
            refine TrL.nil (qthen_n ?_)
            obtain ⟨x2, hx3, H⟩ := bnd H
            refine Tr.cutE (D := Unit) (M := Unit) .ret (fun d3 => x2 = .inl d3) (fun d3 m11 => ⟨[(2, .int .i64 2)], [], [], []⟩) ?_ (fun d3 m11 hd3 => ?_)
            · refine Tr.cutE (D := Unit) (M := Unit) .normal (fun d4 => x2 = .inr d4) (fun d4 m12 => ⟨[], [], [], []⟩) ?_ (fun d4 m12 hd4 => ?_)
              · refine Tr.block (Tr.loopI (ι := Unit) (step := ref12_May_s0 p1) (fun s5 m9 => ⟨[(1, .pointer (some ⟨b5, 0, none⟩)), (3, .int .i64 s5)], [cells b5 [.int .u64 p1.1, .int .i64 p1.2.1, .int .u64 p1.2.2.1, .int .u64 p1.2.2.2.1, .slice A1 p1.2.2.2.2.length c1] 58], [slF rp_u64_u64_u64 A1 c1 p1.2.2.2.2], []⟩) (()) hx3 (Imp.re _ [0] [0] (sc rfl (sc rfl sn)) (by decide) rfl rfl rfl) (fun s5 m9 y2 hy2 hx4 => ?_))
                unfold ref12_May_s0 at hy2
                refine Tr.seq ?_
                refine Tr.seq ?_
                refine Tr.region ?_
                refine TrL.v (v_move rfl rfl) rfl rfl (bl rfl) ?_
                refine TrL.v (v_fieldAddr' rfl fo58_4 rfl rfl) rfl rfl (bl rfl) ?_
                refine TrL.v (v_load (k := 0) rfl rfl rfl ty46 (fun _ => rfl) rfl rfl) rfl rfl (bl rfl) ?_
                refine TrL.v (v_len rfl sl46 rfl) rfl rfl (bl rfl) ?_
                refine TrL.v (v_arith rfl rfl rfl ar_lss) rfl rfl (bl rfl) ?_
                refine TrL.nil (qthen_n ?_)
                rcases ifc hy2 with ⟨h97, hy2⟩ | ⟨h97, hy2⟩
                · refine Tr.cond_t rfl (bt_dec h97) ?_
                  refine Tr.skip (qthen_n ?_)
                  refine Tr.seq ?_
                  refine Tr.block ?_
                  refine Tr.seq ?_
                  refine Tr.region ?_
                  refine TrL.v (v_fieldAddr' rfl fo58_4 rfl rfl) rfl rfl (bl rfl) ?_
                  refine TrL.v (v_load (k := 0) rfl rfl rfl ty46 (fun _ => rfl) rfl rfl) rfl rfl (bl rfl) ?_
                  refine TrL.v (v_move rfl rfl) rfl rfl (bl rfl) ?_
                  obtain ⟨z18, hz18, hy2⟩ := bnd hy2
                  refine TrL.v (v_indexAddr (k := 0) rfl sl46 ty55 rfl rfl rfl rfl hz18) rfl rfl (bl rfl) ?_
                  refine TrL.v (v_loadg (A := A1) (i := s5) (j := 0) (k := 0) rfl ty55 nofun rfl rfl hz18 rfl rfl) rfl rfl (bl rfl) ?_
                  refine TrL.cons rfl (op_alloc' rfl (bl rfl) rfl ze55 (fun b8 => ?_))
                  refine TrL.cons rfl (op_store' (k := 0) (c' := [.int .u64 z18.1, .int .u64 z18.2.1, .int .u64 z18.2.2]) rfl rfl rfl rfl rfl ty55 rfl (Nat.le_of_ble_eq_true rfl) (ones (oc rfl (oc rfl (oc rfl on)))) rfl ?_)
                  refine TrL.nil (qthen_n ?_)
                  refine Tr.seq ?_
                  refine Tr.regionD drawn (fun hok => ?_)
                  refine TrAny.prom (i := 0) (d := 51) hok (OpVal.plain rfl rfl (v_fieldAddr' rfl fo55_2 rfl rfl)) (by kernel_rfl) rfl (bl rfl) ?_
                  clear hok
                  intro hok
                  refine TrAny.prom (i := 1) (d := 52) hok (OpVal.plain rfl rfl (v_load (k := 0) rfl rfl rfl ty22 (fun _ => rfl) rfl rfl)) (by kernel_rfl) rfl (bl rfl) ?_
                  clear hok
                  intro hok
                  refine TrAny.prom (i := 2) (d := 53) hok (OpVal.plain rfl rfl (v_arith rfl rfl rfl ar_eql)) (by kernel_rfl) rfl (bl rfl) ?_
                  clear hok
                  intro hok
                  refine TrAny.prom (i := 3) (d := 54) hok (OpVal.plain rfl rfl (v_move rfl rfl)) (by kernel_rfl) rfl (bl rfl) ?_
                  clear hok
                  intro hok
                  rcases ifc hy2 with ⟨h110, hy2⟩ | ⟨h110, hy2⟩
                  · refine TrAny.prom (i := 4) (d := 55) hok (OpVal.no rfl (fun c h => by cases h) rfl rfl rfl (gn_f (bt_dec h110))) (by kernel_rfl) rfl (bl rfl) ?_
                    clear hok
                    intro hok
                    refine TrAny.prom (i := 5) (d := 56) hok (OpVal.no rfl (fun c h => by cases h) rfl rfl rfl (gn_f (bt_dec h110))) (by kernel_rfl) rfl (bl rfl) ?_
                    clear hok
                    intro hok
                    refine TrAny.prom (i := 6) (d := 57) hok (OpVal.no rfl (fun c h => by cases h) rfl rfl rfl (gn_f (bt_dec h110))) (by kernel_rfl) rfl (bl rfl) ?_
                    clear hok
                    intro hok
                    refine TrAny.prom (i := 7) (d := 58) hok (OpVal.no rfl (fun c h => by cases h) rfl rfl rfl (gn_f (bt_dec h110))) (by kernel_rfl) rfl (bl rfl) ?_
                    clear hok
                    intro hok
                    refine TrAny.prom (i := 8) (d := 59) hok (OpVal.no rfl (fun c h => by cases h) rfl rfl rfl (gn_f (bt_dec h110))) (by kernel_rfl) rfl (bl rfl) ?_
                    clear hok
                    intro hok
                    refine TrAny.prom (i := 9) (d := 60) hok (OpVal.plain rfl rfl (v_pick_t rfl rfl (bt_dec h110) rfl)) (by kernel_rfl) rfl (bl rfl) ?_
                    clear hok
                    intro hok
                    refine TrAny.prom (i := 10) (d := 61) hok (OpVal.plain rfl rfl (v_move rfl rfl)) (by kernel_rfl) rfl (bl rfl) ?_
                    clear hok
                    intro hok
                    refine TrAny.prom (i := 11) (d := 62) hok (OpVal.no rfl (fun c h => by cases h) rfl rfl rfl (gn_f rfl)) (by kernel_rfl) rfl (bl rfl) ?_
                    clear hok
                    intro hok
                    refine TrAny.prom (i := 12) (d := 63) hok (OpVal.no rfl (fun c h => by cases h) rfl rfl rfl (gn_f rfl)) (by kernel_rfl) rfl (bl rfl) ?_
                    clear hok
                    intro hok
                    refine TrAny.prom (i := 13) (d := 64) hok (OpVal.no rfl (fun c h => by cases h) rfl rfl rfl (gn_f rfl)) (by kernel_rfl) rfl (bl rfl) ?_
                    clear hok
                    intro hok
                    refine TrAny.prom (i := 14) (d := 65) hok (OpVal.no rfl (fun c h => by cases h) rfl rfl rfl (gn_f rfl)) (by kernel_rfl) rfl (bl rfl) ?_
                    clear hok
                    intro hok
                    refine TrAny.prom (i := 15) (d := 66) hok (OpVal.no rfl (fun c h => by cases h) rfl rfl rfl (gn_f rfl)) (by kernel_rfl) rfl (bl rfl) ?_
                    clear hok
                    intro hok
                    refine TrAny.prom (i := 16) (d := 67) hok (OpVal.plain rfl rfl (v_pick_t rfl rfl rfl rfl)) (by kernel_rfl) rfl (bl rfl) ?_
                    clear hok
                    intro hok
                    refine TrAny.prom (i := 17) (d := 68) hok (OpVal.plain rfl rfl (v_move rfl rfl)) (by kernel_rfl) rfl (bl rfl) ?_
                    clear hok
                    intro hok
                    refine TrAny.prom (i := 18) (d := 69) hok (OpVal.no rfl (fun c h => by cases h) rfl rfl rfl (gn_f rfl)) (by kernel_rfl) rfl (bl rfl) ?_
                    clear hok
                    intro hok
                    refine TrAny.prom (i := 19) (d := 70) hok (OpVal.no rfl (fun c h => by cases h) rfl rfl rfl (gn_f rfl)) (by kernel_rfl) rfl (bl rfl) ?_
                    clear hok
                    intro hok
                    refine TrAny.prom (i := 20) (d := 71) hok (OpVal.no rfl (fun c h => by cases h) rfl rfl rfl (gn_f rfl)) (by kernel_rfl) rfl (bl rfl) ?_
                    clear hok
                    intro hok
                    refine TrAny.prom (i := 21) (d := 72) hok (OpVal.un rfl (fun c h => by cases h) rfl rfl rfl) (by kernel_rfl) rfl (bl rfl) ?_
                    clear hok
                    intro hok
                    refine TrAny.prom (i := 22) (d := 73) hok (OpVal.un rfl (fun c h => by cases h) rfl rfl rfl) (by kernel_rfl) rfl (bl rfl) ?_
                    clear hok
                    intro hok
                    refine TrAny.prom (i := 23) (d := 74) hok (OpVal.un rfl (fun c h => by cases h) rfl rfl rfl) (by kernel_rfl) rfl (bl rfl) ?_
                    clear hok
                    intro hok
                    refine TrAny.prom (i := 24) (d := 75) hok (OpVal.un rfl (fun c h => by cases h) rfl rfl rfl) (by kernel_rfl) rfl (bl rfl) ?_
                    clear hok
                    intro hok
                    refine TrAny.prom (i := 25) (d := 76) hok (OpVal.un rfl (fun c h => by cases h) rfl rfl rfl) (by kernel_rfl) rfl (bl rfl) ?_
                    clear hok
                    intro hok
                    refine TrAny.prom (i := 26) (d := 77) hok (OpVal.un rfl (fun c h => by cases h) rfl rfl rfl) (by kernel_rfl) rfl (bl rfl) ?_
                    clear hok
                    intro hok
                    refine TrAny.prom (i := 27) (d := 78) hok (OpVal.un rfl (fun c h => by cases h) rfl rfl rfl) (by kernel_rfl) rfl (bl rfl) ?_
                    clear hok
                    intro hok
                    refine TrAny.prom (i := 28) (d := 79) hok (OpVal.un rfl (fun c h => by cases h) rfl rfl rfl) (by kernel_rfl) rfl (bl rfl) ?_
                    clear hok
                    intro hok
                    refine TrAny.prom (i := 29) (d := 80) hok (OpVal.un rfl (fun c h => by cases h) rfl rfl rfl) (by kernel_rfl) rfl (bl rfl) ?_
                    clear hok
                    intro hok
                    refine TrAny.prom (i := 30) (d := 81) hok (OpVal.un rfl (fun c h => by cases h) rfl rfl rfl) (by kernel_rfl) rfl (bl rfl) ?_
                    clear hok
                    intro hok
                    refine TrAny.prom (i := 31) (d := 82) hok (OpVal.no rfl (fun c h => by cases h) rfl rfl rfl (gn_f rfl)) (by kernel_rfl) rfl (bl rfl) ?_
                    clear hok
                    intro hok
                    refine TrAny.prom (i := 32) (d := 83) hok (OpVal.plain rfl rfl (v_pick_t rfl rfl rfl rfl)) (by kernel_rfl) rfl (bl rfl) ?_
                    clear hok
                    intro hok
                    refine TrAny.done (by kernel_rfl) (by kernel_rfl) hok (by kernel_rfl) (qthen_n ?_)
                    refine Tr.cond_t rfl rfl ?_
                    refine Tr.seq ?_
                    refine Tr.region ?_
                    refine TrL.v (v_assign rfl rfl) rfl rfl (bl rfl) ?_
                    refine TrL.nil (qthen_n ?_)
                    have hz := Option.some.inj hy2
                    subst hz
                    refine Tr.ret (qblock_r (qthen_r (qloop_r (qblock_r (qcut_miss (by simp) (qcut_hit (()) (()) (hx4 _ rfl).symm (Imp.re _ [] [] (sc rfl sn) (by decide) rfl rfl rfl)))))))
                  · refine TrAny.prom (i := 4) (d := 55) hok (OpVal.yes rfl rfl rfl rfl (bf_dec h110) (v_fieldAddr' rfl fo55_0 rfl rfl)) (by kernel_rfl) rfl (bl rfl) ?_
                    clear hok
                    intro hok
                    refine TrAny.prom (i := 5) (d := 56) hok (OpVal.yes rfl rfl rfl rfl (bf_dec h110) (v_load (k := 0) rfl rfl rfl ty22 (fun _ => rfl) rfl rfl)) (by kernel_rfl) rfl (bl rfl) ?_
                    clear hok
                    intro hok
                    refine TrAny.prom (i := 6) (d := 57) hok (OpVal.yes rfl rfl rfl rfl (bf_dec h110) (v_fieldAddr' rfl fo58_3 rfl rfl)) (by kernel_rfl) rfl (bl rfl) ?_
                    clear hok
                    intro hok
                    refine TrAny.prom (i := 7) (d := 58) hok (OpVal.yes rfl rfl rfl rfl (bf_dec h110) (v_load (k := 1) rfl rfl rfl ty22 (fun _ => rfl) rfl rfl)) (by kernel_rfl) rfl (bl rfl) ?_
                    clear hok
                    intro hok
                    refine TrAny.prom (i := 8) (d := 59) hok (OpVal.yes rfl rfl rfl rfl (bf_dec h110) (v_arith rfl rfl rfl ar_leq)) (by kernel_rfl) rfl (bl rfl) ?_
                    clear hok
                    intro hok
                    refine TrAny.prom (i := 9) (d := 60) hok (OpVal.plain rfl rfl (v_pick_f rfl rfl (bf_dec h110) rfl)) (by kernel_rfl) rfl (bl rfl) ?_
                    clear hok
                    intro hok
                    refine TrAny.prom (i := 10) (d := 61) hok (OpVal.plain rfl rfl (v_move rfl rfl)) (by kernel_rfl) rfl (bl rfl) ?_
                    clear hok
                    intro hok
                    rcases ifc hy2 with ⟨h111, hy2⟩ | ⟨h111, hy2⟩
                    · refine TrAny.prom (i := 11) (d := 62) hok (OpVal.no rfl (fun c h => by cases h) rfl rfl rfl (gn_f (bt_dec h111))) (by kernel_rfl) rfl (bl rfl) ?_
                      clear hok
                      intro hok
                      refine TrAny.prom (i := 12) (d := 63) hok (OpVal.no rfl (fun c h => by cases h) rfl rfl rfl (gn_f (bt_dec h111))) (by kernel_rfl) rfl (bl rfl) ?_
                      clear hok
                      intro hok
                      refine TrAny.prom (i := 13) (d := 64) hok (OpVal.no rfl (fun c h => by cases h) rfl rfl rfl (gn_f (bt_dec h111))) (by kernel_rfl) rfl (bl rfl) ?_
                      clear hok
                      intro hok
                      refine TrAny.prom (i := 14) (d := 65) hok (OpVal.no rfl (fun c h => by cases h) rfl rfl rfl (gn_f (bt_dec h111))) (by kernel_rfl) rfl (bl rfl) ?_
                      clear hok
                      intro hok
                      refine TrAny.prom (i := 15) (d := 66) hok (OpVal.no rfl (fun c h => by cases h) rfl rfl rfl (gn_f (bt_dec h111))) (by kernel_rfl) rfl (bl rfl) ?_
                      clear hok
                      intro hok
                      refine TrAny.prom (i := 16) (d := 67) hok (OpVal.plain rfl rfl (v_pick_t rfl rfl (bt_dec h111) rfl)) (by kernel_rfl) rfl (bl rfl) ?_
                      clear hok
                      intro hok
                      refine TrAny.prom (i := 17) (d := 68) hok (OpVal.plain rfl rfl (v_move rfl rfl)) (by kernel_rfl) rfl (bl rfl) ?_
                      clear hok
                      intro hok
                      refine TrAny.prom (i := 18) (d := 69) hok (OpVal.no rfl (fun c h => by cases h) rfl rfl rfl (gn_f rfl)) (by kernel_rfl) rfl (bl rfl) ?_
                      clear hok
                      intro hok
                      refine TrAny.prom (i := 19) (d := 70) hok (OpVal.no rfl (fun c h => by cases h) rfl rfl rfl (gn_f rfl)) (by kernel_rfl) rfl (bl rfl) ?_
                      clear hok
                      intro hok
                      refine TrAny.prom (i := 20) (d := 71) hok (OpVal.no rfl (fun c h => by cases h) rfl rfl rfl (gn_f rfl)) (by kernel_rfl) rfl (bl rfl) ?_
                      clear hok
                      intro hok
                      refine TrAny.prom (i := 21) (d := 72) hok (OpVal.un rfl (fun c h => by cases h) rfl rfl rfl) (by kernel_rfl) rfl (bl rfl) ?_
                      clear hok
                      intro hok
                      refine TrAny.prom (i := 22) (d := 73) hok (OpVal.un rfl (fun c h => by cases h) rfl rfl rfl) (by kernel_rfl) rfl (bl rfl) ?_
                      clear hok
                      intro hok
                      refine TrAny.prom (i := 23) (d := 74) hok (OpVal.un rfl (fun c h => by cases h) rfl rfl rfl) (by kernel_rfl) rfl (bl rfl) ?_
                      clear hok
                      intro hok
                      refine TrAny.prom (i := 24) (d := 75) hok (OpVal.un rfl (fun c h => by cases h) rfl rfl rfl) (by kernel_rfl) rfl (bl rfl) ?_
                      clear hok
                      intro hok
                      refine TrAny.prom (i := 25) (d := 76) hok (OpVal.un rfl (fun c h => by cases h) rfl rfl rfl) (by kernel_rfl) rfl (bl rfl) ?_
                      clear hok
                      intro hok
                      refine TrAny.prom (i := 26) (d := 77) hok (OpVal.un rfl (fun c h => by cases h) rfl rfl rfl) (by kernel_rfl) rfl (bl rfl) ?_
                      clear hok
                      intro hok
                      refine TrAny.prom (i := 27) (d := 78) hok (OpVal.un rfl (fun c h => by cases h) rfl rfl rfl) (by kernel_rfl) rfl (bl rfl) ?_
                      clear hok
                      intro hok
                      refine TrAny.prom (i := 28) (d := 79) hok (OpVal.un rfl (fun c h => by cases h) rfl rfl rfl) (by kernel_rfl) rfl (bl rfl) ?_
                      clear hok
                      intro hok
                      refine TrAny.prom (i := 29) (d := 80) hok (OpVal.un rfl (fun c h => by cases h) rfl rfl rfl) (by kernel_rfl) rfl (bl rfl) ?_
                      clear hok
                      intro hok
                      refine TrAny.prom (i := 30) (d := 81) hok (OpVal.un rfl (fun c h => by cases h) rfl rfl rfl) (by kernel_rfl) rfl (bl rfl) ?_
                      clear hok
                      intro hok
                      refine TrAny.prom (i := 31) (d := 82) hok (OpVal.no rfl (fun c h => by cases h) rfl rfl rfl (gn_f rfl)) (by kernel_rfl) rfl (bl rfl) ?_
                      clear hok
                      intro hok
                      refine TrAny.prom (i := 32) (d := 83) hok (OpVal.plain rfl rfl (v_pick_t rfl rfl rfl rfl)) (by kernel_rfl) rfl (bl rfl) ?_
                      clear hok
                      intro hok
                      refine TrAny.done (by kernel_rfl) (by kernel_rfl) hok (by kernel_rfl) (qthen_n ?_)
                      refine Tr.cond_t rfl rfl ?_
                      refine Tr.seq ?_
                      refine Tr.region ?_
                      refine TrL.v (v_assign rfl rfl) rfl rfl (bl rfl) ?_
                      refine TrL.nil (qthen_n ?_)
                      have hz := Option.some.inj hy2
                      subst hz
                      refine Tr.ret (qblock_r (qthen_r (qloop_r (qblock_r (qcut_miss (by simp) (qcut_hit (()) (()) (hx4 _ rfl).symm (Imp.re _ [] [] (sc rfl sn) (by decide) rfl rfl rfl)))))))
                    · refine TrAny.prom (i := 11) (d := 62) hok (OpVal.yes rfl rfl rfl rfl (bf_dec h111) (v_fieldAddr' rfl fo55_0 rfl rfl)) (by kernel_rfl) rfl (bl rfl) ?_
                      clear hok
                      intro hok
                      refine TrAny.prom (i := 12) (d := 63) hok (OpVal.yes rfl rfl rfl rfl (bf_dec h111) (v_load (k := 0) rfl rfl rfl ty22 (fun _ => rfl) rfl rfl)) (by kernel_rfl) rfl (bl rfl) ?_
                      clear hok
                      intro hok
                      refine TrAny.prom (i := 13) (d := 64) hok (OpVal.yes rfl rfl rfl rfl (bf_dec h111) (v_fieldAddr' rfl fo58_2 rfl rfl)) (by kernel_rfl) rfl (bl rfl) ?_
                      clear hok
                      intro hok
                      refine TrAny.prom (i := 14) (d := 65) hok (OpVal.yes rfl rfl rfl rfl (bf_dec h111) (v_load (k := 1) rfl rfl rfl ty22 (fun _ => rfl) rfl rfl)) (by kernel_rfl) rfl (bl rfl) ?_
                      clear hok
                      intro hok
                      refine TrAny.prom (i := 15) (d := 66) hok (OpVal.yes rfl rfl rfl rfl (bf_dec h111) (v_arith rfl rfl rfl ar_gtr)) (by kernel_rfl) rfl (bl rfl) ?_
                      clear hok
                      intro hok
                      refine TrAny.prom (i := 16) (d := 67) hok (OpVal.plain rfl rfl (v_pick_f rfl rfl (bf_dec h111) rfl)) (by kernel_rfl) rfl (bl rfl) ?_
                      clear hok
                      intro hok
                      refine TrAny.prom (i := 17) (d := 68) hok (OpVal.plain rfl rfl (v_move rfl rfl)) (by kernel_rfl) rfl (bl rfl) ?_
                      clear hok
                      intro hok
                      rcases ifc hy2 with ⟨h112, hy2⟩ | ⟨h112, hy2⟩
                      · refine TrAny.prom (i := 18) (d := 69) hok (OpVal.no rfl (fun c h => by cases h) rfl rfl rfl (gn_f (bt_dec h112))) (by kernel_rfl) rfl (bl rfl) ?_
                        clear hok
                        intro hok
                        refine TrAny.prom (i := 19) (d := 70) hok (OpVal.no rfl (fun c h => by cases h) rfl rfl rfl (gn_f (bt_dec h112))) (by kernel_rfl) rfl (bl rfl) ?_
                        clear hok
                        intro hok
                        refine TrAny.prom (i := 20) (d := 71) hok (OpVal.no rfl (fun c h => by cases h) rfl rfl rfl (gn_f (bt_dec h112))) (by kernel_rfl) rfl (bl rfl) ?_
                        clear hok
                        intro hok
                        refine TrAny.prom (i := 21) (d := 72) hok (OpVal.un rfl (fun c h => by cases h) rfl rfl rfl) (by kernel_rfl) rfl (bl rfl) ?_
                        clear hok
                        intro hok
                        refine TrAny.prom (i := 22) (d := 73) hok (OpVal.un rfl (fun c h => by cases h) rfl rfl rfl) (by kernel_rfl) rfl (bl rfl) ?_
                        clear hok
                        intro hok
                        refine TrAny.prom (i := 23) (d := 74) hok (OpVal.un rfl (fun c h => by cases h) rfl rfl rfl) (by kernel_rfl) rfl (bl rfl) ?_
                        clear hok
                        intro hok
                        refine TrAny.prom (i := 24) (d := 75) hok (OpVal.un rfl (fun c h => by cases h) rfl rfl rfl) (by kernel_rfl) rfl (bl rfl) ?_
                        clear hok
                        intro hok
                        refine TrAny.prom (i := 25) (d := 76) hok (OpVal.un rfl (fun c h => by cases h) rfl rfl rfl) (by kernel_rfl) rfl (bl rfl) ?_
                        clear hok
                        intro hok
                        refine TrAny.prom (i := 26) (d := 77) hok (OpVal.un rfl (fun c h => by cases h) rfl rfl rfl) (by kernel_rfl) rfl (bl rfl) ?_
                        clear hok
                        intro hok
                        refine TrAny.prom (i := 27) (d := 78) hok (OpVal.un rfl (fun c h => by cases h) rfl rfl rfl) (by kernel_rfl) rfl (bl rfl) ?_
                        clear hok
                        intro hok
                        refine TrAny.prom (i := 28) (d := 79) hok (OpVal.un rfl (fun c h => by cases h) rfl rfl rfl) (by kernel_rfl) rfl (bl rfl) ?_
                        clear hok
                        intro hok
                        refine TrAny.prom (i := 29) (d := 80) hok (OpVal.un rfl (fun c h => by cases h) rfl rfl rfl) (by kernel_rfl) rfl (bl rfl) ?_
                        clear hok
                        intro hok
                        refine TrAny.prom (i := 30) (d := 81) hok (OpVal.un rfl (fun c h => by cases h) rfl rfl rfl) (by kernel_rfl) rfl (bl rfl) ?_
                        clear hok
                        intro hok
                        refine TrAny.prom (i := 31) (d := 82) hok (OpVal.no rfl (fun c h => by cases h) rfl rfl rfl (gn_f (bt_dec h112))) (by kernel_rfl) rfl (bl rfl) ?_
                        clear hok
                        intro hok
                        refine TrAny.prom (i := 32) (d := 83) hok (OpVal.plain rfl rfl (v_pick_t rfl rfl (bt_dec h112) rfl)) (by kernel_rfl) rfl (bl rfl) ?_
                        clear hok
                        intro hok
                        refine TrAny.done (by kernel_rfl) (by kernel_rfl) hok (by kernel_rfl) (qthen_n ?_)
                        refine Tr.cond_t rfl rfl ?_
                        refine Tr.seq ?_
                        refine Tr.region ?_
                        refine TrL.v (v_assign rfl rfl) rfl rfl (bl rfl) ?_
                        refine TrL.nil (qthen_n ?_)
                        have hz := Option.some.inj hy2
                        subst hz
                        refine Tr.ret (qblock_r (qthen_r (qloop_r (qblock_r (qcut_miss (by simp) (qcut_hit (()) (()) (hx4 _ rfl).symm (Imp.re _ [] [] (sc rfl sn) (by decide) rfl rfl rfl)))))))
                      · refine TrAny.prom (i := 18) (d := 69) hok (OpVal.yes rfl rfl rfl rfl (bf_dec h112) (v_move rfl rfl)) (by kernel_rfl) rfl (bl rfl) ?_
                        clear hok
                        intro hok
                        refine TrAny.prom (i := 19) (d := 70) hok (OpVal.yes rfl rfl rfl rfl (bf_dec h112) (v_arith rfl rfl rfl ar_gtr)) (by kernel_rfl) rfl (bl rfl) ?_
                        clear hok
                        intro hok
                        refine TrAny.prom (i := 20) (d := 71) hok (OpVal.yes rfl rfl rfl rfl (bf_dec h112) (v_move rfl rfl)) (by kernel_rfl) rfl (bl rfl) ?_
                        clear hok
                        intro hok
                        rcases ifc hy2 with ⟨h113, hy2⟩ | ⟨h113, hy2⟩
                        · refine TrAny.prom (i := 21) (d := 72) hok (OpVal.yes rfl rfl rfl rfl (bt_dec h113) (v_fieldAddr' rfl fo55_0 rfl rfl)) (by kernel_rfl) rfl (bl rfl) ?_
                          clear hok
                          intro hok
                          refine TrAny.prom (i := 22) (d := 73) hok (OpVal.yes rfl rfl rfl rfl (bt_dec h113) (v_load (k := 0) rfl rfl rfl ty22 (fun _ => rfl) rfl rfl)) (by kernel_rfl) rfl (bl rfl) ?_
                          clear hok
                          intro hok
                          refine TrAny.prom (i := 23) (d := 74) hok (OpVal.yes rfl rfl rfl rfl (bt_dec h113) (v_fieldAddr' rfl fo58_4 rfl rfl)) (by kernel_rfl) rfl (bl rfl) ?_
                          clear hok
                          intro hok
                          refine TrAny.prom (i := 24) (d := 75) hok (OpVal.yes rfl rfl rfl rfl (bt_dec h113) (v_load (k := 1) rfl rfl rfl ty46 (fun _ => rfl) rfl rfl)) (by kernel_rfl) rfl (bl rfl) ?_
                          clear hok
                          intro hok
                          refine TrAny.prom (i := 25) (d := 76) hok (OpVal.yes rfl rfl rfl rfl (bt_dec h113) (v_move rfl rfl)) (by kernel_rfl) rfl (bl rfl) ?_
                          clear hok
                          intro hok
                          refine TrAny.prom (i := 26) (d := 77) hok (OpVal.yes rfl rfl rfl rfl (bt_dec h113) (v_arith rfl rfl rfl ar_sub_i64)) (by kernel_rfl) rfl (bl rfl) ?_
                          clear hok
                          intro hok
                          obtain ⟨z22, hz22, hy2⟩ := bnd hy2
                          refine TrAny.prom (i := 27) (d := 78) hok (OpVal.yes rfl rfl rfl rfl (bt_dec h113) (v_indexAddr (k := 0) rfl sl46 ty55 rfl rfl rfl rfl hz22)) (by kernel_rfl) rfl (bl rfl) ?_
                          clear hok
                          intro hok
                          refine TrAny.prom (i := 28) (d := 79) hok (OpVal.yes rfl rfl rfl rfl (bt_dec h113) (v_fieldAddr rfl fo55_0 rfl)) (by kernel_rfl) rfl (bl rfl) ?_
                          clear hok
                          intro hok
                          refine TrAny.prom (i := 29) (d := 80) hok (OpVal.yes rfl rfl rfl rfl (bt_dec h113) (v_loadg (A := A1) (i := (wi64 (s5 - 1))) (j := 0) (k := 0) rfl ty22 (fun _ => rfl) rfl rfl hz22 rfl rfl)) (by kernel_rfl) rfl (bl rfl) ?_
                          clear hok
                          intro hok
                          refine TrAny.prom (i := 30) (d := 81) hok (OpVal.yes rfl rfl rfl rfl (bt_dec h113) (v_arith rfl rfl rfl ar_lss)) (by kernel_rfl) rfl (bl rfl) ?_
                          clear hok
                          intro hok
                          refine TrAny.prom (i := 31) (d := 82) hok (OpVal.yes rfl rfl rfl rfl (bf_dec h112) (v_pick_t rfl rfl (bt_dec h113) rfl)) (by kernel_rfl) rfl (bl rfl) ?_
                          clear hok
                          intro hok
                          refine TrAny.prom (i := 32) (d := 83) hok (OpVal.plain rfl rfl (v_pick_f rfl rfl (bf_dec h112) rfl)) (by kernel_rfl) rfl (bl rfl) ?_
                          clear hok
                          intro hok
                          refine TrAny.done (by kernel_rfl) (by kernel_rfl) hok (by kernel_rfl) (qthen_n ?_)
                          rcases ifc hy2 with ⟨h114, hy2⟩ | ⟨h114, hy2⟩
                          · refine Tr.cond_t rfl (bt_dec h114) ?_
                            refine Tr.seq ?_
                            refine Tr.region ?_
                            refine TrL.v (v_assign rfl rfl) rfl rfl (bl rfl) ?_
                            refine TrL.nil (qthen_n ?_)
                            have hz := Option.some.inj hy2
                            subst hz
                            refine Tr.ret (qblock_r (qthen_r (qloop_r (qblock_r (qcut_miss (by simp) (qcut_hit (()) (()) (hx4 _ rfl).symm (Imp.re _ [] [] (sc rfl sn) (by decide) rfl rfl rfl)))))))
                          · refine Tr.cond_f rfl (bf_dec h114) ?_
                            refine Tr.skip (qblock_n (qthen_n ?_))
                            refine Tr.region ?_
                            refine TrL.v (v_move rfl rfl) rfl rfl (bl rfl) ?_
                            refine TrL.v (v_arith rfl rfl rfl ar_add_i64) rfl rfl (bl rfl) ?_
                            refine TrL.v (v_assign rfl rfl) rfl rfl (bl rfl) ?_
                            have hz := Option.some.inj hy2
                            subst hz
                            refine TrL.nil (qloop_n (()) (Imp.re _ [1] [0] (sc rfl (sc rfl sn)) (by decide) rfl rfl rfl))
                        · refine TrAny.prom (i := 21) (d := 72) hok (OpVal.no rfl (fun c h => by cases h) rfl rfl rfl (gn_t (bf_dec h113))) (by kernel_rfl) rfl (bl rfl) ?_
                          clear hok
                          intro hok
                          refine TrAny.prom (i := 22) (d := 73) hok (OpVal.no rfl (fun c h => by cases h) rfl rfl rfl (gn_t (bf_dec h113))) (by kernel_rfl) rfl (bl rfl) ?_
                          clear hok
                          intro hok
                          refine TrAny.prom (i := 23) (d := 74) hok (OpVal.no rfl (fun c h => by cases h) rfl rfl rfl (gn_t (bf_dec h113))) (by kernel_rfl) rfl (bl rfl) ?_
                          clear hok
                          intro hok
                          refine TrAny.prom (i := 24) (d := 75) hok (OpVal.no rfl (fun c h => by cases h) rfl rfl rfl (gn_t (bf_dec h113))) (by kernel_rfl) rfl (bl rfl) ?_
                          clear hok
                          intro hok
                          refine TrAny.prom (i := 25) (d := 76) hok (OpVal.no rfl (fun c h => by cases h) rfl rfl rfl (gn_t (bf_dec h113))) (by kernel_rfl) rfl (bl rfl) ?_
                          clear hok
                          intro hok
                          refine TrAny.prom (i := 26) (d := 77) hok (OpVal.no rfl (fun c h => by cases h) rfl rfl rfl (gn_t (bf_dec h113))) (by kernel_rfl) rfl (bl rfl) ?_
                          clear hok
                          intro hok
                          refine TrAny.prom (i := 27) (d := 78) hok (OpVal.no rfl (fun c h => by cases h) rfl rfl rfl (gn_t (bf_dec h113))) (by kernel_rfl) rfl (bl rfl) ?_
                          clear hok
                          intro hok
                          refine TrAny.prom (i := 28) (d := 79) hok (OpVal.no rfl (fun c h => by cases h) rfl rfl rfl (gn_t (bf_dec h113))) (by kernel_rfl) rfl (bl rfl) ?_
                          clear hok
                          intro hok
                          refine TrAny.prom (i := 29) (d := 80) hok (OpVal.no rfl (fun c h => by cases h) rfl rfl rfl (gn_t (bf_dec h113))) (by kernel_rfl) rfl (bl rfl) ?_
                          clear hok
                          intro hok
                          refine TrAny.prom (i := 30) (d := 81) hok (OpVal.no rfl (fun c h => by cases h) rfl rfl rfl (gn_t (bf_dec h113))) (by kernel_rfl) rfl (bl rfl) ?_
                          clear hok
                          intro hok
                          refine TrAny.prom (i := 31) (d := 82) hok (OpVal.yes rfl rfl rfl rfl (bf_dec h112) (v_pick_f rfl rfl (bf_dec h113) rfl)) (by kernel_rfl) rfl (bl rfl) ?_
                          clear hok
                          intro hok
                          refine TrAny.prom (i := 32) (d := 83) hok (OpVal.plain rfl rfl (v_pick_f rfl rfl (bf_dec h112) rfl)) (by kernel_rfl) rfl (bl rfl) ?_
                          clear hok
                          intro hok
                          refine TrAny.done (by kernel_rfl) (by kernel_rfl) hok (by kernel_rfl) (qthen_n ?_)
                          refine Tr.cond_f rfl rfl ?_
                          refine Tr.skip (qblock_n (qthen_n ?_))
                          refine Tr.region ?_
                          refine TrL.v (v_move rfl rfl) rfl rfl (bl rfl) ?_
                          refine TrL.v (v_arith rfl rfl rfl ar_add_i64) rfl rfl (bl rfl) ?_
                          refine TrL.v (v_assign rfl rfl) rfl rfl (bl rfl) ?_
                          have hz := Option.some.inj hy2
                          subst hz
                          refine TrL.nil (qloop_n (()) (Imp.re _ [1] [0] (sc rfl (sc rfl sn)) (by decide) rfl rfl rfl))
                · refine Tr.cond_f rfl (bf_dec h97) ?_
                  have hz := Option.some.inj hy2
                  subst hz
                  refine Tr.exit (qthen_x (qloop_x (qblock_hit (qcut_hit (()) (()) (hx4 _ rfl).symm (Imp.re _ [] [] sn (by decide) rfl rfl rfl)))))
              · subst hd4
                replace H := sumr H
                refine (qcut_miss (by simp) (qthen_n ?_))
                refine Tr.seq ?_
                refine Tr.region ?_
                refine TrL.v (v_assign rfl rfl) rfl rfl (bl rfl) ?_
                refine TrL.nil (qthen_n ?_)
                have hz := Option.some.inj H
                subst hz
                refine Tr.ret (ret_r ⟨[(2, .int .i64 0)], [], [], []⟩ [.int .i64 0] [] [] (Imp.re _ [] [] (sc rfl sn) (by decide) rfl rfl rfl) rfl rfl ⟨rfl, rfl, rfl⟩ (.cons (resv_tmp rfl) .nil))
            · subst hd3
              replace H := suml H
              have hz := Option.some.inj H
              subst hz
              refine (qthen_r (ret_r ⟨[(2, .int .i64 2)], [], [], []⟩ [.int .i64 2] [] [] (Imp.re _ [] [] (sc rfl sn) (by decide) rfl rfl rfl) rfl rfl ⟨rfl, rfl, rfl⟩ (.cons (resv_tmp rfl) .nil)))

theorem c_ref12_split (p1 : List (Int × Int × Int)) (p2 : Int) (A1 : Option Addr) (c1 : Nat) (r : (List (Int × Int × Int)) × List (Int × Int × Int)) (H : ref12_split p1 p2 = some r) :
    Ctr Try.prog 76 [.slice A1 p1.length c1, .int .u64 p2] [] [slF rp_u64_u64_u64 A1 c1 p1] (fun ret M' F' => ∃ m : Option Addr × Nat × Option Addr × Nat × Option Nat × Option Nat, ret = .tuple #[.slice m.1 r.1.length m.2.1, .slice m.2.2.1 r.2.length m.2.2.2.1] ∧ M' = [grow 55 3 (.slice m.1 r.1.length m.2.1) r.1.length m.2.2.2.2.1, grow 55 3 (.slice m.2.2.1 r.2.length m.2.2.2.1) r.2.length m.2.2.2.2.2] ∧ F' = [slF rp_u64_u64_u64 m.1 m.2.1 r.1, slF rp_u64_u64_u64 m.2.2.1 m.2.2.2.1 r.2]) := by
  unfold ref12_split at H
  refine ctr_ofI (N := 38) Try.func76 rfl Try.ntmps76 rfl (Nat.le_of_ble_eq_true rfl) (fun γ0 w0 => ?_)
  refine Tr.seq ?_
  refine Tr.region ?_
  refine TrL.v (v_assign rfl rfl) rfl rfl (bl rfl) ?_
  refine TrL.v (v_assign rfl rfl) rfl rfl (bl rfl) ?_
  refine TrL.nil (qthen_n ?_)
  refine Tr.seq ?_
  refine Tr.region ?_
  refine TrL.v (v_assign rfl rfl) rfl rfl (bl rfl) ?_
  refine TrL.nil (qthen_n ?_)
  refine Tr.seq ?_
  refine Tr.region ?_
  refine TrL.v (v_assign rfl rfl) rfl rfl (bl rfl) ?_
  refine TrL.nil (qthen_n ?_)
  refine Tr.seq ?_
  refine Tr.seq ?_
  refine Tr.region ?_
  refine TrL.v (v_assign rfl rfl) rfl rfl (bl rfl) ?_
  refine TrL.nil (qthen_n ?_)
  obtain ⟨x2, hx3, H⟩ := bnd H
  refine Tr.cutE (D := (List (Int × Int × Int)) × List (Int × Int × Int)) (M := Option Addr × Nat × Option Addr × Nat × Option Nat × Option Nat) .normal (fun _d => x2 = _d) (fun x2 m8 => ⟨[(6, .slice m8.1 x2.1.length m8.2.1), (7, .slice m8.2.2.1 x2.2.length m8.2.2.2.1)], [grow 55 3 (.slice m8.1 x2.1.length m8.2.1) x2.1.length m8.2.2.2.2.1, grow 55 3 (.slice m8.2.2.1 x2.2.length m8.2.2.2.1) x2.2.length m8.2.2.2.2.2], [slF rp_u64_u64_u64 m8.1 m8.2.1 x2.1, slF rp_u64_u64_u64 m8.2.2.1 m8.2.2.2.1 x2.2], []⟩) ?_ (fun x2 m8 hd2 => ?_)
  · refine Tr.block (Tr.loopI (ι := Option Addr × Nat × Option Addr × Nat × Option Nat × Option Nat) (step := ref12_split_s0 p1 p2) (fun s5 m6 => ⟨[(0, .slice A1 p1.length c1), (1, .int .u64 p2), (6, .slice m6.1 s5.1.length m6.2.1), (7, .slice m6.2.2.1 s5.2.1.length m6.2.2.2.1), (8, .int .i64 s5.2.2)], [grow 55 3 (.slice m6.1 s5.1.length m6.2.1) s5.1.length m6.2.2.2.2.1, grow 55 3 (.slice m6.2.2.1 s5.2.1.length m6.2.2.2.1) s5.2.1.length m6.2.2.2.2.2], [slF rp_u64_u64_u64 A1 c1 p1, slF rp_u64_u64_u64 m6.1 m6.2.1 s5.1, slF rp_u64_u64_u64 m6.2.2.1 m6.2.2.2.1 s5.2.1], []⟩) ((none, 0, none, 0, none, none)) hx3 (Imp.full' (E := 55) (sz := 3) (A := none) (n := 0) (Imp.full' (E := 55) (sz := 3) (A := none) (n := 0) (Imp.addF' _ (nilF rp_u64_u64_u64) (Imp.re _ [1, 0] [0, 1, 1] (sc rfl (sc rfl (sc rfl (sc rfl (sc rfl sn))))) (by decide) rfl rfl rfl)))) (fun s5 m6 y2 hy2 hx4 => ?_))
    unfold ref12_split_s0 at hy2
    refine Tr.seq ?_
    refine Tr.seq ?_
    refine Tr.region ?_
    refine TrL.v (v_move rfl rfl) rfl rfl (bl rfl) ?_
    refine TrL.v (v_move rfl rfl) rfl rfl (bl rfl) ?_
    refine TrL.v (v_len rfl sl46 rfl) rfl rfl (bl rfl) ?_
    refine TrL.v (v_arith rfl rfl rfl ar_lss) rfl rfl (bl rfl) ?_
    refine TrL.nil (qthen_n ?_)
    rcases ifc hy2 with ⟨h21, hy2⟩ | ⟨h21, hy2⟩
    · refine Tr.cond_t rfl (bt_dec h21) ?_
      refine Tr.skip (qthen_n ?_)
      refine Tr.seq ?_
      refine Tr.block ?_
      refine Tr.seq ?_
      refine Tr.region ?_
      refine TrL.v (v_move rfl rfl) rfl rfl (bl rfl) ?_
      refine TrL.v (v_move rfl rfl) rfl rfl (bl rfl) ?_
      obtain ⟨z6, hz6, hy2⟩ := bnd hy2
      refine TrL.v (v_indexAddr (k := 0) rfl sl46 ty55 rfl rfl rfl rfl hz6) rfl rfl (bl rfl) ?_
      refine TrL.v (v_fieldAddr rfl fo55_0 rfl) rfl rfl (bl rfl) ?_
      refine TrL.v (v_loadg (A := A1) (i := s5.2.2) (j := 0) (k := 0) rfl ty22 (fun _ => rfl) rfl rfl hz6 rfl rfl) rfl rfl (bl rfl) ?_
      refine TrL.v (v_move rfl rfl) rfl rfl (bl rfl) ?_
      refine TrL.v (v_arith rfl rfl rfl ar_leq) rfl rfl (bl rfl) ?_
      refine TrL.nil (qthen_n ?_)
      rcases ifc hy2 with ⟨h22, hy2⟩ | ⟨h22, hy2⟩
      · refine Tr.cond_t rfl (bt_dec h22) ?_
        refine Tr.region ?_
        refine TrL.v (v_move rfl rfl) rfl rfl (bl rfl) ?_
        refine TrL.v (v_move rfl rfl) rfl rfl (bl rfl) ?_
        refine TrL.v (v_move rfl rfl) rfl rfl (bl rfl) ?_
        refine TrL.v (v_indexAddr (k := 0) rfl sl46 ty55 rfl rfl rfl rfl hz6) rfl rfl (bl rfl) ?_
        refine TrL.v (v_loadg (A := A1) (i := s5.2.2) (j := 0) (k := 0) rfl ty55 nofun rfl rfl hz6 rfl rfl) rfl rfl (bl rfl) ?_
        refine TrL.cons rfl (op_buildSlice' (rp := rp_u64_u64_u64) (xs := [z6]) (vs := [.agg #[.int .u64 z6.1, .int .u64 z6.2.1, .int .u64 z6.2.2]]) (out := [.int .u64 z6.1, .int .u64 z6.2.1, .int .u64 z6.2.2]) rfl (bl rfl) rfl sl46 ty55 ze55 rfl rfl (by decide) (by decide) rfl (fun γ w hF => (rowc rfl rown rfl)) (fun A22 => ?_))
        obtain ⟨h23, hy2⟩ := rom hy2
        refine TrL.cons rfl (op_append' (rp := rp_u64_u64_u64) (xs := s5.1) (ys := [z6]) (k := 0) (kx := 1) (ky := 3) rfl (bl rfl) rfl sl46 ty55 ze55 rfl by55 rfl rfl rfl rfl rfl rfl rfl h23.1 h23.2 (fun A23 c12 o11 => ?_))
        refine TrL.v (v_assign rfl rfl) rfl rfl (bl rfl) ?_
        refine TrL.nil (qblock_n (qthen_n ?_))
        refine Tr.region ?_
        refine TrL.v (v_move rfl rfl) rfl rfl (bl rfl) ?_
        refine TrL.v (v_arith rfl rfl rfl ar_add_i64) rfl rfl (bl rfl) ?_
        refine TrL.v (v_assign rfl rfl) rfl rfl (bl rfl) ?_
        have hz := Option.some.inj hy2
        subst hz
        refine TrL.nil (qloop_n ((A23, c12, m6.2.2.1, m6.2.2.2.1, o11, m6.2.2.2.2.2)) (Imp.re _ [0, 1] [0, 4, 2] (sc rfl (sc rfl (sc rfl (sc rfl (sc rfl sn))))) (by decide) rfl rfl rfl))
      · refine Tr.cond_f rfl (bf_dec h22) ?_
        refine Tr.region ?_
        refine TrL.v (v_move rfl rfl) rfl rfl (bl rfl) ?_
        refine TrL.v (v_move rfl rfl) rfl rfl (bl rfl) ?_
        refine TrL.v (v_move rfl rfl) rfl rfl (bl rfl) ?_
        refine TrL.v (v_indexAddr (k := 0) rfl sl46 ty55 rfl rfl rfl rfl hz6) rfl rfl (bl rfl) ?_
        refine TrL.v (v_loadg (A := A1) (i := s5.2.2) (j := 0) (k := 0) rfl ty55 nofun rfl rfl hz6 rfl rfl) rfl rfl (bl rfl) ?_
        refine TrL.cons rfl (op_buildSlice' (rp := rp_u64_u64_u64) (xs := [z6]) (vs := [.agg #[.int .u64 z6.1, .int .u64 z6.2.1, .int .u64 z6.2.2]]) (out := [.int .u64 z6.1, .int .u64 z6.2.1, .int .u64 z6.2.2]) rfl (bl rfl) rfl sl46 ty55 ze55 rfl rfl (by decide) (by decide) rfl (fun γ w hF => (rowc rfl rown rfl)) (fun A24 => ?_))
        obtain ⟨h24, hy2⟩ := rom hy2
        refine TrL.cons rfl (op_append' (rp := rp_u64_u64_u64) (xs := s5.2.1) (ys := [z6]) (k := 1) (kx := 2) (ky := 3) rfl (bl rfl) rfl sl46 ty55 ze55 rfl by55 rfl rfl rfl rfl rfl rfl rfl h24.1 h24.2 (fun A25 c13 o12 => ?_))
        refine TrL.v (v_assign rfl rfl) rfl rfl (bl rfl) ?_
        refine TrL.nil (qblock_n (qthen_n ?_))
        refine Tr.region ?_
        refine TrL.v (v_move rfl rfl) rfl rfl (bl rfl) ?_
        refine TrL.v (v_arith rfl rfl rfl ar_add_i64) rfl rfl (bl rfl) ?_
        refine TrL.v (v_assign rfl rfl) rfl rfl (bl rfl) ?_
        have hz := Option.some.inj hy2
        subst hz
        refine TrL.nil (qloop_n ((m6.1, m6.2.1, A25, c13, m6.2.2.2.2.1, o12)) (Imp.re _ [0, 1] [0, 1, 4] (sc rfl (sc rfl (sc rfl (sc rfl (sc rfl sn))))) (by decide) rfl rfl rfl))
    · refine Tr.cond_f rfl (bf_dec h21) ?_
      have hz := Option.some.inj hy2
      subst hz
      refine Tr.exit (qthen_x (qloop_x (qblock_hit (qcut_hit ((s5.1, s5.2.1)) ((m6.1, m6.2.1, m6.2.2.1, m6.2.2.2.1, m6.2.2.2.2.1, m6.2.2.2.2.2)) (hx4 _ rfl).symm (Imp.re _ [0, 1] [1, 2] (sc rfl (sc rfl sn)) (by decide) rfl rfl rfl)))))
  · subst hd2
    refine (qthen_n ?_)
    refine Tr.seq ?_
    refine Tr.region ?_
    refine TrL.v (v_move rfl rfl) rfl rfl (bl rfl) ?_
    refine TrL.v (v_move rfl rfl) rfl rfl (bl rfl) ?_
    refine TrL.v (v_assign rfl rfl) rfl rfl (bl rfl) ?_
    refine TrL.v (v_assign rfl rfl) rfl rfl (bl rfl) ?_
    refine TrL.nil (qthen_n ?_)
    have hz := Option.some.inj H
    subst hz
    refine Tr.ret (ret_r ⟨[(4, .slice m8.1 x2.1.length m8.2.1), (5, .slice m8.2.2.1 x2.2.length m8.2.2.2.1)], [grow 55 3 (.slice m8.1 x2.1.length m8.2.1) x2.1.length m8.2.2.2.2.1, grow 55 3 (.slice m8.2.2.1 x2.2.length m8.2.2.2.1) x2.2.length m8.2.2.2.2.2], [slF rp_u64_u64_u64 m8.1 m8.2.1 x2.1, slF rp_u64_u64_u64 m8.2.2.1 m8.2.2.2.1 x2.2], []⟩ [.slice m8.1 x2.1.length m8.2.1, .slice m8.2.2.1 x2.2.length m8.2.2.2.1] [grow 55 3 (.slice m8.1 x2.1.length m8.2.1) x2.1.length m8.2.2.2.2.1, grow 55 3 (.slice m8.2.2.1 x2.2.length m8.2.2.2.1) x2.2.length m8.2.2.2.2.2] [] (Imp.re _ [0, 1] [0, 1] (sc rfl (sc rfl sn)) (by decide) rfl rfl rfl) rfl rfl ⟨((m8.1, m8.2.1, m8.2.2.1, m8.2.2.2.1, m8.2.2.2.2.1, m8.2.2.2.2.2)), rfl, rfl, rfl⟩ (.cons (resv_tmp rfl) (.cons (resv_tmp rfl) .nil)))
end Go.Proofs.Ythgeodagikmpjaa.W
