/- The contracts of the walked functions: the printed walks. -/
import Derived.Test.YtbeknohemgjfbaaKc
import Derived.Test.YtbeknohemgjfbaaQc
import Derived.Test.YtbeknohemgjfbaaWlaw11bc
import Derived.Test.YtbeknohemgjfbaaWlaw11cc
import Derived.Test.YtbeknohemgjfbaaWrecordac
import Derived.Test.YtbeknohemgjfbaaWrecordbc
import Derived.Test.YtbeknohemgjfbaaWref09ac
namespace Go.Proofs.Ytbeknohemgjfbaa.W
open Go Go.Proofs Go.Proofs.Ytbeknohemgjfbaa.L Go.Proofs.Ytbeknohemgjfbaa.Pu
set_option linter.unusedVariables false
set_option maxHeartbeats 4000000

theorem c_law11_RecordOne (p1 : List Int) (A1 : Option Addr) (c1 : Nat) (r : Bool) (H : law11_RecordOne p1 = some r) :
    Ctr Try.prog 7 [.slice A1 p1.length c1] [] [slF (rInt .u8) A1 c1 p1] (fun ret M' F' => ret = .bool r ∧ M' = [] ∧ F' = []) := by
  unfold law11_RecordOne at H
  refine ctr_ofI (N := 46) Try.func7 rfl Try.ntmps7 rfl (Nat.le_of_ble_eq_true rfl) (fun γ0 w0 => ?_)
  refine Tr.seq ?_
  refine Tr.region ?_
  refine TrL.v (v_assign rfl rfl) rfl rfl (bl rfl) ?_
  refine TrL.nil (qthen_n ?_)
  refine Tr.seq ?_
  refine Tr.region ?_
  obtain ⟨r13, hr13, H⟩ := bnd H
  refine TrL.cons rfl (op_call0' (vs := []) (cap := []) [] rfl rfl (bl rfl) rfl rfl en20 (c_law11_awake r13 hr13) rfl (fun ret M' F' hR13 => ?_))
  obtain ⟨rfl, rfl, rfl⟩ := hR13
  refine TrL.v (v_assign rfl rfl) rfl rfl (bl rfl) ?_
  refine TrL.nil (qthen_n ?_)
  refine Tr.seq ?_
  refine Tr.seq ?_
  refine Tr.region ?_
  refine TrL.v (v_move rfl rfl) rfl rfl (bl rfl) ?_
  refine TrL.v (v_len rfl sl40 rfl) rfl rfl (bl rfl) ?_
  refine TrL.v (v_arith rfl rfl rfl ar_gtr) rfl rfl (bl rfl) ?_
  refine TrL.nil (qthen_n ?_)
  rcases ifc H with ⟨h13, H⟩ | ⟨h13, H⟩
  · refine Tr.cond_t rfl (bt_dec h13) ?_
    refine Tr.seq ?_
    refine Tr.region ?_
    refine TrL.v (v_move rfl rfl) rfl rfl (bl rfl) ?_
    refine TrL.v (v_assign rfl rfl) rfl rfl (bl rfl) ?_
    refine TrL.nil (qthen_n ?_)
    have hz := Option.some.inj H
    subst hz
    refine Tr.ret (qthen_r (ret_r ⟨[(2, .bool r13)], [], [], []⟩ [.bool r13] [] [] (Imp.re _ [] [] (sc rfl sn) (by decide) rfl rfl rfl) rfl rfl ⟨rfl, rfl, rfl⟩ (.cons (resv_tmp rfl) .nil)))
  · refine Tr.cond_f rfl (bf_dec h13) ?_
    refine Tr.skip (qthen_n ?_)
    refine Tr.seq ?_
    refine Tr.region ?_
    refine TrL.v (v_move rfl rfl) rfl rfl (bl rfl) ?_
    obtain ⟨r14, hr14, H⟩ := bnd H
    refine TrL.cons rfl (op_call0' (vs := [.slice A1 p1.length c1]) (cap := []) [0] rfl rfl (bl rfl) rfl rfl en25 (c_record_One p1 A1 c1 r14 hr14) rfl (fun ret M' F' hR14 => ?_))
    obtain ⟨m14, rfl, rfl, rfl⟩ := hR14
    refine TrL.v (v_move rfl rfl) rfl rfl (bl rfl) ?_
    refine TrL.v (v_extract rfl rfl rfl) rfl rfl (bl rfl) ?_
    refine TrL.v (v_extract rfl rfl rfl) rfl rfl (bl rfl) ?_
    refine TrL.cons rfl (op_alloc' rfl (bl rfl) rfl ze35 (fun b3 => ?_))
    refine TrL.cons rfl (op_store' (k := 0) (c' := [.int .i64 r14.1, .int .i64 r14.2.1, .slice m14.1 r14.2.2.1.length m14.2]) rfl rfl rfl rfl rfl ty35 rfl (Nat.le_of_ble_eq_true rfl) (ones (oc rfl (oc rfl (oc rfl on)))) rfl ?_)
    refine TrL.v (v_assign rfl rfl) rfl rfl (bl rfl) ?_
    refine TrL.nil (qthen_n ?_)
    refine Tr.seq ?_
    refine Tr.seq ?_
    refine Tr.region ?_
    refine TrL.v (v_move rfl rfl) rfl rfl (bl rfl) ?_
    refine TrL.v (v_arith rfl rfl rfl ar_neq) rfl rfl (bl rfl) ?_
    refine TrL.nil (qthen_n ?_)
    rcases ifc H with ⟨h14, H⟩ | ⟨h14, H⟩
    · refine Tr.cond_t rfl (bt_dec h14) ?_
      refine Tr.seq ?_
      refine Tr.region ?_
      refine TrL.v (v_move rfl rfl) rfl rfl (bl rfl) ?_
      refine TrL.v (v_move rfl rfl) rfl rfl (bl rfl) ?_
      rcases ifc H with ⟨h16, H⟩ | ⟨h16, H⟩
      · refine TrL.cons_yes rfl rfl rfl h16 (OpTr.v (v_load (k := 0) rfl rfl rfl ty35 nofun rfl rfl) rfl (bl rfl) ?_)
        refine TrL.cons_yes rfl rfl rfl h16 (OpTr.v (v_build (vs := []) (out := [.int .i64 0, .int .i64 0, .slice none 0 0]) rfl pl26 ze26 rfl rfl) rfl (bl rfl) ?_)
        refine TrL.addF' (slF (rSl rp_u64_u64) none 0 []) (nilF (rSl rp_u64_u64)) ?_
        obtain ⟨r16, hr16, H⟩ := bnd H
        refine TrL.cons_yes rfl rfl rfl h16 (op_call0' (vs := [.agg #[.int .i64 r14.1, .int .i64 r14.2.1, .slice m14.1 r14.2.2.1.length m14.2], .agg #[.int .i64 0, .int .i64 0, .slice none 0 0]]) (cap := []) [1, 2] rfl rfl (bl rfl) rfl rfl en30 (c_law11_same ((r14.1, r14.2.1, r14.2.2.1)) (((0 : Int), (0 : Int), ([] : List (List (Int × Int))))) m14.1 m14.2 none 0 r16 hr16) rfl (fun ret M' F' hR16 => ?_))
        obtain ⟨rfl, rfl, rfl⟩ := hR16
        refine TrL.v (v_pick_t rfl rfl h16 rfl) rfl rfl (bl rfl) ?_
        refine TrL.v (v_assign rfl rfl) rfl rfl (bl rfl) ?_
        refine TrL.nil (qthen_n ?_)
        have hz := Option.some.inj H
        subst hz
        refine Tr.ret (qthen_r (ret_r ⟨[(2, .bool r16)], [], [], []⟩ [.bool r16] [] [] (Imp.re _ [] [] (sc rfl sn) (by decide) rfl rfl rfl) rfl rfl ⟨rfl, rfl, rfl⟩ (.cons (resv_tmp rfl) .nil)))
      · refine TrL.cons_no rfl rfl rfl (gn_t (bf_b h16)) rfl (bl rfl) ?_
        refine TrL.cons_no rfl rfl rfl (gn_t (bf_b h16)) rfl (bl rfl) ?_
        refine TrL.cons_no rfl rfl rfl (gn_t (bf_b h16)) rfl (bl rfl) ?_
        refine TrL.v (v_pick_f rfl rfl (bf_b h16) rfl) rfl rfl (bl rfl) ?_
        refine TrL.v (v_assign rfl rfl) rfl rfl (bl rfl) ?_
        refine TrL.nil (qthen_n ?_)
        have hz := Option.some.inj H
        subst hz
        refine Tr.ret (qthen_r (ret_r ⟨[(2, .bool false)], [], [], []⟩ [.bool false] [] [] (Imp.re _ [] [] (sc rfl sn) (by decide) rfl rfl rfl) rfl rfl ⟨rfl, rfl, rfl⟩ (.cons (resv_tmp rfl) .nil)))
    · refine Tr.cond_f rfl (bf_dec h14) ?_
      refine Tr.skip (qthen_n ?_)
      refine Tr.seq ?_
      refine Tr.region ?_
      refine TrL.v (v_fieldAddr' rfl fo35_0 rfl rfl) rfl rfl (bl rfl) ?_
      refine TrL.v (v_load (k := 0) rfl rfl rfl ty3 (fun _ => rfl) rfl rfl) rfl rfl (bl rfl) ?_
      refine TrL.v (v_fieldAddr' rfl fo35_1 rfl rfl) rfl rfl (bl rfl) ?_
      refine TrL.v (v_load (k := 0) rfl rfl rfl ty3 (fun _ => rfl) rfl rfl) rfl rfl (bl rfl) ?_
      refine TrL.v (v_fieldAddr' rfl fo35_2 rfl rfl) rfl rfl (bl rfl) ?_
      refine TrL.v (v_load (k := 0) rfl rfl rfl ty24 (fun _ => rfl) rfl rfl) rfl rfl (bl rfl) ?_
      refine TrL.v (v_build (vs := [.int .i64 r14.1, .int .i64 r14.2.1, .slice m14.1 r14.2.2.1.length m14.2]) (out := [.int .i64 r14.1, .int .i64 r14.2.1, .slice m14.1 r14.2.2.1.length m14.2]) rfl pl26 ze26 rfl rfl) rfl rfl (bl rfl) ?_
      refine TrL.cons rfl (op_alloc' rfl (bl rfl) rfl ze26 (fun b4 => ?_))
      refine TrL.cons rfl (op_store' (k := 0) (c' := [.int .i64 r14.1, .int .i64 r14.2.1, .slice m14.1 r14.2.2.1.length m14.2]) rfl rfl rfl rfl rfl ty26 rfl (Nat.le_of_ble_eq_true rfl) (ones (oc rfl (oc rfl (oc rfl on)))) rfl ?_)
      refine TrL.nil (qthen_n ?_)
      refine Tr.seq ?_
      refine Tr.re ⟨[(0, .slice A1 p1.length c1), (3, .bool r13), (4, .pointer (some ⟨b3, 0, none⟩)), (5, .int .i64 r14.2.2.2), (6, .pointer (some ⟨b4, 0, none⟩)), (7, .bool r13), (8, .slice A1 p1.length c1), (9, .int .i64 ((p1.length : Int))), (10, .bool (decide (400 < ((p1.length : Int))))), (12, .tuple #[.agg #[.int .i64 r14.1, .int .i64 r14.2.1, .slice m14.1 r14.2.2.1.length m14.2], .int .i64 r14.2.2.2]), (13, .slice A1 p1.length c1), (14, .tuple #[.agg #[.int .i64 r14.1, .int .i64 r14.2.1, .slice m14.1 r14.2.2.1.length m14.2], .int .i64 r14.2.2.2]), (15, .agg #[.int .i64 r14.1, .int .i64 r14.2.1, .slice m14.1 r14.2.2.1.length m14.2]), (16, .int .i64 r14.2.2.2), (17, .int .i64 r14.2.2.2), (18, .bool (decide (¬ r14.2.2.2 = 0))), (25, .pointer (some ⟨b3, 0, none⟩)), (26, .int .i64 r14.1), (27, .pointer (some ⟨b3, 1, none⟩)), (28, .int .i64 r14.2.1), (29, .pointer (some ⟨b3, 2, none⟩)), (30, .slice m14.1 r14.2.2.1.length m14.2), (31, .agg #[.int .i64 r14.1, .int .i64 r14.2.1, .slice m14.1 r14.2.2.1.length m14.2])], [cells b4 [.int .i64 r14.1, .int .i64 r14.2.1, .slice m14.1 r14.2.2.1.length m14.2] 26, cells b3 [.int .i64 r14.1, .int .i64 r14.2.1, .slice m14.1 r14.2.2.1.length m14.2] 35], [slF (rInt .u8) A1 c1 p1, slF (rSl rp_u64_u64) m14.1 m14.2 r14.2.2.1], []⟩ [0, 1] [0, 1] (sc rfl (sc rfl (sc rfl (sc rfl (sc rfl (sc rfl (sc rfl (sc rfl (sc rfl (sc rfl (sc rfl (sc rfl (sc rfl (sc rfl (sc rfl (sc rfl (sc rfl (sc rfl (sc rfl (sc rfl (sc rfl (sc rfl (sc rfl sn))))))))))))))))))))))) (by decide) rfl rfl rfl ?_
      refine Tr.regionD drawn (fun hok => ?_)
      refine TrAny.prom (i := 0) (d := 32) hok (OpVal.plain rfl rfl (v_move rfl rfl)) (by kernel_rfl) rfl (bl rfl) ?_
      clear hok
      intro hok
      refine TrAny.prom (i := 1) (d := 33) hok (OpVal.plain rfl rfl (v_move rfl rfl)) (by kernel_rfl) rfl (bl rfl) ?_
      clear hok
      intro hok
      rcases ifc H with ⟨h23, H⟩ | ⟨h23, H⟩
      · refine TrAny.prom (i := 2) (d := 34) hok (OpVal.yes rfl rfl rfl rfl h23 (v_load (k := 0) rfl rfl rfl ty26 nofun rfl rfl)) (by kernel_rfl) rfl (bl rfl) ?_
        clear hok
        intro hok
        obtain ⟨r23, hr23, H⟩ := bnd H
        refine TrAny.nextY (j := 3) (by kernel_rfl) hok rfl (by kernel_rfl) rfl rfl rfl h23 (op_call0' (vs := [.agg #[.int .i64 r14.1, .int .i64 r14.2.1, .slice m14.1 r14.2.2.1.length m14.2]]) (cap := []) [1] rfl rfl (bl rfl) rfl rfl en35 (c_ref09_Hist ((r14.1, r14.2.1, r14.2.2.1)) m14.1 m14.2 r23 hr23) rfl (fun ret M' F' hR23 => ?_))
        obtain ⟨rfl, rfl, rfl⟩ := hR23
        refine nxp hok (kp_imp (kp_c0 rfl)) rfl (by kernel_rfl) ?_
        clear hok
        intro hok
        refine TrAny.prom (i := 4) (d := 36) hok (OpVal.yes rfl rfl rfl rfl h23 (v_arith rfl rfl rfl ar_eql)) (by kernel_rfl) rfl (bl rfl) ?_
        clear hok
        intro hok
        refine TrAny.prom (i := 5) (d := 37) hok (OpVal.plain rfl rfl (v_pick_t rfl rfl h23 rfl)) (by kernel_rfl) rfl (bl rfl) ?_
        clear hok
        intro hok
        refine TrAny.prom (i := 6) (d := 38) hok (OpVal.plain rfl rfl (v_move rfl rfl)) (by kernel_rfl) rfl (bl rfl) ?_
        clear hok
        intro hok
        rcases ifc H with ⟨h24, H⟩ | ⟨h24, H⟩
        · refine TrAny.prom (i := 7) (d := 39) hok (OpVal.yes rfl rfl rfl rfl (bt_dec h24) (v_load (k := 1) rfl rfl rfl ty35 nofun rfl rfl)) (by kernel_rfl) rfl (bl rfl) ?_
          clear hok
          intro hok
          refine TrAny.prom (i := 10) (d := 42) hok (OpVal.yes rfl rfl rfl rfl (bt_dec h24) (v_move rfl rfl)) (by kernel_rfl) rfl (bl rfl) ?_
          clear hok
          intro hok
          refine TrAny.prom (i := 11) (d := 43) hok (OpVal.yes rfl rfl rfl rfl (bt_dec h24) (v_bstr (k := 0) rfl Try.underlying40 Try.underlying5 Try.underlying9 rfl rfl rfl)) (by kernel_rfl) rfl (bl rfl) ?_
          clear hok
          intro hok
          obtain ⟨r24, hr24, H⟩ := bnd H
          refine TrAny.nextY (j := 8) (by kernel_rfl) hok rfl (by kernel_rfl) rfl rfl rfl (bt_dec h24) (op_call0' (vs := [.agg #[.int .i64 r14.1, .int .i64 r14.2.1, .slice m14.1 r14.2.2.1.length m14.2]]) (cap := []) [1] rfl rfl (bl rfl) rfl rfl en22 (c_record_Put ((r14.1, r14.2.1, r14.2.2.1)) m14.1 m14.2 r24 hr24) rfl (fun ret M' F' hR24 => ?_))
          obtain ⟨m24, rfl, rfl, rfl⟩ := hR24
          refine nxp hok (kp_imp (kp_c0 rfl)) rfl (by kernel_rfl) ?_
          clear hok
          intro hok
          refine TrAny.prom (i := 9) (d := 41) hok (OpVal.yes rfl rfl rfl rfl (bt_dec h24) (v_bstr (k := 2) rfl Try.underlying40 Try.underlying5 Try.underlying9 rfl rfl rfl)) (by kernel_rfl) rfl (bl rfl) ?_
          clear hok
          intro hok
          refine TrAny.prom (i := 12) (d := 44) hok (OpVal.yes rfl rfl rfl rfl (bt_dec h24) (v_streq rfl rfl rfl)) (by kernel_rfl) rfl (bl rfl) ?_
          clear hok
          intro hok
          refine TrAny.prom (i := 13) (d := 45) hok (OpVal.plain rfl rfl (v_pick_t rfl rfl (bt_dec h24) rfl)) (by kernel_rfl) rfl (bl rfl) ?_
          clear hok
          intro hok
          refine TrAny.prom (i := 14) (d := 2) hok (OpVal.plain rfl rfl (v_assign rfl rfl)) (by kernel_rfl) rfl (bl rfl) ?_
          clear hok
          intro hok
          refine TrAny.done (by kernel_rfl) (by kernel_rfl) hok (by kernel_rfl) (qthen_n ?_)
          have hz := Option.some.inj H
          subst hz
          refine Tr.ret (ret_r ⟨[(2, .bool (decide ((bstr r24) = (bstr p1))))], [], [], []⟩ [.bool (decide ((bstr r24) = (bstr p1)))] [] [] (Imp.re _ [] [] (sc rfl sn) (by decide) rfl rfl rfl) rfl rfl ⟨rfl, rfl, rfl⟩ (.cons (resv_tmp rfl) .nil))
        · refine TrAny.prom (i := 7) (d := 39) hok (OpVal.no rfl (fun c h => by cases h) rfl rfl rfl (gn_t (bf_dec h24))) (by kernel_rfl) rfl (bl rfl) ?_
          clear hok
          intro hok
          refine TrAny.prom (i := 8) (d := 40) hok (OpVal.no rfl (fun c h => by cases h) rfl rfl rfl (gn_t (bf_dec h24))) (by kernel_rfl) rfl (bl rfl) ?_
          clear hok
          intro hok
          refine TrAny.prom (i := 9) (d := 41) hok (OpVal.no rfl (fun c h => by cases h) rfl rfl rfl (gn_t (bf_dec h24))) (by kernel_rfl) rfl (bl rfl) ?_
          clear hok
          intro hok
          refine TrAny.prom (i := 10) (d := 42) hok (OpVal.no rfl (fun c h => by cases h) rfl rfl rfl (gn_t (bf_dec h24))) (by kernel_rfl) rfl (bl rfl) ?_
          clear hok
          intro hok
          refine TrAny.prom (i := 11) (d := 43) hok (OpVal.no rfl (fun c h => by cases h) rfl rfl rfl (gn_t (bf_dec h24))) (by kernel_rfl) rfl (bl rfl) ?_
          clear hok
          intro hok
          refine TrAny.prom (i := 12) (d := 44) hok (OpVal.no rfl (fun c h => by cases h) rfl rfl rfl (gn_t (bf_dec h24))) (by kernel_rfl) rfl (bl rfl) ?_
          clear hok
          intro hok
          refine TrAny.prom (i := 13) (d := 45) hok (OpVal.plain rfl rfl (v_pick_f rfl rfl (bf_dec h24) rfl)) (by kernel_rfl) rfl (bl rfl) ?_
          clear hok
          intro hok
          refine TrAny.prom (i := 14) (d := 2) hok (OpVal.plain rfl rfl (v_assign rfl rfl)) (by kernel_rfl) rfl (bl rfl) ?_
          clear hok
          intro hok
          refine TrAny.done (by kernel_rfl) (by kernel_rfl) hok (by kernel_rfl) (qthen_n ?_)
          have hz := Option.some.inj H
          subst hz
          refine Tr.ret (ret_r ⟨[(2, .bool false)], [], [], []⟩ [.bool false] [] [] (Imp.re _ [] [] (sc rfl sn) (by decide) rfl rfl rfl) rfl rfl ⟨rfl, rfl, rfl⟩ (.cons (resv_tmp rfl) .nil))
      · refine TrAny.prom (i := 2) (d := 34) hok (OpVal.no rfl (fun c h => by cases h) rfl rfl rfl (gn_t (bf_b h23))) (by kernel_rfl) rfl (bl rfl) ?_
        clear hok
        intro hok
        refine TrAny.prom (i := 3) (d := 35) hok (OpVal.no rfl (fun c h => by cases h) rfl rfl rfl (gn_t (bf_b h23))) (by kernel_rfl) rfl (bl rfl) ?_
        clear hok
        intro hok
        refine TrAny.prom (i := 4) (d := 36) hok (OpVal.no rfl (fun c h => by cases h) rfl rfl rfl (gn_t (bf_b h23))) (by kernel_rfl) rfl (bl rfl) ?_
        clear hok
        intro hok
        refine TrAny.prom (i := 5) (d := 37) hok (OpVal.plain rfl rfl (v_pick_f rfl rfl (bf_b h23) rfl)) (by kernel_rfl) rfl (bl rfl) ?_
        clear hok
        intro hok
        refine TrAny.prom (i := 6) (d := 38) hok (OpVal.plain rfl rfl (v_move rfl rfl)) (by kernel_rfl) rfl (bl rfl) ?_
        clear hok
        intro hok
        refine TrAny.prom (i := 7) (d := 39) hok (OpVal.no rfl (fun c h => by cases h) rfl rfl rfl (gn_t rfl)) (by kernel_rfl) rfl (bl rfl) ?_
        clear hok
        intro hok
        refine TrAny.prom (i := 8) (d := 40) hok (OpVal.no rfl (fun c h => by cases h) rfl rfl rfl (gn_t rfl)) (by kernel_rfl) rfl (bl rfl) ?_
        clear hok
        intro hok
        refine TrAny.prom (i := 9) (d := 41) hok (OpVal.no rfl (fun c h => by cases h) rfl rfl rfl (gn_t rfl)) (by kernel_rfl) rfl (bl rfl) ?_
        clear hok
        intro hok
        refine TrAny.prom (i := 10) (d := 42) hok (OpVal.no rfl (fun c h => by cases h) rfl rfl rfl (gn_t rfl)) (by kernel_rfl) rfl (bl rfl) ?_
        clear hok
        intro hok
        refine TrAny.prom (i := 11) (d := 43) hok (OpVal.no rfl (fun c h => by cases h) rfl rfl rfl (gn_t rfl)) (by kernel_rfl) rfl (bl rfl) ?_
        clear hok
        intro hok
        refine TrAny.prom (i := 12) (d := 44) hok (OpVal.no rfl (fun c h => by cases h) rfl rfl rfl (gn_t rfl)) (by kernel_rfl) rfl (bl rfl) ?_
        clear hok
        intro hok
        refine TrAny.prom (i := 13) (d := 45) hok (OpVal.plain rfl rfl (v_pick_f rfl rfl rfl rfl)) (by kernel_rfl) rfl (bl rfl) ?_
        clear hok
        intro hok
        refine TrAny.prom (i := 14) (d := 2) hok (OpVal.plain rfl rfl (v_assign rfl rfl)) (by kernel_rfl) rfl (bl rfl) ?_
        clear hok
        intro hok
        refine TrAny.done (by kernel_rfl) (by kernel_rfl) hok (by kernel_rfl) (qthen_n ?_)
        have hz := Option.some.inj H
        subst hz
        refine Tr.ret (ret_r ⟨[(2, .bool false)], [], [], []⟩ [.bool false] [] [] (Imp.re _ [] [] (sc rfl sn) (by decide) rfl rfl rfl) rfl rfl ⟨rfl, rfl, rfl⟩ (.cons (resv_tmp rfl) .nil))
end Go.Proofs.Ytbeknohemgjfbaa.W
