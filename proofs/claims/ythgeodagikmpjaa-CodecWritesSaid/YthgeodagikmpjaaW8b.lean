/- The contracts of the walked functions: the printed walks. -/
import Derived.Test.YthgeodagikmpjaaKb
import Derived.Test.YthgeodagikmpjaaQb
import Derived.Test.YthgeodagikmpjaaWcodecab
import Derived.Test.YthgeodagikmpjaaWlaw02ab
import Derived.Test.YthgeodagikmpjaaWref02ab
namespace Go.Proofs.Ythgeodagikmpjaa.W
open Go Go.Proofs Go.Proofs.Ythgeodagikmpjaa.L Go.Proofs.Ythgeodagikmpjaa.Pu
set_option linter.unusedVariables false
set_option maxHeartbeats 4000000

theorem c_law02_CodecWrites (p1 : Int) (p2 : List Int) (A1 : Option Addr) (c1 : Nat) (r : Bool) (H : law02_CodecWrites p1 p2 = some r) :
    Ctr Try.prog 8 [.int .u64 p1, .slice A1 p2.length c1] [] [slF (rInt .u8) A1 c1 p2] (fun ret M' F' => ret = .bool r ∧ M' = [] ∧ F' = []) := by
  unfold law02_CodecWrites at H
  refine ctr_ofI (N := 39) Try.func8 rfl Try.ntmps8 rfl (Nat.le_of_ble_eq_true rfl) (fun γ0 w0 => ?_)
  refine Tr.seq ?_
  refine Tr.region ?_
  refine TrL.v (v_assign rfl rfl) rfl rfl (bl rfl) ?_
  refine TrL.nil (qthen_n ?_)
  refine Tr.seq ?_
  refine Tr.region ?_
  obtain ⟨r26, hr26, H⟩ := bnd H
  refine TrL.cons rfl (op_call0' (vs := []) (cap := []) [] rfl rfl (bl rfl) rfl rfl en24 (c_law02_awake r26 hr26) rfl (fun ret M' F' hR26 => ?_))
  obtain ⟨rfl, rfl, rfl⟩ := hR26
  refine TrL.v (v_assign rfl rfl) rfl rfl (bl rfl) ?_
  refine TrL.nil (qthen_n ?_)
  refine Tr.seq ?_
  refine Tr.seq ?_
  refine Tr.region ?_
  refine TrL.v (v_move rfl rfl) rfl rfl (bl rfl) ?_
  refine TrL.v (v_len rfl sl23 rfl) rfl rfl (bl rfl) ?_
  refine TrL.v (v_arith rfl rfl rfl ar_gtr) rfl rfl (bl rfl) ?_
  refine TrL.nil (qthen_n ?_)
  rcases ifc H with ⟨h14, H⟩ | ⟨h14, H⟩
  · refine Tr.cond_t rfl (bt_dec h14) ?_
    refine Tr.seq ?_
    refine Tr.region ?_
    refine TrL.v (v_move rfl rfl) rfl rfl (bl rfl) ?_
    refine TrL.v (v_assign rfl rfl) rfl rfl (bl rfl) ?_
    refine TrL.nil (qthen_n ?_)
    have hz := Option.some.inj H
    subst hz
    refine Tr.ret (qthen_r (ret_r ⟨[(4, .bool r26)], [], [], []⟩ [.bool r26] [] [] (Imp.re _ [] [] (sc rfl sn) (by decide) rfl rfl rfl) rfl rfl ⟨rfl, rfl, rfl⟩ (.cons (resv_tmp rfl) .nil)))
  · refine Tr.cond_f rfl (bf_dec h14) ?_
    refine Tr.skip (qthen_n ?_)
    refine Tr.seq ?_
    refine Tr.re ⟨[(0, .int .u64 p1), (1, .slice A1 p2.length c1), (5, .bool r26), (6, .bool r26), (7, .slice A1 p2.length c1), (8, .int .i64 ((p2.length : Int))), (9, .bool (decide (300 < ((p2.length : Int)))))], [], [slF (rInt .u8) A1 c1 p2], []⟩ [] [0] (sc rfl (sc rfl (sc rfl (sc rfl (sc rfl (sc rfl (sc rfl sn))))))) (by decide) rfl rfl rfl ?_
    refine Tr.regionD drawn (fun hok => ?_)
    refine TrAny.prom (i := 0) (d := 11) hok (OpVal.plain rfl rfl (v_move rfl rfl)) (by kernel_rfl) rfl (bl rfl) ?_
    clear hok
    intro hok
    refine TrAny.prom (i := 1) (d := 12) hok (OpVal.plain rfl rfl (v_move rfl rfl)) (by kernel_rfl) rfl (bl rfl) ?_
    clear hok
    intro hok
    rcases ifc H with ⟨h24, H⟩ | ⟨h24, H⟩
    · refine TrAny.prom (i := 2) (d := 13) hok (OpVal.yes rfl rfl rfl rfl h24 (v_move rfl rfl)) (by kernel_rfl) rfl (bl rfl) ?_
      clear hok
      intro hok
      refine TrAny.prom (i := 5) (d := 16) hok (OpVal.yes rfl rfl rfl rfl h24 (v_move rfl rfl)) (by kernel_rfl) rfl (bl rfl) ?_
      clear hok
      intro hok
      obtain ⟨r45, hr45, H⟩ := bnd H
      refine TrAny.nextY (j := 3) (by kernel_rfl) hok rfl (by kernel_rfl) rfl rfl rfl h24 (op_call0' (vs := [.int .u64 p1]) (cap := []) [] rfl rfl (bl rfl) rfl rfl en25 (c_codec_Num p1 r45 hr45) rfl (fun ret M' F' hR45 => ?_))
      obtain ⟨m45, rfl, rfl, rfl⟩ := hR45
      refine nxp hok (kp_imp (kp_c0 rfl)) rfl (by kernel_rfl) ?_
      clear hok
      intro hok
      refine TrAny.prom (i := 4) (d := 15) hok (OpVal.yes rfl rfl rfl rfl h24 (v_bstr (k := 1) rfl Try.underlying23 Try.underlying5 Try.underlying9 rfl rfl rfl)) (by kernel_rfl) rfl (bl rfl) ?_
      clear hok
      intro hok
      obtain ⟨r46, hr46, H⟩ := bnd H
      refine TrAny.nextY (j := 6) (by kernel_rfl) hok rfl (by kernel_rfl) rfl rfl rfl h24 (op_call0' (vs := [.int .u64 p1]) (cap := []) [] rfl rfl (bl rfl) rfl rfl en26 (c_ref02_Num p1 r46 hr46) rfl (fun ret M' F' hR46 => ?_))
      obtain ⟨m46, rfl, rfl, rfl⟩ := hR46
      refine nxp hok (kp_imp (kp_c0 rfl)) rfl (by kernel_rfl) ?_
      clear hok
      intro hok
      refine TrAny.prom (i := 7) (d := 18) hok (OpVal.yes rfl rfl rfl rfl h24 (v_bstr (k := 2) rfl Try.underlying23 Try.underlying5 Try.underlying9 rfl rfl rfl)) (by kernel_rfl) rfl (bl rfl) ?_
      clear hok
      intro hok
      refine TrAny.prom (i := 8) (d := 19) hok (OpVal.yes rfl rfl rfl rfl h24 (v_streq rfl rfl rfl)) (by kernel_rfl) rfl (bl rfl) ?_
      clear hok
      intro hok
      refine TrAny.prom (i := 9) (d := 20) hok (OpVal.plain rfl rfl (v_pick_t rfl rfl h24 rfl)) (by kernel_rfl) rfl (bl rfl) ?_
      clear hok
      intro hok
      refine TrAny.prom (i := 10) (d := 21) hok (OpVal.plain rfl rfl (v_move rfl rfl)) (by kernel_rfl) rfl (bl rfl) ?_
      clear hok
      intro hok
      rcases ifc H with ⟨h25, H⟩ | ⟨h25, H⟩
      · refine TrAny.prom (i := 11) (d := 22) hok (OpVal.yes rfl rfl rfl rfl (bt_dec h25) (v_move rfl rfl)) (by kernel_rfl) rfl (bl rfl) ?_
        clear hok
        intro hok
        refine TrAny.prom (i := 14) (d := 25) hok (OpVal.yes rfl rfl rfl rfl (bt_dec h25) (v_move rfl rfl)) (by kernel_rfl) rfl (bl rfl) ?_
        clear hok
        intro hok
        obtain ⟨r47, hr47, H⟩ := bnd H
        refine TrAny.nextY (j := 12) (by kernel_rfl) hok rfl (by kernel_rfl) rfl rfl rfl (bt_dec h25) (op_call0' (vs := [.int .u64 p1]) (cap := []) [] rfl rfl (bl rfl) rfl rfl en27 (c_codec_Fixed p1 r47 hr47) rfl (fun ret M' F' hR47 => ?_))
        obtain ⟨m47, rfl, rfl, rfl⟩ := hR47
        refine nxp hok (kp_imp (kp_c0 rfl)) rfl (by kernel_rfl) ?_
        clear hok
        intro hok
        refine TrAny.prom (i := 13) (d := 24) hok (OpVal.yes rfl rfl rfl rfl (bt_dec h25) (v_bstr (k := 3) rfl Try.underlying23 Try.underlying5 Try.underlying9 rfl rfl rfl)) (by kernel_rfl) rfl (bl rfl) ?_
        clear hok
        intro hok
        obtain ⟨r48, hr48, H⟩ := bnd H
        refine TrAny.nextY (j := 15) (by kernel_rfl) hok rfl (by kernel_rfl) rfl rfl rfl (bt_dec h25) (op_call0' (vs := [.int .u64 p1]) (cap := []) [] rfl rfl (bl rfl) rfl rfl en28 (c_ref02_Fixed p1 r48 hr48) rfl (fun ret M' F' hR48 => ?_))
        obtain ⟨m48, rfl, rfl, rfl⟩ := hR48
        refine nxp hok (kp_imp (kp_c0 rfl)) rfl (by kernel_rfl) ?_
        clear hok
        intro hok
        refine TrAny.prom (i := 16) (d := 27) hok (OpVal.yes rfl rfl rfl rfl (bt_dec h25) (v_bstr (k := 4) rfl Try.underlying23 Try.underlying5 Try.underlying9 rfl rfl rfl)) (by kernel_rfl) rfl (bl rfl) ?_
        clear hok
        intro hok
        refine TrAny.prom (i := 17) (d := 28) hok (OpVal.yes rfl rfl rfl rfl (bt_dec h25) (v_streq rfl rfl rfl)) (by kernel_rfl) rfl (bl rfl) ?_
        clear hok
        intro hok
        refine TrAny.prom (i := 18) (d := 29) hok (OpVal.plain rfl rfl (v_pick_t rfl rfl (bt_dec h25) rfl)) (by kernel_rfl) rfl (bl rfl) ?_
        clear hok
        intro hok
        refine TrAny.prom (i := 19) (d := 30) hok (OpVal.plain rfl rfl (v_move rfl rfl)) (by kernel_rfl) rfl (bl rfl) ?_
        clear hok
        intro hok
        rcases ifc H with ⟨h26, H⟩ | ⟨h26, H⟩
        · refine TrAny.prom (i := 20) (d := 31) hok (OpVal.yes rfl rfl rfl rfl (bt_dec h26) (v_move rfl rfl)) (by kernel_rfl) rfl (bl rfl) ?_
          clear hok
          intro hok
          refine TrAny.prom (i := 23) (d := 34) hok (OpVal.yes rfl rfl rfl rfl (bt_dec h26) (v_move rfl rfl)) (by kernel_rfl) rfl (bl rfl) ?_
          clear hok
          intro hok
          obtain ⟨r49, hr49, H⟩ := bnd H
          refine TrAny.nextY (j := 21) (by kernel_rfl) hok rfl (by kernel_rfl) rfl rfl rfl (bt_dec h26) (op_call0' (vs := [.slice A1 p2.length c1]) (cap := []) [0] rfl rfl (bl rfl) rfl rfl en29 (c_codec_Text p2 A1 c1 r49 hr49) rfl (fun ret M' F' hR49 => ?_))
          obtain ⟨m49, rfl, rfl, rfl⟩ := hR49
          refine nxp hok (kp_imp (kp_c0 rfl)) rfl (by kernel_rfl) ?_
          clear hok
          intro hok
          refine TrAny.prom (i := 22) (d := 33) hok (OpVal.yes rfl rfl rfl rfl (bt_dec h26) (v_bstr (k := 5) rfl Try.underlying23 Try.underlying5 Try.underlying9 rfl rfl rfl)) (by kernel_rfl) rfl (bl rfl) ?_
          clear hok
          intro hok
          obtain ⟨r50, hr50, H⟩ := bnd H
          refine TrAny.nextY (j := 24) (by kernel_rfl) hok rfl (by kernel_rfl) rfl rfl rfl (bt_dec h26) (op_call0' (vs := [.slice A1 p2.length c1]) (cap := []) [0] rfl rfl (bl rfl) rfl rfl en30 (c_ref02_Text p2 A1 c1 r50 hr50) rfl (fun ret M' F' hR50 => ?_))
          obtain ⟨m50, rfl, rfl, rfl⟩ := hR50
          refine nxp hok (kp_imp (kp_c0 rfl)) rfl (by kernel_rfl) ?_
          clear hok
          intro hok
          refine TrAny.prom (i := 25) (d := 36) hok (OpVal.yes rfl rfl rfl rfl (bt_dec h26) (v_bstr (k := 6) rfl Try.underlying23 Try.underlying5 Try.underlying9 rfl rfl rfl)) (by kernel_rfl) rfl (bl rfl) ?_
          clear hok
          intro hok
          refine TrAny.prom (i := 26) (d := 37) hok (OpVal.yes rfl rfl rfl rfl (bt_dec h26) (v_streq rfl rfl rfl)) (by kernel_rfl) rfl (bl rfl) ?_
          clear hok
          intro hok
          refine TrAny.prom (i := 27) (d := 38) hok (OpVal.plain rfl rfl (v_pick_t rfl rfl (bt_dec h26) rfl)) (by kernel_rfl) rfl (bl rfl) ?_
          clear hok
          intro hok
          refine TrAny.prom (i := 28) (d := 4) hok (OpVal.plain rfl rfl (v_assign rfl rfl)) (by kernel_rfl) rfl (bl rfl) ?_
          clear hok
          intro hok
          refine TrAny.done (by kernel_rfl) (by kernel_rfl) hok (by kernel_rfl) (qthen_n ?_)
          have hz := Option.some.inj H
          subst hz
          refine Tr.ret (ret_r ⟨[(4, .bool (decide ((bstr r49) = (bstr r50))))], [], [], []⟩ [.bool (decide ((bstr r49) = (bstr r50)))] [] [] (Imp.re _ [] [] (sc rfl sn) (by decide) rfl rfl rfl) rfl rfl ⟨rfl, rfl, rfl⟩ (.cons (resv_tmp rfl) .nil))
        · refine TrAny.prom (i := 20) (d := 31) hok (OpVal.no rfl (fun c h => by cases h) rfl rfl rfl (gn_t (bf_dec h26))) (by kernel_rfl) rfl (bl rfl) ?_
          clear hok
          intro hok
          refine TrAny.prom (i := 21) (d := 32) hok (OpVal.no rfl (fun c h => by cases h) rfl rfl rfl (gn_t (bf_dec h26))) (by kernel_rfl) rfl (bl rfl) ?_
          clear hok
          intro hok
          refine TrAny.prom (i := 22) (d := 33) hok (OpVal.no rfl (fun c h => by cases h) rfl rfl rfl (gn_t (bf_dec h26))) (by kernel_rfl) rfl (bl rfl) ?_
          clear hok
          intro hok
          refine TrAny.prom (i := 23) (d := 34) hok (OpVal.no rfl (fun c h => by cases h) rfl rfl rfl (gn_t (bf_dec h26))) (by kernel_rfl) rfl (bl rfl) ?_
          clear hok
          intro hok
          refine TrAny.prom (i := 24) (d := 35) hok (OpVal.no rfl (fun c h => by cases h) rfl rfl rfl (gn_t (bf_dec h26))) (by kernel_rfl) rfl (bl rfl) ?_
          clear hok
          intro hok
          refine TrAny.prom (i := 25) (d := 36) hok (OpVal.no rfl (fun c h => by cases h) rfl rfl rfl (gn_t (bf_dec h26))) (by kernel_rfl) rfl (bl rfl) ?_
          clear hok
          intro hok
          refine TrAny.prom (i := 26) (d := 37) hok (OpVal.no rfl (fun c h => by cases h) rfl rfl rfl (gn_t (bf_dec h26))) (by kernel_rfl) rfl (bl rfl) ?_
          clear hok
          intro hok
          refine TrAny.prom (i := 27) (d := 38) hok (OpVal.plain rfl rfl (v_pick_f rfl rfl (bf_dec h26) rfl)) (by kernel_rfl) rfl (bl rfl) ?_
          clear hok
          intro hok
          refine TrAny.prom (i := 28) (d := 4) hok (OpVal.plain rfl rfl (v_assign rfl rfl)) (by kernel_rfl) rfl (bl rfl) ?_
          clear hok
          intro hok
          refine TrAny.done (by kernel_rfl) (by kernel_rfl) hok (by kernel_rfl) (qthen_n ?_)
          have hz := Option.some.inj H
          subst hz
          refine Tr.ret (ret_r ⟨[(4, .bool false)], [], [], []⟩ [.bool false] [] [] (Imp.re _ [] [] (sc rfl sn) (by decide) rfl rfl rfl) rfl rfl ⟨rfl, rfl, rfl⟩ (.cons (resv_tmp rfl) .nil))
      · refine TrAny.prom (i := 11) (d := 22) hok (OpVal.no rfl (fun c h => by cases h) rfl rfl rfl (gn_t (bf_dec h25))) (by kernel_rfl) rfl (bl rfl) ?_
        clear hok
        intro hok
        refine TrAny.prom (i := 12) (d := 23) hok (OpVal.no rfl (fun c h => by cases h) rfl rfl rfl (gn_t (bf_dec h25))) (by kernel_rfl) rfl (bl rfl) ?_
        clear hok
        intro hok
        refine TrAny.prom (i := 13) (d := 24) hok (OpVal.no rfl (fun c h => by cases h) rfl rfl rfl (gn_t (bf_dec h25))) (by kernel_rfl) rfl (bl rfl) ?_
        clear hok
        intro hok
        refine TrAny.prom (i := 14) (d := 25) hok (OpVal.no rfl (fun c h => by cases h) rfl rfl rfl (gn_t (bf_dec h25))) (by kernel_rfl) rfl (bl rfl) ?_
        clear hok
        intro hok
        refine TrAny.prom (i := 15) (d := 26) hok (OpVal.no rfl (fun c h => by cases h) rfl rfl rfl (gn_t (bf_dec h25))) (by kernel_rfl) rfl (bl rfl) ?_
        clear hok
        intro hok
        refine TrAny.prom (i := 16) (d := 27) hok (OpVal.no rfl (fun c h => by cases h) rfl rfl rfl (gn_t (bf_dec h25))) (by kernel_rfl) rfl (bl rfl) ?_
        clear hok
        intro hok
        refine TrAny.prom (i := 17) (d := 28) hok (OpVal.no rfl (fun c h => by cases h) rfl rfl rfl (gn_t (bf_dec h25))) (by kernel_rfl) rfl (bl rfl) ?_
        clear hok
        intro hok
        refine TrAny.prom (i := 18) (d := 29) hok (OpVal.plain rfl rfl (v_pick_f rfl rfl (bf_dec h25) rfl)) (by kernel_rfl) rfl (bl rfl) ?_
        clear hok
        intro hok
        refine TrAny.prom (i := 19) (d := 30) hok (OpVal.plain rfl rfl (v_move rfl rfl)) (by kernel_rfl) rfl (bl rfl) ?_
        clear hok
        intro hok
        refine TrAny.prom (i := 20) (d := 31) hok (OpVal.no rfl (fun c h => by cases h) rfl rfl rfl (gn_t rfl)) (by kernel_rfl) rfl (bl rfl) ?_
        clear hok
        intro hok
        refine TrAny.prom (i := 21) (d := 32) hok (OpVal.no rfl (fun c h => by cases h) rfl rfl rfl (gn_t rfl)) (by kernel_rfl) rfl (bl rfl) ?_
        clear hok
        intro hok
        refine TrAny.prom (i := 22) (d := 33) hok (OpVal.no rfl (fun c h => by cases h) rfl rfl rfl (gn_t rfl)) (by kernel_rfl) rfl (bl rfl) ?_
        clear hok
        intro hok
        refine TrAny.prom (i := 23) (d := 34) hok (OpVal.no rfl (fun c h => by cases h) rfl rfl rfl (gn_t rfl)) (by kernel_rfl) rfl (bl rfl) ?_
        clear hok
        intro hok
        refine TrAny.prom (i := 24) (d := 35) hok (OpVal.no rfl (fun c h => by cases h) rfl rfl rfl (gn_t rfl)) (by kernel_rfl) rfl (bl rfl) ?_
        clear hok
        intro hok
        refine TrAny.prom (i := 25) (d := 36) hok (OpVal.no rfl (fun c h => by cases h) rfl rfl rfl (gn_t rfl)) (by kernel_rfl) rfl (bl rfl) ?_
        clear hok
        intro hok
        refine TrAny.prom (i := 26) (d := 37) hok (OpVal.no rfl (fun c h => by cases h) rfl rfl rfl (gn_t rfl)) (by kernel_rfl) rfl (bl rfl) ?_
        clear hok
        intro hok
        refine TrAny.prom (i := 27) (d := 38) hok (OpVal.plain rfl rfl (v_pick_f rfl rfl rfl rfl)) (by kernel_rfl) rfl (bl rfl) ?_
        clear hok
        intro hok
        refine TrAny.prom (i := 28) (d := 4) hok (OpVal.plain rfl rfl (v_assign rfl rfl)) (by kernel_rfl) rfl (bl rfl) ?_
        clear hok
        intro hok
        refine TrAny.done (by kernel_rfl) (by kernel_rfl) hok (by kernel_rfl) (qthen_n ?_)
        have hz := Option.some.inj H
        subst hz
        refine Tr.ret (ret_r ⟨[(4, .bool false)], [], [], []⟩ [.bool false] [] [] (Imp.re _ [] [] (sc rfl sn) (by decide) rfl rfl rfl) rfl rfl ⟨rfl, rfl, rfl⟩ (.cons (resv_tmp rfl) .nil))
    · refine TrAny.prom (i := 2) (d := 13) hok (OpVal.no rfl (fun c h => by cases h) rfl rfl rfl (gn_t (bf_b h24))) (by kernel_rfl) rfl (bl rfl) ?_
      clear hok
      intro hok
      refine TrAny.prom (i := 3) (d := 14) hok (OpVal.no rfl (fun c h => by cases h) rfl rfl rfl (gn_t (bf_b h24))) (by kernel_rfl) rfl (bl rfl) ?_
      clear hok
      intro hok
      refine TrAny.prom (i := 4) (d := 15) hok (OpVal.no rfl (fun c h => by cases h) rfl rfl rfl (gn_t (bf_b h24))) (by kernel_rfl) rfl (bl rfl) ?_
      clear hok
      intro hok
      refine TrAny.prom (i := 5) (d := 16) hok (OpVal.no rfl (fun c h => by cases h) rfl rfl rfl (gn_t (bf_b h24))) (by kernel_rfl) rfl (bl rfl) ?_
      clear hok
      intro hok
      refine TrAny.prom (i := 6) (d := 17) hok (OpVal.no rfl (fun c h => by cases h) rfl rfl rfl (gn_t (bf_b h24))) (by kernel_rfl) rfl (bl rfl) ?_
      clear hok
      intro hok
      refine TrAny.prom (i := 7) (d := 18) hok (OpVal.no rfl (fun c h => by cases h) rfl rfl rfl (gn_t (bf_b h24))) (by kernel_rfl) rfl (bl rfl) ?_
      clear hok
      intro hok
      refine TrAny.prom (i := 8) (d := 19) hok (OpVal.no rfl (fun c h => by cases h) rfl rfl rfl (gn_t (bf_b h24))) (by kernel_rfl) rfl (bl rfl) ?_
      clear hok
      intro hok
      refine TrAny.prom (i := 9) (d := 20) hok (OpVal.plain rfl rfl (v_pick_f rfl rfl (bf_b h24) rfl)) (by kernel_rfl) rfl (bl rfl) ?_
      clear hok
      intro hok
      refine TrAny.prom (i := 10) (d := 21) hok (OpVal.plain rfl rfl (v_move rfl rfl)) (by kernel_rfl) rfl (bl rfl) ?_
      clear hok
      intro hok
      refine TrAny.prom (i := 11) (d := 22) hok (OpVal.no rfl (fun c h => by cases h) rfl rfl rfl (gn_t rfl)) (by kernel_rfl) rfl (bl rfl) ?_
      clear hok
      intro hok
      refine TrAny.prom (i := 12) (d := 23) hok (OpVal.no rfl (fun c h => by cases h) rfl rfl rfl (gn_t rfl)) (by kernel_rfl) rfl (bl rfl) ?_
      clear hok
      intro hok
      refine TrAny.prom (i := 13) (d := 24) hok (OpVal.no rfl (fun c h => by cases h) rfl rfl rfl (gn_t rfl)) (by kernel_rfl) rfl (bl rfl) ?_
      clear hok
      intro hok
      refine TrAny.prom (i := 14) (d := 25) hok (OpVal.no rfl (fun c h => by cases h) rfl rfl rfl (gn_t rfl)) (by kernel_rfl) rfl (bl rfl) ?_
      clear hok
      intro hok
      refine TrAny.prom (i := 15) (d := 26) hok (OpVal.no rfl (fun c h => by cases h) rfl rfl rfl (gn_t rfl)) (by kernel_rfl) rfl (bl rfl) ?_
      clear hok
      intro hok
      refine TrAny.prom (i := 16) (d := 27) hok (OpVal.no rfl (fun c h => by cases h) rfl rfl rfl (gn_t rfl)) (by kernel_rfl) rfl (bl rfl) ?_
      clear hok
      intro hok
      refine TrAny.prom (i := 17) (d := 28) hok (OpVal.no rfl (fun c h => by cases h) rfl rfl rfl (gn_t rfl)) (by kernel_rfl) rfl (bl rfl) ?_
      clear hok
      intro hok
      refine TrAny.prom (i := 18) (d := 29) hok (OpVal.plain rfl rfl (v_pick_f rfl rfl rfl rfl)) (by kernel_rfl) rfl (bl rfl) ?_
      clear hok
      intro hok
      refine TrAny.prom (i := 19) (d := 30) hok (OpVal.plain rfl rfl (v_move rfl rfl)) (by kernel_rfl) rfl (bl rfl) ?_
      clear hok
      intro hok
      refine TrAny.prom (i := 20) (d := 31) hok (OpVal.no rfl (fun c h => by cases h) rfl rfl rfl (gn_t rfl)) (by kernel_rfl) rfl (bl rfl) ?_
      clear hok
      intro hok
      refine TrAny.prom (i := 21) (d := 32) hok (OpVal.no rfl (fun c h => by cases h) rfl rfl rfl (gn_t rfl)) (by kernel_rfl) rfl (bl rfl) ?_
      clear hok
      intro hok
      refine TrAny.prom (i := 22) (d := 33) hok (OpVal.no rfl (fun c h => by cases h) rfl rfl rfl (gn_t rfl)) (by kernel_rfl) rfl (bl rfl) ?_
      clear hok
      intro hok
      refine TrAny.prom (i := 23) (d := 34) hok (OpVal.no rfl (fun c h => by cases h) rfl rfl rfl (gn_t rfl)) (by kernel_rfl) rfl (bl rfl) ?_
      clear hok
      intro hok
      refine TrAny.prom (i := 24) (d := 35) hok (OpVal.no rfl (fun c h => by cases h) rfl rfl rfl (gn_t rfl)) (by kernel_rfl) rfl (bl rfl) ?_
      clear hok
      intro hok
      refine TrAny.prom (i := 25) (d := 36) hok (OpVal.no rfl (fun c h => by cases h) rfl rfl rfl (gn_t rfl)) (by kernel_rfl) rfl (bl rfl) ?_
      clear hok
      intro hok
      refine TrAny.prom (i := 26) (d := 37) hok (OpVal.no rfl (fun c h => by cases h) rfl rfl rfl (gn_t rfl)) (by kernel_rfl) rfl (bl rfl) ?_
      clear hok
      intro hok
      refine TrAny.prom (i := 27) (d := 38) hok (OpVal.plain rfl rfl (v_pick_f rfl rfl rfl rfl)) (by kernel_rfl) rfl (bl rfl) ?_
      clear hok
      intro hok
      refine TrAny.prom (i := 28) (d := 4) hok (OpVal.plain rfl rfl (v_assign rfl rfl)) (by kernel_rfl) rfl (bl rfl) ?_
      clear hok
      intro hok
      refine TrAny.done (by kernel_rfl) (by kernel_rfl) hok (by kernel_rfl) (qthen_n ?_)
      have hz := Option.some.inj H
      subst hz
      refine Tr.ret (ret_r ⟨[(4, .bool false)], [], [], []⟩ [.bool false] [] [] (Imp.re _ [] [] (sc rfl sn) (by decide) rfl rfl rfl) rfl rfl ⟨rfl, rfl, rfl⟩ (.cons (resv_tmp rfl) .nil))
end Go.Proofs.Ythgeodagikmpjaa.W
