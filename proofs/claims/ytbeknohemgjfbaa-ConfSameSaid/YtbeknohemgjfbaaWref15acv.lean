import Derived.Test.YtbeknohemgjfbaaKcv
import Derived.Test.YtbeknohemgjfbaaQcv
import Derived.Test.YtbeknohemgjfbaaWref04acv
import Derived.Test.YtbeknohemgjfbaaWref06bcv
namespace Go.Proofs.Ytbeknohemgjfbaa.W
open Go Go.Proofs Go.Proofs.Ytbeknohemgjfbaa.L Go.Proofs.Ytbeknohemgjfbaa.Pu
set_option linter.unusedVariables false
set_option maxHeartbeats 4000000

theorem c_ref15_Conf (p1 : Int) (p2 : Int) (p3 : List (Int × Int)) (A1 : Option Addr) (c1 : Nat) (r : Int) (H : ref15_Conf p1 p2 p3 = some r) :
  Ctr Try.prog 154 [.int .i64 p1, .int .i64 p2, .slice A1 p3.length c1] [] [slF rp_u64_u64 A1 c1 p3] (fun ret M' F' => ret = .int .i64 r ∧ M' = [] ∧ F' = []) := by
 unfold ref15_Conf at H
 refine ctr_ofI (N := 41) Try.func154 rfl Try.ntmps154 rfl (Nat.le_of_ble_eq_true rfl) (fun γ0 w0 => ?_)
 refine Tr.seq ?_
 refine Tr.region ?_
 refine TrL.v (v_assign rfl rfl) rfl rfl (bl rfl) ?_
 refine TrL.nil (qthen_n ?_)
 refine Tr.seq ?_
 refine Tr.seq ?_
 refine Tr.region ?_
 refine TrL.v (v_move rfl rfl) rfl rfl (bl rfl) ?_
 obtain ⟨r7, hr7, H⟩ := bnd H
 refine TrL.cons rfl (op_call0' (vs := [.int .i64 p1]) (cap := []) [] rfl rfl (bl rfl) rfl rfl en78 (c_ref06_May p1 r7 hr7) rfl (fun ret M' F' hR7 => ?_))
 obtain ⟨rfl, rfl, rfl⟩ := hR7
 refine TrL.v (v_notd rfl (bdec rfl)) rfl rfl (bl rfl) ?_
 refine TrL.v (v_move rfl rfl) rfl rfl (bl rfl) ?_
 rcases ifc H with ⟨h20, H⟩ | ⟨h20, H⟩
 ·refine TrL.cons_no rfl rfl rfl (gn_f (bt_dec h20)) rfl (bl rfl) ?_
  refine TrL.cons_no rfl rfl rfl (gn_f (bt_dec h20)) rfl (bl rfl) ?_
  refine TrL.v (v_pick_t rfl rfl (bt_dec h20) rfl) rfl rfl (bl rfl) ?_
  refine TrL.v (v_move rfl rfl) rfl rfl (bl rfl) ?_
  refine TrL.cons_no rfl rfl rfl (gn_f rfl) rfl (bl rfl) ?_
  refine TrL.cons_no rfl rfl rfl (gn_f rfl) rfl (bl rfl) ?_
  refine TrL.v (v_pick_t rfl rfl rfl rfl) rfl rfl (bl rfl) ?_
  refine TrL.v (v_move rfl rfl) rfl rfl (bl rfl) ?_
  refine TrL.cons_no rfl rfl rfl (gn_f rfl) rfl (bl rfl) ?_
  refine TrL.cons_no rfl rfl rfl (gn_f rfl) rfl (bl rfl) ?_
  refine TrL.cons_no rfl rfl rfl (gn_f rfl) rfl (bl rfl) ?_
  refine TrL.v (v_pick_t rfl rfl rfl rfl) rfl rfl (bl rfl) ?_
  refine TrL.v (v_move rfl rfl) rfl rfl (bl rfl) ?_
  refine TrL.cons_no rfl rfl rfl (gn_f rfl) rfl (bl rfl) ?_
  refine TrL.cons_no rfl rfl rfl (gn_f rfl) rfl (bl rfl) ?_
  refine TrL.cons_no rfl rfl rfl (gn_f rfl) rfl (bl rfl) ?_
  refine TrL.v (v_pick_t rfl rfl rfl rfl) rfl rfl (bl rfl) ?_
  refine TrL.nil (qthen_n ?_)
  refine Tr.cond_t rfl rfl ?_
  refine Tr.seq ?_
  refine Tr.region ?_
  refine TrL.v (v_assign rfl rfl) rfl rfl (bl rfl) ?_
  refine TrL.nil (qthen_n ?_)
  have hz := Option.some.inj H
  subst hz
  refine Tr.ret (qthen_r (ret_r ⟨[(6, .int .i64 9)], [], [], []⟩ [.int .i64 9] [] [] (Imp.re _ [] [] (sc rfl sn) (by decide) rfl rfl rfl) rfl rfl ⟨rfl, rfl, rfl⟩ (.cons (resv_tmp rfl) .nil)))
 ·refine TrL.cons_yes rfl rfl rfl (bf_dec h20) (OpTr.v (v_move rfl rfl) rfl (bl rfl) ?_)
  refine TrL.cons_yes rfl rfl rfl (bf_dec h20) (OpTr.v (v_arith rfl rfl rfl ar_lss) rfl (bl rfl) ?_)
  refine TrL.v (v_pick_f rfl rfl (bf_dec h20) rfl) rfl rfl (bl rfl) ?_
  refine TrL.v (v_move rfl rfl) rfl rfl (bl rfl) ?_
  rcases ifc H with ⟨h21, H⟩ | ⟨h21, H⟩
  ·refine TrL.cons_no rfl rfl rfl (gn_f (bt_dec h21)) rfl (bl rfl) ?_
   refine TrL.cons_no rfl rfl rfl (gn_f (bt_dec h21)) rfl (bl rfl) ?_
   refine TrL.v (v_pick_t rfl rfl (bt_dec h21) rfl) rfl rfl (bl rfl) ?_
   refine TrL.v (v_move rfl rfl) rfl rfl (bl rfl) ?_
   refine TrL.cons_no rfl rfl rfl (gn_f rfl) rfl (bl rfl) ?_
   refine TrL.cons_no rfl rfl rfl (gn_f rfl) rfl (bl rfl) ?_
   refine TrL.cons_no rfl rfl rfl (gn_f rfl) rfl (bl rfl) ?_
   refine TrL.v (v_pick_t rfl rfl rfl rfl) rfl rfl (bl rfl) ?_
   refine TrL.v (v_move rfl rfl) rfl rfl (bl rfl) ?_
   refine TrL.cons_no rfl rfl rfl (gn_f rfl) rfl (bl rfl) ?_
   refine TrL.cons_no rfl rfl rfl (gn_f rfl) rfl (bl rfl) ?_
   refine TrL.cons_no rfl rfl rfl (gn_f rfl) rfl (bl rfl) ?_
   refine TrL.v (v_pick_t rfl rfl rfl rfl) rfl rfl (bl rfl) ?_
   refine TrL.nil (qthen_n ?_)
   refine Tr.cond_t rfl rfl ?_
   refine Tr.seq ?_
   refine Tr.region ?_
   refine TrL.v (v_assign rfl rfl) rfl rfl (bl rfl) ?_
   refine TrL.nil (qthen_n ?_)
   have hz := Option.some.inj H
   subst hz
   refine Tr.ret (qthen_r (ret_r ⟨[(6, .int .i64 9)], [], [], []⟩ [.int .i64 9] [] [] (Imp.re _ [] [] (sc rfl sn) (by decide) rfl rfl rfl) rfl rfl ⟨rfl, rfl, rfl⟩ (.cons (resv_tmp rfl) .nil)))
  ·refine TrL.cons_yes rfl rfl rfl (bf_dec h21) (OpTr.v (v_move rfl rfl) rfl (bl rfl) ?_)
   refine TrL.cons_yes rfl rfl rfl (bf_dec h21) (OpTr.v (v_arith rfl rfl rfl ar_gtr) rfl (bl rfl) ?_)
   refine TrL.v (v_pick_f rfl rfl (bf_dec h21) rfl) rfl rfl (bl rfl) ?_
   refine TrL.v (v_move rfl rfl) rfl rfl (bl rfl) ?_
   rcases ifc H with ⟨h22, H⟩ | ⟨h22, H⟩
   ·refine TrL.cons_no rfl rfl rfl (gn_f (bt_dec h22)) rfl (bl rfl) ?_
    refine TrL.cons_no rfl rfl rfl (gn_f (bt_dec h22)) rfl (bl rfl) ?_
    refine TrL.cons_no rfl rfl rfl (gn_f (bt_dec h22)) rfl (bl rfl) ?_
    refine TrL.v (v_pick_t rfl rfl (bt_dec h22) rfl) rfl rfl (bl rfl) ?_
    refine TrL.v (v_move rfl rfl) rfl rfl (bl rfl) ?_
    refine TrL.cons_no rfl rfl rfl (gn_f rfl) rfl (bl rfl) ?_
    refine TrL.cons_no rfl rfl rfl (gn_f rfl) rfl (bl rfl) ?_
    refine TrL.cons_no rfl rfl rfl (gn_f rfl) rfl (bl rfl) ?_
    refine TrL.v (v_pick_t rfl rfl rfl rfl) rfl rfl (bl rfl) ?_
    refine TrL.nil (qthen_n ?_)
    refine Tr.cond_t rfl rfl ?_
    refine Tr.seq ?_
    refine Tr.region ?_
    refine TrL.v (v_assign rfl rfl) rfl rfl (bl rfl) ?_
    refine TrL.nil (qthen_n ?_)
    have hz := Option.some.inj H
    subst hz
    refine Tr.ret (qthen_r (ret_r ⟨[(6, .int .i64 9)], [], [], []⟩ [.int .i64 9] [] [] (Imp.re _ [] [] (sc rfl sn) (by decide) rfl rfl rfl) rfl rfl ⟨rfl, rfl, rfl⟩ (.cons (resv_tmp rfl) .nil)))
   ·refine TrL.cons_yes rfl rfl rfl (bf_dec h22) (OpTr.v (v_move rfl rfl) rfl (bl rfl) ?_)
    refine TrL.cons_yes rfl rfl rfl (bf_dec h22) (OpTr.v (v_len rfl sl89 rfl) rfl (bl rfl) ?_)
    refine TrL.cons_yes rfl rfl rfl (bf_dec h22) (OpTr.v (v_arith rfl rfl rfl ar_lss) rfl (bl rfl) ?_)
    refine TrL.v (v_pick_f rfl rfl (bf_dec h22) rfl) rfl rfl (bl rfl) ?_
    refine TrL.v (v_move rfl rfl) rfl rfl (bl rfl) ?_
    rcases ifc H with ⟨h23, H⟩ | ⟨h23, H⟩
    ·refine TrL.cons_no rfl rfl rfl (gn_f (bt_dec h23)) rfl (bl rfl) ?_
     refine TrL.cons_no rfl rfl rfl (gn_f (bt_dec h23)) rfl (bl rfl) ?_
     refine TrL.cons_no rfl rfl rfl (gn_f (bt_dec h23)) rfl (bl rfl) ?_
     refine TrL.v (v_pick_t rfl rfl (bt_dec h23) rfl) rfl rfl (bl rfl) ?_
     refine TrL.nil (qthen_n ?_)
     refine Tr.cond_t rfl rfl ?_
     refine Tr.seq ?_
     refine Tr.region ?_
     refine TrL.v (v_assign rfl rfl) rfl rfl (bl rfl) ?_
     refine TrL.nil (qthen_n ?_)
     have hz := Option.some.inj H
     subst hz
     refine Tr.ret (qthen_r (ret_r ⟨[(6, .int .i64 9)], [], [], []⟩ [.int .i64 9] [] [] (Imp.re _ [] [] (sc rfl sn) (by decide) rfl rfl rfl) rfl rfl ⟨rfl, rfl, rfl⟩ (.cons (resv_tmp rfl) .nil)))
    ·refine TrL.cons_yes rfl rfl rfl (bf_dec h23) (OpTr.v (v_move rfl rfl) rfl (bl rfl) ?_)
     refine TrL.cons_yes rfl rfl rfl (bf_dec h23) (OpTr.v (v_len rfl sl89 rfl) rfl (bl rfl) ?_)
     refine TrL.cons_yes rfl rfl rfl (bf_dec h23) (OpTr.v (v_arith rfl rfl rfl ar_gtr) rfl (bl rfl) ?_)
     refine TrL.v (v_pick_f rfl rfl (bf_dec h23) rfl) rfl rfl (bl rfl) ?_
     refine TrL.nil (qthen_n ?_)
     rcases ifc H with ⟨h24, H⟩ | ⟨h24, H⟩
     ·refine Tr.cond_t rfl (bt_dec h24) ?_
      refine Tr.seq ?_
      refine Tr.region ?_
      refine TrL.v (v_assign rfl rfl) rfl rfl (bl rfl) ?_
      refine TrL.nil (qthen_n ?_)
      have hz := Option.some.inj H
      subst hz
      refine Tr.ret (qthen_r (ret_r ⟨[(6, .int .i64 9)], [], [], []⟩ [.int .i64 9] [] [] (Imp.re _ [] [] (sc rfl sn) (by decide) rfl rfl rfl) rfl rfl ⟨rfl, rfl, rfl⟩ (.cons (resv_tmp rfl) .nil)))
     ·refine Tr.cond_f rfl (bf_dec h24) ?_
      refine Tr.skip (qthen_n ?_)
      refine Tr.seq ?_
      refine Tr.seq ?_
      refine Tr.region ?_
      refine TrL.v (v_assign rfl rfl) rfl rfl (bl rfl) ?_
      refine TrL.nil (qthen_n ?_)
      obtain ⟨x2, hx3, H⟩ := bnd H
      refine Tr.cutE (D := Unit) (M := Unit) .ret (fun d3 => x2 = .inl d3) (fun d3 m18 => ⟨[(6, .int .i64 1)], [], [], []⟩) ?_ (fun d3 m18 hd3 => ?_)
      ·refine Tr.cutE (D := Unit) (M := Unit) .normal (fun d4 => x2 = .inr d4) (fun d4 m19 => ⟨[], [], [], []⟩) ?_ (fun d4 m19 hd4 => ?_)
       ·refine Tr.block (Tr.loopI (ι := Unit) (step := ref15_Conf_s0 p3) (fun s5 m15 => ⟨[(2, .slice A1 p3.length c1), (7, .int .i64 s5)], [], [slF rp_u64_u64 A1 c1 p3], []⟩) (()) hx3 (Imp.re _ [] [0] (sc rfl (sc rfl sn)) (by decide) rfl rfl rfl) (fun s5 m15 y2 hy2 hx4 => ?_))
        unfold ref15_Conf_s0 at hy2
        refine Tr.seq ?_
        refine Tr.seq ?_
        refine Tr.region ?_
        refine TrL.v (v_move rfl rfl) rfl rfl (bl rfl) ?_
        refine TrL.v (v_move rfl rfl) rfl rfl (bl rfl) ?_
        refine TrL.v (v_len rfl sl89 rfl) rfl rfl (bl rfl) ?_
        refine TrL.v (v_arith rfl rfl rfl ar_lss) rfl rfl (bl rfl) ?_
        refine TrL.nil (qthen_n ?_)
        rcases ifc hy2 with ⟨h29, hy2⟩ | ⟨h29, hy2⟩
        ·refine Tr.cond_t rfl (bt_dec h29) ?_
         refine Tr.skip (qthen_n ?_)
         refine Tr.seq ?_
         refine Tr.block ?_
         refine Tr.seq ?_
         refine Tr.region ?_
         refine TrL.v (v_move rfl rfl) rfl rfl (bl rfl) ?_
         refine TrL.v (v_move rfl rfl) rfl rfl (bl rfl) ?_
         obtain ⟨z6, hz6, hy2⟩ := bnd hy2
         refine TrL.v (v_indexAddr (k := 0) rfl sl89 ty184 rfl rfl rfl rfl hz6) rfl rfl (bl rfl) ?_
         refine TrL.v (v_loadg (A := A1) (i := s5) (j := 0) (k := 0) rfl ty184 nofun rfl rfl hz6 rfl rfl) rfl rfl (bl rfl) ?_
         obtain ⟨r10, hr10, hy2⟩ := bnd hy2
         refine TrL.cons rfl (op_call0' (vs := [.agg #[.int .u64 z6.1, .int .u64 z6.2]]) (cap := []) [] rfl rfl (bl rfl) rfl rfl en180 (c_ref04_May z6 r10 hr10) rfl (fun ret M' F' hR10 => ?_))
         obtain ⟨rfl, rfl, rfl⟩ := hR10
         refine TrL.v (v_notd rfl (bdec rfl)) rfl rfl (bl rfl) ?_
         refine TrL.nil (qthen_n ?_)
         rcases ifc hy2 with ⟨h30, hy2⟩ | ⟨h30, hy2⟩
         ·refine Tr.cond_t rfl (bt_dec h30) ?_
          refine Tr.seq ?_
          refine Tr.region ?_
          refine TrL.v (v_assign rfl rfl) rfl rfl (bl rfl) ?_
          refine TrL.nil (qthen_n ?_)
          have hz := Option.some.inj hy2
          subst hz
          refine Tr.ret (qblock_r (qthen_r (qloop_r (qblock_r (qcut_miss (by simp) (qcut_hit (()) (()) (hx4 _ rfl).symm (Imp.re _ [] [] (sc rfl sn) (by decide) rfl rfl rfl)))))))
         ·refine Tr.cond_f rfl (bf_dec h30) ?_
          refine Tr.skip (qblock_n (qthen_n ?_))
          refine Tr.region ?_
          refine TrL.v (v_move rfl rfl) rfl rfl (bl rfl) ?_
          refine TrL.v (v_arith rfl rfl rfl ar_add_i64) rfl rfl (bl rfl) ?_
          refine TrL.v (v_assign rfl rfl) rfl rfl (bl rfl) ?_
          have hz := Option.some.inj hy2
          subst hz
          refine TrL.nil (qloop_n (()) (Imp.re _ [] [0] (sc rfl (sc rfl sn)) (by decide) rfl rfl rfl))
        ·refine Tr.cond_f rfl (bf_dec h29) ?_
         have hz := Option.some.inj hy2
         subst hz
         refine Tr.exit (qthen_x (qloop_x (qblock_hit (qcut_hit (()) (()) (hx4 _ rfl).symm (Imp.re _ [] [] sn (by decide) rfl rfl rfl)))))
       ·subst hd4
        replace H := sumr H
        refine (qcut_miss (by simp) (qthen_n ?_))
        refine Tr.seq ?_
        refine Tr.region ?_
        refine TrL.v (v_assign rfl rfl) rfl rfl (bl rfl) ?_
        refine TrL.nil (qthen_n ?_)
        have hz := Option.some.inj H
        subst hz
        refine Tr.ret (ret_r ⟨[(6, .int .i64 0)], [], [], []⟩ [.int .i64 0] [] [] (Imp.re _ [] [] (sc rfl sn) (by decide) rfl rfl rfl) rfl rfl ⟨rfl, rfl, rfl⟩ (.cons (resv_tmp rfl) .nil))
      ·subst hd3
       replace H := suml H
       have hz := Option.some.inj H
       subst hz
       refine (qthen_r (ret_r ⟨[(6, .int .i64 1)], [], [], []⟩ [.int .i64 1] [] [] (Imp.re _ [] [] (sc rfl sn) (by decide) rfl rfl rfl) rfl rfl ⟨rfl, rfl, rfl⟩ (.cons (resv_tmp rfl) .nil)))

theorem c_ref15_New (p1 : Int) (p2 : Int) (p3 : List (Int × Int)) (A1 : Option Addr) (c1 : Nat) (r : List (List (Int × Int × List (List (Int × Int))))) (H : ref15_New p1 p2 p3 = some r) :
  Ctr Try.prog 182 [.int .i64 p1, .int .i64 p2, .slice A1 p3.length c1] [] [slF rp_u64_u64 A1 c1 p3] (fun ret M' F' => ∃ m : Option Addr × Nat, ret = .agg #[.int .i64 p2, .slice A1 p3.length c1, .slice m.1 r.length m.2, .int .i64 p1, .int .i64 0, .slice none 0 0] ∧ M' = [] ∧ F' = [slF rp_u64_u64 A1 c1 p3, slF (rSl rp_i64_i64_LLOu64_u64_C) m.1 m.2 r, slF (rSl rp_u64_u64) none 0 (([] : List (List (Int × Int))))]) := by
 unfold ref15_New at H
 refine ctr_ofI (N := 39) Try.func182 rfl Try.ntmps182 rfl (Nat.le_of_ble_eq_true rfl) (fun γ0 w0 => ?_)
 refine Tr.seq ?_
 refine Tr.region ?_
 refine TrL.cons rfl (op_alloc' rfl (bl rfl) rfl ze235 (fun b3 => ?_))
 refine TrL.nil (qthen_n ?_)
 refine Tr.seq ?_
 refine Tr.region ?_
 refine TrL.v (v_move rfl rfl) rfl rfl (bl rfl) ?_
 refine TrL.v (v_move rfl rfl) rfl rfl (bl rfl) ?_
 refine TrL.v (v_move rfl rfl) rfl rfl (bl rfl) ?_
 refine TrL.v (v_build (vs := [.int .i64 p1]) (out := [.int .i64 p1, .int .i64 0, .slice none 0 0]) rfl pl26 ze26 rfl rfl) rfl rfl (bl rfl) ?_
 refine TrL.v (v_build (vs := [.int .i64 p2, .slice A1 p3.length c1, .agg #[.int .i64 p1, .int .i64 0, .slice none 0 0]]) (out := [.int .i64 p2, .slice A1 p3.length c1, .slice none 0 0, .int .i64 p1, .int .i64 0, .slice none 0 0]) rfl pl235 ze235 rfl rfl) rfl rfl (bl rfl) ?_
 refine TrL.cons rfl (op_alloc' rfl (bl rfl) rfl ze235 (fun b4 => ?_))
 refine TrL.cons rfl (op_store' (k := 0) (c' := [.int .i64 p2, .slice A1 p3.length c1, .slice none 0 0, .int .i64 p1, .int .i64 0, .slice none 0 0]) rfl rfl rfl rfl rfl ty235 rfl (Nat.le_of_ble_eq_true rfl) (ones (oc rfl (oc rfl (oc rfl (oc rfl (oc rfl (oc rfl on))))))) rfl ?_)
 refine TrL.nil (qthen_n ?_)
 refine Tr.seq ?_
 refine Tr.seq ?_
 refine Tr.region ?_
 refine TrL.v (v_assign rfl rfl) rfl rfl (bl rfl) ?_
 refine TrL.nil (qthen_n ?_)
 obtain ⟨x7, hx13, H⟩ := bnd H
 refine Tr.cutE (D := List (List (Int × Int × List (List (Int × Int))))) (M := Option Addr × Nat × Option Nat) .normal (fun _d => x7 = _d) (fun x7 m28 => ⟨[(6, .pointer (some ⟨b3, 0, none⟩)), (7, .pointer (some ⟨b4, 0, none⟩))], [cells b3 [.int .i64 0, .slice none 0 0, .slice none 0 0, .int .i64 0, .int .i64 0, .slice none 0 0] 235, cells b4 [.int .i64 p2, .slice A1 p3.length c1, .slice m28.1 x7.length m28.2.1, .int .i64 p1, .int .i64 0, .slice none 0 0] 235, grow 132 1 (.slice m28.1 x7.length m28.2.1) x7.length m28.2.2], [slF rp_u64_u64 none 0 (([] : List (Int × Int))), slF (rSl rp_i64_i64_LLOu64_u64_C) none 0 (([] : List (List (Int × Int × List (List (Int × Int)))))), slF (rSl rp_u64_u64) none 0 (([] : List (List (Int × Int)))), slF rp_u64_u64 A1 c1 p3, slF (rSl rp_i64_i64_LLOu64_u64_C) m28.1 m28.2.1 x7], []⟩) ?_ (fun x7 m28 hd8 => ?_)
 ·refine Tr.block (Tr.loopI (ι := Option Addr × Nat × Option Nat) (step := ref15_New_s0 p1 p2 p3) (fun s17 m22 => ⟨[(0, .int .i64 p1), (1, .int .i64 p2), (2, .slice A1 p3.length c1), (6, .pointer (some ⟨b3, 0, none⟩)), (7, .pointer (some ⟨b4, 0, none⟩)), (8, .int .i64 s17.1)], [cells b3 [.int .i64 0, .slice none 0 0, .slice none 0 0, .int .i64 0, .int .i64 0, .slice none 0 0] 235, cells b4 [.int .i64 p2, .slice A1 p3.length c1, .slice m22.1 s17.2.length m22.2.1, .int .i64 p1, .int .i64 0, .slice none 0 0] 235, grow 132 1 (.slice m22.1 s17.2.length m22.2.1) s17.2.length m22.2.2], [slF rp_u64_u64 A1 c1 p3, slF rp_u64_u64 none 0 (([] : List (Int × Int))), slF (rSl rp_i64_i64_LLOu64_u64_C) none 0 (([] : List (List (Int × Int × List (List (Int × Int)))))), slF (rSl rp_u64_u64) none 0 (([] : List (List (Int × Int)))), slF (rSl rp_i64_i64_LLOu64_u64_C) m22.1 m22.2.1 s17.2], []⟩) ((none, 0, none)) hx13 (Imp.full' (E := 132) (sz := 1) (A := none) (n := 0) (Imp.addF' _ (nilF rp_u64_u64) (Imp.addF' _ (nilF (rSl rp_i64_i64_LLOu64_u64_C)) (Imp.addF' _ (nilF (rSl rp_u64_u64)) (Imp.re _ [2, 1, 0] [0, 1, 2, 3, 2] (sc rfl (sc rfl (sc rfl (sc rfl (sc rfl (sc rfl sn)))))) (by decide) rfl rfl rfl))))) (fun s17 m22 y7 hy7 hx14 => ?_))
  unfold ref15_New_s0 at hy7
  refine Tr.seq ?_
  refine Tr.seq ?_
  refine Tr.region ?_
  refine TrL.v (v_move rfl rfl) rfl rfl (bl rfl) ?_
  refine TrL.v (v_move rfl rfl) rfl rfl (bl rfl) ?_
  refine TrL.v (v_len rfl sl89 rfl) rfl rfl (bl rfl) ?_
  refine TrL.v (v_arith rfl rfl rfl ar_lss) rfl rfl (bl rfl) ?_
  refine TrL.nil (qthen_n ?_)
  rcases ifc hy7 with ⟨h41, hy7⟩ | ⟨h41, hy7⟩
  ·refine Tr.cond_t rfl (bt_dec h41) ?_
   refine Tr.skip (qthen_n ?_)
   refine Tr.seq ?_
   refine Tr.block ?_
   refine Tr.seq ?_
   refine Tr.region ?_
   refine TrL.v (v_assign rfl rfl) rfl rfl (bl rfl) ?_
   refine TrL.nil (qthen_n ?_)
   refine Tr.seq ?_
   refine Tr.seq ?_
   refine Tr.region ?_
   refine TrL.v (v_assign rfl rfl) rfl rfl (bl rfl) ?_
   refine TrL.nil (qthen_n ?_)
   obtain ⟨x8, hx15, hy7⟩ := bnd hy7
   refine Tr.cutE (D := List (Int × Int × List (List (Int × Int)))) (M := Option Addr × Nat × Option Nat) .normal (fun _d => x8 = _d) (fun x8 m32 => ⟨[(0, .int .i64 p1), (1, .int .i64 p2), (2, .slice A1 p3.length c1), (6, .pointer (some ⟨b3, 0, none⟩)), (7, .pointer (some ⟨b4, 0, none⟩)), (8, .int .i64 s17.1), (9, .slice m32.1 x8.length m32.2.1)], [cells b3 [.int .i64 0, .slice none 0 0, .slice none 0 0, .int .i64 0, .int .i64 0, .slice none 0 0] 235, cells b4 [.int .i64 p2, .slice A1 p3.length c1, .slice m22.1 s17.2.length m22.2.1, .int .i64 p1, .int .i64 0, .slice none 0 0] 235, grow 26 3 (.slice m32.1 x8.length m32.2.1) x8.length m32.2.2, grow 132 1 (.slice m22.1 s17.2.length m22.2.1) s17.2.length m22.2.2], [slF rp_u64_u64 A1 c1 p3, slF rp_i64_i64_LLOu64_u64_C m32.1 m32.2.1 x8, slF rp_u64_u64 none 0 (([] : List (Int × Int))), slF (rSl rp_i64_i64_LLOu64_u64_C) none 0 (([] : List (List (Int × Int × List (List (Int × Int)))))), slF (rSl rp_u64_u64) none 0 (([] : List (List (Int × Int)))), slF (rSl rp_i64_i64_LLOu64_u64_C) m22.1 m22.2.1 s17.2], []⟩) ?_ (fun x8 m32 hd7 => ?_)
   ·refine Tr.block (Tr.loopI (ι := Option Addr × Nat × Option Nat) (step := ref15_New_s1 p1 p2) (fun s23 m30 => ⟨[(0, .int .i64 p1), (1, .int .i64 p2), (2, .slice A1 p3.length c1), (6, .pointer (some ⟨b3, 0, none⟩)), (7, .pointer (some ⟨b4, 0, none⟩)), (8, .int .i64 s17.1), (9, .slice m30.1 s23.1.length m30.2.1), (10, .int .i64 s23.2)], [cells b3 [.int .i64 0, .slice none 0 0, .slice none 0 0, .int .i64 0, .int .i64 0, .slice none 0 0] 235, cells b4 [.int .i64 p2, .slice A1 p3.length c1, .slice m22.1 s17.2.length m22.2.1, .int .i64 p1, .int .i64 0, .slice none 0 0] 235, grow 26 3 (.slice m30.1 s23.1.length m30.2.1) s23.1.length m30.2.2, grow 132 1 (.slice m22.1 s17.2.length m22.2.1) s17.2.length m22.2.2], [slF rp_u64_u64 A1 c1 p3, slF rp_i64_i64_LLOu64_u64_C m30.1 m30.2.1 s23.1, slF rp_u64_u64 none 0 (([] : List (Int × Int))), slF (rSl rp_i64_i64_LLOu64_u64_C) none 0 (([] : List (List (Int × Int × List (List (Int × Int)))))), slF (rSl rp_u64_u64) none 0 (([] : List (List (Int × Int)))), slF (rSl rp_i64_i64_LLOu64_u64_C) m22.1 m22.2.1 s17.2], []⟩) ((none, 0, none)) hx15 (Imp.full' (E := 26) (sz := 3) (A := none) (n := 0) (Imp.addF' _ (nilF rp_i64_i64_LLOu64_u64_C) (Imp.re _ [1, 2, 0, 3] [0, 5, 1, 2, 3, 4] (sc rfl (sc rfl (sc rfl (sc rfl (sc rfl (sc rfl (sc rfl (sc rfl sn)))))))) (by decide) rfl rfl rfl))) (fun s23 m30 y8 hy8 hx16 => ?_))
    unfold ref15_New_s1 at hy8
    refine Tr.seq ?_
    refine Tr.seq ?_
    refine Tr.region ?_
    refine TrL.v (v_move rfl rfl) rfl rfl (bl rfl) ?_
    refine TrL.v (v_move rfl rfl) rfl rfl (bl rfl) ?_
    refine TrL.v (v_arith rfl rfl rfl ar_lss) rfl rfl (bl rfl) ?_
    refine TrL.nil (qthen_n ?_)
    rcases ifc hy8 with ⟨h46, hy8⟩ | ⟨h46, hy8⟩
    ·refine Tr.cond_t rfl (bt_dec h46) ?_
     refine Tr.skip (qthen_n ?_)
     refine Tr.seq ?_
     refine Tr.block ?_
     refine Tr.region ?_
     refine TrL.v (v_move rfl rfl) rfl rfl (bl rfl) ?_
     refine TrL.v (v_move rfl rfl) rfl rfl (bl rfl) ?_
     refine TrL.v (v_build (vs := [.int .i64 p1]) (out := [.int .i64 p1, .int .i64 0, .slice none 0 0]) rfl pl26 ze26 rfl rfl) rfl rfl (bl rfl) ?_
     refine TrL.cons rfl (op_buildSlice' (rp := rp_i64_i64_LLOu64_u64_C) (xs := [(p1, (0 : Int), ([] : List (List (Int × Int))))]) (vs := [.agg #[.int .i64 p1, .int .i64 0, .slice none 0 0]]) (out := [.int .i64 p1, .int .i64 0, .slice none 0 0]) rfl (bl rfl) rfl sl132 ty26 ze26 rfl rfl (by decide) (by decide) rfl (fun γ w hF => (rowc ⟨(none, 0), rfl, (fcc (hF _ (List.mem_of_getElem? (i := 4) rfl)) fcn)⟩ rown rfl)) (fun A46 => ?_))
     obtain ⟨h47, hy8⟩ := rom hy8
     refine TrL.cons rfl (op_append' (rp := rp_i64_i64_LLOu64_u64_C) (xs := s23.1) (ys := [(p1, (0 : Int), ([] : List (List (Int × Int))))]) (k := 2) (kx := 1) (ky := 6) rfl (bl rfl) rfl sl132 ty26 ze26 rfl by26 rfl rfl rfl rfl rfl rfl rfl h47.1 h47.2 (fun A47 c24 o23 => ?_))
     refine TrL.v (v_assign rfl rfl) rfl rfl (bl rfl) ?_
     refine TrL.nil (qblock_n (qthen_n ?_))
     refine Tr.region ?_
     refine TrL.v (v_move rfl rfl) rfl rfl (bl rfl) ?_
     refine TrL.v (v_arith rfl rfl rfl ar_add_i64) rfl rfl (bl rfl) ?_
     refine TrL.v (v_assign rfl rfl) rfl rfl (bl rfl) ?_
     have hz := Option.some.inj hy8
     subst hz
     refine TrL.nil (qloop_n ((A47, c24, o23)) (Imp.re _ [0, 1, 2, 3] [0, 7, 2, 3, 4, 5] (sc rfl (sc rfl (sc rfl (sc rfl (sc rfl (sc rfl (sc rfl (sc rfl sn)))))))) (by decide) rfl rfl rfl))
    ·refine Tr.cond_f rfl (bf_dec h46) ?_
     have hz := Option.some.inj hy8
     subst hz
     refine Tr.exit (qthen_x (qloop_x (qblock_hit (qcut_hit s23.1 ((m30.1, m30.2.1, m30.2.2)) (hx16 _ rfl).symm (Imp.re _ [0, 1, 2, 3] [0, 1, 2, 3, 4, 5] (sc rfl (sc rfl (sc rfl (sc rfl (sc rfl (sc rfl (sc rfl sn))))))) (by decide) rfl rfl rfl)))))
   ·subst hd7
    refine (qthen_n ?_)
    refine Tr.region ?_
    refine TrL.v (v_fieldAddr' rfl fo235_2 rfl rfl) rfl rfl (bl rfl) ?_
    refine TrL.v (v_load (k := 1) rfl rfl rfl ty233 (fun _ => rfl) rfl rfl) rfl rfl (bl rfl) ?_
    refine TrL.v (v_move rfl rfl) rfl rfl (bl rfl) ?_
    refine TrL.cons rfl (op_buildSlice' (rp := (rSl rp_i64_i64_LLOu64_u64_C)) (xs := [x8]) (vs := [.slice m32.1 x8.length m32.2.1]) (out := [.slice m32.1 x8.length m32.2.1]) rfl (bl rfl) rfl sl233 ty132 ze132 rfl rfl (by decide) (by decide) rfl (fun γ w hF => (rowc ⟨_, _, rfl, hF _ (List.mem_of_getElem? (i := 1) rfl)⟩ rown rfl)) (fun A48 => ?_))
    obtain ⟨h48, hy7⟩ := rom hy7
    refine TrL.cons rfl (op_append' (rp := (rSl rp_i64_i64_LLOu64_u64_C)) (xs := s17.2) (ys := [x8]) (k := 3) (kx := 5) (ky := 6) rfl (bl rfl) rfl sl233 ty132 ze132 rfl by132 rfl rfl rfl rfl rfl rfl rfl h48.1 h48.2 (fun A49 c25 o24 => ?_))
    refine TrL.v (v_fieldAddr' rfl fo235_2 rfl rfl) rfl rfl (bl rfl) ?_
    refine TrL.cons rfl (op_store' (k := 1) (c' := [.int .i64 p2, .slice A1 p3.length c1, .slice A49 ((s17.2 ++ ([x8])).length) c25, .int .i64 p1, .int .i64 0, .slice none 0 0]) rfl rfl rfl rfl rfl ty233 rfl (Nat.le_of_ble_eq_true rfl) (ones (oc rfl on)) rfl ?_)
    refine TrL.nil (qblock_n (qthen_n ?_))
    refine Tr.region ?_
    refine TrL.v (v_move rfl rfl) rfl rfl (bl rfl) ?_
    refine TrL.v (v_arith rfl rfl rfl ar_add_i64) rfl rfl (bl rfl) ?_
    refine TrL.v (v_assign rfl rfl) rfl rfl (bl rfl) ?_
    have hz := Option.some.inj hy7
    subst hz
    refine TrL.nil (qloop_n ((A49, c25, o24)) (Imp.re _ [0, 1, 3] [0, 2, 3, 4, 7] (sc rfl (sc rfl (sc rfl (sc rfl (sc rfl (sc rfl sn)))))) (by decide) rfl rfl rfl))
  ·refine Tr.cond_f rfl (bf_dec h41) ?_
   have hz := Option.some.inj hy7
   subst hz
   refine Tr.exit (qthen_x (qloop_x (qblock_hit (qcut_hit s17.2 ((m22.1, m22.2.1, m22.2.2)) (hx14 _ rfl).symm (Imp.re _ [0, 1, 2] [1, 2, 3, 0, 4] (sc rfl (sc rfl sn)) (by decide) rfl rfl rfl)))))
 ·subst hd8
  refine (qthen_n ?_)
  refine Tr.seq ?_
  refine Tr.region ?_
  refine TrL.v (v_load (k := 1) rfl rfl rfl ty235 nofun rfl rfl) rfl rfl (bl rfl) ?_
  refine TrL.cons rfl (op_store' (k := 0) (c' := [.int .i64 p2, .slice A1 p3.length c1, .slice m28.1 x7.length m28.2.1, .int .i64 p1, .int .i64 0, .slice none 0 0]) rfl rfl rfl rfl rfl ty235 rfl (Nat.le_of_ble_eq_true rfl) (ones (oc rfl (oc rfl (oc rfl (oc rfl (oc rfl (oc rfl on))))))) rfl ?_)
  refine TrL.nil (qthen_n ?_)
  have hz := Option.some.inj H
  subst hz
  refine Tr.ret (ret_r ⟨[(6, .pointer (some ⟨b3, 0, none⟩))], [cells b3 [.int .i64 p2, .slice A1 p3.length c1, .slice m28.1 x7.length m28.2.1, .int .i64 p1, .int .i64 0, .slice none 0 0] 235], [slF rp_u64_u64 A1 c1 p3, slF (rSl rp_i64_i64_LLOu64_u64_C) m28.1 m28.2.1 x7, slF (rSl rp_u64_u64) none 0 (([] : List (List (Int × Int))))], []⟩ [.agg #[.int .i64 p2, .slice A1 p3.length c1, .slice m28.1 x7.length m28.2.1, .int .i64 p1, .int .i64 0, .slice none 0 0]] [] [cells b3 [.int .i64 p2, .slice A1 p3.length c1, .slice m28.1 x7.length m28.2.1, .int .i64 p1, .int .i64 0, .slice none 0 0] 235] (Imp.re _ [0] [3, 4, 2] (sc rfl sn) (by decide) rfl rfl rfl) rfl rfl ⟨((m28.1, m28.2.1)), rfl, rfl, rfl⟩ (.cons (resv_cell (k := 0) rfl rfl ty235 nofun rfl rfl) .nil))

theorem c_ref15_Tame (p1 : Int × Int × List (Int × Int)) (A1 : Option Addr) (c1 : Nat) (r : (List (Int × Int)) × List (List (Int × Int × List (List (Int × Int))))) (H : ref15_Tame p1 = some r) :
  Ctr Try.prog 159 [.agg #[.int .i64 p1.1, .int .i64 p1.2.1, .slice A1 p1.2.2.length c1]] [] [slF rp_u64_u64 A1 c1 p1.2.2] (fun ret M' F' => ∃ m : Option Addr × Nat × Option Addr × Nat, ret = .agg #[.int .i64 ((wi64 (1 + ((max p1.2.1 0).tmod 7)))), .slice m.1 r.1.length m.2.1, .slice m.2.2.1 r.2.length m.2.2.2, .int .i64 ((wi64 (2 + ((max p1.1 0).tmod 10)))), .int .i64 0, .slice none 0 0] ∧ M' = [] ∧ F' = [slF rp_u64_u64 m.1 m.2.1 r.1, slF (rSl rp_i64_i64_LLOu64_u64_C) m.2.2.1 m.2.2.2 r.2, slF (rSl rp_u64_u64) none 0 (([] : List (List (Int × Int))))]) := by
 unfold ref15_Tame at H
 refine ctr_ofI (N := 54) Try.func159 rfl Try.ntmps159 rfl (Nat.le_of_ble_eq_true rfl) (fun γ0 w0 => ?_)
 refine Tr.seq ?_
 refine Tr.region ?_
 refine TrL.cons rfl (op_box' rfl (bl rfl) rfl rfl rfl (fun b3 => ?_))
 refine TrL.cons rfl (op_alloc' rfl (bl rfl) rfl ze235 (fun b4 => ?_))
 refine TrL.nil (qthen_n ?_)
 refine Tr.seq ?_
 refine Tr.region ?_
 refine TrL.v (v_assign rfl rfl) rfl rfl (bl rfl) ?_
 refine TrL.nil (qthen_n ?_)
 refine Tr.seq ?_
 refine Tr.seq ?_
 refine Tr.region ?_
 refine TrL.v (v_assign rfl rfl) rfl rfl (bl rfl) ?_
 refine TrL.nil (qthen_n ?_)
 obtain ⟨x2, hx3, H⟩ := bnd H
 refine Tr.cutE (D := List (Int × Int)) (M := Option Addr × Nat × Option Nat) .normal (fun _d => x2 = _d) (fun x2 m10 => ⟨[(1, .pointer (some ⟨b3, 0, none⟩)), (2, .pointer (some ⟨b4, 0, none⟩)), (3, .slice m10.1 x2.length m10.2.1)], [cells b3 [.int .i64 p1.1, .int .i64 p1.2.1, .slice A1 p1.2.2.length c1] 238, cells b4 [.int .i64 0, .slice none 0 0, .slice none 0 0, .int .i64 0, .int .i64 0, .slice none 0 0] 235, grow 184 2 (.slice m10.1 x2.length m10.2.1) x2.length m10.2.2], [slF rp_u64_u64 m10.1 m10.2.1 x2, slF rp_u64_u64 A1 c1 p1.2.2, slF rp_u64_u64 none 0 (([] : List (Int × Int))), slF (rSl rp_i64_i64_LLOu64_u64_C) none 0 (([] : List (List (Int × Int × List (List (Int × Int)))))), slF (rSl rp_u64_u64) none 0 (([] : List (List (Int × Int))))], []⟩) ?_ (fun x2 m10 hd2 => ?_)
 ·refine Tr.block (Tr.loopI (ι := Option Addr × Nat × Option Nat) (step := ref15_Tame_s0 p1) (fun s5 m8 => ⟨[(1, .pointer (some ⟨b3, 0, none⟩)), (2, .pointer (some ⟨b4, 0, none⟩)), (3, .slice m8.1 s5.1.length m8.2.1), (4, .int .i64 s5.2)], [cells b3 [.int .i64 p1.1, .int .i64 p1.2.1, .slice A1 p1.2.2.length c1] 238, cells b4 [.int .i64 0, .slice none 0 0, .slice none 0 0, .int .i64 0, .int .i64 0, .slice none 0 0] 235, grow 184 2 (.slice m8.1 s5.1.length m8.2.1) s5.1.length m8.2.2], [slF rp_u64_u64 m8.1 m8.2.1 s5.1, slF rp_u64_u64 A1 c1 p1.2.2, slF rp_u64_u64 none 0 (([] : List (Int × Int))), slF (rSl rp_i64_i64_LLOu64_u64_C) none 0 (([] : List (List (Int × Int × List (List (Int × Int)))))), slF (rSl rp_u64_u64) none 0 (([] : List (List (Int × Int))))], []⟩) ((none, 0, none)) hx3 (Imp.full' (E := 184) (sz := 2) (A := none) (n := 0) (Imp.addF' _ (nilF rp_u64_u64) (Imp.addF' _ (nilF (rSl rp_i64_i64_LLOu64_u64_C)) (Imp.addF' _ (nilF (rSl rp_u64_u64)) (Imp.re _ [2, 1, 0] [1, 0, 1, 2, 3] (sc rfl (sc rfl (sc rfl (sc rfl sn)))) (by decide) rfl rfl rfl))))) (fun s5 m8 y2 hy2 hx4 => ?_))
  unfold ref15_Tame_s0 at hy2
  refine Tr.seq ?_
  refine Tr.seq ?_
  refine Tr.region ?_
  refine TrL.v (v_move rfl rfl) rfl rfl (bl rfl) ?_
  refine TrL.v (v_fieldAddr' rfl fo238_2 rfl rfl) rfl rfl (bl rfl) ?_
  refine TrL.v (v_load (k := 0) rfl rfl rfl ty89 (fun _ => rfl) rfl rfl) rfl rfl (bl rfl) ?_
  refine TrL.v (v_len rfl sl89 rfl) rfl rfl (bl rfl) ?_
  refine TrL.v (v_arith rfl rfl rfl ar_lss) rfl rfl (bl rfl) ?_
  refine TrL.v (v_move rfl rfl) rfl rfl (bl rfl) ?_
  rcases ifc hy2 with ⟨h27, hy2⟩ | ⟨h27, hy2⟩
  ·refine TrL.cons_yes rfl rfl rfl (bt_dec h27) (OpTr.v (v_move rfl rfl) rfl (bl rfl) ?_)
   refine TrL.cons_yes rfl rfl rfl (bt_dec h27) (OpTr.v (v_arith rfl rfl rfl ar_lss) rfl (bl rfl) ?_)
   refine TrL.v (v_pick_t rfl rfl (bt_dec h27) rfl) rfl rfl (bl rfl) ?_
   refine TrL.nil (qthen_n ?_)
   rcases ifc hy2 with ⟨h28, hy2⟩ | ⟨h28, hy2⟩
   ·refine Tr.cond_t rfl (bt_dec h28) ?_
    refine Tr.skip (qthen_n ?_)
    refine Tr.seq ?_
    refine Tr.block ?_
    refine Tr.regionD drawn (fun hok => ?_)
    refine TrAny.prom (i := 0) (d := 16) hok (OpVal.plain rfl rfl (v_move rfl rfl)) (by kernel_rfl) rfl (bl rfl) ?_
    clear hok
    intro hok
    refine TrAny.prom (i := 1) (d := 17) hok (OpVal.plain rfl rfl (v_fieldAddr' rfl fo238_2 rfl rfl)) (by kernel_rfl) rfl (bl rfl) ?_
    clear hok
    intro hok
    refine TrAny.prom (i := 2) (d := 18) hok (OpVal.plain rfl rfl (v_load (k := 0) rfl rfl rfl ty89 (fun _ => rfl) rfl rfl)) (by kernel_rfl) rfl (bl rfl) ?_
    clear hok
    intro hok
    refine TrAny.prom (i := 3) (d := 19) hok (OpVal.plain rfl rfl (v_move rfl rfl)) (by kernel_rfl) rfl (bl rfl) ?_
    clear hok
    intro hok
    obtain ⟨z12, hz12, hy2⟩ := bnd hy2
    refine TrAny.prom (i := 4) (d := 20) hok (OpVal.plain rfl rfl (v_indexAddr (k := 1) rfl sl89 ty184 rfl rfl rfl rfl hz12)) (by kernel_rfl) rfl (bl rfl) ?_
    clear hok
    intro hok
    refine TrAny.prom (i := 5) (d := 21) hok (OpVal.plain rfl rfl (v_fieldAddr rfl fo184_0 rfl)) (by kernel_rfl) rfl (bl rfl) ?_
    clear hok
    intro hok
    refine TrAny.prom (i := 6) (d := 22) hok (OpVal.plain rfl rfl (v_loadg (A := A1) (i := s5.2) (j := 0) (k := 1) rfl ty28 (fun _ => rfl) rfl rfl hz12 rfl rfl)) (by kernel_rfl) rfl (bl rfl) ?_
    clear hok
    intro hok
    refine TrAny.prom (i := 7) (d := 23) hok (OpVal.plain rfl rfl (v_rem rfl rfl rfl (by decide))) (by kernel_rfl) rfl (bl rfl) ?_
    clear hok
    intro hok
    refine TrAny.prom (i := 8) (d := 24) hok (OpVal.plain rfl rfl (v_arith rfl rfl rfl ar_add_u64)) (by kernel_rfl) rfl (bl rfl) ?_
    clear hok
    intro hok
    refine TrAny.prom (i := 9) (d := 25) hok (OpVal.plain rfl rfl (v_fieldAddr' rfl fo238_2 rfl rfl)) (by kernel_rfl) rfl (bl rfl) ?_
    clear hok
    intro hok
    refine TrAny.prom (i := 10) (d := 26) hok (OpVal.plain rfl rfl (v_load (k := 0) rfl rfl rfl ty89 (fun _ => rfl) rfl rfl)) (by kernel_rfl) rfl (bl rfl) ?_
    clear hok
    intro hok
    refine TrAny.prom (i := 11) (d := 27) hok (OpVal.plain rfl rfl (v_move rfl rfl)) (by kernel_rfl) rfl (bl rfl) ?_
    clear hok
    intro hok
    refine TrAny.prom (i := 12) (d := 28) hok (OpVal.plain rfl rfl (v_indexAddr (k := 1) rfl sl89 ty184 rfl rfl rfl rfl hz12)) (by kernel_rfl) rfl (bl rfl) ?_
    clear hok
    intro hok
    refine TrAny.prom (i := 13) (d := 29) hok (OpVal.plain rfl rfl (v_fieldAddr rfl fo184_1 rfl)) (by kernel_rfl) rfl (bl rfl) ?_
    clear hok
    intro hok
    refine TrAny.prom (i := 14) (d := 30) hok (OpVal.plain rfl rfl (v_loadg (A := A1) (i := s5.2) (j := 1) (k := 1) rfl ty28 (fun _ => rfl) rfl rfl hz12 rfl rfl)) (by kernel_rfl) rfl (bl rfl) ?_
    clear hok
    intro hok
    refine TrAny.prom (i := 15) (d := 31) hok (OpVal.plain rfl rfl (v_rem rfl rfl rfl (by decide))) (by kernel_rfl) rfl (bl rfl) ?_
    clear hok
    intro hok
    refine TrAny.prom (i := 16) (d := 32) hok (OpVal.plain rfl rfl (v_build (vs := [.int .u64 (wu64 (1 + (z12.1.tmod 2305843009213693950))), .int .u64 (z12.2.tmod 2305843009213693951)]) (out := [.int .u64 (wu64 (1 + (z12.1.tmod 2305843009213693950))), .int .u64 (z12.2.tmod 2305843009213693951)]) rfl pl184 ze184 rfl rfl)) (by kernel_rfl) rfl (bl rfl) ?_
    clear hok
    intro hok
    refine TrAny.next (j := 17) (by kernel_rfl) hok rfl (by kernel_rfl) (op_buildSlice' (rp := rp_u64_u64) (xs := [(wu64 (1 + (z12.1.tmod 2305843009213693950)), z12.2.tmod 2305843009213693951)]) (vs := [.agg #[.int .u64 (wu64 (1 + (z12.1.tmod 2305843009213693950))), .int .u64 (z12.2.tmod 2305843009213693951)]]) (out := [.int .u64 (wu64 (1 + (z12.1.tmod 2305843009213693950))), .int .u64 (z12.2.tmod 2305843009213693951)]) rfl (bl rfl) rfl sl89 ty184 ze184 rfl rfl (by decide) (by decide) rfl (fun γ w hF => (rowc rfl rown rfl)) (fun A26 => ?_))
    refine nxp hok (kp_imp (kp_cf rfl)) rfl (by kernel_rfl) ?_
    clear hok
    intro hok
    obtain ⟨h30, hy2⟩ := rom hy2
    refine TrAny.next (j := 18) (by kernel_rfl) hok rfl (by kernel_rfl) (op_append' (rp := rp_u64_u64) (xs := s5.1) (ys := [(wu64 (1 + (z12.1.tmod 2305843009213693950)), z12.2.tmod 2305843009213693951)]) (k := 2) (kx := 0) (ky := 5) rfl (bl rfl) rfl sl89 ty184 ze184 rfl by184 rfl rfl rfl rfl rfl rfl rfl h30.1 h30.2 (fun A27 c14 o13 => ?_))
    refine nxp hok (kp_allE [(0, 16, .slice m8.1 s5.1.length m8.2.1), (1, 17, .pointer (some ⟨b3, 2, none⟩)), (2, 18, .slice A1 p1.2.2.length c1), (3, 19, .int .i64 s5.2), (4, 20, .pointer (some ⟨ablk A1, aoff A1 + (s5.2).toNat * 2, none⟩)), (5, 21, .pointer (some ⟨ablk A1, aoff A1 + (s5.2).toNat * 2 + 0, none⟩)), (6, 22, .int .u64 z12.1), (7, 23, .int .u64 (z12.1.tmod 2305843009213693950)), (8, 24, .int .u64 (wu64 (1 + (z12.1.tmod 2305843009213693950)))), (9, 25, .pointer (some ⟨b3, 2, none⟩)), (10, 26, .slice A1 p1.2.2.length c1), (11, 27, .int .i64 s5.2), (12, 28, .pointer (some ⟨ablk A1, aoff A1 + (s5.2).toNat * 2, none⟩)), (13, 29, .pointer (some ⟨ablk A1, aoff A1 + (s5.2).toNat * 2 + 1, none⟩)), (14, 30, .int .u64 z12.2), (15, 31, .int .u64 (z12.2.tmod 2305843009213693951)), (16, 32, .agg #[.int .u64 (wu64 (1 + (z12.1.tmod 2305843009213693950))), .int .u64 (z12.2.tmod 2305843009213693951)])] (by kernel_rfl) (ac (.inl (by kernel_rfl)) (ac (.inr (OpVal.plain rfl rfl (v_fieldAddr' rfl fo238_2 rfl rfl))) (ac (.inr (OpVal.plain rfl rfl (v_load (k := 0) rfl rfl rfl ty89 (fun _ => rfl) rfl rfl))) (ac (.inr (OpVal.plain rfl rfl (v_move rfl rfl))) (ac (.inr (OpVal.plain rfl rfl (v_indexAddr (k := 1) rfl sl89 ty184 rfl rfl rfl rfl hz12))) (ac (.inr (OpVal.plain rfl rfl (v_fieldAddr rfl fo184_0 rfl))) (ac (.inr (OpVal.plain rfl rfl (v_loadg (A := A1) (i := s5.2) (j := 0) (k := 1) rfl ty28 (fun _ => rfl) rfl rfl hz12 rfl rfl))) (ac (.inr (OpVal.plain rfl rfl (v_rem rfl rfl rfl (by decide)))) (ac (.inr (OpVal.plain rfl rfl (v_arith rfl rfl rfl ar_add_u64))) (ac (.inr (OpVal.plain rfl rfl (v_fieldAddr' rfl fo238_2 rfl rfl))) (ac (.inr (OpVal.plain rfl rfl (v_load (k := 0) rfl rfl rfl ty89 (fun _ => rfl) rfl rfl))) (ac (.inr (OpVal.plain rfl rfl (v_move rfl rfl))) (ac (.inr (OpVal.plain rfl rfl (v_indexAddr (k := 1) rfl sl89 ty184 rfl rfl rfl rfl hz12))) (ac (.inr (OpVal.plain rfl rfl (v_fieldAddr rfl fo184_1 rfl))) (ac (.inr (OpVal.plain rfl rfl (v_loadg (A := A1) (i := s5.2) (j := 1) (k := 1) rfl ty28 (fun _ => rfl) rfl rfl hz12 rfl rfl))) (ac (.inr (OpVal.plain rfl rfl (v_rem rfl rfl rfl (by decide)))) (ac (.inr (OpVal.plain rfl rfl (v_build (vs := [.int .u64 (wu64 (1 + (z12.1.tmod 2305843009213693950))), .int .u64 (z12.2.tmod 2305843009213693951)]) (out := [.int .u64 (wu64 (1 + (z12.1.tmod 2305843009213693950))), .int .u64 (z12.2.tmod 2305843009213693951)]) rfl pl184 ze184 rfl rfl))) an)))))))))))))))))) rfl (by kernel_rfl) ?_
    clear hok
    intro hok
    refine TrAny.next (j := 19) (by kernel_rfl) hok rfl (by kernel_rfl) (OpTr.v (v_assign rfl rfl) rfl (bl rfl) ?_)
    refine nxp hok (kp_aw (by kernel_rfl)) rfl (by kernel_rfl) ?_
    clear hok
    intro hok
    refine TrAny.done (by kernel_rfl) (by kernel_rfl) hok (by kernel_rfl) (qblock_n (qthen_n ?_))
    refine Tr.region ?_
    refine TrL.v (v_move rfl rfl) rfl rfl (bl rfl) ?_
    refine TrL.v (v_arith rfl rfl rfl ar_add_i64) rfl rfl (bl rfl) ?_
    refine TrL.v (v_assign rfl rfl) rfl rfl (bl rfl) ?_
    have hz := Option.some.inj hy2
    subst hz
    refine TrL.nil (qloop_n ((A27, c14, o13)) (Imp.re _ [0, 1, 2] [6, 1, 2, 3, 4] (sc rfl (sc rfl (sc rfl (sc rfl sn)))) (by decide) rfl rfl rfl))
   ·refine Tr.cond_f rfl (bf_dec h28) ?_
    have hz := Option.some.inj hy2
    subst hz
    refine Tr.exit (qthen_x (qloop_x (qblock_hit (qcut_hit s5.1 ((m8.1, m8.2.1, m8.2.2)) (hx4 _ rfl).symm (Imp.re _ [0, 1, 2] [0, 1, 2, 3, 4] (sc rfl (sc rfl (sc rfl sn))) (by decide) rfl rfl rfl)))))
  ·refine TrL.cons_no rfl rfl rfl (gn_t (bf_dec h27)) rfl (bl rfl) ?_
   refine TrL.cons_no rfl rfl rfl (gn_t (bf_dec h27)) rfl (bl rfl) ?_
   refine TrL.v (v_pick_f rfl rfl (bf_dec h27) rfl) rfl rfl (bl rfl) ?_
   refine TrL.nil (qthen_n ?_)
   refine Tr.cond_f rfl rfl ?_
   have hz := Option.some.inj hy2
   subst hz
   refine Tr.exit (qthen_x (qloop_x (qblock_hit (qcut_hit s5.1 ((m8.1, m8.2.1, m8.2.2)) (hx4 _ rfl).symm (Imp.re _ [0, 1, 2] [0, 1, 2, 3, 4] (sc rfl (sc rfl (sc rfl sn))) (by decide) rfl rfl rfl)))))
 ·subst hd2
  refine (qthen_n ?_)
  refine Tr.seq ?_
  refine Tr.seq ?_
  refine Tr.region ?_
  refine TrL.v (v_move rfl rfl) rfl rfl (bl rfl) ?_
  refine TrL.v (v_len rfl sl89 rfl) rfl rfl (bl rfl) ?_
  refine TrL.v (v_arith rfl rfl rfl ar_eql) rfl rfl (bl rfl) ?_
  refine TrL.nil (qthen_n ?_)
  rcases ifc H with ⟨h31, H⟩ | ⟨h31, H⟩
  ·refine Tr.cond_t rfl (bt_dec h31) ?_
   refine Tr.region ?_
   refine TrL.v (v_move rfl rfl) rfl rfl (bl rfl) ?_
   refine TrL.v (v_build (vs := [.int .u64 3, .int .u64 1]) (out := [.int .u64 3, .int .u64 1]) rfl pl184 ze184 rfl rfl) rfl rfl (bl rfl) ?_
   refine TrL.cons rfl (op_buildSlice' (rp := rp_u64_u64) (xs := [((3 : Int), (1 : Int))]) (vs := [.agg #[.int .u64 3, .int .u64 1]]) (out := [.int .u64 3, .int .u64 1]) rfl (bl rfl) rfl sl89 ty184 ze184 rfl rfl (by decide) (by decide) rfl (fun γ w hF => (rowc rfl rown rfl)) (fun A28 => ?_))
   obtain ⟨h32, H⟩ := rom H
   refine TrL.cons rfl (op_append' (rp := rp_u64_u64) (xs := x2) (ys := [((3 : Int), (1 : Int))]) (k := 2) (kx := 0) (ky := 5) rfl (bl rfl) rfl sl89 ty184 ze184 rfl by184 rfl rfl rfl rfl rfl rfl rfl h32.1 h32.2 (fun A29 c15 o14 => ?_))
   refine TrL.v (v_assign rfl rfl) rfl rfl (bl rfl) ?_
   refine TrL.nil (qthen_n ?_)
   refine Tr.seq ?_
   refine Tr.region ?_
   refine TrL.v (v_fieldAddr' rfl fo238_0 rfl rfl) rfl rfl (bl rfl) ?_
   refine TrL.v (v_load (k := 0) rfl rfl rfl ty3 (fun _ => rfl) rfl rfl) rfl rfl (bl rfl) ?_
   refine TrL.v (v_max rfl rfl rfl) rfl rfl (bl rfl) ?_
   refine TrL.v (v_rem rfl rfl rfl (by decide)) rfl rfl (bl rfl) ?_
   refine TrL.v (v_arith rfl rfl rfl ar_add_i64) rfl rfl (bl rfl) ?_
   refine TrL.v (v_fieldAddr' rfl fo238_1 rfl rfl) rfl rfl (bl rfl) ?_
   refine TrL.v (v_load (k := 0) rfl rfl rfl ty3 (fun _ => rfl) rfl rfl) rfl rfl (bl rfl) ?_
   refine TrL.v (v_max rfl rfl rfl) rfl rfl (bl rfl) ?_
   refine TrL.v (v_rem rfl rfl rfl (by decide)) rfl rfl (bl rfl) ?_
   refine TrL.v (v_arith rfl rfl rfl ar_add_i64) rfl rfl (bl rfl) ?_
   refine TrL.v (v_move rfl rfl) rfl rfl (bl rfl) ?_
   obtain ⟨r3, hr3, H⟩ := bnd H
   refine TrL.cons rfl (op_call0' (vs := [.int .i64 (wi64 (2 + ((max p1.1 0).tmod 10))), .int .i64 (wi64 (1 + ((max p1.2.1 0).tmod 7))), .slice A29 ((x2 ++ ([((3 : Int), (1 : Int))])).length) c15]) (cap := []) [6] rfl rfl (bl rfl) rfl rfl en182 (c_ref15_New (wi64 (2 + ((max p1.1 0).tmod 10))) (wi64 (1 + ((max p1.2.1 0).tmod 7))) (x2 ++ ([((3 : Int), (1 : Int))])) A29 c15 r3 hr3) rfl (fun ret M' F' hR3 => ?_))
   obtain ⟨m11, rfl, rfl, rfl⟩ := hR3
   refine TrL.cons rfl (op_store' (k := 1) (c' := [.int .i64 ((wi64 (1 + ((max p1.2.1 0).tmod 7)))), .slice A29 (((x2 ++ ([((3 : Int), (1 : Int))]))).length) c15, .slice m11.1 r3.length m11.2, .int .i64 ((wi64 (2 + ((max p1.1 0).tmod 10)))), .int .i64 0, .slice none 0 0]) rfl rfl rfl rfl rfl ty235 rfl (Nat.le_of_ble_eq_true rfl) (ones (oc rfl (oc rfl (oc rfl (oc rfl (oc rfl (oc rfl on))))))) rfl ?_)
   refine TrL.nil (qthen_n ?_)
   have hz := Option.some.inj H
   subst hz
   refine Tr.ret (ret_r ⟨[(2, .pointer (some ⟨b4, 0, none⟩))], [cells b4 [.int .i64 ((wi64 (1 + ((max p1.2.1 0).tmod 7)))), .slice A29 (((x2 ++ ([((3 : Int), (1 : Int))]))).length) c15, .slice m11.1 r3.length m11.2, .int .i64 ((wi64 (2 + ((max p1.1 0).tmod 10)))), .int .i64 0, .slice none 0 0] 235], [slF rp_u64_u64 A29 c15 ((x2 ++ ([((3 : Int), (1 : Int))]))), slF (rSl rp_i64_i64_LLOu64_u64_C) m11.1 m11.2 r3, slF (rSl rp_u64_u64) none 0 (([] : List (List (Int × Int))))], []⟩ [.agg #[.int .i64 ((wi64 (1 + ((max p1.2.1 0).tmod 7)))), .slice A29 (((x2 ++ ([((3 : Int), (1 : Int))]))).length) c15, .slice m11.1 r3.length m11.2, .int .i64 ((wi64 (2 + ((max p1.1 0).tmod 10)))), .int .i64 0, .slice none 0 0]] [] [cells b4 [.int .i64 ((wi64 (1 + ((max p1.2.1 0).tmod 7)))), .slice A29 (((x2 ++ ([((3 : Int), (1 : Int))]))).length) c15, .slice m11.1 r3.length m11.2, .int .i64 ((wi64 (2 + ((max p1.1 0).tmod 10)))), .int .i64 0, .slice none 0 0] 235] (Imp.re _ [1] [7, 8, 4] (sc rfl sn) (by decide) rfl rfl rfl) rfl rfl ⟨((A29, c15, m11.1, m11.2)), rfl, rfl, rfl⟩ (.cons (resv_cell (k := 0) rfl rfl ty235 nofun rfl rfl) .nil))
  ·refine Tr.cond_f rfl (bf_dec h31) ?_
   refine Tr.skip (qthen_n ?_)
   refine Tr.seq ?_
   refine Tr.region ?_
   refine TrL.v (v_fieldAddr' rfl fo238_0 rfl rfl) rfl rfl (bl rfl) ?_
   refine TrL.v (v_load (k := 0) rfl rfl rfl ty3 (fun _ => rfl) rfl rfl) rfl rfl (bl rfl) ?_
   refine TrL.v (v_max rfl rfl rfl) rfl rfl (bl rfl) ?_
   refine TrL.v (v_rem rfl rfl rfl (by decide)) rfl rfl (bl rfl) ?_
   refine TrL.v (v_arith rfl rfl rfl ar_add_i64) rfl rfl (bl rfl) ?_
   refine TrL.v (v_fieldAddr' rfl fo238_1 rfl rfl) rfl rfl (bl rfl) ?_
   refine TrL.v (v_load (k := 0) rfl rfl rfl ty3 (fun _ => rfl) rfl rfl) rfl rfl (bl rfl) ?_
   refine TrL.v (v_max rfl rfl rfl) rfl rfl (bl rfl) ?_
   refine TrL.v (v_rem rfl rfl rfl (by decide)) rfl rfl (bl rfl) ?_
   refine TrL.v (v_arith rfl rfl rfl ar_add_i64) rfl rfl (bl rfl) ?_
   refine TrL.v (v_move rfl rfl) rfl rfl (bl rfl) ?_
   obtain ⟨r4, hr4, H⟩ := bnd H
   refine TrL.cons rfl (op_call0' (vs := [.int .i64 (wi64 (2 + ((max p1.1 0).tmod 10))), .int .i64 (wi64 (1 + ((max p1.2.1 0).tmod 7))), .slice m10.1 x2.length m10.2.1]) (cap := []) [0] rfl rfl (bl rfl) rfl rfl en182 (c_ref15_New (wi64 (2 + ((max p1.1 0).tmod 10))) (wi64 (1 + ((max p1.2.1 0).tmod 7))) x2 m10.1 m10.2.1 r4 hr4) rfl (fun ret M' F' hR4 => ?_))
   obtain ⟨m12, rfl, rfl, rfl⟩ := hR4
   refine TrL.cons rfl (op_store' (k := 1) (c' := [.int .i64 ((wi64 (1 + ((max p1.2.1 0).tmod 7)))), .slice m10.1 x2.length m10.2.1, .slice m12.1 r4.length m12.2, .int .i64 ((wi64 (2 + ((max p1.1 0).tmod 10)))), .int .i64 0, .slice none 0 0]) rfl rfl rfl rfl rfl ty235 rfl (Nat.le_of_ble_eq_true rfl) (ones (oc rfl (oc rfl (oc rfl (oc rfl (oc rfl (oc rfl on))))))) rfl ?_)
   refine TrL.nil (qthen_n ?_)
   have hz := Option.some.inj H
   subst hz
   refine Tr.ret (ret_r ⟨[(2, .pointer (some ⟨b4, 0, none⟩))], [cells b4 [.int .i64 ((wi64 (1 + ((max p1.2.1 0).tmod 7)))), .slice m10.1 x2.length m10.2.1, .slice m12.1 r4.length m12.2, .int .i64 ((wi64 (2 + ((max p1.1 0).tmod 10)))), .int .i64 0, .slice none 0 0] 235], [slF rp_u64_u64 m10.1 m10.2.1 x2, slF (rSl rp_i64_i64_LLOu64_u64_C) m12.1 m12.2 r4, slF (rSl rp_u64_u64) none 0 (([] : List (List (Int × Int))))], []⟩ [.agg #[.int .i64 ((wi64 (1 + ((max p1.2.1 0).tmod 7)))), .slice m10.1 x2.length m10.2.1, .slice m12.1 r4.length m12.2, .int .i64 ((wi64 (2 + ((max p1.1 0).tmod 10)))), .int .i64 0, .slice none 0 0]] [] [cells b4 [.int .i64 ((wi64 (1 + ((max p1.2.1 0).tmod 7)))), .slice m10.1 x2.length m10.2.1, .slice m12.1 r4.length m12.2, .int .i64 ((wi64 (2 + ((max p1.1 0).tmod 10)))), .int .i64 0, .slice none 0 0] 235] (Imp.re _ [1] [0, 6, 4] (sc rfl sn) (by decide) rfl rfl rfl) rfl rfl ⟨((m10.1, m10.2.1, m12.1, m12.2)), rfl, rfl, rfl⟩ (.cons (resv_cell (k := 0) rfl rfl ty235 nofun rfl rfl) .nil))
end Go.Proofs.Ytbeknohemgjfbaa.W
