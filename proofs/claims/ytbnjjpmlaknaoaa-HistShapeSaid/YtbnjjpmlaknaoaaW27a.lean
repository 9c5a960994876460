/- The contracts of the walked functions: the printed walks. -/
import Derived.Test.YtbnjjpmlaknaoaaKa
import Derived.Test.YtbnjjpmlaknaoaaQa
import Derived.Test.YtbnjjpmlaknaoaaWlaw06aa
import Derived.Test.YtbnjjpmlaknaoaaWlaw06ba
import Derived.Test.YtbnjjpmlaknaoaaWref05aa
namespace Go.Proofs.Ytbnjjpmlaknaoaa.W
open Go Go.Proofs Go.Proofs.Ytbnjjpmlaknaoaa.L Go.Proofs.Ytbnjjpmlaknaoaa.Pu
set_option linter.unusedVariables false
set_option maxHeartbeats 4000000

theorem c_law06_HistShape (p1 : Int) (p2 : List (Int × Int)) (A1 : Option Addr) (c1 : Nat) (r : Bool) (H : law06_HistShape p1 p2 = some r) :
    Ctr Try.prog 27 [.int .i64 p1, .slice A1 p2.length c1] [] [slF rp_u64_u64 A1 c1 p2] (fun ret M' F' => ret = .bool r ∧ M' = [] ∧ F' = []) := by
  unfold law06_HistShape at H
  refine ctr_ofI (N := 106) Try.func27 rfl Try.ntmps27 rfl (Nat.le_of_ble_eq_true rfl) (fun γ0 w0 => ?_)
  refine Tr.seq ?_
  refine Tr.region ?_
  refine TrL.v (v_assign rfl rfl) rfl rfl (bl rfl) ?_
  refine TrL.nil (qthen_n ?_)
  refine Tr.seq ?_
  refine Tr.region ?_
  obtain ⟨r21, hr21, H⟩ := bnd H
  refine TrL.cons rfl (op_call0' (vs := []) (cap := []) [] rfl rfl (bl rfl) rfl rfl en70 (c_law06_awake r21 hr21) rfl (fun ret M' F' hR21 => ?_))
  obtain ⟨rfl, rfl, rfl⟩ := hR21
  refine TrL.v (v_assign rfl rfl) rfl rfl (bl rfl) ?_
  refine TrL.nil (qthen_n ?_)
  refine Tr.seq ?_
  refine Tr.region ?_
  refine TrL.v (v_move rfl rfl) rfl rfl (bl rfl) ?_
  refine TrL.v (v_move rfl rfl) rfl rfl (bl rfl) ?_
  obtain ⟨r22, hr22, H⟩ := bnd H
  refine TrL.cons rfl (op_call0' (vs := [.int .i64 p1, .slice A1 p2.length c1]) (cap := []) [0] rfl rfl (bl rfl) rfl rfl en71 (c_law06_played p1 p2 A1 c1 r22 hr22) rfl (fun ret M' F' hR22 => ?_))
  obtain ⟨m45, rfl, rfl, rfl⟩ := hR22
  refine TrL.v (v_move rfl rfl) rfl rfl (bl rfl) ?_
  refine TrL.v (v_extract rfl rfl rfl) rfl rfl (bl rfl) ?_
  refine TrL.v (v_extract rfl rfl rfl) rfl rfl (bl rfl) ?_
  refine TrL.v (v_extract rfl rfl rfl) rfl rfl (bl rfl) ?_
  refine TrL.cons rfl (op_alloc' rfl (bl rfl) rfl ze31 (fun b12 => ?_))
  refine TrL.cons rfl (op_alloc' rfl (bl rfl) rfl ze28 (fun b13 => ?_))
  refine TrL.cons rfl (op_store' (k := 1) (c' := [.int .i64 r22.1, .int .i64 r22.2.1, .slice m45.1 r22.2.2.1.length m45.2.1]) rfl rfl rfl rfl rfl ty31 rfl (Nat.le_of_ble_eq_true rfl) (ones (oc rfl (oc rfl (oc rfl on)))) rfl ?_)
  refine TrL.cons rfl (op_store' (k := 0) (c' := [.int .i64 r22.2.2.2.1, .int .i64 r22.2.2.2.2.1, .slice m45.2.2.1 r22.2.2.2.2.2.1.length m45.2.2.2]) rfl rfl rfl rfl rfl ty28 rfl (Nat.le_of_ble_eq_true rfl) (ones (oc rfl (oc rfl (oc rfl on)))) rfl ?_)
  refine TrL.v (v_assign rfl rfl) rfl rfl (bl rfl) ?_
  refine TrL.nil (qthen_n ?_)
  refine Tr.seq ?_
  refine Tr.region ?_
  refine TrL.v (v_assign rfl rfl) rfl rfl (bl rfl) ?_
  refine TrL.nil (qthen_n ?_)
  refine Tr.seq ?_
  refine Tr.seq ?_
  refine Tr.region ?_
  refine TrL.v (v_fieldAddr' rfl fo31_2 rfl rfl) rfl rfl (bl rfl) ?_
  refine TrL.v (v_load (k := 1) rfl rfl rfl ty26 (fun _ => rfl) rfl rfl) rfl rfl (bl rfl) ?_
  refine TrL.v (v_len rfl sl26 rfl) rfl rfl (bl rfl) ?_
  refine TrL.v (v_arith rfl rfl rfl ar_sub_i64) rfl rfl (bl rfl) ?_
  refine TrL.v (v_assign rfl rfl) rfl rfl (bl rfl) ?_
  refine TrL.nil (qthen_n ?_)
  obtain ⟨x7, hx13, H⟩ := bnd H
  refine Tr.cutE (D := Unit) (M := Unit) .ret (fun d13 => x7 = .inl d13) (fun d13 m73 => ⟨[(4, .bool false)], [], [], []⟩) ?_ (fun d13 m73 hd21 => ?_)
  · refine Tr.cutE (D := Unit) (M := Unit) .normal (fun d14 => x7 = .inr d14) (fun d14 m74 => ⟨[(5, .bool r21), (8, .bool r22.2.2.2.2.2.2)], [], [], []⟩) ?_ (fun d14 m74 hd22 => ?_)
    · refine Tr.block (Tr.loopI (ι := Unit) (step := law06_HistShape_s0 r22) (fun s17 m59 => ⟨[(5, .bool r21), (6, .pointer (some ⟨b12, 0, none⟩)), (8, .bool r22.2.2.2.2.2.2), (9, .int .u64 s17.1), (10, .int .i64 s17.2)], [cells b12 [.int .i64 r22.1, .int .i64 r22.2.1, .slice m45.1 r22.2.2.1.length m45.2.1] 31], [slF (rSl rp_u64_u64) m45.1 m45.2.1 r22.2.2.1], []⟩) (()) hx13 (Imp.re _ [1] [1] (sc rfl (sc rfl (sc rfl (sc rfl (sc rfl sn))))) (by decide) rfl rfl rfl) (fun s17 m59 y7 hy7 hx14 => ?_))
      unfold law06_HistShape_s0 at hy7
      refine Tr.seq ?_
      refine Tr.seq ?_
      refine Tr.region ?_
      refine TrL.v (v_move rfl rfl) rfl rfl (bl rfl) ?_
      refine TrL.v (v_arith rfl rfl rfl ar_geq) rfl rfl (bl rfl) ?_
      refine TrL.nil (qthen_n ?_)
      rcases ifc hy7 with ⟨h178, hy7⟩ | ⟨h178, hy7⟩
      · refine Tr.cond_t rfl (bt_dec h178) ?_
        refine Tr.skip (qthen_n ?_)
        refine Tr.seq ?_
        refine Tr.block ?_
        refine Tr.seq ?_
        refine Tr.region ?_
        refine TrL.v (v_fieldAddr' rfl fo31_2 rfl rfl) rfl rfl (bl rfl) ?_
        refine TrL.v (v_load (k := 0) rfl rfl rfl ty26 (fun _ => rfl) rfl rfl) rfl rfl (bl rfl) ?_
        refine TrL.v (v_move rfl rfl) rfl rfl (bl rfl) ?_
        obtain ⟨z21, hz21, hy7⟩ := bnd hy7
        refine TrL.v (v_indexAddr (k := 0) rfl sl26 ty38 rfl rfl rfl rfl hz21) rfl rfl (bl rfl) ?_
        refine TrL.openS' (k := 0) rfl hz21 (fun A22 c22 => ?_)
        refine TrL.v (v_loadF (k := 2) rfl ty38 rfl rfl) rfl rfl (bl rfl) ?_
        refine TrL.v (v_len rfl sl38 rfl) rfl rfl (bl rfl) ?_
        refine TrL.v (v_assign rfl rfl) rfl rfl (bl rfl) ?_
        refine TrL.nil (qthen_n ?_)
        refine Tr.seq ?_
        refine Tr.region ?_
        refine TrL.v (v_move rfl rfl) rfl rfl (bl rfl) ?_
        refine TrL.v (v_fieldAddr' rfl fo31_2 rfl rfl) rfl rfl (bl rfl) ?_
        refine TrL.v (v_load (k := 0) rfl rfl rfl ty26 (fun _ => rfl) rfl rfl) rfl rfl (bl rfl) ?_
        refine TrL.v (v_len rfl sl26 rfl) rfl rfl (bl rfl) ?_
        refine TrL.v (v_arith rfl rfl rfl ar_sub_i64) rfl rfl (bl rfl) ?_
        refine TrL.v (v_arith rfl rfl rfl ar_eql) rfl rfl (bl rfl) ?_
        refine TrL.v (v_assign rfl rfl) rfl rfl (bl rfl) ?_
        refine TrL.nil (qthen_n ?_)
        refine Tr.seq ?_
        refine Tr.seq ?_
        obtain ⟨j6, hj6, hy7⟩ := bnd hy7
        refine Tr.cutE (D := Bool) (M := Unit) .normal (fun _d => j6 = _d) (fun j6 m79 => ⟨[(5, .bool r21), (6, .pointer (some ⟨b12, 0, none⟩)), (8, .bool r22.2.2.2.2.2.2), (9, .int .u64 s17.1), (10, .int .i64 s17.2), (11, .int .i64 ((z21.length : Int))), (64, .bool j6)], [cells b12 [.int .i64 r22.1, .int .i64 r22.2.1, .slice m45.1 r22.2.2.1.length m45.2.1] 31], [slF (rSl rp_u64_u64) m45.1 m45.2.1 r22.2.2.1], []⟩) ?_ (fun j6 m79 hd18 => ?_)
        · refine Tr.region ?_
          refine TrL.v (v_move rfl rfl) rfl rfl (bl rfl) ?_
          refine TrL.v (v_arith rfl rfl rfl ar_lss) rfl rfl (bl rfl) ?_
          refine TrL.v (v_move rfl rfl) rfl rfl (bl rfl) ?_
          rcases ifc hj6 with ⟨h185, hj6⟩ | ⟨h185, hj6⟩
          · refine TrL.cons_no rfl rfl rfl (gn_f (bt_dec h185)) rfl (bl rfl) ?_
            refine TrL.cons_no rfl rfl rfl (gn_f (bt_dec h185)) rfl (bl rfl) ?_
            refine TrL.cons_no rfl rfl rfl (gn_f (bt_dec h185)) rfl (bl rfl) ?_
            refine TrL.cons_no rfl rfl rfl (gn_f (bt_dec h185)) rfl (bl rfl) ?_
            refine TrL.cons_no rfl rfl rfl (gn_f (bt_dec h185)) rfl (bl rfl) ?_
            refine TrL.cons_no rfl rfl rfl (gn_f (bt_dec h185)) rfl (bl rfl) ?_
            refine TrL.v (v_pick_t rfl rfl (bt_dec h185) rfl) rfl rfl (bl rfl) ?_
            refine TrL.v (v_move rfl rfl) rfl rfl (bl rfl) ?_
            refine TrL.cons_no rfl rfl rfl (gn_f rfl) rfl (bl rfl) ?_
            refine TrL.cons_no rfl rfl rfl (gn_f rfl) rfl (bl rfl) ?_
            refine TrL.cons_no rfl rfl rfl (gn_f rfl) rfl (bl rfl) ?_
            refine TrL.cons_un rfl rfl rfl rfl (bl rfl) ?_
            refine TrL.cons_un rfl rfl rfl rfl (bl rfl) ?_
            refine TrL.cons_un rfl rfl rfl rfl (bl rfl) ?_
            refine TrL.cons_un rfl rfl rfl rfl (bl rfl) ?_
            refine TrL.cons_un rfl rfl rfl rfl (bl rfl) ?_
            refine TrL.cons_un rfl rfl rfl rfl (bl rfl) ?_
            refine TrL.cons_no rfl rfl rfl (gn_f rfl) rfl (bl rfl) ?_
            refine TrL.v (v_pick_t rfl rfl rfl rfl) rfl rfl (bl rfl) ?_
            refine TrL.nil (qcut_hit true (()) (Option.some.inj hj6).symm (Imp.re _ [0] [0] (sc rfl (sc rfl (sc rfl (sc rfl (sc rfl (sc rfl (sc rfl sn))))))) (by decide) rfl rfl rfl))
          · refine TrL.cons_yes rfl rfl rfl (bf_dec h185) (OpTr.v (v_move rfl rfl) rfl (bl rfl) ?_)
            refine TrL.cons_yes rfl rfl rfl (bf_dec h185) (OpTr.v (v_fieldAddr' rfl fo31_0 rfl rfl) rfl (bl rfl) ?_)
            refine TrL.cons_yes rfl rfl rfl (bf_dec h185) (OpTr.v (v_load (k := 0) rfl rfl rfl ty3 (fun _ => rfl) rfl rfl) rfl (bl rfl) ?_)
            refine TrL.cons_yes rfl rfl rfl (bf_dec h185) (OpTr.v (v_move rfl rfl) rfl (bl rfl) ?_)
            obtain ⟨r39, hr39, hj6⟩ := bnd hj6
            refine TrL.cons_yes rfl rfl rfl (bf_dec h185) (op_call0' (vs := [.int .i64 r22.1, .int .i64 s17.2]) (cap := []) [] rfl rfl (bl rfl) rfl rfl en51 (c_ref05_Most r22.1 s17.2 r39 hr39) rfl (fun ret M' F' hR39 => ?_))
            obtain ⟨rfl, rfl, rfl⟩ := hR39
            refine TrL.cons_yes rfl rfl rfl (bf_dec h185) (OpTr.v (v_arith rfl rfl rfl ar_gtr) rfl (bl rfl) ?_)
            refine TrL.v (v_pick_f rfl rfl (bf_dec h185) rfl) rfl rfl (bl rfl) ?_
            refine TrL.v (v_move rfl rfl) rfl rfl (bl rfl) ?_
            rcases ifc hj6 with ⟨h186, hj6⟩ | ⟨h186, hj6⟩
            · refine TrL.cons_no rfl rfl rfl (gn_f (bt_dec h186)) rfl (bl rfl) ?_
              refine TrL.cons_no rfl rfl rfl (gn_f (bt_dec h186)) rfl (bl rfl) ?_
              refine TrL.cons_no rfl rfl rfl (gn_f (bt_dec h186)) rfl (bl rfl) ?_
              refine TrL.cons_un rfl rfl rfl rfl (bl rfl) ?_
              refine TrL.cons_un rfl rfl rfl rfl (bl rfl) ?_
              refine TrL.cons_un rfl rfl rfl rfl (bl rfl) ?_
              refine TrL.cons_un rfl rfl rfl rfl (bl rfl) ?_
              refine TrL.cons_un rfl rfl rfl rfl (bl rfl) ?_
              refine TrL.cons_un rfl rfl rfl rfl (bl rfl) ?_
              refine TrL.cons_no rfl rfl rfl (gn_f (bt_dec h186)) rfl (bl rfl) ?_
              refine TrL.v (v_pick_t rfl rfl (bt_dec h186) rfl) rfl rfl (bl rfl) ?_
              refine TrL.nil (qcut_hit true (()) (Option.some.inj hj6).symm (Imp.re _ [0] [0] (sc rfl (sc rfl (sc rfl (sc rfl (sc rfl (sc rfl (sc rfl sn))))))) (by decide) rfl rfl rfl))
            · refine TrL.cons_yes rfl rfl rfl (bf_dec h186) (OpTr.v (v_move rfl rfl) rfl (bl rfl) ?_)
              refine TrL.cons_yes rfl rfl rfl (bf_dec h186) (OpTr.v (v_notd rfl rfl) rfl (bl rfl) ?_)
              refine TrL.cons_yes rfl rfl rfl (bf_dec h186) (OpTr.v (v_move rfl rfl) rfl (bl rfl) ?_)
              rcases ifc hj6 with ⟨h187, hj6⟩ | ⟨h187, hj6⟩
              · refine TrL.cons_yes rfl rfl rfl (bt_dec h187) (OpTr.v (v_move rfl rfl) rfl (bl rfl) ?_)
                refine TrL.cons_yes rfl rfl rfl (bt_dec h187) (OpTr.v (v_fieldAddr' rfl fo31_0 rfl rfl) rfl (bl rfl) ?_)
                refine TrL.cons_yes rfl rfl rfl (bt_dec h187) (OpTr.v (v_load (k := 0) rfl rfl rfl ty3 (fun _ => rfl) rfl rfl) rfl (bl rfl) ?_)
                refine TrL.cons_yes rfl rfl rfl (bt_dec h187) (OpTr.v (v_move rfl rfl) rfl (bl rfl) ?_)
                obtain ⟨r40, hr40, hj6⟩ := bnd hj6
                refine TrL.cons_yes rfl rfl rfl (bt_dec h187) (op_call0' (vs := [.int .i64 r22.1, .int .i64 s17.2]) (cap := []) [] rfl rfl (bl rfl) rfl rfl en53 (c_ref05_Least r22.1 s17.2 r40 hr40) rfl (fun ret M' F' hR40 => ?_))
                obtain ⟨rfl, rfl, rfl⟩ := hR40
                refine TrL.cons_yes rfl rfl rfl (bt_dec h187) (OpTr.v (v_arith rfl rfl rfl ar_lss) rfl (bl rfl) ?_)
                refine TrL.cons_yes rfl rfl rfl (bf_dec h186) (OpTr.v (v_pick_t rfl rfl (bt_dec h187) rfl) rfl (bl rfl) ?_)
                refine TrL.v (v_pick_f rfl rfl (bf_dec h186) rfl) rfl rfl (bl rfl) ?_
                refine TrL.nil (qcut_hit (decide (((z21.length : Int)) < r40)) (()) (Option.some.inj hj6).symm (Imp.re _ [0] [0] (sc rfl (sc rfl (sc rfl (sc rfl (sc rfl (sc rfl (sc rfl sn))))))) (by decide) rfl rfl rfl))
              · refine TrL.cons_no rfl rfl rfl (gn_t (bf_dec h187)) rfl (bl rfl) ?_
                refine TrL.cons_no rfl rfl rfl (gn_t (bf_dec h187)) rfl (bl rfl) ?_
                refine TrL.cons_no rfl rfl rfl (gn_t (bf_dec h187)) rfl (bl rfl) ?_
                refine TrL.cons_no rfl rfl rfl (gn_t (bf_dec h187)) rfl (bl rfl) ?_
                refine TrL.cons_no rfl rfl rfl (gn_t (bf_dec h187)) rfl (bl rfl) ?_
                refine TrL.cons_no rfl rfl rfl (gn_t (bf_dec h187)) rfl (bl rfl) ?_
                refine TrL.cons_yes rfl rfl rfl (bf_dec h186) (OpTr.v (v_pick_f rfl rfl (bf_dec h187) rfl) rfl (bl rfl) ?_)
                refine TrL.v (v_pick_f rfl rfl (bf_dec h186) rfl) rfl rfl (bl rfl) ?_
                refine TrL.nil (qcut_hit false (()) (Option.some.inj hj6).symm (Imp.re _ [0] [0] (sc rfl (sc rfl (sc rfl (sc rfl (sc rfl (sc rfl (sc rfl sn))))))) (by decide) rfl rfl rfl))
        · subst hd18
          refine (qthen_n ?_)
          rcases ifc hy7 with ⟨h188, hy7⟩ | ⟨h188, hy7⟩
          · refine Tr.cond_t rfl h188 ?_
            refine Tr.seq ?_
            refine Tr.region ?_
            refine TrL.v (v_assign rfl rfl) rfl rfl (bl rfl) ?_
            refine TrL.nil (qthen_n ?_)
            have hz := Option.some.inj hy7
            subst hz
            refine Tr.ret (qthen_r (qblock_r (qthen_r (qloop_r (qblock_r (qcut_miss (by simp) (qcut_hit (()) (()) (hx14 _ rfl).symm (Imp.re _ [] [] (sc rfl sn) (by decide) rfl rfl rfl))))))))
          · refine Tr.cond_f rfl (bf_b h188) ?_
            refine Tr.skip (qthen_n ?_)
            refine Tr.seq ?_
            refine Tr.region ?_
            refine TrL.v (v_assign rfl rfl) rfl rfl (bl rfl) ?_
            refine TrL.nil (qthen_n ?_)
            obtain ⟨x8, hx15, hy7⟩ := bnd hy7
            refine Tr.cutE (D := Unit) (M := Unit) .ret (fun d15 => x8 = .inl d15) (fun d15 m85 => ⟨[(4, .bool false)], [], [], []⟩) ?_ (fun d15 m85 hd19 => ?_)
            · refine Tr.cutE (D := Int) (M := Unit) .normal (fun d16 => x8 = .inr d16) (fun d16 m86 => ⟨[(5, .bool r21), (6, .pointer (some ⟨b12, 0, none⟩)), (8, .bool r22.2.2.2.2.2.2), (9, .int .u64 d16), (10, .int .i64 s17.2)], [cells b12 [.int .i64 r22.1, .int .i64 r22.2.1, .slice m45.1 r22.2.2.1.length m45.2.1] 31], [slF (rSl rp_u64_u64) m45.1 m45.2.1 r22.2.2.1], []⟩) ?_ (fun d16 m86 hd20 => ?_)
              · refine Tr.block (Tr.loopI (ι := Unit) (step := law06_HistShape_s1 s17 z21) (fun s23 m83 => ⟨[(5, .bool r21), (6, .pointer (some ⟨b12, 0, none⟩)), (8, .bool r22.2.2.2.2.2.2), (9, .int .u64 s23.1), (10, .int .i64 s17.2), (11, .int .i64 ((z21.length : Int))), (13, .int .i64 s23.2)], [cells b12 [.int .i64 r22.1, .int .i64 r22.2.1, .slice m45.1 r22.2.2.1.length m45.2.1] 31], [slF (rSl rp_u64_u64) m45.1 m45.2.1 r22.2.2.1], []⟩) (()) hx15 (Imp.re _ [0] [0] (sc rfl (sc rfl (sc rfl (sc rfl (sc rfl (sc rfl (sc rfl sn))))))) (by decide) rfl rfl rfl) (fun s23 m83 y8 hy8 hx16 => ?_))
                unfold law06_HistShape_s1 at hy8
                refine Tr.seq ?_
                refine Tr.seq ?_
                refine Tr.region ?_
                refine TrL.v (v_move rfl rfl) rfl rfl (bl rfl) ?_
                refine TrL.v (v_move rfl rfl) rfl rfl (bl rfl) ?_
                refine TrL.v (v_arith rfl rfl rfl ar_lss) rfl rfl (bl rfl) ?_
                refine TrL.nil (qthen_n ?_)
                rcases ifc hy8 with ⟨h205, hy8⟩ | ⟨h205, hy8⟩
                · refine Tr.cond_t rfl (bt_dec h205) ?_
                  refine Tr.skip (qthen_n ?_)
                  refine Tr.seq ?_
                  refine Tr.block ?_
                  refine Tr.seq ?_
                  refine Tr.region ?_
                  refine TrL.v (v_fieldAddr' rfl fo31_2 rfl rfl) rfl rfl (bl rfl) ?_
                  refine TrL.v (v_load (k := 0) rfl rfl rfl ty26 (fun _ => rfl) rfl rfl) rfl rfl (bl rfl) ?_
                  refine TrL.v (v_move rfl rfl) rfl rfl (bl rfl) ?_
                  refine TrL.v (v_indexAddr (k := 0) rfl sl26 ty38 rfl rfl rfl rfl hz21) rfl rfl (bl rfl) ?_
                  refine TrL.openS' (k := 0) rfl hz21 (fun A25 c25 => ?_)
                  refine TrL.v (v_loadF (k := 2) rfl ty38 rfl rfl) rfl rfl (bl rfl) ?_
                  refine TrL.v (v_move rfl rfl) rfl rfl (bl rfl) ?_
                  obtain ⟨z24, hz24, hy8⟩ := bnd hy8
                  refine TrL.v (v_indexAddr (k := 1) rfl sl38 ty41 rfl rfl rfl rfl hz24) rfl rfl (bl rfl) ?_
                  refine TrL.v (v_loadg (A := A25) (i := s23.2) (j := 0) (k := 1) rfl ty41 nofun rfl rfl hz24 rfl rfl) rfl rfl (bl rfl) ?_
                  refine TrL.cons rfl (op_alloc' rfl (bl rfl) rfl ze41 (fun b22 => ?_))
                  refine TrL.cons rfl (op_store' (k := 0) (c' := [.int .u64 z24.1, .int .u64 z24.2]) rfl rfl rfl rfl rfl ty41 rfl (Nat.le_of_ble_eq_true rfl) (ones (oc rfl (oc rfl on))) rfl ?_)
                  refine TrL.nil (qthen_n ?_)
                  refine Tr.seq ?_
                  refine Tr.seq ?_
                  refine Tr.region ?_
                  refine TrL.v (v_fieldAddr' rfl fo41_0 rfl rfl) rfl rfl (bl rfl) ?_
                  refine TrL.v (v_load (k := 0) rfl rfl rfl ty23 (fun _ => rfl) rfl rfl) rfl rfl (bl rfl) ?_
                  refine TrL.v (v_move rfl rfl) rfl rfl (bl rfl) ?_
                  refine TrL.v (v_arith rfl rfl rfl ar_lss) rfl rfl (bl rfl) ?_
                  refine TrL.v (v_move rfl rfl) rfl rfl (bl rfl) ?_
                  rcases ifc hy8 with ⟨h209, hy8⟩ | ⟨h209, hy8⟩
                  · refine TrL.cons_no rfl rfl rfl (gn_f (bt_dec h209)) rfl (bl rfl) ?_
                    refine TrL.cons_no rfl rfl rfl (gn_f (bt_dec h209)) rfl (bl rfl) ?_
                    refine TrL.cons_no rfl rfl rfl (gn_f (bt_dec h209)) rfl (bl rfl) ?_
                    refine TrL.cons_no rfl rfl rfl (gn_f (bt_dec h209)) rfl (bl rfl) ?_
                    refine TrL.cons_no rfl rfl rfl (gn_f (bt_dec h209)) rfl (bl rfl) ?_
                    refine TrL.v (v_pick_t rfl rfl (bt_dec h209) rfl) rfl rfl (bl rfl) ?_
                    refine TrL.v (v_move rfl rfl) rfl rfl (bl rfl) ?_
                    refine TrL.cons_no rfl rfl rfl (gn_f rfl) rfl (bl rfl) ?_
                    refine TrL.cons_no rfl rfl rfl (gn_f rfl) rfl (bl rfl) ?_
                    refine TrL.cons_no rfl rfl rfl (gn_f rfl) rfl (bl rfl) ?_
                    refine TrL.cons_un rfl rfl rfl rfl (bl rfl) ?_
                    refine TrL.cons_un rfl rfl rfl rfl (bl rfl) ?_
                    refine TrL.cons_un rfl rfl rfl rfl (bl rfl) ?_
                    refine TrL.cons_un rfl rfl rfl rfl (bl rfl) ?_
                    refine TrL.cons_un rfl rfl rfl rfl (bl rfl) ?_
                    refine TrL.cons_no rfl rfl rfl (gn_f rfl) rfl (bl rfl) ?_
                    refine TrL.v (v_pick_t rfl rfl rfl rfl) rfl rfl (bl rfl) ?_
                    refine TrL.nil (qthen_n ?_)
                    refine Tr.cond_t rfl rfl ?_
                    refine Tr.seq ?_
                    refine Tr.region ?_
                    refine TrL.v (v_assign rfl rfl) rfl rfl (bl rfl) ?_
                    refine TrL.nil (qthen_n ?_)
                    have hz := Option.some.inj hy8
                    subst hz
                    refine Tr.ret (qthen_r (qblock_r (qthen_r (qloop_r (qblock_r (qcut_miss (by simp) (qcut_hit (()) (()) (hx16 _ rfl).symm (Imp.re _ [] [] (sc rfl sn) (by decide) rfl rfl rfl))))))))
                  · refine TrL.cons_yes rfl rfl rfl (bf_dec h209) (OpTr.v (v_fieldAddr' rfl fo41_1 rfl rfl) rfl (bl rfl) ?_)
                    refine TrL.cons_yes rfl rfl rfl (bf_dec h209) (OpTr.v (v_load (k := 0) rfl rfl rfl ty23 (fun _ => rfl) rfl rfl) rfl (bl rfl) ?_)
                    refine TrL.cons_yes rfl rfl rfl (bf_dec h209) (OpTr.v (v_fieldAddr' rfl fo41_0 rfl rfl) rfl (bl rfl) ?_)
                    refine TrL.cons_yes rfl rfl rfl (bf_dec h209) (OpTr.v (v_load (k := 0) rfl rfl rfl ty23 (fun _ => rfl) rfl rfl) rfl (bl rfl) ?_)
                    refine TrL.cons_yes rfl rfl rfl (bf_dec h209) (OpTr.v (v_arith rfl rfl rfl ar_lss) rfl (bl rfl) ?_)
                    refine TrL.v (v_pick_f rfl rfl (bf_dec h209) rfl) rfl rfl (bl rfl) ?_
                    refine TrL.v (v_move rfl rfl) rfl rfl (bl rfl) ?_
                    rcases ifc hy8 with ⟨h210, hy8⟩ | ⟨h210, hy8⟩
                    · refine TrL.cons_no rfl rfl rfl (gn_f (bt_dec h210)) rfl (bl rfl) ?_
                      refine TrL.cons_no rfl rfl rfl (gn_f (bt_dec h210)) rfl (bl rfl) ?_
                      refine TrL.cons_no rfl rfl rfl (gn_f (bt_dec h210)) rfl (bl rfl) ?_
                      refine TrL.cons_un rfl rfl rfl rfl (bl rfl) ?_
                      refine TrL.cons_un rfl rfl rfl rfl (bl rfl) ?_
                      refine TrL.cons_un rfl rfl rfl rfl (bl rfl) ?_
                      refine TrL.cons_un rfl rfl rfl rfl (bl rfl) ?_
                      refine TrL.cons_un rfl rfl rfl rfl (bl rfl) ?_
                      refine TrL.cons_no rfl rfl rfl (gn_f (bt_dec h210)) rfl (bl rfl) ?_
                      refine TrL.v (v_pick_t rfl rfl (bt_dec h210) rfl) rfl rfl (bl rfl) ?_
                      refine TrL.nil (qthen_n ?_)
                      refine Tr.cond_t rfl rfl ?_
                      refine Tr.seq ?_
                      refine Tr.region ?_
                      refine TrL.v (v_assign rfl rfl) rfl rfl (bl rfl) ?_
                      refine TrL.nil (qthen_n ?_)
                      have hz := Option.some.inj hy8
                      subst hz
                      refine Tr.ret (qthen_r (qblock_r (qthen_r (qloop_r (qblock_r (qcut_miss (by simp) (qcut_hit (()) (()) (hx16 _ rfl).symm (Imp.re _ [] [] (sc rfl sn) (by decide) rfl rfl rfl))))))))
                    · refine TrL.cons_yes rfl rfl rfl (bf_dec h210) (OpTr.v (v_move rfl rfl) rfl (bl rfl) ?_)
                      refine TrL.cons_yes rfl rfl rfl (bf_dec h210) (OpTr.v (v_arith rfl rfl rfl ar_eql) rfl (bl rfl) ?_)
                      refine TrL.cons_yes rfl rfl rfl (bf_dec h210) (OpTr.v (v_move rfl rfl) rfl (bl rfl) ?_)
                      rcases ifc hy8 with ⟨h211, hy8⟩ | ⟨h211, hy8⟩
                      · refine TrL.cons_yes rfl rfl rfl (bt_dec h211) (OpTr.v (v_fieldAddr' rfl fo41_0 rfl rfl) rfl (bl rfl) ?_)
                        refine TrL.cons_yes rfl rfl rfl (bt_dec h211) (OpTr.v (v_load (k := 0) rfl rfl rfl ty23 (fun _ => rfl) rfl rfl) rfl (bl rfl) ?_)
                        refine TrL.cons_yes rfl rfl rfl (bt_dec h211) (OpTr.v (v_fieldAddr' rfl fo41_1 rfl rfl) rfl (bl rfl) ?_)
                        refine TrL.cons_yes rfl rfl rfl (bt_dec h211) (OpTr.v (v_load (k := 0) rfl rfl rfl ty23 (fun _ => rfl) rfl rfl) rfl (bl rfl) ?_)
                        refine TrL.cons_yes rfl rfl rfl (bt_dec h211) (OpTr.v (v_arith rfl rfl rfl ar_neq) rfl (bl rfl) ?_)
                        refine TrL.cons_yes rfl rfl rfl (bf_dec h210) (OpTr.v (v_pick_t rfl rfl (bt_dec h211) rfl) rfl (bl rfl) ?_)
                        refine TrL.v (v_pick_f rfl rfl (bf_dec h210) rfl) rfl rfl (bl rfl) ?_
                        refine TrL.nil (qthen_n ?_)
                        rcases ifc hy8 with ⟨h212, hy8⟩ | ⟨h212, hy8⟩
                        · refine Tr.cond_t rfl (bt_dec h212) ?_
                          refine Tr.seq ?_
                          refine Tr.region ?_
                          refine TrL.v (v_assign rfl rfl) rfl rfl (bl rfl) ?_
                          refine TrL.nil (qthen_n ?_)
                          have hz := Option.some.inj hy8
                          subst hz
                          refine Tr.ret (qthen_r (qblock_r (qthen_r (qloop_r (qblock_r (qcut_miss (by simp) (qcut_hit (()) (()) (hx16 _ rfl).symm (Imp.re _ [] [] (sc rfl sn) (by decide) rfl rfl rfl))))))))
                        · refine Tr.cond_f rfl (bf_dec h212) ?_
                          refine Tr.skip (qthen_n ?_)
                          refine Tr.region ?_
                          refine TrL.v (v_fieldAddr' rfl fo41_1 rfl rfl) rfl rfl (bl rfl) ?_
                          refine TrL.v (v_load (k := 0) rfl rfl rfl ty23 (fun _ => rfl) rfl rfl) rfl rfl (bl rfl) ?_
                          refine TrL.v (v_assign rfl rfl) rfl rfl (bl rfl) ?_
                          refine TrL.nil (qblock_n (qthen_n ?_))
                          refine Tr.region ?_
                          refine TrL.v (v_move rfl rfl) rfl rfl (bl rfl) ?_
                          refine TrL.v (v_arith rfl rfl rfl ar_add_i64) rfl rfl (bl rfl) ?_
                          refine TrL.v (v_assign rfl rfl) rfl rfl (bl rfl) ?_
                          have hz := Option.some.inj hy8
                          subst hz
                          refine TrL.nil (qloop_n (()) (Imp.re _ [1] [0] (sc rfl (sc rfl (sc rfl (sc rfl (sc rfl (sc rfl (sc rfl sn))))))) (by decide) rfl rfl rfl))
                      · refine TrL.cons_no rfl rfl rfl (gn_t (bf_dec h211)) rfl (bl rfl) ?_
                        refine TrL.cons_no rfl rfl rfl (gn_t (bf_dec h211)) rfl (bl rfl) ?_
                        refine TrL.cons_no rfl rfl rfl (gn_t (bf_dec h211)) rfl (bl rfl) ?_
                        refine TrL.cons_no rfl rfl rfl (gn_t (bf_dec h211)) rfl (bl rfl) ?_
                        refine TrL.cons_no rfl rfl rfl (gn_t (bf_dec h211)) rfl (bl rfl) ?_
                        refine TrL.cons_yes rfl rfl rfl (bf_dec h210) (OpTr.v (v_pick_f rfl rfl (bf_dec h211) rfl) rfl (bl rfl) ?_)
                        refine TrL.v (v_pick_f rfl rfl (bf_dec h210) rfl) rfl rfl (bl rfl) ?_
                        refine TrL.nil (qthen_n ?_)
                        refine Tr.cond_f rfl rfl ?_
                        refine Tr.skip (qthen_n ?_)
                        refine Tr.region ?_
                        refine TrL.v (v_fieldAddr' rfl fo41_1 rfl rfl) rfl rfl (bl rfl) ?_
                        refine TrL.v (v_load (k := 0) rfl rfl rfl ty23 (fun _ => rfl) rfl rfl) rfl rfl (bl rfl) ?_
                        refine TrL.v (v_assign rfl rfl) rfl rfl (bl rfl) ?_
                        refine TrL.nil (qblock_n (qthen_n ?_))
                        refine Tr.region ?_
                        refine TrL.v (v_move rfl rfl) rfl rfl (bl rfl) ?_
                        refine TrL.v (v_arith rfl rfl rfl ar_add_i64) rfl rfl (bl rfl) ?_
                        refine TrL.v (v_assign rfl rfl) rfl rfl (bl rfl) ?_
                        have hz := Option.some.inj hy8
                        subst hz
                        refine TrL.nil (qloop_n (()) (Imp.re _ [1] [0] (sc rfl (sc rfl (sc rfl (sc rfl (sc rfl (sc rfl (sc rfl sn))))))) (by decide) rfl rfl rfl))
                · refine Tr.cond_f rfl (bf_dec h205) ?_
                  have hz := Option.some.inj hy8
                  subst hz
                  refine Tr.exit (qthen_x (qloop_x (qblock_hit (qcut_hit s23.1 (()) (hx16 _ rfl).symm (Imp.re _ [0] [0] (sc rfl (sc rfl (sc rfl (sc rfl (sc rfl sn))))) (by decide) rfl rfl rfl)))))
              · subst hd20
                replace hy7 := sumr hy7
                refine (qcut_miss (by simp) (qblock_n (qthen_n ?_)))
                refine Tr.region ?_
                refine TrL.v (v_move rfl rfl) rfl rfl (bl rfl) ?_
                refine TrL.v (v_arith rfl rfl rfl ar_sub_i64) rfl rfl (bl rfl) ?_
                refine TrL.v (v_assign rfl rfl) rfl rfl (bl rfl) ?_
                have hz := Option.some.inj hy7
                subst hz
                refine TrL.nil (qloop_n (()) (Imp.re _ [0] [0] (sc rfl (sc rfl (sc rfl (sc rfl (sc rfl sn))))) (by decide) rfl rfl rfl))
            · subst hd19
              replace hy7 := suml hy7
              have hz := Option.some.inj hy7
              subst hz
              refine (qblock_r (qthen_r (qloop_r (qblock_r (qcut_miss (by simp) (qcut_hit (()) (()) (hx14 _ rfl).symm (Imp.re _ [] [] (sc rfl sn) (by decide) rfl rfl rfl)))))))
      · refine Tr.cond_f rfl (bf_dec h178) ?_
        have hz := Option.some.inj hy7
        subst hz
        refine Tr.exit (qthen_x (qloop_x (qblock_hit (qcut_hit (()) (()) (hx14 _ rfl).symm (Imp.re _ [] [] (sc rfl (sc rfl sn)) (by decide) rfl rfl rfl)))))
    · subst hd22
      replace H := sumr H
      refine (qcut_miss (by simp) (qthen_n ?_))
      refine Tr.seq ?_
      refine Tr.region ?_
      refine TrL.v (v_move rfl rfl) rfl rfl (bl rfl) ?_
      refine TrL.v (v_move rfl rfl) rfl rfl (bl rfl) ?_
      rcases ifc H with ⟨h214, H⟩ | ⟨h214, H⟩
      · refine TrL.cons_yes rfl rfl rfl h214 (OpTr.v (v_move rfl rfl) rfl (bl rfl) ?_)
        refine TrL.v (v_pick_t rfl rfl h214 rfl) rfl rfl (bl rfl) ?_
        refine TrL.v (v_assign rfl rfl) rfl rfl (bl rfl) ?_
        refine TrL.nil (qthen_n ?_)
        have hz := Option.some.inj H
        subst hz
        refine Tr.ret (ret_r ⟨[(4, .bool r22.2.2.2.2.2.2)], [], [], []⟩ [.bool r22.2.2.2.2.2.2] [] [] (Imp.re _ [] [] (sc rfl sn) (by decide) rfl rfl rfl) rfl rfl ⟨rfl, rfl, rfl⟩ (.cons (resv_tmp rfl) .nil))
      · refine TrL.cons_no rfl rfl rfl (gn_t (bf_b h214)) rfl (bl rfl) ?_
        refine TrL.v (v_pick_f rfl rfl (bf_b h214) rfl) rfl rfl (bl rfl) ?_
        refine TrL.v (v_assign rfl rfl) rfl rfl (bl rfl) ?_
        refine TrL.nil (qthen_n ?_)
        have hz := Option.some.inj H
        subst hz
        refine Tr.ret (ret_r ⟨[(4, .bool false)], [], [], []⟩ [.bool false] [] [] (Imp.re _ [] [] (sc rfl sn) (by decide) rfl rfl rfl) rfl rfl ⟨rfl, rfl, rfl⟩ (.cons (resv_tmp rfl) .nil))
  · subst hd21
    replace H := suml H
    have hz := Option.some.inj H
    subst hz
    refine (qthen_r (ret_r ⟨[(4, .bool false)], [], [], []⟩ [.bool false] [] [] (Imp.re _ [] [] (sc rfl sn) (by decide) rfl rfl rfl) rfl rfl ⟨rfl, rfl, rfl⟩ (.cons (resv_tmp rfl) .nil)))
end Go.Proofs.Ytbnjjpmlaknaoaa.W
