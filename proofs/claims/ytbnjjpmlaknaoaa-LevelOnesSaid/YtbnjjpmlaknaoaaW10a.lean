/- The contracts of the walked functions: the printed walks. -/
import Derived.Test.YtbnjjpmlaknaoaaKa
import Derived.Test.YtbnjjpmlaknaoaaQa
import Derived.Test.YtbnjjpmlaknaoaaWlaw05aa
import Derived.Test.YtbnjjpmlaknaoaaWlevelaa
import Derived.Test.YtbnjjpmlaknaoaaWref05aa
namespace Go.Proofs.Ytbnjjpmlaknaoaa.W
open Go Go.Proofs Go.Proofs.Ytbnjjpmlaknaoaa.L Go.Proofs.Ytbnjjpmlaknaoaa.Pu
set_option linter.unusedVariables false
set_option maxHeartbeats 4000000

theorem c_law05_LevelOnes (p1 : List (Int × Int)) (p2 : List (Int × Int)) (p3 : Int × Int × Int) (A1 : Option Addr) (c1 : Nat) (A2 : Option Addr) (c2 : Nat) (r : Bool) (H : law05_LevelOnes p1 p2 p3 = some r) :
    Ctr Try.prog 10 [.slice A1 p1.length c1, .slice A2 p2.length c2, .agg #[.int .u8 p3.1, .int .u8 p3.2.1, .int .u8 p3.2.2]] [] [slF rp_u64_u64 A1 c1 p1, slF rp_u64_u64 A2 c2 p2] (fun ret M' F' => ret = .bool r ∧ M' = [] ∧ F' = []) := by
  unfold law05_LevelOnes at H
  refine ctr_ofI (N := 113) Try.func10 rfl Try.ntmps10 rfl (Nat.le_of_ble_eq_true rfl) (fun γ0 w0 => ?_)
  refine Tr.seq ?_
  refine Tr.region ?_
  refine TrL.cons rfl (op_box' rfl (bl rfl) rfl rfl rfl (fun b5 => ?_))
  refine TrL.v (v_assign rfl rfl) rfl rfl (bl rfl) ?_
  refine TrL.nil (qthen_n ?_)
  refine Tr.seq ?_
  refine Tr.region ?_
  obtain ⟨r12, hr12, H⟩ := bnd H
  refine TrL.cons rfl (op_call0' (vs := []) (cap := []) [] rfl rfl (bl rfl) rfl rfl en46 (c_law05_awake r12 hr12) rfl (fun ret M' F' hR12 => ?_))
  obtain ⟨rfl, rfl, rfl⟩ := hR12
  refine TrL.v (v_assign rfl rfl) rfl rfl (bl rfl) ?_
  refine TrL.nil (qthen_n ?_)
  refine Tr.seq ?_
  refine Tr.region ?_
  refine TrL.v (v_indexArr rfl ar57 ty5 rfl rfl (by decide) (by decide) rfl) rfl rfl (bl rfl) ?_
  refine TrL.v (v_load (k := 0) rfl rfl rfl ty5 (fun _ => rfl) rfl rfl) rfl rfl (bl rfl) ?_
  refine TrL.v (v_rem rfl rfl rfl (by decide)) rfl rfl (bl rfl) ?_
  refine TrL.v (v_conv' rfl ⟨_, Try.underlying5⟩ Try.underlying3 rfl wrap_i64') rfl rfl (bl rfl) ?_
  refine TrL.v (v_arith rfl rfl rfl ar_add_i64) rfl rfl (bl rfl) ?_
  refine TrL.v (v_assign rfl rfl) rfl rfl (bl rfl) ?_
  refine TrL.nil (qthen_n ?_)
  refine Tr.seq ?_
  refine Tr.seq ?_
  refine Tr.region ?_
  refine TrL.v (v_move rfl rfl) rfl rfl (bl rfl) ?_
  refine TrL.v (v_move rfl rfl) rfl rfl (bl rfl) ?_
  obtain ⟨r14, hr14, H⟩ := bnd H
  refine TrL.cons rfl (op_call0' (vs := [.slice A1 p1.length c1, .slice A2 p2.length c2]) (cap := []) [0, 1] rfl rfl (bl rfl) rfl rfl en47 (c_law05_come p1 p2 A1 c1 A2 c2 r14 hr14) rfl (fun ret M' F' hR14 => ?_))
  obtain ⟨rfl, rfl, rfl⟩ := hR14
  refine TrL.v (v_notd rfl (bdec rfl)) rfl rfl (bl rfl) ?_
  refine TrL.v (v_move rfl rfl) rfl rfl (bl rfl) ?_
  rcases ifc H with ⟨h32, H⟩ | ⟨h32, H⟩
  · refine TrL.cons_no rfl rfl rfl (gn_f (bt_dec h32)) rfl (bl rfl) ?_
    refine TrL.cons_no rfl rfl rfl (gn_f (bt_dec h32)) rfl (bl rfl) ?_
    refine TrL.cons_no rfl rfl rfl (gn_f (bt_dec h32)) rfl (bl rfl) ?_
    refine TrL.cons_no rfl rfl rfl (gn_f (bt_dec h32)) rfl (bl rfl) ?_
    refine TrL.v (v_pick_t rfl rfl (bt_dec h32) rfl) rfl rfl (bl rfl) ?_
    refine TrL.nil (qthen_n ?_)
    refine Tr.cond_t rfl rfl ?_
    refine Tr.seq ?_
    refine Tr.region ?_
    refine TrL.v (v_move rfl rfl) rfl rfl (bl rfl) ?_
    refine TrL.v (v_assign rfl rfl) rfl rfl (bl rfl) ?_
    refine TrL.nil (qthen_n ?_)
    have hz := Option.some.inj H
    subst hz
    refine Tr.ret (qthen_r (ret_r ⟨[(6, .bool r12)], [], [], []⟩ [.bool r12] [] [] (Imp.re _ [] [] (sc rfl sn) (by decide) rfl rfl rfl) rfl rfl ⟨rfl, rfl, rfl⟩ (.cons (resv_tmp rfl) .nil)))
  · refine TrL.cons_yes rfl rfl rfl (bf_dec h32) (OpTr.v (v_move rfl rfl) rfl (bl rfl) ?_)
    refine TrL.cons_yes rfl rfl rfl (bf_dec h32) (OpTr.v (v_len rfl sl38 rfl) rfl (bl rfl) ?_)
    refine TrL.cons_yes rfl rfl rfl (bf_dec h32) (OpTr.v (v_move rfl rfl) rfl (bl rfl) ?_)
    refine TrL.cons_yes rfl rfl rfl (bf_dec h32) (OpTr.v (v_arith rfl rfl rfl ar_gtr) rfl (bl rfl) ?_)
    refine TrL.v (v_pick_f rfl rfl (bf_dec h32) rfl) rfl rfl (bl rfl) ?_
    refine TrL.nil (qthen_n ?_)
    rcases ifc H with ⟨h33, H⟩ | ⟨h33, H⟩
    · refine Tr.cond_t rfl (bt_dec h33) ?_
      refine Tr.seq ?_
      refine Tr.region ?_
      refine TrL.v (v_move rfl rfl) rfl rfl (bl rfl) ?_
      refine TrL.v (v_assign rfl rfl) rfl rfl (bl rfl) ?_
      refine TrL.nil (qthen_n ?_)
      have hz := Option.some.inj H
      subst hz
      refine Tr.ret (qthen_r (ret_r ⟨[(6, .bool r12)], [], [], []⟩ [.bool r12] [] [] (Imp.re _ [] [] (sc rfl sn) (by decide) rfl rfl rfl) rfl rfl ⟨rfl, rfl, rfl⟩ (.cons (resv_tmp rfl) .nil)))
    · refine Tr.cond_f rfl (bf_dec h33) ?_
      refine Tr.skip (qthen_n ?_)
      refine Tr.seq ?_
      refine Tr.region ?_
      refine TrL.v (v_indexArr rfl ar57 ty5 rfl rfl (by decide) (by decide) rfl) rfl rfl (bl rfl) ?_
      refine TrL.v (v_load (k := 0) rfl rfl rfl ty5 (fun _ => rfl) rfl rfl) rfl rfl (bl rfl) ?_
      refine TrL.v (v_conv' rfl ⟨_, Try.underlying5⟩ Try.underlying23 rfl wrap_u64') rfl rfl (bl rfl) ?_
      refine TrL.v (v_assign rfl rfl) rfl rfl (bl rfl) ?_
      refine TrL.nil (qthen_n ?_)
      refine Tr.seq ?_
      refine Tr.region ?_
      refine TrL.v (v_indexArr rfl ar57 ty5 rfl rfl (by decide) (by decide) rfl) rfl rfl (bl rfl) ?_
      refine TrL.v (v_load (k := 0) rfl rfl rfl ty5 (fun _ => rfl) rfl rfl) rfl rfl (bl rfl) ?_
      refine TrL.v (v_rem rfl rfl rfl (by decide)) rfl rfl (bl rfl) ?_
      refine TrL.v (v_conv' rfl ⟨_, Try.underlying5⟩ Try.underlying3 rfl wrap_i64') rfl rfl (bl rfl) ?_
      refine TrL.v (v_assign rfl rfl) rfl rfl (bl rfl) ?_
      refine TrL.nil (qthen_n ?_)
      refine Tr.seq ?_
      refine Tr.region ?_
      refine TrL.v (v_move rfl rfl) rfl rfl (bl rfl) ?_
      refine TrL.v (v_assign rfl rfl) rfl rfl (bl rfl) ?_
      refine TrL.nil (qthen_n ?_)
      refine Tr.seq ?_
      refine Tr.region ?_
      refine TrL.v (v_assign rfl rfl) rfl rfl (bl rfl) ?_
      refine TrL.nil (qthen_n ?_)
      refine Tr.seq ?_
      refine Tr.seq ?_
      refine Tr.region ?_
      refine TrL.v (v_assign rfl rfl) rfl rfl (bl rfl) ?_
      refine TrL.nil (qthen_n ?_)
      obtain ⟨x3, hx5, H⟩ := bnd H
      refine Tr.cutE (D := (List (Int × Int)) × List (Int × Int)) (M := Option Addr × Nat × Option Addr × Nat × Option Nat) .normal (fun _d => x3 = _d) (fun x3 m33 => ⟨[(0, .slice A1 p1.length c1), (1, .slice A2 p2.length c2), (7, .bool r12), (8, .int .i64 (wi64 (1 + (wi64 (p3.1.tmod 20))))), (9, .int .u64 (wu64 p3.2.2)), (10, .int .i64 (wi64 (p3.2.1.tmod 50))), (11, .slice m33.1 x3.1.length m33.2.1), (12, .slice m33.2.2.1 x3.2.length m33.2.2.2.1)], [grow 41 2 (.slice m33.2.2.1 x3.2.length m33.2.2.2.1) x3.2.length m33.2.2.2.2], [slF rp_u64_u64 A1 c1 p1, slF rp_u64_u64 A2 c2 p2, slF rp_u64_u64 m33.1 m33.2.1 x3.1, slF rp_u64_u64 m33.2.2.1 m33.2.2.2.1 x3.2], []⟩) ?_ (fun x3 m33 hd9 => ?_)
      · refine Tr.block (Tr.loopI (ι := Option Addr × Nat × Option Addr × Nat × Option Nat) (step := law05_LevelOnes_s0 p2 p3) (fun s8 m29 => ⟨[(0, .slice A1 p1.length c1), (1, .slice A2 p2.length c2), (7, .bool r12), (8, .int .i64 (wi64 (1 + (wi64 (p3.1.tmod 20))))), (9, .int .u64 (wu64 p3.2.2)), (10, .int .i64 (wi64 (p3.2.1.tmod 50))), (11, .slice m29.1 s8.1.length m29.2.1), (12, .slice m29.2.2.1 s8.2.1.length m29.2.2.2.1), (13, .int .i64 s8.2.2)], [grow 41 2 (.slice m29.2.2.1 s8.2.1.length m29.2.2.2.1) s8.2.1.length m29.2.2.2.2], [slF rp_u64_u64 A1 c1 p1, slF rp_u64_u64 A2 c2 p2, slF rp_u64_u64 m29.1 m29.2.1 s8.1, slF rp_u64_u64 m29.2.2.1 m29.2.2.2.1 s8.2.1], []⟩) ((A1, c1, none, 0, none)) hx5 (Imp.full' (E := 41) (sz := 2) (A := none) (n := 0) (Imp.addF' _ (nilF rp_u64_u64) (Imp.re _ [0] [0, 1, 0, 2] (sc rfl (sc rfl (sc rfl (sc rfl (sc rfl (sc rfl (sc rfl (sc rfl (sc rfl sn))))))))) (by decide) rfl rfl rfl))) (fun s8 m29 y3 hy3 hx6 => ?_))
        unfold law05_LevelOnes_s0 at hy3
        refine Tr.seq ?_
        refine Tr.seq ?_
        refine Tr.region ?_
        refine TrL.v (v_move rfl rfl) rfl rfl (bl rfl) ?_
        refine TrL.v (v_move rfl rfl) rfl rfl (bl rfl) ?_
        refine TrL.v (v_len rfl sl38 rfl) rfl rfl (bl rfl) ?_
        refine TrL.v (v_move rfl rfl) rfl rfl (bl rfl) ?_
        refine TrL.v (v_arith rfl rfl rfl ar_add_i64) rfl rfl (bl rfl) ?_
        refine TrL.v (v_arith rfl rfl rfl ar_lss) rfl rfl (bl rfl) ?_
        refine TrL.nil (qthen_n ?_)
        rcases ifc hy3 with ⟨h42, hy3⟩ | ⟨h42, hy3⟩
        · refine Tr.cond_t rfl (bt_dec h42) ?_
          refine Tr.skip (qthen_n ?_)
          refine Tr.seq ?_
          refine Tr.block ?_
          refine Tr.seq ?_
          refine Tr.region ?_
          refine TrL.v (v_move rfl rfl) rfl rfl (bl rfl) ?_
          refine TrL.v (v_move rfl rfl) rfl rfl (bl rfl) ?_
          refine TrL.v (v_build (vs := [.int .u64 (wu64 p3.2.2), .int .u64 (wu64 p3.2.2)]) (out := [.int .u64 (wu64 p3.2.2), .int .u64 (wu64 p3.2.2)]) rfl pl41 ze41 rfl rfl) rfl rfl (bl rfl) ?_
          refine TrL.cons rfl (op_alloc' rfl (bl rfl) rfl ze41 (fun b8 => ?_))
          refine TrL.cons rfl (op_store' (k := 0) (c' := [.int .u64 (wu64 p3.2.2), .int .u64 (wu64 p3.2.2)]) rfl rfl rfl rfl rfl ty41 rfl (Nat.le_of_ble_eq_true rfl) (ones (oc rfl (oc rfl on))) rfl ?_)
          refine TrL.nil (qthen_n ?_)
          refine Tr.seq ?_
          refine Tr.seq ?_
          refine Tr.region ?_
          refine TrL.v (v_move rfl rfl) rfl rfl (bl rfl) ?_
          refine TrL.v (v_move rfl rfl) rfl rfl (bl rfl) ?_
          refine TrL.v (v_len rfl sl38 rfl) rfl rfl (bl rfl) ?_
          refine TrL.v (v_arith rfl rfl rfl ar_lss) rfl rfl (bl rfl) ?_
          refine TrL.nil (qthen_n ?_)
          obtain ⟨j6, hj6, hy3⟩ := bnd hy3
          refine Tr.cutE (D := Int × Int) (M := Unit) .normal (fun _d => j6 = _d) (fun j6 m34 => ⟨[(0, .slice A1 p1.length c1), (1, .slice A2 p2.length c2), (7, .bool r12), (8, .int .i64 (wi64 (1 + (wi64 (p3.1.tmod 20))))), (9, .int .u64 (wu64 p3.2.2)), (10, .int .i64 (wi64 (p3.2.1.tmod 50))), (11, .slice m29.1 s8.1.length m29.2.1), (12, .slice m29.2.2.1 s8.2.1.length m29.2.2.2.1), (13, .int .i64 s8.2.2), (14, .pointer (some ⟨b8, 0, none⟩))], [cells b8 [.int .u64 j6.1, .int .u64 j6.2] 41, grow 41 2 (.slice m29.2.2.1 s8.2.1.length m29.2.2.2.1) s8.2.1.length m29.2.2.2.2], [slF rp_u64_u64 A1 c1 p1, slF rp_u64_u64 A2 c2 p2, slF rp_u64_u64 m29.1 m29.2.1 s8.1, slF rp_u64_u64 m29.2.2.1 m29.2.2.2.1 s8.2.1], []⟩) ?_ (fun j6 m34 hd8 => ?_)
          · rcases ifc hj6 with ⟨h44, hj6⟩ | ⟨h44, hj6⟩
            · refine Tr.cond_t rfl (bt_dec h44) ?_
              refine Tr.region ?_
              refine TrL.v (v_move rfl rfl) rfl rfl (bl rfl) ?_
              refine TrL.v (v_move rfl rfl) rfl rfl (bl rfl) ?_
              obtain ⟨z12, hz12, hj6⟩ := bnd hj6
              refine TrL.v (v_indexAddr (k := 1) rfl sl38 ty41 rfl rfl rfl rfl hz12) rfl rfl (bl rfl) ?_
              refine TrL.v (v_loadg (A := A2) (i := s8.2.2) (j := 0) (k := 1) rfl ty41 nofun rfl rfl hz12 rfl rfl) rfl rfl (bl rfl) ?_
              refine TrL.cons rfl (op_store' (k := 0) (c' := [.int .u64 z12.1, .int .u64 z12.2]) rfl rfl rfl rfl rfl ty41 rfl (Nat.le_of_ble_eq_true rfl) (ones (oc rfl (oc rfl on))) rfl ?_)
              refine TrL.nil (qcut_hit ((z12.1, z12.2)) (()) (Option.some.inj hj6).symm (Imp.re _ [0, 1] [0, 1, 2, 3] (sc rfl (sc rfl (sc rfl (sc rfl (sc rfl (sc rfl (sc rfl (sc rfl (sc rfl (sc rfl sn)))))))))) (by decide) rfl rfl rfl))
            · refine Tr.cond_f rfl (bf_dec h44) ?_
              refine Tr.skip (qcut_hit ((wu64 p3.2.2, wu64 p3.2.2)) (()) (Option.some.inj hj6).symm (Imp.re _ [0, 1] [0, 1, 2, 3] (sc rfl (sc rfl (sc rfl (sc rfl (sc rfl (sc rfl (sc rfl (sc rfl (sc rfl (sc rfl sn)))))))))) (by decide) rfl rfl rfl))
          · subst hd8
            refine (qthen_n ?_)
            refine Tr.seq ?_
            refine Tr.region ?_
            refine TrL.v (v_move rfl rfl) rfl rfl (bl rfl) ?_
            refine TrL.v (v_move rfl rfl) rfl rfl (bl rfl) ?_
            refine TrL.v (v_load (k := 0) rfl rfl rfl ty41 nofun rfl rfl) rfl rfl (bl rfl) ?_
            obtain ⟨r17, hr17, hy3⟩ := bnd hy3
            refine TrL.cons rfl (op_call0' (vs := [.slice m29.1 s8.1.length m29.2.1, .int .i64 (wi64 (1 + (wi64 (p3.1.tmod 20)))), .agg #[.int .u64 j6.1, .int .u64 j6.2]]) (cap := []) [2] rfl rfl (bl rfl) rfl rfl en54 (c_ref05_One s8.1 (wi64 (1 + (wi64 (p3.1.tmod 20)))) j6 m29.1 m29.2.1 r17 hr17) rfl (fun ret M' F' hR17 => ?_))
            obtain ⟨m35, rfl, rfl, rfl⟩ := hR17
            refine TrL.v (v_move rfl rfl) rfl rfl (bl rfl) ?_
            refine TrL.v (v_extract rfl rfl rfl) rfl rfl (bl rfl) ?_
            refine TrL.v (v_extract rfl rfl rfl) rfl rfl (bl rfl) ?_
            refine TrL.v (v_assign rfl rfl) rfl rfl (bl rfl) ?_
            refine TrL.v (v_assign rfl rfl) rfl rfl (bl rfl) ?_
            refine TrL.nil (qthen_n ?_)
            refine Tr.seq ?_
            refine Tr.region ?_
            refine TrL.v (v_move rfl rfl) rfl rfl (bl rfl) ?_
            refine TrL.v (v_assign rfl rfl) rfl rfl (bl rfl) ?_
            refine TrL.nil (qthen_n ?_)
            refine Tr.region ?_
            refine TrL.v (v_move rfl rfl) rfl rfl (bl rfl) ?_
            refine TrL.v (v_move rfl rfl) rfl rfl (bl rfl) ?_
            obtain ⟨h45, hy3⟩ := rom hy3
            refine TrL.cons rfl (op_append' (rp := rp_u64_u64) (xs := s8.2.1) (ys := r17.2) (k := 1) (kx := 3) (ky := 5) rfl (bl rfl) rfl sl38 ty41 ze41 rfl by41 rfl rfl rfl rfl rfl rfl rfl h45.1 h45.2 (fun A14 c11 o9 => ?_))
            refine TrL.v (v_assign rfl rfl) rfl rfl (bl rfl) ?_
            refine TrL.nil (qblock_n (qthen_n ?_))
            refine Tr.region ?_
            refine TrL.v (v_move rfl rfl) rfl rfl (bl rfl) ?_
            refine TrL.v (v_arith rfl rfl rfl ar_add_i64) rfl rfl (bl rfl) ?_
            refine TrL.v (v_assign rfl rfl) rfl rfl (bl rfl) ?_
            have hz := Option.some.inj hy3
            subst hz
            refine TrL.nil (qloop_n ((m35.1, m35.2.1, A14, c11, o9)) (Imp.re _ [1] [0, 1, 4, 6] (sc rfl (sc rfl (sc rfl (sc rfl (sc rfl (sc rfl (sc rfl (sc rfl (sc rfl sn))))))))) (by decide) rfl rfl rfl))
        · refine Tr.cond_f rfl (bf_dec h42) ?_
          have hz := Option.some.inj hy3
          subst hz
          refine Tr.exit (qthen_x (qloop_x (qblock_hit (qcut_hit ((s8.1, s8.2.1)) ((m29.1, m29.2.1, m29.2.2.1, m29.2.2.2.1, m29.2.2.2.2)) (hx6 _ rfl).symm (Imp.re _ [0] [0, 1, 2, 3] (sc rfl (sc rfl (sc rfl (sc rfl (sc rfl (sc rfl (sc rfl (sc rfl sn)))))))) (by decide) rfl rfl rfl)))))
      · subst hd9
        refine (qthen_n ?_)
        refine Tr.seq ?_
        refine Tr.region ?_
        refine TrL.v (v_move rfl rfl) rfl rfl (bl rfl) ?_
        refine TrL.v (v_move rfl rfl) rfl rfl (bl rfl) ?_
        refine TrL.v (v_move rfl rfl) rfl rfl (bl rfl) ?_
        refine TrL.v (v_move rfl rfl) rfl rfl (bl rfl) ?_
        refine TrL.v (v_conv' rfl ⟨_, Try.underlying3⟩ Try.underlying23 rfl wrap_u64') rfl rfl (bl rfl) ?_
        refine TrL.v (v_move rfl rfl) rfl rfl (bl rfl) ?_
        obtain ⟨r18, hr18, H⟩ := bnd H
        refine TrL.cons rfl (op_call0' (vs := [.slice A1 p1.length c1, .int .i64 (wi64 (1 + (wi64 (p3.1.tmod 20)))), .slice A2 p2.length c2, .int .u64 (wu64 (wi64 (p3.2.1.tmod 50))), .int .u64 (wu64 p3.2.2)]) (cap := []) [0, 1] rfl rfl (bl rfl) rfl rfl en48 (c_level_Push p1 (wi64 (1 + (wi64 (p3.1.tmod 20)))) p2 (wu64 (wi64 (p3.2.1.tmod 50))) (wu64 p3.2.2) A1 c1 A2 c2 r18 hr18) rfl (fun ret M' F' hR18 => ?_))
        obtain ⟨m36, rfl, rfl, rfl⟩ := hR18
        refine TrL.v (v_move rfl rfl) rfl rfl (bl rfl) ?_
        refine TrL.v (v_extract rfl rfl rfl) rfl rfl (bl rfl) ?_
        refine TrL.v (v_extract rfl rfl rfl) rfl rfl (bl rfl) ?_
        refine TrL.v (v_extract rfl rfl rfl) rfl rfl (bl rfl) ?_
        refine TrL.v (v_assign rfl rfl) rfl rfl (bl rfl) ?_
        refine TrL.v (v_assign rfl rfl) rfl rfl (bl rfl) ?_
        refine TrL.v (v_assign rfl rfl) rfl rfl (bl rfl) ?_
        refine TrL.nil (qthen_n ?_)
        refine Tr.seq ?_
        refine Tr.seq ?_
        refine Tr.region ?_
        refine TrL.v (v_assign rfl rfl) rfl rfl (bl rfl) ?_
        refine TrL.nil (qthen_n ?_)
        obtain ⟨x4, hx7, H⟩ := bnd H
        refine Tr.cutE (D := List (Int × Int)) (M := Option Addr × Nat × Option Nat) .normal (fun _d => x4 = _d) (fun x4 m40 => ⟨[(7, .bool r12), (11, .slice m33.1 x3.1.length m33.2.1), (12, .slice m33.2.2.1 x3.2.length m33.2.2.2.1), (17, .slice m36.1 r18.1.length m36.2.1), (18, .slice m40.1 x4.length m40.2.1)], [grow 41 2 (.slice m33.2.2.1 x3.2.length m33.2.2.2.1) x3.2.length m33.2.2.2.2, grow 41 2 (.slice m36.1 r18.1.length m36.2.1) r18.1.length m36.2.2.2.2.1, grow 41 2 (.slice m40.1 x4.length m40.2.1) x4.length m40.2.2], [slF rp_u64_u64 m33.1 m33.2.1 x3.1, slF rp_u64_u64 m33.2.2.1 m33.2.2.2.1 x3.2, slF rp_u64_u64 m36.1 m36.2.1 r18.1, slF rp_u64_u64 m40.1 m40.2.1 x4], []⟩) ?_ (fun x4 m40 hd10 => ?_)
        · refine Tr.block (Tr.loopI (ι := Option Addr × Nat × Option Nat) (step := law05_LevelOnes_s1 p3 r18) (fun s11 m38 => ⟨[(7, .bool r12), (9, .int .u64 (wu64 p3.2.2)), (11, .slice m33.1 x3.1.length m33.2.1), (12, .slice m33.2.2.1 x3.2.length m33.2.2.2.1), (17, .slice m36.1 r18.1.length m36.2.1), (18, .slice m38.1 s11.1.length m38.2.1), (19, .int .u64 r18.2.2), (20, .int .u64 s11.2)], [grow 41 2 (.slice m33.2.2.1 x3.2.length m33.2.2.2.1) x3.2.length m33.2.2.2.2, grow 41 2 (.slice m36.1 r18.1.length m36.2.1) r18.1.length m36.2.2.2.2.1, grow 41 2 (.slice m38.1 s11.1.length m38.2.1) s11.1.length m38.2.2], [slF rp_u64_u64 m33.1 m33.2.1 x3.1, slF rp_u64_u64 m33.2.2.1 m33.2.2.2.1 x3.2, slF rp_u64_u64 m36.1 m36.2.1 r18.1, slF rp_u64_u64 m38.1 m38.2.1 s11.1], []⟩) ((m36.2.2.1, m36.2.2.2.1, m36.2.2.2.2.2)) hx7 (Imp.re _ [2, 0, 1] [2, 3, 4, 5] (sc rfl (sc rfl (sc rfl (sc rfl (sc rfl (sc rfl (sc rfl (sc rfl sn)))))))) (by decide) rfl rfl rfl) (fun s11 m38 y4 hy4 hx8 => ?_))
          unfold law05_LevelOnes_s1 at hy4
          refine Tr.seq ?_
          refine Tr.seq ?_
          refine Tr.region ?_
          refine TrL.v (v_move rfl rfl) rfl rfl (bl rfl) ?_
          refine TrL.v (v_move rfl rfl) rfl rfl (bl rfl) ?_
          refine TrL.v (v_arith rfl rfl rfl ar_lss) rfl rfl (bl rfl) ?_
          refine TrL.v (v_move rfl rfl) rfl rfl (bl rfl) ?_
          rcases ifc hy4 with ⟨h54, hy4⟩ | ⟨h54, hy4⟩
          · refine TrL.cons_yes rfl rfl rfl (bt_dec h54) (OpTr.v (v_move rfl rfl) rfl (bl rfl) ?_)
            refine TrL.cons_yes rfl rfl rfl (bt_dec h54) (OpTr.v (v_arith rfl rfl rfl ar_lss) rfl (bl rfl) ?_)
            refine TrL.v (v_pick_t rfl rfl (bt_dec h54) rfl) rfl rfl (bl rfl) ?_
            refine TrL.nil (qthen_n ?_)
            rcases ifc hy4 with ⟨h55, hy4⟩ | ⟨h55, hy4⟩
            · refine Tr.cond_t rfl (bt_dec h55) ?_
              refine Tr.skip (qthen_n ?_)
              refine Tr.seq ?_
              refine Tr.block ?_
              refine Tr.region ?_
              refine TrL.v (v_move rfl rfl) rfl rfl (bl rfl) ?_
              refine TrL.v (v_move rfl rfl) rfl rfl (bl rfl) ?_
              refine TrL.v (v_move rfl rfl) rfl rfl (bl rfl) ?_
              refine TrL.v (v_build (vs := [.int .u64 (wu64 p3.2.2), .int .u64 (wu64 p3.2.2)]) (out := [.int .u64 (wu64 p3.2.2), .int .u64 (wu64 p3.2.2)]) rfl pl41 ze41 rfl rfl) rfl rfl (bl rfl) ?_
              refine TrL.cons rfl (op_buildSlice' (rp := rp_u64_u64) (xs := [(wu64 p3.2.2, wu64 p3.2.2)]) (vs := [.agg #[.int .u64 (wu64 p3.2.2), .int .u64 (wu64 p3.2.2)]]) (out := [.int .u64 (wu64 p3.2.2), .int .u64 (wu64 p3.2.2)]) rfl (bl rfl) rfl sl38 ty41 ze41 rfl rfl (by decide) (by decide) rfl (fun γ w hF => (rowc rfl rown rfl)) (fun A19 => ?_))
              obtain ⟨h56, hy4⟩ := rom hy4
              refine TrL.cons rfl (op_append' (rp := rp_u64_u64) (xs := s11.1) (ys := [(wu64 p3.2.2, wu64 p3.2.2)]) (k := 2) (kx := 3) (ky := 4) rfl (bl rfl) rfl sl38 ty41 ze41 rfl by41 rfl rfl rfl rfl rfl rfl rfl h56.1 h56.2 (fun A20 c14 o12 => ?_))
              refine TrL.v (v_assign rfl rfl) rfl rfl (bl rfl) ?_
              refine TrL.nil (qblock_n (qthen_n ?_))
              refine Tr.region ?_
              refine TrL.v (v_move rfl rfl) rfl rfl (bl rfl) ?_
              refine TrL.v (v_arith rfl rfl rfl ar_add_u64) rfl rfl (bl rfl) ?_
              refine TrL.v (v_assign rfl rfl) rfl rfl (bl rfl) ?_
              have hz := Option.some.inj hy4
              subst hz
              refine TrL.nil (qloop_n ((A20, c14, o12)) (Imp.re _ [0, 1, 2] [0, 1, 2, 5] (sc rfl (sc rfl (sc rfl (sc rfl (sc rfl (sc rfl (sc rfl (sc rfl sn)))))))) (by decide) rfl rfl rfl))
            · refine Tr.cond_f rfl (bf_dec h55) ?_
              have hz := Option.some.inj hy4
              subst hz
              refine Tr.exit (qthen_x (qloop_x (qblock_hit (qcut_hit s11.1 ((m38.1, m38.2.1, m38.2.2)) (hx8 _ rfl).symm (Imp.re _ [0, 1, 2] [0, 1, 2, 3] (sc rfl (sc rfl (sc rfl (sc rfl (sc rfl sn))))) (by decide) rfl rfl rfl)))))
          · refine TrL.cons_no rfl rfl rfl (gn_t (bf_dec h54)) rfl (bl rfl) ?_
            refine TrL.cons_no rfl rfl rfl (gn_t (bf_dec h54)) rfl (bl rfl) ?_
            refine TrL.v (v_pick_f rfl rfl (bf_dec h54) rfl) rfl rfl (bl rfl) ?_
            refine TrL.nil (qthen_n ?_)
            refine Tr.cond_f rfl rfl ?_
            have hz := Option.some.inj hy4
            subst hz
            refine Tr.exit (qthen_x (qloop_x (qblock_hit (qcut_hit s11.1 ((m38.1, m38.2.1, m38.2.2)) (hx8 _ rfl).symm (Imp.re _ [0, 1, 2] [0, 1, 2, 3] (sc rfl (sc rfl (sc rfl (sc rfl (sc rfl sn))))) (by decide) rfl rfl rfl)))))
        · subst hd10
          refine (qthen_n ?_)
          refine Tr.seq ?_
          refine Tr.region ?_
          refine TrL.v (v_move rfl rfl) rfl rfl (bl rfl) ?_
          refine TrL.v (v_move rfl rfl) rfl rfl (bl rfl) ?_
          rcases ifc H with ⟨h59, H⟩ | ⟨h59, H⟩
          · refine TrL.cons_yes rfl rfl rfl h59 (OpTr.v (v_move rfl rfl) rfl (bl rfl) ?_)
            refine TrL.cons_yes rfl rfl rfl h59 (OpTr.v (v_move rfl rfl) rfl (bl rfl) ?_)
            obtain ⟨r21, hr21, H⟩ := bnd H
            refine TrL.cons_yes rfl rfl rfl h59 (op_call0' (vs := [.slice m36.1 r18.1.length m36.2.1, .slice m33.1 x3.1.length m33.2.1]) (cap := []) [2, 0] rfl rfl (bl rfl) rfl rfl en37 (c_ref05_Same r18.1 x3.1 m36.1 m36.2.1 m33.1 m33.2.1 r21 hr21) rfl (fun ret M' F' hR21 => ?_))
            obtain ⟨rfl, rfl, rfl⟩ := hR21
            refine TrL.v (v_pick_t rfl rfl h59 rfl) rfl rfl (bl rfl) ?_
            refine TrL.v (v_move rfl rfl) rfl rfl (bl rfl) ?_
            rcases ifc H with ⟨h60, H⟩ | ⟨h60, H⟩
            · refine TrL.cons_yes rfl rfl rfl h60 (OpTr.v (v_move rfl rfl) rfl (bl rfl) ?_)
              refine TrL.cons_yes rfl rfl rfl h60 (OpTr.v (v_move rfl rfl) rfl (bl rfl) ?_)
              obtain ⟨r22, hr22, H⟩ := bnd H
              refine TrL.cons_yes rfl rfl rfl h60 (op_call0' (vs := [.slice m40.1 x4.length m40.2.1, .slice m33.2.2.1 x3.2.length m33.2.2.2.1]) (cap := []) [3, 1] rfl rfl (bl rfl) rfl rfl en37 (c_ref05_Same x4 x3.2 m40.1 m40.2.1 m33.2.2.1 m33.2.2.2.1 r22 hr22) rfl (fun ret M' F' hR22 => ?_))
              obtain ⟨rfl, rfl, rfl⟩ := hR22
              refine TrL.v (v_pick_t rfl rfl h60 rfl) rfl rfl (bl rfl) ?_
              refine TrL.v (v_assign rfl rfl) rfl rfl (bl rfl) ?_
              refine TrL.nil (qthen_n ?_)
              have hz := Option.some.inj H
              subst hz
              refine Tr.ret (ret_r ⟨[(6, .bool r22)], [], [], []⟩ [.bool r22] [] [] (Imp.re _ [] [] (sc rfl sn) (by decide) rfl rfl rfl) rfl rfl ⟨rfl, rfl, rfl⟩ (.cons (resv_tmp rfl) .nil))
            · refine TrL.cons_no rfl rfl rfl (gn_t (bf_b h60)) rfl (bl rfl) ?_
              refine TrL.cons_no rfl rfl rfl (gn_t (bf_b h60)) rfl (bl rfl) ?_
              refine TrL.cons_no rfl rfl rfl (gn_t (bf_b h60)) rfl (bl rfl) ?_
              refine TrL.v (v_pick_f rfl rfl (bf_b h60) rfl) rfl rfl (bl rfl) ?_
              refine TrL.v (v_assign rfl rfl) rfl rfl (bl rfl) ?_
              refine TrL.nil (qthen_n ?_)
              have hz := Option.some.inj H
              subst hz
              refine Tr.ret (ret_r ⟨[(6, .bool false)], [], [], []⟩ [.bool false] [] [] (Imp.re _ [] [] (sc rfl sn) (by decide) rfl rfl rfl) rfl rfl ⟨rfl, rfl, rfl⟩ (.cons (resv_tmp rfl) .nil))
          · refine TrL.cons_no rfl rfl rfl (gn_t (bf_b h59)) rfl (bl rfl) ?_
            refine TrL.cons_no rfl rfl rfl (gn_t (bf_b h59)) rfl (bl rfl) ?_
            refine TrL.cons_no rfl rfl rfl (gn_t (bf_b h59)) rfl (bl rfl) ?_
            refine TrL.v (v_pick_f rfl rfl (bf_b h59) rfl) rfl rfl (bl rfl) ?_
            refine TrL.v (v_move rfl rfl) rfl rfl (bl rfl) ?_
            refine TrL.cons_no rfl rfl rfl (gn_t rfl) rfl (bl rfl) ?_
            refine TrL.cons_no rfl rfl rfl (gn_t rfl) rfl (bl rfl) ?_
            refine TrL.cons_no rfl rfl rfl (gn_t rfl) rfl (bl rfl) ?_
            refine TrL.v (v_pick_f rfl rfl rfl rfl) rfl rfl (bl rfl) ?_
            refine TrL.v (v_assign rfl rfl) rfl rfl (bl rfl) ?_
            refine TrL.nil (qthen_n ?_)
            have hz := Option.some.inj H
            subst hz
            refine Tr.ret (ret_r ⟨[(6, .bool false)], [], [], []⟩ [.bool false] [] [] (Imp.re _ [] [] (sc rfl sn) (by decide) rfl rfl rfl) rfl rfl ⟨rfl, rfl, rfl⟩ (.cons (resv_tmp rfl) .nil))
end Go.Proofs.Ytbnjjpmlaknaoaa.W
