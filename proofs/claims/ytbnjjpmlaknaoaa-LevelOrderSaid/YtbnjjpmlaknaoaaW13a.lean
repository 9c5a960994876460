/- The contracts of the walked functions: the printed walks. -/
import Derived.Test.YtbnjjpmlaknaoaaKa
import Derived.Test.YtbnjjpmlaknaoaaQa
import Derived.Test.YtbnjjpmlaknaoaaWlaw05aa
import Derived.Test.YtbnjjpmlaknaoaaWlevelaa
namespace Go.Proofs.Ytbnjjpmlaknaoaa.W
open Go Go.Proofs Go.Proofs.Ytbnjjpmlaknaoaa.L Go.Proofs.Ytbnjjpmlaknaoaa.Pu
set_option linter.unusedVariables false
set_option maxHeartbeats 4000000

theorem c_law05_LevelOrder (p1 : List Int) (p2 : Int) (p3 : Int × Int × Int) (A1 : Option Addr) (c1 : Nat) (r : Bool) (H : law05_LevelOrder p1 p2 p3 = some r) :
    Ctr Try.prog 13 [.slice A1 p1.length c1, .int .u8 p2, .agg #[.int .u8 p3.1, .int .u8 p3.2.1, .int .u8 p3.2.2]] [] [slF (rInt .u8) A1 c1 p1] (fun ret M' F' => ret = .bool r ∧ M' = [] ∧ F' = []) := by
  unfold law05_LevelOrder at H
  refine ctr_ofI (N := 123) Try.func13 rfl Try.ntmps13 rfl (Nat.le_of_ble_eq_true rfl) (fun γ0 w0 => ?_)
  refine Tr.seq ?_
  refine Tr.region ?_
  refine TrL.cons rfl (op_box' rfl (bl rfl) rfl rfl rfl (fun b2 => ?_))
  refine TrL.v (v_assign rfl rfl) rfl rfl (bl rfl) ?_
  refine TrL.nil (qthen_n ?_)
  refine Tr.seq ?_
  refine Tr.region ?_
  obtain ⟨r5, hr5, H⟩ := bnd H
  refine TrL.cons rfl (op_call0' (vs := []) (cap := []) [] rfl rfl (bl rfl) rfl rfl en46 (c_law05_awake r5 hr5) rfl (fun ret M' F' hR5 => ?_))
  obtain ⟨rfl, rfl, rfl⟩ := hR5
  refine TrL.v (v_assign rfl rfl) rfl rfl (bl rfl) ?_
  refine TrL.nil (qthen_n ?_)
  refine Tr.seq ?_
  refine Tr.seq ?_
  refine Tr.region ?_
  refine TrL.v (v_move rfl rfl) rfl rfl (bl rfl) ?_
  refine TrL.v (v_len rfl sl64 rfl) rfl rfl (bl rfl) ?_
  refine TrL.v (v_arith rfl rfl rfl ar_gtr) rfl rfl (bl rfl) ?_
  refine TrL.nil (qthen_n ?_)
  rcases ifc H with ⟨h37, H⟩ | ⟨h37, H⟩
  · refine Tr.cond_t rfl (bt_dec h37) ?_
    refine Tr.seq ?_
    refine Tr.region ?_
    refine TrL.v (v_move rfl rfl) rfl rfl (bl rfl) ?_
    refine TrL.v (v_assign rfl rfl) rfl rfl (bl rfl) ?_
    refine TrL.nil (qthen_n ?_)
    have hz := Option.some.inj H
    subst hz
    refine Tr.ret (qthen_r (ret_r ⟨[(6, .bool r5)], [], [], []⟩ [.bool r5] [] [] (Imp.re _ [] [] (sc rfl sn) (by decide) rfl rfl rfl) rfl rfl ⟨rfl, rfl, rfl⟩ (.cons (resv_tmp rfl) .nil)))
  · refine Tr.cond_f rfl (bf_dec h37) ?_
    refine Tr.skip (qthen_n ?_)
    refine Tr.seq ?_
    refine Tr.region ?_
    refine TrL.v (v_assign rfl rfl) rfl rfl (bl rfl) ?_
    refine TrL.nil (qthen_n ?_)
    refine Tr.seq ?_
    refine Tr.region ?_
    refine TrL.v (v_assign rfl rfl) rfl rfl (bl rfl) ?_
    refine TrL.nil (qthen_n ?_)
    refine Tr.seq ?_
    refine Tr.seq ?_
    refine Tr.region ?_
    refine TrL.v (v_assign rfl rfl) rfl rfl (bl rfl) ?_
    refine TrL.nil (qthen_n ?_)
    obtain ⟨x3, hx5, H⟩ := bnd H
    refine Tr.cutE (D := (List (Int × Int)) × Int) (M := Option Addr × Nat × Option Nat) .normal (fun _d => x3 = _d) (fun x3 m18 => ⟨[(1, .int .u8 p2), (5, .pointer (some ⟨b2, 0, none⟩)), (7, .bool r5), (8, .slice m18.1 x3.1.length m18.2.1), (9, .int .u64 x3.2)], [cells b2 [.int .u8 p3.1, .int .u8 p3.2.1, .int .u8 p3.2.2] 57, grow 41 2 (.slice m18.1 x3.1.length m18.2.1) x3.1.length m18.2.2], [slF rp_u64_u64 m18.1 m18.2.1 x3.1], []⟩) ?_ (fun x3 m18 hd4 => ?_)
    · refine Tr.block (Tr.loopI (ι := Option Addr × Nat × Option Nat) (step := law05_LevelOrder_s0 p1) (fun s8 m16 => ⟨[(0, .slice A1 p1.length c1), (1, .int .u8 p2), (5, .pointer (some ⟨b2, 0, none⟩)), (7, .bool r5), (8, .slice m16.1 s8.1.length m16.2.1), (9, .int .u64 s8.2.1), (10, .int .i64 s8.2.2)], [cells b2 [.int .u8 p3.1, .int .u8 p3.2.1, .int .u8 p3.2.2] 57, grow 41 2 (.slice m16.1 s8.1.length m16.2.1) s8.1.length m16.2.2], [slF (rInt .u8) A1 c1 p1, slF rp_u64_u64 m16.1 m16.2.1 s8.1], []⟩) ((none, 0, none)) hx5 (Imp.full' (E := 41) (sz := 2) (A := none) (n := 0) (Imp.addF' _ (nilF rp_u64_u64) (Imp.re _ [1, 0] [0, 1] (sc rfl (sc rfl (sc rfl (sc rfl (sc rfl (sc rfl (sc rfl sn))))))) (by decide) rfl rfl rfl))) (fun s8 m16 y3 hy3 hx6 => ?_))
      unfold law05_LevelOrder_s0 at hy3
      refine Tr.seq ?_
      refine Tr.seq ?_
      refine Tr.region ?_
      refine TrL.v (v_move rfl rfl) rfl rfl (bl rfl) ?_
      refine TrL.v (v_arith rfl rfl rfl ar_add_i64) rfl rfl (bl rfl) ?_
      refine TrL.v (v_move rfl rfl) rfl rfl (bl rfl) ?_
      refine TrL.v (v_len rfl sl64 rfl) rfl rfl (bl rfl) ?_
      refine TrL.v (v_arith rfl rfl rfl ar_lss) rfl rfl (bl rfl) ?_
      refine TrL.nil (qthen_n ?_)
      rcases ifc hy3 with ⟨h42, hy3⟩ | ⟨h42, hy3⟩
      · refine Tr.cond_t rfl (bt_dec h42) ?_
        refine Tr.skip (qthen_n ?_)
        refine Tr.seq ?_
        refine Tr.block ?_
        refine Tr.seq ?_
        refine Tr.region ?_
        refine TrL.v (v_move rfl rfl) rfl rfl (bl rfl) ?_
        refine TrL.v (v_move rfl rfl) rfl rfl (bl rfl) ?_
        refine TrL.v (v_move rfl rfl) rfl rfl (bl rfl) ?_
        obtain ⟨z31, hz31, hy3⟩ := bnd hy3
        refine TrL.v (v_indexAddr (k := 0) rfl sl64 ty5 rfl rfl rfl rfl hz31) rfl rfl (bl rfl) ?_
        refine TrL.v (v_loadg (A := A1) (i := s8.2.2) (j := 0) (k := 0) rfl ty5 (fun _ => rfl) rfl rfl hz31 rfl rfl) rfl rfl (bl rfl) ?_
        refine TrL.v (v_conv' rfl ⟨_, Try.underlying5⟩ Try.underlying23 rfl wrap_u64') rfl rfl (bl rfl) ?_
        refine TrL.v (v_arith rfl rfl rfl ar_add_u64) rfl rfl (bl rfl) ?_
        refine TrL.v (v_assign rfl rfl) rfl rfl (bl rfl) ?_
        refine TrL.nil (qthen_n ?_)
        refine Tr.seq ?_
        refine Tr.region ?_
        refine TrL.v (v_move rfl rfl) rfl rfl (bl rfl) ?_
        refine TrL.v (v_move rfl rfl) rfl rfl (bl rfl) ?_
        refine TrL.v (v_move rfl rfl) rfl rfl (bl rfl) ?_
        refine TrL.v (v_arith rfl rfl rfl ar_add_i64) rfl rfl (bl rfl) ?_
        obtain ⟨z32, hz32, hy3⟩ := bnd hy3
        refine TrL.v (v_indexAddr (k := 0) rfl sl64 ty5 rfl rfl rfl rfl hz32) rfl rfl (bl rfl) ?_
        refine TrL.v (v_loadg (A := A1) (i := (wi64 (s8.2.2 + 1))) (j := 0) (k := 0) rfl ty5 (fun _ => rfl) rfl rfl hz32 rfl rfl) rfl rfl (bl rfl) ?_
        refine TrL.v (v_conv' rfl ⟨_, Try.underlying5⟩ Try.underlying23 rfl wrap_u64') rfl rfl (bl rfl) ?_
        refine TrL.v (v_arith rfl rfl rfl ar_add_u64) rfl rfl (bl rfl) ?_
        refine TrL.v (v_assign rfl rfl) rfl rfl (bl rfl) ?_
        refine TrL.nil (qthen_n ?_)
        refine Tr.region ?_
        refine TrL.v (v_move rfl rfl) rfl rfl (bl rfl) ?_
        refine TrL.v (v_move rfl rfl) rfl rfl (bl rfl) ?_
        refine TrL.v (v_move rfl rfl) rfl rfl (bl rfl) ?_
        refine TrL.v (v_build (vs := [.int .u64 (wu64 (s8.2.1 + (wu64 z31))), .int .u64 (wu64 ((wu64 (s8.2.1 + (wu64 z31))) + (wu64 z32)))]) (out := [.int .u64 (wu64 (s8.2.1 + (wu64 z31))), .int .u64 (wu64 ((wu64 (s8.2.1 + (wu64 z31))) + (wu64 z32)))]) rfl pl41 ze41 rfl rfl) rfl rfl (bl rfl) ?_
        refine TrL.cons rfl (op_buildSlice' (rp := rp_u64_u64) (xs := [(wu64 (s8.2.1 + (wu64 z31)), wu64 ((wu64 (s8.2.1 + (wu64 z31))) + (wu64 z32)))]) (vs := [.agg #[.int .u64 (wu64 (s8.2.1 + (wu64 z31))), .int .u64 (wu64 ((wu64 (s8.2.1 + (wu64 z31))) + (wu64 z32)))]]) (out := [.int .u64 (wu64 (s8.2.1 + (wu64 z31))), .int .u64 (wu64 ((wu64 (s8.2.1 + (wu64 z31))) + (wu64 z32)))]) rfl (bl rfl) rfl sl38 ty41 ze41 rfl rfl (by decide) (by decide) rfl (fun γ w hF => (rowc rfl rown rfl)) (fun A13 => ?_))
        obtain ⟨h43, hy3⟩ := rom hy3
        refine TrL.cons rfl (op_append' (rp := rp_u64_u64) (xs := s8.1) (ys := [(wu64 (s8.2.1 + (wu64 z31)), wu64 ((wu64 (s8.2.1 + (wu64 z31))) + (wu64 z32)))]) (k := 1) (kx := 1) (ky := 2) rfl (bl rfl) rfl sl38 ty41 ze41 rfl by41 rfl rfl rfl rfl rfl rfl rfl h43.1 h43.2 (fun A14 c8 o7 => ?_))
        refine TrL.v (v_assign rfl rfl) rfl rfl (bl rfl) ?_
        refine TrL.nil (qblock_n (qthen_n ?_))
        refine Tr.region ?_
        refine TrL.v (v_move rfl rfl) rfl rfl (bl rfl) ?_
        refine TrL.v (v_arith rfl rfl rfl ar_add_i64) rfl rfl (bl rfl) ?_
        refine TrL.v (v_assign rfl rfl) rfl rfl (bl rfl) ?_
        have hz := Option.some.inj hy3
        subst hz
        refine TrL.nil (qloop_n ((A14, c8, o7)) (Imp.re _ [0, 1] [0, 3] (sc rfl (sc rfl (sc rfl (sc rfl (sc rfl (sc rfl (sc rfl sn))))))) (by decide) rfl rfl rfl))
      · refine Tr.cond_f rfl (bf_dec h42) ?_
        have hz := Option.some.inj hy3
        subst hz
        refine Tr.exit (qthen_x (qloop_x (qblock_hit (qcut_hit ((s8.1, s8.2.1)) ((m16.1, m16.2.1, m16.2.2)) (hx6 _ rfl).symm (Imp.re _ [0, 1] [1] (sc rfl (sc rfl (sc rfl (sc rfl (sc rfl sn))))) (by decide) rfl rfl rfl)))))
    · subst hd4
      refine (qthen_n ?_)
      refine Tr.seq ?_
      refine Tr.region ?_
      refine TrL.v (v_indexArr rfl ar57 ty5 rfl rfl (by decide) (by decide) rfl) rfl rfl (bl rfl) ?_
      refine TrL.v (v_load (k := 0) rfl rfl rfl ty5 (fun _ => rfl) rfl rfl) rfl rfl (bl rfl) ?_
      refine TrL.v (v_rem rfl rfl rfl (by decide)) rfl rfl (bl rfl) ?_
      refine TrL.v (v_conv' rfl ⟨_, Try.underlying5⟩ Try.underlying3 rfl wrap_i64') rfl rfl (bl rfl) ?_
      refine TrL.v (v_arith rfl rfl rfl ar_add_i64) rfl rfl (bl rfl) ?_
      refine TrL.v (v_assign rfl rfl) rfl rfl (bl rfl) ?_
      refine TrL.nil (qthen_n ?_)
      refine Tr.seq ?_
      refine Tr.region ?_
      refine TrL.v (v_move rfl rfl) rfl rfl (bl rfl) ?_
      refine TrL.v (v_conv' rfl ⟨_, Try.underlying5⟩ Try.underlying3 rfl wrap_i64') rfl rfl (bl rfl) ?_
      refine TrL.v (v_move rfl rfl) rfl rfl (bl rfl) ?_
      refine TrL.v (v_len rfl sl38 rfl) rfl rfl (bl rfl) ?_
      refine TrL.v (v_arith rfl rfl rfl ar_add_i64) rfl rfl (bl rfl) ?_
      obtain ⟨h44, H⟩ := mst H
      refine TrL.v (v_rem rfl rfl rfl h44) rfl rfl (bl rfl) ?_
      refine TrL.v (v_move rfl rfl) rfl rfl (bl rfl) ?_
      refine TrL.v (v_min rfl rfl rfl) rfl rfl (bl rfl) ?_
      refine TrL.v (v_assign rfl rfl) rfl rfl (bl rfl) ?_
      refine TrL.nil (qthen_n ?_)
      refine Tr.seq ?_
      refine Tr.regionD drawn (fun hok => ?_)
      refine TrAny.prom (i := 0) (d := 66) hok (OpVal.plain rfl rfl (v_move rfl rfl)) (by kernel_rfl) rfl (bl rfl) ?_
      clear hok
      intro hok
      refine TrAny.prom (i := 1) (d := 67) hok (OpVal.plain rfl rfl (v_move rfl rfl)) (by kernel_rfl) rfl (bl rfl) ?_
      clear hok
      intro hok
      obtain ⟨h46, H⟩ := mst H
      refine TrAny.addF' (slF rp_u64_u64 (slA m18.1 0 m18.2.1 2) m18.2.1 (x3.1.take (min ((wi64 p2).tmod (wi64 (((x3.1.length : Int)) + 1))) (wi64 (1 + (wi64 (p3.1.tmod 20))))).toNat)) (slx2_f (k := 0) rfl h46) hok (fun hok => ?_)
      refine TrAny.prom (i := 2) (d := 68) hok (OpVal.plain rfl rfl (slx2_v (rp := rp_u64_u64) (xs := x3.1) (k := 0) rfl sl38 ty41 rfl rfl rfl h46 rfl)) (by kernel_rfl) rfl (bl rfl) ?_
      clear hok
      intro hok
      refine TrAny.prom (i := 3) (d := 69) hok (OpVal.plain rfl rfl (v_move rfl rfl)) (by kernel_rfl) rfl (bl rfl) ?_
      clear hok
      intro hok
      refine TrAny.prom (i := 4) (d := 70) hok (OpVal.plain rfl rfl (v_move rfl rfl)) (by kernel_rfl) rfl (bl rfl) ?_
      clear hok
      intro hok
      refine TrAny.prom (i := 5) (d := 71) hok (OpVal.plain rfl rfl (v_move rfl rfl)) (by kernel_rfl) rfl (bl rfl) ?_
      clear hok
      intro hok
      refine TrAny.addF' (slF rp_u64_u64 (slA m18.1 (min ((wi64 p2).tmod (wi64 (((x3.1.length : Int)) + 1))) (wi64 (1 + (wi64 (p3.1.tmod 20))))).toNat m18.2.1 2) (m18.2.1 - (min ((wi64 p2).tmod (wi64 (((x3.1.length : Int)) + 1))) (wi64 (1 + (wi64 (p3.1.tmod 20))))).toNat) (x3.1.drop (min ((wi64 p2).tmod (wi64 (((x3.1.length : Int)) + 1))) (wi64 (1 + (wi64 (p3.1.tmod 20))))).toNat)) (slx1_f (k := 0) rfl h46) hok (fun hok => ?_)
      refine TrAny.prom (i := 6) (d := 72) hok (OpVal.plain rfl rfl (slx1_v (rp := rp_u64_u64) (xs := x3.1) (k := 0) rfl sl38 ty41 rfl rfl rfl h46 rfl)) (by kernel_rfl) rfl (bl rfl) ?_
      clear hok
      intro hok
      refine TrAny.prom (i := 7) (d := 73) hok (OpVal.plain rfl rfl (v_indexArr rfl ar57 ty5 rfl rfl (by decide) (by decide) rfl)) (by kernel_rfl) rfl (bl rfl) ?_
      clear hok
      intro hok
      refine TrAny.prom (i := 8) (d := 74) hok (OpVal.plain rfl rfl (v_load (k := 0) rfl rfl rfl ty5 (fun _ => rfl) rfl rfl)) (by kernel_rfl) rfl (bl rfl) ?_
      clear hok
      intro hok
      refine TrAny.prom (i := 9) (d := 75) hok (OpVal.plain rfl rfl (v_conv' rfl ⟨_, Try.underlying5⟩ Try.underlying23 rfl wrap_u64')) (by kernel_rfl) rfl (bl rfl) ?_
      clear hok
      intro hok
      refine TrAny.prom (i := 10) (d := 76) hok (OpVal.plain rfl rfl (v_move rfl rfl)) (by kernel_rfl) rfl (bl rfl) ?_
      clear hok
      intro hok
      obtain ⟨r7, hr7, H⟩ := bnd H
      refine TrAny.next (j := 11) (by kernel_rfl) hok rfl (by kernel_rfl) (op_call0' (vs := [.slice (slA m18.1 0 m18.2.1 2) ((x3.1.take (min ((wi64 p2).tmod (wi64 (((x3.1.length : Int)) + 1))) (wi64 (1 + (wi64 (p3.1.tmod 20))))).toNat).length) m18.2.1, .int .i64 (wi64 (1 + (wi64 (p3.1.tmod 20)))), .slice (slA m18.1 (min ((wi64 p2).tmod (wi64 (((x3.1.length : Int)) + 1))) (wi64 (1 + (wi64 (p3.1.tmod 20))))).toNat m18.2.1 2) ((x3.1.drop (min ((wi64 p2).tmod (wi64 (((x3.1.length : Int)) + 1))) (wi64 (1 + (wi64 (p3.1.tmod 20))))).toNat).length) (m18.2.1 - (min ((wi64 p2).tmod (wi64 (((x3.1.length : Int)) + 1))) (wi64 (1 + (wi64 (p3.1.tmod 20))))).toNat), .int .u64 (wu64 p3.2.1), .int .u64 x3.2]) (cap := []) [1, 2] rfl rfl (bl rfl) rfl rfl en48 (c_level_Push (x3.1.take (min ((wi64 p2).tmod (wi64 (((x3.1.length : Int)) + 1))) (wi64 (1 + (wi64 (p3.1.tmod 20))))).toNat) (wi64 (1 + (wi64 (p3.1.tmod 20)))) (x3.1.drop (min ((wi64 p2).tmod (wi64 (((x3.1.length : Int)) + 1))) (wi64 (1 + (wi64 (p3.1.tmod 20))))).toNat) (wu64 p3.2.1) x3.2 (slA m18.1 0 m18.2.1 2) m18.2.1 (slA m18.1 (min ((wi64 p2).tmod (wi64 (((x3.1.length : Int)) + 1))) (wi64 (1 + (wi64 (p3.1.tmod 20))))).toNat m18.2.1 2) (m18.2.1 - (min ((wi64 p2).tmod (wi64 (((x3.1.length : Int)) + 1))) (wi64 (1 + (wi64 (p3.1.tmod 20))))).toNat) r7 hr7) rfl (fun ret M' F' hR7 => ?_))
      obtain ⟨m20, rfl, rfl, rfl⟩ := hR7
      refine nxp hok (kp_imp (kp_c0 rfl)) rfl (by kernel_rfl) ?_
      clear hok
      intro hok
      refine TrAny.prom (i := 12) (d := 65) hok (OpVal.plain rfl rfl (v_move rfl rfl)) (by kernel_rfl) rfl (bl rfl) ?_
      clear hok
      intro hok
      refine TrAny.prom (i := 13) (d := 78) hok (OpVal.plain rfl rfl (v_extract rfl rfl rfl)) (by kernel_rfl) rfl (bl rfl) ?_
      clear hok
      intro hok
      refine TrAny.prom (i := 14) (d := 79) hok (OpVal.plain rfl rfl (v_extract rfl rfl rfl)) (by kernel_rfl) rfl (bl rfl) ?_
      clear hok
      intro hok
      refine TrAny.prom (i := 15) (d := 80) hok (OpVal.plain rfl rfl (v_extract rfl rfl rfl)) (by kernel_rfl) rfl (bl rfl) ?_
      clear hok
      intro hok
      refine TrAny.prom (i := 16) (d := 14) hok (OpVal.plain rfl rfl (v_assign rfl rfl)) (by kernel_rfl) rfl (bl rfl) ?_
      clear hok
      intro hok
      refine TrAny.prom (i := 17) (d := 15) hok (OpVal.plain rfl rfl (v_assign rfl rfl)) (by kernel_rfl) rfl (bl rfl) ?_
      clear hok
      intro hok
      refine TrAny.prom (i := 18) (d := 16) hok (OpVal.plain rfl rfl (v_assign rfl rfl)) (by kernel_rfl) rfl (bl rfl) ?_
      clear hok
      intro hok
      refine TrAny.done (by kernel_rfl) (by kernel_rfl) hok (by kernel_rfl) (qthen_n ?_)
      refine Tr.seq ?_
      refine Tr.region ?_
      refine TrL.v (v_move rfl rfl) rfl rfl (bl rfl) ?_
      refine TrL.v (v_move rfl rfl) rfl rfl (bl rfl) ?_
      refine TrL.v (v_move rfl rfl) rfl rfl (bl rfl) ?_
      obtain ⟨r8, hr8, H⟩ := bnd H
      refine TrL.cons rfl (op_call0' (vs := [.slice m20.2.2.1 r7.2.1.length m20.2.2.2.1, .int .u64 r7.2.2, .int .u64 x3.2]) (cap := []) [4] rfl rfl (bl rfl) rfl rfl en55 (c_law05_ones r7.2.1 r7.2.2 x3.2 m20.2.2.1 m20.2.2.2.1 r8 hr8) rfl (fun ret M' F' hR8 => ?_))
      obtain ⟨m21, rfl, rfl, rfl⟩ := hR8
      refine TrL.v (v_move rfl rfl) rfl rfl (bl rfl) ?_
      obtain ⟨h47, H⟩ := rom H
      refine TrL.cons rfl (op_append' (rp := rp_u64_u64) (xs := r8) (ys := r7.1) (k := 0) (kx := 5) (ky := 3) rfl (bl rfl) rfl sl38 ty41 ze41 rfl by41 rfl rfl rfl rfl rfl rfl rfl h47.1 h47.2 (fun A15 c9 o8 => ?_))
      refine TrL.v (v_assign rfl rfl) rfl rfl (bl rfl) ?_
      refine TrL.nil (qthen_n ?_)
      refine Tr.seq ?_
      refine Tr.seq ?_
      refine Tr.region ?_
      refine TrL.v (v_assign rfl rfl) rfl rfl (bl rfl) ?_
      refine TrL.nil (qthen_n ?_)
      obtain ⟨x4, hx7, H⟩ := bnd H
      refine Tr.cutE (D := Unit) (M := Unit) .ret (fun d3 => x4 = .inl d3) (fun d3 m25 => ⟨[(6, .bool false)], [], [], []⟩) ?_ (fun d3 m25 hd5 => ?_)
      · refine Tr.cutE (D := Unit) (M := Unit) .normal (fun d4 => x4 = .inr d4) (fun d4 m26 => ⟨[(7, .bool r5)], [], [], []⟩) ?_ (fun d4 m26 hd6 => ?_)
        · refine Tr.block (Tr.loopI (ι := Unit) (step := law05_LevelOrder_s1 r7 r8) (fun s11 m23 => ⟨[(7, .bool r5), (17, .slice A15 ((r8 ++ r7.1).length) c9), (18, .int .i64 s11)], [grow 41 2 (.slice A15 ((r8 ++ r7.1).length) c9) ((r8 ++ r7.1).length) o8], [slF rp_u64_u64 A15 c9 (r8 ++ r7.1)], []⟩) (()) hx7 (Imp.re _ [0] [6] (sc rfl (sc rfl (sc rfl sn))) (by decide) rfl rfl rfl) (fun s11 m23 y4 hy4 hx8 => ?_))
          unfold law05_LevelOrder_s1 at hy4
          refine Tr.seq ?_
          refine Tr.seq ?_
          refine Tr.region ?_
          refine TrL.v (v_move rfl rfl) rfl rfl (bl rfl) ?_
          refine TrL.v (v_move rfl rfl) rfl rfl (bl rfl) ?_
          refine TrL.v (v_len rfl sl38 rfl) rfl rfl (bl rfl) ?_
          refine TrL.v (v_arith rfl rfl rfl ar_lss) rfl rfl (bl rfl) ?_
          refine TrL.nil (qthen_n ?_)
          rcases ifc hy4 with ⟨h63, hy4⟩ | ⟨h63, hy4⟩
          · refine Tr.cond_t rfl (bt_dec h63) ?_
            refine Tr.skip (qthen_n ?_)
            refine Tr.seq ?_
            refine Tr.block ?_
            refine Tr.seq ?_
            refine Tr.regionD drawn (fun hok => ?_)
            refine TrAny.prom (i := 0) (d := 93) hok (OpVal.plain rfl rfl (v_move rfl rfl)) (by kernel_rfl) rfl (bl rfl) ?_
            clear hok
            intro hok
            refine TrAny.prom (i := 1) (d := 94) hok (OpVal.plain rfl rfl (v_move rfl rfl)) (by kernel_rfl) rfl (bl rfl) ?_
            clear hok
            intro hok
            obtain ⟨z51, hz51, hy4⟩ := bnd hy4
            refine TrAny.prom (i := 2) (d := 95) hok (OpVal.plain rfl rfl (v_indexAddr (k := 0) rfl sl38 ty41 rfl rfl rfl rfl hz51)) (by kernel_rfl) rfl (bl rfl) ?_
            clear hok
            intro hok
            refine TrAny.prom (i := 3) (d := 96) hok (OpVal.plain rfl rfl (v_fieldAddr rfl fo41_0 rfl)) (by kernel_rfl) rfl (bl rfl) ?_
            clear hok
            intro hok
            refine TrAny.prom (i := 4) (d := 97) hok (OpVal.plain rfl rfl (v_loadg (A := A15) (i := s11) (j := 0) (k := 0) rfl ty23 (fun _ => rfl) rfl rfl hz51 rfl rfl)) (by kernel_rfl) rfl (bl rfl) ?_
            clear hok
            intro hok
            refine TrAny.prom (i := 5) (d := 98) hok (OpVal.plain rfl rfl (v_move rfl rfl)) (by kernel_rfl) rfl (bl rfl) ?_
            clear hok
            intro hok
            refine TrAny.prom (i := 6) (d := 99) hok (OpVal.plain rfl rfl (v_move rfl rfl)) (by kernel_rfl) rfl (bl rfl) ?_
            clear hok
            intro hok
            refine TrAny.prom (i := 7) (d := 100) hok (OpVal.plain rfl rfl (v_indexAddr (k := 0) rfl sl38 ty41 rfl rfl rfl rfl hz51)) (by kernel_rfl) rfl (bl rfl) ?_
            clear hok
            intro hok
            refine TrAny.prom (i := 8) (d := 101) hok (OpVal.plain rfl rfl (v_fieldAddr rfl fo41_1 rfl)) (by kernel_rfl) rfl (bl rfl) ?_
            clear hok
            intro hok
            refine TrAny.prom (i := 9) (d := 102) hok (OpVal.plain rfl rfl (v_loadg (A := A15) (i := s11) (j := 1) (k := 0) rfl ty23 (fun _ => rfl) rfl rfl hz51 rfl rfl)) (by kernel_rfl) rfl (bl rfl) ?_
            clear hok
            intro hok
            refine TrAny.prom (i := 10) (d := 103) hok (OpVal.plain rfl rfl (v_arith rfl rfl rfl ar_gtr)) (by kernel_rfl) rfl (bl rfl) ?_
            clear hok
            intro hok
            refine TrAny.prom (i := 11) (d := 104) hok (OpVal.plain rfl rfl (v_move rfl rfl)) (by kernel_rfl) rfl (bl rfl) ?_
            clear hok
            intro hok
            rcases ifc hy4 with ⟨h70, hy4⟩ | ⟨h70, hy4⟩
            · refine TrAny.prom (i := 12) (d := 105) hok (OpVal.no rfl (fun c h => by cases h) rfl rfl rfl (gn_f (bt_dec h70))) (by kernel_rfl) rfl (bl rfl) ?_
              clear hok
              intro hok
              refine TrAny.prom (i := 13) (d := 106) hok (OpVal.no rfl (fun c h => by cases h) rfl rfl rfl (gn_f (bt_dec h70))) (by kernel_rfl) rfl (bl rfl) ?_
              clear hok
              intro hok
              refine TrAny.prom (i := 14) (d := 107) hok (OpVal.no rfl (fun c h => by cases h) rfl rfl rfl (gn_f (bt_dec h70))) (by kernel_rfl) rfl (bl rfl) ?_
              clear hok
              intro hok
              refine TrAny.prom (i := 15) (d := 108) hok (OpVal.un rfl (fun c h => by cases h) rfl rfl rfl) (by kernel_rfl) rfl (bl rfl) ?_
              clear hok
              intro hok
              refine TrAny.prom (i := 16) (d := 109) hok (OpVal.un rfl (fun c h => by cases h) rfl rfl rfl) (by kernel_rfl) rfl (bl rfl) ?_
              clear hok
              intro hok
              refine TrAny.prom (i := 17) (d := 110) hok (OpVal.un rfl (fun c h => by cases h) rfl rfl rfl) (by kernel_rfl) rfl (bl rfl) ?_
              clear hok
              intro hok
              refine TrAny.prom (i := 18) (d := 111) hok (OpVal.un rfl (fun c h => by cases h) rfl rfl rfl) (by kernel_rfl) rfl (bl rfl) ?_
              clear hok
              intro hok
              refine TrAny.prom (i := 19) (d := 112) hok (OpVal.un rfl (fun c h => by cases h) rfl rfl rfl) (by kernel_rfl) rfl (bl rfl) ?_
              clear hok
              intro hok
              refine TrAny.prom (i := 20) (d := 113) hok (OpVal.un rfl (fun c h => by cases h) rfl rfl rfl) (by kernel_rfl) rfl (bl rfl) ?_
              clear hok
              intro hok
              refine TrAny.prom (i := 21) (d := 114) hok (OpVal.un rfl (fun c h => by cases h) rfl rfl rfl) (by kernel_rfl) rfl (bl rfl) ?_
              clear hok
              intro hok
              refine TrAny.prom (i := 22) (d := 115) hok (OpVal.un rfl (fun c h => by cases h) rfl rfl rfl) (by kernel_rfl) rfl (bl rfl) ?_
              clear hok
              intro hok
              refine TrAny.prom (i := 23) (d := 116) hok (OpVal.un rfl (fun c h => by cases h) rfl rfl rfl) (by kernel_rfl) rfl (bl rfl) ?_
              clear hok
              intro hok
              refine TrAny.prom (i := 24) (d := 117) hok (OpVal.un rfl (fun c h => by cases h) rfl rfl rfl) (by kernel_rfl) rfl (bl rfl) ?_
              clear hok
              intro hok
              refine TrAny.prom (i := 25) (d := 118) hok (OpVal.un rfl (fun c h => by cases h) rfl rfl rfl) (by kernel_rfl) rfl (bl rfl) ?_
              clear hok
              intro hok
              refine TrAny.prom (i := 26) (d := 119) hok (OpVal.un rfl (fun c h => by cases h) rfl rfl rfl) (by kernel_rfl) rfl (bl rfl) ?_
              clear hok
              intro hok
              refine TrAny.prom (i := 27) (d := 120) hok (OpVal.no rfl (fun c h => by cases h) rfl rfl rfl (gn_f (bt_dec h70))) (by kernel_rfl) rfl (bl rfl) ?_
              clear hok
              intro hok
              refine TrAny.prom (i := 28) (d := 121) hok (OpVal.plain rfl rfl (v_pick_t rfl rfl (bt_dec h70) rfl)) (by kernel_rfl) rfl (bl rfl) ?_
              clear hok
              intro hok
              refine TrAny.done (by kernel_rfl) (by kernel_rfl) hok (by kernel_rfl) (qthen_n ?_)
              refine Tr.cond_t rfl rfl ?_
              refine Tr.seq ?_
              refine Tr.region ?_
              refine TrL.v (v_assign rfl rfl) rfl rfl (bl rfl) ?_
              refine TrL.nil (qthen_n ?_)
              have hz := Option.some.inj hy4
              subst hz
              refine Tr.ret (qblock_r (qthen_r (qloop_r (qblock_r (qcut_miss (by simp) (qcut_hit (()) (()) (hx8 _ rfl).symm (Imp.re _ [] [] (sc rfl sn) (by decide) rfl rfl rfl)))))))
            · refine TrAny.prom (i := 12) (d := 105) hok (OpVal.yes rfl rfl rfl rfl (bf_dec h70) (v_move rfl rfl)) (by kernel_rfl) rfl (bl rfl) ?_
              clear hok
              intro hok
              refine TrAny.prom (i := 13) (d := 106) hok (OpVal.yes rfl rfl rfl rfl (bf_dec h70) (v_arith rfl rfl rfl ar_gtr)) (by kernel_rfl) rfl (bl rfl) ?_
              clear hok
              intro hok
              refine TrAny.prom (i := 14) (d := 107) hok (OpVal.yes rfl rfl rfl rfl (bf_dec h70) (v_move rfl rfl)) (by kernel_rfl) rfl (bl rfl) ?_
              clear hok
              intro hok
              rcases ifc hy4 with ⟨h71, hy4⟩ | ⟨h71, hy4⟩
              · refine TrAny.prom (i := 15) (d := 108) hok (OpVal.yes rfl rfl rfl rfl (bt_dec h71) (v_move rfl rfl)) (by kernel_rfl) rfl (bl rfl) ?_
                clear hok
                intro hok
                refine TrAny.prom (i := 16) (d := 109) hok (OpVal.yes rfl rfl rfl rfl (bt_dec h71) (v_move rfl rfl)) (by kernel_rfl) rfl (bl rfl) ?_
                clear hok
                intro hok
                refine TrAny.prom (i := 17) (d := 110) hok (OpVal.yes rfl rfl rfl rfl (bt_dec h71) (v_arith rfl rfl rfl ar_sub_i64)) (by kernel_rfl) rfl (bl rfl) ?_
                clear hok
                intro hok
                obtain ⟨z52, hz52, hy4⟩ := bnd hy4
                refine TrAny.prom (i := 18) (d := 111) hok (OpVal.yes rfl rfl rfl rfl (bt_dec h71) (v_indexAddr (k := 0) rfl sl38 ty41 rfl rfl rfl rfl hz52)) (by kernel_rfl) rfl (bl rfl) ?_
                clear hok
                intro hok
                refine TrAny.prom (i := 19) (d := 112) hok (OpVal.yes rfl rfl rfl rfl (bt_dec h71) (v_fieldAddr rfl fo41_1 rfl)) (by kernel_rfl) rfl (bl rfl) ?_
                clear hok
                intro hok
                refine TrAny.prom (i := 20) (d := 113) hok (OpVal.yes rfl rfl rfl rfl (bt_dec h71) (v_loadg (A := A15) (i := (wi64 (s11 - 1))) (j := 1) (k := 0) rfl ty23 (fun _ => rfl) rfl rfl hz52 rfl rfl)) (by kernel_rfl) rfl (bl rfl) ?_
                clear hok
                intro hok
                refine TrAny.prom (i := 21) (d := 114) hok (OpVal.yes rfl rfl rfl rfl (bt_dec h71) (v_move rfl rfl)) (by kernel_rfl) rfl (bl rfl) ?_
                clear hok
                intro hok
                refine TrAny.prom (i := 22) (d := 115) hok (OpVal.yes rfl rfl rfl rfl (bt_dec h71) (v_move rfl rfl)) (by kernel_rfl) rfl (bl rfl) ?_
                clear hok
                intro hok
                refine TrAny.prom (i := 23) (d := 116) hok (OpVal.yes rfl rfl rfl rfl (bt_dec h71) (v_indexAddr (k := 0) rfl sl38 ty41 rfl rfl rfl rfl hz51)) (by kernel_rfl) rfl (bl rfl) ?_
                clear hok
                intro hok
                refine TrAny.prom (i := 24) (d := 117) hok (OpVal.yes rfl rfl rfl rfl (bt_dec h71) (v_fieldAddr rfl fo41_0 rfl)) (by kernel_rfl) rfl (bl rfl) ?_
                clear hok
                intro hok
                refine TrAny.prom (i := 25) (d := 118) hok (OpVal.yes rfl rfl rfl rfl (bt_dec h71) (v_loadg (A := A15) (i := s11) (j := 0) (k := 0) rfl ty23 (fun _ => rfl) rfl rfl hz51 rfl rfl)) (by kernel_rfl) rfl (bl rfl) ?_
                clear hok
                intro hok
                refine TrAny.prom (i := 26) (d := 119) hok (OpVal.yes rfl rfl rfl rfl (bt_dec h71) (v_arith rfl rfl rfl ar_gtr)) (by kernel_rfl) rfl (bl rfl) ?_
                clear hok
                intro hok
                refine TrAny.prom (i := 27) (d := 120) hok (OpVal.yes rfl rfl rfl rfl (bf_dec h70) (v_pick_t rfl rfl (bt_dec h71) rfl)) (by kernel_rfl) rfl (bl rfl) ?_
                clear hok
                intro hok
                refine TrAny.prom (i := 28) (d := 121) hok (OpVal.plain rfl rfl (v_pick_f rfl rfl (bf_dec h70) rfl)) (by kernel_rfl) rfl (bl rfl) ?_
                clear hok
                intro hok
                refine TrAny.done (by kernel_rfl) (by kernel_rfl) hok (by kernel_rfl) (qthen_n ?_)
                rcases ifc hy4 with ⟨h72, hy4⟩ | ⟨h72, hy4⟩
                · refine Tr.cond_t rfl (bt_dec h72) ?_
                  refine Tr.seq ?_
                  refine Tr.region ?_
                  refine TrL.v (v_assign rfl rfl) rfl rfl (bl rfl) ?_
                  refine TrL.nil (qthen_n ?_)
                  have hz := Option.some.inj hy4
                  subst hz
                  refine Tr.ret (qblock_r (qthen_r (qloop_r (qblock_r (qcut_miss (by simp) (qcut_hit (()) (()) (hx8 _ rfl).symm (Imp.re _ [] [] (sc rfl sn) (by decide) rfl rfl rfl)))))))
                · refine Tr.cond_f rfl (bf_dec h72) ?_
                  refine Tr.skip (qblock_n (qthen_n ?_))
                  refine Tr.region ?_
                  refine TrL.v (v_move rfl rfl) rfl rfl (bl rfl) ?_
                  refine TrL.v (v_arith rfl rfl rfl ar_add_i64) rfl rfl (bl rfl) ?_
                  refine TrL.v (v_assign rfl rfl) rfl rfl (bl rfl) ?_
                  have hz := Option.some.inj hy4
                  subst hz
                  refine TrL.nil (qloop_n (()) (Imp.re _ [0] [0] (sc rfl (sc rfl (sc rfl sn))) (by decide) rfl rfl rfl))
              · refine TrAny.prom (i := 15) (d := 108) hok (OpVal.no rfl (fun c h => by cases h) rfl rfl rfl (gn_t (bf_dec h71))) (by kernel_rfl) rfl (bl rfl) ?_
                clear hok
                intro hok
                refine TrAny.prom (i := 16) (d := 109) hok (OpVal.no rfl (fun c h => by cases h) rfl rfl rfl (gn_t (bf_dec h71))) (by kernel_rfl) rfl (bl rfl) ?_
                clear hok
                intro hok
                refine TrAny.prom (i := 17) (d := 110) hok (OpVal.no rfl (fun c h => by cases h) rfl rfl rfl (gn_t (bf_dec h71))) (by kernel_rfl) rfl (bl rfl) ?_
                clear hok
                intro hok
                refine TrAny.prom (i := 18) (d := 111) hok (OpVal.no rfl (fun c h => by cases h) rfl rfl rfl (gn_t (bf_dec h71))) (by kernel_rfl) rfl (bl rfl) ?_
                clear hok
                intro hok
                refine TrAny.prom (i := 19) (d := 112) hok (OpVal.no rfl (fun c h => by cases h) rfl rfl rfl (gn_t (bf_dec h71))) (by kernel_rfl) rfl (bl rfl) ?_
                clear hok
                intro hok
                refine TrAny.prom (i := 20) (d := 113) hok (OpVal.no rfl (fun c h => by cases h) rfl rfl rfl (gn_t (bf_dec h71))) (by kernel_rfl) rfl (bl rfl) ?_
                clear hok
                intro hok
                refine TrAny.prom (i := 21) (d := 114) hok (OpVal.no rfl (fun c h => by cases h) rfl rfl rfl (gn_t (bf_dec h71))) (by kernel_rfl) rfl (bl rfl) ?_
                clear hok
                intro hok
                refine TrAny.prom (i := 22) (d := 115) hok (OpVal.no rfl (fun c h => by cases h) rfl rfl rfl (gn_t (bf_dec h71))) (by kernel_rfl) rfl (bl rfl) ?_
                clear hok
                intro hok
                refine TrAny.prom (i := 23) (d := 116) hok (OpVal.no rfl (fun c h => by cases h) rfl rfl rfl (gn_t (bf_dec h71))) (by kernel_rfl) rfl (bl rfl) ?_
                clear hok
                intro hok
                refine TrAny.prom (i := 24) (d := 117) hok (OpVal.no rfl (fun c h => by cases h) rfl rfl rfl (gn_t (bf_dec h71))) (by kernel_rfl) rfl (bl rfl) ?_
                clear hok
                intro hok
                refine TrAny.prom (i := 25) (d := 118) hok (OpVal.no rfl (fun c h => by cases h) rfl rfl rfl (gn_t (bf_dec h71))) (by kernel_rfl) rfl (bl rfl) ?_
                clear hok
                intro hok
                refine TrAny.prom (i := 26) (d := 119) hok (OpVal.no rfl (fun c h => by cases h) rfl rfl rfl (gn_t (bf_dec h71))) (by kernel_rfl) rfl (bl rfl) ?_
                clear hok
                intro hok
                refine TrAny.prom (i := 27) (d := 120) hok (OpVal.yes rfl rfl rfl rfl (bf_dec h70) (v_pick_f rfl rfl (bf_dec h71) rfl)) (by kernel_rfl) rfl (bl rfl) ?_
                clear hok
                intro hok
                refine TrAny.prom (i := 28) (d := 121) hok (OpVal.plain rfl rfl (v_pick_f rfl rfl (bf_dec h70) rfl)) (by kernel_rfl) rfl (bl rfl) ?_
                clear hok
                intro hok
                refine TrAny.done (by kernel_rfl) (by kernel_rfl) hok (by kernel_rfl) (qthen_n ?_)
                refine Tr.cond_f rfl rfl ?_
                refine Tr.skip (qblock_n (qthen_n ?_))
                refine Tr.region ?_
                refine TrL.v (v_move rfl rfl) rfl rfl (bl rfl) ?_
                refine TrL.v (v_arith rfl rfl rfl ar_add_i64) rfl rfl (bl rfl) ?_
                refine TrL.v (v_assign rfl rfl) rfl rfl (bl rfl) ?_
                have hz := Option.some.inj hy4
                subst hz
                refine TrL.nil (qloop_n (()) (Imp.re _ [0] [0] (sc rfl (sc rfl (sc rfl sn))) (by decide) rfl rfl rfl))
          · refine Tr.cond_f rfl (bf_dec h63) ?_
            have hz := Option.some.inj hy4
            subst hz
            refine Tr.exit (qthen_x (qloop_x (qblock_hit (qcut_hit (()) (()) (hx8 _ rfl).symm (Imp.re _ [] [] (sc rfl sn) (by decide) rfl rfl rfl)))))
        · subst hd6
          replace H := sumr H
          refine (qcut_miss (by simp) (qthen_n ?_))
          refine Tr.seq ?_
          refine Tr.region ?_
          refine TrL.v (v_move rfl rfl) rfl rfl (bl rfl) ?_
          refine TrL.v (v_assign rfl rfl) rfl rfl (bl rfl) ?_
          refine TrL.nil (qthen_n ?_)
          have hz := Option.some.inj H
          subst hz
          refine Tr.ret (ret_r ⟨[(6, .bool r5)], [], [], []⟩ [.bool r5] [] [] (Imp.re _ [] [] (sc rfl sn) (by decide) rfl rfl rfl) rfl rfl ⟨rfl, rfl, rfl⟩ (.cons (resv_tmp rfl) .nil))
      · subst hd5
        replace H := suml H
        have hz := Option.some.inj H
        subst hz
        refine (qthen_r (ret_r ⟨[(6, .bool false)], [], [], []⟩ [.bool false] [] [] (Imp.re _ [] [] (sc rfl sn) (by decide) rfl rfl rfl) rfl rfl ⟨rfl, rfl, rfl⟩ (.cons (resv_tmp rfl) .nil)))
end Go.Proofs.Ytbnjjpmlaknaoaa.W
