/- The contracts of the walked functions: the printed walks. -/
import Derived.Test.YtbnjjpmlaknaoaaKa
import Derived.Test.YtbnjjpmlaknaoaaQa
namespace Go.Proofs.Ytbnjjpmlaknaoaa.W
open Go Go.Proofs Go.Proofs.Ytbnjjpmlaknaoaa.L Go.Proofs.Ytbnjjpmlaknaoaa.Pu
set_option linter.unusedVariables false
set_option maxHeartbeats 4000000

theorem c_estimate_buckets (p1 : Int × Int × List (List (Int × Int))) (A1 : Option Addr) (c1 : Nat) (r : Unit) (H : estimate_buckets p1 = some r) :
    Ctr Try.prog 82 [.agg #[.int .i64 p1.1, .int .i64 p1.2.1, .slice A1 p1.2.2.length c1]] [] [slF (rSl rp_u64_u64) A1 c1 p1.2.2] (fun ret M' F' => ∃ m : Nat, ret = .func (.func 101) #[] #[.pointer (some ⟨m, 0, none⟩)] ∧ M' = [cells m [.int .i64 p1.1, .int .i64 p1.2.1, .slice A1 p1.2.2.length c1] 31] ∧ F' = [slF (rSl rp_u64_u64) A1 c1 p1.2.2]) := by
  unfold estimate_buckets at H
  refine ctr_ofI (N := 4) Try.func82 rfl Try.ntmps82 rfl (Nat.le_of_ble_eq_true rfl) (fun γ0 w0 => ?_)
  refine Tr.seq ?_
  refine Tr.region ?_
  refine TrL.cons rfl (op_box' rfl (bl rfl) rfl rfl rfl (fun b2 => ?_))
  refine TrL.v (v_assign rfl rfl) rfl rfl (bl rfl) ?_
  refine TrL.nil (qthen_n ?_)
  refine Tr.seq ?_
  refine Tr.region ?_
  refine TrL.v (v_makeFunc (vs := [.pointer (some ⟨b2, 0, none⟩)]) rfl rfl) rfl rfl (bl rfl) ?_
  refine TrL.v (v_assign rfl rfl) rfl rfl (bl rfl) ?_
  refine TrL.nil (qthen_n ?_)
  have hz := Option.some.inj H
  subst hz
  refine Tr.ret (ret_r ⟨[(2, .func (.func 101) #[] #[.pointer (some ⟨b2, 0, none⟩)])], [cells b2 [.int .i64 p1.1, .int .i64 p1.2.1, .slice A1 p1.2.2.length c1] 31], [slF (rSl rp_u64_u64) A1 c1 p1.2.2], []⟩ [.func (.func 101) #[] #[.pointer (some ⟨b2, 0, none⟩)]] [cells b2 [.int .i64 p1.1, .int .i64 p1.2.1, .slice A1 p1.2.2.length c1] 31] [] (Imp.re _ [0] [0] (sc rfl sn) (by decide) rfl rfl rfl) rfl rfl ⟨b2, rfl, rfl, rfl⟩ (.cons (resv_tmp rfl) .nil))

theorem c_estimate_buckets_1 {σ ι : Type} (y : (Int × Int × Int) → σ → Option (Bool × σ)) (C : σ → ι → Chunk) (l : Nat) (hy : ∀ (x : Int × Int × Int) (xm : Unit) (s : σ) (m : ι) (bo : Bool) (s' : σ), y x s = some (bo, s') → YCtr Try.prog l [.agg #[.int .u64 x.1, .int .u64 x.2.1], .int .u64 x.2.2] [C s m] [] (fun ret M' F' => ∃ m', ret = .bool bo ∧ M' = [C s' m'] ∧ F' = [])) (p1 : Int × Int × List (List (Int × Int))) (s0 : σ) (b1 : Nat) (A1 : Option Addr) (c1 : Nat) (m0 : ι) (r : σ) (H : estimate_buckets_1 y p1 s0 = some r) :
    Ctr Try.prog 101 [.func (.yield l) #[] #[], .pointer (some ⟨b1, 0, none⟩)] [C s0 m0, cells b1 [.int .i64 p1.1, .int .i64 p1.2.1, .slice A1 p1.2.2.length c1] 31] [slF (rSl rp_u64_u64) A1 c1 p1.2.2] (fun ret M' F' => ∃ m : ι, ret = ret1 [] ∧ M' = [C r m, cells b1 [.int .i64 p1.1, .int .i64 p1.2.1, .slice A1 p1.2.2.length c1] 31] ∧ F' = [slF (rSl rp_u64_u64) A1 c1 p1.2.2]) := by
  unfold estimate_buckets_1 at H
  refine ctr_ofI (N := 29) Try.func101 rfl Try.ntmps101 rfl (Nat.le_of_ble_eq_true rfl) (fun γ0 w0 => ?_)
  refine Tr.seq ?_
  refine Tr.region ?_
  refine TrL.v (v_fieldAddr' rfl fo31_2 rfl rfl) rfl rfl (bl rfl) ?_
  refine TrL.v (v_load (k := 1) rfl rfl rfl ty26 (fun _ => rfl) rfl rfl) rfl rfl (bl rfl) ?_
  refine TrL.v (v_len rfl sl26 rfl) rfl rfl (bl rfl) ?_
  refine TrL.v (v_move rfl rfl) rfl rfl (bl rfl) ?_
  refine TrL.nil (qthen_n ?_)
  obtain ⟨x7, hx13, H⟩ := bnd H
  refine Tr.cutE (D := σ) (M := ι) .ret (fun d13 => x7 = .inl d13) (fun d13 m64 => ⟨[(1, .pointer (some ⟨b1, 0, none⟩))], [C d13 m64, cells b1 [.int .i64 p1.1, .int .i64 p1.2.1, .slice A1 p1.2.2.length c1] 31], [slF (rSl rp_u64_u64) A1 c1 p1.2.2], []⟩) ?_ (fun d13 m64 hd15 => ?_)
  · refine Tr.cutE (D := σ) (M := ι) .normal (fun d14 => x7 = .inr d14) (fun d14 m65 => ⟨[(1, .pointer (some ⟨b1, 0, none⟩))], [C d14 m65, cells b1 [.int .i64 p1.1, .int .i64 p1.2.1, .slice A1 p1.2.2.length c1] 31], [slF (rSl rp_u64_u64) A1 c1 p1.2.2], []⟩) ?_ (fun d14 m65 hd16 => ?_)
    · refine Tr.block (Tr.loopI (ι := ι) (step := estimate_buckets_1_s0 y p1) (fun s17 m51 => ⟨[(0, .func (.yield l) #[] #[]), (1, .pointer (some ⟨b1, 0, none⟩)), (8, .slice A1 p1.2.2.length c1), (9, .int .i64 ((p1.2.2.length : Int))), (10, .int .i64 s17.1)], [C s17.2 m51, cells b1 [.int .i64 p1.1, .int .i64 p1.2.1, .slice A1 p1.2.2.length c1] 31], [slF (rSl rp_u64_u64) A1 c1 p1.2.2], []⟩) m0 hx13 (Imp.re _ [0, 1] [0] (sc rfl (sc rfl (sc rfl (sc rfl (sc rfl sn))))) (by decide) rfl rfl rfl) (fun s17 m51 y7 hy7 hx14 => ?_))
      unfold estimate_buckets_1_s0 at hy7
      refine Tr.seq ?_
      refine Tr.region ?_
      refine TrL.v (v_arith rfl rfl rfl ar_lss) rfl rfl (bl rfl) ?_
      refine TrL.nil (qthen_n ?_)
      refine Tr.seq ?_
      rcases ifc hy7 with ⟨h54, hy7⟩ | ⟨h54, hy7⟩
      · refine Tr.cond_t rfl (bt_dec h54) ?_
        refine Tr.skip (qthen_n ?_)
        refine Tr.seq ?_
        refine Tr.block ?_
        refine Tr.seq ?_
        refine Tr.region ?_
        refine TrL.v (v_move rfl rfl) rfl rfl (bl rfl) ?_
        obtain ⟨z21, hz21, hy7⟩ := bnd hy7
        refine TrL.v (v_indexAddr (k := 0) rfl sl26 ty38 rfl rfl rfl rfl hz21) rfl rfl (bl rfl) ?_
        refine TrL.openS' (k := 0) rfl hz21 (fun A7 c7 => ?_)
        refine TrL.v (v_loadF (k := 2) rfl ty38 rfl rfl) rfl rfl (bl rfl) ?_
        refine TrL.v (v_assign rfl rfl) rfl rfl (bl rfl) ?_
        refine TrL.v (v_assign rfl rfl) rfl rfl (bl rfl) ?_
        refine TrL.nil (qthen_n ?_)
        refine Tr.seq ?_
        refine Tr.region ?_
        refine TrL.v (v_move rfl rfl) rfl rfl (bl rfl) ?_
        refine TrL.v (v_len rfl sl38 rfl) rfl rfl (bl rfl) ?_
        refine TrL.v (v_move rfl rfl) rfl rfl (bl rfl) ?_
        refine TrL.nil (qthen_n ?_)
        obtain ⟨x8, hx15, hy7⟩ := bnd hy7
        refine Tr.cutE (D := σ) (M := ι) .ret (fun d15 => x8 = .inl d15) (fun d15 m73 => ⟨[(1, .pointer (some ⟨b1, 0, none⟩))], [C d15 m73, cells b1 [.int .i64 p1.1, .int .i64 p1.2.1, .slice A1 p1.2.2.length c1] 31], [slF (rSl rp_u64_u64) A1 c1 p1.2.2], []⟩) ?_ (fun d15 m73 hd13 => ?_)
        · refine Tr.cutE (D := σ) (M := ι) .normal (fun d16 => x8 = .inr d16) (fun d16 m74 => ⟨[(0, .func (.yield l) #[] #[]), (1, .pointer (some ⟨b1, 0, none⟩)), (8, .slice A1 p1.2.2.length c1), (9, .int .i64 ((p1.2.2.length : Int))), (10, .int .i64 s17.1)], [C d16 m74, cells b1 [.int .i64 p1.1, .int .i64 p1.2.1, .slice A1 p1.2.2.length c1] 31], [slF (rSl rp_u64_u64) A1 c1 p1.2.2], []⟩) ?_ (fun d16 m74 hd14 => ?_)
          · refine Tr.block (Tr.loopI (ι := ι) (step := estimate_buckets_1_s1 y s17 z21) (fun s23 m69 => ⟨[(0, .func (.yield l) #[] #[]), (1, .pointer (some ⟨b1, 0, none⟩)), (3, .int .i64 s17.1), (8, .slice A1 p1.2.2.length c1), (9, .int .i64 ((p1.2.2.length : Int))), (10, .int .i64 s17.1), (15, .slice A7 z21.length c7), (16, .int .i64 ((z21.length : Int))), (17, .int .i64 s23.1)], [C s23.2 m69, cells b1 [.int .i64 p1.1, .int .i64 p1.2.1, .slice A1 p1.2.2.length c1] 31], [slF (rSl rp_u64_u64) A1 c1 p1.2.2, slF rp_u64_u64 A7 c7 z21], []⟩) m51 hx15 (Imp.re _ [0, 1] [0, 1] (sc rfl (sc rfl (sc rfl (sc rfl (sc rfl (sc rfl (sc rfl (sc rfl (sc rfl sn))))))))) (by decide) rfl rfl rfl) (fun s23 m69 y8 hy8 hx16 => ?_))
            unfold estimate_buckets_1_s1 at hy8
            refine Tr.seq ?_
            refine Tr.region ?_
            refine TrL.v (v_arith rfl rfl rfl ar_lss) rfl rfl (bl rfl) ?_
            refine TrL.nil (qthen_n ?_)
            refine Tr.seq ?_
            rcases ifc hy8 with ⟨h63, hy8⟩ | ⟨h63, hy8⟩
            · refine Tr.cond_t rfl (bt_dec h63) ?_
              refine Tr.skip (qthen_n ?_)
              refine Tr.seq ?_
              refine Tr.block ?_
              refine Tr.seq ?_
              refine Tr.region ?_
              obtain ⟨z24, hz24, hy8⟩ := bnd hy8
              refine TrL.v (v_indexAddr (k := 1) rfl sl38 ty41 rfl rfl rfl rfl hz24) rfl rfl (bl rfl) ?_
              refine TrL.v (v_loadg (A := A7) (i := s23.1) (j := 0) (k := 1) rfl ty41 nofun rfl rfl hz24 rfl rfl) rfl rfl (bl rfl) ?_
              refine TrL.cons rfl (op_alloc' rfl (bl rfl) rfl ze41 (fun b19 => ?_))
              refine TrL.cons rfl (op_store' (k := 0) (c' := [.int .u64 z24.1, .int .u64 z24.2]) rfl rfl rfl rfl rfl ty41 rfl (Nat.le_of_ble_eq_true rfl) (ones (oc rfl (oc rfl on))) rfl ?_)
              refine TrL.nil (qthen_n ?_)
              refine Tr.seq ?_
              refine Tr.regionD drawn (fun hok => ?_)
              refine TrAny.prom (i := 0) (d := 21) hok (OpVal.plain rfl rfl (v_move rfl rfl)) (by kernel_rfl) rfl (bl rfl) ?_
              clear hok
              intro hok
              refine TrAny.prom (i := 1) (d := 22) hok (OpVal.plain rfl rfl (v_load (k := 0) rfl rfl rfl ty41 nofun rfl rfl)) (by kernel_rfl) rfl (bl rfl) ?_
              clear hok
              intro hok
              refine TrAny.prom (i := 2) (d := 23) hok (OpVal.plain rfl rfl (v_move rfl rfl)) (by kernel_rfl) rfl (bl rfl) ?_
              clear hok
              intro hok
              obtain ⟨h65, hy8⟩ := mst hy8
              refine TrAny.prom (i := 3) (d := 24) hok (OpVal.plain rfl rfl (v_shl' rfl rfl rfl h65 rfl wrap_u64')) (by kernel_rfl) rfl (bl rfl) ?_
              clear hok
              intro hok
              obtain ⟨r36, hr36, hy8⟩ := bnd hy8
              refine TrAny.next (j := 4) (by kernel_rfl) hok rfl (by kernel_rfl) (op_yield (vs := [.agg #[.int .u64 z24.1, .int .u64 z24.2], .int .u64 (wu64 (shlk 64 1 s17.1))]) (Mr := [cells b19 [.int .u64 z24.1, .int .u64 z24.2] 41, cells b1 [.int .i64 p1.1, .int .i64 p1.2.1, .slice A1 p1.2.2.length c1] 31]) [1] [0, 2] [] rfl rfl rfl (hy ((z24.1, z24.2, wu64 (shlk 64 1 s17.1))) (()) s23.2 m69 r36.1 r36.2 hr36) (by decide) rfl rfl rfl (bl rfl) (fun ret M' F' hR36 => ?_))
              obtain ⟨m76, rfl, rfl, rfl⟩ := hR36
              refine nxp hok (kp_all (ac (.inl (by kernel_rfl)) (ac (.inl (by kernel_rfl)) (ac (.inr (OpVal.plain rfl rfl (v_move rfl rfl))) (ac (.inl (by kernel_rfl)) an))))) rfl (by kernel_rfl) ?_
              clear hok
              intro hok
              refine TrAny.prom (i := 5) (d := 26) hok (OpVal.plain rfl rfl (v_notd rfl (bdec rfl))) (by kernel_rfl) rfl (bl rfl) ?_
              clear hok
              intro hok
              refine TrAny.done (by kernel_rfl) (by kernel_rfl) hok (by kernel_rfl) (qthen_n ?_)
              rcases ifc hy8 with ⟨h66, hy8⟩ | ⟨h66, hy8⟩
              · refine Tr.cond_t rfl (bt_dec h66) ?_
                have hz := Option.some.inj hy8
                subst hz
                refine Tr.ret (qblock_r (qthen_r (qloop_r (qblock_r (qcut_miss (by simp) (qcut_hit r36.2 m76 (hx16 _ rfl).symm (Imp.re _ [0, 2] [0] (sc rfl sn) (by decide) rfl rfl rfl)))))))
              · refine Tr.cond_f rfl (bf_dec h66) ?_
                refine Tr.skip (qblock_n (qthen_n ?_))
                refine Tr.region ?_
                refine TrL.v (v_arith rfl rfl rfl ar_add_i64) rfl rfl (bl rfl) ?_
                refine TrL.v (v_move rfl rfl) rfl rfl (bl rfl) ?_
                have hz := Option.some.inj hy8
                subst hz
                refine TrL.nil (qloop_n m76 (Imp.re _ [0, 2] [0, 1] (sc rfl (sc rfl (sc rfl (sc rfl (sc rfl (sc rfl (sc rfl (sc rfl (sc rfl sn))))))))) (by decide) rfl rfl rfl))
            · refine Tr.cond_f rfl (bf_dec h63) ?_
              have hz := Option.some.inj hy8
              subst hz
              refine Tr.exit (qthen_x (qloop_x (qblock_hit (qcut_hit s23.2 m69 (hx16 _ rfl).symm (Imp.re _ [0, 1] [0] (sc rfl (sc rfl (sc rfl (sc rfl (sc rfl sn))))) (by decide) rfl rfl rfl)))))
          · subst hd14
            replace hy7 := sumr hy7
            refine (qcut_miss (by simp) (qblock_n (qthen_n ?_)))
            refine Tr.region ?_
            refine TrL.v (v_arith rfl rfl rfl ar_add_i64) rfl rfl (bl rfl) ?_
            refine TrL.v (v_move rfl rfl) rfl rfl (bl rfl) ?_
            have hz := Option.some.inj hy7
            subst hz
            refine TrL.nil (qloop_n m74 (Imp.re _ [0, 1] [0] (sc rfl (sc rfl (sc rfl (sc rfl (sc rfl sn))))) (by decide) rfl rfl rfl))
        · subst hd13
          replace hy7 := suml hy7
          have hz := Option.some.inj hy7
          subst hz
          refine (qblock_r (qthen_r (qloop_r (qblock_r (qcut_miss (by simp) (qcut_hit d15 m73 (hx14 _ rfl).symm (Imp.re _ [0, 1] [0] (sc rfl sn) (by decide) rfl rfl rfl)))))))
      · refine Tr.cond_f rfl (bf_dec h54) ?_
        have hz := Option.some.inj hy7
        subst hz
        refine Tr.exit (qthen_x (qloop_x (qblock_hit (qcut_hit s17.2 m51 (hx14 _ rfl).symm (Imp.re _ [0, 1] [0] (sc rfl sn) (by decide) rfl rfl rfl)))))
    · subst hd16
      replace H := sumr H
      have hz := Option.some.inj H
      subst hz
      refine (qcut_miss (by simp) (ret_n ⟨[], [C d14 m65, cells b1 [.int .i64 p1.1, .int .i64 p1.2.1, .slice A1 p1.2.2.length c1] 31], [slF (rSl rp_u64_u64) A1 c1 p1.2.2], []⟩ [] [C d14 m65, cells b1 [.int .i64 p1.1, .int .i64 p1.2.1, .slice A1 p1.2.2.length c1] 31] [] (Imp.re _ [0, 1] [0] sn (by decide) rfl rfl rfl) rfl rfl ⟨m65, rfl, rfl, rfl⟩ .nil))
  · subst hd15
    replace H := suml H
    have hz := Option.some.inj H
    subst hz
    refine (ret_r ⟨[], [C d13 m64, cells b1 [.int .i64 p1.1, .int .i64 p1.2.1, .slice A1 p1.2.2.length c1] 31], [slF (rSl rp_u64_u64) A1 c1 p1.2.2], []⟩ [] [C d13 m64, cells b1 [.int .i64 p1.1, .int .i64 p1.2.1, .slice A1 p1.2.2.length c1] 31] [] (Imp.re _ [0, 1] [0] sn (by decide) rfl rfl rfl) rfl rfl ⟨m64, rfl, rfl, rfl⟩ .nil)

theorem c_estimate_Parts_1 (p1 : Int) (p2 : Int) (p3 : Int) (b1 : Nat) (b2 : Nat) (r : Bool) (H : estimate_Parts_1 p1 p2 p3 = some r) :
    Ctr Try.prog 81 [.int .u64 p1, .pointer (some ⟨b1, 0, none⟩), .pointer (some ⟨b2, 0, none⟩)] [cells b1 [.int .u64 p2] 23, cells b2 [.int .u64 p3] 23] [] (fun ret M' F' => ret = .bool r ∧ M' = [cells b1 [.int .u64 p2] 23, cells b2 [.int .u64 p3] 23] ∧ F' = []) := by
  unfold estimate_Parts_1 at H
  refine ctr_ofI (N := 15) Try.func81 rfl Try.ntmps81 rfl (Nat.le_of_ble_eq_true rfl) (fun γ0 w0 => ?_)
  refine Tr.seq ?_
  refine Tr.region ?_
  refine TrL.v (v_assign rfl rfl) rfl rfl (bl rfl) ?_
  refine TrL.nil (qthen_n ?_)
  refine Tr.seq ?_
  refine Tr.region ?_
  refine TrL.v (v_load (k := 0) rfl rfl rfl ty23 (fun _ => rfl) rfl rfl) rfl rfl (bl rfl) ?_
  refine TrL.v (v_load (k := 1) rfl rfl rfl ty23 (fun _ => rfl) rfl rfl) rfl rfl (bl rfl) ?_
  refine TrL.v (v_arith rfl rfl rfl ar_gtr) rfl rfl (bl rfl) ?_
  refine TrL.v (v_move rfl rfl) rfl rfl (bl rfl) ?_
  rcases ifc H with ⟨h4, H⟩ | ⟨h4, H⟩
  · refine TrL.cons_no rfl rfl rfl (gn_f (bt_dec h4)) rfl (bl rfl) ?_
    refine TrL.cons_no rfl rfl rfl (gn_f (bt_dec h4)) rfl (bl rfl) ?_
    refine TrL.cons_no rfl rfl rfl (gn_f (bt_dec h4)) rfl (bl rfl) ?_
    refine TrL.cons_no rfl rfl rfl (gn_f (bt_dec h4)) rfl (bl rfl) ?_
    refine TrL.cons_no rfl rfl rfl (gn_f (bt_dec h4)) rfl (bl rfl) ?_
    refine TrL.v (v_pick_t rfl rfl (bt_dec h4) rfl) rfl rfl (bl rfl) ?_
    refine TrL.v (v_assign rfl rfl) rfl rfl (bl rfl) ?_
    refine TrL.nil (qthen_n ?_)
    have hz := Option.some.inj H
    subst hz
    refine Tr.ret (ret_r ⟨[(4, .bool true)], [cells b1 [.int .u64 p2] 23, cells b2 [.int .u64 p3] 23], [], []⟩ [.bool true] [cells b1 [.int .u64 p2] 23, cells b2 [.int .u64 p3] 23] [] (Imp.re _ [0, 1] [] (sc rfl sn) (by decide) rfl rfl rfl) rfl rfl ⟨rfl, rfl, rfl⟩ (.cons (resv_tmp rfl) .nil))
  · refine TrL.cons_yes rfl rfl rfl (bf_dec h4) (OpTr.v (v_move rfl rfl) rfl (bl rfl) ?_)
    refine TrL.cons_yes rfl rfl rfl (bf_dec h4) (OpTr.v (v_load (k := 1) rfl rfl rfl ty23 (fun _ => rfl) rfl rfl) rfl (bl rfl) ?_)
    refine TrL.cons_yes rfl rfl rfl (bf_dec h4) (OpTr.v (v_load (k := 0) rfl rfl rfl ty23 (fun _ => rfl) rfl rfl) rfl (bl rfl) ?_)
    refine TrL.cons_yes rfl rfl rfl (bf_dec h4) (OpTr.v (v_arith rfl rfl rfl ar_sub_u64) rfl (bl rfl) ?_)
    refine TrL.cons_yes rfl rfl rfl (bf_dec h4) (OpTr.v (v_arith rfl rfl rfl ar_gtr) rfl (bl rfl) ?_)
    refine TrL.v (v_pick_f rfl rfl (bf_dec h4) rfl) rfl rfl (bl rfl) ?_
    refine TrL.v (v_assign rfl rfl) rfl rfl (bl rfl) ?_
    refine TrL.nil (qthen_n ?_)
    have hz := Option.some.inj H
    subst hz
    refine Tr.ret (ret_r ⟨[(4, .bool (decide ((wu64 (p3 - p2)) < p1)))], [cells b1 [.int .u64 p2] 23, cells b2 [.int .u64 p3] 23], [], []⟩ [.bool (decide ((wu64 (p3 - p2)) < p1))] [cells b1 [.int .u64 p2] 23, cells b2 [.int .u64 p3] 23] [] (Imp.re _ [0, 1] [] (sc rfl sn) (by decide) rfl rfl rfl) rfl rfl ⟨rfl, rfl, rfl⟩ (.cons (resv_tmp rfl) .nil))

theorem c_estimate_Parts (p1 : Int × Int × List (List (Int × Int))) (p2 : Int) (p3 : Int) (A1 : Option Addr) (c1 : Nat) (r : Int × Int) (H : estimate_Parts p1 p2 p3 = some r) :
    Ctr Try.prog 39 [.agg #[.int .i64 p1.1, .int .i64 p1.2.1, .slice A1 p1.2.2.length c1], .int .u64 p2, .int .u64 p3] [] [slF (rSl rp_u64_u64) A1 c1 p1.2.2] (fun ret M' F' => ret = .tuple #[.int .u64 r.1, .int .u64 r.2] ∧ M' = [] ∧ F' = []) := by
  unfold estimate_Parts at H
  refine ctr_ofI (N := 36) Try.func39 rfl Try.ntmps39 rfl (Nat.le_of_ble_eq_true rfl) (fun γ0 w0 => ?_)
  refine Tr.seq ?_
  refine Tr.region ?_
  refine TrL.cons rfl (op_box' rfl (bl rfl) rfl rfl rfl (fun b11 => ?_))
  refine TrL.cons rfl (op_box' rfl (bl rfl) rfl rfl rfl (fun b12 => ?_))
  refine TrL.cons rfl (op_box' rfl (bl rfl) rfl rfl rfl (fun b13 => ?_))
  refine TrL.v (v_assign rfl rfl) rfl rfl (bl rfl) ?_
  refine TrL.v (v_assign rfl rfl) rfl rfl (bl rfl) ?_
  refine TrL.nil (qthen_n ?_)
  refine Tr.seq ?_
  refine Tr.region ?_
  refine TrL.v (v_makeFunc (vs := [.pointer (some ⟨b13, 0, none⟩), .pointer (some ⟨b12, 0, none⟩)]) rfl rfl) rfl rfl (bl rfl) ?_
  refine TrL.cons rfl (op_alloc' rfl (bl rfl) rfl ze99 (fun b14 => ?_))
  refine TrL.cons rfl (op_store' (k := 0) (c' := [.func (.func 81) #[] #[.pointer (some ⟨b13, 0, none⟩), .pointer (some ⟨b12, 0, none⟩)]]) rfl rfl rfl rfl rfl ty99 rfl (Nat.le_of_ble_eq_true rfl) (ones (oc rfl on)) rfl ?_)
  refine TrL.nil (qthen_n ?_)
  refine Tr.seq ?_
  refine Tr.region ?_
  refine TrL.cons rfl (op_alloc' rfl (bl rfl) rfl ze23 (fun b15 => ?_))
  refine TrL.cons rfl (op_alloc' rfl (bl rfl) rfl ze23 (fun b16 => ?_))
  refine TrL.cons rfl (op_store' (k := 1) (c' := [.int .u64 0]) rfl rfl rfl rfl rfl ty23 rfl (Nat.le_of_ble_eq_true rfl) (ones (oc rfl on)) rfl ?_)
  refine TrL.cons rfl (op_store' (k := 0) (c' := [.int .u64 0]) rfl rfl rfl rfl rfl ty23 rfl (Nat.le_of_ble_eq_true rfl) (ones (oc rfl on)) rfl ?_)
  refine TrL.nil (qthen_n ?_)
  refine Tr.seq ?_
  refine Tr.seq ?_
  refine Tr.region ?_
  refine TrL.v (v_load (k := 5) rfl rfl rfl ty31 nofun rfl rfl) rfl rfl (bl rfl) ?_
  obtain ⟨r8, hr8, H⟩ := bnd H
  refine TrL.cons rfl (op_call0' (vs := [.agg #[.int .i64 p1.1, .int .i64 p1.2.1, .slice A1 p1.2.2.length c1]]) (cap := []) [0] rfl rfl (bl rfl) rfl rfl en82 (c_estimate_buckets p1 A1 c1 r8 hr8) rfl (fun ret M' F' hR8 => ?_))
  obtain ⟨m11, rfl, rfl, rfl⟩ := hR8
  refine TrL.nil (qthen_n ?_)
  refine Tr.block ?_
  obtain ⟨j2, hj2, H⟩ := bnd H
  refine Tr.rangeF (ps := [16, 17]) (X := Int × Int × Int) (D := Int × Int) (E := Empty) (ι := Unit) (ιE := Unit) (μ := Unit) (κ := (Unit ⊕ Unit)) (cap := [.pointer (some ⟨m11, 0, none⟩)]) (TM := fun d5 m15 => [cells b14 [.func (.func 81) #[] #[.pointer (some ⟨b13, 0, none⟩), .pointer (some ⟨b12, 0, none⟩)]] 99, cells b15 [.int .u64 d5.1] 23, cells b16 [.int .u64 d5.2] 23, cells b13 [.int .u64 p3] 23, cells b12 [.int .u64 p2] 23]) (TF := fun d5 m15 => []) (EM := fun _ _ => []) (EF := fun _ _ => []) (jmp := fun _ => .ret) (step := estimate_Parts_r0 p2 p3) (encs := fun x2 xm2 => [.agg #[.int .u64 x2.1, .int .u64 x2.2.1], .int .u64 x2.2.2]) (FX := fun x2 xm2 => []) (d0 := ((0 : Int), (0 : Int))) (m0 := ()) (x := j2) (Mp := [cells m11 [.int .i64 p1.1, .int .i64 p1.2.1, .slice A1 p1.2.2.length c1] 31]) (Mr := [cells b11 [.int .i64 p1.1, .int .i64 p1.2.1, .slice A1 p1.2.2.length c1] 31]) (Fp := [slF (rSl rp_u64_u64) A1 c1 p1.2.2]) (Mq := fun k2 => [cells m11 [.int .i64 p1.1, .int .i64 p1.2.1, .slice A1 p1.2.2.length c1] 31]) (Fq := fun k2 => [slF (rSl rp_u64_u64) A1 c1 p1.2.2]) [3, 2, 1, 4, 5, 0, 6] [] [0] rfl en101 (by decide) rfl rfl rfl (fun l2 C2 hy4 => ?_) (by decide) (ps_lt rfl) (fun _ _ => rfl) (fun l2 bs1 γ1 w1 x2 xm2 d5 m15 y2 hy3 => ?_) (fun d5 m15 k2 b20 hx2 => ?_) (fun q qm k2 b20 hx2 => ?_)
  · exact (c_estimate_buckets_1 (yl (estimate_Parts_r0 p2 p3)) C2 l2 hy4 p1 (.inl (((0 : Int), (0 : Int)))) m11 A1 c1 (.inl (())) j2 hj2).mono (fun ret M' F' hR => by obtain ⟨k2, _, hM, hF⟩ := hR; exact ⟨k2, k2, hM, hF⟩)
  · unfold estimate_Parts_r0 at hy3
    refine Tr.seq ?_
    refine Tr.region ?_
    refine TrL.cons rfl (op_alloc' rfl (bl rfl) rfl ze41 (fun b19 => ?_))
    refine TrL.cons rfl (op_store' (k := 0) (c' := [.int .u64 x2.1, .int .u64 x2.2.1]) rfl rfl rfl rfl rfl ty41 rfl (Nat.le_of_ble_eq_true rfl) (ones (oc rfl (oc rfl on))) rfl ?_)
    refine TrL.nil (qthen_n ?_)
    refine Tr.region ?_
    refine TrL.v (v_assign rfl rfl) rfl rfl (bl rfl) ?_
    refine TrL.nil (⟨rfl, fun bs2 γ2 w2 => ?_⟩)
    refine Tr.block ?_
    refine Tr.block ?_
    refine Tr.seq ?_
    refine Tr.region ?_
    refine TrL.v (v_load (k := 1) rfl rfl rfl ty99 (fun _ => rfl) rfl rfl) rfl rfl (bl rfl) ?_
    refine TrL.v (v_fieldAddr' rfl fo41_0 rfl rfl) rfl rfl (bl rfl) ?_
    refine TrL.v (v_load (k := 0) rfl rfl rfl ty23 (fun _ => rfl) rfl rfl) rfl rfl (bl rfl) ?_
    obtain ⟨r13, hr13, hy3⟩ := bnd hy3
    refine TrL.cons rfl (op_callg' (fs := []) (vs := [.int .u64 x2.1]) (cap := [.pointer (some ⟨b13, 0, none⟩), .pointer (some ⟨b12, 0, none⟩)]) (Mr := [cells b19 [.int .u64 x2.1, .int .u64 x2.2.1] 41, cells b14 [.func (.func 81) #[] #[.pointer (some ⟨b13, 0, none⟩), .pointer (some ⟨b12, 0, none⟩)]] 99, cells b15 [.int .u64 d5.1] 23, cells b16 [.int .u64 d5.2] 23]) [4, 5] [0, 1, 2, 3] [] rfl rfl rfl en81 (c_estimate_Parts_1 x2.1 p3 p2 b13 b12 r13 hr13) (by decide) rfl rfl rfl (bl rfl) (fun ret M' F' hR13 => ?_))
    obtain ⟨rfl, rfl, rfl⟩ := hR13
    refine TrL.v (v_assign rfl rfl) rfl rfl (bl rfl) ?_
    refine TrL.nil (qthen_n ?_)
    rcases ifc hy3 with ⟨h11, hy3⟩ | ⟨h11, hy3⟩
    · refine Tr.cond_t rfl h11 ?_
      refine Tr.region ?_
      refine TrL.v (v_load (k := 4) rfl rfl rfl ty23 (fun _ => rfl) rfl rfl) rfl rfl (bl rfl) ?_
      refine TrL.v (v_move rfl rfl) rfl rfl (bl rfl) ?_
      refine TrL.v (v_arith rfl rfl rfl ar_add_u64) rfl rfl (bl rfl) ?_
      refine TrL.cons rfl (op_store' (k := 4) (c' := [.int .u64 (wu64 (d5.1 + x2.2.2))]) rfl rfl rfl rfl rfl ty23 rfl (Nat.le_of_ble_eq_true rfl) (ones (oc rfl on)) rfl ?_)
      have hz := Option.some.inj hy3
      subst hz
      refine TrL.nil (qblock_n (qblock_n (⟨(wu64 (d5.1 + x2.2.2), d5.2), (), rfl, Imp.re _ [3, 4, 5, 0, 1] [] sn (by decide) rfl rfl rfl⟩)))
    · refine Tr.cond_f rfl (bf_b h11) ?_
      refine Tr.seq ?_
      refine Tr.region ?_
      refine TrL.v (v_load (k := 3) rfl rfl rfl ty99 (fun _ => rfl) rfl rfl) rfl rfl (bl rfl) ?_
      refine TrL.v (v_fieldAddr' rfl fo41_1 rfl rfl) rfl rfl (bl rfl) ?_
      refine TrL.v (v_load (k := 2) rfl rfl rfl ty23 (fun _ => rfl) rfl rfl) rfl rfl (bl rfl) ?_
      obtain ⟨r14, hr14, hy3⟩ := bnd hy3
      refine TrL.cons rfl (op_callg' (fs := []) (vs := [.int .u64 x2.2.1]) (cap := [.pointer (some ⟨b13, 0, none⟩), .pointer (some ⟨b12, 0, none⟩)]) (Mr := [cells b19 [.int .u64 x2.1, .int .u64 x2.2.1] 41, cells b14 [.func (.func 81) #[] #[.pointer (some ⟨b13, 0, none⟩), .pointer (some ⟨b12, 0, none⟩)]] 99, cells b15 [.int .u64 d5.1] 23, cells b16 [.int .u64 d5.2] 23]) [0, 1] [2, 3, 4, 5] [] rfl rfl rfl en81 (c_estimate_Parts_1 x2.2.1 p3 p2 b13 b12 r14 hr14) (by decide) rfl rfl rfl (bl rfl) (fun ret M' F' hR14 => ?_))
      obtain ⟨rfl, rfl, rfl⟩ := hR14
      refine TrL.v (v_assign rfl rfl) rfl rfl (bl rfl) ?_
      refine TrL.nil (qthen_n ?_)
      rcases ifc hy3 with ⟨h12, hy3⟩ | ⟨h12, hy3⟩
      · refine Tr.cond_t rfl h12 ?_
        refine Tr.region ?_
        refine TrL.v (v_load (k := 5) rfl rfl rfl ty23 (fun _ => rfl) rfl rfl) rfl rfl (bl rfl) ?_
        refine TrL.v (v_move rfl rfl) rfl rfl (bl rfl) ?_
        refine TrL.v (v_arith rfl rfl rfl ar_add_u64) rfl rfl (bl rfl) ?_
        refine TrL.cons rfl (op_store' (k := 5) (c' := [.int .u64 (wu64 (d5.2 + x2.2.2))]) rfl rfl rfl rfl rfl ty23 rfl (Nat.le_of_ble_eq_true rfl) (ones (oc rfl on)) rfl ?_)
        have hz := Option.some.inj hy3
        subst hz
        refine TrL.nil (qblock_n (qblock_n (⟨(d5.1, wu64 (d5.2 + x2.2.2)), (), rfl, Imp.re _ [3, 4, 5, 0, 1] [] sn (by decide) rfl rfl rfl⟩)))
      · refine Tr.cond_f rfl (bf_b h12) ?_
        have hz := Option.some.inj hy3
        subst hz
        refine Tr.skip (qblock_n (qblock_n (⟨(d5.1, d5.2), (), rfl, Imp.re _ [3, 4, 5, 0, 1] [] sn (by decide) rfl rfl rfl⟩)))
  · rw [hx2] at H
    replace H := suml H
    refine (qblock_n (qthen_n ?_))
    refine Tr.seq ?_
    refine Tr.re ⟨[(0, .agg #[.int .i64 p1.1, .int .i64 p1.2.1, .slice A1 p1.2.2.length c1]), (1, .int .u64 p2), (2, .int .u64 p3), (3, .pointer (some ⟨b11, 0, none⟩)), (4, .pointer (some ⟨b12, 0, none⟩)), (5, .pointer (some ⟨b13, 0, none⟩)), (8, .pointer (some ⟨b14, 0, none⟩)), (9, .pointer (some ⟨b15, 0, none⟩)), (10, .pointer (some ⟨b16, 0, none⟩)), (13, .func (.func 81) #[] #[.pointer (some ⟨b13, 0, none⟩), .pointer (some ⟨b12, 0, none⟩)]), (14, .agg #[.int .i64 p1.1, .int .i64 p1.2.1, .slice A1 p1.2.2.length c1]), (15, .func (.func 101) #[] #[.pointer (some ⟨m11, 0, none⟩)])], [objc b20 (.deferred (some [])), cells b14 [.func (.func 81) #[] #[.pointer (some ⟨b13, 0, none⟩), .pointer (some ⟨b12, 0, none⟩)]] 99, cells b15 [.int .u64 d5.1] 23, cells b16 [.int .u64 d5.2] 23, cells b13 [.int .u64 p3] 23, cells b12 [.int .u64 p2] 23, cells m11 [.int .i64 p1.1, .int .i64 p1.2.1, .slice A1 p1.2.2.length c1] 31, cells b11 [.int .i64 p1.1, .int .i64 p1.2.1, .slice A1 p1.2.2.length c1] 31], [slF (rSl rp_u64_u64) A1 c1 p1.2.2, slF (rSl rp_u64_u64) A1 c1 p1.2.2, slF (rSl rp_u64_u64) A1 c1 p1.2.2], [dmark b20]⟩ [0, 1, 2, 3, 4, 5, 6, 7] [0, 1, 2] (sc rfl (sc rfl (sc rfl (sc rfl (sc rfl (sc rfl (sc rfl (sc rfl (sc rfl (sc rfl (sc rfl (sc rfl sn)))))))))))) (by decide) rfl rfl rfl ?_
    refine Tr.regionD drawn (fun hok => ?_)
    refine TrAny.prom (i := 0) (d := 34) hok (OpVal.plain rfl rfl (v_load (k := 2) rfl rfl rfl ty23 (fun _ => rfl) rfl rfl)) (by kernel_rfl) rfl (bl rfl) ?_
    clear hok
    intro hok
    refine TrAny.prom (i := 1) (d := 35) hok (OpVal.plain rfl rfl (v_load (k := 3) rfl rfl rfl ty23 (fun _ => rfl) rfl rfl)) (by kernel_rfl) rfl (bl rfl) ?_
    clear hok
    intro hok
    refine TrAny.prom (i := 2) (d := 6) hok (OpVal.plain rfl rfl (v_assign rfl rfl)) (by kernel_rfl) rfl (bl rfl) ?_
    clear hok
    intro hok
    refine TrAny.prom (i := 3) (d := 7) hok (OpVal.plain rfl rfl (v_assign rfl rfl)) (by kernel_rfl) rfl (bl rfl) ?_
    clear hok
    intro hok
    refine TrAny.done (by kernel_rfl) (by kernel_rfl) hok (by kernel_rfl) (qthen_n ?_)
    have hz := Option.some.inj H
    subst hz
    refine Tr.ret (ret_rm ⟨[(6, .int .u64 d5.1), (7, .int .u64 d5.2)], [objc b20 (.deferred (some []))], [], [dmark b20]⟩ [.int .u64 d5.1, .int .u64 d5.2] [] [] [b20] (Imp.re _ [0] [] (sc rfl (sc rfl sn)) (by decide) rfl rfl rfl) rfl rfl ⟨rfl, rfl, rfl⟩ (.cons (resv_tmp rfl) (.cons (resv_tmp rfl) .nil)))
  · exact q.elim

theorem c_estimate_Of (p1 : Int × Int × List (List (Int × Int))) (p2 : Int) (p3 : Int) (A1 : Option Addr) (c1 : Nat) (r : Int) (H : estimate_Of p1 p2 p3 = some r) :
    Ctr Try.prog 42 [.agg #[.int .i64 p1.1, .int .i64 p1.2.1, .slice A1 p1.2.2.length c1], .int .u64 p2, .int .u64 p3] [] [slF (rSl rp_u64_u64) A1 c1 p1.2.2] (fun ret M' F' => ret = .int .u64 r ∧ M' = [] ∧ F' = []) := by
  unfold estimate_Of at H
  refine ctr_ofI (N := 20) Try.func42 rfl Try.ntmps42 rfl (Nat.le_of_ble_eq_true rfl) (fun γ0 w0 => ?_)
  refine Tr.seq ?_
  refine Tr.region ?_
  refine TrL.cons rfl (op_box' rfl (bl rfl) rfl rfl rfl (fun b2 => ?_))
  refine TrL.v (v_assign rfl rfl) rfl rfl (bl rfl) ?_
  refine TrL.nil (qthen_n ?_)
  refine Tr.seq ?_
  refine Tr.region ?_
  refine TrL.v (v_load (k := 0) rfl rfl rfl ty31 nofun rfl rfl) rfl rfl (bl rfl) ?_
  refine TrL.v (v_move rfl rfl) rfl rfl (bl rfl) ?_
  refine TrL.v (v_move rfl rfl) rfl rfl (bl rfl) ?_
  obtain ⟨r2, hr2, H⟩ := bnd H
  refine TrL.cons rfl (op_call0' (vs := [.agg #[.int .i64 p1.1, .int .i64 p1.2.1, .slice A1 p1.2.2.length c1], .int .u64 p2, .int .u64 p3]) (cap := []) [0] rfl rfl (bl rfl) rfl rfl en39 (c_estimate_Parts p1 p2 p3 A1 c1 r2 hr2) rfl (fun ret M' F' hR2 => ?_))
  obtain ⟨rfl, rfl, rfl⟩ := hR2
  refine TrL.v (v_move rfl rfl) rfl rfl (bl rfl) ?_
  refine TrL.v (v_extract rfl rfl rfl) rfl rfl (bl rfl) ?_
  refine TrL.v (v_extract rfl rfl rfl) rfl rfl (bl rfl) ?_
  refine TrL.v (v_assign rfl rfl) rfl rfl (bl rfl) ?_
  refine TrL.v (v_assign rfl rfl) rfl rfl (bl rfl) ?_
  refine TrL.nil (qthen_n ?_)
  refine Tr.seq ?_
  refine Tr.region ?_
  refine TrL.v (v_move rfl rfl) rfl rfl (bl rfl) ?_
  refine TrL.v (v_move rfl rfl) rfl rfl (bl rfl) ?_
  refine TrL.v (v_shr' rfl rfl rfl (by decide) rfl) rfl rfl (bl rfl) ?_
  refine TrL.v (v_arith rfl rfl rfl ar_add_u64) rfl rfl (bl rfl) ?_
  refine TrL.v (v_assign rfl rfl) rfl rfl (bl rfl) ?_
  refine TrL.nil (qthen_n ?_)
  have hz := Option.some.inj H
  subst hz
  refine Tr.ret (ret_r ⟨[(6, .int .u64 (wu64 (r2.1 + (shrk 64 r2.2 1))))], [], [], []⟩ [.int .u64 (wu64 (r2.1 + (shrk 64 r2.2 1)))] [] [] (Imp.re _ [] [] (sc rfl sn) (by decide) rfl rfl rfl) rfl rfl ⟨rfl, rfl, rfl⟩ (.cons (resv_tmp rfl) .nil))
end Go.Proofs.Ytbnjjpmlaknaoaa.W
