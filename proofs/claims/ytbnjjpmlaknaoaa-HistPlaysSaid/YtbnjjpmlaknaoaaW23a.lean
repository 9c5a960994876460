/- The contracts of the walked functions: the printed walks. -/
import Derived.Test.YtbnjjpmlaknaoaaKa
import Derived.Test.YtbnjjpmlaknaoaaQa
import Derived.Test.YtbnjjpmlaknaoaaWhistaa
import Derived.Test.YtbnjjpmlaknaoaaWhistba
import Derived.Test.YtbnjjpmlaknaoaaWlaw06aa
import Derived.Test.YtbnjjpmlaknaoaaWlaw06ba
import Derived.Test.YtbnjjpmlaknaoaaWref06aa
namespace Go.Proofs.Ytbnjjpmlaknaoaa.W
open Go Go.Proofs Go.Proofs.Ytbnjjpmlaknaoaa.L Go.Proofs.Ytbnjjpmlaknaoaa.Pu
set_option linter.unusedVariables false
set_option maxHeartbeats 4000000

theorem c_law06_HistPlays (p1 : Int) (p2 : List (Int × Int)) (A1 : Option Addr) (c1 : Nat) (r : Bool) (H : law06_HistPlays p1 p2 = some r) :
    Ctr Try.prog 23 [.int .i64 p1, .slice A1 p2.length c1] [] [slF rp_u64_u64 A1 c1 p2] (fun ret M' F' => ret = .bool r ∧ M' = [] ∧ F' = []) := by
  unfold law06_HistPlays at H
  refine ctr_ofI (N := 57) Try.func23 rfl Try.ntmps23 rfl (Nat.le_of_ble_eq_true rfl) (fun γ0 w0 => ?_)
  refine Tr.seq ?_
  refine Tr.region ?_
  refine TrL.v (v_assign rfl rfl) rfl rfl (bl rfl) ?_
  refine TrL.nil (qthen_n ?_)
  refine Tr.seq ?_
  refine Tr.region ?_
  obtain ⟨r17, hr17, H⟩ := bnd H
  refine TrL.cons rfl (op_call0' (vs := []) (cap := []) [] rfl rfl (bl rfl) rfl rfl en70 (c_law06_awake r17 hr17) rfl (fun ret M' F' hR17 => ?_))
  obtain ⟨rfl, rfl, rfl⟩ := hR17
  refine TrL.v (v_assign rfl rfl) rfl rfl (bl rfl) ?_
  refine TrL.nil (qthen_n ?_)
  refine Tr.seq ?_
  refine Tr.region ?_
  refine TrL.v (v_move rfl rfl) rfl rfl (bl rfl) ?_
  refine TrL.v (v_move rfl rfl) rfl rfl (bl rfl) ?_
  obtain ⟨r18, hr18, H⟩ := bnd H
  refine TrL.cons rfl (op_call0' (vs := [.int .i64 p1, .slice A1 p2.length c1]) (cap := []) [0] rfl rfl (bl rfl) rfl rfl en71 (c_law06_played p1 p2 A1 c1 r18 hr18) rfl (fun ret M' F' hR18 => ?_))
  obtain ⟨m18, rfl, rfl, rfl⟩ := hR18
  refine TrL.v (v_move rfl rfl) rfl rfl (bl rfl) ?_
  refine TrL.v (v_extract rfl rfl rfl) rfl rfl (bl rfl) ?_
  refine TrL.v (v_extract rfl rfl rfl) rfl rfl (bl rfl) ?_
  refine TrL.v (v_extract rfl rfl rfl) rfl rfl (bl rfl) ?_
  refine TrL.cons rfl (op_alloc' rfl (bl rfl) rfl ze31 (fun b3 => ?_))
  refine TrL.cons rfl (op_alloc' rfl (bl rfl) rfl ze28 (fun b4 => ?_))
  refine TrL.cons rfl (op_store' (k := 1) (c' := [.int .i64 r18.1, .int .i64 r18.2.1, .slice m18.1 r18.2.2.1.length m18.2.1]) rfl rfl rfl rfl rfl ty31 rfl (Nat.le_of_ble_eq_true rfl) (ones (oc rfl (oc rfl (oc rfl on)))) rfl ?_)
  refine TrL.cons rfl (op_store' (k := 0) (c' := [.int .i64 r18.2.2.2.1, .int .i64 r18.2.2.2.2.1, .slice m18.2.2.1 r18.2.2.2.2.2.1.length m18.2.2.2]) rfl rfl rfl rfl rfl ty28 rfl (Nat.le_of_ble_eq_true rfl) (ones (oc rfl (oc rfl (oc rfl on)))) rfl ?_)
  refine TrL.v (v_assign rfl rfl) rfl rfl (bl rfl) ?_
  refine TrL.nil (qthen_n ?_)
  refine Tr.seq ?_
  refine Tr.region ?_
  refine TrL.v (v_load (k := 1) rfl rfl rfl ty31 nofun rfl rfl) rfl rfl (bl rfl) ?_
  obtain ⟨r19, hr19, H⟩ := bnd H
  refine TrL.cons rfl (op_call0' (vs := [.agg #[.int .i64 r18.1, .int .i64 r18.2.1, .slice m18.1 r18.2.2.1.length m18.2.1]]) (cap := []) [1] rfl rfl (bl rfl) rfl rfl en72 (c_hist_Last ((r18.1, r18.2.1, r18.2.2.1)) m18.1 m18.2.1 r19 hr19) rfl (fun ret M' F' hR19 => ?_))
  obtain ⟨rfl, rfl, rfl⟩ := hR19
  refine TrL.v (v_move rfl rfl) rfl rfl (bl rfl) ?_
  refine TrL.v (v_extract rfl rfl rfl) rfl rfl (bl rfl) ?_
  refine TrL.v (v_extract rfl rfl rfl) rfl rfl (bl rfl) ?_
  refine TrL.v (v_assign rfl rfl) rfl rfl (bl rfl) ?_
  refine TrL.v (v_assign rfl rfl) rfl rfl (bl rfl) ?_
  refine TrL.nil (qthen_n ?_)
  refine Tr.seq ?_
  refine Tr.region ?_
  refine TrL.v (v_load (k := 0) rfl rfl rfl ty28 nofun rfl rfl) rfl rfl (bl rfl) ?_
  obtain ⟨r20, hr20, H⟩ := bnd H
  refine TrL.cons rfl (op_call0' (vs := [.agg #[.int .i64 r18.2.2.2.1, .int .i64 r18.2.2.2.2.1, .slice m18.2.2.1 r18.2.2.2.2.2.1.length m18.2.2.2]]) (cap := []) [2] rfl rfl (bl rfl) rfl rfl en68 (c_ref06_Last ((r18.2.2.2.1, r18.2.2.2.2.1, r18.2.2.2.2.2.1)) m18.2.2.1 m18.2.2.2 r20 hr20) rfl (fun ret M' F' hR20 => ?_))
  obtain ⟨rfl, rfl, rfl⟩ := hR20
  refine TrL.v (v_move rfl rfl) rfl rfl (bl rfl) ?_
  refine TrL.v (v_extract rfl rfl rfl) rfl rfl (bl rfl) ?_
  refine TrL.v (v_extract rfl rfl rfl) rfl rfl (bl rfl) ?_
  refine TrL.v (v_assign rfl rfl) rfl rfl (bl rfl) ?_
  refine TrL.v (v_assign rfl rfl) rfl rfl (bl rfl) ?_
  refine TrL.nil (qthen_n ?_)
  refine Tr.seq ?_
  refine Tr.re ⟨[(0, .int .i64 p1), (1, .slice A1 p2.length c1), (5, .bool r17), (6, .pointer (some ⟨b3, 0, none⟩)), (7, .pointer (some ⟨b4, 0, none⟩)), (8, .bool r18.2.2.2.2.2.2), (9, .int .u64 r19.1), (10, .bool r19.2), (11, .int .u64 r20.1), (12, .bool r20.2), (13, .bool r17), (14, .tuple #[.agg #[.int .i64 r18.1, .int .i64 r18.2.1, .slice m18.1 r18.2.2.1.length m18.2.1], .agg #[.int .i64 r18.2.2.2.1, .int .i64 r18.2.2.2.2.1, .slice m18.2.2.1 r18.2.2.2.2.2.1.length m18.2.2.2], .bool r18.2.2.2.2.2.2]), (15, .int .i64 p1), (16, .slice A1 p2.length c1), (17, .tuple #[.agg #[.int .i64 r18.1, .int .i64 r18.2.1, .slice m18.1 r18.2.2.1.length m18.2.1], .agg #[.int .i64 r18.2.2.2.1, .int .i64 r18.2.2.2.2.1, .slice m18.2.2.1 r18.2.2.2.2.2.1.length m18.2.2.2], .bool r18.2.2.2.2.2.2]), (18, .agg #[.int .i64 r18.1, .int .i64 r18.2.1, .slice m18.1 r18.2.2.1.length m18.2.1]), (19, .agg #[.int .i64 r18.2.2.2.1, .int .i64 r18.2.2.2.2.1, .slice m18.2.2.1 r18.2.2.2.2.2.1.length m18.2.2.2]), (20, .bool r18.2.2.2.2.2.2), (21, .tuple #[.int .u64 r19.1, .bool r19.2]), (22, .agg #[.int .i64 r18.1, .int .i64 r18.2.1, .slice m18.1 r18.2.2.1.length m18.2.1]), (23, .tuple #[.int .u64 r19.1, .bool r19.2]), (24, .int .u64 r19.1), (25, .bool r19.2), (26, .tuple #[.int .u64 r20.1, .bool r20.2]), (27, .agg #[.int .i64 r18.2.2.2.1, .int .i64 r18.2.2.2.2.1, .slice m18.2.2.1 r18.2.2.2.2.2.1.length m18.2.2.2]), (28, .tuple #[.int .u64 r20.1, .bool r20.2]), (29, .int .u64 r20.1), (30, .bool r20.2)], [cells b4 [.int .i64 r18.2.2.2.1, .int .i64 r18.2.2.2.2.1, .slice m18.2.2.1 r18.2.2.2.2.2.1.length m18.2.2.2] 28, cells b3 [.int .i64 r18.1, .int .i64 r18.2.1, .slice m18.1 r18.2.2.1.length m18.2.1] 31], [slF rp_u64_u64 A1 c1 p2, slF (rSl rp_u64_u64) m18.1 m18.2.1 r18.2.2.1, slF (rSl rp_u64_u64) m18.2.2.1 m18.2.2.2 r18.2.2.2.2.2.1], []⟩ [0, 1] [0, 1, 2] (sc rfl (sc rfl (sc rfl (sc rfl (sc rfl (sc rfl (sc rfl (sc rfl (sc rfl (sc rfl (sc rfl (sc rfl (sc rfl (sc rfl (sc rfl (sc rfl (sc rfl (sc rfl (sc rfl (sc rfl (sc rfl (sc rfl (sc rfl (sc rfl (sc rfl (sc rfl (sc rfl (sc rfl sn)))))))))))))))))))))))))))) (by decide) rfl rfl rfl ?_
  refine Tr.regionD drawn (fun hok => ?_)
  refine TrAny.prom (i := 0) (d := 31) hok (OpVal.plain rfl rfl (v_move rfl rfl)) (by kernel_rfl) rfl (bl rfl) ?_
  clear hok
  intro hok
  refine TrAny.prom (i := 1) (d := 32) hok (OpVal.plain rfl rfl (v_move rfl rfl)) (by kernel_rfl) rfl (bl rfl) ?_
  clear hok
  intro hok
  rcases ifc H with ⟨h36, H⟩ | ⟨h36, H⟩
  · refine TrAny.prom (i := 2) (d := 33) hok (OpVal.yes rfl rfl rfl rfl h36 (v_move rfl rfl)) (by kernel_rfl) rfl (bl rfl) ?_
    clear hok
    intro hok
    refine TrAny.prom (i := 3) (d := 34) hok (OpVal.plain rfl rfl (v_pick_t rfl rfl h36 rfl)) (by kernel_rfl) rfl (bl rfl) ?_
    clear hok
    intro hok
    refine TrAny.prom (i := 4) (d := 35) hok (OpVal.plain rfl rfl (v_move rfl rfl)) (by kernel_rfl) rfl (bl rfl) ?_
    clear hok
    intro hok
    rcases ifc H with ⟨h37, H⟩ | ⟨h37, H⟩
    · refine TrAny.prom (i := 5) (d := 36) hok (OpVal.yes rfl rfl rfl rfl h37 (v_load (k := 1) rfl rfl rfl ty31 nofun rfl rfl)) (by kernel_rfl) rfl (bl rfl) ?_
      clear hok
      intro hok
      refine TrAny.prom (i := 6) (d := 37) hok (OpVal.yes rfl rfl rfl rfl h37 (v_load (k := 0) rfl rfl rfl ty28 nofun rfl rfl)) (by kernel_rfl) rfl (bl rfl) ?_
      clear hok
      intro hok
      obtain ⟨r30, hr30, H⟩ := bnd H
      refine TrAny.nextY (j := 7) (by kernel_rfl) hok rfl (by kernel_rfl) rfl rfl rfl h37 (op_call0' (vs := [.agg #[.int .i64 r18.1, .int .i64 r18.2.1, .slice m18.1 r18.2.2.1.length m18.2.1], .agg #[.int .i64 r18.2.2.2.1, .int .i64 r18.2.2.2.2.1, .slice m18.2.2.1 r18.2.2.2.2.2.1.length m18.2.2.2]]) (cap := []) [1, 2] rfl rfl (bl rfl) rfl rfl en73 (c_law06_same ((r18.1, r18.2.1, r18.2.2.1)) ((r18.2.2.2.1, r18.2.2.2.2.1, r18.2.2.2.2.2.1)) m18.1 m18.2.1 m18.2.2.1 m18.2.2.2 r30 hr30) rfl (fun ret M' F' hR30 => ?_))
      obtain ⟨rfl, rfl, rfl⟩ := hR30
      refine nxp hok (kp_imp (kp_c0 rfl)) rfl (by kernel_rfl) ?_
      clear hok
      intro hok
      refine TrAny.prom (i := 8) (d := 39) hok (OpVal.plain rfl rfl (v_pick_t rfl rfl h37 rfl)) (by kernel_rfl) rfl (bl rfl) ?_
      clear hok
      intro hok
      refine TrAny.prom (i := 9) (d := 40) hok (OpVal.plain rfl rfl (v_move rfl rfl)) (by kernel_rfl) rfl (bl rfl) ?_
      clear hok
      intro hok
      rcases ifc H with ⟨h38, H⟩ | ⟨h38, H⟩
      · refine TrAny.prom (i := 10) (d := 41) hok (OpVal.yes rfl rfl rfl rfl h38 (v_load (k := 1) rfl rfl rfl ty31 nofun rfl rfl)) (by kernel_rfl) rfl (bl rfl) ?_
        clear hok
        intro hok
        refine TrAny.prom (i := 12) (d := 43) hok (OpVal.yes rfl rfl rfl rfl h38 (v_load (k := 0) rfl rfl rfl ty28 nofun rfl rfl)) (by kernel_rfl) rfl (bl rfl) ?_
        clear hok
        intro hok
        obtain ⟨r31, hr31, H⟩ := bnd H
        refine TrAny.nextY (j := 11) (by kernel_rfl) hok rfl (by kernel_rfl) rfl rfl rfl h38 (op_call0' (vs := [.agg #[.int .i64 r18.1, .int .i64 r18.2.1, .slice m18.1 r18.2.2.1.length m18.2.1]]) (cap := []) [1] rfl rfl (bl rfl) rfl rfl en45 (c_hist_Total ((r18.1, r18.2.1, r18.2.2.1)) m18.1 m18.2.1 r31 hr31) rfl (fun ret M' F' hR31 => ?_))
        obtain ⟨rfl, rfl, rfl⟩ := hR31
        refine nxp hok (kp_imp (kp_c0 rfl)) rfl (by kernel_rfl) ?_
        clear hok
        intro hok
        obtain ⟨r32, hr32, H⟩ := bnd H
        refine TrAny.nextY (j := 13) (by kernel_rfl) hok rfl (by kernel_rfl) rfl rfl rfl h38 (op_call0' (vs := [.agg #[.int .i64 r18.2.2.2.1, .int .i64 r18.2.2.2.2.1, .slice m18.2.2.1 r18.2.2.2.2.2.1.length m18.2.2.2]]) (cap := []) [2] rfl rfl (bl rfl) rfl rfl en74 (c_ref06_Total ((r18.2.2.2.1, r18.2.2.2.2.1, r18.2.2.2.2.2.1)) m18.2.2.1 m18.2.2.2 r32 hr32) rfl (fun ret M' F' hR32 => ?_))
        obtain ⟨rfl, rfl, rfl⟩ := hR32
        refine nxp hok (kp_imp (kp_c0 rfl)) rfl (by kernel_rfl) ?_
        clear hok
        intro hok
        refine TrAny.prom (i := 14) (d := 45) hok (OpVal.yes rfl rfl rfl rfl h38 (v_arith rfl rfl rfl ar_eql)) (by kernel_rfl) rfl (bl rfl) ?_
        clear hok
        intro hok
        refine TrAny.prom (i := 15) (d := 46) hok (OpVal.plain rfl rfl (v_pick_t rfl rfl h38 rfl)) (by kernel_rfl) rfl (bl rfl) ?_
        clear hok
        intro hok
        refine TrAny.prom (i := 16) (d := 47) hok (OpVal.plain rfl rfl (v_move rfl rfl)) (by kernel_rfl) rfl (bl rfl) ?_
        clear hok
        intro hok
        rcases ifc H with ⟨h39, H⟩ | ⟨h39, H⟩
        · refine TrAny.prom (i := 17) (d := 48) hok (OpVal.yes rfl rfl rfl rfl (bt_dec h39) (v_move rfl rfl)) (by kernel_rfl) rfl (bl rfl) ?_
          clear hok
          intro hok
          refine TrAny.prom (i := 18) (d := 49) hok (OpVal.yes rfl rfl rfl rfl (bt_dec h39) (v_move rfl rfl)) (by kernel_rfl) rfl (bl rfl) ?_
          clear hok
          intro hok
          refine TrAny.prom (i := 19) (d := 50) hok (OpVal.yes rfl rfl rfl rfl (bt_dec h39) (v_arith rfl rfl rfl ar_eql)) (by kernel_rfl) rfl (bl rfl) ?_
          clear hok
          intro hok
          refine TrAny.prom (i := 20) (d := 51) hok (OpVal.plain rfl rfl (v_pick_t rfl rfl (bt_dec h39) rfl)) (by kernel_rfl) rfl (bl rfl) ?_
          clear hok
          intro hok
          refine TrAny.prom (i := 21) (d := 52) hok (OpVal.plain rfl rfl (v_move rfl rfl)) (by kernel_rfl) rfl (bl rfl) ?_
          clear hok
          intro hok
          rcases ifc H with ⟨h40, H⟩ | ⟨h40, H⟩
          · refine TrAny.prom (i := 22) (d := 53) hok (OpVal.yes rfl rfl rfl rfl (bt_dec h40) (v_move rfl rfl)) (by kernel_rfl) rfl (bl rfl) ?_
            clear hok
            intro hok
            refine TrAny.prom (i := 23) (d := 54) hok (OpVal.yes rfl rfl rfl rfl (bt_dec h40) (v_move rfl rfl)) (by kernel_rfl) rfl (bl rfl) ?_
            clear hok
            intro hok
            refine TrAny.prom (i := 24) (d := 55) hok (OpVal.yes rfl rfl rfl rfl (bt_dec h40) (v_eqd rfl Try.underlying4 rfl rfl)) (by kernel_rfl) rfl (bl rfl) ?_
            clear hok
            intro hok
            refine TrAny.prom (i := 25) (d := 56) hok (OpVal.plain rfl rfl (v_pick_t rfl rfl (bt_dec h40) rfl)) (by kernel_rfl) rfl (bl rfl) ?_
            clear hok
            intro hok
            refine TrAny.prom (i := 26) (d := 4) hok (OpVal.plain rfl rfl (v_assign rfl rfl)) (by kernel_rfl) rfl (bl rfl) ?_
            clear hok
            intro hok
            refine TrAny.done (by kernel_rfl) (by kernel_rfl) hok (by kernel_rfl) (qthen_n ?_)
            have hz := Option.some.inj H
            subst hz
            refine Tr.ret (ret_r ⟨[(4, .bool (decide (r19.2 = r20.2)))], [], [], []⟩ [.bool (decide (r19.2 = r20.2))] [] [] (Imp.re _ [] [] (sc rfl sn) (by decide) rfl rfl rfl) rfl rfl ⟨rfl, rfl, rfl⟩ (.cons (resv_tmp rfl) .nil))
          · refine TrAny.prom (i := 22) (d := 53) hok (OpVal.no rfl (fun c h => by cases h) rfl rfl rfl (gn_t (bf_dec h40))) (by kernel_rfl) rfl (bl rfl) ?_
            clear hok
            intro hok
            refine TrAny.prom (i := 23) (d := 54) hok (OpVal.no rfl (fun c h => by cases h) rfl rfl rfl (gn_t (bf_dec h40))) (by kernel_rfl) rfl (bl rfl) ?_
            clear hok
            intro hok
            refine TrAny.prom (i := 24) (d := 55) hok (OpVal.no rfl (fun c h => by cases h) rfl rfl rfl (gn_t (bf_dec h40))) (by kernel_rfl) rfl (bl rfl) ?_
            clear hok
            intro hok
            refine TrAny.prom (i := 25) (d := 56) hok (OpVal.plain rfl rfl (v_pick_f rfl rfl (bf_dec h40) rfl)) (by kernel_rfl) rfl (bl rfl) ?_
            clear hok
            intro hok
            refine TrAny.prom (i := 26) (d := 4) hok (OpVal.plain rfl rfl (v_assign rfl rfl)) (by kernel_rfl) rfl (bl rfl) ?_
            clear hok
            intro hok
            refine TrAny.done (by kernel_rfl) (by kernel_rfl) hok (by kernel_rfl) (qthen_n ?_)
            have hz := Option.some.inj H
            subst hz
            refine Tr.ret (ret_r ⟨[(4, .bool false)], [], [], []⟩ [.bool false] [] [] (Imp.re _ [] [] (sc rfl sn) (by decide) rfl rfl rfl) rfl rfl ⟨rfl, rfl, rfl⟩ (.cons (resv_tmp rfl) .nil))
        · refine TrAny.prom (i := 17) (d := 48) hok (OpVal.no rfl (fun c h => by cases h) rfl rfl rfl (gn_t (bf_dec h39))) (by kernel_rfl) rfl (bl rfl) ?_
          clear hok
          intro hok
          refine TrAny.prom (i := 18) (d := 49) hok (OpVal.no rfl (fun c h => by cases h) rfl rfl rfl (gn_t (bf_dec h39))) (by kernel_rfl) rfl (bl rfl) ?_
          clear hok
          intro hok
          refine TrAny.prom (i := 19) (d := 50) hok (OpVal.no rfl (fun c h => by cases h) rfl rfl rfl (gn_t (bf_dec h39))) (by kernel_rfl) rfl (bl rfl) ?_
          clear hok
          intro hok
          refine TrAny.prom (i := 20) (d := 51) hok (OpVal.plain rfl rfl (v_pick_f rfl rfl (bf_dec h39) rfl)) (by kernel_rfl) rfl (bl rfl) ?_
          clear hok
          intro hok
          refine TrAny.prom (i := 21) (d := 52) hok (OpVal.plain rfl rfl (v_move rfl rfl)) (by kernel_rfl) rfl (bl rfl) ?_
          clear hok
          intro hok
          refine TrAny.prom (i := 22) (d := 53) hok (OpVal.no rfl (fun c h => by cases h) rfl rfl rfl (gn_t rfl)) (by kernel_rfl) rfl (bl rfl) ?_
          clear hok
          intro hok
          refine TrAny.prom (i := 23) (d := 54) hok (OpVal.no rfl (fun c h => by cases h) rfl rfl rfl (gn_t rfl)) (by kernel_rfl) rfl (bl rfl) ?_
          clear hok
          intro hok
          refine TrAny.prom (i := 24) (d := 55) hok (OpVal.no rfl (fun c h => by cases h) rfl rfl rfl (gn_t rfl)) (by kernel_rfl) rfl (bl rfl) ?_
          clear hok
          intro hok
          refine TrAny.prom (i := 25) (d := 56) hok (OpVal.plain rfl rfl (v_pick_f rfl rfl rfl rfl)) (by kernel_rfl) rfl (bl rfl) ?_
          clear hok
          intro hok
          refine TrAny.prom (i := 26) (d := 4) hok (OpVal.plain rfl rfl (v_assign rfl rfl)) (by kernel_rfl) rfl (bl rfl) ?_
          clear hok
          intro hok
          refine TrAny.done (by kernel_rfl) (by kernel_rfl) hok (by kernel_rfl) (qthen_n ?_)
          have hz := Option.some.inj H
          subst hz
          refine Tr.ret (ret_r ⟨[(4, .bool false)], [], [], []⟩ [.bool false] [] [] (Imp.re _ [] [] (sc rfl sn) (by decide) rfl rfl rfl) rfl rfl ⟨rfl, rfl, rfl⟩ (.cons (resv_tmp rfl) .nil))
      · refine TrAny.prom (i := 10) (d := 41) hok (OpVal.no rfl (fun c h => by cases h) rfl rfl rfl (gn_t (bf_b h38))) (by kernel_rfl) rfl (bl rfl) ?_
        clear hok
        intro hok
        refine TrAny.prom (i := 11) (d := 42) hok (OpVal.no rfl (fun c h => by cases h) rfl rfl rfl (gn_t (bf_b h38))) (by kernel_rfl) rfl (bl rfl) ?_
        clear hok
        intro hok
        refine TrAny.prom (i := 12) (d := 43) hok (OpVal.no rfl (fun c h => by cases h) rfl rfl rfl (gn_t (bf_b h38))) (by kernel_rfl) rfl (bl rfl) ?_
        clear hok
        intro hok
        refine TrAny.prom (i := 13) (d := 44) hok (OpVal.no rfl (fun c h => by cases h) rfl rfl rfl (gn_t (bf_b h38))) (by kernel_rfl) rfl (bl rfl) ?_
        clear hok
        intro hok
        refine TrAny.prom (i := 14) (d := 45) hok (OpVal.no rfl (fun c h => by cases h) rfl rfl rfl (gn_t (bf_b h38))) (by kernel_rfl) rfl (bl rfl) ?_
        clear hok
        intro hok
        refine TrAny.prom (i := 15) (d := 46) hok (OpVal.plain rfl rfl (v_pick_f rfl rfl (bf_b h38) rfl)) (by kernel_rfl) rfl (bl rfl) ?_
        clear hok
        intro hok
        refine TrAny.prom (i := 16) (d := 47) hok (OpVal.plain rfl rfl (v_move rfl rfl)) (by kernel_rfl) rfl (bl rfl) ?_
        clear hok
        intro hok
        refine TrAny.prom (i := 17) (d := 48) hok (OpVal.no rfl (fun c h => by cases h) rfl rfl rfl (gn_t rfl)) (by kernel_rfl) rfl (bl rfl) ?_
        clear hok
        intro hok
        refine TrAny.prom (i := 18) (d := 49) hok (OpVal.no rfl (fun c h => by cases h) rfl rfl rfl (gn_t rfl)) (by kernel_rfl) rfl (bl rfl) ?_
        clear hok
        intro hok
        refine TrAny.prom (i := 19) (d := 50) hok (OpVal.no rfl (fun c h => by cases h) rfl rfl rfl (gn_t rfl)) (by kernel_rfl) rfl (bl rfl) ?_
        clear hok
        intro hok
        refine TrAny.prom (i := 20) (d := 51) hok (OpVal.plain rfl rfl (v_pick_f rfl rfl rfl rfl)) (by kernel_rfl) rfl (bl rfl) ?_
        clear hok
        intro hok
        refine TrAny.prom (i := 21) (d := 52) hok (OpVal.plain rfl rfl (v_move rfl rfl)) (by kernel_rfl) rfl (bl rfl) ?_
        clear hok
        intro hok
        refine TrAny.prom (i := 22) (d := 53) hok (OpVal.no rfl (fun c h => by cases h) rfl rfl rfl (gn_t rfl)) (by kernel_rfl) rfl (bl rfl) ?_
        clear hok
        intro hok
        refine TrAny.prom (i := 23) (d := 54) hok (OpVal.no rfl (fun c h => by cases h) rfl rfl rfl (gn_t rfl)) (by kernel_rfl) rfl (bl rfl) ?_
        clear hok
        intro hok
        refine TrAny.prom (i := 24) (d := 55) hok (OpVal.no rfl (fun c h => by cases h) rfl rfl rfl (gn_t rfl)) (by kernel_rfl) rfl (bl rfl) ?_
        clear hok
        intro hok
        refine TrAny.prom (i := 25) (d := 56) hok (OpVal.plain rfl rfl (v_pick_f rfl rfl rfl rfl)) (by kernel_rfl) rfl (bl rfl) ?_
        clear hok
        intro hok
        refine TrAny.prom (i := 26) (d := 4) hok (OpVal.plain rfl rfl (v_assign rfl rfl)) (by kernel_rfl) rfl (bl rfl) ?_
        clear hok
        intro hok
        refine TrAny.done (by kernel_rfl) (by kernel_rfl) hok (by kernel_rfl) (qthen_n ?_)
        have hz := Option.some.inj H
        subst hz
        refine Tr.ret (ret_r ⟨[(4, .bool false)], [], [], []⟩ [.bool false] [] [] (Imp.re _ [] [] (sc rfl sn) (by decide) rfl rfl rfl) rfl rfl ⟨rfl, rfl, rfl⟩ (.cons (resv_tmp rfl) .nil))
    · refine TrAny.prom (i := 5) (d := 36) hok (OpVal.no rfl (fun c h => by cases h) rfl rfl rfl (gn_t (bf_b h37))) (by kernel_rfl) rfl (bl rfl) ?_
      clear hok
      intro hok
      refine TrAny.prom (i := 6) (d := 37) hok (OpVal.no rfl (fun c h => by cases h) rfl rfl rfl (gn_t (bf_b h37))) (by kernel_rfl) rfl (bl rfl) ?_
      clear hok
      intro hok
      refine TrAny.prom (i := 7) (d := 38) hok (OpVal.no rfl (fun c h => by cases h) rfl rfl rfl (gn_t (bf_b h37))) (by kernel_rfl) rfl (bl rfl) ?_
      clear hok
      intro hok
      refine TrAny.prom (i := 8) (d := 39) hok (OpVal.plain rfl rfl (v_pick_f rfl rfl (bf_b h37) rfl)) (by kernel_rfl) rfl (bl rfl) ?_
      clear hok
      intro hok
      refine TrAny.prom (i := 9) (d := 40) hok (OpVal.plain rfl rfl (v_move rfl rfl)) (by kernel_rfl) rfl (bl rfl) ?_
      clear hok
      intro hok
      refine TrAny.prom (i := 10) (d := 41) hok (OpVal.no rfl (fun c h => by cases h) rfl rfl rfl (gn_t rfl)) (by kernel_rfl) rfl (bl rfl) ?_
      clear hok
      intro hok
      refine TrAny.prom (i := 11) (d := 42) hok (OpVal.no rfl (fun c h => by cases h) rfl rfl rfl (gn_t rfl)) (by kernel_rfl) rfl (bl rfl) ?_
      clear hok
      intro hok
      refine TrAny.prom (i := 12) (d := 43) hok (OpVal.no rfl (fun c h => by cases h) rfl rfl rfl (gn_t rfl)) (by kernel_rfl) rfl (bl rfl) ?_
      clear hok
      intro hok
      refine TrAny.prom (i := 13) (d := 44) hok (OpVal.no rfl (fun c h => by cases h) rfl rfl rfl (gn_t rfl)) (by kernel_rfl) rfl (bl rfl) ?_
      clear hok
      intro hok
      refine TrAny.prom (i := 14) (d := 45) hok (OpVal.no rfl (fun c h => by cases h) rfl rfl rfl (gn_t rfl)) (by kernel_rfl) rfl (bl rfl) ?_
      clear hok
      intro hok
      refine TrAny.prom (i := 15) (d := 46) hok (OpVal.plain rfl rfl (v_pick_f rfl rfl rfl rfl)) (by kernel_rfl) rfl (bl rfl) ?_
      clear hok
      intro hok
      refine TrAny.prom (i := 16) (d := 47) hok (OpVal.plain rfl rfl (v_move rfl rfl)) (by kernel_rfl) rfl (bl rfl) ?_
      clear hok
      intro hok
      refine TrAny.prom (i := 17) (d := 48) hok (OpVal.no rfl (fun c h => by cases h) rfl rfl rfl (gn_t rfl)) (by kernel_rfl) rfl (bl rfl) ?_
      clear hok
      intro hok
      refine TrAny.prom (i := 18) (d := 49) hok (OpVal.no rfl (fun c h => by cases h) rfl rfl rfl (gn_t rfl)) (by kernel_rfl) rfl (bl rfl) ?_
      clear hok
      intro hok
      refine TrAny.prom (i := 19) (d := 50) hok (OpVal.no rfl (fun c h => by cases h) rfl rfl rfl (gn_t rfl)) (by kernel_rfl) rfl (bl rfl) ?_
      clear hok
      intro hok
      refine TrAny.prom (i := 20) (d := 51) hok (OpVal.plain rfl rfl (v_pick_f rfl rfl rfl rfl)) (by kernel_rfl) rfl (bl rfl) ?_
      clear hok
      intro hok
      refine TrAny.prom (i := 21) (d := 52) hok (OpVal.plain rfl rfl (v_move rfl rfl)) (by kernel_rfl) rfl (bl rfl) ?_
      clear hok
      intro hok
      refine TrAny.prom (i := 22) (d := 53) hok (OpVal.no rfl (fun c h => by cases h) rfl rfl rfl (gn_t rfl)) (by kernel_rfl) rfl (bl rfl) ?_
      clear hok
      intro hok
      refine TrAny.prom (i := 23) (d := 54) hok (OpVal.no rfl (fun c h => by cases h) rfl rfl rfl (gn_t rfl)) (by kernel_rfl) rfl (bl rfl) ?_
      clear hok
      intro hok
      refine TrAny.prom (i := 24) (d := 55) hok (OpVal.no rfl (fun c h => by cases h) rfl rfl rfl (gn_t rfl)) (by kernel_rfl) rfl (bl rfl) ?_
      clear hok
      intro hok
      refine TrAny.prom (i := 25) (d := 56) hok (OpVal.plain rfl rfl (v_pick_f rfl rfl rfl rfl)) (by kernel_rfl) rfl (bl rfl) ?_
      clear hok
      intro hok
      refine TrAny.prom (i := 26) (d := 4) hok (OpVal.plain rfl rfl (v_assign rfl rfl)) (by kernel_rfl) rfl (bl rfl) ?_
      clear hok
      intro hok
      refine TrAny.done (by kernel_rfl) (by kernel_rfl) hok (by kernel_rfl) (qthen_n ?_)
      have hz := Option.some.inj H
      subst hz
      refine Tr.ret (ret_r ⟨[(4, .bool false)], [], [], []⟩ [.bool false] [] [] (Imp.re _ [] [] (sc rfl sn) (by decide) rfl rfl rfl) rfl rfl ⟨rfl, rfl, rfl⟩ (.cons (resv_tmp rfl) .nil))
  · refine TrAny.prom (i := 2) (d := 33) hok (OpVal.no rfl (fun c h => by cases h) rfl rfl rfl (gn_t (bf_b h36))) (by kernel_rfl) rfl (bl rfl) ?_
    clear hok
    intro hok
    refine TrAny.prom (i := 3) (d := 34) hok (OpVal.plain rfl rfl (v_pick_f rfl rfl (bf_b h36) rfl)) (by kernel_rfl) rfl (bl rfl) ?_
    clear hok
    intro hok
    refine TrAny.prom (i := 4) (d := 35) hok (OpVal.plain rfl rfl (v_move rfl rfl)) (by kernel_rfl) rfl (bl rfl) ?_
    clear hok
    intro hok
    refine TrAny.prom (i := 5) (d := 36) hok (OpVal.no rfl (fun c h => by cases h) rfl rfl rfl (gn_t rfl)) (by kernel_rfl) rfl (bl rfl) ?_
    clear hok
    intro hok
    refine TrAny.prom (i := 6) (d := 37) hok (OpVal.no rfl (fun c h => by cases h) rfl rfl rfl (gn_t rfl)) (by kernel_rfl) rfl (bl rfl) ?_
    clear hok
    intro hok
    refine TrAny.prom (i := 7) (d := 38) hok (OpVal.no rfl (fun c h => by cases h) rfl rfl rfl (gn_t rfl)) (by kernel_rfl) rfl (bl rfl) ?_
    clear hok
    intro hok
    refine TrAny.prom (i := 8) (d := 39) hok (OpVal.plain rfl rfl (v_pick_f rfl rfl rfl rfl)) (by kernel_rfl) rfl (bl rfl) ?_
    clear hok
    intro hok
    refine TrAny.prom (i := 9) (d := 40) hok (OpVal.plain rfl rfl (v_move rfl rfl)) (by kernel_rfl) rfl (bl rfl) ?_
    clear hok
    intro hok
    refine TrAny.prom (i := 10) (d := 41) hok (OpVal.no rfl (fun c h => by cases h) rfl rfl rfl (gn_t rfl)) (by kernel_rfl) rfl (bl rfl) ?_
    clear hok
    intro hok
    refine TrAny.prom (i := 11) (d := 42) hok (OpVal.no rfl (fun c h => by cases h) rfl rfl rfl (gn_t rfl)) (by kernel_rfl) rfl (bl rfl) ?_
    clear hok
    intro hok
    refine TrAny.prom (i := 12) (d := 43) hok (OpVal.no rfl (fun c h => by cases h) rfl rfl rfl (gn_t rfl)) (by kernel_rfl) rfl (bl rfl) ?_
    clear hok
    intro hok
    refine TrAny.prom (i := 13) (d := 44) hok (OpVal.no rfl (fun c h => by cases h) rfl rfl rfl (gn_t rfl)) (by kernel_rfl) rfl (bl rfl) ?_
    clear hok
    intro hok
    refine TrAny.prom (i := 14) (d := 45) hok (OpVal.no rfl (fun c h => by cases h) rfl rfl rfl (gn_t rfl)) (by kernel_rfl) rfl (bl rfl) ?_
    clear hok
    intro hok
    refine TrAny.prom (i := 15) (d := 46) hok (OpVal.plain rfl rfl (v_pick_f rfl rfl rfl rfl)) (by kernel_rfl) rfl (bl rfl) ?_
    clear hok
    intro hok
    refine TrAny.prom (i := 16) (d := 47) hok (OpVal.plain rfl rfl (v_move rfl rfl)) (by kernel_rfl) rfl (bl rfl) ?_
    clear hok
    intro hok
    refine TrAny.prom (i := 17) (d := 48) hok (OpVal.no rfl (fun c h => by cases h) rfl rfl rfl (gn_t rfl)) (by kernel_rfl) rfl (bl rfl) ?_
    clear hok
    intro hok
    refine TrAny.prom (i := 18) (d := 49) hok (OpVal.no rfl (fun c h => by cases h) rfl rfl rfl (gn_t rfl)) (by kernel_rfl) rfl (bl rfl) ?_
    clear hok
    intro hok
    refine TrAny.prom (i := 19) (d := 50) hok (OpVal.no rfl (fun c h => by cases h) rfl rfl rfl (gn_t rfl)) (by kernel_rfl) rfl (bl rfl) ?_
    clear hok
    intro hok
    refine TrAny.prom (i := 20) (d := 51) hok (OpVal.plain rfl rfl (v_pick_f rfl rfl rfl rfl)) (by kernel_rfl) rfl (bl rfl) ?_
    clear hok
    intro hok
    refine TrAny.prom (i := 21) (d := 52) hok (OpVal.plain rfl rfl (v_move rfl rfl)) (by kernel_rfl) rfl (bl rfl) ?_
    clear hok
    intro hok
    refine TrAny.prom (i := 22) (d := 53) hok (OpVal.no rfl (fun c h => by cases h) rfl rfl rfl (gn_t rfl)) (by kernel_rfl) rfl (bl rfl) ?_
    clear hok
    intro hok
    refine TrAny.prom (i := 23) (d := 54) hok (OpVal.no rfl (fun c h => by cases h) rfl rfl rfl (gn_t rfl)) (by kernel_rfl) rfl (bl rfl) ?_
    clear hok
    intro hok
    refine TrAny.prom (i := 24) (d := 55) hok (OpVal.no rfl (fun c h => by cases h) rfl rfl rfl (gn_t rfl)) (by kernel_rfl) rfl (bl rfl) ?_
    clear hok
    intro hok
    refine TrAny.prom (i := 25) (d := 56) hok (OpVal.plain rfl rfl (v_pick_f rfl rfl rfl rfl)) (by kernel_rfl) rfl (bl rfl) ?_
    clear hok
    intro hok
    refine TrAny.prom (i := 26) (d := 4) hok (OpVal.plain rfl rfl (v_assign rfl rfl)) (by kernel_rfl) rfl (bl rfl) ?_
    clear hok
    intro hok
    refine TrAny.done (by kernel_rfl) (by kernel_rfl) hok (by kernel_rfl) (qthen_n ?_)
    have hz := Option.some.inj H
    subst hz
    refine Tr.ret (ret_r ⟨[(4, .bool false)], [], [], []⟩ [.bool false] [] [] (Imp.re _ [] [] (sc rfl sn) (by decide) rfl rfl rfl) rfl rfl ⟨rfl, rfl, rfl⟩ (.cons (resv_tmp rfl) .nil))
end Go.Proofs.Ytbnjjpmlaknaoaa.W
