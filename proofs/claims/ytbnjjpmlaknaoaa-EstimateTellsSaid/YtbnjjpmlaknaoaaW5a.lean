/- The contracts of the walked functions: the printed walks. -/
import Derived.Test.YtbnjjpmlaknaoaaKa
import Derived.Test.YtbnjjpmlaknaoaaQa
import Derived.Test.YtbnjjpmlaknaoaaWestimateaa
import Derived.Test.YtbnjjpmlaknaoaaWlaw08aa
import Derived.Test.YtbnjjpmlaknaoaaWlaw08ba
import Derived.Test.YtbnjjpmlaknaoaaWref06ba
import Derived.Test.YtbnjjpmlaknaoaaWref08aa
namespace Go.Proofs.Ytbnjjpmlaknaoaa.W
open Go Go.Proofs Go.Proofs.Ytbnjjpmlaknaoaa.L Go.Proofs.Ytbnjjpmlaknaoaa.Pu
set_option linter.unusedVariables false
set_option maxHeartbeats 4000000

theorem c_law08_EstimateTells (p1 : Int) (p2 : List (Int × Int)) (p3 : Int × Int) (A1 : Option Addr) (c1 : Nat) (r : Bool) (H : law08_EstimateTells p1 p2 p3 = some r) :
    Ctr Try.prog 5 [.int .i64 p1, .slice A1 p2.length c1, .agg #[.int .u64 p3.1, .int .u64 p3.2]] [] [slF rp_u64_u64 A1 c1 p2] (fun ret M' F' => ret = .bool r ∧ M' = [] ∧ F' = []) := by
  unfold law08_EstimateTells at H
  refine ctr_ofI (N := 63) Try.func5 rfl Try.ntmps5 rfl (Nat.le_of_ble_eq_true rfl) (fun γ0 w0 => ?_)
  refine Tr.seq ?_
  refine Tr.region ?_
  refine TrL.cons rfl (op_box' rfl (bl rfl) rfl rfl rfl (fun b3 => ?_))
  refine TrL.v (v_assign rfl rfl) rfl rfl (bl rfl) ?_
  refine TrL.nil (qthen_n ?_)
  refine Tr.seq ?_
  refine Tr.region ?_
  obtain ⟨r16, hr16, H⟩ := bnd H
  refine TrL.cons rfl (op_call0' (vs := []) (cap := []) [] rfl rfl (bl rfl) rfl rfl en38 (c_law08_awake r16 hr16) rfl (fun ret M' F' hR20 => ?_))
  obtain ⟨rfl, rfl, rfl⟩ := hR20
  refine TrL.v (v_assign rfl rfl) rfl rfl (bl rfl) ?_
  refine TrL.nil (qthen_n ?_)
  refine Tr.seq ?_
  refine Tr.region ?_
  refine TrL.v (v_move rfl rfl) rfl rfl (bl rfl) ?_
  refine TrL.v (v_move rfl rfl) rfl rfl (bl rfl) ?_
  obtain ⟨r17, hr17, H⟩ := bnd H
  refine TrL.cons rfl (op_call0' (vs := [.int .i64 p1, .slice A1 p2.length c1]) (cap := []) [0] rfl rfl (bl rfl) rfl rfl en30 (c_ref06_Made p1 p2 A1 c1 r17 hr17) rfl (fun ret M' F' hR21 => ?_))
  obtain ⟨m21, rfl, rfl, rfl⟩ := hR21
  refine TrL.cons rfl (op_alloc' rfl (bl rfl) rfl ze28 (fun b4 => ?_))
  refine TrL.cons rfl (op_store' (k := 0) (c' := [.int .i64 r17.1, .int .i64 r17.2.1, .slice m21.1 r17.2.2.length m21.2]) rfl rfl rfl rfl rfl ty28 rfl (Nat.le_of_ble_eq_true rfl) (ones (oc rfl (oc rfl (oc rfl on)))) rfl ?_)
  refine TrL.nil (qthen_n ?_)
  refine Tr.seq ?_
  refine Tr.regionD drawn (fun hok => ?_)
  refine TrAny.prom (i := 0) (d := 18) hok (OpVal.plain rfl rfl (v_load (k := 0) rfl rfl rfl ty28 nofun rfl rfl)) (by kernel_rfl) rfl (bl rfl) ?_
  clear hok
  intro hok
  refine TrAny.prom (i := 2) (d := 20) hok (OpVal.plain rfl rfl (v_indexArr rfl ar37 ty23 rfl rfl (by decide) (by decide) rfl)) (by kernel_rfl) rfl (bl rfl) ?_
  clear hok
  intro hok
  refine TrAny.prom (i := 3) (d := 21) hok (OpVal.plain rfl rfl (v_load (k := 1) rfl rfl rfl ty23 (fun _ => rfl) rfl rfl)) (by kernel_rfl) rfl (bl rfl) ?_
  clear hok
  intro hok
  refine TrAny.prom (i := 4) (d := 22) hok (OpVal.plain rfl rfl (v_indexArr rfl ar37 ty23 rfl rfl (by decide) (by decide) rfl)) (by kernel_rfl) rfl (bl rfl) ?_
  clear hok
  intro hok
  refine TrAny.prom (i := 5) (d := 23) hok (OpVal.plain rfl rfl (v_load (k := 1) rfl rfl rfl ty23 (fun _ => rfl) rfl rfl)) (by kernel_rfl) rfl (bl rfl) ?_
  clear hok
  intro hok
  obtain ⟨r20, hr20, H⟩ := bnd H
  refine TrAny.next (j := 1) (by kernel_rfl) hok rfl (by kernel_rfl) (op_call0' (vs := [.agg #[.int .i64 r17.1, .int .i64 r17.2.1, .slice m21.1 r17.2.2.length m21.2]]) (cap := []) [1] rfl rfl (bl rfl) rfl rfl en40 (c_law08_made r17 m21.1 m21.2 r20 hr20) rfl (fun ret M' F' hR24 => ?_))
  obtain ⟨rfl, rfl, rfl⟩ := hR24
  refine nxp hok (kp_imp (kp_c0 rfl)) rfl (by kernel_rfl) ?_
  clear hok
  intro hok
  obtain ⟨r21, hr21, H⟩ := bnd H
  refine TrAny.next (j := 6) (by kernel_rfl) hok rfl (by kernel_rfl) (op_call0' (vs := [.agg #[.int .i64 r17.1, .int .i64 r17.2.1, .slice m21.1 r17.2.2.length m21.2], .int .u64 p3.1, .int .u64 p3.2]) (cap := []) [1] rfl rfl (bl rfl) rfl rfl en39 (c_estimate_Parts r17 p3.1 p3.2 m21.1 m21.2 r21 hr21) rfl (fun ret M' F' hR25 => ?_))
  obtain ⟨rfl, rfl, rfl⟩ := hR25
  refine nxp hok (kp_imp (kp_c0 rfl)) rfl (by kernel_rfl) ?_
  clear hok
  intro hok
  refine TrAny.prom (i := 7) (d := 17) hok (OpVal.plain rfl rfl (v_move rfl rfl)) (by kernel_rfl) rfl (bl rfl) ?_
  clear hok
  intro hok
  refine TrAny.prom (i := 8) (d := 25) hok (OpVal.plain rfl rfl (v_extract rfl rfl rfl)) (by kernel_rfl) rfl (bl rfl) ?_
  clear hok
  intro hok
  refine TrAny.prom (i := 9) (d := 26) hok (OpVal.plain rfl rfl (v_extract rfl rfl rfl)) (by kernel_rfl) rfl (bl rfl) ?_
  clear hok
  intro hok
  refine TrAny.prom (i := 10) (d := 9) hok (OpVal.plain rfl rfl (v_assign rfl rfl)) (by kernel_rfl) rfl (bl rfl) ?_
  clear hok
  intro hok
  refine TrAny.prom (i := 11) (d := 10) hok (OpVal.plain rfl rfl (v_assign rfl rfl)) (by kernel_rfl) rfl (bl rfl) ?_
  clear hok
  intro hok
  refine TrAny.done (by kernel_rfl) (by kernel_rfl) hok (by kernel_rfl) (qthen_n ?_)
  refine Tr.seq ?_
  refine Tr.region ?_
  refine TrL.v (v_load (k := 0) rfl rfl rfl ty28 nofun rfl rfl) rfl rfl (bl rfl) ?_
  refine TrL.v (v_indexArr rfl ar37 ty23 rfl rfl (by decide) (by decide) rfl) rfl rfl (bl rfl) ?_
  refine TrL.v (v_load (k := 1) rfl rfl rfl ty23 (fun _ => rfl) rfl rfl) rfl rfl (bl rfl) ?_
  refine TrL.v (v_indexArr rfl ar37 ty23 rfl rfl (by decide) (by decide) rfl) rfl rfl (bl rfl) ?_
  refine TrL.v (v_load (k := 1) rfl rfl rfl ty23 (fun _ => rfl) rfl rfl) rfl rfl (bl rfl) ?_
  obtain ⟨r22, hr22, H⟩ := bnd H
  refine TrL.cons rfl (op_call0' (vs := [.agg #[.int .i64 r17.1, .int .i64 r17.2.1, .slice m21.1 r17.2.2.length m21.2], .int .u64 p3.1, .int .u64 p3.2]) (cap := []) [1] rfl rfl (bl rfl) rfl rfl en41 (c_ref08_Parts r17 p3.1 p3.2 m21.1 m21.2 r22 hr22) rfl (fun ret M' F' hR26 => ?_))
  obtain ⟨rfl, rfl, rfl⟩ := hR26
  refine TrL.v (v_move rfl rfl) rfl rfl (bl rfl) ?_
  refine TrL.v (v_extract rfl rfl rfl) rfl rfl (bl rfl) ?_
  refine TrL.v (v_extract rfl rfl rfl) rfl rfl (bl rfl) ?_
  refine TrL.v (v_assign rfl rfl) rfl rfl (bl rfl) ?_
  refine TrL.v (v_assign rfl rfl) rfl rfl (bl rfl) ?_
  refine TrL.nil (qthen_n ?_)
  refine Tr.seq ?_
  refine Tr.re ⟨[(0, .int .i64 p1), (1, .slice A1 p2.length c1), (2, .agg #[.int .u64 p3.1, .int .u64 p3.2]), (5, .pointer (some ⟨b3, 0, none⟩)), (7, .bool r16), (8, .pointer (some ⟨b4, 0, none⟩)), (9, .int .u64 r21.1), (10, .int .u64 r21.2), (11, .int .u64 r22.1), (12, .int .u64 r22.2), (13, .bool r16), (14, .int .i64 p1), (15, .slice A1 p2.length c1), (16, .agg #[.int .i64 r17.1, .int .i64 r17.2.1, .slice m21.1 r17.2.2.length m21.2]), (17, .tuple #[.int .u64 r21.1, .int .u64 r21.2]), (18, .agg #[.int .i64 r17.1, .int .i64 r17.2.1, .slice m21.1 r17.2.2.length m21.2]), (19, .agg #[.int .i64 r17.1, .int .i64 r17.2.1, .slice m21.1 r17.2.2.length m21.2]), (20, .pointer (some ⟨b3, 0, none⟩)), (21, .int .u64 p3.1), (22, .pointer (some ⟨b3, 1, none⟩)), (23, .int .u64 p3.2), (24, .tuple #[.int .u64 r21.1, .int .u64 r21.2]), (25, .int .u64 r21.1), (26, .int .u64 r21.2), (27, .tuple #[.int .u64 r22.1, .int .u64 r22.2]), (28, .agg #[.int .i64 r17.1, .int .i64 r17.2.1, .slice m21.1 r17.2.2.length m21.2]), (29, .pointer (some ⟨b3, 0, none⟩)), (30, .int .u64 p3.1), (31, .pointer (some ⟨b3, 1, none⟩)), (32, .int .u64 p3.2), (33, .tuple #[.int .u64 r22.1, .int .u64 r22.2]), (34, .int .u64 r22.1), (35, .int .u64 r22.2)], [cells b4 [.int .i64 r17.1, .int .i64 r17.2.1, .slice m21.1 r17.2.2.length m21.2] 28, cells b3 [.int .u64 p3.1, .int .u64 p3.2] 37], [slF rp_u64_u64 A1 c1 p2, slF (rSl rp_u64_u64) m21.1 m21.2 r17.2.2, slF (rSl rp_u64_u64) m21.1 m21.2 r17.2.2], []⟩ [0, 1] [0, 1, 2] (sc rfl (sc rfl (sc rfl (sc rfl (sc rfl (sc rfl (sc rfl (sc rfl (sc rfl (sc rfl (sc rfl (sc rfl (sc rfl (sc rfl (sc rfl (sc rfl (sc rfl (sc rfl (sc rfl (sc rfl (sc rfl (sc rfl (sc rfl (sc rfl (sc rfl (sc rfl (sc rfl (sc rfl (sc rfl (sc rfl (sc rfl (sc rfl (sc rfl sn))))))))))))))))))))))))))))))))) (by decide) rfl rfl rfl ?_
  refine Tr.regionD drawn (fun hok => ?_)
  refine TrAny.prom (i := 0) (d := 36) hok (OpVal.plain rfl rfl (v_move rfl rfl)) (by kernel_rfl) rfl (bl rfl) ?_
  clear hok
  intro hok
  refine TrAny.prom (i := 1) (d := 37) hok (OpVal.plain rfl rfl (v_move rfl rfl)) (by kernel_rfl) rfl (bl rfl) ?_
  clear hok
  intro hok
  rcases ifc H with ⟨h22, H⟩ | ⟨h22, H⟩
  · refine TrAny.prom (i := 2) (d := 38) hok (OpVal.yes rfl rfl rfl rfl h22 (v_move rfl rfl)) (by kernel_rfl) rfl (bl rfl) ?_
    clear hok
    intro hok
    refine TrAny.prom (i := 3) (d := 39) hok (OpVal.yes rfl rfl rfl rfl h22 (v_move rfl rfl)) (by kernel_rfl) rfl (bl rfl) ?_
    clear hok
    intro hok
    refine TrAny.prom (i := 4) (d := 40) hok (OpVal.yes rfl rfl rfl rfl h22 (v_arith rfl rfl rfl ar_eql)) (by kernel_rfl) rfl (bl rfl) ?_
    clear hok
    intro hok
    refine TrAny.prom (i := 5) (d := 41) hok (OpVal.plain rfl rfl (v_pick_t rfl rfl h22 rfl)) (by kernel_rfl) rfl (bl rfl) ?_
    clear hok
    intro hok
    refine TrAny.prom (i := 6) (d := 42) hok (OpVal.plain rfl rfl (v_move rfl rfl)) (by kernel_rfl) rfl (bl rfl) ?_
    clear hok
    intro hok
    rcases ifc H with ⟨h23, H⟩ | ⟨h23, H⟩
    · refine TrAny.prom (i := 7) (d := 43) hok (OpVal.yes rfl rfl rfl rfl (bt_dec h23) (v_move rfl rfl)) (by kernel_rfl) rfl (bl rfl) ?_
      clear hok
      intro hok
      refine TrAny.prom (i := 8) (d := 44) hok (OpVal.yes rfl rfl rfl rfl (bt_dec h23) (v_move rfl rfl)) (by kernel_rfl) rfl (bl rfl) ?_
      clear hok
      intro hok
      refine TrAny.prom (i := 9) (d := 45) hok (OpVal.yes rfl rfl rfl rfl (bt_dec h23) (v_arith rfl rfl rfl ar_eql)) (by kernel_rfl) rfl (bl rfl) ?_
      clear hok
      intro hok
      refine TrAny.prom (i := 10) (d := 46) hok (OpVal.plain rfl rfl (v_pick_t rfl rfl (bt_dec h23) rfl)) (by kernel_rfl) rfl (bl rfl) ?_
      clear hok
      intro hok
      refine TrAny.prom (i := 11) (d := 47) hok (OpVal.plain rfl rfl (v_move rfl rfl)) (by kernel_rfl) rfl (bl rfl) ?_
      clear hok
      intro hok
      rcases ifc H with ⟨h24, H⟩ | ⟨h24, H⟩
      · refine TrAny.prom (i := 12) (d := 48) hok (OpVal.yes rfl rfl rfl rfl (bt_dec h24) (v_load (k := 0) rfl rfl rfl ty28 nofun rfl rfl)) (by kernel_rfl) rfl (bl rfl) ?_
        clear hok
        intro hok
        refine TrAny.prom (i := 14) (d := 50) hok (OpVal.yes rfl rfl rfl rfl (bt_dec h24) (v_indexArr rfl ar37 ty23 rfl rfl (by decide) (by decide) rfl)) (by kernel_rfl) rfl (bl rfl) ?_
        clear hok
        intro hok
        refine TrAny.prom (i := 15) (d := 51) hok (OpVal.yes rfl rfl rfl rfl (bt_dec h24) (v_load (k := 1) rfl rfl rfl ty23 (fun _ => rfl) rfl rfl)) (by kernel_rfl) rfl (bl rfl) ?_
        clear hok
        intro hok
        refine TrAny.prom (i := 16) (d := 52) hok (OpVal.yes rfl rfl rfl rfl (bt_dec h24) (v_indexArr rfl ar37 ty23 rfl rfl (by decide) (by decide) rfl)) (by kernel_rfl) rfl (bl rfl) ?_
        clear hok
        intro hok
        refine TrAny.prom (i := 17) (d := 53) hok (OpVal.yes rfl rfl rfl rfl (bt_dec h24) (v_load (k := 1) rfl rfl rfl ty23 (fun _ => rfl) rfl rfl)) (by kernel_rfl) rfl (bl rfl) ?_
        clear hok
        intro hok
        refine TrAny.prom (i := 19) (d := 55) hok (OpVal.yes rfl rfl rfl rfl (bt_dec h24) (v_load (k := 0) rfl rfl rfl ty28 nofun rfl rfl)) (by kernel_rfl) rfl (bl rfl) ?_
        clear hok
        intro hok
        refine TrAny.prom (i := 20) (d := 56) hok (OpVal.yes rfl rfl rfl rfl (bt_dec h24) (v_indexArr rfl ar37 ty23 rfl rfl (by decide) (by decide) rfl)) (by kernel_rfl) rfl (bl rfl) ?_
        clear hok
        intro hok
        refine TrAny.prom (i := 21) (d := 57) hok (OpVal.yes rfl rfl rfl rfl (bt_dec h24) (v_load (k := 1) rfl rfl rfl ty23 (fun _ => rfl) rfl rfl)) (by kernel_rfl) rfl (bl rfl) ?_
        clear hok
        intro hok
        refine TrAny.prom (i := 22) (d := 58) hok (OpVal.yes rfl rfl rfl rfl (bt_dec h24) (v_indexArr rfl ar37 ty23 rfl rfl (by decide) (by decide) rfl)) (by kernel_rfl) rfl (bl rfl) ?_
        clear hok
        intro hok
        refine TrAny.prom (i := 23) (d := 59) hok (OpVal.yes rfl rfl rfl rfl (bt_dec h24) (v_load (k := 1) rfl rfl rfl ty23 (fun _ => rfl) rfl rfl)) (by kernel_rfl) rfl (bl rfl) ?_
        clear hok
        intro hok
        refine TrAny.nextY (j := 13) (by kernel_rfl) hok rfl (by kernel_rfl) rfl rfl rfl (bt_dec h24) (op_call0' (vs := [.agg #[.int .i64 r17.1, .int .i64 r17.2.1, .slice m21.1 r17.2.2.length m21.2]]) (cap := []) [1] rfl rfl (bl rfl) rfl rfl en40 (c_law08_made r17 m21.1 m21.2 r20 hr20) rfl (fun ret M' F' hR36 => ?_))
        obtain ⟨rfl, rfl, rfl⟩ := hR36
        refine nxp hok (kp_imp (kp_c0 rfl)) rfl (by kernel_rfl) ?_
        clear hok
        intro hok
        obtain ⟨r29, hr29, H⟩ := bnd H
        refine TrAny.nextY (j := 18) (by kernel_rfl) hok rfl (by kernel_rfl) rfl rfl rfl (bt_dec h24) (op_call0' (vs := [.agg #[.int .i64 r17.1, .int .i64 r17.2.1, .slice m21.1 r17.2.2.length m21.2], .int .u64 p3.1, .int .u64 p3.2]) (cap := []) [1] rfl rfl (bl rfl) rfl rfl en42 (c_estimate_Of r17 p3.1 p3.2 m21.1 m21.2 r29 hr29) rfl (fun ret M' F' hR37 => ?_))
        obtain ⟨rfl, rfl, rfl⟩ := hR37
        refine nxp hok (kp_imp (kp_c0 rfl)) rfl (by kernel_rfl) ?_
        clear hok
        intro hok
        obtain ⟨r30, hr30, H⟩ := bnd H
        refine TrAny.nextY (j := 24) (by kernel_rfl) hok rfl (by kernel_rfl) rfl rfl rfl (bt_dec h24) (op_call0' (vs := [.agg #[.int .i64 r17.1, .int .i64 r17.2.1, .slice m21.1 r17.2.2.length m21.2], .int .u64 p3.1, .int .u64 p3.2]) (cap := []) [1] rfl rfl (bl rfl) rfl rfl en43 (c_ref08_Of r17 p3.1 p3.2 m21.1 m21.2 r30 hr30) rfl (fun ret M' F' hR38 => ?_))
        obtain ⟨rfl, rfl, rfl⟩ := hR38
        refine nxp hok (kp_imp (kp_c0 rfl)) rfl (by kernel_rfl) ?_
        clear hok
        intro hok
        refine TrAny.prom (i := 25) (d := 61) hok (OpVal.yes rfl rfl rfl rfl (bt_dec h24) (v_arith rfl rfl rfl ar_eql)) (by kernel_rfl) rfl (bl rfl) ?_
        clear hok
        intro hok
        refine TrAny.prom (i := 26) (d := 62) hok (OpVal.plain rfl rfl (v_pick_t rfl rfl (bt_dec h24) rfl)) (by kernel_rfl) rfl (bl rfl) ?_
        clear hok
        intro hok
        refine TrAny.prom (i := 27) (d := 6) hok (OpVal.plain rfl rfl (v_assign rfl rfl)) (by kernel_rfl) rfl (bl rfl) ?_
        clear hok
        intro hok
        refine TrAny.done (by kernel_rfl) (by kernel_rfl) hok (by kernel_rfl) (qthen_n ?_)
        have hz := Option.some.inj H
        subst hz
        refine Tr.ret (ret_r ⟨[(6, .bool (decide (r29 = r30)))], [], [], []⟩ [.bool (decide (r29 = r30))] [] [] (Imp.re _ [] [] (sc rfl sn) (by decide) rfl rfl rfl) rfl rfl ⟨rfl, rfl, rfl⟩ (.cons (resv_tmp rfl) .nil))
      · refine TrAny.prom (i := 12) (d := 48) hok (OpVal.no rfl (fun c h => by cases h) rfl rfl rfl (gn_t (bf_dec h24))) (by kernel_rfl) rfl (bl rfl) ?_
        clear hok
        intro hok
        refine TrAny.prom (i := 13) (d := 49) hok (OpVal.no rfl (fun c h => by cases h) rfl rfl rfl (gn_t (bf_dec h24))) (by kernel_rfl) rfl (bl rfl) ?_
        clear hok
        intro hok
        refine TrAny.prom (i := 14) (d := 50) hok (OpVal.no rfl (fun c h => by cases h) rfl rfl rfl (gn_t (bf_dec h24))) (by kernel_rfl) rfl (bl rfl) ?_
        clear hok
        intro hok
        refine TrAny.prom (i := 15) (d := 51) hok (OpVal.no rfl (fun c h => by cases h) rfl rfl rfl (gn_t (bf_dec h24))) (by kernel_rfl) rfl (bl rfl) ?_
        clear hok
        intro hok
        refine TrAny.prom (i := 16) (d := 52) hok (OpVal.no rfl (fun c h => by cases h) rfl rfl rfl (gn_t (bf_dec h24))) (by kernel_rfl) rfl (bl rfl) ?_
        clear hok
        intro hok
        refine TrAny.prom (i := 17) (d := 53) hok (OpVal.no rfl (fun c h => by cases h) rfl rfl rfl (gn_t (bf_dec h24))) (by kernel_rfl) rfl (bl rfl) ?_
        clear hok
        intro hok
        refine TrAny.prom (i := 18) (d := 54) hok (OpVal.no rfl (fun c h => by cases h) rfl rfl rfl (gn_t (bf_dec h24))) (by kernel_rfl) rfl (bl rfl) ?_
        clear hok
        intro hok
        refine TrAny.prom (i := 19) (d := 55) hok (OpVal.no rfl (fun c h => by cases h) rfl rfl rfl (gn_t (bf_dec h24))) (by kernel_rfl) rfl (bl rfl) ?_
        clear hok
        intro hok
        refine TrAny.prom (i := 20) (d := 56) hok (OpVal.no rfl (fun c h => by cases h) rfl rfl rfl (gn_t (bf_dec h24))) (by kernel_rfl) rfl (bl rfl) ?_
        clear hok
        intro hok
        refine TrAny.prom (i := 21) (d := 57) hok (OpVal.no rfl (fun c h => by cases h) rfl rfl rfl (gn_t (bf_dec h24))) (by kernel_rfl) rfl (bl rfl) ?_
        clear hok
        intro hok
        refine TrAny.prom (i := 22) (d := 58) hok (OpVal.no rfl (fun c h => by cases h) rfl rfl rfl (gn_t (bf_dec h24))) (by kernel_rfl) rfl (bl rfl) ?_
        clear hok
        intro hok
        refine TrAny.prom (i := 23) (d := 59) hok (OpVal.no rfl (fun c h => by cases h) rfl rfl rfl (gn_t (bf_dec h24))) (by kernel_rfl) rfl (bl rfl) ?_
        clear hok
        intro hok
        refine TrAny.prom (i := 24) (d := 60) hok (OpVal.no rfl (fun c h => by cases h) rfl rfl rfl (gn_t (bf_dec h24))) (by kernel_rfl) rfl (bl rfl) ?_
        clear hok
        intro hok
        refine TrAny.prom (i := 25) (d := 61) hok (OpVal.no rfl (fun c h => by cases h) rfl rfl rfl (gn_t (bf_dec h24))) (by kernel_rfl) rfl (bl rfl) ?_
        clear hok
        intro hok
        refine TrAny.prom (i := 26) (d := 62) hok (OpVal.plain rfl rfl (v_pick_f rfl rfl (bf_dec h24) rfl)) (by kernel_rfl) rfl (bl rfl) ?_
        clear hok
        intro hok
        refine TrAny.prom (i := 27) (d := 6) hok (OpVal.plain rfl rfl (v_assign rfl rfl)) (by kernel_rfl) rfl (bl rfl) ?_
        clear hok
        intro hok
        refine TrAny.done (by kernel_rfl) (by kernel_rfl) hok (by kernel_rfl) (qthen_n ?_)
        have hz := Option.some.inj H
        subst hz
        refine Tr.ret (ret_r ⟨[(6, .bool false)], [], [], []⟩ [.bool false] [] [] (Imp.re _ [] [] (sc rfl sn) (by decide) rfl rfl rfl) rfl rfl ⟨rfl, rfl, rfl⟩ (.cons (resv_tmp rfl) .nil))
    · refine TrAny.prom (i := 7) (d := 43) hok (OpVal.no rfl (fun c h => by cases h) rfl rfl rfl (gn_t (bf_dec h23))) (by kernel_rfl) rfl (bl rfl) ?_
      clear hok
      intro hok
      refine TrAny.prom (i := 8) (d := 44) hok (OpVal.no rfl (fun c h => by cases h) rfl rfl rfl (gn_t (bf_dec h23))) (by kernel_rfl) rfl (bl rfl) ?_
      clear hok
      intro hok
      refine TrAny.prom (i := 9) (d := 45) hok (OpVal.no rfl (fun c h => by cases h) rfl rfl rfl (gn_t (bf_dec h23))) (by kernel_rfl) rfl (bl rfl) ?_
      clear hok
      intro hok
      refine TrAny.prom (i := 10) (d := 46) hok (OpVal.plain rfl rfl (v_pick_f rfl rfl (bf_dec h23) rfl)) (by kernel_rfl) rfl (bl rfl) ?_
      clear hok
      intro hok
      refine TrAny.prom (i := 11) (d := 47) hok (OpVal.plain rfl rfl (v_move rfl rfl)) (by kernel_rfl) rfl (bl rfl) ?_
      clear hok
      intro hok
      refine TrAny.prom (i := 12) (d := 48) hok (OpVal.no rfl (fun c h => by cases h) rfl rfl rfl (gn_t rfl)) (by kernel_rfl) rfl (bl rfl) ?_
      clear hok
      intro hok
      refine TrAny.prom (i := 13) (d := 49) hok (OpVal.no rfl (fun c h => by cases h) rfl rfl rfl (gn_t rfl)) (by kernel_rfl) rfl (bl rfl) ?_
      clear hok
      intro hok
      refine TrAny.prom (i := 14) (d := 50) hok (OpVal.no rfl (fun c h => by cases h) rfl rfl rfl (gn_t rfl)) (by kernel_rfl) rfl (bl rfl) ?_
      clear hok
      intro hok
      refine TrAny.prom (i := 15) (d := 51) hok (OpVal.no rfl (fun c h => by cases h) rfl rfl rfl (gn_t rfl)) (by kernel_rfl) rfl (bl rfl) ?_
      clear hok
      intro hok
      refine TrAny.prom (i := 16) (d := 52) hok (OpVal.no rfl (fun c h => by cases h) rfl rfl rfl (gn_t rfl)) (by kernel_rfl) rfl (bl rfl) ?_
      clear hok
      intro hok
      refine TrAny.prom (i := 17) (d := 53) hok (OpVal.no rfl (fun c h => by cases h) rfl rfl rfl (gn_t rfl)) (by kernel_rfl) rfl (bl rfl) ?_
      clear hok
      intro hok
      refine TrAny.prom (i := 18) (d := 54) hok (OpVal.no rfl (fun c h => by cases h) rfl rfl rfl (gn_t rfl)) (by kernel_rfl) rfl (bl rfl) ?_
      clear hok
      intro hok
      refine TrAny.prom (i := 19) (d := 55) hok (OpVal.no rfl (fun c h => by cases h) rfl rfl rfl (gn_t rfl)) (by kernel_rfl) rfl (bl rfl) ?_
      clear hok
      intro hok
      refine TrAny.prom (i := 20) (d := 56) hok (OpVal.no rfl (fun c h => by cases h) rfl rfl rfl (gn_t rfl)) (by kernel_rfl) rfl (bl rfl) ?_
      clear hok
      intro hok
      refine TrAny.prom (i := 21) (d := 57) hok (OpVal.no rfl (fun c h => by cases h) rfl rfl rfl (gn_t rfl)) (by kernel_rfl) rfl (bl rfl) ?_
      clear hok
      intro hok
      refine TrAny.prom (i := 22) (d := 58) hok (OpVal.no rfl (fun c h => by cases h) rfl rfl rfl (gn_t rfl)) (by kernel_rfl) rfl (bl rfl) ?_
      clear hok
      intro hok
      refine TrAny.prom (i := 23) (d := 59) hok (OpVal.no rfl (fun c h => by cases h) rfl rfl rfl (gn_t rfl)) (by kernel_rfl) rfl (bl rfl) ?_
      clear hok
      intro hok
      refine TrAny.prom (i := 24) (d := 60) hok (OpVal.no rfl (fun c h => by cases h) rfl rfl rfl (gn_t rfl)) (by kernel_rfl) rfl (bl rfl) ?_
      clear hok
      intro hok
      refine TrAny.prom (i := 25) (d := 61) hok (OpVal.no rfl (fun c h => by cases h) rfl rfl rfl (gn_t rfl)) (by kernel_rfl) rfl (bl rfl) ?_
      clear hok
      intro hok
      refine TrAny.prom (i := 26) (d := 62) hok (OpVal.plain rfl rfl (v_pick_f rfl rfl rfl rfl)) (by kernel_rfl) rfl (bl rfl) ?_
      clear hok
      intro hok
      refine TrAny.prom (i := 27) (d := 6) hok (OpVal.plain rfl rfl (v_assign rfl rfl)) (by kernel_rfl) rfl (bl rfl) ?_
      clear hok
      intro hok
      refine TrAny.done (by kernel_rfl) (by kernel_rfl) hok (by kernel_rfl) (qthen_n ?_)
      have hz := Option.some.inj H
      subst hz
      refine Tr.ret (ret_r ⟨[(6, .bool false)], [], [], []⟩ [.bool false] [] [] (Imp.re _ [] [] (sc rfl sn) (by decide) rfl rfl rfl) rfl rfl ⟨rfl, rfl, rfl⟩ (.cons (resv_tmp rfl) .nil))
  · refine TrAny.prom (i := 2) (d := 38) hok (OpVal.no rfl (fun c h => by cases h) rfl rfl rfl (gn_t (bf_b h22))) (by kernel_rfl) rfl (bl rfl) ?_
    clear hok
    intro hok
    refine TrAny.prom (i := 3) (d := 39) hok (OpVal.no rfl (fun c h => by cases h) rfl rfl rfl (gn_t (bf_b h22))) (by kernel_rfl) rfl (bl rfl) ?_
    clear hok
    intro hok
    refine TrAny.prom (i := 4) (d := 40) hok (OpVal.no rfl (fun c h => by cases h) rfl rfl rfl (gn_t (bf_b h22))) (by kernel_rfl) rfl (bl rfl) ?_
    clear hok
    intro hok
    refine TrAny.prom (i := 5) (d := 41) hok (OpVal.plain rfl rfl (v_pick_f rfl rfl (bf_b h22) rfl)) (by kernel_rfl) rfl (bl rfl) ?_
    clear hok
    intro hok
    refine TrAny.prom (i := 6) (d := 42) hok (OpVal.plain rfl rfl (v_move rfl rfl)) (by kernel_rfl) rfl (bl rfl) ?_
    clear hok
    intro hok
    refine TrAny.prom (i := 7) (d := 43) hok (OpVal.no rfl (fun c h => by cases h) rfl rfl rfl (gn_t rfl)) (by kernel_rfl) rfl (bl rfl) ?_
    clear hok
    intro hok
    refine TrAny.prom (i := 8) (d := 44) hok (OpVal.no rfl (fun c h => by cases h) rfl rfl rfl (gn_t rfl)) (by kernel_rfl) rfl (bl rfl) ?_
    clear hok
    intro hok
    refine TrAny.prom (i := 9) (d := 45) hok (OpVal.no rfl (fun c h => by cases h) rfl rfl rfl (gn_t rfl)) (by kernel_rfl) rfl (bl rfl) ?_
    clear hok
    intro hok
    refine TrAny.prom (i := 10) (d := 46) hok (OpVal.plain rfl rfl (v_pick_f rfl rfl rfl rfl)) (by kernel_rfl) rfl (bl rfl) ?_
    clear hok
    intro hok
    refine TrAny.prom (i := 11) (d := 47) hok (OpVal.plain rfl rfl (v_move rfl rfl)) (by kernel_rfl) rfl (bl rfl) ?_
    clear hok
    intro hok
    refine TrAny.prom (i := 12) (d := 48) hok (OpVal.no rfl (fun c h => by cases h) rfl rfl rfl (gn_t rfl)) (by kernel_rfl) rfl (bl rfl) ?_
    clear hok
    intro hok
    refine TrAny.prom (i := 13) (d := 49) hok (OpVal.no rfl (fun c h => by cases h) rfl rfl rfl (gn_t rfl)) (by kernel_rfl) rfl (bl rfl) ?_
    clear hok
    intro hok
    refine TrAny.prom (i := 14) (d := 50) hok (OpVal.no rfl (fun c h => by cases h) rfl rfl rfl (gn_t rfl)) (by kernel_rfl) rfl (bl rfl) ?_
    clear hok
    intro hok
    refine TrAny.prom (i := 15) (d := 51) hok (OpVal.no rfl (fun c h => by cases h) rfl rfl rfl (gn_t rfl)) (by kernel_rfl) rfl (bl rfl) ?_
    clear hok
    intro hok
    refine TrAny.prom (i := 16) (d := 52) hok (OpVal.no rfl (fun c h => by cases h) rfl rfl rfl (gn_t rfl)) (by kernel_rfl) rfl (bl rfl) ?_
    clear hok
    intro hok
    refine TrAny.prom (i := 17) (d := 53) hok (OpVal.no rfl (fun c h => by cases h) rfl rfl rfl (gn_t rfl)) (by kernel_rfl) rfl (bl rfl) ?_
    clear hok
    intro hok
    refine TrAny.prom (i := 18) (d := 54) hok (OpVal.no rfl (fun c h => by cases h) rfl rfl rfl (gn_t rfl)) (by kernel_rfl) rfl (bl rfl) ?_
    clear hok
    intro hok
    refine TrAny.prom (i := 19) (d := 55) hok (OpVal.no rfl (fun c h => by cases h) rfl rfl rfl (gn_t rfl)) (by kernel_rfl) rfl (bl rfl) ?_
    clear hok
    intro hok
    refine TrAny.prom (i := 20) (d := 56) hok (OpVal.no rfl (fun c h => by cases h) rfl rfl rfl (gn_t rfl)) (by kernel_rfl) rfl (bl rfl) ?_
    clear hok
    intro hok
    refine TrAny.prom (i := 21) (d := 57) hok (OpVal.no rfl (fun c h => by cases h) rfl rfl rfl (gn_t rfl)) (by kernel_rfl) rfl (bl rfl) ?_
    clear hok
    intro hok
    refine TrAny.prom (i := 22) (d := 58) hok (OpVal.no rfl (fun c h => by cases h) rfl rfl rfl (gn_t rfl)) (by kernel_rfl) rfl (bl rfl) ?_
    clear hok
    intro hok
    refine TrAny.prom (i := 23) (d := 59) hok (OpVal.no rfl (fun c h => by cases h) rfl rfl rfl (gn_t rfl)) (by kernel_rfl) rfl (bl rfl) ?_
    clear hok
    intro hok
    refine TrAny.prom (i := 24) (d := 60) hok (OpVal.no rfl (fun c h => by cases h) rfl rfl rfl (gn_t rfl)) (by kernel_rfl) rfl (bl rfl) ?_
    clear hok
    intro hok
    refine TrAny.prom (i := 25) (d := 61) hok (OpVal.no rfl (fun c h => by cases h) rfl rfl rfl (gn_t rfl)) (by kernel_rfl) rfl (bl rfl) ?_
    clear hok
    intro hok
    refine TrAny.prom (i := 26) (d := 62) hok (OpVal.plain rfl rfl (v_pick_f rfl rfl rfl rfl)) (by kernel_rfl) rfl (bl rfl) ?_
    clear hok
    intro hok
    refine TrAny.prom (i := 27) (d := 6) hok (OpVal.plain rfl rfl (v_assign rfl rfl)) (by kernel_rfl) rfl (bl rfl) ?_
    clear hok
    intro hok
    refine TrAny.done (by kernel_rfl) (by kernel_rfl) hok (by kernel_rfl) (qthen_n ?_)
    have hz := Option.some.inj H
    subst hz
    refine Tr.ret (ret_r ⟨[(6, .bool false)], [], [], []⟩ [.bool false] [] [] (Imp.re _ [] [] (sc rfl sn) (by decide) rfl rfl rfl) rfl rfl ⟨rfl, rfl, rfl⟩ (.cons (resv_tmp rfl) .nil))
end Go.Proofs.Ytbnjjpmlaknaoaa.W
