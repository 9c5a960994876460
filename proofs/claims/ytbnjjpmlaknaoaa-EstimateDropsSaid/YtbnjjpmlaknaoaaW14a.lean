/- The contracts of the walked functions: the printed walks. -/
import Derived.Test.YtbnjjpmlaknaoaaKa
import Derived.Test.YtbnjjpmlaknaoaaQa
import Derived.Test.YtbnjjpmlaknaoaaWestimateaa
import Derived.Test.YtbnjjpmlaknaoaaWexpiryaa
import Derived.Test.YtbnjjpmlaknaoaaWlaw08aa
import Derived.Test.YtbnjjpmlaknaoaaWlaw08ba
import Derived.Test.YtbnjjpmlaknaoaaWref06ba
namespace Go.Proofs.Ytbnjjpmlaknaoaa.W
open Go Go.Proofs Go.Proofs.Ytbnjjpmlaknaoaa.L Go.Proofs.Ytbnjjpmlaknaoaa.Pu
set_option linter.unusedVariables false
set_option maxHeartbeats 4000000

theorem c_law08_EstimateDrops (p1 : Int) (p2 : List (Int × Int)) (p3 : Int × Int × Int × Int) (A1 : Option Addr) (c1 : Nat) (r : Bool) (H : law08_EstimateDrops p1 p2 p3 = some r) :
    Ctr Try.prog 14 [.int .i64 p1, .slice A1 p2.length c1, .agg #[.int .u64 p3.1, .int .u64 p3.2.1, .int .u64 p3.2.2.1, .int .u64 p3.2.2.2]] [] [slF rp_u64_u64 A1 c1 p2] (fun ret M' F' => ret = .bool r ∧ M' = [] ∧ F' = []) := by
  unfold law08_EstimateDrops at H
  refine ctr_ofI (N := 50) Try.func14 rfl Try.ntmps14 rfl (Nat.le_of_ble_eq_true rfl) (fun γ0 w0 => ?_)
  refine Tr.seq ?_
  refine Tr.region ?_
  refine TrL.cons rfl (op_box' rfl (bl rfl) rfl rfl rfl (fun b3 => ?_))
  refine TrL.v (v_assign rfl rfl) rfl rfl (bl rfl) ?_
  refine TrL.nil (qthen_n ?_)
  refine Tr.seq ?_
  refine Tr.region ?_
  obtain ⟨r16, hr16, H⟩ := bnd H
  refine TrL.cons rfl (op_call0' (vs := []) (cap := []) [] rfl rfl (bl rfl) rfl rfl en38 (c_law08_awake r16 hr16) rfl (fun ret M' F' hR16 => ?_))
  obtain ⟨rfl, rfl, rfl⟩ := hR16
  refine TrL.v (v_assign rfl rfl) rfl rfl (bl rfl) ?_
  refine TrL.nil (qthen_n ?_)
  refine Tr.seq ?_
  refine Tr.region ?_
  refine TrL.v (v_move rfl rfl) rfl rfl (bl rfl) ?_
  refine TrL.v (v_move rfl rfl) rfl rfl (bl rfl) ?_
  obtain ⟨r17, hr17, H⟩ := bnd H
  refine TrL.cons rfl (op_call0' (vs := [.int .i64 p1, .slice A1 p2.length c1]) (cap := []) [0] rfl rfl (bl rfl) rfl rfl en30 (c_ref06_Made p1 p2 A1 c1 r17 hr17) rfl (fun ret M' F' hR17 => ?_))
  obtain ⟨m17, rfl, rfl, rfl⟩ := hR17
  obtain ⟨r18, hr18, H⟩ := bnd H
  refine TrL.cons rfl (op_call0' (vs := [.agg #[.int .i64 r17.1, .int .i64 r17.2.1, .slice m17.1 r17.2.2.length m17.2]]) (cap := []) [1] rfl rfl (bl rfl) rfl rfl en40 (c_law08_made r17 m17.1 m17.2 r18 hr18) rfl (fun ret M' F' hR18 => ?_))
  obtain ⟨rfl, rfl, rfl⟩ := hR18
  refine TrL.cons rfl (op_alloc' rfl (bl rfl) rfl ze31 (fun b4 => ?_))
  refine TrL.cons rfl (op_store' (k := 0) (c' := [.int .i64 r17.1, .int .i64 r17.2.1, .slice m17.1 r17.2.2.length m17.2]) rfl rfl rfl rfl rfl ty31 rfl (Nat.le_of_ble_eq_true rfl) (ones (oc rfl (oc rfl (oc rfl on)))) rfl ?_)
  refine TrL.nil (qthen_n ?_)
  refine Tr.seq ?_
  refine Tr.region ?_
  refine TrL.v (v_indexArr rfl ar49 ty23 rfl rfl (by decide) (by decide) rfl) rfl rfl (bl rfl) ?_
  refine TrL.v (v_load (k := 1) rfl rfl rfl ty23 (fun _ => rfl) rfl rfl) rfl rfl (bl rfl) ?_
  refine TrL.v (v_rem rfl rfl rfl (by decide)) rfl rfl (bl rfl) ?_
  refine TrL.v (v_assign rfl rfl) rfl rfl (bl rfl) ?_
  refine TrL.nil (qthen_n ?_)
  refine Tr.seq ?_
  refine Tr.region ?_
  refine TrL.v (v_indexArr rfl ar49 ty23 rfl rfl (by decide) (by decide) rfl) rfl rfl (bl rfl) ?_
  refine TrL.v (v_load (k := 1) rfl rfl rfl ty23 (fun _ => rfl) rfl rfl) rfl rfl (bl rfl) ?_
  refine TrL.v (v_rem rfl rfl rfl (by decide)) rfl rfl (bl rfl) ?_
  refine TrL.v (v_arith rfl rfl rfl ar_add_u64) rfl rfl (bl rfl) ?_
  refine TrL.v (v_assign rfl rfl) rfl rfl (bl rfl) ?_
  refine TrL.nil (qthen_n ?_)
  refine Tr.seq ?_
  refine Tr.region ?_
  refine TrL.v (v_move rfl rfl) rfl rfl (bl rfl) ?_
  refine TrL.v (v_indexArr rfl ar49 ty23 rfl rfl (by decide) (by decide) rfl) rfl rfl (bl rfl) ?_
  refine TrL.v (v_load (k := 1) rfl rfl rfl ty23 (fun _ => rfl) rfl rfl) rfl rfl (bl rfl) ?_
  refine TrL.v (v_rem rfl rfl rfl (by decide)) rfl rfl (bl rfl) ?_
  refine TrL.v (v_arith rfl rfl rfl ar_add_u64) rfl rfl (bl rfl) ?_
  refine TrL.v (v_assign rfl rfl) rfl rfl (bl rfl) ?_
  refine TrL.nil (qthen_n ?_)
  refine Tr.seq ?_
  refine Tr.region ?_
  refine TrL.v (v_indexArr rfl ar49 ty23 rfl rfl (by decide) (by decide) rfl) rfl rfl (bl rfl) ?_
  refine TrL.v (v_load (k := 1) rfl rfl rfl ty23 (fun _ => rfl) rfl rfl) rfl rfl (bl rfl) ?_
  refine TrL.v (v_move rfl rfl) rfl rfl (bl rfl) ?_
  obtain ⟨h6, H⟩ := mst H
  refine TrL.v (v_rem rfl rfl rfl h6) rfl rfl (bl rfl) ?_
  refine TrL.v (v_arith rfl rfl rfl ar_add_u64) rfl rfl (bl rfl) ?_
  refine TrL.v (v_assign rfl rfl) rfl rfl (bl rfl) ?_
  refine TrL.nil (qthen_n ?_)
  refine Tr.seq ?_
  refine Tr.re ⟨[(0, .int .i64 p1), (1, .slice A1 p2.length c1), (2, .agg #[.int .u64 p3.1, .int .u64 p3.2.1, .int .u64 p3.2.2.1, .int .u64 p3.2.2.2]), (5, .pointer (some ⟨b3, 0, none⟩)), (7, .bool r16), (8, .pointer (some ⟨b4, 0, none⟩)), (9, .int .u64 (p3.1.tmod 100000)), (10, .int .u64 (wu64 (1 + (p3.2.1.tmod 100000)))), (11, .int .u64 (wu64 ((p3.1.tmod 100000) + (p3.2.2.1.tmod 100000)))), (12, .int .u64 (wu64 (1 + (p3.2.2.2.tmod (wu64 (1 + (p3.2.1.tmod 100000))))))), (13, .bool r16), (14, .int .i64 p1), (15, .slice A1 p2.length c1), (16, .agg #[.int .i64 r17.1, .int .i64 r17.2.1, .slice m17.1 r17.2.2.length m17.2]), (17, .agg #[.int .i64 r17.1, .int .i64 r17.2.1, .slice m17.1 r17.2.2.length m17.2]), (18, .pointer (some ⟨b3, 0, none⟩)), (19, .int .u64 p3.1), (20, .int .u64 (p3.1.tmod 100000)), (21, .pointer (some ⟨b3, 1, none⟩)), (22, .int .u64 p3.2.1), (23, .int .u64 (p3.2.1.tmod 100000)), (24, .int .u64 (wu64 (1 + (p3.2.1.tmod 100000)))), (25, .int .u64 (p3.1.tmod 100000)), (26, .pointer (some ⟨b3, 2, none⟩)), (27, .int .u64 p3.2.2.1), (28, .int .u64 (p3.2.2.1.tmod 100000)), (29, .int .u64 (wu64 ((p3.1.tmod 100000) + (p3.2.2.1.tmod 100000)))), (30, .pointer (some ⟨b3, 3, none⟩)), (31, .int .u64 p3.2.2.2), (32, .int .u64 (wu64 (1 + (p3.2.1.tmod 100000)))), (33, .int .u64 (p3.2.2.2.tmod (wu64 (1 + (p3.2.1.tmod 100000))))), (34, .int .u64 (wu64 (1 + (p3.2.2.2.tmod (wu64 (1 + (p3.2.1.tmod 100000)))))))], [cells b4 [.int .i64 r17.1, .int .i64 r17.2.1, .slice m17.1 r17.2.2.length m17.2] 31, cells b3 [.int .u64 p3.1, .int .u64 p3.2.1, .int .u64 p3.2.2.1, .int .u64 p3.2.2.2] 49], [slF rp_u64_u64 A1 c1 p2, slF (rSl rp_u64_u64) m17.1 m17.2 r17.2.2, slF (rSl rp_u64_u64) m17.1 m17.2 r17.2.2], []⟩ [0, 1] [0, 1, 2] (sc rfl (sc rfl (sc rfl (sc rfl (sc rfl (sc rfl (sc rfl (sc rfl (sc rfl (sc rfl (sc rfl (sc rfl (sc rfl (sc rfl (sc rfl (sc rfl (sc rfl (sc rfl (sc rfl (sc rfl (sc rfl (sc rfl (sc rfl (sc rfl (sc rfl (sc rfl (sc rfl (sc rfl (sc rfl (sc rfl (sc rfl (sc rfl sn)))))))))))))))))))))))))))))))) (by decide) rfl rfl rfl ?_
  refine Tr.regionD drawn (fun hok => ?_)
  refine TrAny.prom (i := 0) (d := 35) hok (OpVal.plain rfl rfl (v_move rfl rfl)) (by kernel_rfl) rfl (bl rfl) ?_
  clear hok
  intro hok
  refine TrAny.prom (i := 1) (d := 36) hok (OpVal.plain rfl rfl (v_move rfl rfl)) (by kernel_rfl) rfl (bl rfl) ?_
  clear hok
  intro hok
  rcases ifc H with ⟨h10, H⟩ | ⟨h10, H⟩
  · refine TrAny.prom (i := 2) (d := 37) hok (OpVal.yes rfl rfl rfl rfl h10 (v_load (k := 0) rfl rfl rfl ty31 nofun rfl rfl)) (by kernel_rfl) rfl (bl rfl) ?_
    clear hok
    intro hok
    refine TrAny.prom (i := 3) (d := 38) hok (OpVal.yes rfl rfl rfl rfl h10 (v_move rfl rfl)) (by kernel_rfl) rfl (bl rfl) ?_
    clear hok
    intro hok
    refine TrAny.prom (i := 4) (d := 39) hok (OpVal.yes rfl rfl rfl rfl h10 (v_move rfl rfl)) (by kernel_rfl) rfl (bl rfl) ?_
    clear hok
    intro hok
    refine TrAny.prom (i := 6) (d := 41) hok (OpVal.yes rfl rfl rfl rfl h10 (v_move rfl rfl)) (by kernel_rfl) rfl (bl rfl) ?_
    clear hok
    intro hok
    refine TrAny.prom (i := 7) (d := 42) hok (OpVal.yes rfl rfl rfl rfl h10 (v_move rfl rfl)) (by kernel_rfl) rfl (bl rfl) ?_
    clear hok
    intro hok
    refine TrAny.prom (i := 9) (d := 44) hok (OpVal.yes rfl rfl rfl rfl h10 (v_load (k := 0) rfl rfl rfl ty31 nofun rfl rfl)) (by kernel_rfl) rfl (bl rfl) ?_
    clear hok
    intro hok
    refine TrAny.prom (i := 10) (d := 45) hok (OpVal.yes rfl rfl rfl rfl h10 (v_move rfl rfl)) (by kernel_rfl) rfl (bl rfl) ?_
    clear hok
    intro hok
    refine TrAny.prom (i := 11) (d := 46) hok (OpVal.yes rfl rfl rfl rfl h10 (v_move rfl rfl)) (by kernel_rfl) rfl (bl rfl) ?_
    clear hok
    intro hok
    obtain ⟨r28, hr28, H⟩ := bnd H
    refine TrAny.nextY (j := 5) (by kernel_rfl) hok rfl (by kernel_rfl) rfl rfl rfl h10 (op_call0' (vs := [.agg #[.int .i64 r17.1, .int .i64 r17.2.1, .slice m17.1 r17.2.2.length m17.2], .int .u64 (p3.1.tmod 100000), .int .u64 (wu64 (1 + (p3.2.1.tmod 100000)))]) (cap := []) [1] rfl rfl (bl rfl) rfl rfl en32 (c_expiry_Drop r17 (p3.1.tmod 100000) (wu64 (1 + (p3.2.1.tmod 100000))) m17.1 m17.2 r28 hr28) rfl (fun ret M' F' hR28 => ?_))
    obtain ⟨m28, rfl, rfl, rfl⟩ := hR28
    refine nxp hok (kp_imp (kp_c0 rfl)) rfl (by kernel_rfl) ?_
    clear hok
    intro hok
    obtain ⟨r29, hr29, H⟩ := bnd H
    refine TrAny.nextY (j := 8) (by kernel_rfl) hok rfl (by kernel_rfl) rfl rfl rfl h10 (op_call0' (vs := [.agg #[.int .i64 r17.1, .int .i64 r17.2.1, .slice m28.1 r28.length m28.2], .int .u64 (wu64 ((p3.1.tmod 100000) + (p3.2.2.1.tmod 100000))), .int .u64 (wu64 (1 + (p3.2.2.2.tmod (wu64 (1 + (p3.2.1.tmod 100000))))))]) (cap := []) [3] rfl rfl (bl rfl) rfl rfl en42 (c_estimate_Of ((r17.1, r17.2.1, r28)) (wu64 ((p3.1.tmod 100000) + (p3.2.2.1.tmod 100000))) (wu64 (1 + (p3.2.2.2.tmod (wu64 (1 + (p3.2.1.tmod 100000)))))) m28.1 m28.2 r29 hr29) rfl (fun ret M' F' hR29 => ?_))
    obtain ⟨rfl, rfl, rfl⟩ := hR29
    refine nxp hok (kp_imp (kp_c0 rfl)) rfl (by kernel_rfl) ?_
    clear hok
    intro hok
    obtain ⟨r30, hr30, H⟩ := bnd H
    refine TrAny.nextY (j := 12) (by kernel_rfl) hok rfl (by kernel_rfl) rfl rfl rfl h10 (op_call0' (vs := [.agg #[.int .i64 r17.1, .int .i64 r17.2.1, .slice m17.1 r17.2.2.length m17.2], .int .u64 (wu64 ((p3.1.tmod 100000) + (p3.2.2.1.tmod 100000))), .int .u64 (wu64 (1 + (p3.2.2.2.tmod (wu64 (1 + (p3.2.1.tmod 100000))))))]) (cap := []) [1] rfl rfl (bl rfl) rfl rfl en42 (c_estimate_Of r17 (wu64 ((p3.1.tmod 100000) + (p3.2.2.1.tmod 100000))) (wu64 (1 + (p3.2.2.2.tmod (wu64 (1 + (p3.2.1.tmod 100000)))))) m17.1 m17.2 r30 hr30) rfl (fun ret M' F' hR30 => ?_))
    obtain ⟨rfl, rfl, rfl⟩ := hR30
    refine nxp hok (kp_imp (kp_c0 rfl)) rfl (by kernel_rfl) ?_
    clear hok
    intro hok
    refine TrAny.prom (i := 13) (d := 48) hok (OpVal.yes rfl rfl rfl rfl h10 (v_arith rfl rfl rfl ar_eql)) (by kernel_rfl) rfl (bl rfl) ?_
    clear hok
    intro hok
    refine TrAny.prom (i := 14) (d := 49) hok (OpVal.plain rfl rfl (v_pick_t rfl rfl h10 rfl)) (by kernel_rfl) rfl (bl rfl) ?_
    clear hok
    intro hok
    refine TrAny.prom (i := 15) (d := 6) hok (OpVal.plain rfl rfl (v_assign rfl rfl)) (by kernel_rfl) rfl (bl rfl) ?_
    clear hok
    intro hok
    refine TrAny.done (by kernel_rfl) (by kernel_rfl) hok (by kernel_rfl) (qthen_n ?_)
    have hz := Option.some.inj H
    subst hz
    refine Tr.ret (ret_r ⟨[(6, .bool (decide (r29 = r30)))], [], [], []⟩ [.bool (decide (r29 = r30))] [] [] (Imp.re _ [] [] (sc rfl sn) (by decide) rfl rfl rfl) rfl rfl ⟨rfl, rfl, rfl⟩ (.cons (resv_tmp rfl) .nil))
  · refine TrAny.prom (i := 2) (d := 37) hok (OpVal.no rfl (fun c h => by cases h) rfl rfl rfl (gn_t (bf_b h10))) (by kernel_rfl) rfl (bl rfl) ?_
    clear hok
    intro hok
    refine TrAny.prom (i := 3) (d := 38) hok (OpVal.no rfl (fun c h => by cases h) rfl rfl rfl (gn_t (bf_b h10))) (by kernel_rfl) rfl (bl rfl) ?_
    clear hok
    intro hok
    refine TrAny.prom (i := 4) (d := 39) hok (OpVal.no rfl (fun c h => by cases h) rfl rfl rfl (gn_t (bf_b h10))) (by kernel_rfl) rfl (bl rfl) ?_
    clear hok
    intro hok
    refine TrAny.prom (i := 5) (d := 40) hok (OpVal.no rfl (fun c h => by cases h) rfl rfl rfl (gn_t (bf_b h10))) (by kernel_rfl) rfl (bl rfl) ?_
    clear hok
    intro hok
    refine TrAny.prom (i := 6) (d := 41) hok (OpVal.no rfl (fun c h => by cases h) rfl rfl rfl (gn_t (bf_b h10))) (by kernel_rfl) rfl (bl rfl) ?_
    clear hok
    intro hok
    refine TrAny.prom (i := 7) (d := 42) hok (OpVal.no rfl (fun c h => by cases h) rfl rfl rfl (gn_t (bf_b h10))) (by kernel_rfl) rfl (bl rfl) ?_
    clear hok
    intro hok
    refine TrAny.prom (i := 8) (d := 43) hok (OpVal.no rfl (fun c h => by cases h) rfl rfl rfl (gn_t (bf_b h10))) (by kernel_rfl) rfl (bl rfl) ?_
    clear hok
    intro hok
    refine TrAny.prom (i := 9) (d := 44) hok (OpVal.no rfl (fun c h => by cases h) rfl rfl rfl (gn_t (bf_b h10))) (by kernel_rfl) rfl (bl rfl) ?_
    clear hok
    intro hok
    refine TrAny.prom (i := 10) (d := 45) hok (OpVal.no rfl (fun c h => by cases h) rfl rfl rfl (gn_t (bf_b h10))) (by kernel_rfl) rfl (bl rfl) ?_
    clear hok
    intro hok
    refine TrAny.prom (i := 11) (d := 46) hok (OpVal.no rfl (fun c h => by cases h) rfl rfl rfl (gn_t (bf_b h10))) (by kernel_rfl) rfl (bl rfl) ?_
    clear hok
    intro hok
    refine TrAny.prom (i := 12) (d := 47) hok (OpVal.no rfl (fun c h => by cases h) rfl rfl rfl (gn_t (bf_b h10))) (by kernel_rfl) rfl (bl rfl) ?_
    clear hok
    intro hok
    refine TrAny.prom (i := 13) (d := 48) hok (OpVal.no rfl (fun c h => by cases h) rfl rfl rfl (gn_t (bf_b h10))) (by kernel_rfl) rfl (bl rfl) ?_
    clear hok
    intro hok
    refine TrAny.prom (i := 14) (d := 49) hok (OpVal.plain rfl rfl (v_pick_f rfl rfl (bf_b h10) rfl)) (by kernel_rfl) rfl (bl rfl) ?_
    clear hok
    intro hok
    refine TrAny.prom (i := 15) (d := 6) hok (OpVal.plain rfl rfl (v_assign rfl rfl)) (by kernel_rfl) rfl (bl rfl) ?_
    clear hok
    intro hok
    refine TrAny.done (by kernel_rfl) (by kernel_rfl) hok (by kernel_rfl) (qthen_n ?_)
    have hz := Option.some.inj H
    subst hz
    refine Tr.ret (ret_r ⟨[(6, .bool false)], [], [], []⟩ [.bool false] [] [] (Imp.re _ [] [] (sc rfl sn) (by decide) rfl rfl rfl) rfl rfl ⟨rfl, rfl, rfl⟩ (.cons (resv_tmp rfl) .nil))
end Go.Proofs.Ytbnjjpmlaknaoaa.W
