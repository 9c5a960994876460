/- The contracts of the walked functions: the printed walks. -/
import Derived.Test.YtbnjjpmlaknaoaaKa
import Derived.Test.YtbnjjpmlaknaoaaQa
import Derived.Test.YtbnjjpmlaknaoaaWhistba
import Derived.Test.YtbnjjpmlaknaoaaWlaw06aa
import Derived.Test.YtbnjjpmlaknaoaaWlaw06ba
import Derived.Test.YtbnjjpmlaknaoaaWref06ba
namespace Go.Proofs.Ytbnjjpmlaknaoaa.W
open Go Go.Proofs Go.Proofs.Ytbnjjpmlaknaoaa.L Go.Proofs.Ytbnjjpmlaknaoaa.Pu
set_option linter.unusedVariables false
set_option maxHeartbeats 4000000

theorem c_law06_HistSame (p1 : Int × Int) (p2 : List (Int × Int)) (p3 : List (Int × Int)) (A1 : Option Addr) (c1 : Nat) (A2 : Option Addr) (c2 : Nat) (r : Bool) (H : law06_HistSame p1 p2 p3 = some r) :
    Ctr Try.prog 28 [.agg #[.int .i64 p1.1, .int .i64 p1.2], .slice A1 p2.length c1, .slice A2 p3.length c2] [] [slF rp_u64_u64 A1 c1 p2, slF rp_u64_u64 A2 c2 p3] (fun ret M' F' => ret = .bool r ∧ M' = [] ∧ F' = []) := by
  unfold law06_HistSame at H
  refine ctr_ofI (N := 52) Try.func28 rfl Try.ntmps28 rfl (Nat.le_of_ble_eq_true rfl) (fun γ0 w0 => ?_)
  refine Tr.seq ?_
  refine Tr.region ?_
  refine TrL.cons rfl (op_box' rfl (bl rfl) rfl rfl rfl (fun b5 => ?_))
  refine TrL.v (v_assign rfl rfl) rfl rfl (bl rfl) ?_
  refine TrL.nil (qthen_n ?_)
  refine Tr.seq ?_
  refine Tr.region ?_
  obtain ⟨r32, hr32, H⟩ := bnd H
  refine TrL.cons rfl (op_call0' (vs := []) (cap := []) [] rfl rfl (bl rfl) rfl rfl en70 (c_law06_awake r32 hr32) rfl (fun ret M' F' hR44 => ?_))
  obtain ⟨rfl, rfl, rfl⟩ := hR44
  refine TrL.v (v_assign rfl rfl) rfl rfl (bl rfl) ?_
  refine TrL.nil (qthen_n ?_)
  refine Tr.seq ?_
  refine Tr.region ?_
  refine TrL.v (v_indexArr rfl ar68 ty3 rfl rfl (by decide) (by decide) rfl) rfl rfl (bl rfl) ?_
  refine TrL.v (v_load (k := 0) rfl rfl rfl ty3 (fun _ => rfl) rfl rfl) rfl rfl (bl rfl) ?_
  refine TrL.v (v_move rfl rfl) rfl rfl (bl rfl) ?_
  obtain ⟨r33, hr33, H⟩ := bnd H
  refine TrL.cons rfl (op_call0' (vs := [.int .i64 p1.1, .slice A1 p2.length c1]) (cap := []) [0] rfl rfl (bl rfl) rfl rfl en30 (c_ref06_Made p1.1 p2 A1 c1 r33 hr33) rfl (fun ret M' F' hR45 => ?_))
  obtain ⟨m45, rfl, rfl, rfl⟩ := hR45
  refine TrL.cons rfl (op_alloc' rfl (bl rfl) rfl ze28 (fun b6 => ?_))
  refine TrL.cons rfl (op_store' (k := 0) (c' := [.int .i64 r33.1, .int .i64 r33.2.1, .slice m45.1 r33.2.2.length m45.2]) rfl rfl rfl rfl rfl ty28 rfl (Nat.le_of_ble_eq_true rfl) (ones (oc rfl (oc rfl (oc rfl on)))) rfl ?_)
  refine TrL.nil (qthen_n ?_)
  refine Tr.seq ?_
  refine Tr.region ?_
  refine TrL.v (v_indexArr rfl ar68 ty3 rfl rfl (by decide) (by decide) rfl) rfl rfl (bl rfl) ?_
  refine TrL.v (v_load (k := 1) rfl rfl rfl ty3 (fun _ => rfl) rfl rfl) rfl rfl (bl rfl) ?_
  refine TrL.v (v_move rfl rfl) rfl rfl (bl rfl) ?_
  obtain ⟨r34, hr34, H⟩ := bnd H
  refine TrL.cons rfl (op_call0' (vs := [.int .i64 p1.2, .slice A2 p3.length c2]) (cap := []) [1] rfl rfl (bl rfl) rfl rfl en30 (c_ref06_Made p1.2 p3 A2 c2 r34 hr34) rfl (fun ret M' F' hR46 => ?_))
  obtain ⟨m46, rfl, rfl, rfl⟩ := hR46
  refine TrL.cons rfl (op_alloc' rfl (bl rfl) rfl ze28 (fun b7 => ?_))
  refine TrL.cons rfl (op_store' (k := 0) (c' := [.int .i64 r34.1, .int .i64 r34.2.1, .slice m46.1 r34.2.2.length m46.2]) rfl rfl rfl rfl rfl ty28 rfl (Nat.le_of_ble_eq_true rfl) (ones (oc rfl (oc rfl (oc rfl on)))) rfl ?_)
  refine TrL.nil (qthen_n ?_)
  refine Tr.seq ?_
  refine Tr.region ?_
  refine TrL.v (v_load (k := 1) rfl rfl rfl ty28 nofun rfl rfl) rfl rfl (bl rfl) ?_
  refine TrL.cons rfl (op_alloc' rfl (bl rfl) rfl ze28 (fun b8 => ?_))
  refine TrL.cons rfl (op_store' (k := 0) (c' := [.int .i64 r33.1, .int .i64 r33.2.1, .slice m45.1 r33.2.2.length m45.2]) rfl rfl rfl rfl rfl ty28 rfl (Nat.le_of_ble_eq_true rfl) (ones (oc rfl (oc rfl (oc rfl on)))) rfl ?_)
  refine TrL.nil (qthen_n ?_)
  refine Tr.seq ?_
  refine Tr.region ?_
  refine TrL.v (v_fieldAddr' rfl fo28_1 rfl rfl) rfl rfl (bl rfl) ?_
  refine TrL.v (v_load (k := 2) rfl rfl rfl ty3 (fun _ => rfl) rfl rfl) rfl rfl (bl rfl) ?_
  refine TrL.v (v_arith rfl rfl rfl ar_add_i64) rfl rfl (bl rfl) ?_
  refine TrL.v (v_fieldAddr' rfl fo28_1 rfl rfl) rfl rfl (bl rfl) ?_
  refine TrL.cons rfl (op_store' (k := 0) (c' := [.int .i64 r33.1, .int .i64 (wi64 (r33.2.1 + 1)), .slice m45.1 r33.2.2.length m45.2]) rfl rfl rfl rfl rfl ty3 rfl (Nat.le_of_ble_eq_true rfl) (ones (oc rfl on)) rfl ?_)
  refine TrL.nil (qthen_n ?_)
  refine Tr.seq ?_
  refine Tr.re ⟨[(0, .agg #[.int .i64 p1.1, .int .i64 p1.2]), (1, .slice A1 p2.length c1), (2, .slice A2 p3.length c2), (3, .pointer (some ⟨b5, 0, none⟩)), (7, .bool r32), (8, .pointer (some ⟨b6, 0, none⟩)), (9, .pointer (some ⟨b7, 0, none⟩)), (10, .pointer (some ⟨b8, 0, none⟩)), (11, .bool r32), (12, .pointer (some ⟨b5, 0, none⟩)), (13, .int .i64 p1.1), (14, .slice A1 p2.length c1), (15, .agg #[.int .i64 r33.1, .int .i64 r33.2.1, .slice m45.1 r33.2.2.length m45.2]), (16, .pointer (some ⟨b5, 1, none⟩)), (17, .int .i64 p1.2), (18, .slice A2 p3.length c2), (19, .agg #[.int .i64 r34.1, .int .i64 r34.2.1, .slice m46.1 r34.2.2.length m46.2]), (20, .agg #[.int .i64 r33.1, .int .i64 r33.2.1, .slice m45.1 r33.2.2.length m45.2]), (21, .pointer (some ⟨b6, 1, none⟩)), (22, .int .i64 r33.2.1), (23, .int .i64 (wi64 (r33.2.1 + 1))), (24, .pointer (some ⟨b8, 1, none⟩))], [cells b8 [.int .i64 r33.1, .int .i64 (wi64 (r33.2.1 + 1)), .slice m45.1 r33.2.2.length m45.2] 28, cells b7 [.int .i64 r34.1, .int .i64 r34.2.1, .slice m46.1 r34.2.2.length m46.2] 28, cells b6 [.int .i64 r33.1, .int .i64 r33.2.1, .slice m45.1 r33.2.2.length m45.2] 28, cells b5 [.int .i64 p1.1, .int .i64 p1.2] 68], [slF rp_u64_u64 A1 c1 p2, slF rp_u64_u64 A2 c2 p3, slF (rSl rp_u64_u64) m45.1 m45.2 r33.2.2, slF (rSl rp_u64_u64) m46.1 m46.2 r34.2.2], []⟩ [0, 1, 2, 3] [0, 1, 2, 3] (sc rfl (sc rfl (sc rfl (sc rfl (sc rfl (sc rfl (sc rfl (sc rfl (sc rfl (sc rfl (sc rfl (sc rfl (sc rfl (sc rfl (sc rfl (sc rfl (sc rfl (sc rfl (sc rfl (sc rfl (sc rfl (sc rfl sn)))))))))))))))))))))) (by decide) rfl rfl rfl ?_
  refine Tr.regionD drawn (fun hok => ?_)
  refine TrAny.prom (i := 0) (d := 25) hok (OpVal.plain rfl rfl (v_move rfl rfl)) (by kernel_rfl) rfl (bl rfl) ?_
  clear hok
  intro hok
  refine TrAny.prom (i := 1) (d := 26) hok (OpVal.plain rfl rfl (v_move rfl rfl)) (by kernel_rfl) rfl (bl rfl) ?_
  clear hok
  intro hok
  rcases ifc H with ⟨h22, H⟩ | ⟨h22, H⟩
  · refine TrAny.prom (i := 2) (d := 27) hok (OpVal.yes rfl rfl rfl rfl h22 (v_load (k := 2) rfl rfl rfl ty28 nofun rfl rfl)) (by kernel_rfl) rfl (bl rfl) ?_
    clear hok
    intro hok
    refine TrAny.prom (i := 4) (d := 29) hok (OpVal.yes rfl rfl rfl rfl h22 (v_load (k := 1) rfl rfl rfl ty28 nofun rfl rfl)) (by kernel_rfl) rfl (bl rfl) ?_
    clear hok
    intro hok
    refine TrAny.prom (i := 7) (d := 32) hok (OpVal.yes rfl rfl rfl rfl h22 (v_load (k := 2) rfl rfl rfl ty28 nofun rfl rfl)) (by kernel_rfl) rfl (bl rfl) ?_
    clear hok
    intro hok
    refine TrAny.prom (i := 8) (d := 33) hok (OpVal.yes rfl rfl rfl rfl h22 (v_load (k := 1) rfl rfl rfl ty28 nofun rfl rfl)) (by kernel_rfl) rfl (bl rfl) ?_
    clear hok
    intro hok
    obtain ⟨r56, hr56, H⟩ := bnd H
    refine TrAny.nextY (j := 3) (by kernel_rfl) hok rfl (by kernel_rfl) rfl rfl rfl h22 (op_call0' (vs := [.agg #[.int .i64 r33.1, .int .i64 r33.2.1, .slice m45.1 r33.2.2.length m45.2]]) (cap := []) [2] rfl rfl (bl rfl) rfl rfl en78 (c_law06_made r33 m45.1 m45.2 r56 hr56) rfl (fun ret M' F' hR77 => ?_))
    obtain ⟨rfl, rfl, rfl⟩ := hR77
    refine nxp hok (kp_imp (kp_c0 rfl)) rfl (by kernel_rfl) ?_
    clear hok
    intro hok
    obtain ⟨r57, hr57, H⟩ := bnd H
    refine TrAny.nextY (j := 5) (by kernel_rfl) hok rfl (by kernel_rfl) rfl rfl rfl h22 (op_call0' (vs := [.agg #[.int .i64 r34.1, .int .i64 r34.2.1, .slice m46.1 r34.2.2.length m46.2]]) (cap := []) [3] rfl rfl (bl rfl) rfl rfl en78 (c_law06_made r34 m46.1 m46.2 r57 hr57) rfl (fun ret M' F' hR78 => ?_))
    obtain ⟨rfl, rfl, rfl⟩ := hR78
    refine nxp hok (kp_imp (kp_c0 rfl)) rfl (by kernel_rfl) ?_
    clear hok
    intro hok
    obtain ⟨r58, hr58, H⟩ := bnd H
    refine TrAny.nextY (j := 6) (by kernel_rfl) hok rfl (by kernel_rfl) rfl rfl rfl h22 (op_call0' (vs := [.agg #[.int .i64 r33.1, .int .i64 r33.2.1, .slice m45.1 r33.2.2.length m45.2], .agg #[.int .i64 r34.1, .int .i64 r34.2.1, .slice m46.1 r34.2.2.length m46.2]]) (cap := []) [2, 3] rfl rfl (bl rfl) rfl rfl en56 (c_hist_Same r33 r34 m45.1 m45.2 m46.1 m46.2 r58 hr58) rfl (fun ret M' F' hR79 => ?_))
    obtain ⟨rfl, rfl, rfl⟩ := hR79
    refine nxp hok (kp_imp (kp_c0 rfl)) rfl (by kernel_rfl) ?_
    clear hok
    intro hok
    obtain ⟨r59, hr59, H⟩ := bnd H
    refine TrAny.nextY (j := 9) (by kernel_rfl) hok rfl (by kernel_rfl) rfl rfl rfl h22 (op_call0' (vs := [.agg #[.int .i64 r33.1, .int .i64 r33.2.1, .slice m45.1 r33.2.2.length m45.2], .agg #[.int .i64 r34.1, .int .i64 r34.2.1, .slice m46.1 r34.2.2.length m46.2]]) (cap := []) [2, 3] rfl rfl (bl rfl) rfl rfl en79 (c_ref06_Same r33 r34 m45.1 m45.2 m46.1 m46.2 r59 hr59) rfl (fun ret M' F' hR80 => ?_))
    obtain ⟨rfl, rfl, rfl⟩ := hR80
    refine nxp hok (kp_imp (kp_c0 rfl)) rfl (by kernel_rfl) ?_
    clear hok
    intro hok
    refine TrAny.prom (i := 10) (d := 35) hok (OpVal.yes rfl rfl rfl rfl h22 (v_eqd rfl Try.underlying4 rfl rfl)) (by kernel_rfl) rfl (bl rfl) ?_
    clear hok
    intro hok
    refine TrAny.prom (i := 11) (d := 36) hok (OpVal.plain rfl rfl (v_pick_t rfl rfl h22 rfl)) (by kernel_rfl) rfl (bl rfl) ?_
    clear hok
    intro hok
    refine TrAny.prom (i := 12) (d := 37) hok (OpVal.plain rfl rfl (v_move rfl rfl)) (by kernel_rfl) rfl (bl rfl) ?_
    clear hok
    intro hok
    rcases ifc H with ⟨h23, H⟩ | ⟨h23, H⟩
    · refine TrAny.prom (i := 13) (d := 38) hok (OpVal.yes rfl rfl rfl rfl (bt_dec h23) (v_load (k := 2) rfl rfl rfl ty28 nofun rfl rfl)) (by kernel_rfl) rfl (bl rfl) ?_
      clear hok
      intro hok
      refine TrAny.prom (i := 15) (d := 40) hok (OpVal.yes rfl rfl rfl rfl (bt_dec h23) (v_load (k := 0) rfl rfl rfl ty28 nofun rfl rfl)) (by kernel_rfl) rfl (bl rfl) ?_
      clear hok
      intro hok
      refine TrAny.nextY (j := 14) (by kernel_rfl) hok rfl (by kernel_rfl) rfl rfl rfl (bt_dec h23) (op_call0' (vs := [.agg #[.int .i64 r33.1, .int .i64 r33.2.1, .slice m45.1 r33.2.2.length m45.2]]) (cap := []) [2] rfl rfl (bl rfl) rfl rfl en78 (c_law06_made r33 m45.1 m45.2 r56 hr56) rfl (fun ret M' F' hR81 => ?_))
      obtain ⟨rfl, rfl, rfl⟩ := hR81
      refine nxp hok (kp_imp (kp_c0 rfl)) rfl (by kernel_rfl) ?_
      clear hok
      intro hok
      obtain ⟨r60, hr60, H⟩ := bnd H
      refine TrAny.nextY (j := 16) (by kernel_rfl) hok rfl (by kernel_rfl) rfl rfl rfl (bt_dec h23) (op_call0' (vs := [.agg #[.int .i64 r33.1, .int .i64 (wi64 (r33.2.1 + 1)), .slice m45.1 r33.2.2.length m45.2]]) (cap := []) [2] rfl rfl (bl rfl) rfl rfl en78 (c_law06_made ((r33.1, wi64 (r33.2.1 + 1), r33.2.2)) m45.1 m45.2 r60 hr60) rfl (fun ret M' F' hR82 => ?_))
      obtain ⟨rfl, rfl, rfl⟩ := hR82
      refine nxp hok (kp_imp (kp_c0 rfl)) rfl (by kernel_rfl) ?_
      clear hok
      intro hok
      obtain ⟨r61, hr61, H⟩ := bnd H
      refine TrAny.nextY (j := 17) (by kernel_rfl) hok rfl (by kernel_rfl) rfl rfl rfl (bt_dec h23) (op_call0' (vs := [.agg #[.int .i64 r33.1, .int .i64 r33.2.1, .slice m45.1 r33.2.2.length m45.2], .agg #[.int .i64 (((r33.1, wi64 (r33.2.1 + 1), r33.2.2)).1), .int .i64 (((r33.1, wi64 (r33.2.1 + 1), r33.2.2)).2.1), .slice m45.1 ((((r33.1, wi64 (r33.2.1 + 1), r33.2.2)).2.2).length) m45.2]]) (cap := []) [2, 7] rfl rfl (bl rfl) rfl rfl en56 (c_hist_Same r33 (((r33.1, wi64 (r33.2.1 + 1), r33.2.2))) m45.1 m45.2 m45.1 m45.2 r61 hr61) rfl (fun ret M' F' hR83 => ?_))
      obtain ⟨rfl, rfl, rfl⟩ := hR83
      refine nxp hok (kp_imp (kp_c0 rfl)) rfl (by kernel_rfl) ?_
      clear hok
      intro hok
      refine TrAny.prom (i := 18) (d := 43) hok (OpVal.yes rfl rfl rfl rfl (bt_dec h23) (v_notd rfl (bdec rfl))) (by kernel_rfl) rfl (bl rfl) ?_
      clear hok
      intro hok
      refine TrAny.prom (i := 19) (d := 44) hok (OpVal.plain rfl rfl (v_pick_t rfl rfl (bt_dec h23) rfl)) (by kernel_rfl) rfl (bl rfl) ?_
      clear hok
      intro hok
      refine TrAny.prom (i := 20) (d := 45) hok (OpVal.plain rfl rfl (v_move rfl rfl)) (by kernel_rfl) rfl (bl rfl) ?_
      clear hok
      intro hok
      rcases ifc H with ⟨h24, H⟩ | ⟨h24, H⟩
      · refine TrAny.prom (i := 21) (d := 46) hok (OpVal.yes rfl rfl rfl rfl (bt_dec h24) (v_load (k := 0) rfl rfl rfl ty28 nofun rfl rfl)) (by kernel_rfl) rfl (bl rfl) ?_
        clear hok
        intro hok
        refine TrAny.prom (i := 23) (d := 48) hok (OpVal.yes rfl rfl rfl rfl (bt_dec h24) (v_load (k := 0) rfl rfl rfl ty28 nofun rfl rfl)) (by kernel_rfl) rfl (bl rfl) ?_
        clear hok
        intro hok
        refine TrAny.nextY (j := 22) (by kernel_rfl) hok rfl (by kernel_rfl) rfl rfl rfl (bt_dec h24) (op_call0' (vs := [.agg #[.int .i64 r33.1, .int .i64 (wi64 (r33.2.1 + 1)), .slice m45.1 r33.2.2.length m45.2]]) (cap := []) [2] rfl rfl (bl rfl) rfl rfl en78 (c_law06_made ((r33.1, wi64 (r33.2.1 + 1), r33.2.2)) m45.1 m45.2 r60 hr60) rfl (fun ret M' F' hR84 => ?_))
        obtain ⟨rfl, rfl, rfl⟩ := hR84
        refine nxp hok (kp_imp (kp_c0 rfl)) rfl (by kernel_rfl) ?_
        clear hok
        intro hok
        refine TrAny.nextY (j := 24) (by kernel_rfl) hok rfl (by kernel_rfl) rfl rfl rfl (bt_dec h24) (op_call0' (vs := [.agg #[.int .i64 r33.1, .int .i64 (wi64 (r33.2.1 + 1)), .slice m45.1 r33.2.2.length m45.2]]) (cap := []) [2] rfl rfl (bl rfl) rfl rfl en78 (c_law06_made ((r33.1, wi64 (r33.2.1 + 1), r33.2.2)) m45.1 m45.2 r60 hr60) rfl (fun ret M' F' hR85 => ?_))
        obtain ⟨rfl, rfl, rfl⟩ := hR85
        refine nxp hok (kp_imp (kp_c0 rfl)) rfl (by kernel_rfl) ?_
        clear hok
        intro hok
        obtain ⟨r62, hr62, H⟩ := bnd H
        refine TrAny.nextY (j := 25) (by kernel_rfl) hok rfl (by kernel_rfl) rfl rfl rfl (bt_dec h24) (op_call0' (vs := [.agg #[.int .i64 (((r33.1, wi64 (r33.2.1 + 1), r33.2.2)).1), .int .i64 (((r33.1, wi64 (r33.2.1 + 1), r33.2.2)).2.1), .slice m45.1 ((((r33.1, wi64 (r33.2.1 + 1), r33.2.2)).2.2).length) m45.2], .agg #[.int .i64 (((r33.1, wi64 (r33.2.1 + 1), r33.2.2)).1), .int .i64 (((r33.1, wi64 (r33.2.1 + 1), r33.2.2)).2.1), .slice m45.1 ((((r33.1, wi64 (r33.2.1 + 1), r33.2.2)).2.2).length) m45.2]]) (cap := []) [7, 7] rfl rfl (bl rfl) rfl rfl en56 (c_hist_Same (((r33.1, wi64 (r33.2.1 + 1), r33.2.2))) (((r33.1, wi64 (r33.2.1 + 1), r33.2.2))) m45.1 m45.2 m45.1 m45.2 r62 hr62) rfl (fun ret M' F' hR86 => ?_))
        obtain ⟨rfl, rfl, rfl⟩ := hR86
        refine nxp hok (kp_imp (kp_c0 rfl)) rfl (by kernel_rfl) ?_
        clear hok
        intro hok
        refine TrAny.prom (i := 26) (d := 51) hok (OpVal.plain rfl rfl (v_pick_t rfl rfl (bt_dec h24) rfl)) (by kernel_rfl) rfl (bl rfl) ?_
        clear hok
        intro hok
        refine TrAny.prom (i := 27) (d := 6) hok (OpVal.plain rfl rfl (v_assign rfl rfl)) (by kernel_rfl) rfl (bl rfl) ?_
        clear hok
        intro hok
        refine TrAny.done (by kernel_rfl) (by kernel_rfl) hok (by kernel_rfl) (qthen_n ?_)
        have hz := Option.some.inj H
        subst hz
        refine Tr.ret (ret_r ⟨[(6, .bool r62)], [], [], []⟩ [.bool r62] [] [] (Imp.re _ [] [] (sc rfl sn) (by decide) rfl rfl rfl) rfl rfl ⟨rfl, rfl, rfl⟩ (.cons (resv_tmp rfl) .nil))
      · refine TrAny.prom (i := 21) (d := 46) hok (OpVal.no rfl (fun c h => by cases h) rfl rfl rfl (gn_t (bf_dec h24))) (by kernel_rfl) rfl (bl rfl) ?_
        clear hok
        intro hok
        refine TrAny.prom (i := 22) (d := 47) hok (OpVal.no rfl (fun c h => by cases h) rfl rfl rfl (gn_t (bf_dec h24))) (by kernel_rfl) rfl (bl rfl) ?_
        clear hok
        intro hok
        refine TrAny.prom (i := 23) (d := 48) hok (OpVal.no rfl (fun c h => by cases h) rfl rfl rfl (gn_t (bf_dec h24))) (by kernel_rfl) rfl (bl rfl) ?_
        clear hok
        intro hok
        refine TrAny.prom (i := 24) (d := 49) hok (OpVal.no rfl (fun c h => by cases h) rfl rfl rfl (gn_t (bf_dec h24))) (by kernel_rfl) rfl (bl rfl) ?_
        clear hok
        intro hok
        refine TrAny.prom (i := 25) (d := 50) hok (OpVal.no rfl (fun c h => by cases h) rfl rfl rfl (gn_t (bf_dec h24))) (by kernel_rfl) rfl (bl rfl) ?_
        clear hok
        intro hok
        refine TrAny.prom (i := 26) (d := 51) hok (OpVal.plain rfl rfl (v_pick_f rfl rfl (bf_dec h24) rfl)) (by kernel_rfl) rfl (bl rfl) ?_
        clear hok
        intro hok
        refine TrAny.prom (i := 27) (d := 6) hok (OpVal.plain rfl rfl (v_assign rfl rfl)) (by kernel_rfl) rfl (bl rfl) ?_
        clear hok
        intro hok
        refine TrAny.done (by kernel_rfl) (by kernel_rfl) hok (by kernel_rfl) (qthen_n ?_)
        have hz := Option.some.inj H
        subst hz
        refine Tr.ret (ret_r ⟨[(6, .bool false)], [], [], []⟩ [.bool false] [] [] (Imp.re _ [] [] (sc rfl sn) (by decide) rfl rfl rfl) rfl rfl ⟨rfl, rfl, rfl⟩ (.cons (resv_tmp rfl) .nil))
    · refine TrAny.prom (i := 13) (d := 38) hok (OpVal.no rfl (fun c h => by cases h) rfl rfl rfl (gn_t (bf_dec h23))) (by kernel_rfl) rfl (bl rfl) ?_
      clear hok
      intro hok
      refine TrAny.prom (i := 14) (d := 39) hok (OpVal.no rfl (fun c h => by cases h) rfl rfl rfl (gn_t (bf_dec h23))) (by kernel_rfl) rfl (bl rfl) ?_
      clear hok
      intro hok
      refine TrAny.prom (i := 15) (d := 40) hok (OpVal.no rfl (fun c h => by cases h) rfl rfl rfl (gn_t (bf_dec h23))) (by kernel_rfl) rfl (bl rfl) ?_
      clear hok
      intro hok
      refine TrAny.prom (i := 16) (d := 41) hok (OpVal.no rfl (fun c h => by cases h) rfl rfl rfl (gn_t (bf_dec h23))) (by kernel_rfl) rfl (bl rfl) ?_
      clear hok
      intro hok
      refine TrAny.prom (i := 17) (d := 42) hok (OpVal.no rfl (fun c h => by cases h) rfl rfl rfl (gn_t (bf_dec h23))) (by kernel_rfl) rfl (bl rfl) ?_
      clear hok
      intro hok
      refine TrAny.prom (i := 18) (d := 43) hok (OpVal.no rfl (fun c h => by cases h) rfl rfl rfl (gn_t (bf_dec h23))) (by kernel_rfl) rfl (bl rfl) ?_
      clear hok
      intro hok
      refine TrAny.prom (i := 19) (d := 44) hok (OpVal.plain rfl rfl (v_pick_f rfl rfl (bf_dec h23) rfl)) (by kernel_rfl) rfl (bl rfl) ?_
      clear hok
      intro hok
      refine TrAny.prom (i := 20) (d := 45) hok (OpVal.plain rfl rfl (v_move rfl rfl)) (by kernel_rfl) rfl (bl rfl) ?_
      clear hok
      intro hok
      refine TrAny.prom (i := 21) (d := 46) hok (OpVal.no rfl (fun c h => by cases h) rfl rfl rfl (gn_t rfl)) (by kernel_rfl) rfl (bl rfl) ?_
      clear hok
      intro hok
      refine TrAny.prom (i := 22) (d := 47) hok (OpVal.no rfl (fun c h => by cases h) rfl rfl rfl (gn_t rfl)) (by kernel_rfl) rfl (bl rfl) ?_
      clear hok
      intro hok
      refine TrAny.prom (i := 23) (d := 48) hok (OpVal.no rfl (fun c h => by cases h) rfl rfl rfl (gn_t rfl)) (by kernel_rfl) rfl (bl rfl) ?_
      clear hok
      intro hok
      refine TrAny.prom (i := 24) (d := 49) hok (OpVal.no rfl (fun c h => by cases h) rfl rfl rfl (gn_t rfl)) (by kernel_rfl) rfl (bl rfl) ?_
      clear hok
      intro hok
      refine TrAny.prom (i := 25) (d := 50) hok (OpVal.no rfl (fun c h => by cases h) rfl rfl rfl (gn_t rfl)) (by kernel_rfl) rfl (bl rfl) ?_
      clear hok
      intro hok
      refine TrAny.prom (i := 26) (d := 51) hok (OpVal.plain rfl rfl (v_pick_f rfl rfl rfl rfl)) (by kernel_rfl) rfl (bl rfl) ?_
      clear hok
      intro hok
      refine TrAny.prom (i := 27) (d := 6) hok (OpVal.plain rfl rfl (v_assign rfl rfl)) (by kernel_rfl) rfl (bl rfl) ?_
      clear hok
      intro hok
      refine TrAny.done (by kernel_rfl) (by kernel_rfl) hok (by kernel_rfl) (qthen_n ?_)
      have hz := Option.some.inj H
      subst hz
      refine Tr.ret (ret_r ⟨[(6, .bool false)], [], [], []⟩ [.bool false] [] [] (Imp.re _ [] [] (sc rfl sn) (by decide) rfl rfl rfl) rfl rfl ⟨rfl, rfl, rfl⟩ (.cons (resv_tmp rfl) .nil))
  · refine TrAny.prom (i := 2) (d := 27) hok (OpVal.no rfl (fun c h => by cases h) rfl rfl rfl (gn_t (bf_b h22))) (by kernel_rfl) rfl (bl rfl) ?_
    clear hok
    intro hok
    refine TrAny.prom (i := 3) (d := 28) hok (OpVal.no rfl (fun c h => by cases h) rfl rfl rfl (gn_t (bf_b h22))) (by kernel_rfl) rfl (bl rfl) ?_
    clear hok
    intro hok
    refine TrAny.prom (i := 4) (d := 29) hok (OpVal.no rfl (fun c h => by cases h) rfl rfl rfl (gn_t (bf_b h22))) (by kernel_rfl) rfl (bl rfl) ?_
    clear hok
    intro hok
    refine TrAny.prom (i := 5) (d := 30) hok (OpVal.no rfl (fun c h => by cases h) rfl rfl rfl (gn_t (bf_b h22))) (by kernel_rfl) rfl (bl rfl) ?_
    clear hok
    intro hok
    refine TrAny.prom (i := 6) (d := 31) hok (OpVal.no rfl (fun c h => by cases h) rfl rfl rfl (gn_t (bf_b h22))) (by kernel_rfl) rfl (bl rfl) ?_
    clear hok
    intro hok
    refine TrAny.prom (i := 7) (d := 32) hok (OpVal.no rfl (fun c h => by cases h) rfl rfl rfl (gn_t (bf_b h22))) (by kernel_rfl) rfl (bl rfl) ?_
    clear hok
    intro hok
    refine TrAny.prom (i := 8) (d := 33) hok (OpVal.no rfl (fun c h => by cases h) rfl rfl rfl (gn_t (bf_b h22))) (by kernel_rfl) rfl (bl rfl) ?_
    clear hok
    intro hok
    refine TrAny.prom (i := 9) (d := 34) hok (OpVal.no rfl (fun c h => by cases h) rfl rfl rfl (gn_t (bf_b h22))) (by kernel_rfl) rfl (bl rfl) ?_
    clear hok
    intro hok
    refine TrAny.prom (i := 10) (d := 35) hok (OpVal.no rfl (fun c h => by cases h) rfl rfl rfl (gn_t (bf_b h22))) (by kernel_rfl) rfl (bl rfl) ?_
    clear hok
    intro hok
    refine TrAny.prom (i := 11) (d := 36) hok (OpVal.plain rfl rfl (v_pick_f rfl rfl (bf_b h22) rfl)) (by kernel_rfl) rfl (bl rfl) ?_
    clear hok
    intro hok
    refine TrAny.prom (i := 12) (d := 37) hok (OpVal.plain rfl rfl (v_move rfl rfl)) (by kernel_rfl) rfl (bl rfl) ?_
    clear hok
    intro hok
    refine TrAny.prom (i := 13) (d := 38) hok (OpVal.no rfl (fun c h => by cases h) rfl rfl rfl (gn_t rfl)) (by kernel_rfl) rfl (bl rfl) ?_
    clear hok
    intro hok
    refine TrAny.prom (i := 14) (d := 39) hok (OpVal.no rfl (fun c h => by cases h) rfl rfl rfl (gn_t rfl)) (by kernel_rfl) rfl (bl rfl) ?_
    clear hok
    intro hok
    refine TrAny.prom (i := 15) (d := 40) hok (OpVal.no rfl (fun c h => by cases h) rfl rfl rfl (gn_t rfl)) (by kernel_rfl) rfl (bl rfl) ?_
    clear hok
    intro hok
    refine TrAny.prom (i := 16) (d := 41) hok (OpVal.no rfl (fun c h => by cases h) rfl rfl rfl (gn_t rfl)) (by kernel_rfl) rfl (bl rfl) ?_
    clear hok
    intro hok
    refine TrAny.prom (i := 17) (d := 42) hok (OpVal.no rfl (fun c h => by cases h) rfl rfl rfl (gn_t rfl)) (by kernel_rfl) rfl (bl rfl) ?_
    clear hok
    intro hok
    refine TrAny.prom (i := 18) (d := 43) hok (OpVal.no rfl (fun c h => by cases h) rfl rfl rfl (gn_t rfl)) (by kernel_rfl) rfl (bl rfl) ?_
    clear hok
    intro hok
    refine TrAny.prom (i := 19) (d := 44) hok (OpVal.plain rfl rfl (v_pick_f rfl rfl rfl rfl)) (by kernel_rfl) rfl (bl rfl) ?_
    clear hok
    intro hok
    refine TrAny.prom (i := 20) (d := 45) hok (OpVal.plain rfl rfl (v_move rfl rfl)) (by kernel_rfl) rfl (bl rfl) ?_
    clear hok
    intro hok
    refine TrAny.prom (i := 21) (d := 46) hok (OpVal.no rfl (fun c h => by cases h) rfl rfl rfl (gn_t rfl)) (by kernel_rfl) rfl (bl rfl) ?_
    clear hok
    intro hok
    refine TrAny.prom (i := 22) (d := 47) hok (OpVal.no rfl (fun c h => by cases h) rfl rfl rfl (gn_t rfl)) (by kernel_rfl) rfl (bl rfl) ?_
    clear hok
    intro hok
    refine TrAny.prom (i := 23) (d := 48) hok (OpVal.no rfl (fun c h => by cases h) rfl rfl rfl (gn_t rfl)) (by kernel_rfl) rfl (bl rfl) ?_
    clear hok
    intro hok
    refine TrAny.prom (i := 24) (d := 49) hok (OpVal.no rfl (fun c h => by cases h) rfl rfl rfl (gn_t rfl)) (by kernel_rfl) rfl (bl rfl) ?_
    clear hok
    intro hok
    refine TrAny.prom (i := 25) (d := 50) hok (OpVal.no rfl (fun c h => by cases h) rfl rfl rfl (gn_t rfl)) (by kernel_rfl) rfl (bl rfl) ?_
    clear hok
    intro hok
    refine TrAny.prom (i := 26) (d := 51) hok (OpVal.plain rfl rfl (v_pick_f rfl rfl rfl rfl)) (by kernel_rfl) rfl (bl rfl) ?_
    clear hok
    intro hok
    refine TrAny.prom (i := 27) (d := 6) hok (OpVal.plain rfl rfl (v_assign rfl rfl)) (by kernel_rfl) rfl (bl rfl) ?_
    clear hok
    intro hok
    refine TrAny.done (by kernel_rfl) (by kernel_rfl) hok (by kernel_rfl) (qthen_n ?_)
    have hz := Option.some.inj H
    subst hz
    refine Tr.ret (ret_r ⟨[(6, .bool false)], [], [], []⟩ [.bool false] [] [] (Imp.re _ [] [] (sc rfl sn) (by decide) rfl rfl rfl) rfl rfl ⟨rfl, rfl, rfl⟩ (.cons (resv_tmp rfl) .nil))
end Go.Proofs.Ytbnjjpmlaknaoaa.W
