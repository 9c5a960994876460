/- The contracts of the walked functions: the printed walks. -/
import Derived.Test.YtbeknohemgjfbaaKc
import Derived.Test.YtbeknohemgjfbaaW3o
import Derived.Test.YtbeknohemgjfbaaQc
import Derived.Test.YtbeknohemgjfbaaWcheckcc
import Derived.Test.YtbeknohemgjfbaaWlaw09ac
import Derived.Test.YtbeknohemgjfbaaWlaw09bc
import Derived.Test.YtbeknohemgjfbaaWref06bc
namespace Go.Proofs.Ytbeknohemgjfbaa.W
open Go Go.Proofs Go.Proofs.Ytbeknohemgjfbaa.L Go.Proofs.Ytbeknohemgjfbaa.Pu
set_option linter.unusedVariables false
set_option maxHeartbeats 4000000

theorem c_law09_CheckOdd (p1 : Int) (p2 : List (Int × Int)) (p3 : Int) (A1 : Option Addr) (c1 : Nat) (r : Bool) (H : law09_CheckOdd p1 p2 p3 = some r) :
    Ctr Try.prog 3 [.int .i64 p1, .slice A1 p2.length c1, .int .u8 p3] [] [slF rp_u64_u64 A1 c1 p2] (fun ret M' F' => ret = .bool r ∧ M' = [] ∧ F' = []) := by
  unfold law09_CheckOdd at H
  refine ctr_ofI (N := 128) Try.func3 rfl Try.ntmps3 rfl (Nat.le_of_ble_eq_true rfl) (fun γ0 w0 => ?_)
  refine Tr.seq ?_
  refine Tr.region ?_
  refine TrL.v (v_assign rfl rfl) rfl rfl (bl rfl) ?_
  refine TrL.nil (qthen_n ?_)
  refine Tr.seq ?_
  refine Tr.region ?_
  obtain ⟨r20, hr20, H⟩ := bnd H
  refine TrL.cons rfl (op_call0' (vs := []) (cap := []) [] rfl rfl (bl rfl) rfl rfl en15 (c_law09_awake r20 hr20) rfl (fun ret M' F' hR23 => ?_))
  obtain ⟨rfl, rfl, rfl⟩ := hR23
  refine TrL.v (v_assign rfl rfl) rfl rfl (bl rfl) ?_
  refine TrL.nil (qthen_n ?_)
  refine Tr.seq ?_
  refine Tr.region ?_
  refine TrL.v (v_move rfl rfl) rfl rfl (bl rfl) ?_
  refine TrL.v (v_move rfl rfl) rfl rfl (bl rfl) ?_
  obtain ⟨r21, hr21, H⟩ := bnd H
  refine TrL.cons rfl (op_call0' (vs := [.int .i64 p1, .slice A1 p2.length c1]) (cap := []) [0] rfl rfl (bl rfl) rfl rfl en16 (c_ref06_Made p1 p2 A1 c1 r21 hr21) rfl (fun ret M' F' hR24 => ?_))
  obtain ⟨m25, rfl, rfl, rfl⟩ := hR24
  refine TrL.cons rfl (op_alloc' rfl (bl rfl) rfl ze26 (fun b7 => ?_))
  refine TrL.cons rfl (op_store' (k := 0) (c' := [.int .i64 r21.1, .int .i64 r21.2.1, .slice m25.1 r21.2.2.length m25.2]) rfl rfl rfl rfl rfl ty26 rfl (Nat.le_of_ble_eq_true rfl) (ones (oc rfl (oc rfl (oc rfl on)))) rfl ?_)
  refine TrL.nil (qthen_n ?_)
  refine Tr.seq ?_
  refine Tr.seq ?_
  refine Tr.region ?_
  refine TrL.v (v_fieldAddr' rfl fo26_2 rfl rfl) rfl rfl (bl rfl) ?_
  refine TrL.v (v_load (k := 0) rfl rfl rfl ty24 (fun _ => rfl) rfl rfl) rfl rfl (bl rfl) ?_
  refine TrL.v (v_len rfl sl24 rfl) rfl rfl (bl rfl) ?_
  refine TrL.v (v_arith rfl rfl rfl ar_eql) rfl rfl (bl rfl) ?_
  refine TrL.nil (qthen_n ?_)
  rcases ifc H with ⟨h18, H⟩ | ⟨h18, H⟩
  · refine Tr.cond_t rfl (bt_dec h18) ?_
    refine Tr.seq ?_
    refine Tr.region ?_
    refine TrL.v (v_move rfl rfl) rfl rfl (bl rfl) ?_
    refine TrL.v (v_assign rfl rfl) rfl rfl (bl rfl) ?_
    refine TrL.nil (qthen_n ?_)
    have hz := Option.some.inj H
    subst hz
    refine Tr.ret (qthen_r (ret_r ⟨[(6, .bool r20)], [], [], []⟩ [.bool r20] [] [] (Imp.re _ [] [] (sc rfl sn) (by decide) rfl rfl rfl) rfl rfl ⟨rfl, rfl, rfl⟩ (.cons (resv_tmp rfl) .nil)))
  · refine Tr.cond_f rfl (bf_dec h18) ?_
    refine Tr.skip (qthen_n ?_)
    refine Tr.seq ?_
    refine Tr.region ?_
    refine TrL.v (v_move rfl rfl) rfl rfl (bl rfl) ?_
    refine TrL.v (v_conv' rfl ⟨_, Try.underlying5⟩ Try.underlying3 rfl wrap_i64') rfl rfl (bl rfl) ?_
    refine TrL.v (v_fieldAddr' rfl fo26_2 rfl rfl) rfl rfl (bl rfl) ?_
    refine TrL.v (v_load (k := 0) rfl rfl rfl ty24 (fun _ => rfl) rfl rfl) rfl rfl (bl rfl) ?_
    refine TrL.v (v_len rfl sl24 rfl) rfl rfl (bl rfl) ?_
    obtain ⟨h19, H⟩ := mst H
    refine TrL.v (v_rem rfl rfl rfl h19) rfl rfl (bl rfl) ?_
    refine TrL.v (v_assign rfl rfl) rfl rfl (bl rfl) ?_
    refine TrL.nil (qthen_n ?_)
    refine Tr.seq ?_
    refine Tr.region ?_
    refine TrL.v (v_fieldAddr' rfl fo26_2 rfl rfl) rfl rfl (bl rfl) ?_
    refine TrL.v (v_load (k := 0) rfl rfl rfl ty24 (fun _ => rfl) rfl rfl) rfl rfl (bl rfl) ?_
    refine TrL.v (v_move rfl rfl) rfl rfl (bl rfl) ?_
    obtain ⟨z11, hz11, H⟩ := bnd H
    refine TrL.v (v_indexAddr (k := 1) rfl sl24 ty31 rfl rfl rfl rfl hz11) rfl rfl (bl rfl) ?_
    refine TrL.openS' (k := 1) rfl hz11 (fun A10 c9 => ?_)
    refine TrL.v (v_loadF (k := 3) rfl ty31 rfl rfl) rfl rfl (bl rfl) ?_
    obtain ⟨z12, hz12, H⟩ := bnd H
    refine TrL.v (v_indexAddr (k := 2) rfl sl31 ty30 rfl rfl rfl rfl hz12) rfl rfl (bl rfl) ?_
    refine TrL.v (v_loadg (A := A10) (i := 0) (j := 0) (k := 2) rfl ty30 nofun rfl rfl hz12 rfl rfl) rfl rfl (bl rfl) ?_
    refine TrL.cons rfl (op_alloc' rfl (bl rfl) rfl ze30 (fun b8 => ?_))
    refine TrL.cons rfl (op_store' (k := 0) (c' := [.int .u64 z12.1, .int .u64 z12.2]) rfl rfl rfl rfl rfl ty30 rfl (Nat.le_of_ble_eq_true rfl) (ones (oc rfl (oc rfl on))) rfl ?_)
    refine TrL.nil (qthen_n ?_)
    refine Tr.seq ?_
    refine Tr.region ?_
    refine TrL.v (v_load (k := 1) rfl rfl rfl ty26 nofun rfl rfl) rfl rfl (bl rfl) ?_
    obtain ⟨r22, hr22, H⟩ := bnd H
    obtain ⟨z13, hz13, H⟩ := bnd H
    refine TrL.cons rfl (op_call0' (vs := [.agg #[.int .i64 r21.1, .int .i64 r21.2.1, .slice m25.1 r21.2.2.length m25.2]]) (cap := []) [1] rfl rfl (bl rfl) rfl rfl en17 (c_law09_copiedO r21 m25.1 m25.2 r22 hr22) rfl (fun ret M' F' hR25 => ?_))
    obtain ⟨m26, rfl, rfl, rfl, hm5⟩ := hR25
    refine TrL.openRow rfl hm5 hz13 (fun A11 c10 l5 l6 hs3 hw3 => ?_)
    refine TrL.cons rfl (op_alloc' rfl (bl rfl) rfl ze26 (fun b9 => ?_))
    refine TrL.cons rfl (op_store' (k := 0) (c' := [.int .i64 r21.1, .int .i64 r21.2.1, .slice m26.1 r22.length m26.2.1]) rfl rfl rfl rfl rfl ty26 rfl (Nat.le_of_ble_eq_true rfl) (ones (oc rfl (oc rfl (oc rfl on)))) rfl ?_)
    refine TrL.nil (qthen_n ?_)
    refine Tr.seq ?_
    refine Tr.regionD drawn (fun hok => ?_)
    refine TrAny.prom (i := 0) (d := 41) hok (OpVal.plain rfl rfl (v_fieldAddr' rfl fo26_2 rfl rfl)) (by kernel_rfl) rfl (bl rfl) ?_
    clear hok
    intro hok
    refine TrAny.prom (i := 1) (d := 42) hok (OpVal.plain rfl rfl (v_load (k := 0) rfl rfl rfl ty24 (fun _ => rfl) rfl rfl)) (by kernel_rfl) rfl (bl rfl) ?_
    clear hok
    intro hok
    refine TrAny.prom (i := 2) (d := 43) hok (OpVal.plain rfl rfl (v_move rfl rfl)) (by kernel_rfl) rfl (bl rfl) ?_
    clear hok
    intro hok
    refine TrAny.prom (i := 3) (d := 44) hok (OpVal.plain rfl rfl (v_indexA (k := 1) rfl sl24 ty31 rfl rfl rfl hw3)) (by kernel_rfl) rfl (bl rfl) ?_
    clear hok
    intro hok
    refine TrAny.prom (i := 4) (d := 45) hok (OpVal.plain rfl rfl (v_loadA (A := m26.1) (i := ((wi64 p3).tmod ((r21.2.2.length : Int)))) (j := 0) (k := 1) rfl ty31 (fun _ => rfl) rfl rfl hw3 rfl rfl)) (by kernel_rfl) rfl (bl rfl) ?_
    clear hok
    intro hok
    refine TrAny.prom (i := 5) (d := 46) hok (OpVal.plain rfl rfl (v_fieldAddr' rfl fo30_1 rfl rfl)) (by kernel_rfl) rfl (bl rfl) ?_
    clear hok
    intro hok
    refine TrAny.prom (i := 6) (d := 47) hok (OpVal.plain rfl rfl (v_load (k := 4) rfl rfl rfl ty28 (fun _ => rfl) rfl rfl)) (by kernel_rfl) rfl (bl rfl) ?_
    clear hok
    intro hok
    refine TrAny.prom (i := 7) (d := 48) hok (OpVal.plain rfl rfl (v_arith rfl rfl rfl ar_add_u64)) (by kernel_rfl) rfl (bl rfl) ?_
    clear hok
    intro hok
    refine TrAny.prom (i := 8) (d := 49) hok (OpVal.plain rfl rfl (v_fieldAddr' rfl fo30_0 rfl rfl)) (by kernel_rfl) rfl (bl rfl) ?_
    clear hok
    intro hok
    refine TrAny.prom (i := 9) (d := 50) hok (OpVal.plain rfl rfl (v_load (k := 4) rfl rfl rfl ty28 (fun _ => rfl) rfl rfl)) (by kernel_rfl) rfl (bl rfl) ?_
    clear hok
    intro hok
    refine TrAny.prom (i := 10) (d := 51) hok (OpVal.plain rfl rfl (v_build (vs := [.int .u64 (wu64 (z12.2 + 1)), .int .u64 z12.1]) (out := [.int .u64 (wu64 (z12.2 + 1)), .int .u64 z12.1]) rfl pl30 ze30 rfl rfl)) (by kernel_rfl) rfl (bl rfl) ?_
    clear hok
    intro hok
    obtain ⟨z15, hz15, H⟩ := bnd H
    refine TrAny.prom (i := 11) (d := 52) hok (OpVal.plain rfl rfl (v_indexA (k := 2) rfl sl31 ty30 rfl rfl rfl hz15)) (by kernel_rfl) rfl (bl rfl) ?_
    clear hok
    intro hok
    refine TrAny.next (j := 12) (by kernel_rfl) hok rfl (by kernel_rfl) (op_storeAS (A := A11) (i := 0) (j := 0) (k := 2) (z' := (wu64 (z12.2 + 1), z12.1)) rfl rfl rfl rfl rfl ty30 rfl hz15 (Nat.le_of_ble_eq_true rfl) (ones (oc rfl (oc rfl on))) rfl ?_)
    refine nxs hok (kp_aw (by kernel_rfl)) rfl ?_
    clear hok
    intro hok
    refine TrAny.done (by kernel_rfl) (by kernel_rfl) hok (by kernel_rfl) (qthen_n ?_)
    refine Tr.seq ?_
    refine Tr.region ?_
    refine TrL.closeRow (fun nn => ⟨[(0, .int .i64 p1), (1, .slice A1 p2.length c1), (2, .int .u8 p3), (6, .bool false), (7, .bool r20), (8, .pointer (some ⟨b7, 0, none⟩)), (9, .int .i64 ((wi64 p3).tmod ((r21.2.2.length : Int)))), (10, .pointer (some ⟨b8, 0, none⟩)), (11, .pointer (some ⟨b9, 0, none⟩)), (17, .bool r20), (18, .int .i64 p1), (19, .slice A1 p2.length c1), (20, .agg #[.int .i64 r21.1, .int .i64 r21.2.1, .slice m25.1 r21.2.2.length m25.2]), (21, .pointer (some ⟨b7, 2, none⟩)), (22, .slice m25.1 r21.2.2.length m25.2), (23, .int .i64 ((r21.2.2.length : Int))), (24, .bool (decide (((r21.2.2.length : Int)) = 0))), (26, .int .u8 p3), (27, .int .i64 (wi64 p3)), (28, .pointer (some ⟨b7, 2, none⟩)), (29, .slice m25.1 r21.2.2.length m25.2), (30, .int .i64 ((r21.2.2.length : Int))), (31, .int .i64 ((wi64 p3).tmod ((r21.2.2.length : Int)))), (32, .pointer (some ⟨b7, 2, none⟩)), (33, .slice m25.1 r21.2.2.length m25.2), (34, .int .i64 ((wi64 p3).tmod ((r21.2.2.length : Int)))), (35, .pointer (some ⟨ablk m25.1, aoff m25.1 + ((wi64 p3).tmod ((r21.2.2.length : Int))).toNat * 1, none⟩)), (36, .slice A10 z11.length c9), (37, .pointer (some ⟨ablk A10, aoff A10 + (0 : Int).toNat * 2, none⟩)), (38, .agg #[.int .u64 z12.1, .int .u64 z12.2]), (39, .agg #[.int .i64 r21.1, .int .i64 r21.2.1, .slice m25.1 r21.2.2.length m25.2]), (40, .agg #[.int .i64 r21.1, .int .i64 r21.2.1, .slice m26.1 nn m26.2.1]), (41, .pointer (some ⟨b9, 2, none⟩)), (42, .slice m26.1 nn m26.2.1), (43, .int .i64 ((wi64 p3).tmod ((r21.2.2.length : Int)))), (44, .pointer (some ⟨ablk m26.1, aoff m26.1 + ((wi64 p3).tmod ((r21.2.2.length : Int))).toNat * 1, none⟩)), (45, .slice A11 z13.length c10), (46, .pointer (some ⟨b8, 1, none⟩)), (47, .int .u64 z12.2), (48, .int .u64 (wu64 (z12.2 + 1))), (49, .pointer (some ⟨b8, 0, none⟩)), (50, .int .u64 z12.1), (51, .agg #[.int .u64 (wu64 (z12.2 + 1)), .int .u64 z12.1]), (52, .pointer (some ⟨ablk A11, aoff A11 + (0 : Int).toNat * 2, none⟩))], [arr rRaw 31 m26.1 nn m26.2.1 (((l5 ++ (A11, c10, z13) :: l6)).map raw), arr rp_u64_u64 30 A11 z13.length c10 (z13.set (0 : Int).toNat ((wu64 (z12.2 + 1), z12.1))), rowsC rp_u64_u64 30 ((l5 ++ l6)), cells b9 [.int .i64 r21.1, .int .i64 r21.2.1, .slice m26.1 nn m26.2.1] 26, cells b8 [.int .u64 z12.1, .int .u64 z12.2] 30, cells b7 [.int .i64 r21.1, .int .i64 r21.2.1, .slice m25.1 r21.2.2.length m25.2] 26], [slF rp_u64_u64 A1 c1 p2, slF (rSl rp_u64_u64) m25.1 m25.2 r21.2.2, slF rp_u64_u64 A10 c9 z11, cellF ⟨ablk m25.1, aoff m25.1 + ((wi64 p3).tmod ((r21.2.2.length : Int))).toNat * 1, none⟩ (.slice A10 z11.length c9)], []⟩) (fun nn => [cells b9 [.int .i64 r21.1, .int .i64 r21.2.1, .slice m26.1 nn m26.2.1] 26, cells b8 [.int .u64 z12.1, .int .u64 z12.2] 30, cells b7 [.int .i64 r21.1, .int .i64 r21.2.1, .slice m25.1 r21.2.2.length m25.2] 26]) (Imp.re _ [1, 2, 3, 0, 4, 5] [0, 1, 2, 3] (sc rfl (sc rfl (sc rfl (sc rfl (sc rfl (sc rfl (sc rfl (sc rfl (sc rfl (sc rfl (sc rfl (sc rfl (sc rfl (sc rfl (sc rfl (sc rfl (sc rfl (sc rfl (sc rfl (sc rfl (sc rfl (sc rfl (sc rfl (sc rfl (sc rfl (sc rfl (sc rfl (sc rfl (sc rfl (sc rfl (sc rfl (sc rfl (sc rfl (sc rfl (sc rfl (sc rfl (sc rfl (sc rfl (sc rfl (sc rfl (sc rfl (sc rfl (sc rfl (sc rfl sn)))))))))))))))))))))))))))))))))))))))))))) (by decide) rfl rfl rfl) (fun nn => rfl) (by simp only [List.length_set]) (hs3 _) ?_
    refine TrL.v (v_load (k := 2) rfl rfl rfl ty26 nofun rfl rfl) rfl rfl (bl rfl) ?_
    obtain ⟨z16, hz16, H⟩ := bnd H
    refine TrL.cons rfl (op_call0' (vs := [.agg #[.int .i64 r21.1, .int .i64 r21.2.1, .slice m25.1 r21.2.2.length m25.2]]) (cap := []) [1] rfl rfl (bl rfl) rfl rfl en17 (c_law09_copiedO r21 m25.1 m25.2 r22 hr22) rfl (fun ret M' F' hR26 => ?_))
    obtain ⟨m27, rfl, rfl, rfl, hm6⟩ := hR26
    refine TrL.openRow rfl hm6 hz16 (fun A12 c11 l7 l8 hs4 hw4 => ?_)
    refine TrL.cons rfl (op_alloc' rfl (bl rfl) rfl ze26 (fun b10 => ?_))
    refine TrL.cons rfl (op_store' (k := 0) (c' := [.int .i64 r21.1, .int .i64 r21.2.1, .slice m27.1 r22.length m27.2.1]) rfl rfl rfl rfl rfl ty26 rfl (Nat.le_of_ble_eq_true rfl) (ones (oc rfl (oc rfl (oc rfl on)))) rfl ?_)
    refine TrL.nil (qthen_n ?_)
    refine Tr.seq ?_
    refine Tr.region ?_
    refine TrL.v (v_fieldAddr' rfl fo26_2 rfl rfl) rfl rfl (bl rfl) ?_
    refine TrL.v (v_load (k := 0) rfl rfl rfl ty24 (fun _ => rfl) rfl rfl) rfl rfl (bl rfl) ?_
    refine TrL.v (v_indexA (k := 1) rfl sl24 ty31 rfl rfl rfl hw4) rfl rfl (bl rfl) ?_
    refine TrL.v (v_loadA (A := m27.1) (i := 0) (j := 0) (k := 1) rfl ty31 (fun _ => rfl) rfl rfl hw4 rfl rfl) rfl rfl (bl rfl) ?_
    refine TrL.v (v_len rfl sl31 rfl) rfl rfl (bl rfl) ?_
    refine TrL.v (v_arith rfl rfl rfl ar_sub_i64) rfl rfl (bl rfl) ?_
    refine TrL.v (v_assign rfl rfl) rfl rfl (bl rfl) ?_
    refine TrL.nil (qthen_n ?_)
    refine Tr.seq ?_
    refine Tr.region ?_
    refine TrL.v (v_fieldAddr' rfl fo26_2 rfl rfl) rfl rfl (bl rfl) ?_
    refine TrL.v (v_load (k := 0) rfl rfl rfl ty24 (fun _ => rfl) rfl rfl) rfl rfl (bl rfl) ?_
    refine TrL.v (v_indexA (k := 1) rfl sl24 ty31 rfl rfl rfl hw4) rfl rfl (bl rfl) ?_
    refine TrL.v (v_loadA (A := m27.1) (i := 0) (j := 0) (k := 1) rfl ty31 (fun _ => rfl) rfl rfl hw4 rfl rfl) rfl rfl (bl rfl) ?_
    refine TrL.v (v_move rfl rfl) rfl rfl (bl rfl) ?_
    refine TrL.v (v_build (vs := [.int .u64 9223372036854775808, .int .u64 9223372036854775808]) (out := [.int .u64 9223372036854775808, .int .u64 9223372036854775808]) rfl pl30 ze30 rfl rfl) rfl rfl (bl rfl) ?_
    obtain ⟨z17, hz17, H⟩ := bnd H
    refine TrL.v (v_indexA (k := 2) rfl sl31 ty30 rfl rfl rfl hz17) rfl rfl (bl rfl) ?_
    refine TrL.cons rfl (op_storeAS (A := A12) (i := (wi64 (((z16.length : Int)) - 1))) (j := 0) (k := 2) (z' := ((9223372036854775808 : Int), (9223372036854775808 : Int))) rfl rfl rfl rfl rfl ty30 rfl hz17 (Nat.le_of_ble_eq_true rfl) (ones (oc rfl (oc rfl on))) rfl ?_)
    refine TrL.nil (qthen_n ?_)
    refine Tr.seq ?_
    refine Tr.region ?_
    refine TrL.closeRow (fun nn => ⟨[(0, .int .i64 p1), (1, .slice A1 p2.length c1), (2, .int .u8 p3), (6, .bool false), (7, .bool r20), (8, .pointer (some ⟨b7, 0, none⟩)), (9, .int .i64 ((wi64 p3).tmod ((r21.2.2.length : Int)))), (10, .pointer (some ⟨b8, 0, none⟩)), (11, .pointer (some ⟨b9, 0, none⟩)), (12, .pointer (some ⟨b10, 0, none⟩)), (13, .int .i64 (wi64 (((z16.length : Int)) - 1))), (17, .bool r20), (18, .int .i64 p1), (19, .slice A1 p2.length c1), (20, .agg #[.int .i64 r21.1, .int .i64 r21.2.1, .slice m25.1 r21.2.2.length m25.2]), (21, .pointer (some ⟨b7, 2, none⟩)), (22, .slice m25.1 r21.2.2.length m25.2), (23, .int .i64 ((r21.2.2.length : Int))), (24, .bool (decide (((r21.2.2.length : Int)) = 0))), (26, .int .u8 p3), (27, .int .i64 (wi64 p3)), (28, .pointer (some ⟨b7, 2, none⟩)), (29, .slice m25.1 r21.2.2.length m25.2), (30, .int .i64 ((r21.2.2.length : Int))), (31, .int .i64 ((wi64 p3).tmod ((r21.2.2.length : Int)))), (32, .pointer (some ⟨b7, 2, none⟩)), (33, .slice m25.1 r21.2.2.length m25.2), (34, .int .i64 ((wi64 p3).tmod ((r21.2.2.length : Int)))), (35, .pointer (some ⟨ablk m25.1, aoff m25.1 + ((wi64 p3).tmod ((r21.2.2.length : Int))).toNat * 1, none⟩)), (36, .slice A10 z11.length c9), (37, .pointer (some ⟨ablk A10, aoff A10 + (0 : Int).toNat * 2, none⟩)), (38, .agg #[.int .u64 z12.1, .int .u64 z12.2]), (39, .agg #[.int .i64 r21.1, .int .i64 r21.2.1, .slice m25.1 r21.2.2.length m25.2]), (40, .agg #[.int .i64 r21.1, .int .i64 r21.2.1, .slice m26.1 ((r22.set ((wi64 p3).tmod ((r21.2.2.length : Int))).toNat (z13.set (0 : Int).toNat ((wu64 (z12.2 + 1), z12.1)))).length) m26.2.1]), (41, .pointer (some ⟨b9, 2, none⟩)), (42, .slice m26.1 ((r22.set ((wi64 p3).tmod ((r21.2.2.length : Int))).toNat (z13.set (0 : Int).toNat ((wu64 (z12.2 + 1), z12.1)))).length) m26.2.1), (43, .int .i64 ((wi64 p3).tmod ((r21.2.2.length : Int)))), (44, .pointer (some ⟨ablk m26.1, aoff m26.1 + ((wi64 p3).tmod ((r21.2.2.length : Int))).toNat * 1, none⟩)), (45, .slice A11 z13.length c10), (46, .pointer (some ⟨b8, 1, none⟩)), (47, .int .u64 z12.2), (48, .int .u64 (wu64 (z12.2 + 1))), (49, .pointer (some ⟨b8, 0, none⟩)), (50, .int .u64 z12.1), (51, .agg #[.int .u64 (wu64 (z12.2 + 1)), .int .u64 z12.1]), (52, .pointer (some ⟨ablk A11, aoff A11 + (0 : Int).toNat * 2, none⟩)), (53, .agg #[.int .i64 r21.1, .int .i64 r21.2.1, .slice m25.1 r21.2.2.length m25.2]), (54, .agg #[.int .i64 r21.1, .int .i64 r21.2.1, .slice m27.1 nn m27.2.1]), (55, .pointer (some ⟨b10, 2, none⟩)), (56, .slice m27.1 nn m27.2.1), (57, .pointer (some ⟨ablk m27.1, aoff m27.1 + (0 : Int).toNat * 1, none⟩)), (58, .slice A12 z16.length c11), (59, .int .i64 ((z16.length : Int))), (60, .int .i64 (wi64 (((z16.length : Int)) - 1))), (61, .pointer (some ⟨b10, 2, none⟩)), (62, .slice m27.1 nn m27.2.1), (63, .pointer (some ⟨ablk m27.1, aoff m27.1 + (0 : Int).toNat * 1, none⟩)), (64, .slice A12 z16.length c11), (65, .int .i64 (wi64 (((z16.length : Int)) - 1))), (66, .agg #[.int .u64 9223372036854775808, .int .u64 9223372036854775808]), (67, .pointer (some ⟨ablk A12, aoff A12 + (wi64 (((z16.length : Int)) - 1)).toNat * 2, none⟩))], [arr rRaw 31 m27.1 nn m27.2.1 (((l7 ++ (A12, c11, z16) :: l8)).map raw), arr rp_u64_u64 30 A12 z16.length c11 (z16.set (wi64 (((z16.length : Int)) - 1)).toNat (((9223372036854775808 : Int), (9223372036854775808 : Int)))), rowsC rp_u64_u64 30 ((l7 ++ l8)), cells b10 [.int .i64 r21.1, .int .i64 r21.2.1, .slice m27.1 nn m27.2.1] 26, cells b9 [.int .i64 r21.1, .int .i64 r21.2.1, .slice m26.1 ((r22.set ((wi64 p3).tmod ((r21.2.2.length : Int))).toNat (z13.set (0 : Int).toNat ((wu64 (z12.2 + 1), z12.1)))).length) m26.2.1] 26, cells b8 [.int .u64 z12.1, .int .u64 z12.2] 30, cells b7 [.int .i64 r21.1, .int .i64 r21.2.1, .slice m25.1 r21.2.2.length m25.2] 26], [slF rp_u64_u64 A1 c1 p2, slF (rSl rp_u64_u64) m25.1 m25.2 r21.2.2, slF rp_u64_u64 A10 c9 z11, cellF ⟨ablk m25.1, aoff m25.1 + ((wi64 p3).tmod ((r21.2.2.length : Int))).toNat * 1, none⟩ (.slice A10 z11.length c9), slF (rSl rp_u64_u64) m26.1 m26.2.1 (r22.set ((wi64 p3).tmod ((r21.2.2.length : Int))).toNat (z13.set (0 : Int).toNat ((wu64 (z12.2 + 1), z12.1))))], []⟩) (fun nn => [cells b10 [.int .i64 r21.1, .int .i64 r21.2.1, .slice m27.1 nn m27.2.1] 26, cells b9 [.int .i64 r21.1, .int .i64 r21.2.1, .slice m26.1 ((r22.set ((wi64 p3).tmod ((r21.2.2.length : Int))).toNat (z13.set (0 : Int).toNat ((wu64 (z12.2 + 1), z12.1)))).length) m26.2.1] 26, cells b8 [.int .u64 z12.1, .int .u64 z12.2] 30, cells b7 [.int .i64 r21.1, .int .i64 r21.2.1, .slice m25.1 r21.2.2.length m25.2] 26]) (Imp.re _ [1, 2, 3, 0, 4, 5, 6] [0, 1, 2, 3, 4] (sc rfl (sc rfl (sc rfl (sc rfl (sc rfl (sc rfl (sc rfl (sc rfl (sc rfl (sc rfl (sc rfl (sc rfl (sc rfl (sc rfl (sc rfl (sc rfl (sc rfl (sc rfl (sc rfl (sc rfl (sc rfl (sc rfl (sc rfl (sc rfl (sc rfl (sc rfl (sc rfl (sc rfl (sc rfl (sc rfl (sc rfl (sc rfl (sc rfl (sc rfl (sc rfl (sc rfl (sc rfl (sc rfl (sc rfl (sc rfl (sc rfl (sc rfl (sc rfl (sc rfl (sc rfl (sc rfl (sc rfl (sc rfl (sc rfl (sc rfl (sc rfl (sc rfl (sc rfl (sc rfl (sc rfl (sc rfl (sc rfl (sc rfl (sc rfl (sc rfl (sc rfl sn))))))))))))))))))))))))))))))))))))))))))))))))))))))))))))) (by decide) rfl rfl rfl) (fun nn => rfl) (by simp only [List.length_set]) (hs4 _) ?_
    refine TrL.v (v_load (k := 3) rfl rfl rfl ty26 nofun rfl rfl) rfl rfl (bl rfl) ?_
    refine TrL.cons rfl (op_call0' (vs := [.agg #[.int .i64 r21.1, .int .i64 r21.2.1, .slice m25.1 r21.2.2.length m25.2]]) (cap := []) [1] rfl rfl (bl rfl) rfl rfl en17 (c_law09_copiedO r21 m25.1 m25.2 r22 hr22) rfl (fun ret M' F' hR27 => ?_))
    obtain ⟨m28, rfl, rfl, rfl, hm7⟩ := hR27
    refine TrL.ownRows rfl hm7 ?_
    refine TrL.cons rfl (op_alloc' rfl (bl rfl) rfl ze26 (fun b11 => ?_))
    refine TrL.cons rfl (op_store' (k := 0) (c' := [.int .i64 r21.1, .int .i64 r21.2.1, .slice m28.1 r22.length m28.2.1]) rfl rfl rfl rfl rfl ty26 rfl (Nat.le_of_ble_eq_true rfl) (ones (oc rfl (oc rfl (oc rfl on)))) rfl ?_)
    refine TrL.nil (qthen_n ?_)
    refine Tr.seq ?_
    refine Tr.region ?_
    refine TrL.v (v_fieldAddr' rfl fo26_2 rfl rfl) rfl rfl (bl rfl) ?_
    refine TrL.v (v_load (k := 0) rfl rfl rfl ty24 (fun _ => rfl) rfl rfl) rfl rfl (bl rfl) ?_
    refine TrL.addF' (slF rp_u64_u64 none 0 []) (nilF rp_u64_u64) ?_
    refine TrL.cons rfl (op_buildSlice' (rp := (rSl rp_u64_u64)) (xs := [([] : List (Int × Int))]) (vs := [.slice none 0 0]) (out := [.slice none 0 0]) rfl (bl rfl) rfl sl24 ty31 ze31 rfl rfl (by decide) (by decide) rfl (fun γ w hF => (rowc ⟨_, _, rfl, hF _ (List.mem_of_getElem? (i := 6) rfl)⟩ rown rfl)) (fun A13 => ?_))
    obtain ⟨h20, H⟩ := rom H
    refine TrL.cons rfl (op_appendAS (rp := (rSl rp_u64_u64)) (xs := r22) (ys := [([] : List (Int × Int))]) (k := 1) (ky := 7) rfl (bl rfl) rfl sl24 ty31 ze31 rfl by31 rfl rfl rfl rfl rfl h20 (fun A14 c12 => ?_))
    refine TrL.v (v_fieldAddr' rfl fo26_2 rfl rfl) rfl rfl (bl rfl) ?_
    refine TrL.cons rfl (op_store' (k := 0) (c' := [.int .i64 r21.1, .int .i64 r21.2.1, .slice A14 ((r22 ++ ([([] : List (Int × Int))])).length) c12]) rfl rfl rfl rfl rfl ty24 rfl (Nat.le_of_ble_eq_true rfl) (ones (oc rfl on)) rfl ?_)
    refine TrL.nil (qthen_n ?_)
    refine Tr.seq ?_
    refine Tr.region ?_
    refine TrL.v (v_load (k := 5) rfl rfl rfl ty26 nofun rfl rfl) rfl rfl (bl rfl) ?_
    refine TrL.cons rfl (op_call0' (vs := [.agg #[.int .i64 r21.1, .int .i64 r21.2.1, .slice m25.1 r21.2.2.length m25.2]]) (cap := []) [1] rfl rfl (bl rfl) rfl rfl en17 (c_law09_copiedO r21 m25.1 m25.2 r22 hr22) rfl (fun ret M' F' hR28 => ?_))
    obtain ⟨m29, rfl, rfl, rfl, hm8⟩ := hR28
    refine TrL.ownRows rfl hm8 ?_
    refine TrL.cons rfl (op_alloc' rfl (bl rfl) rfl ze26 (fun b12 => ?_))
    refine TrL.cons rfl (op_store' (k := 0) (c' := [.int .i64 r21.1, .int .i64 r21.2.1, .slice m29.1 r22.length m29.2.1]) rfl rfl rfl rfl rfl ty26 rfl (Nat.le_of_ble_eq_true rfl) (ones (oc rfl (oc rfl (oc rfl on)))) rfl ?_)
    refine TrL.nil (qthen_n ?_)
    refine Tr.seq ?_
    refine Tr.region ?_
    refine TrL.v (v_fieldAddr' rfl fo26_2 rfl rfl) rfl rfl (bl rfl) ?_
    refine TrL.v (v_load (k := 0) rfl rfl rfl ty24 (fun _ => rfl) rfl rfl) rfl rfl (bl rfl) ?_
    refine TrL.v (v_len rfl sl24 rfl) rfl rfl (bl rfl) ?_
    refine TrL.v (v_arith rfl rfl rfl ar_sub_i64) rfl rfl (bl rfl) ?_
    refine TrL.v (v_assign rfl rfl) rfl rfl (bl rfl) ?_
    refine TrL.nil (qthen_n ?_)
    refine Tr.seq ?_
    refine Tr.regionD drawn (fun hok => ?_)
    refine TrAny.prom (i := 0) (d := 81) hok (OpVal.plain rfl rfl (v_fieldAddr' rfl fo26_2 rfl rfl)) (by kernel_rfl) rfl (bl rfl) ?_
    clear hok
    intro hok
    refine TrAny.prom (i := 1) (d := 82) hok (OpVal.plain rfl rfl (v_load (k := 0) rfl rfl rfl ty24 (fun _ => rfl) rfl rfl)) (by kernel_rfl) rfl (bl rfl) ?_
    clear hok
    intro hok
    refine TrAny.prom (i := 2) (d := 83) hok (OpVal.plain rfl rfl (v_move rfl rfl)) (by kernel_rfl) rfl (bl rfl) ?_
    clear hok
    intro hok
    refine TrAny.prom (i := 3) (d := 84) hok (OpVal.plain rfl rfl (v_fieldAddr' rfl fo26_2 rfl rfl)) (by kernel_rfl) rfl (bl rfl) ?_
    clear hok
    intro hok
    refine TrAny.prom (i := 4) (d := 85) hok (OpVal.plain rfl rfl (v_load (k := 0) rfl rfl rfl ty24 (fun _ => rfl) rfl rfl)) (by kernel_rfl) rfl (bl rfl) ?_
    clear hok
    intro hok
    refine TrAny.prom (i := 5) (d := 86) hok (OpVal.plain rfl rfl (v_move rfl rfl)) (by kernel_rfl) rfl (bl rfl) ?_
    clear hok
    intro hok
    obtain ⟨z19, hz19, H⟩ := bnd H
    refine TrAny.prom (i := 6) (d := 87) hok (OpVal.plain rfl rfl (v_indexA (k := 1) rfl sl24 ty31 rfl rfl rfl hz19)) (by kernel_rfl) rfl (bl rfl) ?_
    clear hok
    intro hok
    refine TrAny.prom (i := 9) (d := 90) hok (OpVal.plain rfl rfl (v_indexA (k := 1) rfl sl24 ty31 rfl rfl rfl hz19)) (by kernel_rfl) rfl (bl rfl) ?_
    clear hok
    intro hok
    refine TrAny.next (j := 7) (by kernel_rfl) hok rfl (by kernel_rfl) (op_loadSl (A := m29.1) (i := (wi64 (((r22.length : Int)) - 1))) (k := 1) rfl (bl rfl) rfl ty31 rfl rfl hz19 (fun A16 c14 => ?_))
    refine nxp hok (kp_imp (kp_cf rfl)) rfl (by kernel_rfl) ?_
    clear hok
    intro hok
    obtain ⟨h22, H⟩ := mst H
    refine TrAny.addF' (slF rp_u64_u64 (slA A16 (1 : Int).toNat c14 2) (c14 - (1 : Int).toNat) (z19.drop (1 : Int).toNat)) (slx1_f (k := 8) rfl h22) hok (fun hok => ?_)
    refine TrAny.prom (i := 8) (d := 89) hok (OpVal.plain rfl rfl (slx1_v (rp := rp_u64_u64) (xs := z19) (k := 8) rfl sl31 ty30 rfl rfl rfl h22 rfl)) (by kernel_rfl) rfl (bl rfl) ?_
    clear hok
    intro hok
    refine TrAny.next (j := 10) (by kernel_rfl) hok rfl (by kernel_rfl) (op_storeSl (A := m29.1) (i := (wi64 (((r22.length : Int)) - 1))) (k := 1) (z' := z19.drop (1 : Int).toNat) rfl rfl rfl rfl rfl ty31 rfl hz19 (fun γ w hF => ⟨_, _, rfl, hF _ (List.mem_of_getElem? (i := 9) rfl)⟩) ?_)
    refine nxs hok (kp_aw (by kernel_rfl)) rfl ?_
    clear hok
    intro hok
    refine TrAny.done (by kernel_rfl) (by kernel_rfl) hok (by kernel_rfl) (qthen_n ?_)
    refine Tr.seq ?_
    refine Tr.seq ?_
    refine Tr.region ?_
    refine TrL.v (v_fieldAddr' rfl fo26_2 rfl rfl) rfl rfl (bl rfl) ?_
    refine TrL.v (v_load (k := 0) rfl rfl rfl ty24 (fun _ => rfl) rfl rfl) rfl rfl (bl rfl) ?_
    refine TrL.v (v_move rfl rfl) rfl rfl (bl rfl) ?_
    obtain ⟨z20, hz20, H⟩ := bnd H
    refine TrL.v (v_indexA (k := 1) rfl sl24 ty31 rfl rfl rfl hz20) rfl rfl (bl rfl) ?_
    refine TrL.cons rfl (op_loadSl (A := m29.1) (i := (wi64 (((r22.length : Int)) - 1))) (k := 1) rfl (bl rfl) rfl ty31 rfl rfl hz20 (fun A17 c15 => ?_))
    refine TrL.v (v_len rfl sl31 rfl) rfl rfl (bl rfl) ?_
    refine TrL.v (v_arith rfl rfl rfl ar_eql) rfl rfl (bl rfl) ?_
    refine TrL.nil (qthen_n ?_)
    obtain ⟨j2, hj2, H⟩ := bnd H
    refine Tr.cutE (D := List (List (Int × Int))) (M := Nat) .normal (fun _d => j2 = _d) (fun j2 m30 => ⟨[(7, .bool r20), (11, .pointer (some ⟨b9, 0, none⟩)), (12, .pointer (some ⟨b10, 0, none⟩)), (14, .pointer (some ⟨b11, 0, none⟩)), (15, .pointer (some ⟨b12, 0, none⟩))], [cells b9 [.int .i64 r21.1, .int .i64 r21.2.1, .slice m26.1 ((r22.set ((wi64 p3).tmod ((r21.2.2.length : Int))).toNat (z13.set (0 : Int).toNat ((wu64 (z12.2 + 1), z12.1)))).length) m26.2.1] 26, cells b10 [.int .i64 r21.1, .int .i64 r21.2.1, .slice m27.1 ((r22.set (0 : Int).toNat (z16.set (wi64 (((z16.length : Int)) - 1)).toNat (((9223372036854775808 : Int), (9223372036854775808 : Int))))).length) m27.2.1] 26, cells b11 [.int .i64 r21.1, .int .i64 r21.2.1, .slice A14 ((r22 ++ ([([] : List (Int × Int))])).length) c12] 26, cells b12 [.int .i64 r21.1, .int .i64 r21.2.1, .slice m29.1 m30 m29.2.1] 26, arr (rSl rp_u64_u64) 31 A14 ((r22 ++ ([([] : List (Int × Int))])).length) c12 (r22 ++ ([([] : List (Int × Int))])), arr (rSl rp_u64_u64) 31 m29.1 m30 m29.2.1 j2], [slF (rSl rp_u64_u64) m26.1 m26.2.1 (r22.set ((wi64 p3).tmod ((r21.2.2.length : Int))).toNat (z13.set (0 : Int).toNat ((wu64 (z12.2 + 1), z12.1)))), slF (rSl rp_u64_u64) m27.1 m27.2.1 (r22.set (0 : Int).toNat (z16.set (wi64 (((z16.length : Int)) - 1)).toNat (((9223372036854775808 : Int), (9223372036854775808 : Int)))))], []⟩) ?_ (fun j2 m30 hd2 => ?_)
    · rcases ifc hj2 with ⟨h25, hj2⟩ | ⟨h25, hj2⟩
      · refine Tr.cond_t rfl (bt_dec h25) ?_
        refine Tr.region ?_
        refine TrL.v (v_fieldAddr' rfl fo26_2 rfl rfl) rfl rfl (bl rfl) ?_
        refine TrL.v (v_load (k := 0) rfl rfl rfl ty24 (fun _ => rfl) rfl rfl) rfl rfl (bl rfl) ?_
        refine TrL.v (v_move rfl rfl) rfl rfl (bl rfl) ?_
        obtain ⟨h26, hj2⟩ := mst hj2
        refine TrL.cons rfl (op_cutAS (k := 1) (n' := (wi64 (((r22.length : Int)) - 1)).toNat) rfl (bl rfl) rfl sl24 ty31 rfl rfl rfl h26 rfl ?_)
        refine TrL.v (v_fieldAddr' rfl fo26_2 rfl rfl) rfl rfl (bl rfl) ?_
        refine TrL.cons rfl (op_store' (k := 0) (c' := [.int .i64 r21.1, .int .i64 r21.2.1, .slice m29.1 ((wi64 (((r22.length : Int)) - 1)).toNat) m29.2.1]) rfl rfl rfl rfl rfl ty24 rfl (Nat.le_of_ble_eq_true rfl) (ones (oc rfl on)) rfl ?_)
        refine TrL.nil (qcut_hit ((r22.set (wi64 (((r22.length : Int)) - 1)).toNat (z19.drop (1 : Int).toNat)).take ((wi64 (((r22.length : Int)) - 1)).toNat)) ((wi64 (((r22.length : Int)) - 1)).toNat) (Option.some.inj hj2).symm (Imp.re _ [5, 4, 2, 0, 3, 1] [4, 5] (sc rfl (sc rfl (sc rfl (sc rfl (sc rfl sn))))) (by decide) rfl rfl rfl))
      · refine Tr.cond_f rfl (bf_dec h25) ?_
        refine Tr.skip (qcut_hit (r22.set (wi64 (((r22.length : Int)) - 1)).toNat (z19.drop (1 : Int).toNat)) r22.length (Option.some.inj hj2).symm (Imp.re _ [5, 4, 2, 0, 3, 1] [4, 5] (sc rfl (sc rfl (sc rfl (sc rfl (sc rfl sn))))) (by decide) rfl rfl rfl))
    · subst hd2
      refine (qthen_n ?_)
      refine Tr.seq ?_
      refine Tr.region ?_
      refine TrL.v (v_move rfl rfl) rfl rfl (bl rfl) ?_
      refine TrL.v (v_move rfl rfl) rfl rfl (bl rfl) ?_
      rcases ifc H with ⟨h31, H⟩ | ⟨h31, H⟩
      · refine TrL.cons_yes rfl rfl rfl h31 (OpTr.v (v_load (k := 0) rfl rfl rfl ty26 nofun rfl rfl) rfl (bl rfl) ?_)
        obtain ⟨r31, hr31, H⟩ := bnd H
        refine TrL.cons_yes rfl rfl rfl h31 (op_call0' (vs := [.agg #[.int .i64 r21.1, .int .i64 r21.2.1, .slice m26.1 ((r22.set ((wi64 p3).tmod ((r21.2.2.length : Int))).toNat (z13.set (0 : Int).toNat ((wu64 (z12.2 + 1), z12.1)))).length) m26.2.1]]) (cap := []) [0] rfl rfl (bl rfl) rfl rfl en19 (c_law09_made ((r21.1, r21.2.1, r22.set ((wi64 p3).tmod ((r21.2.2.length : Int))).toNat (z13.set (0 : Int).toNat ((wu64 (z12.2 + 1), z12.1))))) m26.1 m26.2.1 r31 hr31) rfl (fun ret M' F' hR37 => ?_))
        obtain ⟨rfl, rfl, rfl⟩ := hR37
        obtain ⟨r32, hr32, H⟩ := bnd H
        refine TrL.cons_yes rfl rfl rfl h31 (op_call0' (vs := [.agg #[.int .i64 (((r21.1, r21.2.1, r22.set ((wi64 p3).tmod ((r21.2.2.length : Int))).toNat (z13.set (0 : Int).toNat ((wu64 (z12.2 + 1), z12.1))))).1), .int .i64 (((r21.1, r21.2.1, r22.set ((wi64 p3).tmod ((r21.2.2.length : Int))).toNat (z13.set (0 : Int).toNat ((wu64 (z12.2 + 1), z12.1))))).2.1), .slice m26.1 ((((r21.1, r21.2.1, r22.set ((wi64 p3).tmod ((r21.2.2.length : Int))).toNat (z13.set (0 : Int).toNat ((wu64 (z12.2 + 1), z12.1))))).2.2).length) m26.2.1]]) (cap := []) [2] rfl rfl (bl rfl) rfl rfl en18 (c_check_Hist (((r21.1, r21.2.1, r22.set ((wi64 p3).tmod ((r21.2.2.length : Int))).toNat (z13.set (0 : Int).toNat ((wu64 (z12.2 + 1), z12.1)))))) m26.1 m26.2.1 r32 hr32) rfl (fun ret M' F' hR38 => ?_))
        obtain ⟨rfl, rfl, rfl⟩ := hR38
        refine TrL.cons_yes rfl rfl rfl h31 (OpTr.v (v_arith rfl rfl rfl ar_eql) rfl (bl rfl) ?_)
        refine TrL.v (v_pick_t rfl rfl h31 rfl) rfl rfl (bl rfl) ?_
        refine TrL.v (v_move rfl rfl) rfl rfl (bl rfl) ?_
        rcases ifc H with ⟨h32, H⟩ | ⟨h32, H⟩
        · refine TrL.cons_yes rfl rfl rfl (bt_dec h32) (OpTr.v (v_load (k := 1) rfl rfl rfl ty26 nofun rfl rfl) rfl (bl rfl) ?_)
          obtain ⟨r33, hr33, H⟩ := bnd H
          refine TrL.cons_yes rfl rfl rfl (bt_dec h32) (op_call0' (vs := [.agg #[.int .i64 r21.1, .int .i64 r21.2.1, .slice m27.1 ((r22.set (0 : Int).toNat (z16.set (wi64 (((z16.length : Int)) - 1)).toNat (((9223372036854775808 : Int), (9223372036854775808 : Int))))).length) m27.2.1]]) (cap := []) [1] rfl rfl (bl rfl) rfl rfl en19 (c_law09_made ((r21.1, r21.2.1, r22.set (0 : Int).toNat (z16.set (wi64 (((z16.length : Int)) - 1)).toNat (((9223372036854775808 : Int), (9223372036854775808 : Int)))))) m27.1 m27.2.1 r33 hr33) rfl (fun ret M' F' hR39 => ?_))
          obtain ⟨rfl, rfl, rfl⟩ := hR39
          obtain ⟨r34, hr34, H⟩ := bnd H
          refine TrL.cons_yes rfl rfl rfl (bt_dec h32) (op_call0' (vs := [.agg #[.int .i64 (((r21.1, r21.2.1, r22.set (0 : Int).toNat (z16.set (wi64 (((z16.length : Int)) - 1)).toNat (((9223372036854775808 : Int), (9223372036854775808 : Int)))))).1), .int .i64 (((r21.1, r21.2.1, r22.set (0 : Int).toNat (z16.set (wi64 (((z16.length : Int)) - 1)).toNat (((9223372036854775808 : Int), (9223372036854775808 : Int)))))).2.1), .slice m27.1 ((((r21.1, r21.2.1, r22.set (0 : Int).toNat (z16.set (wi64 (((z16.length : Int)) - 1)).toNat (((9223372036854775808 : Int), (9223372036854775808 : Int)))))).2.2).length) m27.2.1]]) (cap := []) [3] rfl rfl (bl rfl) rfl rfl en18 (c_check_Hist (((r21.1, r21.2.1, r22.set (0 : Int).toNat (z16.set (wi64 (((z16.length : Int)) - 1)).toNat (((9223372036854775808 : Int), (9223372036854775808 : Int))))))) m27.1 m27.2.1 r34 hr34) rfl (fun ret M' F' hR40 => ?_))
          obtain ⟨rfl, rfl, rfl⟩ := hR40
          refine TrL.cons_yes rfl rfl rfl (bt_dec h32) (OpTr.v (v_arith rfl rfl rfl ar_eql) rfl (bl rfl) ?_)
          refine TrL.v (v_pick_t rfl rfl (bt_dec h32) rfl) rfl rfl (bl rfl) ?_
          refine TrL.v (v_move rfl rfl) rfl rfl (bl rfl) ?_
          rcases ifc H with ⟨h33, H⟩ | ⟨h33, H⟩
          · refine TrL.cons_yes rfl rfl rfl (bt_dec h33) (OpTr.v (v_load (k := 2) rfl rfl rfl ty26 nofun rfl rfl) rfl (bl rfl) ?_)
            refine TrL.shut' 4 rfl ?_
            obtain ⟨r35, hr35, H⟩ := bnd H
            refine TrL.cons_yes rfl rfl rfl (bt_dec h33) (op_call0' (vs := [.agg #[.int .i64 r21.1, .int .i64 r21.2.1, .slice A14 ((r22 ++ ([([] : List (Int × Int))])).length) c12]]) (cap := []) [4] rfl rfl (bl rfl) rfl rfl en19 (c_law09_made ((r21.1, r21.2.1, r22 ++ ([([] : List (Int × Int))]))) A14 c12 r35 hr35) rfl (fun ret M' F' hR41 => ?_))
            obtain ⟨rfl, rfl, rfl⟩ := hR41
            obtain ⟨r36, hr36, H⟩ := bnd H
            refine TrL.cons_yes rfl rfl rfl (bt_dec h33) (op_call0' (vs := [.agg #[.int .i64 (((r21.1, r21.2.1, r22 ++ ([([] : List (Int × Int))]))).1), .int .i64 (((r21.1, r21.2.1, r22 ++ ([([] : List (Int × Int))]))).2.1), .slice A14 ((((r21.1, r21.2.1, r22 ++ ([([] : List (Int × Int))]))).2.2).length) c12]]) (cap := []) [5] rfl rfl (bl rfl) rfl rfl en18 (c_check_Hist (((r21.1, r21.2.1, r22 ++ ([([] : List (Int × Int))])))) A14 c12 r36 hr36) rfl (fun ret M' F' hR42 => ?_))
            obtain ⟨rfl, rfl, rfl⟩ := hR42
            refine TrL.cons_yes rfl rfl rfl (bt_dec h33) (OpTr.v (v_arith rfl rfl rfl ar_eql) rfl (bl rfl) ?_)
            refine TrL.v (v_pick_t rfl rfl (bt_dec h33) rfl) rfl rfl (bl rfl) ?_
            refine TrL.v (v_move rfl rfl) rfl rfl (bl rfl) ?_
            rcases ifc H with ⟨h34, H⟩ | ⟨h34, H⟩
            · refine TrL.cons_yes rfl rfl rfl (bt_dec h34) (OpTr.v (v_load (k := 3) rfl rfl rfl ty26 nofun rfl rfl) rfl (bl rfl) ?_)
              refine TrL.renormF (fun nn => ⟨[(7, .bool r20), (11, .pointer (some ⟨b9, 0, none⟩)), (12, .pointer (some ⟨b10, 0, none⟩)), (14, .pointer (some ⟨b11, 0, none⟩)), (15, .pointer (some ⟨b12, 0, none⟩)), (103, .bool r20), (104, .bool r20), (105, .agg #[.int .i64 r21.1, .int .i64 r21.2.1, .slice m26.1 ((r22.set ((wi64 p3).tmod ((r21.2.2.length : Int))).toNat (z13.set (0 : Int).toNat ((wu64 (z12.2 + 1), z12.1)))).length) m26.2.1]), (106, .agg #[.int .i64 (((r21.1, r21.2.1, r22.set ((wi64 p3).tmod ((r21.2.2.length : Int))).toNat (z13.set (0 : Int).toNat ((wu64 (z12.2 + 1), z12.1))))).1), .int .i64 (((r21.1, r21.2.1, r22.set ((wi64 p3).tmod ((r21.2.2.length : Int))).toNat (z13.set (0 : Int).toNat ((wu64 (z12.2 + 1), z12.1))))).2.1), .slice m26.1 ((((r21.1, r21.2.1, r22.set ((wi64 p3).tmod ((r21.2.2.length : Int))).toNat (z13.set (0 : Int).toNat ((wu64 (z12.2 + 1), z12.1))))).2.2).length) m26.2.1]), (107, .int .i64 r32), (108, .bool (decide (r32 = 2))), (109, .bool (decide (r32 = 2))), (110, .bool (decide (r32 = 2))), (111, .agg #[.int .i64 r21.1, .int .i64 r21.2.1, .slice m27.1 ((r22.set (0 : Int).toNat (z16.set (wi64 (((z16.length : Int)) - 1)).toNat (((9223372036854775808 : Int), (9223372036854775808 : Int))))).length) m27.2.1]), (112, .agg #[.int .i64 (((r21.1, r21.2.1, r22.set (0 : Int).toNat (z16.set (wi64 (((z16.length : Int)) - 1)).toNat (((9223372036854775808 : Int), (9223372036854775808 : Int)))))).1), .int .i64 (((r21.1, r21.2.1, r22.set (0 : Int).toNat (z16.set (wi64 (((z16.length : Int)) - 1)).toNat (((9223372036854775808 : Int), (9223372036854775808 : Int)))))).2.1), .slice m27.1 ((((r21.1, r21.2.1, r22.set (0 : Int).toNat (z16.set (wi64 (((z16.length : Int)) - 1)).toNat (((9223372036854775808 : Int), (9223372036854775808 : Int)))))).2.2).length) m27.2.1]), (113, .int .i64 r34), (114, .bool (decide (r34 = 2))), (115, .bool (decide (r34 = 2))), (116, .bool (decide (r34 = 2))), (117, .agg #[.int .i64 r21.1, .int .i64 r21.2.1, .slice A14 ((r22 ++ ([([] : List (Int × Int))])).length) c12]), (118, .agg #[.int .i64 (((r21.1, r21.2.1, r22 ++ ([([] : List (Int × Int))]))).1), .int .i64 (((r21.1, r21.2.1, r22 ++ ([([] : List (Int × Int))]))).2.1), .slice A14 ((((r21.1, r21.2.1, r22 ++ ([([] : List (Int × Int))]))).2.2).length) c12]), (119, .int .i64 r36), (120, .bool (decide (r36 = 2))), (121, .bool (decide (r36 = 2))), (122, .bool (decide (r36 = 2))), (123, .agg #[.int .i64 r21.1, .int .i64 r21.2.1, .slice m29.1 nn m29.2.1])], [cells b9 [.int .i64 r21.1, .int .i64 r21.2.1, .slice m26.1 ((r22.set ((wi64 p3).tmod ((r21.2.2.length : Int))).toNat (z13.set (0 : Int).toNat ((wu64 (z12.2 + 1), z12.1)))).length) m26.2.1] 26, cells b10 [.int .i64 r21.1, .int .i64 r21.2.1, .slice m27.1 ((r22.set (0 : Int).toNat (z16.set (wi64 (((z16.length : Int)) - 1)).toNat (((9223372036854775808 : Int), (9223372036854775808 : Int))))).length) m27.2.1] 26, cells b11 [.int .i64 r21.1, .int .i64 r21.2.1, .slice A14 ((r22 ++ ([([] : List (Int × Int))])).length) c12] 26, cells b12 [.int .i64 r21.1, .int .i64 r21.2.1, .slice m29.1 nn m29.2.1] 26, arr (rSl rp_u64_u64) 31 m29.1 nn m29.2.1 j2], [slF (rSl rp_u64_u64) m26.1 m26.2.1 (r22.set ((wi64 p3).tmod ((r21.2.2.length : Int))).toNat (z13.set (0 : Int).toNat ((wu64 (z12.2 + 1), z12.1)))), slF (rSl rp_u64_u64) m27.1 m27.2.1 (r22.set (0 : Int).toNat (z16.set (wi64 (((z16.length : Int)) - 1)).toNat (((9223372036854775808 : Int), (9223372036854775808 : Int))))), slF (rSl rp_u64_u64) m26.1 m26.2.1 (((r21.1, r21.2.1, r22.set ((wi64 p3).tmod ((r21.2.2.length : Int))).toNat (z13.set (0 : Int).toNat ((wu64 (z12.2 + 1), z12.1))))).2.2), slF (rSl rp_u64_u64) m27.1 m27.2.1 (((r21.1, r21.2.1, r22.set (0 : Int).toNat (z16.set (wi64 (((z16.length : Int)) - 1)).toNat (((9223372036854775808 : Int), (9223372036854775808 : Int)))))).2.2), slF (rSl rp_u64_u64) A14 c12 (r22 ++ ([([] : List (Int × Int))])), slF (rSl rp_u64_u64) A14 c12 (((r21.1, r21.2.1, r22 ++ ([([] : List (Int × Int))]))).2.2)], []⟩) 4 (Imp.re _ [0, 1, 2, 3, 4] [0, 1, 2, 3, 4, 5] (sc rfl (sc rfl (sc rfl (sc rfl (sc rfl (sc rfl (sc rfl (sc rfl (sc rfl (sc rfl (sc rfl (sc rfl (sc rfl (sc rfl (sc rfl (sc rfl (sc rfl (sc rfl (sc rfl (sc rfl (sc rfl (sc rfl (sc rfl (sc rfl (sc rfl (sc rfl sn)))))))))))))))))))))))))) (by decide) rfl rfl rfl) rfl ?_
              refine TrL.shut' 4 rfl ?_
              obtain ⟨r37, hr37, H⟩ := bnd H
              refine TrL.cons_yes rfl rfl rfl (bt_dec h34) (op_call0' (vs := [.agg #[.int .i64 r21.1, .int .i64 r21.2.1, .slice m29.1 j2.length m29.2.1]]) (cap := []) [6] rfl rfl (bl rfl) rfl rfl en19 (c_law09_made ((r21.1, r21.2.1, j2)) m29.1 m29.2.1 r37 hr37) rfl (fun ret M' F' hR43 => ?_))
              obtain ⟨rfl, rfl, rfl⟩ := hR43
              obtain ⟨r38, hr38, H⟩ := bnd H
              refine TrL.cons_yes rfl rfl rfl (bt_dec h34) (op_call0' (vs := [.agg #[.int .i64 (((r21.1, r21.2.1, j2)).1), .int .i64 (((r21.1, r21.2.1, j2)).2.1), .slice m29.1 ((((r21.1, r21.2.1, j2)).2.2).length) m29.2.1]]) (cap := []) [7] rfl rfl (bl rfl) rfl rfl en18 (c_check_Hist (((r21.1, r21.2.1, j2))) m29.1 m29.2.1 r38 hr38) rfl (fun ret M' F' hR44 => ?_))
              obtain ⟨rfl, rfl, rfl⟩ := hR44
              refine TrL.cons_yes rfl rfl rfl (bt_dec h34) (OpTr.v (v_arith rfl rfl rfl ar_eql) rfl (bl rfl) ?_)
              refine TrL.v (v_pick_t rfl rfl (bt_dec h34) rfl) rfl rfl (bl rfl) ?_
              refine TrL.v (v_assign rfl rfl) rfl rfl (bl rfl) ?_
              refine TrL.nil (qthen_n ?_)
              have hz := Option.some.inj H
              subst hz
              refine Tr.ret (ret_r ⟨[(6, .bool (decide (r38 = 0)))], [], [], []⟩ [.bool (decide (r38 = 0))] [] [] (Imp.re _ [] [] (sc rfl sn) (by decide) rfl rfl rfl) rfl rfl ⟨rfl, rfl, rfl⟩ (.cons (resv_tmp rfl) .nil))
            · refine TrL.cons_no rfl rfl rfl (gn_t (bf_dec h34)) rfl (bl rfl) ?_
              refine TrL.cons_no rfl rfl rfl (gn_t (bf_dec h34)) rfl (bl rfl) ?_
              refine TrL.cons_no rfl rfl rfl (gn_t (bf_dec h34)) rfl (bl rfl) ?_
              refine TrL.cons_no rfl rfl rfl (gn_t (bf_dec h34)) rfl (bl rfl) ?_
              refine TrL.v (v_pick_f rfl rfl (bf_dec h34) rfl) rfl rfl (bl rfl) ?_
              refine TrL.v (v_assign rfl rfl) rfl rfl (bl rfl) ?_
              refine TrL.nil (qthen_n ?_)
              have hz := Option.some.inj H
              subst hz
              refine Tr.ret (ret_r ⟨[(6, .bool false)], [], [], []⟩ [.bool false] [] [] (Imp.re _ [] [] (sc rfl sn) (by decide) rfl rfl rfl) rfl rfl ⟨rfl, rfl, rfl⟩ (.cons (resv_tmp rfl) .nil))
          · refine TrL.cons_no rfl rfl rfl (gn_t (bf_dec h33)) rfl (bl rfl) ?_
            refine TrL.cons_no rfl rfl rfl (gn_t (bf_dec h33)) rfl (bl rfl) ?_
            refine TrL.cons_no rfl rfl rfl (gn_t (bf_dec h33)) rfl (bl rfl) ?_
            refine TrL.cons_no rfl rfl rfl (gn_t (bf_dec h33)) rfl (bl rfl) ?_
            refine TrL.v (v_pick_f rfl rfl (bf_dec h33) rfl) rfl rfl (bl rfl) ?_
            refine TrL.v (v_move rfl rfl) rfl rfl (bl rfl) ?_
            refine TrL.cons_no rfl rfl rfl (gn_t rfl) rfl (bl rfl) ?_
            refine TrL.cons_no rfl rfl rfl (gn_t rfl) rfl (bl rfl) ?_
            refine TrL.cons_no rfl rfl rfl (gn_t rfl) rfl (bl rfl) ?_
            refine TrL.cons_no rfl rfl rfl (gn_t rfl) rfl (bl rfl) ?_
            refine TrL.v (v_pick_f rfl rfl rfl rfl) rfl rfl (bl rfl) ?_
            refine TrL.v (v_assign rfl rfl) rfl rfl (bl rfl) ?_
            refine TrL.nil (qthen_n ?_)
            have hz := Option.some.inj H
            subst hz
            refine Tr.ret (ret_r ⟨[(6, .bool false)], [], [], []⟩ [.bool false] [] [] (Imp.re _ [] [] (sc rfl sn) (by decide) rfl rfl rfl) rfl rfl ⟨rfl, rfl, rfl⟩ (.cons (resv_tmp rfl) .nil))
        · refine TrL.cons_no rfl rfl rfl (gn_t (bf_dec h32)) rfl (bl rfl) ?_
          refine TrL.cons_no rfl rfl rfl (gn_t (bf_dec h32)) rfl (bl rfl) ?_
          refine TrL.cons_no rfl rfl rfl (gn_t (bf_dec h32)) rfl (bl rfl) ?_
          refine TrL.cons_no rfl rfl rfl (gn_t (bf_dec h32)) rfl (bl rfl) ?_
          refine TrL.v (v_pick_f rfl rfl (bf_dec h32) rfl) rfl rfl (bl rfl) ?_
          refine TrL.v (v_move rfl rfl) rfl rfl (bl rfl) ?_
          refine TrL.cons_no rfl rfl rfl (gn_t rfl) rfl (bl rfl) ?_
          refine TrL.cons_no rfl rfl rfl (gn_t rfl) rfl (bl rfl) ?_
          refine TrL.cons_no rfl rfl rfl (gn_t rfl) rfl (bl rfl) ?_
          refine TrL.cons_no rfl rfl rfl (gn_t rfl) rfl (bl rfl) ?_
          refine TrL.v (v_pick_f rfl rfl rfl rfl) rfl rfl (bl rfl) ?_
          refine TrL.v (v_move rfl rfl) rfl rfl (bl rfl) ?_
          refine TrL.cons_no rfl rfl rfl (gn_t rfl) rfl (bl rfl) ?_
          refine TrL.cons_no rfl rfl rfl (gn_t rfl) rfl (bl rfl) ?_
          refine TrL.cons_no rfl rfl rfl (gn_t rfl) rfl (bl rfl) ?_
          refine TrL.cons_no rfl rfl rfl (gn_t rfl) rfl (bl rfl) ?_
          refine TrL.v (v_pick_f rfl rfl rfl rfl) rfl rfl (bl rfl) ?_
          refine TrL.v (v_assign rfl rfl) rfl rfl (bl rfl) ?_
          refine TrL.nil (qthen_n ?_)
          have hz := Option.some.inj H
          subst hz
          refine Tr.ret (ret_r ⟨[(6, .bool false)], [], [], []⟩ [.bool false] [] [] (Imp.re _ [] [] (sc rfl sn) (by decide) rfl rfl rfl) rfl rfl ⟨rfl, rfl, rfl⟩ (.cons (resv_tmp rfl) .nil))
      · refine TrL.cons_no rfl rfl rfl (gn_t (bf_b h31)) rfl (bl rfl) ?_
        refine TrL.cons_no rfl rfl rfl (gn_t (bf_b h31)) rfl (bl rfl) ?_
        refine TrL.cons_no rfl rfl rfl (gn_t (bf_b h31)) rfl (bl rfl) ?_
        refine TrL.cons_no rfl rfl rfl (gn_t (bf_b h31)) rfl (bl rfl) ?_
        refine TrL.v (v_pick_f rfl rfl (bf_b h31) rfl) rfl rfl (bl rfl) ?_
        refine TrL.v (v_move rfl rfl) rfl rfl (bl rfl) ?_
        refine TrL.cons_no rfl rfl rfl (gn_t rfl) rfl (bl rfl) ?_
        refine TrL.cons_no rfl rfl rfl (gn_t rfl) rfl (bl rfl) ?_
        refine TrL.cons_no rfl rfl rfl (gn_t rfl) rfl (bl rfl) ?_
        refine TrL.cons_no rfl rfl rfl (gn_t rfl) rfl (bl rfl) ?_
        refine TrL.v (v_pick_f rfl rfl rfl rfl) rfl rfl (bl rfl) ?_
        refine TrL.v (v_move rfl rfl) rfl rfl (bl rfl) ?_
        refine TrL.cons_no rfl rfl rfl (gn_t rfl) rfl (bl rfl) ?_
        refine TrL.cons_no rfl rfl rfl (gn_t rfl) rfl (bl rfl) ?_
        refine TrL.cons_no rfl rfl rfl (gn_t rfl) rfl (bl rfl) ?_
        refine TrL.cons_no rfl rfl rfl (gn_t rfl) rfl (bl rfl) ?_
        refine TrL.v (v_pick_f rfl rfl rfl rfl) rfl rfl (bl rfl) ?_
        refine TrL.v (v_move rfl rfl) rfl rfl (bl rfl) ?_
        refine TrL.cons_no rfl rfl rfl (gn_t rfl) rfl (bl rfl) ?_
        refine TrL.cons_no rfl rfl rfl (gn_t rfl) rfl (bl rfl) ?_
        refine TrL.cons_no rfl rfl rfl (gn_t rfl) rfl (bl rfl) ?_
        refine TrL.cons_no rfl rfl rfl (gn_t rfl) rfl (bl rfl) ?_
        refine TrL.v (v_pick_f rfl rfl rfl rfl) rfl rfl (bl rfl) ?_
        refine TrL.v (v_assign rfl rfl) rfl rfl (bl rfl) ?_
        refine TrL.nil (qthen_n ?_)
        have hz := Option.some.inj H
        subst hz
        refine Tr.ret (ret_r ⟨[(6, .bool false)], [], [], []⟩ [.bool false] [] [] (Imp.re _ [] [] (sc rfl sn) (by decide) rfl rfl rfl) rfl rfl ⟨rfl, rfl, rfl⟩ (.cons (resv_tmp rfl) .nil))
end Go.Proofs.Ytbeknohemgjfbaa.W
