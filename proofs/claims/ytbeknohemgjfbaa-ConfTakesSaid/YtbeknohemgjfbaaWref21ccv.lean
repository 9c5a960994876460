import Derived.Test.YtbeknohemgjfbaaKcv
import Derived.Test.YtbeknohemgjfbaaQcv
import Derived.Test.YtbeknohemgjfbaaWref21acv
import Derived.Test.YtbeknohemgjfbaaWref21bcv
namespace Go.Proofs.Ytbeknohemgjfbaa.W
open Go Go.Proofs Go.Proofs.Ytbeknohemgjfbaa.L Go.Proofs.Ytbeknohemgjfbaa.Pu
set_option linter.unusedVariables false
set_option maxHeartbeats 4000000

theorem c_ref21_Take (p1 : List Int × Int) (A1 : Option Addr) (c1 : Nat) (r : List Int × Int × Int × Int × Int × Int × Int × Int × (List (Int × Int)) × Int × Int) (H : ref21_Take p1 = some r) :
  Ctr Try.prog 52 [.agg #[.slice A1 p1.1.length c1, .int .i64 p1.2]] [] [slF (rInt .u8) A1 c1 p1.1] (fun ret M' F' => ∃ m : Option Addr × Nat × Option Addr × Nat, ret = .tuple #[.agg #[.slice m.1 r.1.length m.2.1, .int .i64 r.2.1], .agg #[.int .i64 r.2.2.1, .int .i64 r.2.2.2.1, .int .u64 r.2.2.2.2.1, .int .u64 r.2.2.2.2.2.1, .int .i64 r.2.2.2.2.2.2.1, .int .i64 r.2.2.2.2.2.2.2.1, .slice m.2.2.1 r.2.2.2.2.2.2.2.2.1.length m.2.2.2, .int .i64 r.2.2.2.2.2.2.2.2.2.1, .int .i64 r.2.2.2.2.2.2.2.2.2.2]] ∧ M' = [] ∧ F' = [slF (rInt .u8) m.1 m.2.1 r.1, slF rp_u64_u64 m.2.2.1 m.2.2.2 r.2.2.2.2.2.2.2.2.1]) := by
 unfold ref21_Take at H
 refine ctr_ofI (N := 57) Try.func52 rfl Try.ntmps52 rfl (Nat.le_of_ble_eq_true rfl) (fun γ0 w0 => ?_)
 refine Tr.seq ?_
 refine Tr.region ?_
 refine TrL.cons rfl (op_box' rfl (bl rfl) rfl rfl rfl (fun b11 => ?_))
 refine TrL.cons rfl (op_alloc' rfl (bl rfl) rfl ze51 (fun b12 => ?_))
 refine TrL.cons rfl (op_alloc' rfl (bl rfl) rfl ze91 (fun b13 => ?_))
 refine TrL.nil (qthen_n ?_)
 refine Tr.seq ?_
 refine Tr.region ?_
 refine TrL.v (v_load (k := 2) rfl rfl rfl ty51 nofun rfl rfl) rfl rfl (bl rfl) ?_
 refine TrL.cons rfl (op_buildSlice' (rp := (rInt .u64)) (xs := [(3 : Int), (4611686018427387904 : Int), (4611686018427387904 : Int), (1024 : Int)]) (vs := [.int .u64 3, .int .u64 4611686018427387904, .int .u64 4611686018427387904, .int .u64 1024]) (out := [.int .u64 3, .int .u64 4611686018427387904, .int .u64 4611686018427387904, .int .u64 1024]) rfl (bl rfl) rfl sl182 ty28 ze28 rfl rfl (by decide) (by decide) rfl (fun γ w hF => (rowc rfl (rowc rfl (rowc rfl (rowc rfl rown rfl) rfl) rfl) rfl)) (fun A3 => ?_))
 obtain ⟨r7, hr7, H⟩ := bnd H
 refine TrL.cons rfl (op_call0' (vs := [.agg #[.slice A1 p1.1.length c1, .int .i64 p1.2], .slice A3 4 4]) (cap := []) [0, 1] rfl rfl (bl rfl) rfl rfl en110 (c_ref21_read p1 ([(3 : Int), (4611686018427387904 : Int), (4611686018427387904 : Int), (1024 : Int)]) A1 c1 A3 4 r7 hr7) rfl (fun ret M' F' hR7 => ?_))
 obtain ⟨m9, rfl, rfl, rfl⟩ := hR7
 refine TrL.v (v_move rfl rfl) rfl rfl (bl rfl) ?_
 refine TrL.v (v_extract rfl rfl rfl) rfl rfl (bl rfl) ?_
 refine TrL.v (v_extract rfl rfl rfl) rfl rfl (bl rfl) ?_
 refine TrL.cons rfl (op_alloc' rfl (bl rfl) rfl ze51 (fun b14 => ?_))
 refine TrL.cons rfl (op_store' (k := 0) (c' := [.slice m9.1 r7.1.length m9.2.1, .int .i64 r7.2.1]) rfl rfl rfl rfl rfl ty51 rfl (Nat.le_of_ble_eq_true rfl) (ones (oc rfl (oc rfl on))) rfl ?_)
 refine TrL.v (v_assign rfl rfl) rfl rfl (bl rfl) ?_
 refine TrL.nil (qthen_n ?_)
 refine Tr.seq ?_
 refine Tr.regionD drawn (fun hok => ?_)
 refine TrAny.prom (i := 0) (d := 15) hok (OpVal.plain rfl rfl (v_move rfl rfl)) (by kernel_rfl) rfl (bl rfl) ?_
 clear hok
 intro hok
 obtain ⟨z13, hz13, H⟩ := bnd H
 refine TrAny.prom (i := 1) (d := 16) hok (OpVal.plain rfl rfl (v_indexAddr (k := 3) rfl sl182 ty28 rfl rfl rfl rfl hz13)) (by kernel_rfl) rfl (bl rfl) ?_
 clear hok
 intro hok
 refine TrAny.prom (i := 2) (d := 17) hok (OpVal.plain rfl rfl (v_loadg (A := m9.2.2.1) (i := 0) (j := 0) (k := 3) rfl ty28 (fun _ => rfl) rfl rfl hz13 rfl rfl)) (by kernel_rfl) rfl (bl rfl) ?_
 clear hok
 intro hok
 refine TrAny.prom (i := 3) (d := 18) hok (OpVal.plain rfl rfl (v_conv' rfl ⟨_, Try.underlying28⟩ Try.underlying3 rfl wrap_i64')) (by kernel_rfl) rfl (bl rfl) ?_
 clear hok
 intro hok
 refine TrAny.prom (i := 4) (d := 19) hok (OpVal.plain rfl rfl (v_move rfl rfl)) (by kernel_rfl) rfl (bl rfl) ?_
 clear hok
 intro hok
 obtain ⟨z14, hz14, H⟩ := bnd H
 refine TrAny.prom (i := 5) (d := 20) hok (OpVal.plain rfl rfl (v_indexAddr (k := 3) rfl sl182 ty28 rfl rfl rfl rfl hz14)) (by kernel_rfl) rfl (bl rfl) ?_
 clear hok
 intro hok
 refine TrAny.prom (i := 6) (d := 21) hok (OpVal.plain rfl rfl (v_loadg (A := m9.2.2.1) (i := 1) (j := 0) (k := 3) rfl ty28 (fun _ => rfl) rfl rfl hz14 rfl rfl)) (by kernel_rfl) rfl (bl rfl) ?_
 clear hok
 intro hok
 refine TrAny.prom (i := 7) (d := 22) hok (OpVal.plain rfl rfl (v_move rfl rfl)) (by kernel_rfl) rfl (bl rfl) ?_
 clear hok
 intro hok
 obtain ⟨z15, hz15, H⟩ := bnd H
 refine TrAny.prom (i := 8) (d := 23) hok (OpVal.plain rfl rfl (v_indexAddr (k := 3) rfl sl182 ty28 rfl rfl rfl rfl hz15)) (by kernel_rfl) rfl (bl rfl) ?_
 clear hok
 intro hok
 refine TrAny.prom (i := 9) (d := 24) hok (OpVal.plain rfl rfl (v_loadg (A := m9.2.2.1) (i := 2) (j := 0) (k := 3) rfl ty28 (fun _ => rfl) rfl rfl hz15 rfl rfl)) (by kernel_rfl) rfl (bl rfl) ?_
 clear hok
 intro hok
 refine TrAny.prom (i := 10) (d := 25) hok (OpVal.plain rfl rfl (v_move rfl rfl)) (by kernel_rfl) rfl (bl rfl) ?_
 clear hok
 intro hok
 obtain ⟨z16, hz16, H⟩ := bnd H
 refine TrAny.prom (i := 11) (d := 26) hok (OpVal.plain rfl rfl (v_indexAddr (k := 3) rfl sl182 ty28 rfl rfl rfl rfl hz16)) (by kernel_rfl) rfl (bl rfl) ?_
 clear hok
 intro hok
 refine TrAny.prom (i := 12) (d := 27) hok (OpVal.plain rfl rfl (v_loadg (A := m9.2.2.1) (i := 3) (j := 0) (k := 3) rfl ty28 (fun _ => rfl) rfl rfl hz16 rfl rfl)) (by kernel_rfl) rfl (bl rfl) ?_
 clear hok
 intro hok
 refine TrAny.prom (i := 13) (d := 28) hok (OpVal.plain rfl rfl (v_conv' rfl ⟨_, Try.underlying28⟩ Try.underlying3 rfl wrap_i64')) (by kernel_rfl) rfl (bl rfl) ?_
 clear hok
 intro hok
 refine TrAny.prom (i := 14) (d := 29) hok (OpVal.plain rfl rfl (v_build (vs := [.int .i64 (wi64 z13), .int .u64 z14, .int .u64 z15, .int .i64 (wi64 z16)]) (out := [.int .i64 (wi64 z13), .int .i64 0, .int .u64 z14, .int .u64 z15, .int .i64 (wi64 z16), .int .i64 0, .slice none 0 0, .int .i64 0, .int .i64 0]) rfl pl91 ze91 rfl rfl)) (by kernel_rfl) rfl (bl rfl) ?_
 clear hok
 intro hok
 refine TrAny.next (j := 15) (by kernel_rfl) hok rfl (by kernel_rfl) (op_alloc' rfl (bl rfl) rfl ze91 (fun b16 => ?_))
 refine nxp hok (kp_imp (kp_cm rfl)) rfl (by kernel_rfl) ?_
 clear hok
 intro hok
 refine TrAny.next (j := 16) (by kernel_rfl) hok rfl (by kernel_rfl) (op_store' (k := 0) (c' := [.int .i64 (wi64 z13), .int .i64 0, .int .u64 z14, .int .u64 z15, .int .i64 (wi64 z16), .int .i64 0, .slice none 0 0, .int .i64 0, .int .i64 0]) rfl rfl rfl rfl rfl ty91 rfl (Nat.le_of_ble_eq_true rfl) (ones (oc rfl (oc rfl (oc rfl (oc rfl (oc rfl (oc rfl (oc rfl (oc rfl (oc rfl on)))))))))) rfl ?_)
 refine nxs hok (kp_aw (by kernel_rfl)) rfl ?_
 clear hok
 intro hok
 refine TrAny.done (by kernel_rfl) (by kernel_rfl) hok (by kernel_rfl) (qthen_n ?_)
 refine Tr.seq ?_
 refine Tr.seq ?_
 refine Tr.region ?_
 refine TrL.v (v_fieldAddr' rfl fo51_1 rfl rfl) rfl rfl (bl rfl) ?_
 refine TrL.v (v_load (k := 1) rfl rfl rfl ty3 (fun _ => rfl) rfl rfl) rfl rfl (bl rfl) ?_
 refine TrL.v (v_arith rfl rfl rfl ar_eql) rfl rfl (bl rfl) ?_
 refine TrL.nil (qthen_n ?_)
 obtain ⟨j3, hj3, H⟩ := bnd H
 refine Tr.cutE (D := List Int × Int × Int × Int × Int × Int × Int × Int × (List (Int × Int)) × Int × Int) (M := Option Addr × Nat × Option Addr × Nat) .normal (fun _d => j3 = _d) (fun j3 m11 => ⟨[(2, .pointer (some ⟨b12, 0, none⟩)), (3, .pointer (some ⟨b13, 0, none⟩)), (4, .pointer (some ⟨b14, 0, none⟩)), (6, .pointer (some ⟨b16, 0, none⟩))], [cells b12 [.slice none 0 0, .int .i64 0] 51, cells b13 [.int .i64 0, .int .i64 0, .int .u64 0, .int .u64 0, .int .i64 0, .int .i64 0, .slice none 0 0, .int .i64 0, .int .i64 0] 91, cells b14 [.slice m11.1 j3.1.length m11.2.1, .int .i64 j3.2.1] 51, cells b16 [.int .i64 j3.2.2.1, .int .i64 j3.2.2.2.1, .int .u64 j3.2.2.2.2.1, .int .u64 j3.2.2.2.2.2.1, .int .i64 j3.2.2.2.2.2.2.1, .int .i64 j3.2.2.2.2.2.2.2.1, .slice m11.2.2.1 j3.2.2.2.2.2.2.2.2.1.length m11.2.2.2, .int .i64 j3.2.2.2.2.2.2.2.2.2.1, .int .i64 j3.2.2.2.2.2.2.2.2.2.2] 91], [slF (rInt .u8) none 0 (([] : List Int)), slF rp_u64_u64 none 0 (([] : List (Int × Int))), slF (rInt .u8) m11.1 m11.2.1 j3.1, slF rp_u64_u64 m11.2.2.1 m11.2.2.2 j3.2.2.2.2.2.2.2.2.1], []⟩) ?_ (fun j3 m11 hd3 => ?_)
 ·rcases ifc hj3 with ⟨h9, hj3⟩ | ⟨h9, hj3⟩
  ·refine Tr.cond_t rfl (bt_dec h9) ?_
   refine Tr.seq ?_
   refine Tr.region ?_
   refine TrL.v (v_load (k := 1) rfl rfl rfl ty51 nofun rfl rfl) rfl rfl (bl rfl) ?_
   refine TrL.v (v_load (k := 0) rfl rfl rfl ty91 nofun rfl rfl) rfl rfl (bl rfl) ?_
   refine TrL.addF' (slF rp_u64_u64 none 0 []) (nilF rp_u64_u64) ?_
   obtain ⟨r9, hr9, hj3⟩ := bnd hj3
   refine TrL.cons rfl (op_call0' (vs := [.agg #[.slice m9.1 r7.1.length m9.2.1, .int .i64 r7.2.1], .agg #[.int .i64 (wi64 z13), .int .i64 0, .int .u64 z14, .int .u64 z15, .int .i64 (wi64 z16), .int .i64 0, .slice none 0 0, .int .i64 0, .int .i64 0]]) (cap := []) [2] rfl rfl (bl rfl) rfl rfl en111 (c_ref21_rest ((r7.1, r7.2.1)) ((wi64 z13, (0 : Int), z14, z15, wi64 z16, (0 : Int), (0 : Int), (0 : Int))) m9.1 m9.2.1 r9 hr9) rfl (fun ret M' F' hR9 => ?_))
   obtain ⟨m12, rfl, rfl, rfl⟩ := hR9
   refine TrL.v (v_move rfl rfl) rfl rfl (bl rfl) ?_
   refine TrL.v (v_extract rfl rfl rfl) rfl rfl (bl rfl) ?_
   refine TrL.v (v_extract rfl rfl rfl) rfl rfl (bl rfl) ?_
   refine TrL.cons rfl (op_alloc' rfl (bl rfl) rfl ze51 (fun b19 => ?_))
   refine TrL.cons rfl (op_alloc' rfl (bl rfl) rfl ze91 (fun b20 => ?_))
   refine TrL.cons rfl (op_store' (k := 1) (c' := [.slice m12.1 r9.1.length m12.2.1, .int .i64 r9.2.1]) rfl rfl rfl rfl rfl ty51 rfl (Nat.le_of_ble_eq_true rfl) (ones (oc rfl (oc rfl on))) rfl ?_)
   refine TrL.cons rfl (op_store' (k := 0) (c' := [.int .i64 (((wi64 z13, (0 : Int), z14, z15, wi64 z16, (0 : Int), (0 : Int), (0 : Int))).1), .int .i64 r9.2.2.1, .int .u64 (((wi64 z13, (0 : Int), z14, z15, wi64 z16, (0 : Int), (0 : Int), (0 : Int))).2.2.1), .int .u64 (((wi64 z13, (0 : Int), z14, z15, wi64 z16, (0 : Int), (0 : Int), (0 : Int))).2.2.2.1), .int .i64 (((wi64 z13, (0 : Int), z14, z15, wi64 z16, (0 : Int), (0 : Int), (0 : Int))).2.2.2.2.1), .int .i64 r9.2.2.2.1, .slice m12.2.2.1 r9.2.2.2.2.1.length m12.2.2.2, .int .i64 r9.2.2.2.2.2.1, .int .i64 r9.2.2.2.2.2.2]) rfl rfl rfl rfl rfl ty91 rfl (Nat.le_of_ble_eq_true rfl) (ones (oc rfl (oc rfl (oc rfl (oc rfl (oc rfl (oc rfl (oc rfl (oc rfl (oc rfl on)))))))))) rfl ?_)
   refine TrL.nil (qthen_n ?_)
   refine Tr.seq ?_
   refine Tr.region ?_
   refine TrL.v (v_load (k := 1) rfl rfl rfl ty51 nofun rfl rfl) rfl rfl (bl rfl) ?_
   refine TrL.cons rfl (op_store' (k := 3) (c' := [.slice m12.1 r9.1.length m12.2.1, .int .i64 r9.2.1]) rfl rfl rfl rfl rfl ty51 rfl (Nat.le_of_ble_eq_true rfl) (ones (oc rfl (oc rfl on))) rfl ?_)
   refine TrL.nil (qthen_n ?_)
   refine Tr.region ?_
   refine TrL.v (v_load (k := 0) rfl rfl rfl ty91 nofun rfl rfl) rfl rfl (bl rfl) ?_
   refine TrL.cons rfl (op_store' (k := 2) (c' := [.int .i64 (((wi64 z13, (0 : Int), z14, z15, wi64 z16, (0 : Int), (0 : Int), (0 : Int))).1), .int .i64 r9.2.2.1, .int .u64 (((wi64 z13, (0 : Int), z14, z15, wi64 z16, (0 : Int), (0 : Int), (0 : Int))).2.2.1), .int .u64 (((wi64 z13, (0 : Int), z14, z15, wi64 z16, (0 : Int), (0 : Int), (0 : Int))).2.2.2.1), .int .i64 (((wi64 z13, (0 : Int), z14, z15, wi64 z16, (0 : Int), (0 : Int), (0 : Int))).2.2.2.2.1), .int .i64 r9.2.2.2.1, .slice m12.2.2.1 r9.2.2.2.2.1.length m12.2.2.2, .int .i64 r9.2.2.2.2.2.1, .int .i64 r9.2.2.2.2.2.2]) rfl rfl rfl rfl rfl ty91 rfl (Nat.le_of_ble_eq_true rfl) (ones (oc rfl (oc rfl (oc rfl (oc rfl (oc rfl (oc rfl (oc rfl (oc rfl (oc rfl on)))))))))) rfl ?_)
   refine TrL.nil (qcut_hit ((r9.1, r9.2.1, ((wi64 z13, (0 : Int), z14, z15, wi64 z16, (0 : Int), (0 : Int), (0 : Int))).1, r9.2.2.1, ((wi64 z13, (0 : Int), z14, z15, wi64 z16, (0 : Int), (0 : Int), (0 : Int))).2.2.1, ((wi64 z13, (0 : Int), z14, z15, wi64 z16, (0 : Int), (0 : Int), (0 : Int))).2.2.2.1, ((wi64 z13, (0 : Int), z14, z15, wi64 z16, (0 : Int), (0 : Int), (0 : Int))).2.2.2.2.1, r9.2.2.2.1, r9.2.2.2.2.1, r9.2.2.2.2.2.1, r9.2.2.2.2.2.2)) ((m12.1, m12.2.1, m12.2.2.1, m12.2.2.2)) (Option.some.inj hj3).symm (Imp.addF' _ (nilF (rInt .u8)) (Imp.re _ [5, 4, 3, 2] [7, 4, 5, 6] (sc rfl (sc rfl (sc rfl (sc rfl sn)))) (by decide) rfl rfl rfl)))
  ·refine Tr.cond_f rfl (bf_dec h9) ?_
   refine Tr.skip (qcut_hit ((r7.1, r7.2.1, wi64 z13, (0 : Int), z14, z15, wi64 z16, (0 : Int), ([] : List (Int × Int)), (0 : Int), (0 : Int))) ((m9.1, m9.2.1, none, 0)) (Option.some.inj hj3).symm (Imp.addF' _ (nilF (rInt .u8)) (Imp.addF' _ (nilF rp_u64_u64) (Imp.re _ [3, 2, 1, 0] [4, 5, 2, 5] (sc rfl (sc rfl (sc rfl (sc rfl sn)))) (by decide) rfl rfl rfl))))
 ·subst hd3
  refine (qthen_n ?_)
  refine Tr.seq ?_
  refine Tr.seq ?_
  obtain ⟨j4, hj4, H⟩ := bnd H
  refine Tr.cutE (D := Bool) (M := Unit) .normal (fun _d => j4 = _d) (fun j4 m15 => ⟨[(2, .pointer (some ⟨b12, 0, none⟩)), (3, .pointer (some ⟨b13, 0, none⟩)), (4, .pointer (some ⟨b14, 0, none⟩)), (6, .pointer (some ⟨b16, 0, none⟩)), (48, .bool j4)], [cells b12 [.slice none 0 0, .int .i64 0] 51, cells b13 [.int .i64 0, .int .i64 0, .int .u64 0, .int .u64 0, .int .i64 0, .int .i64 0, .slice none 0 0, .int .i64 0, .int .i64 0] 91, cells b14 [.slice m11.1 j3.1.length m11.2.1, .int .i64 j3.2.1] 51, cells b16 [.int .i64 j3.2.2.1, .int .i64 j3.2.2.2.1, .int .u64 j3.2.2.2.2.1, .int .u64 j3.2.2.2.2.2.1, .int .i64 j3.2.2.2.2.2.2.1, .int .i64 j3.2.2.2.2.2.2.2.1, .slice m11.2.2.1 j3.2.2.2.2.2.2.2.2.1.length m11.2.2.2, .int .i64 j3.2.2.2.2.2.2.2.2.2.1, .int .i64 j3.2.2.2.2.2.2.2.2.2.2] 91], [slF (rInt .u8) none 0 (([] : List Int)), slF rp_u64_u64 none 0 (([] : List (Int × Int))), slF (rInt .u8) m11.1 m11.2.1 j3.1, slF rp_u64_u64 m11.2.2.1 m11.2.2.2 j3.2.2.2.2.2.2.2.2.1], []⟩) ?_ (fun j4 m15 hd4 => ?_)
  ·refine Tr.region ?_
   refine TrL.v (v_fieldAddr' rfl fo51_1 rfl rfl) rfl rfl (bl rfl) ?_
   refine TrL.v (v_load (k := 2) rfl rfl rfl ty3 (fun _ => rfl) rfl rfl) rfl rfl (bl rfl) ?_
   refine TrL.v (v_arith rfl rfl rfl ar_eql) rfl rfl (bl rfl) ?_
   refine TrL.v (v_move rfl rfl) rfl rfl (bl rfl) ?_
   rcases ifc hj4 with ⟨h12, hj4⟩ | ⟨h12, hj4⟩
   ·refine TrL.cons_yes rfl rfl rfl (bt_dec h12) (OpTr.v (v_load (k := 3) rfl rfl rfl ty91 nofun rfl rfl) rfl (bl rfl) ?_)
    obtain ⟨r12, hr12, hj4⟩ := bnd hj4
    refine TrL.cons_yes rfl rfl rfl (bt_dec h12) (op_call0' (vs := [.agg #[.int .i64 j3.2.2.1, .int .i64 j3.2.2.2.1, .int .u64 j3.2.2.2.2.1, .int .u64 j3.2.2.2.2.2.1, .int .i64 j3.2.2.2.2.2.2.1, .int .i64 j3.2.2.2.2.2.2.2.1, .slice m11.2.2.1 j3.2.2.2.2.2.2.2.2.1.length m11.2.2.2, .int .i64 j3.2.2.2.2.2.2.2.2.2.1, .int .i64 j3.2.2.2.2.2.2.2.2.2.2]]) (cap := []) [3] rfl rfl (bl rfl) rfl rfl en48 (c_ref21_Check j3.2.2 m11.2.2.1 m11.2.2.2 r12 hr12) rfl (fun ret M' F' hR12 => ?_))
    obtain ⟨rfl, rfl, rfl⟩ := hR12
    refine TrL.cons_yes rfl rfl rfl (bt_dec h12) (OpTr.v (v_arith rfl rfl rfl ar_neq) rfl (bl rfl) ?_)
    refine TrL.v (v_pick_t rfl rfl (bt_dec h12) rfl) rfl rfl (bl rfl) ?_
    refine TrL.nil (qcut_hit (decide (¬ r12 = 0)) (()) (Option.some.inj hj4).symm (Imp.re _ [0, 1, 2, 3] [0, 1, 2, 3] (sc rfl (sc rfl (sc rfl (sc rfl (sc rfl sn))))) (by decide) rfl rfl rfl))
   ·refine TrL.cons_no rfl rfl rfl (gn_t (bf_dec h12)) rfl (bl rfl) ?_
    refine TrL.cons_no rfl rfl rfl (gn_t (bf_dec h12)) rfl (bl rfl) ?_
    refine TrL.cons_no rfl rfl rfl (gn_t (bf_dec h12)) rfl (bl rfl) ?_
    refine TrL.v (v_pick_f rfl rfl (bf_dec h12) rfl) rfl rfl (bl rfl) ?_
    refine TrL.nil (qcut_hit false (()) (Option.some.inj hj4).symm (Imp.re _ [0, 1, 2, 3] [0, 1, 2, 3] (sc rfl (sc rfl (sc rfl (sc rfl (sc rfl sn))))) (by decide) rfl rfl rfl))
  ·subst hd4
   refine (qthen_n ?_)
   rcases ifc H with ⟨h13, H⟩ | ⟨h13, H⟩
   ·refine Tr.cond_t rfl h13 ?_
    refine Tr.region ?_
    refine TrL.v (v_fieldAddr' rfl fo51_1 rfl rfl) rfl rfl (bl rfl) ?_
    refine TrL.cons rfl (op_store' (k := 2) (c' := [.slice m11.1 j3.1.length m11.2.1, .int .i64 2]) rfl rfl rfl rfl rfl ty3 rfl (Nat.le_of_ble_eq_true rfl) (ones (oc rfl on)) rfl ?_)
    refine TrL.nil (qthen_n ?_)
    refine Tr.seq ?_
    refine Tr.seq ?_
    refine Tr.region ?_
    refine TrL.v (v_fieldAddr' rfl fo51_1 rfl rfl) rfl rfl (bl rfl) ?_
    refine TrL.v (v_load (k := 2) rfl rfl rfl ty3 (fun _ => rfl) rfl rfl) rfl rfl (bl rfl) ?_
    refine TrL.v (v_arith (v := .bool true) rfl rfl rfl rfl) rfl rfl (bl rfl) ?_
    refine TrL.nil (qthen_n ?_)
    refine Tr.cond_t rfl rfl ?_
    refine Tr.seq ?_
    refine Tr.region ?_
    refine TrL.v (v_load (k := 2) rfl rfl rfl ty51 nofun rfl rfl) rfl rfl (bl rfl) ?_
    refine TrL.v (v_build (vs := []) (out := [.int .i64 0, .int .i64 0, .int .u64 0, .int .u64 0, .int .i64 0, .int .i64 0, .slice none 0 0, .int .i64 0, .int .i64 0]) rfl pl91 ze91 rfl rfl) rfl rfl (bl rfl) ?_
    refine TrL.cons rfl (op_store' (k := 0) (c' := [.slice m11.1 j3.1.length m11.2.1, .int .i64 2]) rfl rfl rfl rfl rfl ty51 rfl (Nat.le_of_ble_eq_true rfl) (ones (oc rfl (oc rfl on))) rfl ?_)
    refine TrL.cons rfl (op_store' (k := 1) (c' := [.int .i64 0, .int .i64 0, .int .u64 0, .int .u64 0, .int .i64 0, .int .i64 0, .slice none 0 0, .int .i64 0, .int .i64 0]) rfl rfl rfl rfl rfl ty91 rfl (Nat.le_of_ble_eq_true rfl) (ones (oc rfl (oc rfl (oc rfl (oc rfl (oc rfl (oc rfl (oc rfl (oc rfl (oc rfl on)))))))))) rfl ?_)
    refine TrL.nil (qthen_n ?_)
    have hz := Option.some.inj H
    subst hz
    refine Tr.ret (qthen_r (ret_r ⟨[(2, .pointer (some ⟨b12, 0, none⟩)), (3, .pointer (some ⟨b13, 0, none⟩))], [cells b12 [.slice m11.1 j3.1.length m11.2.1, .int .i64 2] 51, cells b13 [.int .i64 0, .int .i64 0, .int .u64 0, .int .u64 0, .int .i64 0, .int .i64 0, .slice none 0 0, .int .i64 0, .int .i64 0] 91], [slF (rInt .u8) m11.1 m11.2.1 j3.1, slF rp_u64_u64 none 0 (([] : List (Int × Int)))], []⟩ [.agg #[.slice m11.1 j3.1.length m11.2.1, .int .i64 2], .agg #[.int .i64 0, .int .i64 0, .int .u64 0, .int .u64 0, .int .i64 0, .int .i64 0, .slice none 0 0, .int .i64 0, .int .i64 0]] [] [cells b12 [.slice m11.1 j3.1.length m11.2.1, .int .i64 2] 51, cells b13 [.int .i64 0, .int .i64 0, .int .u64 0, .int .u64 0, .int .i64 0, .int .i64 0, .slice none 0 0, .int .i64 0, .int .i64 0] 91] (Imp.re _ [0, 1] [2, 1] (sc rfl (sc rfl sn)) (by decide) rfl rfl rfl) rfl rfl ⟨((m11.1, m11.2.1, none, 0)), rfl, rfl, rfl⟩ (.cons (resv_cell (k := 0) rfl rfl ty51 nofun rfl rfl) (.cons (resv_cell (k := 1) rfl rfl ty91 nofun rfl rfl) .nil))))
   ·refine Tr.cond_f rfl (bf_b h13) ?_
    refine Tr.skip (qthen_n ?_)
    refine Tr.seq ?_
    refine Tr.seq ?_
    refine Tr.region ?_
    refine TrL.v (v_fieldAddr' rfl fo51_1 rfl rfl) rfl rfl (bl rfl) ?_
    refine TrL.v (v_load (k := 2) rfl rfl rfl ty3 (fun _ => rfl) rfl rfl) rfl rfl (bl rfl) ?_
    refine TrL.v (v_arith rfl rfl rfl ar_neq) rfl rfl (bl rfl) ?_
    refine TrL.nil (qthen_n ?_)
    rcases ifc H with ⟨h14, H⟩ | ⟨h14, H⟩
    ·refine Tr.cond_t rfl (bt_dec h14) ?_
     refine Tr.seq ?_
     refine Tr.region ?_
     refine TrL.v (v_load (k := 2) rfl rfl rfl ty51 nofun rfl rfl) rfl rfl (bl rfl) ?_
     refine TrL.v (v_build (vs := []) (out := [.int .i64 0, .int .i64 0, .int .u64 0, .int .u64 0, .int .i64 0, .int .i64 0, .slice none 0 0, .int .i64 0, .int .i64 0]) rfl pl91 ze91 rfl rfl) rfl rfl (bl rfl) ?_
     refine TrL.cons rfl (op_store' (k := 0) (c' := [.slice m11.1 j3.1.length m11.2.1, .int .i64 j3.2.1]) rfl rfl rfl rfl rfl ty51 rfl (Nat.le_of_ble_eq_true rfl) (ones (oc rfl (oc rfl on))) rfl ?_)
     refine TrL.cons rfl (op_store' (k := 1) (c' := [.int .i64 0, .int .i64 0, .int .u64 0, .int .u64 0, .int .i64 0, .int .i64 0, .slice none 0 0, .int .i64 0, .int .i64 0]) rfl rfl rfl rfl rfl ty91 rfl (Nat.le_of_ble_eq_true rfl) (ones (oc rfl (oc rfl (oc rfl (oc rfl (oc rfl (oc rfl (oc rfl (oc rfl (oc rfl on)))))))))) rfl ?_)
     refine TrL.nil (qthen_n ?_)
     have hz := Option.some.inj H
     subst hz
     refine Tr.ret (qthen_r (ret_r ⟨[(2, .pointer (some ⟨b12, 0, none⟩)), (3, .pointer (some ⟨b13, 0, none⟩))], [cells b12 [.slice m11.1 j3.1.length m11.2.1, .int .i64 j3.2.1] 51, cells b13 [.int .i64 0, .int .i64 0, .int .u64 0, .int .u64 0, .int .i64 0, .int .i64 0, .slice none 0 0, .int .i64 0, .int .i64 0] 91], [slF (rInt .u8) m11.1 m11.2.1 j3.1, slF rp_u64_u64 none 0 (([] : List (Int × Int)))], []⟩ [.agg #[.slice m11.1 j3.1.length m11.2.1, .int .i64 j3.2.1], .agg #[.int .i64 0, .int .i64 0, .int .u64 0, .int .u64 0, .int .i64 0, .int .i64 0, .slice none 0 0, .int .i64 0, .int .i64 0]] [] [cells b12 [.slice m11.1 j3.1.length m11.2.1, .int .i64 j3.2.1] 51, cells b13 [.int .i64 0, .int .i64 0, .int .u64 0, .int .u64 0, .int .i64 0, .int .i64 0, .slice none 0 0, .int .i64 0, .int .i64 0] 91] (Imp.re _ [0, 1] [2, 1] (sc rfl (sc rfl sn)) (by decide) rfl rfl rfl) rfl rfl ⟨((m11.1, m11.2.1, none, 0)), rfl, rfl, rfl⟩ (.cons (resv_cell (k := 0) rfl rfl ty51 nofun rfl rfl) (.cons (resv_cell (k := 1) rfl rfl ty91 nofun rfl rfl) .nil))))
    ·refine Tr.cond_f rfl (bf_dec h14) ?_
     refine Tr.skip (qthen_n ?_)
     refine Tr.seq ?_
     refine Tr.regionD drawn (fun hok => ?_)
     refine TrAny.prom (i := 0) (d := 55) hok (OpVal.plain rfl rfl (v_load (k := 2) rfl rfl rfl ty51 nofun rfl rfl)) (by kernel_rfl) rfl (bl rfl) ?_
     clear hok
     intro hok
     refine TrAny.prom (i := 1) (d := 56) hok (OpVal.plain rfl rfl (v_load (k := 3) rfl rfl rfl ty91 nofun rfl rfl)) (by kernel_rfl) rfl (bl rfl) ?_
     clear hok
     intro hok
     refine TrAny.next (j := 2) (by kernel_rfl) hok rfl (by kernel_rfl) (op_store' (k := 0) (c' := [.slice m11.1 j3.1.length m11.2.1, .int .i64 j3.2.1]) rfl rfl rfl rfl rfl ty51 rfl (Nat.le_of_ble_eq_true rfl) (ones (oc rfl (oc rfl on))) rfl ?_)
     refine nxs hok (kp_all (ac (.inl (by kernel_rfl)) (ac (.inr (OpVal.plain rfl rfl (v_load (k := 3) rfl rfl rfl ty91 nofun rfl rfl))) an))) rfl ?_
     clear hok
     intro hok
     refine TrAny.next (j := 3) (by kernel_rfl) hok rfl (by kernel_rfl) (op_store' (k := 1) (c' := [.int .i64 j3.2.2.1, .int .i64 j3.2.2.2.1, .int .u64 j3.2.2.2.2.1, .int .u64 j3.2.2.2.2.2.1, .int .i64 j3.2.2.2.2.2.2.1, .int .i64 j3.2.2.2.2.2.2.2.1, .slice m11.2.2.1 j3.2.2.2.2.2.2.2.2.1.length m11.2.2.2, .int .i64 j3.2.2.2.2.2.2.2.2.2.1, .int .i64 j3.2.2.2.2.2.2.2.2.2.2]) rfl rfl rfl rfl rfl ty91 rfl (Nat.le_of_ble_eq_true rfl) (ones (oc rfl (oc rfl (oc rfl (oc rfl (oc rfl (oc rfl (oc rfl (oc rfl (oc rfl on)))))))))) rfl ?_)
     refine nxs hok (kp_aw (by kernel_rfl)) rfl ?_
     clear hok
     intro hok
     refine TrAny.done (by kernel_rfl) (by kernel_rfl) hok (by kernel_rfl) (qthen_n ?_)
     have hz := Option.some.inj H
     subst hz
     refine Tr.ret (ret_r ⟨[(2, .pointer (some ⟨b12, 0, none⟩)), (3, .pointer (some ⟨b13, 0, none⟩))], [cells b12 [.slice m11.1 j3.1.length m11.2.1, .int .i64 j3.2.1] 51, cells b13 [.int .i64 j3.2.2.1, .int .i64 j3.2.2.2.1, .int .u64 j3.2.2.2.2.1, .int .u64 j3.2.2.2.2.2.1, .int .i64 j3.2.2.2.2.2.2.1, .int .i64 j3.2.2.2.2.2.2.2.1, .slice m11.2.2.1 j3.2.2.2.2.2.2.2.2.1.length m11.2.2.2, .int .i64 j3.2.2.2.2.2.2.2.2.2.1, .int .i64 j3.2.2.2.2.2.2.2.2.2.2] 91], [slF (rInt .u8) m11.1 m11.2.1 j3.1, slF rp_u64_u64 m11.2.2.1 m11.2.2.2 j3.2.2.2.2.2.2.2.2.1], []⟩ [.agg #[.slice m11.1 j3.1.length m11.2.1, .int .i64 j3.2.1], .agg #[.int .i64 j3.2.2.1, .int .i64 j3.2.2.2.1, .int .u64 j3.2.2.2.2.1, .int .u64 j3.2.2.2.2.2.1, .int .i64 j3.2.2.2.2.2.2.1, .int .i64 j3.2.2.2.2.2.2.2.1, .slice m11.2.2.1 j3.2.2.2.2.2.2.2.2.1.length m11.2.2.2, .int .i64 j3.2.2.2.2.2.2.2.2.2.1, .int .i64 j3.2.2.2.2.2.2.2.2.2.2]] [] [cells b12 [.slice m11.1 j3.1.length m11.2.1, .int .i64 j3.2.1] 51, cells b13 [.int .i64 j3.2.2.1, .int .i64 j3.2.2.2.1, .int .u64 j3.2.2.2.2.1, .int .u64 j3.2.2.2.2.2.1, .int .i64 j3.2.2.2.2.2.2.1, .int .i64 j3.2.2.2.2.2.2.2.1, .slice m11.2.2.1 j3.2.2.2.2.2.2.2.2.1.length m11.2.2.2, .int .i64 j3.2.2.2.2.2.2.2.2.2.1, .int .i64 j3.2.2.2.2.2.2.2.2.2.2] 91] (Imp.re _ [0, 1] [2, 3] (sc rfl (sc rfl sn)) (by decide) rfl rfl rfl) rfl rfl ⟨((m11.1, m11.2.1, m11.2.2.1, m11.2.2.2)), rfl, rfl, rfl⟩ (.cons (resv_cell (k := 0) rfl rfl ty51 nofun rfl rfl) (.cons (resv_cell (k := 1) rfl rfl ty91 nofun rfl rfl) .nil)))
end Go.Proofs.Ytbeknohemgjfbaa.W
