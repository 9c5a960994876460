/- The contracts of the walked functions: the printed walks. -/
import Derived.Test.YtbeknohemgjfbaaKc
import Derived.Test.YtbeknohemgjfbaaQc
import Derived.Test.YtbeknohemgjfbaaWref06bc
import Derived.Test.YtbeknohemgjfbaaWref10cc
namespace Go.Proofs.Ytbeknohemgjfbaa.W
open Go Go.Proofs Go.Proofs.Ytbeknohemgjfbaa.L Go.Proofs.Ytbeknohemgjfbaa.Pu
set_option linter.unusedVariables false
set_option maxHeartbeats 4000000

theorem c_ref10_Build (p1 : Int × (List (Int × Int)) × (List (Int × Int)) × (List (Int × Int)) × (List (Int × Int)) × Int) (A1 : Option Addr) (c1 : Nat) (A2 : Option Addr) (c2 : Nat) (A3 : Option Addr) (c3 : Nat) (A4 : Option Addr) (c4 : Nat) (r : Int × Int × List (List (Int × Int))) (H : ref10_Build p1 = some r) :
    Ctr Try.prog 34 [.agg #[.int .i64 p1.1, .slice A1 p1.2.1.length c1, .slice A2 p1.2.2.1.length c2, .slice A3 p1.2.2.2.1.length c3, .slice A4 p1.2.2.2.2.1.length c4, .int .u8 p1.2.2.2.2.2]] [] [slF rp_u64_u64 A1 c1 p1.2.1, slF rp_u64_u64 A2 c2 p1.2.2.1, slF rp_u64_u64 A3 c3 p1.2.2.2.1, slF rp_u64_u64 A4 c4 p1.2.2.2.2.1] (fun ret M' F' => ∃ m : Option Addr × Nat, ret = .agg #[.int .i64 r.1, .int .i64 r.2.1, .slice m.1 r.2.2.length m.2] ∧ M' = [] ∧ F' = [slF (rSl rp_u64_u64) m.1 m.2 r.2.2]) := by
  unfold ref10_Build at H
  refine ctr_ofI (N := 92) Try.func34 rfl Try.ntmps34 rfl (Nat.le_of_ble_eq_true rfl) (fun γ0 w0 => ?_)
  refine Tr.seq ?_
  refine Tr.region ?_
  refine TrL.cons rfl (op_box' rfl (bl rfl) rfl rfl rfl (fun b16 => ?_))
  refine TrL.cons rfl (op_alloc' rfl (bl rfl) rfl ze26 (fun b17 => ?_))
  refine TrL.nil (qthen_n ?_)
  refine Tr.seq ?_
  refine Tr.region ?_
  refine TrL.cons rfl (op_alloc' rfl (bl rfl) rfl ze130 (fun b18 => ?_))
  refine TrL.nil (qthen_n ?_)
  refine Tr.seq ?_
  refine Tr.seq ?_
  refine Tr.region ?_
  refine TrL.v (v_assign rfl rfl) rfl rfl (bl rfl) ?_
  refine TrL.nil (qthen_n ?_)
  refine Tr.block ?_
  refine Tr.loop ?_
  refine Tr.seq ?_
  refine Tr.seq ?_
  refine Tr.region ?_
  refine TrL.v (v_move rfl rfl) rfl rfl (bl rfl) ?_
  refine TrL.v (v_arith (v := .bool true) rfl rfl rfl rfl) rfl rfl (bl rfl) ?_
  refine TrL.nil (qthen_n ?_)
  refine Tr.cond_t rfl rfl ?_
  refine Tr.skip (qthen_n ?_)
  refine Tr.seq ?_
  refine Tr.block ?_
  refine Tr.regionD drawn (fun hok => ?_)
  refine TrAny.prom (i := 0) (d := 22) hok (OpVal.plain rfl rfl (v_move rfl rfl)) (by kernel_rfl) rfl (bl rfl) ?_
  clear hok
  intro hok
  refine TrAny.prom (i := 1) (d := 23) hok (OpVal.plain rfl rfl (v_fieldAddr' rfl fo60_0 rfl rfl)) (by kernel_rfl) rfl (bl rfl) ?_
  clear hok
  intro hok
  refine TrAny.prom (i := 2) (d := 24) hok (OpVal.plain rfl rfl (v_load (k := 2) rfl rfl rfl ty3 (fun _ => rfl) rfl rfl)) (by kernel_rfl) rfl (bl rfl) ?_
  clear hok
  intro hok
  refine TrAny.prom (i := 3) (d := 25) hok (OpVal.plain rfl rfl (v_move rfl rfl)) (by kernel_rfl) rfl (bl rfl) ?_
  clear hok
  intro hok
  refine TrAny.prom (i := 4) (d := 26) hok (OpVal.plain rfl rfl (v_fieldAddr' rfl fo60_1 rfl rfl)) (by kernel_rfl) rfl (bl rfl) ?_
  clear hok
  intro hok
  refine TrAny.prom (i := 5) (d := 27) hok (OpVal.plain rfl rfl (v_indexArr rfl ar58 ty22 rfl rfl (by decide) (by decide) rfl)) (by kernel_rfl) rfl (bl rfl) ?_
  clear hok
  intro hok
  refine TrAny.prom (i := 6) (d := 28) hok (OpVal.plain rfl rfl (v_load (k := 2) rfl rfl rfl ty22 (fun _ => rfl) rfl rfl)) (by kernel_rfl) rfl (bl rfl) ?_
  clear hok
  intro hok
  refine TrAny.prom (i := 8) (d := 30) hok (OpVal.plain rfl rfl (v_indexArr rfl ar130 ty26 rfl rfl (by decide) (by decide) rfl)) (by kernel_rfl) rfl (bl rfl) ?_
  clear hok
  intro hok
  obtain ⟨r21, hr21, H⟩ := bnd H
  refine TrAny.next (j := 7) (by kernel_rfl) hok rfl (by kernel_rfl) (op_call0' (vs := [.int .i64 p1.1, .slice A1 p1.2.1.length c1]) (cap := []) [0] rfl rfl (bl rfl) rfl rfl en16 (c_ref06_Made p1.1 p1.2.1 A1 c1 r21 hr21) rfl (fun ret M' F' hR21 => ?_))
  obtain ⟨m27, rfl, rfl, rfl⟩ := hR21
  refine nxp hok (kp_imp (kp_c0 rfl)) rfl (by kernel_rfl) ?_
  clear hok
  intro hok
  refine TrAny.next (j := 9) (by kernel_rfl) hok rfl (by kernel_rfl) (op_store' (k := 0) (c' := [.int .i64 r21.1, .int .i64 r21.2.1, .slice m27.1 r21.2.2.length m27.2, .int .i64 0, .int .i64 0, .slice none 0 0, .int .i64 0, .int .i64 0, .slice none 0 0, .int .i64 0, .int .i64 0, .slice none 0 0]) rfl rfl rfl rfl rfl ty26 rfl (Nat.le_of_ble_eq_true rfl) (ones (oc rfl (oc rfl (oc rfl on)))) rfl ?_)
  refine nxs hok (kp_aw (by kernel_rfl)) rfl ?_
  clear hok
  intro hok
  refine TrAny.done (by kernel_rfl) (by kernel_rfl) hok (by kernel_rfl) (qblock_n (qthen_n ?_))
  refine Tr.region ?_
  refine TrL.v (v_move rfl rfl) rfl rfl (bl rfl) ?_
  refine TrL.v (v_arith (v := .int .i64 1) rfl rfl rfl rfl) rfl rfl (bl rfl) ?_
  refine TrL.v (v_assign rfl rfl) rfl rfl (bl rfl) ?_
  refine TrL.nil (qthen_n ?_)
  refine Tr.loop ?_
  refine Tr.seq ?_
  refine Tr.seq ?_
  refine Tr.region ?_
  refine TrL.v (v_move rfl rfl) rfl rfl (bl rfl) ?_
  refine TrL.v (v_arith (v := .bool true) rfl rfl rfl rfl) rfl rfl (bl rfl) ?_
  refine TrL.nil (qthen_n ?_)
  refine Tr.cond_t rfl rfl ?_
  refine Tr.skip (qthen_n ?_)
  refine Tr.seq ?_
  refine Tr.block ?_
  refine Tr.re ⟨[(0, .agg #[.int .i64 p1.1, .slice A1 p1.2.1.length c1, .slice A2 p1.2.2.1.length c2, .slice A3 p1.2.2.2.1.length c3, .slice A4 p1.2.2.2.2.1.length c4, .int .u8 p1.2.2.2.2.2]), (1, .pointer (some ⟨b16, 0, none⟩)), (2, .pointer (some ⟨b17, 0, none⟩)), (3, .pointer (some ⟨b18, 0, none⟩)), (4, .int .i64 1), (18, .int .i64 1), (19, .bool true), (20, .int .i64 0), (21, .int .i64 1)], [cells b18 [.int .i64 r21.1, .int .i64 r21.2.1, .slice m27.1 r21.2.2.length m27.2, .int .i64 0, .int .i64 0, .slice none 0 0, .int .i64 0, .int .i64 0, .slice none 0 0, .int .i64 0, .int .i64 0, .slice none 0 0] 130, cells b17 [.int .i64 0, .int .i64 0, .slice none 0 0] 26, cells b16 [.int .i64 p1.1, .slice A1 p1.2.1.length c1, .slice A2 p1.2.2.1.length c2, .slice A3 p1.2.2.2.1.length c3, .slice A4 p1.2.2.2.2.1.length c4, .int .u8 p1.2.2.2.2.2] 60], [slF rp_u64_u64 A1 c1 p1.2.1, slF rp_u64_u64 A2 c2 p1.2.2.1, slF rp_u64_u64 A3 c3 p1.2.2.2.1, slF rp_u64_u64 A4 c4 p1.2.2.2.2.1, slF (rSl rp_u64_u64) m27.1 m27.2 r21.2.2], []⟩ [0, 1, 2] [0, 1, 2, 3, 4] (sc rfl (sc rfl (sc rfl (sc rfl (sc rfl (sc rfl (sc rfl (sc rfl (sc rfl sn))))))))) (by decide) rfl rfl rfl ?_
  refine Tr.regionD drawn (fun hok => ?_)
  refine TrAny.prom (i := 0) (d := 22) hok (OpVal.plain rfl rfl (v_move rfl rfl)) (by kernel_rfl) rfl (bl rfl) ?_
  clear hok
  intro hok
  refine TrAny.prom (i := 1) (d := 23) hok (OpVal.plain rfl rfl (v_fieldAddr' rfl fo60_0 rfl rfl)) (by kernel_rfl) rfl (bl rfl) ?_
  clear hok
  intro hok
  refine TrAny.prom (i := 2) (d := 24) hok (OpVal.plain rfl rfl (v_load (k := 2) rfl rfl rfl ty3 (fun _ => rfl) rfl rfl)) (by kernel_rfl) rfl (bl rfl) ?_
  clear hok
  intro hok
  refine TrAny.prom (i := 3) (d := 25) hok (OpVal.plain rfl rfl (v_move rfl rfl)) (by kernel_rfl) rfl (bl rfl) ?_
  clear hok
  intro hok
  refine TrAny.prom (i := 4) (d := 26) hok (OpVal.plain rfl rfl (v_fieldAddr' rfl fo60_1 rfl rfl)) (by kernel_rfl) rfl (bl rfl) ?_
  clear hok
  intro hok
  refine TrAny.prom (i := 5) (d := 27) hok (OpVal.plain rfl rfl (v_indexArr rfl ar58 ty22 rfl rfl (by decide) (by decide) rfl)) (by kernel_rfl) rfl (bl rfl) ?_
  clear hok
  intro hok
  refine TrAny.prom (i := 6) (d := 28) hok (OpVal.plain rfl rfl (v_load (k := 2) rfl rfl rfl ty22 (fun _ => rfl) rfl rfl)) (by kernel_rfl) rfl (bl rfl) ?_
  clear hok
  intro hok
  refine TrAny.prom (i := 8) (d := 30) hok (OpVal.plain rfl rfl (v_indexArr rfl ar130 ty26 rfl rfl (by decide) (by decide) rfl)) (by kernel_rfl) rfl (bl rfl) ?_
  clear hok
  intro hok
  obtain ⟨r23, hr23, H⟩ := bnd H
  refine TrAny.next (j := 7) (by kernel_rfl) hok rfl (by kernel_rfl) (op_call0' (vs := [.int .i64 p1.1, .slice A2 p1.2.2.1.length c2]) (cap := []) [1] rfl rfl (bl rfl) rfl rfl en16 (c_ref06_Made p1.1 p1.2.2.1 A2 c2 r23 hr23) rfl (fun ret M' F' hR23 => ?_))
  obtain ⟨m29, rfl, rfl, rfl⟩ := hR23
  refine nxp hok (kp_imp (kp_c0 rfl)) rfl (by kernel_rfl) ?_
  clear hok
  intro hok
  refine TrAny.next (j := 9) (by kernel_rfl) hok rfl (by kernel_rfl) (op_store' (k := 0) (c' := [.int .i64 r21.1, .int .i64 r21.2.1, .slice m27.1 r21.2.2.length m27.2, .int .i64 r23.1, .int .i64 r23.2.1, .slice m29.1 r23.2.2.length m29.2, .int .i64 0, .int .i64 0, .slice none 0 0, .int .i64 0, .int .i64 0, .slice none 0 0]) rfl rfl rfl rfl rfl ty26 rfl (Nat.le_of_ble_eq_true rfl) (ones (oc rfl (oc rfl (oc rfl on)))) rfl ?_)
  refine nxs hok (kp_aw (by kernel_rfl)) rfl ?_
  clear hok
  intro hok
  refine TrAny.done (by kernel_rfl) (by kernel_rfl) hok (by kernel_rfl) (qblock_n (qthen_n ?_))
  refine Tr.region ?_
  refine TrL.v (v_move rfl rfl) rfl rfl (bl rfl) ?_
  refine TrL.v (v_arith (v := .int .i64 2) rfl rfl rfl rfl) rfl rfl (bl rfl) ?_
  refine TrL.v (v_assign rfl rfl) rfl rfl (bl rfl) ?_
  refine TrL.nil (qthen_n ?_)
  refine Tr.loop ?_
  refine Tr.seq ?_
  refine Tr.seq ?_
  refine Tr.region ?_
  refine TrL.v (v_move rfl rfl) rfl rfl (bl rfl) ?_
  refine TrL.v (v_arith (v := .bool true) rfl rfl rfl rfl) rfl rfl (bl rfl) ?_
  refine TrL.nil (qthen_n ?_)
  refine Tr.cond_t rfl rfl ?_
  refine Tr.skip (qthen_n ?_)
  refine Tr.seq ?_
  refine Tr.block ?_
  refine Tr.re ⟨[(0, .agg #[.int .i64 p1.1, .slice A1 p1.2.1.length c1, .slice A2 p1.2.2.1.length c2, .slice A3 p1.2.2.2.1.length c3, .slice A4 p1.2.2.2.2.1.length c4, .int .u8 p1.2.2.2.2.2]), (1, .pointer (some ⟨b16, 0, none⟩)), (2, .pointer (some ⟨b17, 0, none⟩)), (3, .pointer (some ⟨b18, 0, none⟩)), (4, .int .i64 2), (18, .int .i64 2), (19, .bool true), (20, .int .i64 1), (21, .int .i64 2)], [cells b18 [.int .i64 r21.1, .int .i64 r21.2.1, .slice m27.1 r21.2.2.length m27.2, .int .i64 r23.1, .int .i64 r23.2.1, .slice m29.1 r23.2.2.length m29.2, .int .i64 0, .int .i64 0, .slice none 0 0, .int .i64 0, .int .i64 0, .slice none 0 0] 130, cells b17 [.int .i64 0, .int .i64 0, .slice none 0 0] 26, cells b16 [.int .i64 p1.1, .slice A1 p1.2.1.length c1, .slice A2 p1.2.2.1.length c2, .slice A3 p1.2.2.2.1.length c3, .slice A4 p1.2.2.2.2.1.length c4, .int .u8 p1.2.2.2.2.2] 60], [slF rp_u64_u64 A1 c1 p1.2.1, slF rp_u64_u64 A2 c2 p1.2.2.1, slF rp_u64_u64 A3 c3 p1.2.2.2.1, slF rp_u64_u64 A4 c4 p1.2.2.2.2.1, slF (rSl rp_u64_u64) m27.1 m27.2 r21.2.2, slF (rSl rp_u64_u64) m29.1 m29.2 r23.2.2], []⟩ [0, 1, 2] [0, 1, 2, 3, 4, 5] (sc rfl (sc rfl (sc rfl (sc rfl (sc rfl (sc rfl (sc rfl (sc rfl (sc rfl sn))))))))) (by decide) rfl rfl rfl ?_
  refine Tr.regionD drawn (fun hok => ?_)
  refine TrAny.prom (i := 0) (d := 22) hok (OpVal.plain rfl rfl (v_move rfl rfl)) (by kernel_rfl) rfl (bl rfl) ?_
  clear hok
  intro hok
  refine TrAny.prom (i := 1) (d := 23) hok (OpVal.plain rfl rfl (v_fieldAddr' rfl fo60_0 rfl rfl)) (by kernel_rfl) rfl (bl rfl) ?_
  clear hok
  intro hok
  refine TrAny.prom (i := 2) (d := 24) hok (OpVal.plain rfl rfl (v_load (k := 2) rfl rfl rfl ty3 (fun _ => rfl) rfl rfl)) (by kernel_rfl) rfl (bl rfl) ?_
  clear hok
  intro hok
  refine TrAny.prom (i := 3) (d := 25) hok (OpVal.plain rfl rfl (v_move rfl rfl)) (by kernel_rfl) rfl (bl rfl) ?_
  clear hok
  intro hok
  refine TrAny.prom (i := 4) (d := 26) hok (OpVal.plain rfl rfl (v_fieldAddr' rfl fo60_1 rfl rfl)) (by kernel_rfl) rfl (bl rfl) ?_
  clear hok
  intro hok
  refine TrAny.prom (i := 5) (d := 27) hok (OpVal.plain rfl rfl (v_indexArr rfl ar58 ty22 rfl rfl (by decide) (by decide) rfl)) (by kernel_rfl) rfl (bl rfl) ?_
  clear hok
  intro hok
  refine TrAny.prom (i := 6) (d := 28) hok (OpVal.plain rfl rfl (v_load (k := 2) rfl rfl rfl ty22 (fun _ => rfl) rfl rfl)) (by kernel_rfl) rfl (bl rfl) ?_
  clear hok
  intro hok
  refine TrAny.prom (i := 8) (d := 30) hok (OpVal.plain rfl rfl (v_indexArr rfl ar130 ty26 rfl rfl (by decide) (by decide) rfl)) (by kernel_rfl) rfl (bl rfl) ?_
  clear hok
  intro hok
  obtain ⟨r25, hr25, H⟩ := bnd H
  refine TrAny.next (j := 7) (by kernel_rfl) hok rfl (by kernel_rfl) (op_call0' (vs := [.int .i64 p1.1, .slice A3 p1.2.2.2.1.length c3]) (cap := []) [2] rfl rfl (bl rfl) rfl rfl en16 (c_ref06_Made p1.1 p1.2.2.2.1 A3 c3 r25 hr25) rfl (fun ret M' F' hR25 => ?_))
  obtain ⟨m31, rfl, rfl, rfl⟩ := hR25
  refine nxp hok (kp_imp (kp_c0 rfl)) rfl (by kernel_rfl) ?_
  clear hok
  intro hok
  refine TrAny.next (j := 9) (by kernel_rfl) hok rfl (by kernel_rfl) (op_store' (k := 0) (c' := [.int .i64 r21.1, .int .i64 r21.2.1, .slice m27.1 r21.2.2.length m27.2, .int .i64 r23.1, .int .i64 r23.2.1, .slice m29.1 r23.2.2.length m29.2, .int .i64 r25.1, .int .i64 r25.2.1, .slice m31.1 r25.2.2.length m31.2, .int .i64 0, .int .i64 0, .slice none 0 0]) rfl rfl rfl rfl rfl ty26 rfl (Nat.le_of_ble_eq_true rfl) (ones (oc rfl (oc rfl (oc rfl on)))) rfl ?_)
  refine nxs hok (kp_aw (by kernel_rfl)) rfl ?_
  clear hok
  intro hok
  refine TrAny.done (by kernel_rfl) (by kernel_rfl) hok (by kernel_rfl) (qblock_n (qthen_n ?_))
  refine Tr.region ?_
  refine TrL.v (v_move rfl rfl) rfl rfl (bl rfl) ?_
  refine TrL.v (v_arith (v := .int .i64 3) rfl rfl rfl rfl) rfl rfl (bl rfl) ?_
  refine TrL.v (v_assign rfl rfl) rfl rfl (bl rfl) ?_
  refine TrL.nil (qthen_n ?_)
  refine Tr.loop ?_
  refine Tr.seq ?_
  refine Tr.seq ?_
  refine Tr.region ?_
  refine TrL.v (v_move rfl rfl) rfl rfl (bl rfl) ?_
  refine TrL.v (v_arith (v := .bool true) rfl rfl rfl rfl) rfl rfl (bl rfl) ?_
  refine TrL.nil (qthen_n ?_)
  refine Tr.cond_t rfl rfl ?_
  refine Tr.skip (qthen_n ?_)
  refine Tr.seq ?_
  refine Tr.block ?_
  refine Tr.re ⟨[(0, .agg #[.int .i64 p1.1, .slice A1 p1.2.1.length c1, .slice A2 p1.2.2.1.length c2, .slice A3 p1.2.2.2.1.length c3, .slice A4 p1.2.2.2.2.1.length c4, .int .u8 p1.2.2.2.2.2]), (1, .pointer (some ⟨b16, 0, none⟩)), (2, .pointer (some ⟨b17, 0, none⟩)), (3, .pointer (some ⟨b18, 0, none⟩)), (4, .int .i64 3), (18, .int .i64 3), (19, .bool true), (20, .int .i64 2), (21, .int .i64 3)], [cells b18 [.int .i64 r21.1, .int .i64 r21.2.1, .slice m27.1 r21.2.2.length m27.2, .int .i64 r23.1, .int .i64 r23.2.1, .slice m29.1 r23.2.2.length m29.2, .int .i64 r25.1, .int .i64 r25.2.1, .slice m31.1 r25.2.2.length m31.2, .int .i64 0, .int .i64 0, .slice none 0 0] 130, cells b17 [.int .i64 0, .int .i64 0, .slice none 0 0] 26, cells b16 [.int .i64 p1.1, .slice A1 p1.2.1.length c1, .slice A2 p1.2.2.1.length c2, .slice A3 p1.2.2.2.1.length c3, .slice A4 p1.2.2.2.2.1.length c4, .int .u8 p1.2.2.2.2.2] 60], [slF rp_u64_u64 A1 c1 p1.2.1, slF rp_u64_u64 A2 c2 p1.2.2.1, slF rp_u64_u64 A3 c3 p1.2.2.2.1, slF rp_u64_u64 A4 c4 p1.2.2.2.2.1, slF (rSl rp_u64_u64) m27.1 m27.2 r21.2.2, slF (rSl rp_u64_u64) m29.1 m29.2 r23.2.2, slF (rSl rp_u64_u64) m31.1 m31.2 r25.2.2], []⟩ [0, 1, 2] [0, 1, 2, 3, 4, 5, 6] (sc rfl (sc rfl (sc rfl (sc rfl (sc rfl (sc rfl (sc rfl (sc rfl (sc rfl sn))))))))) (by decide) rfl rfl rfl ?_
  refine Tr.regionD drawn (fun hok => ?_)
  refine TrAny.prom (i := 0) (d := 22) hok (OpVal.plain rfl rfl (v_move rfl rfl)) (by kernel_rfl) rfl (bl rfl) ?_
  clear hok
  intro hok
  refine TrAny.prom (i := 1) (d := 23) hok (OpVal.plain rfl rfl (v_fieldAddr' rfl fo60_0 rfl rfl)) (by kernel_rfl) rfl (bl rfl) ?_
  clear hok
  intro hok
  refine TrAny.prom (i := 2) (d := 24) hok (OpVal.plain rfl rfl (v_load (k := 2) rfl rfl rfl ty3 (fun _ => rfl) rfl rfl)) (by kernel_rfl) rfl (bl rfl) ?_
  clear hok
  intro hok
  refine TrAny.prom (i := 3) (d := 25) hok (OpVal.plain rfl rfl (v_move rfl rfl)) (by kernel_rfl) rfl (bl rfl) ?_
  clear hok
  intro hok
  refine TrAny.prom (i := 4) (d := 26) hok (OpVal.plain rfl rfl (v_fieldAddr' rfl fo60_1 rfl rfl)) (by kernel_rfl) rfl (bl rfl) ?_
  clear hok
  intro hok
  refine TrAny.prom (i := 5) (d := 27) hok (OpVal.plain rfl rfl (v_indexArr rfl ar58 ty22 rfl rfl (by decide) (by decide) rfl)) (by kernel_rfl) rfl (bl rfl) ?_
  clear hok
  intro hok
  refine TrAny.prom (i := 6) (d := 28) hok (OpVal.plain rfl rfl (v_load (k := 2) rfl rfl rfl ty22 (fun _ => rfl) rfl rfl)) (by kernel_rfl) rfl (bl rfl) ?_
  clear hok
  intro hok
  refine TrAny.prom (i := 8) (d := 30) hok (OpVal.plain rfl rfl (v_indexArr rfl ar130 ty26 rfl rfl (by decide) (by decide) rfl)) (by kernel_rfl) rfl (bl rfl) ?_
  clear hok
  intro hok
  obtain ⟨r27, hr27, H⟩ := bnd H
  refine TrAny.next (j := 7) (by kernel_rfl) hok rfl (by kernel_rfl) (op_call0' (vs := [.int .i64 p1.1, .slice A4 p1.2.2.2.2.1.length c4]) (cap := []) [3] rfl rfl (bl rfl) rfl rfl en16 (c_ref06_Made p1.1 p1.2.2.2.2.1 A4 c4 r27 hr27) rfl (fun ret M' F' hR27 => ?_))
  obtain ⟨m33, rfl, rfl, rfl⟩ := hR27
  refine nxp hok (kp_imp (kp_c0 rfl)) rfl (by kernel_rfl) ?_
  clear hok
  intro hok
  refine TrAny.next (j := 9) (by kernel_rfl) hok rfl (by kernel_rfl) (op_store' (k := 0) (c' := [.int .i64 r21.1, .int .i64 r21.2.1, .slice m27.1 r21.2.2.length m27.2, .int .i64 r23.1, .int .i64 r23.2.1, .slice m29.1 r23.2.2.length m29.2, .int .i64 r25.1, .int .i64 r25.2.1, .slice m31.1 r25.2.2.length m31.2, .int .i64 r27.1, .int .i64 r27.2.1, .slice m33.1 r27.2.2.length m33.2]) rfl rfl rfl rfl rfl ty26 rfl (Nat.le_of_ble_eq_true rfl) (ones (oc rfl (oc rfl (oc rfl on)))) rfl ?_)
  refine nxs hok (kp_aw (by kernel_rfl)) rfl ?_
  clear hok
  intro hok
  refine TrAny.done (by kernel_rfl) (by kernel_rfl) hok (by kernel_rfl) (qblock_n (qthen_n ?_))
  refine Tr.region ?_
  refine TrL.v (v_move rfl rfl) rfl rfl (bl rfl) ?_
  refine TrL.v (v_arith (v := .int .i64 4) rfl rfl rfl rfl) rfl rfl (bl rfl) ?_
  refine TrL.v (v_assign rfl rfl) rfl rfl (bl rfl) ?_
  refine TrL.nil (qthen_n ?_)
  refine Tr.loop ?_
  refine Tr.seq ?_
  refine Tr.seq ?_
  refine Tr.region ?_
  refine TrL.v (v_move rfl rfl) rfl rfl (bl rfl) ?_
  refine TrL.v (v_arith (v := .bool false) rfl rfl rfl rfl) rfl rfl (bl rfl) ?_
  refine TrL.nil (qthen_n ?_)
  refine Tr.cond_f rfl rfl ?_
  refine Tr.exit (qthen_x (qthen_x (qblock_hit (qthen_n ?_))))
  refine Tr.seq ?_
  refine Tr.region ?_
  refine TrL.v (v_indexArr rfl ar130 ty26 rfl rfl (by decide) (by decide) rfl) rfl rfl (bl rfl) ?_
  refine TrL.v (v_load (k := 0) rfl rfl rfl ty26 nofun rfl rfl) rfl rfl (bl rfl) ?_
  refine TrL.cons rfl (op_alloc' rfl (bl rfl) rfl ze26 (fun b19 => ?_))
  refine TrL.cons rfl (op_store' (k := 0) (c' := [.int .i64 r21.1, .int .i64 r21.2.1, .slice m27.1 r21.2.2.length m27.2]) rfl rfl rfl rfl rfl ty26 rfl (Nat.le_of_ble_eq_true rfl) (ones (oc rfl (oc rfl (oc rfl on)))) rfl ?_)
  refine TrL.nil (qthen_n ?_)
  refine Tr.seq ?_
  refine Tr.region ?_
  refine TrL.v (v_fieldAddr' rfl fo60_2 rfl rfl) rfl rfl (bl rfl) ?_
  refine TrL.v (v_load (k := 3) rfl rfl rfl ty5 (fun _ => rfl) rfl rfl) rfl rfl (bl rfl) ?_
  refine TrL.v (v_rem rfl rfl rfl (by decide)) rfl rfl (bl rfl) ?_
  refine TrL.v (v_conv' rfl ⟨_, Try.underlying5⟩ Try.underlying3 rfl wrap_i64') rfl rfl (bl rfl) ?_
  refine TrL.v (v_assign rfl rfl) rfl rfl (bl rfl) ?_
  refine TrL.nil (qthen_n ?_)
  refine Tr.seq ?_
  refine Tr.seq ?_
  refine Tr.region ?_
  refine TrL.v (v_move rfl rfl) rfl rfl (bl rfl) ?_
  refine TrL.v (v_arith rfl rfl rfl ar_eql) rfl rfl (bl rfl) ?_
  refine TrL.nil (qthen_n ?_)
  obtain ⟨j3, hj3, H⟩ := bnd H
  refine Tr.cutE (D := Int × Int × List (List (Int × Int))) (M := Option Addr × Nat) .normal (fun _d => j3 = _d) (fun j3 m35 => ⟨[(2, .pointer (some ⟨b17, 0, none⟩)), (3, .pointer (some ⟨b18, 0, none⟩)), (5, .pointer (some ⟨b19, 0, none⟩)), (6, .int .i64 (wi64 (p1.2.2.2.2.2.tmod 5)))], [cells b17 [.int .i64 0, .int .i64 0, .slice none 0 0] 26, cells b18 [.int .i64 r21.1, .int .i64 r21.2.1, .slice m27.1 r21.2.2.length m27.2, .int .i64 r23.1, .int .i64 r23.2.1, .slice m29.1 r23.2.2.length m29.2, .int .i64 r25.1, .int .i64 r25.2.1, .slice m31.1 r25.2.2.length m31.2, .int .i64 r27.1, .int .i64 r27.2.1, .slice m33.1 r27.2.2.length m33.2] 130, cells b19 [.int .i64 j3.1, .int .i64 j3.2.1, .slice m35.1 j3.2.2.length m35.2] 26], [slF (rSl rp_u64_u64) none 0 (([] : List (List (Int × Int)))), slF (rSl rp_u64_u64) m27.1 m27.2 r21.2.2, slF (rSl rp_u64_u64) m29.1 m29.2 r23.2.2, slF (rSl rp_u64_u64) m31.1 m31.2 r25.2.2, slF (rSl rp_u64_u64) m33.1 m33.2 r27.2.2, slF (rSl rp_u64_u64) m35.1 m35.2 j3.2.2], []⟩) ?_ (fun j3 m35 hd4 => ?_)
  · rcases ifc hj3 with ⟨h9, hj3⟩ | ⟨h9, hj3⟩
    · refine Tr.cond_t rfl (bt_dec h9) ?_
      refine Tr.seq ?_
      refine Tr.region ?_
      refine TrL.v (v_indexArr rfl ar130 ty26 rfl rfl (by decide) (by decide) rfl) rfl rfl (bl rfl) ?_
      refine TrL.v (v_load (k := 1) rfl rfl rfl ty26 nofun rfl rfl) rfl rfl (bl rfl) ?_
      refine TrL.v (v_indexArr rfl ar130 ty26 rfl rfl (by decide) (by decide) rfl) rfl rfl (bl rfl) ?_
      refine TrL.v (v_load (k := 1) rfl rfl rfl ty26 nofun rfl rfl) rfl rfl (bl rfl) ?_
      refine TrL.cons rfl (op_buildSlice' (rp := rp_i64_i64_LLOu64_u64_C) (xs := [r21, r23]) (vs := [.agg #[.int .i64 r21.1, .int .i64 r21.2.1, .slice m27.1 r21.2.2.length m27.2], .agg #[.int .i64 r23.1, .int .i64 r23.2.1, .slice m29.1 r23.2.2.length m29.2]]) (out := [.int .i64 r21.1, .int .i64 r21.2.1, .slice m27.1 r21.2.2.length m27.2, .int .i64 r23.1, .int .i64 r23.2.1, .slice m29.1 r23.2.2.length m29.2]) rfl (bl rfl) rfl sl132 ty26 ze26 rfl rfl (by decide) (by decide) rfl (fun γ w hF => (rowc ⟨(m27.1, m27.2), rfl, (fcc (hF _ (List.mem_of_getElem? (i := 4) rfl)) fcn)⟩ (rowc ⟨(m29.1, m29.2), rfl, (fcc (hF _ (List.mem_of_getElem? (i := 5) rfl)) fcn)⟩ rown rfl) rfl)) (fun A17 => ?_))
      obtain ⟨r29, hr29, hj3⟩ := bnd hj3
      refine TrL.cons rfl (op_call0' (vs := [.slice A17 2 2]) (cap := []) [8] rfl rfl (bl rfl) rfl rfl en77 (c_ref10_Merge ([r21, r23]) A17 2 r29 hr29) rfl (fun ret M' F' hR29 => ?_))
      obtain ⟨m36, rfl, rfl, rfl⟩ := hR29
      refine TrL.v (v_move rfl rfl) rfl rfl (bl rfl) ?_
      refine TrL.v (v_extract rfl rfl rfl) rfl rfl (bl rfl) ?_
      refine TrL.v (v_extract rfl rfl rfl) rfl rfl (bl rfl) ?_
      refine TrL.cons rfl (op_alloc' rfl (bl rfl) rfl ze26 (fun b21 => ?_))
      refine TrL.cons rfl (op_store' (k := 0) (c' := [.int .i64 r29.1, .int .i64 r29.2.1, .slice m36.1 r29.2.2.1.length m36.2]) rfl rfl rfl rfl rfl ty26 rfl (Nat.le_of_ble_eq_true rfl) (ones (oc rfl (oc rfl (oc rfl on)))) rfl ?_)
      refine TrL.v (v_assign rfl rfl) rfl rfl (bl rfl) ?_
      refine TrL.nil (qthen_n ?_)
      refine Tr.region ?_
      refine TrL.v (v_load (k := 0) rfl rfl rfl ty26 nofun rfl rfl) rfl rfl (bl rfl) ?_
      refine TrL.cons rfl (op_store' (k := 1) (c' := [.int .i64 r29.1, .int .i64 r29.2.1, .slice m36.1 r29.2.2.1.length m36.2]) rfl rfl rfl rfl rfl ty26 rfl (Nat.le_of_ble_eq_true rfl) (ones (oc rfl (oc rfl (oc rfl on)))) rfl ?_)
      refine TrL.nil (qcut_hit ((r29.1, r29.2.1, r29.2.2.1)) ((m36.1, m36.2)) (Option.some.inj hj3).symm (Imp.addF' _ (nilF (rSl rp_u64_u64)) (Imp.re _ [3, 2, 1] [10, 4, 5, 6, 7, 9] (sc rfl (sc rfl (sc rfl (sc rfl sn)))) (by decide) rfl rfl rfl)))
    · refine Tr.cond_f rfl (bf_dec h9) ?_
      refine Tr.skip (qcut_hit ((r21.1, r21.2.1, r21.2.2)) ((m27.1, m27.2)) (Option.some.inj hj3).symm (Imp.addF' _ (nilF (rSl rp_u64_u64)) (Imp.re _ [2, 1, 0] [8, 4, 5, 6, 7, 4] (sc rfl (sc rfl (sc rfl (sc rfl sn)))) (by decide) rfl rfl rfl)))
  · subst hd4
    refine (qthen_n ?_)
    refine Tr.seq ?_
    refine Tr.seq ?_
    refine Tr.region ?_
    refine TrL.v (v_move rfl rfl) rfl rfl (bl rfl) ?_
    refine TrL.v (v_arith rfl rfl rfl ar_gtr) rfl rfl (bl rfl) ?_
    refine TrL.nil (qthen_n ?_)
    obtain ⟨j4, hj4, H⟩ := bnd H
    refine Tr.cutE (D := Int × Int × List (List (Int × Int))) (M := Option Addr × Nat) .normal (fun _d => j4 = _d) (fun j4 m40 => ⟨[(2, .pointer (some ⟨b17, 0, none⟩)), (3, .pointer (some ⟨b18, 0, none⟩)), (5, .pointer (some ⟨b19, 0, none⟩)), (6, .int .i64 (wi64 (p1.2.2.2.2.2.tmod 5)))], [cells b17 [.int .i64 0, .int .i64 0, .slice none 0 0] 26, cells b18 [.int .i64 r21.1, .int .i64 r21.2.1, .slice m27.1 r21.2.2.length m27.2, .int .i64 r23.1, .int .i64 r23.2.1, .slice m29.1 r23.2.2.length m29.2, .int .i64 r25.1, .int .i64 r25.2.1, .slice m31.1 r25.2.2.length m31.2, .int .i64 r27.1, .int .i64 r27.2.1, .slice m33.1 r27.2.2.length m33.2] 130, cells b19 [.int .i64 j4.1, .int .i64 j4.2.1, .slice m40.1 j4.2.2.length m40.2] 26], [slF (rSl rp_u64_u64) none 0 (([] : List (List (Int × Int)))), slF (rSl rp_u64_u64) m27.1 m27.2 r21.2.2, slF (rSl rp_u64_u64) m29.1 m29.2 r23.2.2, slF (rSl rp_u64_u64) m31.1 m31.2 r25.2.2, slF (rSl rp_u64_u64) m33.1 m33.2 r27.2.2, slF (rSl rp_u64_u64) m40.1 m40.2 j4.2.2], []⟩) ?_ (fun j4 m40 hd5 => ?_)
    · rcases ifc hj4 with ⟨h11, hj4⟩ | ⟨h11, hj4⟩
      · refine Tr.cond_t rfl (bt_dec h11) ?_
        refine Tr.seq ?_
        refine Tr.region ?_
        refine TrL.v (v_indexArr rfl ar130 ty26 rfl rfl (by decide) (by decide) rfl) rfl rfl (bl rfl) ?_
        refine TrL.v (v_load (k := 1) rfl rfl rfl ty26 nofun rfl rfl) rfl rfl (bl rfl) ?_
        refine TrL.v (v_indexArr rfl ar130 ty26 rfl rfl (by decide) (by decide) rfl) rfl rfl (bl rfl) ?_
        refine TrL.v (v_load (k := 1) rfl rfl rfl ty26 nofun rfl rfl) rfl rfl (bl rfl) ?_
        refine TrL.cons rfl (op_buildSlice' (rp := rp_i64_i64_LLOu64_u64_C) (xs := [r21, r23]) (vs := [.agg #[.int .i64 r21.1, .int .i64 r21.2.1, .slice m27.1 r21.2.2.length m27.2], .agg #[.int .i64 r23.1, .int .i64 r23.2.1, .slice m29.1 r23.2.2.length m29.2]]) (out := [.int .i64 r21.1, .int .i64 r21.2.1, .slice m27.1 r21.2.2.length m27.2, .int .i64 r23.1, .int .i64 r23.2.1, .slice m29.1 r23.2.2.length m29.2]) rfl (bl rfl) rfl sl132 ty26 ze26 rfl rfl (by decide) (by decide) rfl (fun γ w hF => (rowc ⟨(m27.1, m27.2), rfl, (fcc (hF _ (List.mem_of_getElem? (i := 1) rfl)) fcn)⟩ (rowc ⟨(m29.1, m29.2), rfl, (fcc (hF _ (List.mem_of_getElem? (i := 2) rfl)) fcn)⟩ rown rfl) rfl)) (fun A21 => ?_))
        obtain ⟨r33, hr33, hj4⟩ := bnd hj4
        refine TrL.cons rfl (op_call0' (vs := [.slice A21 2 2]) (cap := []) [6] rfl rfl (bl rfl) rfl rfl en77 (c_ref10_Merge ([r21, r23]) A21 2 r33 hr33) rfl (fun ret M' F' hR33 => ?_))
        obtain ⟨m41, rfl, rfl, rfl⟩ := hR33
        refine TrL.v (v_move rfl rfl) rfl rfl (bl rfl) ?_
        refine TrL.v (v_extract rfl rfl rfl) rfl rfl (bl rfl) ?_
        refine TrL.v (v_extract rfl rfl rfl) rfl rfl (bl rfl) ?_
        refine TrL.cons rfl (op_alloc' rfl (bl rfl) rfl ze26 (fun b25 => ?_))
        refine TrL.cons rfl (op_store' (k := 0) (c' := [.int .i64 r33.1, .int .i64 r33.2.1, .slice m41.1 r33.2.2.1.length m41.2]) rfl rfl rfl rfl rfl ty26 rfl (Nat.le_of_ble_eq_true rfl) (ones (oc rfl (oc rfl (oc rfl on)))) rfl ?_)
        refine TrL.v (v_assign rfl rfl) rfl rfl (bl rfl) ?_
        refine TrL.nil (qthen_n ?_)
        refine Tr.seq ?_
        refine Tr.region ?_
        refine TrL.v (v_indexArr rfl ar130 ty26 rfl rfl (by decide) (by decide) rfl) rfl rfl (bl rfl) ?_
        refine TrL.v (v_load (k := 2) rfl rfl rfl ty26 nofun rfl rfl) rfl rfl (bl rfl) ?_
        refine TrL.v (v_indexArr rfl ar130 ty26 rfl rfl (by decide) (by decide) rfl) rfl rfl (bl rfl) ?_
        refine TrL.v (v_load (k := 2) rfl rfl rfl ty26 nofun rfl rfl) rfl rfl (bl rfl) ?_
        refine TrL.cons rfl (op_buildSlice' (rp := rp_i64_i64_LLOu64_u64_C) (xs := [r25, r27]) (vs := [.agg #[.int .i64 r25.1, .int .i64 r25.2.1, .slice m31.1 r25.2.2.length m31.2], .agg #[.int .i64 r27.1, .int .i64 r27.2.1, .slice m33.1 r27.2.2.length m33.2]]) (out := [.int .i64 r25.1, .int .i64 r25.2.1, .slice m31.1 r25.2.2.length m31.2, .int .i64 r27.1, .int .i64 r27.2.1, .slice m33.1 r27.2.2.length m33.2]) rfl (bl rfl) rfl sl132 ty26 ze26 rfl rfl (by decide) (by decide) rfl (fun γ w hF => (rowc ⟨(m31.1, m31.2), rfl, (fcc (hF _ (List.mem_of_getElem? (i := 3) rfl)) fcn)⟩ (rowc ⟨(m33.1, m33.2), rfl, (fcc (hF _ (List.mem_of_getElem? (i := 4) rfl)) fcn)⟩ rown rfl) rfl)) (fun A22 => ?_))
        obtain ⟨r34, hr34, hj4⟩ := bnd hj4
        refine TrL.cons rfl (op_call0' (vs := [.slice A22 2 2]) (cap := []) [8] rfl rfl (bl rfl) rfl rfl en77 (c_ref10_Merge ([r25, r27]) A22 2 r34 hr34) rfl (fun ret M' F' hR34 => ?_))
        obtain ⟨m42, rfl, rfl, rfl⟩ := hR34
        refine TrL.v (v_move rfl rfl) rfl rfl (bl rfl) ?_
        refine TrL.v (v_extract rfl rfl rfl) rfl rfl (bl rfl) ?_
        refine TrL.v (v_extract rfl rfl rfl) rfl rfl (bl rfl) ?_
        refine TrL.cons rfl (op_alloc' rfl (bl rfl) rfl ze26 (fun b26 => ?_))
        refine TrL.cons rfl (op_store' (k := 0) (c' := [.int .i64 r34.1, .int .i64 r34.2.1, .slice m42.1 r34.2.2.1.length m42.2]) rfl rfl rfl rfl rfl ty26 rfl (Nat.le_of_ble_eq_true rfl) (ones (oc rfl (oc rfl (oc rfl on)))) rfl ?_)
        refine TrL.v (v_assign rfl rfl) rfl rfl (bl rfl) ?_
        refine TrL.nil (qthen_n ?_)
        refine Tr.seq ?_
        refine Tr.region ?_
        refine TrL.v (v_load (k := 1) rfl rfl rfl ty26 nofun rfl rfl) rfl rfl (bl rfl) ?_
        refine TrL.v (v_load (k := 0) rfl rfl rfl ty26 nofun rfl rfl) rfl rfl (bl rfl) ?_
        refine TrL.cons rfl (op_buildSlice' (rp := rp_i64_i64_LLOu64_u64_C) (xs := [(r33.1, r33.2.1, r33.2.2.1), (r34.1, r34.2.1, r34.2.2.1)]) (vs := [.agg #[.int .i64 r33.1, .int .i64 r33.2.1, .slice m41.1 r33.2.2.1.length m41.2], .agg #[.int .i64 r34.1, .int .i64 r34.2.1, .slice m42.1 r34.2.2.1.length m42.2]]) (out := [.int .i64 r33.1, .int .i64 r33.2.1, .slice m41.1 r33.2.2.1.length m41.2, .int .i64 r34.1, .int .i64 r34.2.1, .slice m42.1 r34.2.2.1.length m42.2]) rfl (bl rfl) rfl sl132 ty26 ze26 rfl rfl (by decide) (by decide) rfl (fun γ w hF => (rowc ⟨(m41.1, m41.2), rfl, (fcc (hF _ (List.mem_of_getElem? (i := 7) rfl)) fcn)⟩ (rowc ⟨(m42.1, m42.2), rfl, (fcc (hF _ (List.mem_of_getElem? (i := 9) rfl)) fcn)⟩ rown rfl) rfl)) (fun A23 => ?_))
        obtain ⟨r35, hr35, hj4⟩ := bnd hj4
        refine TrL.cons rfl (op_call0' (vs := [.slice A23 2 2]) (cap := []) [10] rfl rfl (bl rfl) rfl rfl en77 (c_ref10_Merge ([(r33.1, r33.2.1, r33.2.2.1), (r34.1, r34.2.1, r34.2.2.1)]) A23 2 r35 hr35) rfl (fun ret M' F' hR35 => ?_))
        obtain ⟨m43, rfl, rfl, rfl⟩ := hR35
        refine TrL.v (v_move rfl rfl) rfl rfl (bl rfl) ?_
        refine TrL.v (v_extract rfl rfl rfl) rfl rfl (bl rfl) ?_
        refine TrL.v (v_extract rfl rfl rfl) rfl rfl (bl rfl) ?_
        refine TrL.cons rfl (op_alloc' rfl (bl rfl) rfl ze26 (fun b27 => ?_))
        refine TrL.cons rfl (op_store' (k := 0) (c' := [.int .i64 r35.1, .int .i64 r35.2.1, .slice m43.1 r35.2.2.1.length m43.2]) rfl rfl rfl rfl rfl ty26 rfl (Nat.le_of_ble_eq_true rfl) (ones (oc rfl (oc rfl (oc rfl on)))) rfl ?_)
        refine TrL.v (v_assign rfl rfl) rfl rfl (bl rfl) ?_
        refine TrL.nil (qthen_n ?_)
        refine Tr.region ?_
        refine TrL.v (v_load (k := 0) rfl rfl rfl ty26 nofun rfl rfl) rfl rfl (bl rfl) ?_
        refine TrL.cons rfl (op_store' (k := 5) (c' := [.int .i64 r35.1, .int .i64 r35.2.1, .slice m43.1 r35.2.2.1.length m43.2]) rfl rfl rfl rfl rfl ty26 rfl (Nat.le_of_ble_eq_true rfl) (ones (oc rfl (oc rfl (oc rfl on)))) rfl ?_)
        refine TrL.nil (qcut_hit ((r35.1, r35.2.1, r35.2.2.1)) ((m43.1, m43.2)) (Option.some.inj hj4).symm (Imp.re _ [3, 4, 5] [0, 1, 2, 3, 4, 11] (sc rfl (sc rfl (sc rfl (sc rfl sn)))) (by decide) rfl rfl rfl))
      · refine Tr.cond_f rfl (bf_dec h11) ?_
        refine Tr.skip (qcut_hit ((j3.1, j3.2.1, j3.2.2)) ((m35.1, m35.2)) (Option.some.inj hj4).symm (Imp.re _ [0, 1, 2] [0, 1, 2, 3, 4, 5] (sc rfl (sc rfl (sc rfl (sc rfl sn)))) (by decide) rfl rfl rfl))
    · subst hd5
      refine (qthen_n ?_)
      refine Tr.seq ?_
      refine Tr.seq ?_
      refine Tr.region ?_
      refine TrL.v (v_assign rfl rfl) rfl rfl (bl rfl) ?_
      refine TrL.nil (qthen_n ?_)
      obtain ⟨x2, hx3, H⟩ := bnd H
      refine Tr.cutE (D := Int × Int × List (List (Int × Int))) (M := Option Addr × Nat) .normal (fun _d => x2 = _d) (fun x2 m49 => ⟨[(2, .pointer (some ⟨b17, 0, none⟩)), (5, .pointer (some ⟨b19, 0, none⟩))], [cells b17 [.int .i64 0, .int .i64 0, .slice none 0 0] 26, cells b19 [.int .i64 x2.1, .int .i64 x2.2.1, .slice m49.1 x2.2.2.length m49.2] 26], [slF (rSl rp_u64_u64) none 0 (([] : List (List (Int × Int)))), slF (rSl rp_u64_u64) m49.1 m49.2 x2.2.2], []⟩) ?_ (fun x2 m49 hd6 => ?_)
      · refine Tr.block (Tr.loopI (ι := Option Addr × Nat) (step := ref10_Build_s0 p1 r21) (fun s5 m46 => ⟨[(2, .pointer (some ⟨b17, 0, none⟩)), (3, .pointer (some ⟨b18, 0, none⟩)), (5, .pointer (some ⟨b19, 0, none⟩)), (6, .int .i64 (wi64 (p1.2.2.2.2.2.tmod 5))), (15, .int .i64 s5.1)], [cells b17 [.int .i64 0, .int .i64 0, .slice none 0 0] 26, cells b18 [.int .i64 r21.1, .int .i64 r21.2.1, .slice m27.1 r21.2.2.length m27.2, .int .i64 r23.1, .int .i64 r23.2.1, .slice m29.1 r23.2.2.length m29.2, .int .i64 r25.1, .int .i64 r25.2.1, .slice m31.1 r25.2.2.length m31.2, .int .i64 r27.1, .int .i64 r27.2.1, .slice m33.1 r27.2.2.length m33.2] 130, cells b19 [.int .i64 s5.2.1, .int .i64 s5.2.2.1, .slice m46.1 s5.2.2.2.length m46.2] 26], [slF (rSl rp_u64_u64) none 0 (([] : List (List (Int × Int)))), slF (rSl rp_u64_u64) m27.1 m27.2 r21.2.2, slF (rSl rp_u64_u64) m29.1 m29.2 r23.2.2, slF (rSl rp_u64_u64) m31.1 m31.2 r25.2.2, slF (rSl rp_u64_u64) m33.1 m33.2 r27.2.2, slF (rSl rp_u64_u64) m46.1 m46.2 s5.2.2.2], []⟩) ((m40.1, m40.2)) hx3 (Imp.re _ [0, 1, 2] [0, 1, 2, 3, 4, 5] (sc rfl (sc rfl (sc rfl (sc rfl (sc rfl sn))))) (by decide) rfl rfl rfl) (fun s5 m46 y2 hy2 hx4 => ?_))
        unfold ref10_Build_s0 at hy2
        refine Tr.seq ?_
        refine Tr.seq ?_
        refine Tr.region ?_
        refine TrL.v (v_move rfl rfl) rfl rfl (bl rfl) ?_
        refine TrL.v (v_move rfl rfl) rfl rfl (bl rfl) ?_
        refine TrL.v (v_arith rfl rfl rfl ar_lss) rfl rfl (bl rfl) ?_
        refine TrL.nil (qthen_n ?_)
        rcases ifc hy2 with ⟨h14, hy2⟩ | ⟨h14, hy2⟩
        · refine Tr.cond_t rfl (bt_dec h14) ?_
          refine Tr.skip (qthen_n ?_)
          refine Tr.seq ?_
          refine Tr.block ?_
          refine Tr.seq ?_
          refine Tr.region ?_
          refine TrL.v (v_load (k := 2) rfl rfl rfl ty26 nofun rfl rfl) rfl rfl (bl rfl) ?_
          refine TrL.v (v_indexArr rfl ar130 ty26 rfl rfl (by decide) (by decide) rfl) rfl rfl (bl rfl) ?_
          refine TrL.v (v_load (k := 1) rfl rfl rfl ty26 nofun rfl rfl) rfl rfl (bl rfl) ?_
          refine TrL.cons rfl (op_buildSlice' (rp := rp_i64_i64_LLOu64_u64_C) (xs := [s5.2, r21]) (vs := [.agg #[.int .i64 s5.2.1, .int .i64 s5.2.2.1, .slice m46.1 s5.2.2.2.length m46.2], .agg #[.int .i64 r21.1, .int .i64 r21.2.1, .slice m27.1 r21.2.2.length m27.2]]) (out := [.int .i64 s5.2.1, .int .i64 s5.2.2.1, .slice m46.1 s5.2.2.2.length m46.2, .int .i64 r21.1, .int .i64 r21.2.1, .slice m27.1 r21.2.2.length m27.2]) rfl (bl rfl) rfl sl132 ty26 ze26 rfl rfl (by decide) (by decide) rfl (fun γ w hF => (rowc ⟨(m46.1, m46.2), rfl, (fcc (hF _ (List.mem_of_getElem? (i := 5) rfl)) fcn)⟩ (rowc ⟨(m27.1, m27.2), rfl, (fcc (hF _ (List.mem_of_getElem? (i := 1) rfl)) fcn)⟩ rown rfl) rfl)) (fun A26 => ?_))
          obtain ⟨r38, hr38, hy2⟩ := bnd hy2
          refine TrL.cons rfl (op_call0' (vs := [.slice A26 2 2]) (cap := []) [6] rfl rfl (bl rfl) rfl rfl en77 (c_ref10_Merge ([s5.2, r21]) A26 2 r38 hr38) rfl (fun ret M' F' hR38 => ?_))
          obtain ⟨m50, rfl, rfl, rfl⟩ := hR38
          refine TrL.v (v_move rfl rfl) rfl rfl (bl rfl) ?_
          refine TrL.v (v_extract rfl rfl rfl) rfl rfl (bl rfl) ?_
          refine TrL.v (v_extract rfl rfl rfl) rfl rfl (bl rfl) ?_
          refine TrL.cons rfl (op_alloc' rfl (bl rfl) rfl ze26 (fun b30 => ?_))
          refine TrL.cons rfl (op_store' (k := 0) (c' := [.int .i64 r38.1, .int .i64 r38.2.1, .slice m50.1 r38.2.2.1.length m50.2]) rfl rfl rfl rfl rfl ty26 rfl (Nat.le_of_ble_eq_true rfl) (ones (oc rfl (oc rfl (oc rfl on)))) rfl ?_)
          refine TrL.v (v_assign rfl rfl) rfl rfl (bl rfl) ?_
          refine TrL.nil (qthen_n ?_)
          refine Tr.region ?_
          refine TrL.v (v_load (k := 0) rfl rfl rfl ty26 nofun rfl rfl) rfl rfl (bl rfl) ?_
          refine TrL.cons rfl (op_store' (k := 3) (c' := [.int .i64 r38.1, .int .i64 r38.2.1, .slice m50.1 r38.2.2.1.length m50.2]) rfl rfl rfl rfl rfl ty26 rfl (Nat.le_of_ble_eq_true rfl) (ones (oc rfl (oc rfl (oc rfl on)))) rfl ?_)
          refine TrL.nil (qblock_n (qthen_n ?_))
          refine Tr.region ?_
          refine TrL.v (v_move rfl rfl) rfl rfl (bl rfl) ?_
          refine TrL.v (v_arith rfl rfl rfl ar_add_i64) rfl rfl (bl rfl) ?_
          refine TrL.v (v_assign rfl rfl) rfl rfl (bl rfl) ?_
          have hz := Option.some.inj hy2
          subst hz
          refine TrL.nil (qloop_n ((m50.1, m50.2)) (Imp.re _ [1, 2, 3] [0, 1, 2, 3, 4, 7] (sc rfl (sc rfl (sc rfl (sc rfl (sc rfl sn))))) (by decide) rfl rfl rfl))
        · refine Tr.cond_f rfl (bf_dec h14) ?_
          have hz := Option.some.inj hy2
          subst hz
          refine Tr.exit (qthen_x (qloop_x (qblock_hit (qcut_hit ((s5.2.1, s5.2.2.1, s5.2.2.2)) ((m46.1, m46.2)) (hx4 _ rfl).symm (Imp.re _ [0, 2] [0, 5] (sc rfl (sc rfl sn)) (by decide) rfl rfl rfl)))))
      · subst hd6
        refine (qthen_n ?_)
        refine Tr.seq ?_
        refine Tr.region ?_
        refine TrL.v (v_load (k := 1) rfl rfl rfl ty26 nofun rfl rfl) rfl rfl (bl rfl) ?_
        refine TrL.cons rfl (op_store' (k := 0) (c' := [.int .i64 x2.1, .int .i64 x2.2.1, .slice m49.1 x2.2.2.length m49.2]) rfl rfl rfl rfl rfl ty26 rfl (Nat.le_of_ble_eq_true rfl) (ones (oc rfl (oc rfl (oc rfl on)))) rfl ?_)
        refine TrL.nil (qthen_n ?_)
        have hz := Option.some.inj H
        subst hz
        refine Tr.ret (ret_r ⟨[(2, .pointer (some ⟨b17, 0, none⟩))], [cells b17 [.int .i64 x2.1, .int .i64 x2.2.1, .slice m49.1 x2.2.2.length m49.2] 26], [slF (rSl rp_u64_u64) m49.1 m49.2 x2.2.2], []⟩ [.agg #[.int .i64 x2.1, .int .i64 x2.2.1, .slice m49.1 x2.2.2.length m49.2]] [] [cells b17 [.int .i64 x2.1, .int .i64 x2.2.1, .slice m49.1 x2.2.2.length m49.2] 26] (Imp.re _ [0] [1] (sc rfl sn) (by decide) rfl rfl rfl) rfl rfl ⟨((m49.1, m49.2)), rfl, rfl, rfl⟩ (.cons (resv_cell (k := 0) rfl rfl ty26 nofun rfl rfl) .nil))
end Go.Proofs.Ytbeknohemgjfbaa.W
