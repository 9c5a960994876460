/- The contracts of the walked functions: the printed walks. -/
import Derived.Test.YtbnjjpmlaknaoaaKa
import Derived.Test.YtbnjjpmlaknaoaaQa
namespace Go.Proofs.Ytbnjjpmlaknaoaa.W
open Go Go.Proofs Go.Proofs.Ytbnjjpmlaknaoaa.L Go.Proofs.Ytbnjjpmlaknaoaa.Pu
set_option linter.unusedVariables false
set_option maxHeartbeats 4000000

theorem c_level_bounded_int (p1 : Int) (p2 : Int) (r : Int) (H : level_bounded_int p1 p2 = some r) :
    Ctr Try.prog 84 [.int .i64 p1, .int .i64 p2] [] [] (fun ret M' F' => ret = .int .i64 r ∧ M' = [] ∧ F' = []) := by
  unfold level_bounded_int at H
  refine ctr_ofI (N := 10) Try.func84 rfl Try.ntmps84 rfl (Nat.le_of_ble_eq_true rfl) (fun γ0 w0 => ?_)
  refine Tr.seq ?_
  refine Tr.region ?_
  refine TrL.v (v_assign rfl rfl) rfl rfl (bl rfl) ?_
  refine TrL.nil (qthen_n ?_)
  refine Tr.seq ?_
  refine Tr.seq ?_
  refine Tr.region ?_
  refine TrL.v (v_move rfl rfl) rfl rfl (bl rfl) ?_
  refine TrL.v (v_move rfl rfl) rfl rfl (bl rfl) ?_
  refine TrL.v (v_arith rfl rfl rfl ar_lss) rfl rfl (bl rfl) ?_
  refine TrL.nil (qthen_n ?_)
  rcases ifc H with ⟨h2, H⟩ | ⟨h2, H⟩
  · refine Tr.cond_t rfl (bt_dec h2) ?_
    refine Tr.seq ?_
    refine Tr.region ?_
    refine TrL.v (v_move rfl rfl) rfl rfl (bl rfl) ?_
    refine TrL.v (v_assign rfl rfl) rfl rfl (bl rfl) ?_
    refine TrL.nil (qthen_n ?_)
    have hz := Option.some.inj H
    subst hz
    refine Tr.ret (qthen_r (ret_r ⟨[(4, .int .i64 p2)], [], [], []⟩ [.int .i64 p2] [] [] (Imp.re _ [] [] (sc rfl sn) (by decide) rfl rfl rfl) rfl rfl ⟨rfl, rfl, rfl⟩ (.cons (resv_tmp rfl) .nil)))
  · refine Tr.cond_f rfl (bf_dec h2) ?_
    refine Tr.skip (qthen_n ?_)
    refine Tr.seq ?_
    refine Tr.region ?_
    refine TrL.v (v_move rfl rfl) rfl rfl (bl rfl) ?_
    refine TrL.v (v_assign rfl rfl) rfl rfl (bl rfl) ?_
    refine TrL.nil (qthen_n ?_)
    have hz := Option.some.inj H
    subst hz
    refine Tr.ret (ret_r ⟨[(4, .int .i64 p1)], [], [], []⟩ [.int .i64 p1] [] [] (Imp.re _ [] [] (sc rfl sn) (by decide) rfl rfl rfl) rfl rfl ⟨rfl, rfl, rfl⟩ (.cons (resv_tmp rfl) .nil))

theorem c_level_line_long (p1 : (List (Int × Int)) × Int × Int) (b1 : Nat) (A1 : Option Addr) (c1 : Nat) (r : Unit) (H : level_line_long p1 = some r) :
    Ctr Try.prog 87 [.pointer (some ⟨b1, 0, none⟩)] [cells b1 [.slice A1 p1.1.length c1, .int .u64 p1.2.1, .int .u64 p1.2.2] 106] [slF rp_u64_u64 A1 c1 p1.1] (fun ret M' F' => ret = .int .u64 (wu64 ((wu64 ((p1.1.length : Int))) + p1.2.1)) ∧ M' = [cells b1 [.slice A1 p1.1.length c1, .int .u64 p1.2.1, .int .u64 p1.2.2] 106] ∧ F' = [slF rp_u64_u64 A1 c1 p1.1]) := by
  unfold level_line_long at H
  refine ctr_ofI (N := 14) Try.func87 rfl Try.ntmps87 rfl (Nat.le_of_ble_eq_true rfl) (fun γ0 w0 => ?_)
  refine Tr.seq ?_
  refine Tr.region ?_
  refine TrL.v (v_assign rfl rfl) rfl rfl (bl rfl) ?_
  refine TrL.nil (qthen_n ?_)
  refine Tr.seq ?_
  refine Tr.re ⟨[(0, .pointer (some ⟨b1, 0, none⟩))], [cells b1 [.slice A1 p1.1.length c1, .int .u64 p1.2.1, .int .u64 p1.2.2] 106], [slF rp_u64_u64 A1 c1 p1.1], []⟩ [0] [0] (sc rfl sn) (by decide) rfl rfl rfl ?_
  refine Tr.regionD drawn (fun hok => ?_)
  refine TrAny.prom (i := 0) (d := 3) hok (OpVal.plain rfl rfl (v_move rfl rfl)) (by kernel_rfl) rfl (bl rfl) ?_
  clear hok
  intro hok
  refine TrAny.prom (i := 1) (d := 4) hok (OpVal.plain rfl rfl (v_nilCheck rfl rfl)) (by kernel_rfl) rfl (bl rfl) ?_
  clear hok
  intro hok
  refine TrAny.prom (i := 2) (d := 5) hok (OpVal.plain rfl rfl (v_fieldAddr' rfl fo106_0 rfl rfl)) (by kernel_rfl) rfl (bl rfl) ?_
  clear hok
  intro hok
  refine TrAny.prom (i := 3) (d := 6) hok (OpVal.plain rfl rfl (v_load (k := 0) rfl rfl rfl ty38 (fun _ => rfl) rfl rfl)) (by kernel_rfl) rfl (bl rfl) ?_
  clear hok
  intro hok
  refine TrAny.prom (i := 4) (d := 7) hok (OpVal.plain rfl rfl (v_len rfl sl38 rfl)) (by kernel_rfl) rfl (bl rfl) ?_
  clear hok
  intro hok
  refine TrAny.prom (i := 5) (d := 8) hok (OpVal.plain rfl rfl (v_conv' rfl ⟨_, Try.underlying3⟩ Try.underlying23 rfl wrap_u64')) (by kernel_rfl) rfl (bl rfl) ?_
  clear hok
  intro hok
  refine TrAny.prom (i := 6) (d := 9) hok (OpVal.plain rfl rfl (v_move rfl rfl)) (by kernel_rfl) rfl (bl rfl) ?_
  clear hok
  intro hok
  refine TrAny.prom (i := 7) (d := 10) hok (OpVal.plain rfl rfl (v_nilCheck rfl rfl)) (by kernel_rfl) rfl (bl rfl) ?_
  clear hok
  intro hok
  refine TrAny.prom (i := 8) (d := 11) hok (OpVal.plain rfl rfl (v_fieldAddr' rfl fo106_1 rfl rfl)) (by kernel_rfl) rfl (bl rfl) ?_
  clear hok
  intro hok
  refine TrAny.prom (i := 9) (d := 12) hok (OpVal.plain rfl rfl (v_load (k := 0) rfl rfl rfl ty23 (fun _ => rfl) rfl rfl)) (by kernel_rfl) rfl (bl rfl) ?_
  clear hok
  intro hok
  refine TrAny.prom (i := 10) (d := 13) hok (OpVal.plain rfl rfl (v_arith rfl rfl rfl ar_add_u64)) (by kernel_rfl) rfl (bl rfl) ?_
  clear hok
  intro hok
  refine TrAny.prom (i := 11) (d := 2) hok (OpVal.plain rfl rfl (v_assign rfl rfl)) (by kernel_rfl) rfl (bl rfl) ?_
  clear hok
  intro hok
  refine TrAny.done (by kernel_rfl) (by kernel_rfl) hok (by kernel_rfl) (qthen_n ?_)
  have hz := Option.some.inj H
  subst hz
  refine Tr.ret (ret_r ⟨[(2, .int .u64 (wu64 ((wu64 ((p1.1.length : Int))) + p1.2.1)))], [cells b1 [.slice A1 p1.1.length c1, .int .u64 p1.2.1, .int .u64 p1.2.2] 106], [slF rp_u64_u64 A1 c1 p1.1], []⟩ [.int .u64 (wu64 ((wu64 ((p1.1.length : Int))) + p1.2.1))] [cells b1 [.slice A1 p1.1.length c1, .int .u64 p1.2.1, .int .u64 p1.2.2] 106] [] (Imp.re _ [0] [0] (sc rfl sn) (by decide) rfl rfl rfl) rfl rfl ⟨rfl, rfl, rfl⟩ (.cons (resv_tmp rfl) .nil))

theorem c_level_bounded_uint64 (p1 : Int) (p2 : Int) (r : Int) (H : level_bounded_uint64 p1 p2 = some r) :
    Ctr Try.prog 86 [.int .u64 p1, .int .u64 p2] [] [] (fun ret M' F' => ret = .int .u64 r ∧ M' = [] ∧ F' = []) := by
  unfold level_bounded_uint64 at H
  refine ctr_ofI (N := 10) Try.func86 rfl Try.ntmps86 rfl (Nat.le_of_ble_eq_true rfl) (fun γ0 w0 => ?_)
  refine Tr.seq ?_
  refine Tr.region ?_
  refine TrL.v (v_assign rfl rfl) rfl rfl (bl rfl) ?_
  refine TrL.nil (qthen_n ?_)
  refine Tr.seq ?_
  refine Tr.seq ?_
  refine Tr.region ?_
  refine TrL.v (v_move rfl rfl) rfl rfl (bl rfl) ?_
  refine TrL.v (v_move rfl rfl) rfl rfl (bl rfl) ?_
  refine TrL.v (v_arith rfl rfl rfl ar_lss) rfl rfl (bl rfl) ?_
  refine TrL.nil (qthen_n ?_)
  rcases ifc H with ⟨h2, H⟩ | ⟨h2, H⟩
  · refine Tr.cond_t rfl (bt_dec h2) ?_
    refine Tr.seq ?_
    refine Tr.region ?_
    refine TrL.v (v_move rfl rfl) rfl rfl (bl rfl) ?_
    refine TrL.v (v_assign rfl rfl) rfl rfl (bl rfl) ?_
    refine TrL.nil (qthen_n ?_)
    have hz := Option.some.inj H
    subst hz
    refine Tr.ret (qthen_r (ret_r ⟨[(4, .int .u64 p2)], [], [], []⟩ [.int .u64 p2] [] [] (Imp.re _ [] [] (sc rfl sn) (by decide) rfl rfl rfl) rfl rfl ⟨rfl, rfl, rfl⟩ (.cons (resv_tmp rfl) .nil)))
  · refine Tr.cond_f rfl (bf_dec h2) ?_
    refine Tr.skip (qthen_n ?_)
    refine Tr.seq ?_
    refine Tr.region ?_
    refine TrL.v (v_move rfl rfl) rfl rfl (bl rfl) ?_
    refine TrL.v (v_assign rfl rfl) rfl rfl (bl rfl) ?_
    refine TrL.nil (qthen_n ?_)
    have hz := Option.some.inj H
    subst hz
    refine Tr.ret (ret_r ⟨[(4, .int .u64 p1)], [], [], []⟩ [.int .u64 p1] [] [] (Imp.re _ [] [] (sc rfl sn) (by decide) rfl rfl rfl) rfl rfl ⟨rfl, rfl, rfl⟩ (.cons (resv_tmp rfl) .nil))

theorem c_level_Push_1 (p1 : (List (Int × Int)) × Int × Int) (p2 : Int) (b1 : Nat) (b2 : Nat) (A1 : Option Addr) (c1 : Nat) (b3 : Nat) (r : Int) (H : level_Push_1 p1 p2 = some r) :
    Ctr Try.prog 85 [.pointer (some ⟨b1, 0, none⟩), .pointer (some ⟨b3, 0, none⟩)] [cells b2 [.slice A1 p1.1.length c1, .int .u64 p1.2.1, .int .u64 p1.2.2] 106, cells b1 [.pointer (some ⟨b2, 0, none⟩)] 104, cells b3 [.int .u64 p2] 23] [slF rp_u64_u64 A1 c1 p1.1] (fun ret M' F' => ret = .int .u64 r ∧ M' = [cells b2 [.slice A1 p1.1.length c1, .int .u64 p1.2.1, .int .u64 p1.2.2] 106, cells b1 [.pointer (some ⟨b2, 0, none⟩)] 104, cells b3 [.int .u64 p2] 23] ∧ F' = [slF rp_u64_u64 A1 c1 p1.1]) := by
  unfold level_Push_1 at H
  refine ctr_ofI (N := 9) Try.func85 rfl Try.ntmps85 rfl (Nat.le_of_ble_eq_true rfl) (fun γ0 w0 => ?_)
  refine Tr.seq ?_
  refine Tr.region ?_
  refine TrL.v (v_assign rfl rfl) rfl rfl (bl rfl) ?_
  refine TrL.nil (qthen_n ?_)
  refine Tr.seq ?_
  refine Tr.re ⟨[(0, .pointer (some ⟨b1, 0, none⟩)), (1, .pointer (some ⟨b3, 0, none⟩))], [cells b2 [.slice A1 p1.1.length c1, .int .u64 p1.2.1, .int .u64 p1.2.2] 106, cells b1 [.pointer (some ⟨b2, 0, none⟩)] 104, cells b3 [.int .u64 p2] 23], [slF rp_u64_u64 A1 c1 p1.1], []⟩ [0, 1, 2] [0] (sc rfl (sc rfl sn)) (by decide) rfl rfl rfl ?_
  refine Tr.regionD drawn (fun hok => ?_)
  refine TrAny.prom (i := 0) (d := 3) hok (OpVal.plain rfl rfl (v_load (k := 1) rfl rfl rfl ty104 (fun _ => rfl) rfl rfl)) (by kernel_rfl) rfl (bl rfl) ?_
  clear hok
  intro hok
  refine TrAny.prom (i := 2) (d := 5) hok (OpVal.plain rfl rfl (v_load (k := 2) rfl rfl rfl ty23 (fun _ => rfl) rfl rfl)) (by kernel_rfl) rfl (bl rfl) ?_
  clear hok
  intro hok
  refine TrAny.prom (i := 4) (d := 7) hok (OpVal.plain rfl rfl (v_load (k := 2) rfl rfl rfl ty23 (fun _ => rfl) rfl rfl)) (by kernel_rfl) rfl (bl rfl) ?_
  clear hok
  intro hok
  obtain ⟨r7, hr7, H⟩ := bnd H
  refine TrAny.next (j := 1) (by kernel_rfl) hok rfl (by kernel_rfl) (op_callg' (fs := []) (vs := [.pointer (some ⟨b2, 0, none⟩)]) (cap := []) (Mr := [cells b1 [.pointer (some ⟨b2, 0, none⟩)] 104, cells b3 [.int .u64 p2] 23]) [0] [1, 2] [0] rfl rfl rfl en87 (c_level_line_long p1 b2 A1 c1 r7 hr7) (by decide) rfl rfl rfl (bl rfl) (fun ret M' F' hR7 => ?_))
  obtain ⟨rfl, rfl, rfl⟩ := hR7
  refine nxp hok (kp_all (ac (.inl (by kernel_rfl)) (ac (.inr (OpVal.plain rfl rfl (v_load (k := 2) rfl rfl rfl ty23 (fun _ => rfl) rfl rfl))) (ac (.inr (OpVal.plain rfl rfl (v_load (k := 2) rfl rfl rfl ty23 (fun _ => rfl) rfl rfl))) an)))) rfl (by kernel_rfl) ?_
  clear hok
  intro hok
  obtain ⟨r8, hr8, H⟩ := bnd H
  refine TrAny.next (j := 3) (by kernel_rfl) hok rfl (by kernel_rfl) (op_call0' (vs := [.int .u64 (wu64 ((wu64 ((p1.1.length : Int))) + p1.2.1)), .int .u64 p2]) (cap := []) [] rfl rfl (bl rfl) rfl rfl en86 (c_level_bounded_uint64 (wu64 ((wu64 ((p1.1.length : Int))) + p1.2.1)) p2 r8 hr8) rfl (fun ret M' F' hR8 => ?_))
  obtain ⟨rfl, rfl, rfl⟩ := hR8
  refine nxp hok (kp_imp (kp_c0 rfl)) rfl (by kernel_rfl) ?_
  clear hok
  intro hok
  refine TrAny.prom (i := 5) (d := 8) hok (OpVal.plain rfl rfl (v_arith rfl rfl rfl ar_sub_u64)) (by kernel_rfl) rfl (bl rfl) ?_
  clear hok
  intro hok
  refine TrAny.prom (i := 6) (d := 2) hok (OpVal.plain rfl rfl (v_assign rfl rfl)) (by kernel_rfl) rfl (bl rfl) ?_
  clear hok
  intro hok
  refine TrAny.done (by kernel_rfl) (by kernel_rfl) hok (by kernel_rfl) (qthen_n ?_)
  have hz := Option.some.inj H
  subst hz
  refine Tr.ret (ret_r ⟨[(2, .int .u64 (wu64 (r8 - p2)))], [cells b2 [.slice A1 p1.1.length c1, .int .u64 p1.2.1, .int .u64 p1.2.2] 106, cells b1 [.pointer (some ⟨b2, 0, none⟩)] 104, cells b3 [.int .u64 p2] 23], [slF rp_u64_u64 A1 c1 p1.1], []⟩ [.int .u64 (wu64 (r8 - p2))] [cells b2 [.slice A1 p1.1.length c1, .int .u64 p1.2.1, .int .u64 p1.2.2] 106, cells b1 [.pointer (some ⟨b2, 0, none⟩)] 104, cells b3 [.int .u64 p2] 23] [] (Imp.re _ [0, 1, 2] [0] (sc rfl sn) (by decide) rfl rfl rfl) rfl rfl ⟨rfl, rfl, rfl⟩ (.cons (resv_tmp rfl) .nil))

theorem c_level_line_next (p1 : (List (Int × Int)) × Int × Int) (b1 : Nat) (A1 : Option Addr) (c1 : Nat) (r : Int × Int × (List (Int × Int)) × Int) (H : level_line_next p1 = some r) :
    Ctr Try.prog 88 [.pointer (some ⟨b1, 0, none⟩)] [cells b1 [.slice A1 p1.1.length c1, .int .u64 p1.2.1, .int .u64 p1.2.2] 106] [slF rp_u64_u64 A1 c1 p1.1] (fun ret M' F' => ∃ m : Option Addr × Nat, ret = .agg #[.int .u64 r.1, .int .u64 r.2.1] ∧ M' = [cells b1 [.slice m.1 r.2.2.1.length m.2, .int .u64 r.2.2.2, .int .u64 p1.2.2] 106] ∧ F' = [slF rp_u64_u64 m.1 m.2 r.2.2.1]) := by
  unfold level_line_next at H
  refine ctr_ofI (N := 41) Try.func88 rfl Try.ntmps88 rfl (Nat.le_of_ble_eq_true rfl) (fun γ0 w0 => ?_)
  refine Tr.seq ?_
  refine Tr.region ?_
  refine TrL.cons rfl (op_alloc' rfl (bl rfl) rfl ze41 (fun b4 => ?_))
  refine TrL.nil (qthen_n ?_)
  refine Tr.seq ?_
  refine Tr.seq ?_
  refine Tr.region ?_
  refine TrL.v (v_move rfl rfl) rfl rfl (bl rfl) ?_
  refine TrL.v (v_nilCheck rfl rfl) rfl rfl (bl rfl) ?_
  refine TrL.v (v_fieldAddr' rfl fo106_0 rfl rfl) rfl rfl (bl rfl) ?_
  refine TrL.v (v_load (k := 1) rfl rfl rfl ty38 (fun _ => rfl) rfl rfl) rfl rfl (bl rfl) ?_
  refine TrL.v (v_len rfl sl38 rfl) rfl rfl (bl rfl) ?_
  refine TrL.v (v_arith rfl rfl rfl ar_gtr) rfl rfl (bl rfl) ?_
  refine TrL.nil (qthen_n ?_)
  rcases ifc H with ⟨h3, H⟩ | ⟨h3, H⟩
  · refine Tr.cond_t rfl (bt_dec h3) ?_
    refine Tr.seq ?_
    refine Tr.region ?_
    refine TrL.v (v_move rfl rfl) rfl rfl (bl rfl) ?_
    refine TrL.v (v_nilCheck rfl rfl) rfl rfl (bl rfl) ?_
    refine TrL.v (v_fieldAddr' rfl fo106_0 rfl rfl) rfl rfl (bl rfl) ?_
    refine TrL.v (v_load (k := 1) rfl rfl rfl ty38 (fun _ => rfl) rfl rfl) rfl rfl (bl rfl) ?_
    obtain ⟨z2, hz2, H⟩ := bnd H
    refine TrL.v (v_indexAddr (k := 0) rfl sl38 ty41 rfl rfl rfl rfl hz2) rfl rfl (bl rfl) ?_
    refine TrL.v (v_loadg (A := A1) (i := 0) (j := 0) (k := 0) rfl ty41 nofun rfl rfl hz2 rfl rfl) rfl rfl (bl rfl) ?_
    refine TrL.cons rfl (op_alloc' rfl (bl rfl) rfl ze41 (fun b5 => ?_))
    refine TrL.cons rfl (op_store' (k := 0) (c' := [.int .u64 z2.1, .int .u64 z2.2]) rfl rfl rfl rfl rfl ty41 rfl (Nat.le_of_ble_eq_true rfl) (ones (oc rfl (oc rfl on))) rfl ?_)
    refine TrL.nil (qthen_n ?_)
    refine Tr.seq ?_
    refine Tr.region ?_
    refine TrL.v (v_move rfl rfl) rfl rfl (bl rfl) ?_
    refine TrL.v (v_move rfl rfl) rfl rfl (bl rfl) ?_
    refine TrL.v (v_nilCheck rfl rfl) rfl rfl (bl rfl) ?_
    refine TrL.v (v_fieldAddr' rfl fo106_0 rfl rfl) rfl rfl (bl rfl) ?_
    refine TrL.v (v_load (k := 2) rfl rfl rfl ty38 (fun _ => rfl) rfl rfl) rfl rfl (bl rfl) ?_
    obtain ⟨h4, H⟩ := mst H
    refine TrL.addF' (slF rp_u64_u64 (slA A1 (1 : Int).toNat c1 2) (c1 - (1 : Int).toNat) (p1.1.drop (1 : Int).toNat)) (slx1_f (k := 0) rfl h4) ?_
    refine TrL.v (slx1_v (rp := rp_u64_u64) (xs := p1.1) (k := 0) rfl sl38 ty41 rfl rfl rfl h4 rfl) rfl rfl (bl rfl) ?_
    refine TrL.v (v_nilCheck rfl rfl) rfl rfl (bl rfl) ?_
    refine TrL.v (v_fieldAddr' rfl fo106_0 rfl rfl) rfl rfl (bl rfl) ?_
    refine TrL.cons rfl (op_store' (k := 2) (c' := [.slice (slA A1 (1 : Int).toNat c1 2) ((p1.1.drop (1 : Int).toNat).length) (c1 - (1 : Int).toNat), .int .u64 p1.2.1, .int .u64 p1.2.2]) rfl rfl rfl rfl rfl ty38 rfl (Nat.le_of_ble_eq_true rfl) (ones (oc rfl on)) rfl ?_)
    refine TrL.nil (qthen_n ?_)
    refine Tr.seq ?_
    refine Tr.region ?_
    refine TrL.v (v_load (k := 0) rfl rfl rfl ty41 nofun rfl rfl) rfl rfl (bl rfl) ?_
    refine TrL.cons rfl (op_store' (k := 1) (c' := [.int .u64 z2.1, .int .u64 z2.2]) rfl rfl rfl rfl rfl ty41 rfl (Nat.le_of_ble_eq_true rfl) (ones (oc rfl (oc rfl on))) rfl ?_)
    refine TrL.nil (qthen_n ?_)
    have hz := Option.some.inj H
    subst hz
    refine Tr.ret (qthen_r (ret_r ⟨[(2, .pointer (some ⟨b4, 0, none⟩))], [cells b1 [.slice (slA A1 (1 : Int).toNat c1 2) ((p1.1.drop (1 : Int).toNat).length) (c1 - (1 : Int).toNat), .int .u64 p1.2.1, .int .u64 p1.2.2] 106, cells b4 [.int .u64 z2.1, .int .u64 z2.2] 41], [slF rp_u64_u64 (slA A1 (1 : Int).toNat c1 2) (c1 - (1 : Int).toNat) (p1.1.drop (1 : Int).toNat)], []⟩ [.agg #[.int .u64 z2.1, .int .u64 z2.2]] [cells b1 [.slice (slA A1 (1 : Int).toNat c1 2) ((p1.1.drop (1 : Int).toNat).length) (c1 - (1 : Int).toNat), .int .u64 p1.2.1, .int .u64 p1.2.2] 106] [cells b4 [.int .u64 z2.1, .int .u64 z2.2] 41] (Imp.re _ [2, 1] [1] (sc rfl sn) (by decide) rfl rfl rfl) rfl rfl ⟨((slA A1 (1 : Int).toNat c1 2, c1 - (1 : Int).toNat)), rfl, rfl, rfl⟩ (.cons (resv_cell (k := 1) rfl rfl ty41 nofun rfl rfl) .nil)))
  · refine Tr.cond_f rfl (bf_dec h3) ?_
    refine Tr.skip (qthen_n ?_)
    refine Tr.seq ?_
    refine Tr.region ?_
    refine TrL.v (v_move rfl rfl) rfl rfl (bl rfl) ?_
    refine TrL.v (v_nilCheck rfl rfl) rfl rfl (bl rfl) ?_
    refine TrL.v (v_fieldAddr' rfl fo106_1 rfl rfl) rfl rfl (bl rfl) ?_
    refine TrL.v (v_load (k := 1) rfl rfl rfl ty23 (fun _ => rfl) rfl rfl) rfl rfl (bl rfl) ?_
    refine TrL.v (v_arith rfl rfl rfl ar_sub_u64) rfl rfl (bl rfl) ?_
    refine TrL.v (v_nilCheck rfl rfl) rfl rfl (bl rfl) ?_
    refine TrL.v (v_fieldAddr' rfl fo106_1 rfl rfl) rfl rfl (bl rfl) ?_
    refine TrL.cons rfl (op_store' (k := 1) (c' := [.slice A1 p1.1.length c1, .int .u64 (wu64 (p1.2.1 - 1)), .int .u64 p1.2.2]) rfl rfl rfl rfl rfl ty23 rfl (Nat.le_of_ble_eq_true rfl) (ones (oc rfl on)) rfl ?_)
    refine TrL.nil (qthen_n ?_)
    refine Tr.seq ?_
    refine Tr.regionD drawn (fun hok => ?_)
    refine TrAny.prom (i := 0) (d := 32) hok (OpVal.plain rfl rfl (v_move rfl rfl)) (by kernel_rfl) rfl (bl rfl) ?_
    clear hok
    intro hok
    refine TrAny.prom (i := 1) (d := 33) hok (OpVal.plain rfl rfl (v_nilCheck rfl rfl)) (by kernel_rfl) rfl (bl rfl) ?_
    clear hok
    intro hok
    refine TrAny.prom (i := 2) (d := 34) hok (OpVal.plain rfl rfl (v_fieldAddr' rfl fo106_2 rfl rfl)) (by kernel_rfl) rfl (bl rfl) ?_
    clear hok
    intro hok
    refine TrAny.prom (i := 3) (d := 35) hok (OpVal.plain rfl rfl (v_load (k := 1) rfl rfl rfl ty23 (fun _ => rfl) rfl rfl)) (by kernel_rfl) rfl (bl rfl) ?_
    clear hok
    intro hok
    refine TrAny.prom (i := 4) (d := 36) hok (OpVal.plain rfl rfl (v_move rfl rfl)) (by kernel_rfl) rfl (bl rfl) ?_
    clear hok
    intro hok
    refine TrAny.prom (i := 5) (d := 37) hok (OpVal.plain rfl rfl (v_nilCheck rfl rfl)) (by kernel_rfl) rfl (bl rfl) ?_
    clear hok
    intro hok
    refine TrAny.prom (i := 6) (d := 38) hok (OpVal.plain rfl rfl (v_fieldAddr' rfl fo106_2 rfl rfl)) (by kernel_rfl) rfl (bl rfl) ?_
    clear hok
    intro hok
    refine TrAny.prom (i := 7) (d := 39) hok (OpVal.plain rfl rfl (v_load (k := 1) rfl rfl rfl ty23 (fun _ => rfl) rfl rfl)) (by kernel_rfl) rfl (bl rfl) ?_
    clear hok
    intro hok
    refine TrAny.prom (i := 8) (d := 40) hok (OpVal.plain rfl rfl (v_build (vs := [.int .u64 p1.2.2, .int .u64 p1.2.2]) (out := [.int .u64 p1.2.2, .int .u64 p1.2.2]) rfl pl41 ze41 rfl rfl)) (by kernel_rfl) rfl (bl rfl) ?_
    clear hok
    intro hok
    refine TrAny.next (j := 9) (by kernel_rfl) hok rfl (by kernel_rfl) (op_store' (k := 0) (c' := [.int .u64 p1.2.2, .int .u64 p1.2.2]) rfl rfl rfl rfl rfl ty41 rfl (Nat.le_of_ble_eq_true rfl) (ones (oc rfl (oc rfl on))) rfl ?_)
    refine nxs hok (kp_aw (by kernel_rfl)) rfl ?_
    clear hok
    intro hok
    refine TrAny.done (by kernel_rfl) (by kernel_rfl) hok (by kernel_rfl) (qthen_n ?_)
    have hz := Option.some.inj H
    subst hz
    refine Tr.ret (ret_r ⟨[(2, .pointer (some ⟨b4, 0, none⟩))], [cells b1 [.slice A1 p1.1.length c1, .int .u64 (wu64 (p1.2.1 - 1)), .int .u64 p1.2.2] 106, cells b4 [.int .u64 p1.2.2, .int .u64 p1.2.2] 41], [slF rp_u64_u64 A1 c1 p1.1], []⟩ [.agg #[.int .u64 p1.2.2, .int .u64 p1.2.2]] [cells b1 [.slice A1 p1.1.length c1, .int .u64 (wu64 (p1.2.1 - 1)), .int .u64 p1.2.2] 106] [cells b4 [.int .u64 p1.2.2, .int .u64 p1.2.2] 41] (Imp.re _ [1, 0] [0] (sc rfl sn) (by decide) rfl rfl rfl) rfl rfl ⟨((A1, c1)), rfl, rfl, rfl⟩ (.cons (resv_cell (k := 1) rfl rfl ty41 nofun rfl rfl) .nil))

theorem c_level_both (p1 : Int × Int) (p2 : Int × Int) (r : Unit) (H : level_both p1 p2 = some r) :
    Ctr Try.prog 89 [.agg #[.int .u64 p1.1, .int .u64 p1.2], .agg #[.int .u64 p2.1, .int .u64 p2.2]] [] [] (fun ret M' F' => ret = .agg #[.int .u64 p1.1, .int .u64 p2.2] ∧ M' = [] ∧ F' = []) := by
  unfold level_both at H
  refine ctr_ofI (N := 10) Try.func89 rfl Try.ntmps89 rfl (Nat.le_of_ble_eq_true rfl) (fun γ0 w0 => ?_)
  refine Tr.seq ?_
  refine Tr.region ?_
  refine TrL.cons rfl (op_box' rfl (bl rfl) rfl rfl rfl (fun b4 => ?_))
  refine TrL.cons rfl (op_box' rfl (bl rfl) rfl rfl rfl (fun b5 => ?_))
  refine TrL.cons rfl (op_alloc' rfl (bl rfl) rfl ze41 (fun b6 => ?_))
  refine TrL.nil (qthen_n ?_)
  refine Tr.seq ?_
  refine Tr.region ?_
  refine TrL.v (v_fieldAddr' rfl fo41_0 rfl rfl) rfl rfl (bl rfl) ?_
  refine TrL.v (v_load (k := 2) rfl rfl rfl ty23 (fun _ => rfl) rfl rfl) rfl rfl (bl rfl) ?_
  refine TrL.v (v_fieldAddr' rfl fo41_1 rfl rfl) rfl rfl (bl rfl) ?_
  refine TrL.v (v_load (k := 1) rfl rfl rfl ty23 (fun _ => rfl) rfl rfl) rfl rfl (bl rfl) ?_
  refine TrL.v (v_build (vs := [.int .u64 p1.1, .int .u64 p2.2]) (out := [.int .u64 p1.1, .int .u64 p2.2]) rfl pl41 ze41 rfl rfl) rfl rfl (bl rfl) ?_
  refine TrL.cons rfl (op_store' (k := 0) (c' := [.int .u64 p1.1, .int .u64 p2.2]) rfl rfl rfl rfl rfl ty41 rfl (Nat.le_of_ble_eq_true rfl) (ones (oc rfl (oc rfl on))) rfl ?_)
  refine TrL.nil (qthen_n ?_)
  have hz := Option.some.inj H
  subst hz
  refine Tr.ret (ret_r ⟨[(4, .pointer (some ⟨b6, 0, none⟩))], [cells b6 [.int .u64 p1.1, .int .u64 p2.2] 41], [], []⟩ [.agg #[.int .u64 p1.1, .int .u64 p2.2]] [] [cells b6 [.int .u64 p1.1, .int .u64 p2.2] 41] (Imp.re _ [0] [] (sc rfl sn) (by decide) rfl rfl rfl) rfl rfl ⟨rfl, rfl, rfl⟩ (.cons (resv_cell (k := 0) rfl rfl ty41 nofun rfl rfl) .nil))

theorem c_level_Push (p1 : List (Int × Int)) (p2 : Int) (p3 : List (Int × Int)) (p4 : Int) (p5 : Int) (A1 : Option Addr) (c1 : Nat) (A2 : Option Addr) (c2 : Nat) (r : (List (Int × Int)) × (List (Int × Int)) × Int) (H : level_Push p1 p2 p3 p4 p5 = some r) :
    Ctr Try.prog 48 [.slice A1 p1.length c1, .int .i64 p2, .slice A2 p3.length c2, .int .u64 p4, .int .u64 p5] [] [slF rp_u64_u64 A1 c1 p1, slF rp_u64_u64 A2 c2 p3] (fun ret M' F' => ∃ m : Option Addr × Nat × Option Addr × Nat × Option Nat × Option Nat, ret = .tuple #[.slice m.1 r.1.length m.2.1, .slice m.2.2.1 r.2.1.length m.2.2.2.1, .int .u64 r.2.2] ∧ M' = [grow 41 2 (.slice m.1 r.1.length m.2.1) r.1.length m.2.2.2.2.1, grow 41 2 (.slice m.2.2.1 r.2.1.length m.2.2.2.1) r.2.1.length m.2.2.2.2.2] ∧ F' = [slF rp_u64_u64 m.1 m.2.1 r.1, slF rp_u64_u64 m.2.2.1 m.2.2.2.1 r.2.1]) := by
  unfold level_Push at H
  refine ctr_ofI (N := 90) Try.func48 rfl Try.ntmps48 rfl (Nat.le_of_ble_eq_true rfl) (fun γ0 w0 => ?_)
  refine Tr.seq ?_
  refine Tr.region ?_
  refine TrL.v (v_assign rfl rfl) rfl rfl (bl rfl) ?_
  refine TrL.v (v_assign rfl rfl) rfl rfl (bl rfl) ?_
  refine TrL.v (v_assign rfl rfl) rfl rfl (bl rfl) ?_
  refine TrL.nil (qthen_n ?_)
  refine Tr.seq ?_
  refine Tr.region ?_
  refine TrL.v (v_move rfl rfl) rfl rfl (bl rfl) ?_
  refine TrL.v (v_move rfl rfl) rfl rfl (bl rfl) ?_
  refine TrL.v (v_build (vs := [.int .u64 p4, .int .u64 p5]) (out := [.slice none 0 0, .int .u64 p4, .int .u64 p5]) rfl pl106 ze106 rfl rfl) rfl rfl (bl rfl) ?_
  refine TrL.cons rfl (op_box' rfl (bl rfl) rfl rfl rfl (fun b7 => ?_))
  refine TrL.cons rfl (op_alloc' rfl (bl rfl) rfl ze104 (fun b8 => ?_))
  refine TrL.cons rfl (op_store' (k := 0) (c' := [.pointer (some ⟨b7, 0, none⟩)]) rfl rfl rfl rfl rfl ty104 rfl (Nat.le_of_ble_eq_true rfl) (ones (oc rfl on)) rfl ?_)
  refine TrL.nil (qthen_n ?_)
  refine Tr.seq ?_
  refine Tr.seq ?_
  refine Tr.region ?_
  refine TrL.v (v_move rfl rfl) rfl rfl (bl rfl) ?_
  refine TrL.v (v_move rfl rfl) rfl rfl (bl rfl) ?_
  refine TrL.v (v_buildArr (vs := [.slice A1 p1.length c1, .slice A2 p3.length c2]) (out := [.slice A1 p1.length c1, .slice A2 p3.length c2]) rfl ar107 ty38 ze107 rfl rfl) rfl rfl (bl rfl) ?_
  refine TrL.v (v_move rfl rfl) rfl rfl (bl rfl) ?_
  refine TrL.nil (qthen_n ?_)
  refine Tr.block ?_
  refine Tr.loop ?_
  refine Tr.seq ?_
  refine Tr.region ?_
  refine TrL.v (v_arith (v := .bool true) rfl rfl rfl rfl) rfl rfl (bl rfl) ?_
  refine TrL.nil (qthen_n ?_)
  refine Tr.seq ?_
  refine Tr.cond_t rfl rfl ?_
  refine Tr.skip (qthen_n ?_)
  refine Tr.seq ?_
  refine Tr.block ?_
  refine Tr.seq ?_
  refine Tr.region ?_
  refine TrL.v (v_index rfl ar107 ty38 (fun _ => rfl) rfl rfl (by decide) (by decide) rfl rfl) rfl rfl (bl rfl) ?_
  refine TrL.v (v_assign rfl rfl) rfl rfl (bl rfl) ?_
  refine TrL.nil (qthen_n ?_)
  refine Tr.regionD drawn (fun hok => ?_)
  refine TrAny.prom (i := 0) (d := 32) hok (OpVal.plain rfl rfl (v_load (k := 0) rfl rfl rfl ty104 (fun _ => rfl) rfl rfl)) (by kernel_rfl) rfl (bl rfl) ?_
  clear hok
  intro hok
  refine TrAny.prom (i := 1) (d := 33) hok (OpVal.plain rfl rfl (v_load (k := 0) rfl rfl rfl ty104 (fun _ => rfl) rfl rfl)) (by kernel_rfl) rfl (bl rfl) ?_
  clear hok
  intro hok
  refine TrAny.prom (i := 2) (d := 34) hok (OpVal.plain rfl rfl (v_nilCheck rfl rfl)) (by kernel_rfl) rfl (bl rfl) ?_
  clear hok
  intro hok
  refine TrAny.prom (i := 3) (d := 35) hok (OpVal.plain rfl rfl (v_fieldAddr' rfl fo106_0 rfl rfl)) (by kernel_rfl) rfl (bl rfl) ?_
  clear hok
  intro hok
  refine TrAny.prom (i := 4) (d := 36) hok (OpVal.plain rfl rfl (v_load (k := 1) rfl rfl rfl ty38 (fun _ => rfl) rfl rfl)) (by kernel_rfl) rfl (bl rfl) ?_
  clear hok
  intro hok
  refine TrAny.prom (i := 5) (d := 37) hok (OpVal.plain rfl rfl (v_move rfl rfl)) (by kernel_rfl) rfl (bl rfl) ?_
  clear hok
  intro hok
  refine TrAny.prom (i := 7) (d := 39) hok (OpVal.plain rfl rfl (v_nilCheck rfl rfl)) (by kernel_rfl) rfl (bl rfl) ?_
  clear hok
  intro hok
  refine TrAny.prom (i := 8) (d := 40) hok (OpVal.plain rfl rfl (v_fieldAddr' rfl fo106_0 rfl rfl)) (by kernel_rfl) rfl (bl rfl) ?_
  clear hok
  intro hok
  refine TrAny.addF' (slF rp_u64_u64 none 0 []) (nilF rp_u64_u64) hok (fun hok => ?_)
  refine TrAny.full' (E := 41) (sz := 2) (A := none) (n := 0) hok (fun hok => ?_)
  obtain ⟨h27, H⟩ := rom H
  refine TrAny.next (j := 6) (by kernel_rfl) hok rfl (by kernel_rfl) (op_append' (rp := rp_u64_u64) (xs := ([] : List (Int × Int))) (ys := p1) (k := 0) (kx := 2) (ky := 0) rfl (bl rfl) rfl sl38 ty41 ze41 rfl by41 rfl rfl rfl rfl rfl rfl rfl h27.1 h27.2 (fun A26 c17 o15 => ?_))
  refine nxp hok (kp_all (ac (.inr (OpVal.plain rfl rfl (v_load (k := 1) rfl rfl rfl ty104 (fun _ => rfl) rfl rfl))) (ac (.inr (OpVal.plain rfl rfl (v_load (k := 1) rfl rfl rfl ty104 (fun _ => rfl) rfl rfl))) (ac (.inr (OpVal.plain rfl rfl (v_nilCheck rfl rfl))) (ac (.inr (OpVal.plain rfl rfl (v_fieldAddr' rfl fo106_0 rfl rfl))) (ac (.inl (by kernel_rfl)) (ac (.inl (by kernel_rfl)) (ac (.inr (OpVal.plain rfl rfl (v_nilCheck rfl rfl))) (ac (.inr (OpVal.plain rfl rfl (v_fieldAddr' rfl fo106_0 rfl rfl))) an))))))))) rfl (by kernel_rfl) ?_
  clear hok
  intro hok
  refine TrAny.next (j := 9) (by kernel_rfl) hok rfl (by kernel_rfl) (op_store' (k := 2) (c' := [.slice A26 p1.length c17, .int .u64 p4, .int .u64 p5]) rfl rfl rfl rfl rfl ty38 rfl (Nat.le_of_ble_eq_true rfl) (ones (oc rfl on)) rfl ?_)
  refine nxs hok (kp_all (ac (.inl (by kernel_rfl)) (ac (.inl (by kernel_rfl)) (ac (.inl (by kernel_rfl)) (ac (.inl (by kernel_rfl)) (ac (.inl (by kernel_rfl)) (ac (.inl (by kernel_rfl)) (ac (.inr (OpVal.plain rfl rfl (v_nilCheck rfl rfl))) (ac (.inl (by kernel_rfl)) an))))))))) rfl ?_
  clear hok
  intro hok
  refine TrAny.done (by kernel_rfl) (by kernel_rfl) hok (by kernel_rfl) (qblock_n (qthen_n ?_))
  refine Tr.region ?_
  refine TrL.v (v_arith (v := .int .i64 1) rfl rfl rfl rfl) rfl rfl (bl rfl) ?_
  refine TrL.v (v_move rfl rfl) rfl rfl (bl rfl) ?_
  refine TrL.nil (qthen_n ?_)
  refine Tr.loop ?_
  refine Tr.seq ?_
  refine Tr.region ?_
  refine TrL.v (v_arith (v := .bool true) rfl rfl rfl rfl) rfl rfl (bl rfl) ?_
  refine TrL.nil (qthen_n ?_)
  refine Tr.seq ?_
  refine Tr.cond_t rfl rfl ?_
  refine Tr.skip (qthen_n ?_)
  refine Tr.seq ?_
  refine Tr.block ?_
  refine Tr.seq ?_
  refine Tr.region ?_
  refine TrL.v (v_index rfl ar107 ty38 (fun _ => rfl) rfl rfl (by decide) (by decide) rfl rfl) rfl rfl (bl rfl) ?_
  refine TrL.v (v_assign rfl rfl) rfl rfl (bl rfl) ?_
  refine TrL.nil (qthen_n ?_)
  refine Tr.re ⟨[(0, .slice A1 p1.length c1), (1, .int .i64 p2), (2, .slice A2 p3.length c2), (3, .int .u64 p4), (4, .int .u64 p5), (10, .slice none 0 0), (11, .slice none 0 0), (12, .int .u64 0), (13, .pointer (some ⟨b8, 0, none⟩)), (15, .slice A2 p3.length c2), (22, .int .u64 p4), (23, .int .u64 p5), (24, .agg #[.slice none 0 0, .int .u64 p4, .int .u64 p5]), (25, .pointer (some ⟨b7, 0, none⟩)), (26, .slice A1 p1.length c1), (27, .slice A2 p3.length c2), (28, .agg #[.slice A1 p1.length c1, .slice A2 p3.length c2]), (29, .int .i64 1), (30, .bool true), (31, .slice A2 p3.length c2), (41, .int .i64 1)], [grow 41 2 (.slice A26 p1.length c17) p1.length o15, cells b8 [.pointer (some ⟨b7, 0, none⟩)] 104, cells b7 [.slice A26 p1.length c17, .int .u64 p4, .int .u64 p5] 106], [slF rp_u64_u64 A1 c1 p1, slF rp_u64_u64 A2 c2 p3, slF rp_u64_u64 none 0 (([] : List (Int × Int))), slF rp_u64_u64 A26 c17 p1], []⟩ [0, 1, 2] [0, 1, 2, 3] (sc rfl (sc rfl (sc rfl (sc rfl (sc rfl (sc rfl (sc rfl (sc rfl (sc rfl (sc rfl (sc rfl (sc rfl (sc rfl (sc rfl (sc rfl (sc rfl (sc rfl (sc rfl (sc rfl (sc rfl (sc rfl sn))))))))))))))))))))) (by decide) rfl rfl rfl ?_
  refine Tr.regionD drawn (fun hok => ?_)
  refine TrAny.prom (i := 0) (d := 32) hok (OpVal.plain rfl rfl (v_load (k := 1) rfl rfl rfl ty104 (fun _ => rfl) rfl rfl)) (by kernel_rfl) rfl (bl rfl) ?_
  clear hok
  intro hok
  refine TrAny.prom (i := 1) (d := 33) hok (OpVal.plain rfl rfl (v_load (k := 1) rfl rfl rfl ty104 (fun _ => rfl) rfl rfl)) (by kernel_rfl) rfl (bl rfl) ?_
  clear hok
  intro hok
  refine TrAny.prom (i := 2) (d := 34) hok (OpVal.plain rfl rfl (v_nilCheck rfl rfl)) (by kernel_rfl) rfl (bl rfl) ?_
  clear hok
  intro hok
  refine TrAny.prom (i := 3) (d := 35) hok (OpVal.plain rfl rfl (v_fieldAddr' rfl fo106_0 rfl rfl)) (by kernel_rfl) rfl (bl rfl) ?_
  clear hok
  intro hok
  refine TrAny.prom (i := 4) (d := 36) hok (OpVal.plain rfl rfl (v_load (k := 2) rfl rfl rfl ty38 (fun _ => rfl) rfl rfl)) (by kernel_rfl) rfl (bl rfl) ?_
  clear hok
  intro hok
  refine TrAny.prom (i := 5) (d := 37) hok (OpVal.plain rfl rfl (v_move rfl rfl)) (by kernel_rfl) rfl (bl rfl) ?_
  clear hok
  intro hok
  refine TrAny.prom (i := 7) (d := 39) hok (OpVal.plain rfl rfl (v_nilCheck rfl rfl)) (by kernel_rfl) rfl (bl rfl) ?_
  clear hok
  intro hok
  refine TrAny.prom (i := 8) (d := 40) hok (OpVal.plain rfl rfl (v_fieldAddr' rfl fo106_0 rfl rfl)) (by kernel_rfl) rfl (bl rfl) ?_
  clear hok
  intro hok
  obtain ⟨h29, H⟩ := rom H
  refine TrAny.next (j := 6) (by kernel_rfl) hok rfl (by kernel_rfl) (op_append' (rp := rp_u64_u64) (xs := p1) (ys := p3) (k := 0) (kx := 3) (ky := 1) rfl (bl rfl) rfl sl38 ty41 ze41 rfl by41 rfl rfl rfl rfl rfl rfl rfl h29.1 h29.2 (fun A28 c19 o17 => ?_))
  refine nxp hok (kp_all (ac (.inr (OpVal.plain rfl rfl (v_load (k := 1) rfl rfl rfl ty104 (fun _ => rfl) rfl rfl))) (ac (.inr (OpVal.plain rfl rfl (v_load (k := 1) rfl rfl rfl ty104 (fun _ => rfl) rfl rfl))) (ac (.inr (OpVal.plain rfl rfl (v_nilCheck rfl rfl))) (ac (.inr (OpVal.plain rfl rfl (v_fieldAddr' rfl fo106_0 rfl rfl))) (ac (.inl (by kernel_rfl)) (ac (.inl (by kernel_rfl)) (ac (.inr (OpVal.plain rfl rfl (v_nilCheck rfl rfl))) (ac (.inr (OpVal.plain rfl rfl (v_fieldAddr' rfl fo106_0 rfl rfl))) an))))))))) rfl (by kernel_rfl) ?_
  clear hok
  intro hok
  refine TrAny.next (j := 9) (by kernel_rfl) hok rfl (by kernel_rfl) (op_store' (k := 2) (c' := [.slice A28 ((p1 ++ p3).length) c19, .int .u64 p4, .int .u64 p5]) rfl rfl rfl rfl rfl ty38 rfl (Nat.le_of_ble_eq_true rfl) (ones (oc rfl on)) rfl ?_)
  refine nxs hok (kp_all (ac (.inl (by kernel_rfl)) (ac (.inl (by kernel_rfl)) (ac (.inl (by kernel_rfl)) (ac (.inl (by kernel_rfl)) (ac (.inl (by kernel_rfl)) (ac (.inl (by kernel_rfl)) (ac (.inr (OpVal.plain rfl rfl (v_nilCheck rfl rfl))) (ac (.inl (by kernel_rfl)) an))))))))) rfl ?_
  clear hok
  intro hok
  refine TrAny.done (by kernel_rfl) (by kernel_rfl) hok (by kernel_rfl) (qblock_n (qthen_n ?_))
  refine Tr.region ?_
  refine TrL.v (v_arith (v := .int .i64 2) rfl rfl rfl rfl) rfl rfl (bl rfl) ?_
  refine TrL.v (v_move rfl rfl) rfl rfl (bl rfl) ?_
  refine TrL.nil (qthen_n ?_)
  refine Tr.loop ?_
  refine Tr.seq ?_
  refine Tr.region ?_
  refine TrL.v (v_arith (v := .bool false) rfl rfl rfl rfl) rfl rfl (bl rfl) ?_
  refine TrL.nil (qthen_n ?_)
  refine Tr.seq ?_
  refine Tr.cond_f rfl rfl ?_
  refine Tr.exit (qthen_x (qthen_x (qblock_hit (qthen_n ?_))))
  refine Tr.seq ?_
  refine Tr.region ?_
  refine TrL.v (v_move rfl rfl) rfl rfl (bl rfl) ?_
  obtain ⟨r30, hr30, H⟩ := bnd H
  refine TrL.cons rfl (op_call0' (vs := [.int .i64 p2, .int .i64 1]) (cap := []) [] rfl rfl (bl rfl) rfl rfl en84 (c_level_bounded_int p2 ((1 : Int)) r30 hr30) rfl (fun ret M' F' hR30 => ?_))
  obtain ⟨rfl, rfl, rfl⟩ := hR30
  refine TrL.v (v_conv' rfl ⟨_, Try.underlying3⟩ Try.underlying23 rfl wrap_u64') rfl rfl (bl rfl) ?_
  refine TrL.cons rfl (op_alloc' rfl (bl rfl) rfl ze23 (fun b9 => ?_))
  refine TrL.cons rfl (op_store' (k := 0) (c' := [.int .u64 (wu64 r30)]) rfl rfl rfl rfl rfl ty23 rfl (Nat.le_of_ble_eq_true rfl) (ones (oc rfl on)) rfl ?_)
  refine TrL.nil (qthen_n ?_)
  refine Tr.seq ?_
  refine Tr.region ?_
  refine TrL.v (v_makeFunc (vs := [.pointer (some ⟨b8, 0, none⟩), .pointer (some ⟨b9, 0, none⟩)]) rfl rfl) rfl rfl (bl rfl) ?_
  refine TrL.v (v_assign rfl rfl) rfl rfl (bl rfl) ?_
  refine TrL.nil (qthen_n ?_)
  refine Tr.seq ?_
  refine Tr.region ?_
  refine TrL.v (v_assign rfl rfl) rfl rfl (bl rfl) ?_
  refine TrL.nil (qthen_n ?_)
  refine Tr.seq ?_
  obtain ⟨x3, hx5, H⟩ := bnd H
  refine Tr.cutE (D := (List (Int × Int)) × Int × (List (Int × Int)) × Int × Int) (M := Option Addr × Nat × Option Addr × Nat × Option Nat) .normal (fun _d => x3 = _d) (fun x3 m56 => ⟨[(13, .pointer (some ⟨b8, 0, none⟩)), (17, .func (.func 85) #[] #[.pointer (some ⟨b8, 0, none⟩), .pointer (some ⟨b9, 0, none⟩)]), (18, .slice m56.1 x3.1.length m56.2.1)], [cells b8 [.pointer (some ⟨b7, 0, none⟩)] 104, cells b9 [.int .u64 x3.2.1] 23, cells b7 [.slice m56.2.2.1 x3.2.2.1.length m56.2.2.2.1, .int .u64 x3.2.2.2.1, .int .u64 x3.2.2.2.2] 106, grow 41 2 (.slice m56.1 x3.1.length m56.2.1) x3.1.length m56.2.2.2.2], [slF rp_u64_u64 m56.1 m56.2.1 x3.1, slF rp_u64_u64 m56.2.2.1 m56.2.2.2.1 x3.2.2.1], []⟩) ?_ (fun x3 m56 hd3 => ?_)
  · refine Tr.block (Tr.loopI (ι := Option Addr × Nat × Option Addr × Nat × Option Nat) (step := level_Push_s0) (fun s8 m47 => ⟨[(13, .pointer (some ⟨b8, 0, none⟩)), (17, .func (.func 85) #[] #[.pointer (some ⟨b8, 0, none⟩), .pointer (some ⟨b9, 0, none⟩)]), (18, .slice m47.1 s8.1.length m47.2.1)], [cells b8 [.pointer (some ⟨b7, 0, none⟩)] 104, cells b9 [.int .u64 s8.2.1] 23, cells b7 [.slice m47.2.2.1 s8.2.2.1.length m47.2.2.2.1, .int .u64 s8.2.2.2.1, .int .u64 s8.2.2.2.2] 106, grow 41 2 (.slice m47.1 s8.1.length m47.2.1) s8.1.length m47.2.2.2.2], [slF rp_u64_u64 m47.1 m47.2.1 s8.1, slF rp_u64_u64 m47.2.2.1 m47.2.2.2.1 s8.2.2.1], []⟩) ((none, 0, A28, c19, none)) hx5 (Imp.full' (E := 41) (sz := 2) (A := none) (n := 0) (Imp.re _ [3, 1, 4, 0] [2, 4] (sc rfl (sc rfl (sc rfl sn))) (by decide) rfl rfl rfl)) (fun s8 m47 y3 hy3 hx6 => ?_))
    unfold level_Push_s0 at hy3
    refine Tr.seq ?_
    refine Tr.seq ?_
    refine Tr.region ?_
    refine TrL.v (v_move rfl rfl) rfl rfl (bl rfl) ?_
    obtain ⟨r46, hr46, hy3⟩ := bnd hy3
    refine TrL.cons rfl (op_callg' (fs := []) (vs := []) (cap := [.pointer (some ⟨b8, 0, none⟩), .pointer (some ⟨b9, 0, none⟩)]) (Mr := [grow 41 2 (.slice m47.1 s8.1.length m47.2.1) s8.1.length m47.2.2.2.2]) [2, 0, 1] [3] [1] rfl rfl rfl en85 (c_level_Push_1 s8.2.2 s8.2.1 b8 b7 m47.2.2.1 m47.2.2.2.1 b9 r46 hr46) (by decide) rfl rfl rfl (bl rfl) (fun ret M' F' hR46 => ?_))
    obtain ⟨rfl, rfl, rfl⟩ := hR46
    refine TrL.v (v_arith rfl rfl rfl ar_gtr) rfl rfl (bl rfl) ?_
    refine TrL.v (v_move rfl rfl) rfl rfl (bl rfl) ?_
    rcases ifc hy3 with ⟨h41, hy3⟩ | ⟨h41, hy3⟩
    · refine TrL.cons_yes rfl rfl rfl (bt_dec h41) (OpTr.v (v_load (k := 1) rfl rfl rfl ty104 (fun _ => rfl) rfl rfl) rfl (bl rfl) ?_)
      refine TrL.cons_yes rfl rfl rfl (bt_dec h41) (OpTr.v (v_nilCheck rfl rfl) rfl (bl rfl) ?_)
      refine TrL.cons_yes rfl rfl rfl (bt_dec h41) (OpTr.v (v_fieldAddr' rfl fo106_0 rfl rfl) rfl (bl rfl) ?_)
      refine TrL.cons_yes rfl rfl rfl (bt_dec h41) (OpTr.v (v_load (k := 0) rfl rfl rfl ty38 (fun _ => rfl) rfl rfl) rfl (bl rfl) ?_)
      refine TrL.cons_yes rfl rfl rfl (bt_dec h41) (OpTr.v (v_len rfl sl38 rfl) rfl (bl rfl) ?_)
      refine TrL.cons_yes rfl rfl rfl (bt_dec h41) (OpTr.v (v_arith rfl rfl rfl ar_gtr) rfl (bl rfl) ?_)
      refine TrL.v (v_pick_t rfl rfl (bt_dec h41) rfl) rfl rfl (bl rfl) ?_
      refine TrL.nil (qthen_n ?_)
      rcases ifc hy3 with ⟨h42, hy3⟩ | ⟨h42, hy3⟩
      · refine Tr.cond_t rfl (bt_dec h42) ?_
        refine Tr.skip (qthen_n ?_)
        refine Tr.block ?_
        refine Tr.seq ?_
        refine Tr.region ?_
        refine TrL.v (v_load (k := 1) rfl rfl rfl ty104 (fun _ => rfl) rfl rfl) rfl rfl (bl rfl) ?_
        obtain ⟨r47, hr47, hy3⟩ := bnd hy3
        refine TrL.cons rfl (op_callg' (fs := []) (vs := [.pointer (some ⟨b7, 0, none⟩)]) (cap := []) (Mr := [cells b8 [.pointer (some ⟨b7, 0, none⟩)] 104, cells b9 [.int .u64 s8.2.1] 23, grow 41 2 (.slice m47.1 s8.1.length m47.2.1) s8.1.length m47.2.2.2.2]) [0] [1, 2, 3] [1] rfl rfl rfl en88 (c_level_line_next s8.2.2 b7 m47.2.2.1 m47.2.2.2.1 r47 hr47) (by decide) rfl rfl rfl (bl rfl) (fun ret M' F' hR47 => ?_))
        obtain ⟨m59, rfl, rfl, rfl⟩ := hR47
        refine TrL.cons rfl (op_alloc' rfl (bl rfl) rfl ze41 (fun b12 => ?_))
        refine TrL.cons rfl (op_store' (k := 0) (c' := [.int .u64 r47.1, .int .u64 r47.2.1]) rfl rfl rfl rfl rfl ty41 rfl (Nat.le_of_ble_eq_true rfl) (ones (oc rfl (oc rfl on))) rfl ?_)
        refine TrL.nil (qthen_n ?_)
        refine Tr.regionD drawn (fun hok => ?_)
        refine TrAny.prom (i := 0) (d := 59) hok (OpVal.plain rfl rfl (v_move rfl rfl)) (by kernel_rfl) rfl (bl rfl) ?_
        clear hok
        intro hok
        refine TrAny.prom (i := 1) (d := 60) hok (OpVal.plain rfl rfl (v_load (k := 0) rfl rfl rfl ty41 nofun rfl rfl)) (by kernel_rfl) rfl (bl rfl) ?_
        clear hok
        intro hok
        refine TrAny.prom (i := 2) (d := 61) hok (OpVal.plain rfl rfl (v_load (k := 2) rfl rfl rfl ty104 (fun _ => rfl) rfl rfl)) (by kernel_rfl) rfl (bl rfl) ?_
        clear hok
        intro hok
        obtain ⟨r50, hr50, hy3⟩ := bnd hy3
        refine TrAny.next (j := 3) (by kernel_rfl) hok rfl (by kernel_rfl) (op_callg' (fs := []) (vs := [.pointer (some ⟨b7, 0, none⟩)]) (cap := []) (Mr := [cells b12 [.int .u64 r47.1, .int .u64 r47.2.1] 41, cells b8 [.pointer (some ⟨b7, 0, none⟩)] 104, cells b9 [.int .u64 s8.2.1] 23, grow 41 2 (.slice m47.1 s8.1.length m47.2.1) s8.1.length m47.2.2.2.2]) [1] [0, 2, 3, 4] [3] rfl rfl rfl en88 (c_level_line_next ((r47.2.2.1, r47.2.2.2, s8.2.2.2.2)) b7 m59.1 m59.2 r50 hr50) (by decide) rfl rfl rfl (bl rfl) (fun ret M' F' hR50 => ?_))
        obtain ⟨m62, rfl, rfl, rfl⟩ := hR50
        refine nxp hok (kp_all (ac (.inr (OpVal.plain rfl rfl (v_move rfl rfl))) (ac (.inr (OpVal.plain rfl rfl (v_load (k := 1) rfl rfl rfl ty41 nofun rfl rfl))) (ac (.inl (by kernel_rfl)) an)))) rfl (by kernel_rfl) ?_
        clear hok
        intro hok
        obtain ⟨r51, hr51, hy3⟩ := bnd hy3
        refine TrAny.next (j := 4) (by kernel_rfl) hok rfl (by kernel_rfl) (op_call0' (vs := [.agg #[.int .u64 r47.1, .int .u64 r47.2.1], .agg #[.int .u64 r50.1, .int .u64 r50.2.1]]) (cap := []) [] rfl rfl (bl rfl) rfl rfl en89 (c_level_both ((r47.1, r47.2.1)) ((r50.1, r50.2.1)) r51 hr51) rfl (fun ret M' F' hR51 => ?_))
        obtain ⟨rfl, rfl, rfl⟩ := hR51
        refine nxp hok (kp_imp (kp_c0 rfl)) rfl (by kernel_rfl) ?_
        clear hok
        intro hok
        refine TrAny.next (j := 5) (by kernel_rfl) hok rfl (by kernel_rfl) (op_buildSlice' (rp := rp_u64_u64) (xs := [(((r47.1, r47.2.1)).1, ((r50.1, r50.2.1)).2)]) (vs := [.agg #[.int .u64 (((r47.1, r47.2.1)).1), .int .u64 (((r50.1, r50.2.1)).2)]]) (out := [.int .u64 (((r47.1, r47.2.1)).1), .int .u64 (((r50.1, r50.2.1)).2)]) rfl (bl rfl) rfl sl38 ty41 ze41 rfl rfl (by decide) (by decide) rfl (fun γ w hF => (rowc rfl rown rfl)) (fun A39 => ?_))
        refine nxp hok (kp_imp (kp_cf rfl)) rfl (by kernel_rfl) ?_
        clear hok
        intro hok
        obtain ⟨h44, hy3⟩ := rom hy3
        refine TrAny.next (j := 6) (by kernel_rfl) hok rfl (by kernel_rfl) (op_append' (rp := rp_u64_u64) (xs := s8.1) (ys := [(((r47.1, r47.2.1)).1, ((r50.1, r50.2.1)).2)]) (k := 4) (kx := 0) (ky := 5) rfl (bl rfl) rfl sl38 ty41 ze41 rfl by41 rfl rfl rfl rfl rfl rfl rfl h44.1 h44.2 (fun A40 c25 o23 => ?_))
        refine nxp hok (kp_all (ac (.inl (by kernel_rfl)) (ac (.inr (OpVal.plain rfl rfl (v_load (k := 1) rfl rfl rfl ty41 nofun rfl rfl))) (ac (.inr (OpVal.plain rfl rfl (v_load (k := 2) rfl rfl rfl ty104 (fun _ => rfl) rfl rfl))) an)))) rfl (by kernel_rfl) ?_
        clear hok
        intro hok
        refine TrAny.next (j := 7) (by kernel_rfl) hok rfl (by kernel_rfl) (OpTr.v (v_assign rfl rfl) rfl (bl rfl) ?_)
        refine nxp hok (kp_aw (by kernel_rfl)) rfl (by kernel_rfl) ?_
        clear hok
        intro hok
        have hz := Option.some.inj hy3
        subst hz
        refine TrAny.done (by kernel_rfl) (by kernel_rfl) hok (by kernel_rfl) (qblock_n (qloop_n ((A40, c25, m62.1, m62.2, o23)) (Imp.re _ [2, 3, 0, 4] [6, 4] (sc rfl (sc rfl (sc rfl sn))) (by decide) rfl rfl rfl)))
      · refine Tr.cond_f rfl (bf_dec h42) ?_
        have hz := Option.some.inj hy3
        subst hz
        refine Tr.exit (qthen_x (qloop_x (qblock_hit (qcut_hit ((s8.1, s8.2.1, s8.2.2.1, s8.2.2.2.1, s8.2.2.2.2)) ((m47.1, m47.2.1, m47.2.2.1, m47.2.2.2.1, m47.2.2.2.2)) (hx6 _ rfl).symm (Imp.re _ [1, 2, 0, 3] [0, 1] (sc rfl (sc rfl (sc rfl sn))) (by decide) rfl rfl rfl)))))
    · refine TrL.cons_no rfl rfl rfl (gn_t (bf_dec h41)) rfl (bl rfl) ?_
      refine TrL.cons_no rfl rfl rfl (gn_t (bf_dec h41)) rfl (bl rfl) ?_
      refine TrL.cons_no rfl rfl rfl (gn_t (bf_dec h41)) rfl (bl rfl) ?_
      refine TrL.cons_no rfl rfl rfl (gn_t (bf_dec h41)) rfl (bl rfl) ?_
      refine TrL.cons_no rfl rfl rfl (gn_t (bf_dec h41)) rfl (bl rfl) ?_
      refine TrL.cons_no rfl rfl rfl (gn_t (bf_dec h41)) rfl (bl rfl) ?_
      refine TrL.v (v_pick_f rfl rfl (bf_dec h41) rfl) rfl rfl (bl rfl) ?_
      refine TrL.nil (qthen_n ?_)
      refine Tr.cond_f rfl rfl ?_
      have hz := Option.some.inj hy3
      subst hz
      refine Tr.exit (qthen_x (qloop_x (qblock_hit (qcut_hit ((s8.1, s8.2.1, s8.2.2.1, s8.2.2.2.1, s8.2.2.2.2)) ((m47.1, m47.2.1, m47.2.2.1, m47.2.2.2.1, m47.2.2.2.2)) (hx6 _ rfl).symm (Imp.re _ [1, 2, 0, 3] [0, 1] (sc rfl (sc rfl (sc rfl sn))) (by decide) rfl rfl rfl)))))
  · subst hd3
    refine (qthen_n ?_)
    refine Tr.seq ?_
    refine Tr.region ?_
    refine TrL.v (v_move rfl rfl) rfl rfl (bl rfl) ?_
    obtain ⟨r52, hr52, H⟩ := bnd H
    refine TrL.cons rfl (op_callg' (fs := []) (vs := []) (cap := [.pointer (some ⟨b8, 0, none⟩), .pointer (some ⟨b9, 0, none⟩)]) (Mr := [grow 41 2 (.slice m56.1 x3.1.length m56.2.1) x3.1.length m56.2.2.2.2]) [2, 0, 1] [3] [1] rfl rfl rfl en85 (c_level_Push_1 x3.2.2 x3.2.1 b8 b7 m56.2.2.1 m56.2.2.2.1 b9 r52 hr52) (by decide) rfl rfl rfl (bl rfl) (fun ret M' F' hR52 => ?_))
    obtain ⟨rfl, rfl, rfl⟩ := hR52
    refine TrL.v (v_arith rfl rfl rfl ar_add_u64) rfl rfl (bl rfl) ?_
    refine TrL.v (v_quo' rfl rfl rfl (by decide) wrap_u64') rfl rfl (bl rfl) ?_
    refine TrL.v (v_assign rfl rfl) rfl rfl (bl rfl) ?_
    refine TrL.nil (qthen_n ?_)
    refine Tr.seq ?_
    refine Tr.region ?_
    refine TrL.v (v_load (k := 1) rfl rfl rfl ty104 (fun _ => rfl) rfl rfl) rfl rfl (bl rfl) ?_
    refine TrL.v (v_nilCheck rfl rfl) rfl rfl (bl rfl) ?_
    refine TrL.v (v_fieldAddr' rfl fo106_1 rfl rfl) rfl rfl (bl rfl) ?_
    refine TrL.v (v_load (k := 0) rfl rfl rfl ty23 (fun _ => rfl) rfl rfl) rfl rfl (bl rfl) ?_
    refine TrL.v (v_move rfl rfl) rfl rfl (bl rfl) ?_
    refine TrL.v (v_arith rfl rfl rfl ar_mul_u64) rfl rfl (bl rfl) ?_
    refine TrL.v (v_arith rfl rfl rfl ar_sub_u64) rfl rfl (bl rfl) ?_
    refine TrL.v (v_nilCheck rfl rfl) rfl rfl (bl rfl) ?_
    refine TrL.v (v_fieldAddr' rfl fo106_1 rfl rfl) rfl rfl (bl rfl) ?_
    refine TrL.cons rfl (op_store' (k := 0) (c' := [.slice m56.2.2.1 x3.2.2.1.length m56.2.2.2.1, .int .u64 (wu64 (x3.2.2.2.1 - (wu64 (2 * (wu64 ((wu64 (r52 + 1)).tdiv 2)))))), .int .u64 x3.2.2.2.2]) rfl rfl rfl rfl rfl ty23 rfl (Nat.le_of_ble_eq_true rfl) (ones (oc rfl on)) rfl ?_)
    refine TrL.nil (qthen_n ?_)
    refine Tr.seq ?_
    refine Tr.region ?_
    refine TrL.v (v_assign rfl rfl) rfl rfl (bl rfl) ?_
    refine TrL.nil (qthen_n ?_)
    refine Tr.seq ?_
    obtain ⟨x4, hx7, H⟩ := bnd H
    refine Tr.cutE (D := List (Int × Int)) (M := Option Addr × Nat × Option Nat) .normal (fun _d => x4 = _d) (fun x4 m72 => ⟨[(18, .slice m56.1 x3.1.length m56.2.1), (20, .int .u64 (wu64 ((wu64 (r52 + 1)).tdiv 2))), (21, .slice m72.1 x4.length m72.2.1)], [grow 41 2 (.slice m56.1 x3.1.length m56.2.1) x3.1.length m56.2.2.2.2, grow 41 2 (.slice m72.1 x4.length m72.2.1) x4.length m72.2.2], [slF rp_u64_u64 m56.1 m56.2.1 x3.1, slF rp_u64_u64 m72.1 m72.2.1 x4], []⟩) ?_ (fun x4 m72 hd4 => ?_)
    · refine Tr.block (Tr.loopI (ι := Option Addr × Nat × Option Addr × Nat × Option Nat) (step := level_Push_s1) (fun s11 m68 => ⟨[(13, .pointer (some ⟨b8, 0, none⟩)), (18, .slice m56.1 x3.1.length m56.2.1), (20, .int .u64 (wu64 ((wu64 (r52 + 1)).tdiv 2))), (21, .slice m68.1 s11.1.length m68.2.1)], [cells b8 [.pointer (some ⟨b7, 0, none⟩)] 104, cells b7 [.slice m68.2.2.1 s11.2.1.length m68.2.2.2.1, .int .u64 s11.2.2.1, .int .u64 s11.2.2.2] 106, grow 41 2 (.slice m56.1 x3.1.length m56.2.1) x3.1.length m56.2.2.2.2, grow 41 2 (.slice m68.1 s11.1.length m68.2.1) s11.1.length m68.2.2.2.2], [slF rp_u64_u64 m56.1 m56.2.1 x3.1, slF rp_u64_u64 m68.1 m68.2.1 s11.1, slF rp_u64_u64 m68.2.2.1 m68.2.2.2.1 s11.2.1], []⟩) ((none, 0, m56.2.2.1, m56.2.2.2.1, none)) hx7 (Imp.full' (E := 41) (sz := 2) (A := none) (n := 0) (Imp.addF' _ (nilF rp_u64_u64) (Imp.re _ [2, 1, 4, 0] [0, 3, 1] (sc rfl (sc rfl (sc rfl (sc rfl sn)))) (by decide) rfl rfl rfl))) (fun s11 m68 y4 hy4 hx8 => ?_))
      unfold level_Push_s1 at hy4
      refine Tr.seq ?_
      refine Tr.seq ?_
      refine Tr.region ?_
      refine TrL.v (v_load (k := 0) rfl rfl rfl ty104 (fun _ => rfl) rfl rfl) rfl rfl (bl rfl) ?_
      obtain ⟨r57, hr57, hy4⟩ := bnd hy4
      refine TrL.cons rfl (op_callg' (fs := []) (vs := [.pointer (some ⟨b7, 0, none⟩)]) (cap := []) (Mr := [cells b8 [.pointer (some ⟨b7, 0, none⟩)] 104, grow 41 2 (.slice m56.1 x3.1.length m56.2.1) x3.1.length m56.2.2.2.2, grow 41 2 (.slice m68.1 s11.1.length m68.2.1) s11.1.length m68.2.2.2.2]) [1] [0, 2, 3] [2] rfl rfl rfl en87 (c_level_line_long s11.2 b7 m68.2.2.1 m68.2.2.2.1 r57 hr57) (by decide) rfl rfl rfl (bl rfl) (fun ret M' F' hR57 => ?_))
      obtain ⟨rfl, rfl, rfl⟩ := hR57
      refine TrL.v (v_arith rfl rfl rfl ar_gtr) rfl rfl (bl rfl) ?_
      refine TrL.nil (qthen_n ?_)
      rcases ifc hy4 with ⟨h49, hy4⟩ | ⟨h49, hy4⟩
      · refine Tr.cond_t rfl (bt_dec h49) ?_
        refine Tr.skip (qthen_n ?_)
        refine Tr.block ?_
        refine Tr.region ?_
        refine TrL.v (v_move rfl rfl) rfl rfl (bl rfl) ?_
        refine TrL.v (v_load (k := 1) rfl rfl rfl ty104 (fun _ => rfl) rfl rfl) rfl rfl (bl rfl) ?_
        obtain ⟨r58, hr58, hy4⟩ := bnd hy4
        refine TrL.cons rfl (op_callg' (fs := []) (vs := [.pointer (some ⟨b7, 0, none⟩)]) (cap := []) (Mr := [cells b8 [.pointer (some ⟨b7, 0, none⟩)] 104, grow 41 2 (.slice m56.1 x3.1.length m56.2.1) x3.1.length m56.2.2.2.2, grow 41 2 (.slice m68.1 s11.1.length m68.2.1) s11.1.length m68.2.2.2.2]) [0] [1, 2, 3] [2] rfl rfl rfl en88 (c_level_line_next s11.2 b7 m68.2.2.1 m68.2.2.2.1 r58 hr58) (by decide) rfl rfl rfl (bl rfl) (fun ret M' F' hR58 => ?_))
        obtain ⟨m74, rfl, rfl, rfl⟩ := hR58
        refine TrL.cons rfl (op_buildSlice' (rp := rp_u64_u64) (xs := [(r58.1, r58.2.1)]) (vs := [.agg #[.int .u64 r58.1, .int .u64 r58.2.1]]) (out := [.int .u64 r58.1, .int .u64 r58.2.1]) rfl (bl rfl) rfl sl38 ty41 ze41 rfl rfl (by decide) (by decide) rfl (fun γ w hF => (rowc rfl rown rfl)) (fun A45 => ?_))
        obtain ⟨h50, hy4⟩ := rom hy4
        refine TrL.cons rfl (op_append' (rp := rp_u64_u64) (xs := s11.1) (ys := [(r58.1, r58.2.1)]) (k := 3) (kx := 1) (ky := 5) rfl (bl rfl) rfl sl38 ty41 ze41 rfl by41 rfl rfl rfl rfl rfl rfl rfl h50.1 h50.2 (fun A46 c28 o26 => ?_))
        refine TrL.v (v_assign rfl rfl) rfl rfl (bl rfl) ?_
        have hz := Option.some.inj hy4
        subst hz
        refine TrL.nil (qblock_n (qloop_n ((A46, c28, m74.1, m74.2, o26)) (Imp.re _ [1, 0, 2, 3] [0, 6, 4] (sc rfl (sc rfl (sc rfl (sc rfl sn)))) (by decide) rfl rfl rfl)))
      · refine Tr.cond_f rfl (bf_dec h49) ?_
        have hz := Option.some.inj hy4
        subst hz
        refine Tr.exit (qthen_x (qloop_x (qblock_hit (qcut_hit s11.1 ((m68.1, m68.2.1, m68.2.2.2.2)) (hx8 _ rfl).symm (Imp.re _ [2, 3] [0, 1] (sc rfl (sc rfl (sc rfl sn))) (by decide) rfl rfl rfl)))))
    · subst hd4
      refine (qthen_n ?_)
      refine Tr.seq ?_
      refine Tr.region ?_
      refine TrL.v (v_move rfl rfl) rfl rfl (bl rfl) ?_
      refine TrL.v (v_move rfl rfl) rfl rfl (bl rfl) ?_
      refine TrL.v (v_move rfl rfl) rfl rfl (bl rfl) ?_
      refine TrL.v (v_assign rfl rfl) rfl rfl (bl rfl) ?_
      refine TrL.v (v_assign rfl rfl) rfl rfl (bl rfl) ?_
      refine TrL.v (v_assign rfl rfl) rfl rfl (bl rfl) ?_
      refine TrL.nil (qthen_n ?_)
      have hz := Option.some.inj H
      subst hz
      refine Tr.ret (ret_r ⟨[(10, .slice m72.1 x4.length m72.2.1), (11, .slice m56.1 x3.1.length m56.2.1), (12, .int .u64 (wu64 ((wu64 (r52 + 1)).tdiv 2)))], [grow 41 2 (.slice m72.1 x4.length m72.2.1) x4.length m72.2.2, grow 41 2 (.slice m56.1 x3.1.length m56.2.1) x3.1.length m56.2.2.2.2], [slF rp_u64_u64 m72.1 m72.2.1 x4, slF rp_u64_u64 m56.1 m56.2.1 x3.1], []⟩ [.slice m72.1 x4.length m72.2.1, .slice m56.1 x3.1.length m56.2.1, .int .u64 (wu64 ((wu64 (r52 + 1)).tdiv 2))] [grow 41 2 (.slice m72.1 x4.length m72.2.1) x4.length m72.2.2, grow 41 2 (.slice m56.1 x3.1.length m56.2.1) x3.1.length m56.2.2.2.2] [] (Imp.re _ [1, 0] [1, 0] (sc rfl (sc rfl (sc rfl sn))) (by decide) rfl rfl rfl) rfl rfl ⟨((m72.1, m72.2.1, m56.1, m56.2.1, m72.2.2, m56.2.2.2.2)), rfl, rfl, rfl⟩ (.cons (resv_tmp rfl) (.cons (resv_tmp rfl) (.cons (resv_tmp rfl) .nil))))

theorem c_level_Most (p1 : Int) (p2 : Int) (r : Int) (H : level_Most p1 p2 = some r) :
    Ctr Try.prog 50 [.int .i64 p1, .int .i64 p2] [] [] (fun ret M' F' => ret = .int .i64 r ∧ M' = [] ∧ F' = []) := by
  unfold level_Most at H
  refine ctr_ofI (N := 15) Try.func50 rfl Try.ntmps50 rfl (Nat.le_of_ble_eq_true rfl) (fun γ0 w0 => ?_)
  refine Tr.seq ?_
  refine Tr.region ?_
  refine TrL.v (v_assign rfl rfl) rfl rfl (bl rfl) ?_
  refine TrL.nil (qthen_n ?_)
  refine Tr.seq ?_
  refine Tr.region ?_
  refine TrL.v (v_move rfl rfl) rfl rfl (bl rfl) ?_
  refine TrL.v (v_max rfl rfl rfl) rfl rfl (bl rfl) ?_
  refine TrL.v (v_assign rfl rfl) rfl rfl (bl rfl) ?_
  refine TrL.nil (qthen_n ?_)
  refine Tr.seq ?_
  refine Tr.seq ?_
  refine Tr.region ?_
  refine TrL.v (v_move rfl rfl) rfl rfl (bl rfl) ?_
  refine TrL.v (v_arith rfl rfl rfl ar_eql) rfl rfl (bl rfl) ?_
  refine TrL.nil (qthen_n ?_)
  rcases ifc H with ⟨h2, H⟩ | ⟨h2, H⟩
  · refine Tr.cond_t rfl (bt_dec h2) ?_
    refine Tr.seq ?_
    refine Tr.region ?_
    refine TrL.v (v_move rfl rfl) rfl rfl (bl rfl) ?_
    refine TrL.v (v_arith rfl rfl rfl ar_add_i64) rfl rfl (bl rfl) ?_
    refine TrL.v (v_assign rfl rfl) rfl rfl (bl rfl) ?_
    refine TrL.nil (qthen_n ?_)
    have hz := Option.some.inj H
    subst hz
    refine Tr.ret (qthen_r (ret_r ⟨[(4, .int .i64 (wi64 ((max p1 0) + 1)))], [], [], []⟩ [.int .i64 (wi64 ((max p1 0) + 1))] [] [] (Imp.re _ [] [] (sc rfl sn) (by decide) rfl rfl rfl) rfl rfl ⟨rfl, rfl, rfl⟩ (.cons (resv_tmp rfl) .nil)))
  · refine Tr.cond_f rfl (bf_dec h2) ?_
    refine Tr.skip (qthen_n ?_)
    refine Tr.seq ?_
    refine Tr.region ?_
    refine TrL.v (v_move rfl rfl) rfl rfl (bl rfl) ?_
    refine TrL.v (v_arith rfl rfl rfl ar_add_i64) rfl rfl (bl rfl) ?_
    refine TrL.v (v_quo' rfl rfl rfl (by decide) wrap_i64') rfl rfl (bl rfl) ?_
    refine TrL.v (v_arith rfl rfl rfl ar_add_i64) rfl rfl (bl rfl) ?_
    refine TrL.v (v_assign rfl rfl) rfl rfl (bl rfl) ?_
    refine TrL.nil (qthen_n ?_)
    have hz := Option.some.inj H
    subst hz
    refine Tr.ret (ret_r ⟨[(4, .int .i64 (wi64 ((wi64 ((wi64 ((max p1 0) + 1)).tdiv 2)) + 1)))], [], [], []⟩ [.int .i64 (wi64 ((wi64 ((wi64 ((max p1 0) + 1)).tdiv 2)) + 1))] [] [] (Imp.re _ [] [] (sc rfl sn) (by decide) rfl rfl rfl) rfl rfl ⟨rfl, rfl, rfl⟩ (.cons (resv_tmp rfl) .nil))

theorem c_level_Least (p1 : Int) (p2 : Int) (r : Int) (H : level_Least p1 p2 = some r) :
    Ctr Try.prog 52 [.int .i64 p1, .int .i64 p2] [] [] (fun ret M' F' => ret = .int .i64 r ∧ M' = [] ∧ F' = []) := by
  unfold level_Least at H
  refine ctr_ofI (N := 9) Try.func52 rfl Try.ntmps52 rfl (Nat.le_of_ble_eq_true rfl) (fun γ0 w0 => ?_)
  refine Tr.seq ?_
  refine Tr.region ?_
  refine TrL.v (v_assign rfl rfl) rfl rfl (bl rfl) ?_
  refine TrL.nil (qthen_n ?_)
  refine Tr.seq ?_
  refine Tr.region ?_
  refine TrL.v (v_move rfl rfl) rfl rfl (bl rfl) ?_
  refine TrL.v (v_move rfl rfl) rfl rfl (bl rfl) ?_
  obtain ⟨r2, hr2, H⟩ := bnd H
  refine TrL.cons rfl (op_call0' (vs := [.int .i64 p1, .int .i64 p2]) (cap := []) [] rfl rfl (bl rfl) rfl rfl en50 (c_level_Most p1 p2 r2 hr2) rfl (fun ret M' F' hR2 => ?_))
  obtain ⟨rfl, rfl, rfl⟩ := hR2
  refine TrL.v (v_arith rfl rfl rfl ar_sub_i64) rfl rfl (bl rfl) ?_
  refine TrL.v (v_assign rfl rfl) rfl rfl (bl rfl) ?_
  refine TrL.nil (qthen_n ?_)
  have hz := Option.some.inj H
  subst hz
  refine Tr.ret (ret_r ⟨[(4, .int .i64 (wi64 (r2 - 1)))], [], [], []⟩ [.int .i64 (wi64 (r2 - 1))] [] [] (Imp.re _ [] [] (sc rfl sn) (by decide) rfl rfl rfl) rfl rfl ⟨rfl, rfl, rfl⟩ (.cons (resv_tmp rfl) .nil))
end Go.Proofs.Ytbnjjpmlaknaoaa.W
