/- The contracts of the walked functions: the printed walks. -/
import Derived.Test.YtbnjjpmlaknaoaaKa
import Derived.Test.YtbnjjpmlaknaoaaQa
import Derived.Test.YtbnjjpmlaknaoaaWexpiryaa
import Derived.Test.YtbnjjpmlaknaoaaWlaw07aa
import Derived.Test.YtbnjjpmlaknaoaaWlaw07ba
import Derived.Test.YtbnjjpmlaknaoaaWref06ba
import Derived.Test.YtbnjjpmlaknaoaaWref07aa
namespace Go.Proofs.Ytbnjjpmlaknaoaa.W
open Go Go.Proofs Go.Proofs.Ytbnjjpmlaknaoaa.L Go.Proofs.Ytbnjjpmlaknaoaa.Pu
set_option linter.unusedVariables false
set_option maxHeartbeats 4000000

theorem c_law07_ExpiryTells (p1 : Int) (p2 : List (Int × Int)) (p3 : Int × Int × Int) (A1 : Option Addr) (c1 : Nat) (r : Bool) (H : law07_ExpiryTells p1 p2 p3 = some r) :
    Ctr Try.prog 3 [.int .i64 p1, .slice A1 p2.length c1, .agg #[.int .u64 p3.1, .int .u64 p3.2.1, .int .u64 p3.2.2]] [] [slF rp_u64_u64 A1 c1 p2] (fun ret M' F' => ret = .bool r ∧ M' = [] ∧ F' = []) := by
  unfold law07_ExpiryTells at H
  refine ctr_ofI (N := 47) Try.func3 rfl Try.ntmps3 rfl (Nat.le_of_ble_eq_true rfl) (fun γ0 w0 => ?_)
  refine Tr.seq ?_
  refine Tr.region ?_
  refine TrL.cons rfl (op_box' rfl (bl rfl) rfl rfl rfl (fun b3 => ?_))
  refine TrL.v (v_assign rfl rfl) rfl rfl (bl rfl) ?_
  refine TrL.nil (qthen_n ?_)
  refine Tr.seq ?_
  refine Tr.region ?_
  obtain ⟨r27, hr27, H⟩ := bnd H
  refine TrL.cons rfl (op_call0' (vs := []) (cap := []) [] rfl rfl (bl rfl) rfl rfl en29 (c_law07_awake r27 hr27) rfl (fun ret M' F' hR27 => ?_))
  obtain ⟨rfl, rfl, rfl⟩ := hR27
  refine TrL.v (v_assign rfl rfl) rfl rfl (bl rfl) ?_
  refine TrL.nil (qthen_n ?_)
  refine Tr.seq ?_
  refine Tr.region ?_
  refine TrL.v (v_move rfl rfl) rfl rfl (bl rfl) ?_
  refine TrL.v (v_move rfl rfl) rfl rfl (bl rfl) ?_
  obtain ⟨r28, hr28, H⟩ := bnd H
  refine TrL.cons rfl (op_call0' (vs := [.int .i64 p1, .slice A1 p2.length c1]) (cap := []) [0] rfl rfl (bl rfl) rfl rfl en30 (c_ref06_Made p1 p2 A1 c1 r28 hr28) rfl (fun ret M' F' hR28 => ?_))
  obtain ⟨m28, rfl, rfl, rfl⟩ := hR28
  refine TrL.cons rfl (op_alloc' rfl (bl rfl) rfl ze28 (fun b4 => ?_))
  refine TrL.cons rfl (op_store' (k := 0) (c' := [.int .i64 r28.1, .int .i64 r28.2.1, .slice m28.1 r28.2.2.length m28.2]) rfl rfl rfl rfl rfl ty28 rfl (Nat.le_of_ble_eq_true rfl) (ones (oc rfl (oc rfl (oc rfl on)))) rfl ?_)
  refine TrL.nil (qthen_n ?_)
  refine Tr.seq ?_
  refine Tr.re ⟨[(0, .int .i64 p1), (1, .slice A1 p2.length c1), (2, .agg #[.int .u64 p3.1, .int .u64 p3.2.1, .int .u64 p3.2.2]), (5, .pointer (some ⟨b3, 0, none⟩)), (7, .bool r27), (8, .pointer (some ⟨b4, 0, none⟩)), (9, .bool r27), (10, .int .i64 p1), (11, .slice A1 p2.length c1), (12, .agg #[.int .i64 r28.1, .int .i64 r28.2.1, .slice m28.1 r28.2.2.length m28.2])], [cells b4 [.int .i64 r28.1, .int .i64 r28.2.1, .slice m28.1 r28.2.2.length m28.2] 28, cells b3 [.int .u64 p3.1, .int .u64 p3.2.1, .int .u64 p3.2.2] 24], [slF rp_u64_u64 A1 c1 p2, slF (rSl rp_u64_u64) m28.1 m28.2 r28.2.2], []⟩ [0, 1] [0, 1] (sc rfl (sc rfl (sc rfl (sc rfl (sc rfl (sc rfl (sc rfl (sc rfl (sc rfl (sc rfl sn)))))))))) (by decide) rfl rfl rfl ?_
  refine Tr.regionD drawn (fun hok => ?_)
  refine TrAny.prom (i := 0) (d := 13) hok (OpVal.plain rfl rfl (v_move rfl rfl)) (by kernel_rfl) rfl (bl rfl) ?_
  clear hok
  intro hok
  refine TrAny.prom (i := 1) (d := 14) hok (OpVal.plain rfl rfl (v_move rfl rfl)) (by kernel_rfl) rfl (bl rfl) ?_
  clear hok
  intro hok
  rcases ifc H with ⟨h15, H⟩ | ⟨h15, H⟩
  · refine TrAny.prom (i := 2) (d := 15) hok (OpVal.yes rfl rfl rfl rfl h15 (v_load (k := 0) rfl rfl rfl ty28 nofun rfl rfl)) (by kernel_rfl) rfl (bl rfl) ?_
    clear hok
    intro hok
    refine TrAny.prom (i := 4) (d := 17) hok (OpVal.yes rfl rfl rfl rfl h15 (v_indexArr rfl ar24 ty23 rfl rfl (by decide) (by decide) rfl)) (by kernel_rfl) rfl (bl rfl) ?_
    clear hok
    intro hok
    refine TrAny.prom (i := 5) (d := 18) hok (OpVal.yes rfl rfl rfl rfl h15 (v_load (k := 1) rfl rfl rfl ty23 (fun _ => rfl) rfl rfl)) (by kernel_rfl) rfl (bl rfl) ?_
    clear hok
    intro hok
    refine TrAny.prom (i := 6) (d := 19) hok (OpVal.yes rfl rfl rfl rfl h15 (v_indexArr rfl ar24 ty23 rfl rfl (by decide) (by decide) rfl)) (by kernel_rfl) rfl (bl rfl) ?_
    clear hok
    intro hok
    refine TrAny.prom (i := 7) (d := 20) hok (OpVal.yes rfl rfl rfl rfl h15 (v_load (k := 1) rfl rfl rfl ty23 (fun _ => rfl) rfl rfl)) (by kernel_rfl) rfl (bl rfl) ?_
    clear hok
    intro hok
    refine TrAny.prom (i := 9) (d := 22) hok (OpVal.yes rfl rfl rfl rfl h15 (v_load (k := 0) rfl rfl rfl ty28 nofun rfl rfl)) (by kernel_rfl) rfl (bl rfl) ?_
    clear hok
    intro hok
    refine TrAny.prom (i := 10) (d := 23) hok (OpVal.yes rfl rfl rfl rfl h15 (v_indexArr rfl ar24 ty23 rfl rfl (by decide) (by decide) rfl)) (by kernel_rfl) rfl (bl rfl) ?_
    clear hok
    intro hok
    refine TrAny.prom (i := 11) (d := 24) hok (OpVal.yes rfl rfl rfl rfl h15 (v_load (k := 1) rfl rfl rfl ty23 (fun _ => rfl) rfl rfl)) (by kernel_rfl) rfl (bl rfl) ?_
    clear hok
    intro hok
    refine TrAny.prom (i := 12) (d := 25) hok (OpVal.yes rfl rfl rfl rfl h15 (v_indexArr rfl ar24 ty23 rfl rfl (by decide) (by decide) rfl)) (by kernel_rfl) rfl (bl rfl) ?_
    clear hok
    intro hok
    refine TrAny.prom (i := 13) (d := 26) hok (OpVal.yes rfl rfl rfl rfl h15 (v_load (k := 1) rfl rfl rfl ty23 (fun _ => rfl) rfl rfl)) (by kernel_rfl) rfl (bl rfl) ?_
    clear hok
    intro hok
    obtain ⟨r47, hr47, H⟩ := bnd H
    refine TrAny.nextY (j := 3) (by kernel_rfl) hok rfl (by kernel_rfl) rfl rfl rfl h15 (op_call0' (vs := [.agg #[.int .i64 r28.1, .int .i64 r28.2.1, .slice m28.1 r28.2.2.length m28.2]]) (cap := []) [1] rfl rfl (bl rfl) rfl rfl en33 (c_law07_made r28 m28.1 m28.2 r47 hr47) rfl (fun ret M' F' hR47 => ?_))
    obtain ⟨rfl, rfl, rfl⟩ := hR47
    refine nxp hok (kp_imp (kp_c0 rfl)) rfl (by kernel_rfl) ?_
    clear hok
    intro hok
    obtain ⟨r48, hr48, H⟩ := bnd H
    refine TrAny.nextY (j := 8) (by kernel_rfl) hok rfl (by kernel_rfl) rfl rfl rfl h15 (op_call0' (vs := [.agg #[.int .i64 r28.1, .int .i64 r28.2.1, .slice m28.1 r28.2.2.length m28.2], .int .u64 p3.1, .int .u64 p3.2.1]) (cap := []) [1] rfl rfl (bl rfl) rfl rfl en32 (c_expiry_Drop r28 p3.1 p3.2.1 m28.1 m28.2 r48 hr48) rfl (fun ret M' F' hR48 => ?_))
    obtain ⟨m48, rfl, rfl, rfl⟩ := hR48
    refine nxp hok (kp_imp (kp_c0 rfl)) rfl (by kernel_rfl) ?_
    clear hok
    intro hok
    obtain ⟨r49, hr49, H⟩ := bnd H
    refine TrAny.nextY (j := 14) (by kernel_rfl) hok rfl (by kernel_rfl) rfl rfl rfl h15 (op_call0' (vs := [.agg #[.int .i64 r28.1, .int .i64 r28.2.1, .slice m28.1 r28.2.2.length m28.2], .int .u64 p3.1, .int .u64 p3.2.1]) (cap := []) [1] rfl rfl (bl rfl) rfl rfl en34 (c_ref07_Drop r28 p3.1 p3.2.1 m28.1 m28.2 r49 hr49) rfl (fun ret M' F' hR49 => ?_))
    obtain ⟨m49, rfl, rfl, rfl⟩ := hR49
    refine nxp hok (kp_imp (kp_c0 rfl)) rfl (by kernel_rfl) ?_
    clear hok
    intro hok
    obtain ⟨r50, hr50, H⟩ := bnd H
    refine TrAny.nextY (j := 15) (by kernel_rfl) hok rfl (by kernel_rfl) rfl rfl rfl h15 (op_call0' (vs := [.agg #[.int .i64 r28.1, .int .i64 r28.2.1, .slice m48.1 r48.length m48.2], .agg #[.int .i64 r28.1, .int .i64 r28.2.1, .slice m49.1 r49.length m49.2]]) (cap := []) [3, 4] rfl rfl (bl rfl) rfl rfl en31 (c_law07_same ((r28.1, r28.2.1, r48)) ((r28.1, r28.2.1, r49)) m48.1 m48.2 m49.1 m49.2 r50 hr50) rfl (fun ret M' F' hR50 => ?_))
    obtain ⟨rfl, rfl, rfl⟩ := hR50
    refine nxp hok (kp_imp (kp_c0 rfl)) rfl (by kernel_rfl) ?_
    clear hok
    intro hok
    refine TrAny.prom (i := 16) (d := 29) hok (OpVal.plain rfl rfl (v_pick_t rfl rfl h15 rfl)) (by kernel_rfl) rfl (bl rfl) ?_
    clear hok
    intro hok
    refine TrAny.prom (i := 17) (d := 30) hok (OpVal.plain rfl rfl (v_move rfl rfl)) (by kernel_rfl) rfl (bl rfl) ?_
    clear hok
    intro hok
    rcases ifc H with ⟨h16, H⟩ | ⟨h16, H⟩
    · refine TrAny.prom (i := 18) (d := 31) hok (OpVal.yes rfl rfl rfl rfl h16 (v_indexArr rfl ar24 ty23 rfl rfl (by decide) (by decide) rfl)) (by kernel_rfl) rfl (bl rfl) ?_
      clear hok
      intro hok
      refine TrAny.prom (i := 19) (d := 32) hok (OpVal.yes rfl rfl rfl rfl h16 (v_load (k := 1) rfl rfl rfl ty23 (fun _ => rfl) rfl rfl)) (by kernel_rfl) rfl (bl rfl) ?_
      clear hok
      intro hok
      refine TrAny.prom (i := 20) (d := 33) hok (OpVal.yes rfl rfl rfl rfl h16 (v_indexArr rfl ar24 ty23 rfl rfl (by decide) (by decide) rfl)) (by kernel_rfl) rfl (bl rfl) ?_
      clear hok
      intro hok
      refine TrAny.prom (i := 21) (d := 34) hok (OpVal.yes rfl rfl rfl rfl h16 (v_load (k := 1) rfl rfl rfl ty23 (fun _ => rfl) rfl rfl)) (by kernel_rfl) rfl (bl rfl) ?_
      clear hok
      intro hok
      refine TrAny.prom (i := 22) (d := 35) hok (OpVal.yes rfl rfl rfl rfl h16 (v_indexArr rfl ar24 ty23 rfl rfl (by decide) (by decide) rfl)) (by kernel_rfl) rfl (bl rfl) ?_
      clear hok
      intro hok
      refine TrAny.prom (i := 23) (d := 36) hok (OpVal.yes rfl rfl rfl rfl h16 (v_load (k := 1) rfl rfl rfl ty23 (fun _ => rfl) rfl rfl)) (by kernel_rfl) rfl (bl rfl) ?_
      clear hok
      intro hok
      refine TrAny.prom (i := 25) (d := 38) hok (OpVal.yes rfl rfl rfl rfl h16 (v_indexArr rfl ar24 ty23 rfl rfl (by decide) (by decide) rfl)) (by kernel_rfl) rfl (bl rfl) ?_
      clear hok
      intro hok
      refine TrAny.prom (i := 26) (d := 39) hok (OpVal.yes rfl rfl rfl rfl h16 (v_load (k := 1) rfl rfl rfl ty23 (fun _ => rfl) rfl rfl)) (by kernel_rfl) rfl (bl rfl) ?_
      clear hok
      intro hok
      refine TrAny.prom (i := 27) (d := 40) hok (OpVal.yes rfl rfl rfl rfl h16 (v_indexArr rfl ar24 ty23 rfl rfl (by decide) (by decide) rfl)) (by kernel_rfl) rfl (bl rfl) ?_
      clear hok
      intro hok
      refine TrAny.prom (i := 28) (d := 41) hok (OpVal.yes rfl rfl rfl rfl h16 (v_load (k := 1) rfl rfl rfl ty23 (fun _ => rfl) rfl rfl)) (by kernel_rfl) rfl (bl rfl) ?_
      clear hok
      intro hok
      refine TrAny.prom (i := 29) (d := 42) hok (OpVal.yes rfl rfl rfl rfl h16 (v_indexArr rfl ar24 ty23 rfl rfl (by decide) (by decide) rfl)) (by kernel_rfl) rfl (bl rfl) ?_
      clear hok
      intro hok
      refine TrAny.prom (i := 30) (d := 43) hok (OpVal.yes rfl rfl rfl rfl h16 (v_load (k := 1) rfl rfl rfl ty23 (fun _ => rfl) rfl rfl)) (by kernel_rfl) rfl (bl rfl) ?_
      clear hok
      intro hok
      obtain ⟨r51, hr51, H⟩ := bnd H
      refine TrAny.nextY (j := 24) (by kernel_rfl) hok rfl (by kernel_rfl) rfl rfl rfl h16 (op_call0' (vs := [.int .u64 p3.2.2, .int .u64 p3.1, .int .u64 p3.2.1]) (cap := []) [] rfl rfl (bl rfl) rfl rfl en35 (c_expiry_Old p3.2.2 p3.1 p3.2.1 r51 hr51) rfl (fun ret M' F' hR51 => ?_))
      obtain ⟨rfl, rfl, rfl⟩ := hR51
      refine nxp hok (kp_imp (kp_c0 rfl)) rfl (by kernel_rfl) ?_
      clear hok
      intro hok
      obtain ⟨r52, hr52, H⟩ := bnd H
      refine TrAny.nextY (j := 31) (by kernel_rfl) hok rfl (by kernel_rfl) rfl rfl rfl h16 (op_call0' (vs := [.int .u64 p3.2.2, .int .u64 p3.1, .int .u64 p3.2.1]) (cap := []) [] rfl rfl (bl rfl) rfl rfl en36 (c_ref07_Old p3.2.2 p3.1 p3.2.1 r52 hr52) rfl (fun ret M' F' hR52 => ?_))
      obtain ⟨rfl, rfl, rfl⟩ := hR52
      refine nxp hok (kp_imp (kp_c0 rfl)) rfl (by kernel_rfl) ?_
      clear hok
      intro hok
      refine TrAny.prom (i := 32) (d := 45) hok (OpVal.yes rfl rfl rfl rfl h16 (v_eqd rfl Try.underlying4 rfl rfl)) (by kernel_rfl) rfl (bl rfl) ?_
      clear hok
      intro hok
      refine TrAny.prom (i := 33) (d := 46) hok (OpVal.plain rfl rfl (v_pick_t rfl rfl h16 rfl)) (by kernel_rfl) rfl (bl rfl) ?_
      clear hok
      intro hok
      refine TrAny.prom (i := 34) (d := 6) hok (OpVal.plain rfl rfl (v_assign rfl rfl)) (by kernel_rfl) rfl (bl rfl) ?_
      clear hok
      intro hok
      refine TrAny.done (by kernel_rfl) (by kernel_rfl) hok (by kernel_rfl) (qthen_n ?_)
      have hz := Option.some.inj H
      subst hz
      refine Tr.ret (ret_r ⟨[(6, .bool (decide (r51 = r52)))], [], [], []⟩ [.bool (decide (r51 = r52))] [] [] (Imp.re _ [] [] (sc rfl sn) (by decide) rfl rfl rfl) rfl rfl ⟨rfl, rfl, rfl⟩ (.cons (resv_tmp rfl) .nil))
    · refine TrAny.prom (i := 18) (d := 31) hok (OpVal.no rfl (fun c h => by cases h) rfl rfl rfl (gn_t (bf_b h16))) (by kernel_rfl) rfl (bl rfl) ?_
      clear hok
      intro hok
      refine TrAny.prom (i := 19) (d := 32) hok (OpVal.no rfl (fun c h => by cases h) rfl rfl rfl (gn_t (bf_b h16))) (by kernel_rfl) rfl (bl rfl) ?_
      clear hok
      intro hok
      refine TrAny.prom (i := 20) (d := 33) hok (OpVal.no rfl (fun c h => by cases h) rfl rfl rfl (gn_t (bf_b h16))) (by kernel_rfl) rfl (bl rfl) ?_
      clear hok
      intro hok
      refine TrAny.prom (i := 21) (d := 34) hok (OpVal.no rfl (fun c h => by cases h) rfl rfl rfl (gn_t (bf_b h16))) (by kernel_rfl) rfl (bl rfl) ?_
      clear hok
      intro hok
      refine TrAny.prom (i := 22) (d := 35) hok (OpVal.no rfl (fun c h => by cases h) rfl rfl rfl (gn_t (bf_b h16))) (by kernel_rfl) rfl (bl rfl) ?_
      clear hok
      intro hok
      refine TrAny.prom (i := 23) (d := 36) hok (OpVal.no rfl (fun c h => by cases h) rfl rfl rfl (gn_t (bf_b h16))) (by kernel_rfl) rfl (bl rfl) ?_
      clear hok
      intro hok
      refine TrAny.prom (i := 24) (d := 37) hok (OpVal.no rfl (fun c h => by cases h) rfl rfl rfl (gn_t (bf_b h16))) (by kernel_rfl) rfl (bl rfl) ?_
      clear hok
      intro hok
      refine TrAny.prom (i := 25) (d := 38) hok (OpVal.no rfl (fun c h => by cases h) rfl rfl rfl (gn_t (bf_b h16))) (by kernel_rfl) rfl (bl rfl) ?_
      clear hok
      intro hok
      refine TrAny.prom (i := 26) (d := 39) hok (OpVal.no rfl (fun c h => by cases h) rfl rfl rfl (gn_t (bf_b h16))) (by kernel_rfl) rfl (bl rfl) ?_
      clear hok
      intro hok
      refine TrAny.prom (i := 27) (d := 40) hok (OpVal.no rfl (fun c h => by cases h) rfl rfl rfl (gn_t (bf_b h16))) (by kernel_rfl) rfl (bl rfl) ?_
      clear hok
      intro hok
      refine TrAny.prom (i := 28) (d := 41) hok (OpVal.no rfl (fun c h => by cases h) rfl rfl rfl (gn_t (bf_b h16))) (by kernel_rfl) rfl (bl rfl) ?_
      clear hok
      intro hok
      refine TrAny.prom (i := 29) (d := 42) hok (OpVal.no rfl (fun c h => by cases h) rfl rfl rfl (gn_t (bf_b h16))) (by kernel_rfl) rfl (bl rfl) ?_
      clear hok
      intro hok
      refine TrAny.prom (i := 30) (d := 43) hok (OpVal.no rfl (fun c h => by cases h) rfl rfl rfl (gn_t (bf_b h16))) (by kernel_rfl) rfl (bl rfl) ?_
      clear hok
      intro hok
      refine TrAny.prom (i := 31) (d := 44) hok (OpVal.no rfl (fun c h => by cases h) rfl rfl rfl (gn_t (bf_b h16))) (by kernel_rfl) rfl (bl rfl) ?_
      clear hok
      intro hok
      refine TrAny.prom (i := 32) (d := 45) hok (OpVal.no rfl (fun c h => by cases h) rfl rfl rfl (gn_t (bf_b h16))) (by kernel_rfl) rfl (bl rfl) ?_
      clear hok
      intro hok
      refine TrAny.prom (i := 33) (d := 46) hok (OpVal.plain rfl rfl (v_pick_f rfl rfl (bf_b h16) rfl)) (by kernel_rfl) rfl (bl rfl) ?_
      clear hok
      intro hok
      refine TrAny.prom (i := 34) (d := 6) hok (OpVal.plain rfl rfl (v_assign rfl rfl)) (by kernel_rfl) rfl (bl rfl) ?_
      clear hok
      intro hok
      refine TrAny.done (by kernel_rfl) (by kernel_rfl) hok (by kernel_rfl) (qthen_n ?_)
      have hz := Option.some.inj H
      subst hz
      refine Tr.ret (ret_r ⟨[(6, .bool false)], [], [], []⟩ [.bool false] [] [] (Imp.re _ [] [] (sc rfl sn) (by decide) rfl rfl rfl) rfl rfl ⟨rfl, rfl, rfl⟩ (.cons (resv_tmp rfl) .nil))
  · refine TrAny.prom (i := 2) (d := 15) hok (OpVal.no rfl (fun c h => by cases h) rfl rfl rfl (gn_t (bf_b h15))) (by kernel_rfl) rfl (bl rfl) ?_
    clear hok
    intro hok
    refine TrAny.prom (i := 3) (d := 16) hok (OpVal.no rfl (fun c h => by cases h) rfl rfl rfl (gn_t (bf_b h15))) (by kernel_rfl) rfl (bl rfl) ?_
    clear hok
    intro hok
    refine TrAny.prom (i := 4) (d := 17) hok (OpVal.no rfl (fun c h => by cases h) rfl rfl rfl (gn_t (bf_b h15))) (by kernel_rfl) rfl (bl rfl) ?_
    clear hok
    intro hok
    refine TrAny.prom (i := 5) (d := 18) hok (OpVal.no rfl (fun c h => by cases h) rfl rfl rfl (gn_t (bf_b h15))) (by kernel_rfl) rfl (bl rfl) ?_
    clear hok
    intro hok
    refine TrAny.prom (i := 6) (d := 19) hok (OpVal.no rfl (fun c h => by cases h) rfl rfl rfl (gn_t (bf_b h15))) (by kernel_rfl) rfl (bl rfl) ?_
    clear hok
    intro hok
    refine TrAny.prom (i := 7) (d := 20) hok (OpVal.no rfl (fun c h => by cases h) rfl rfl rfl (gn_t (bf_b h15))) (by kernel_rfl) rfl (bl rfl) ?_
    clear hok
    intro hok
    refine TrAny.prom (i := 8) (d := 21) hok (OpVal.no rfl (fun c h => by cases h) rfl rfl rfl (gn_t (bf_b h15))) (by kernel_rfl) rfl (bl rfl) ?_
    clear hok
    intro hok
    refine TrAny.prom (i := 9) (d := 22) hok (OpVal.no rfl (fun c h => by cases h) rfl rfl rfl (gn_t (bf_b h15))) (by kernel_rfl) rfl (bl rfl) ?_
    clear hok
    intro hok
    refine TrAny.prom (i := 10) (d := 23) hok (OpVal.no rfl (fun c h => by cases h) rfl rfl rfl (gn_t (bf_b h15))) (by kernel_rfl) rfl (bl rfl) ?_
    clear hok
    intro hok
    refine TrAny.prom (i := 11) (d := 24) hok (OpVal.no rfl (fun c h => by cases h) rfl rfl rfl (gn_t (bf_b h15))) (by kernel_rfl) rfl (bl rfl) ?_
    clear hok
    intro hok
    refine TrAny.prom (i := 12) (d := 25) hok (OpVal.no rfl (fun c h => by cases h) rfl rfl rfl (gn_t (bf_b h15))) (by kernel_rfl) rfl (bl rfl) ?_
    clear hok
    intro hok
    refine TrAny.prom (i := 13) (d := 26) hok (OpVal.no rfl (fun c h => by cases h) rfl rfl rfl (gn_t (bf_b h15))) (by kernel_rfl) rfl (bl rfl) ?_
    clear hok
    intro hok
    refine TrAny.prom (i := 14) (d := 27) hok (OpVal.no rfl (fun c h => by cases h) rfl rfl rfl (gn_t (bf_b h15))) (by kernel_rfl) rfl (bl rfl) ?_
    clear hok
    intro hok
    refine TrAny.prom (i := 15) (d := 28) hok (OpVal.no rfl (fun c h => by cases h) rfl rfl rfl (gn_t (bf_b h15))) (by kernel_rfl) rfl (bl rfl) ?_
    clear hok
    intro hok
    refine TrAny.prom (i := 16) (d := 29) hok (OpVal.plain rfl rfl (v_pick_f rfl rfl (bf_b h15) rfl)) (by kernel_rfl) rfl (bl rfl) ?_
    clear hok
    intro hok
    refine TrAny.prom (i := 17) (d := 30) hok (OpVal.plain rfl rfl (v_move rfl rfl)) (by kernel_rfl) rfl (bl rfl) ?_
    clear hok
    intro hok
    refine TrAny.prom (i := 18) (d := 31) hok (OpVal.no rfl (fun c h => by cases h) rfl rfl rfl (gn_t rfl)) (by kernel_rfl) rfl (bl rfl) ?_
    clear hok
    intro hok
    refine TrAny.prom (i := 19) (d := 32) hok (OpVal.no rfl (fun c h => by cases h) rfl rfl rfl (gn_t rfl)) (by kernel_rfl) rfl (bl rfl) ?_
    clear hok
    intro hok
    refine TrAny.prom (i := 20) (d := 33) hok (OpVal.no rfl (fun c h => by cases h) rfl rfl rfl (gn_t rfl)) (by kernel_rfl) rfl (bl rfl) ?_
    clear hok
    intro hok
    refine TrAny.prom (i := 21) (d := 34) hok (OpVal.no rfl (fun c h => by cases h) rfl rfl rfl (gn_t rfl)) (by kernel_rfl) rfl (bl rfl) ?_
    clear hok
    intro hok
    refine TrAny.prom (i := 22) (d := 35) hok (OpVal.no rfl (fun c h => by cases h) rfl rfl rfl (gn_t rfl)) (by kernel_rfl) rfl (bl rfl) ?_
    clear hok
    intro hok
    refine TrAny.prom (i := 23) (d := 36) hok (OpVal.no rfl (fun c h => by cases h) rfl rfl rfl (gn_t rfl)) (by kernel_rfl) rfl (bl rfl) ?_
    clear hok
    intro hok
    refine TrAny.prom (i := 24) (d := 37) hok (OpVal.no rfl (fun c h => by cases h) rfl rfl rfl (gn_t rfl)) (by kernel_rfl) rfl (bl rfl) ?_
    clear hok
    intro hok
    refine TrAny.prom (i := 25) (d := 38) hok (OpVal.no rfl (fun c h => by cases h) rfl rfl rfl (gn_t rfl)) (by kernel_rfl) rfl (bl rfl) ?_
    clear hok
    intro hok
    refine TrAny.prom (i := 26) (d := 39) hok (OpVal.no rfl (fun c h => by cases h) rfl rfl rfl (gn_t rfl)) (by kernel_rfl) rfl (bl rfl) ?_
    clear hok
    intro hok
    refine TrAny.prom (i := 27) (d := 40) hok (OpVal.no rfl (fun c h => by cases h) rfl rfl rfl (gn_t rfl)) (by kernel_rfl) rfl (bl rfl) ?_
    clear hok
    intro hok
    refine TrAny.prom (i := 28) (d := 41) hok (OpVal.no rfl (fun c h => by cases h) rfl rfl rfl (gn_t rfl)) (by kernel_rfl) rfl (bl rfl) ?_
    clear hok
    intro hok
    refine TrAny.prom (i := 29) (d := 42) hok (OpVal.no rfl (fun c h => by cases h) rfl rfl rfl (gn_t rfl)) (by kernel_rfl) rfl (bl rfl) ?_
    clear hok
    intro hok
    refine TrAny.prom (i := 30) (d := 43) hok (OpVal.no rfl (fun c h => by cases h) rfl rfl rfl (gn_t rfl)) (by kernel_rfl) rfl (bl rfl) ?_
    clear hok
    intro hok
    refine TrAny.prom (i := 31) (d := 44) hok (OpVal.no rfl (fun c h => by cases h) rfl rfl rfl (gn_t rfl)) (by kernel_rfl) rfl (bl rfl) ?_
    clear hok
    intro hok
    refine TrAny.prom (i := 32) (d := 45) hok (OpVal.no rfl (fun c h => by cases h) rfl rfl rfl (gn_t rfl)) (by kernel_rfl) rfl (bl rfl) ?_
    clear hok
    intro hok
    refine TrAny.prom (i := 33) (d := 46) hok (OpVal.plain rfl rfl (v_pick_f rfl rfl rfl rfl)) (by kernel_rfl) rfl (bl rfl) ?_
    clear hok
    intro hok
    refine TrAny.prom (i := 34) (d := 6) hok (OpVal.plain rfl rfl (v_assign rfl rfl)) (by kernel_rfl) rfl (bl rfl) ?_
    clear hok
    intro hok
    refine TrAny.done (by kernel_rfl) (by kernel_rfl) hok (by kernel_rfl) (qthen_n ?_)
    have hz := Option.some.inj H
    subst hz
    refine Tr.ret (ret_r ⟨[(6, .bool false)], [], [], []⟩ [.bool false] [] [] (Imp.re _ [] [] (sc rfl sn) (by decide) rfl rfl rfl) rfl rfl ⟨rfl, rfl, rfl⟩ (.cons (resv_tmp rfl) .nil))
end Go.Proofs.Ytbnjjpmlaknaoaa.W
