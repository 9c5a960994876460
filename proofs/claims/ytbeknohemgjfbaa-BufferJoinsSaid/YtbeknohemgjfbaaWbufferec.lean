/- The contracts of the walked functions: the printed walks. -/
import Derived.Test.YtbeknohemgjfbaaKc
import Derived.Test.YtbeknohemgjfbaaQc
import Derived.Test.YtbeknohemgjfbaaWbufferbc
import Derived.Test.YtbeknohemgjfbaaWslicesbc
import Derived.Test.YtbeknohemgjfbaaWslicesfc
namespace Go.Proofs.Ytbeknohemgjfbaa.W
open Go Go.Proofs Go.Proofs.Ytbeknohemgjfbaa.L Go.Proofs.Ytbeknohemgjfbaa.Pu
set_option linter.unusedVariables false
set_option maxHeartbeats 4000000

theorem c_buffer_Join (p1 : List (Int × Int × Int × Int × List (Int × Int × Int))) (A1 : Option Addr) (c1 : Nat) (r : Int × Int × Int × Int × (List (Int × Int × Int)) × List (Int × Int × Int)) (H : buffer_Join p1 = some r) :
    Ctr Try.prog 41 [.slice A1 p1.length c1] [] [slF rp_u64_i64_u64_u64_LOu64_u64_u64_C A1 c1 p1] (fun ret M' F' => ∃ m : Option Addr × Nat × Option Addr × Nat, ret = .tuple #[.agg #[.int .u64 r.1, .int .i64 r.2.1, .int .u64 r.2.2.1, .int .u64 r.2.2.2.1, .slice m.1 r.2.2.2.2.1.length m.2.1], .slice m.2.2.1 r.2.2.2.2.2.length m.2.2.2] ∧ M' = [] ∧ F' = [slF rp_u64_u64_u64 m.1 m.2.1 r.2.2.2.2.1, slF rp_u64_u64_u64 m.2.2.1 m.2.2.2 r.2.2.2.2.2]) := by
  unfold buffer_Join at H
  refine ctr_ofI (N := 69) Try.func41 rfl Try.ntmps41 rfl (Nat.le_of_ble_eq_true rfl) (fun γ0 w0 => ?_)
  refine Tr.seq ?_
  refine Tr.region ?_
  refine TrL.cons rfl (op_alloc' rfl (bl rfl) rfl ze77 (fun b7 => ?_))
  refine TrL.v (v_assign rfl rfl) rfl rfl (bl rfl) ?_
  refine TrL.nil (qthen_n ?_)
  refine Tr.seq ?_
  refine Tr.seq ?_
  refine Tr.region ?_
  refine TrL.v (v_move rfl rfl) rfl rfl (bl rfl) ?_
  refine TrL.v (v_len rfl sl70 rfl) rfl rfl (bl rfl) ?_
  refine TrL.v (v_arith rfl rfl rfl ar_eql) rfl rfl (bl rfl) ?_
  refine TrL.nil (qthen_n ?_)
  rcases ifc H with ⟨h7, H⟩ | ⟨h7, H⟩
  · refine Tr.cond_t rfl (bt_dec h7) ?_
    refine Tr.seq ?_
    refine Tr.region ?_
    refine TrL.v (v_build (vs := []) (out := [.int .u64 0, .int .i64 0, .int .u64 0, .int .u64 0, .slice none 0 0]) rfl pl77 ze77 rfl rfl) rfl rfl (bl rfl) ?_
    refine TrL.cons rfl (op_store' (k := 0) (c' := [.int .u64 0, .int .i64 0, .int .u64 0, .int .u64 0, .slice none 0 0]) rfl rfl rfl rfl rfl ty77 rfl (Nat.le_of_ble_eq_true rfl) (ones (oc rfl (oc rfl (oc rfl (oc rfl (oc rfl on)))))) rfl ?_)
    refine TrL.v (v_assign rfl rfl) rfl rfl (bl rfl) ?_
    refine TrL.nil (qthen_n ?_)
    have hz := Option.some.inj H
    subst hz
    refine Tr.ret (qthen_r (ret_r ⟨[(2, .pointer (some ⟨b7, 0, none⟩)), (3, .slice none 0 0)], [cells b7 [.int .u64 0, .int .i64 0, .int .u64 0, .int .u64 0, .slice none 0 0] 77], [slF rp_u64_u64_u64 none 0 (([] : List (Int × Int × Int))), slF rp_u64_u64_u64 none 0 (([] : List (Int × Int × Int)))], []⟩ [.agg #[.int .u64 0, .int .i64 0, .int .u64 0, .int .u64 0, .slice none 0 0], .slice none 0 0] [] [cells b7 [.int .u64 0, .int .i64 0, .int .u64 0, .int .u64 0, .slice none 0 0] 77] (Imp.addF' _ (nilF rp_u64_u64_u64) (Imp.re _ [0] [1, 1] (sc rfl (sc rfl sn)) (by decide) rfl rfl rfl)) rfl rfl ⟨((none, 0, none, 0)), rfl, rfl, rfl⟩ (.cons (resv_cell (k := 0) rfl rfl ty77 nofun rfl rfl) (.cons (resv_tmp rfl) .nil))))
  · refine Tr.cond_f rfl (bf_dec h7) ?_
    refine Tr.skip (qthen_n ?_)
    refine Tr.seq ?_
    refine Tr.regionD drawn (fun hok => ?_)
    refine TrAny.prom (i := 0) (d := 13) hok (OpVal.plain rfl rfl (v_move rfl rfl)) (by kernel_rfl) rfl (bl rfl) ?_
    clear hok
    intro hok
    obtain ⟨z6, hz6, H⟩ := bnd H
    refine TrAny.prom (i := 1) (d := 14) hok (OpVal.plain rfl rfl (v_indexAddr (k := 0) rfl sl70 ty77 rfl rfl rfl rfl hz6)) (by kernel_rfl) rfl (bl rfl) ?_
    clear hok
    intro hok
    refine TrAny.prom (i := 2) (d := 15) hok (OpVal.plain rfl rfl (v_fieldAddr rfl fo77_0 rfl)) (by kernel_rfl) rfl (bl rfl) ?_
    clear hok
    intro hok
    refine TrAny.openP (k := 0) rfl hz6 hok (fun m61 hok => ?_)
    refine TrAny.prom (i := 3) (d := 16) hok (OpVal.plain rfl rfl (v_loadCF (j := 0) (k := 2) rfl ty28 (fun _ => rfl) rfl rfl rfl rfl)) (by kernel_rfl) rfl (bl rfl) ?_
    clear hok
    intro hok
    refine TrAny.prom (i := 4) (d := 17) hok (OpVal.plain rfl rfl (v_move rfl rfl)) (by kernel_rfl) rfl (bl rfl) ?_
    clear hok
    intro hok
    refine TrAny.prom (i := 5) (d := 18) hok (OpVal.plain rfl rfl (v_indexAddr (k := 0) rfl sl70 ty77 rfl rfl rfl rfl hz6)) (by kernel_rfl) rfl (bl rfl) ?_
    clear hok
    intro hok
    refine TrAny.prom (i := 6) (d := 19) hok (OpVal.plain rfl rfl (v_fieldAddr rfl fo77_1 rfl)) (by kernel_rfl) rfl (bl rfl) ?_
    clear hok
    intro hok
    refine TrAny.prom (i := 7) (d := 20) hok (OpVal.plain rfl rfl (v_loadCF (j := 1) (k := 2) rfl ty3 (fun _ => rfl) rfl rfl rfl rfl)) (by kernel_rfl) rfl (bl rfl) ?_
    clear hok
    intro hok
    refine TrAny.prom (i := 8) (d := 21) hok (OpVal.plain rfl rfl (v_build (vs := [.int .u64 z6.1, .int .i64 z6.2.1]) (out := [.int .u64 z6.1, .int .i64 z6.2.1, .int .u64 0, .int .u64 0, .slice none 0 0]) rfl pl77 ze77 rfl rfl)) (by kernel_rfl) rfl (bl rfl) ?_
    clear hok
    intro hok
    refine TrAny.next (j := 9) (by kernel_rfl) hok rfl (by kernel_rfl) (op_alloc' rfl (bl rfl) rfl ze77 (fun b9 => ?_))
    refine nxp hok (kp_imp (kp_cm rfl)) rfl (by kernel_rfl) ?_
    clear hok
    intro hok
    refine TrAny.next (j := 10) (by kernel_rfl) hok rfl (by kernel_rfl) (op_store' (k := 0) (c' := [.int .u64 z6.1, .int .i64 z6.2.1, .int .u64 0, .int .u64 0, .slice none 0 0]) rfl rfl rfl rfl rfl ty77 rfl (Nat.le_of_ble_eq_true rfl) (ones (oc rfl (oc rfl (oc rfl (oc rfl (oc rfl on)))))) rfl ?_)
    refine nxs hok (kp_aw (by kernel_rfl)) rfl ?_
    clear hok
    intro hok
    refine TrAny.done (by kernel_rfl) (by kernel_rfl) hok (by kernel_rfl) (qthen_n ?_)
    refine Tr.seq ?_
    refine Tr.seq ?_
    refine Tr.region ?_
    refine TrL.v (v_move rfl rfl) rfl rfl (bl rfl) ?_
    refine TrL.v (v_len rfl sl70 rfl) rfl rfl (bl rfl) ?_
    refine TrL.v (v_move rfl rfl) rfl rfl (bl rfl) ?_
    refine TrL.nil (qthen_n ?_)
    obtain ⟨x2, hx3, H⟩ := bnd H
    refine Tr.cutE (D := Int × Int × List (Int × Int × Int)) (M := Option Addr × Nat) .normal (fun _d => x2 = _d) (fun x2 m99 => ⟨[(2, .pointer (some ⟨b7, 0, none⟩)), (4, .pointer (some ⟨b9, 0, none⟩))], [cells b7 [.int .u64 0, .int .i64 0, .int .u64 0, .int .u64 0, .slice none 0 0] 77, cells b9 [.int .u64 z6.1, .int .i64 z6.2.1, .int .u64 x2.1, .int .u64 x2.2.1, .slice m99.1 x2.2.2.length m99.2] 77, arr rp_u64_u64_u64 85 m99.1 x2.2.2.length m99.2 x2.2.2], [slF rp_u64_u64_u64 none 0 (([] : List (Int × Int × Int)))], []⟩) ?_ (fun x2 m99 hd2 => ?_)
    · refine Tr.block (Tr.loopI (ι := Option Addr × Nat) (step := buffer_Join_s0 p1) (fun s5 m80 => ⟨[(2, .pointer (some ⟨b7, 0, none⟩)), (4, .pointer (some ⟨b9, 0, none⟩)), (22, .slice A1 p1.length c1), (23, .int .i64 ((p1.length : Int))), (24, .int .i64 s5.1)], [cells b7 [.int .u64 0, .int .i64 0, .int .u64 0, .int .u64 0, .slice none 0 0] 77, cells b9 [.int .u64 z6.1, .int .i64 z6.2.1, .int .u64 s5.2.1, .int .u64 s5.2.2.1, .slice m80.1 s5.2.2.2.length m80.2] 77, arr rp_u64_u64_u64 85 m80.1 s5.2.2.2.length m80.2 s5.2.2.2], [slF rp_u64_i64_u64_u64_LOu64_u64_u64_C A1 c1 p1, slF rp_u64_u64_u64 none 0 (([] : List (Int × Int × Int)))], []⟩) ((none, 0)) hx3 (Imp.arrNil' rp_u64_u64_u64 85 (Imp.addF' _ (nilF rp_u64_u64_u64) (Imp.re _ [2, 1, 0] [0, 3] (sc rfl (sc rfl (sc rfl (sc rfl (sc rfl sn))))) (by decide) rfl rfl rfl))) (fun s5 m80 y2 hy2 hx4 => ?_))
      unfold buffer_Join_s0 at hy2
      refine Tr.seq ?_
      refine Tr.region ?_
      refine TrL.v (v_arith rfl rfl rfl ar_lss) rfl rfl (bl rfl) ?_
      refine TrL.nil (qthen_n ?_)
      refine Tr.seq ?_
      rcases ifc hy2 with ⟨h10, hy2⟩ | ⟨h10, hy2⟩
      · refine Tr.cond_t rfl (bt_dec h10) ?_
        refine Tr.skip (qthen_n ?_)
        refine Tr.seq ?_
        refine Tr.block ?_
        refine Tr.seq ?_
        refine Tr.region ?_
        obtain ⟨z8, hz8, hy2⟩ := bnd hy2
        refine TrL.v (v_indexAddr (k := 0) rfl sl70 ty77 rfl rfl rfl rfl hz8) rfl rfl (bl rfl) ?_
        refine TrL.openP (k := 0) rfl hz8 (fun m100 => ?_)
        refine TrL.v (v_loadCF (j := 0) (k := 3) rfl ty77 nofun rfl rfl rfl rfl) rfl rfl (bl rfl) ?_
        refine TrL.cons rfl (op_alloc' rfl (bl rfl) rfl ze77 (fun b12 => ?_))
        refine TrL.cons rfl (op_store' (k := 0) (c' := [.int .u64 z8.1, .int .i64 z8.2.1, .int .u64 z8.2.2.1, .int .u64 z8.2.2.2.1, .slice m100.1 z8.2.2.2.2.length m100.2]) rfl rfl rfl rfl rfl ty77 rfl (Nat.le_of_ble_eq_true rfl) (ones (oc rfl (oc rfl (oc rfl (oc rfl (oc rfl on)))))) rfl ?_)
        refine TrL.nil (qthen_n ?_)
        refine Tr.seq ?_
        refine Tr.regionD drawn (fun hok => ?_)
        obtain ⟨r18, hr18, hy2⟩ := bnd hy2
        obtain ⟨r19, hr19, hy2⟩ := bnd hy2
        refine TrAny.cut (ι := Unit) (fun m109 => ⟨[(2, .pointer (some ⟨b7, 0, none⟩)), (4, .pointer (some ⟨b9, 0, none⟩)), (6, .pointer (some ⟨b12, 0, none⟩)), (22, .slice A1 p1.length c1), (23, .int .i64 ((p1.length : Int))), (24, .int .i64 s5.1)], [cells b7 [.int .u64 0, .int .i64 0, .int .u64 0, .int .u64 0, .slice none 0 0] 77, cells b9 [.int .u64 z6.1, .int .i64 z6.2.1, .int .u64 r18, .int .u64 r19, .slice m80.1 s5.2.2.2.length m80.2] 77, cells b12 [.int .u64 z8.1, .int .i64 z8.2.1, .int .u64 z8.2.2.1, .int .u64 z8.2.2.2.1, .slice m100.1 z8.2.2.2.2.length m100.2] 77, arr rp_u64_u64_u64 85 m80.1 s5.2.2.2.length m80.2 s5.2.2.2], [slF rp_u64_i64_u64_u64_LOu64_u64_u64_C A1 c1 p1, slF rp_u64_u64_u64 none 0 (([] : List (Int × Int × Int))), slF rp_u64_u64_u64 m100.1 m100.2 z8.2.2.2.2], []⟩) ?_ (fun m109 => ?_)
        · refine TrAny.prom (i := 0) (d := 28) hok (OpVal.plain rfl rfl (v_fieldAddr' rfl fo77_2 rfl rfl)) (by kernel_rfl) rfl (bl rfl) ?_
          clear hok
          intro hok
          refine TrAny.prom (i := 1) (d := 29) hok (OpVal.plain rfl rfl (v_load (k := 2) rfl rfl rfl ty28 (fun _ => rfl) rfl rfl)) (by kernel_rfl) rfl (bl rfl) ?_
          clear hok
          intro hok
          refine TrAny.prom (i := 2) (d := 30) hok (OpVal.plain rfl rfl (v_fieldAddr' rfl fo77_2 rfl rfl)) (by kernel_rfl) rfl (bl rfl) ?_
          clear hok
          intro hok
          refine TrAny.prom (i := 3) (d := 31) hok (OpVal.plain rfl rfl (v_load (k := 0) rfl rfl rfl ty28 (fun _ => rfl) rfl rfl)) (by kernel_rfl) rfl (bl rfl) ?_
          clear hok
          intro hok
          refine TrAny.prom (i := 6) (d := 34) hok (OpVal.plain rfl rfl (v_fieldAddr' rfl fo77_3 rfl rfl)) (by kernel_rfl) rfl (bl rfl) ?_
          clear hok
          intro hok
          refine TrAny.prom (i := 7) (d := 35) hok (OpVal.plain rfl rfl (v_load (k := 2) rfl rfl rfl ty28 (fun _ => rfl) rfl rfl)) (by kernel_rfl) rfl (bl rfl) ?_
          clear hok
          intro hok
          refine TrAny.prom (i := 8) (d := 36) hok (OpVal.plain rfl rfl (v_fieldAddr' rfl fo77_3 rfl rfl)) (by kernel_rfl) rfl (bl rfl) ?_
          clear hok
          intro hok
          refine TrAny.prom (i := 9) (d := 37) hok (OpVal.plain rfl rfl (v_load (k := 0) rfl rfl rfl ty28 (fun _ => rfl) rfl rfl)) (by kernel_rfl) rfl (bl rfl) ?_
          clear hok
          intro hok
          refine TrAny.prom (i := 12) (d := 40) hok (OpVal.plain rfl rfl (v_fieldAddr' rfl fo77_2 rfl rfl)) (by kernel_rfl) rfl (bl rfl) ?_
          clear hok
          intro hok
          refine TrAny.prom (i := 14) (d := 41) hok (OpVal.plain rfl rfl (v_fieldAddr' rfl fo77_3 rfl rfl)) (by kernel_rfl) rfl (bl rfl) ?_
          clear hok
          intro hok
          refine TrAny.fork [4, 10] (by kernel_rfl) hok ⟨4, by decide, bl rfl⟩ (by kernel_rfl) (.cons ?_ (.cons ?_ .nil))
          · refine step_n rfl (by kernel_rfl) rfl (op_buildSlice' (rp := (rInt .u64)) (xs := [s5.2.1, z8.2.2.1]) (vs := [.int .u64 s5.2.1, .int .u64 z8.2.2.1]) (out := [.int .u64 s5.2.1, .int .u64 z8.2.2.1]) rfl (bl rfl) rfl sl182 ty28 ze28 rfl rfl (by decide) (by decide) rfl (fun γ w hF => (rowc rfl (rowc rfl rown rfl) rfl)) (fun A74 => ?_))
            refine nxp hok (kp_imp (kp_cf rfl)) rfl (by kernel_rfl) ?_
            clear hok
            intro hok
            refine TrAny.fork [5, 10] (by kernel_rfl) hok ⟨5, by decide, bl rfl⟩ (by kernel_rfl) (.cons ?_ (.cons ?_ .nil))
            · refine step_n rfl (by kernel_rfl) rfl (op_call0' (vs := [.slice A74 2 2]) (cap := []) [4] rfl rfl (bl rfl) rfl rfl en86 (c_buffer_latest ([s5.2.1, z8.2.2.1]) A74 2 r18 hr18) rfl (fun ret M' F' hR86 => ?_))
              obtain ⟨rfl, rfl, rfl⟩ := hR86
              refine nxp hok (kp_imp (kp_c0 rfl)) rfl (by kernel_rfl) ?_
              clear hok
              intro hok
              refine TrAny.next (j := 10) (by kernel_rfl) hok rfl (by kernel_rfl) (op_buildSlice' (rp := (rInt .u64)) (xs := [s5.2.2.1, z8.2.2.2.1]) (vs := [.int .u64 s5.2.2.1, .int .u64 z8.2.2.2.1]) (out := [.int .u64 s5.2.2.1, .int .u64 z8.2.2.2.1]) rfl (bl rfl) rfl sl182 ty28 ze28 rfl rfl (by decide) (by decide) rfl (fun γ w hF => (rowc rfl (rowc rfl rown rfl) rfl)) (fun A75 => ?_))
              refine nxp hok (kp_imp (kp_cf rfl)) rfl (by kernel_rfl) ?_
              clear hok
              intro hok
              refine TrAny.next (j := 11) (by kernel_rfl) hok rfl (by kernel_rfl) (op_call0' (vs := [.slice A75 2 2]) (cap := []) [5] rfl rfl (bl rfl) rfl rfl en86 (c_buffer_latest ([s5.2.2.1, z8.2.2.2.1]) A75 2 r19 hr19) rfl (fun ret M' F' hR87 => ?_))
              obtain ⟨rfl, rfl, rfl⟩ := hR87
              refine nxp hok (kp_imp (kp_c0 rfl)) rfl (by kernel_rfl) ?_
              clear hok
              intro hok
              refine TrAny.next (j := 13) (by kernel_rfl) hok rfl (by kernel_rfl) (op_store' (k := 2) (c' := [.int .u64 z6.1, .int .i64 z6.2.1, .int .u64 r18, .int .u64 s5.2.2.1, .slice m80.1 s5.2.2.2.length m80.2]) rfl rfl rfl rfl rfl ty28 rfl (Nat.le_of_ble_eq_true rfl) (ones (oc rfl on)) rfl ?_)
              refine nxs hok (kp_allE [(0, 28, .pointer (some ⟨b9, 2, none⟩)), (1, 29, .int .u64 s5.2.1), (2, 30, .pointer (some ⟨b12, 2, none⟩)), (3, 31, .int .u64 z8.2.2.1), (6, 34, .pointer (some ⟨b9, 3, none⟩)), (7, 35, .int .u64 s5.2.2.1), (8, 36, .pointer (some ⟨b12, 3, none⟩)), (9, 37, .int .u64 z8.2.2.2.1), (12, 40, .pointer (some ⟨b9, 2, none⟩)), (14, 41, .pointer (some ⟨b9, 3, none⟩))] (by kernel_rfl) (ac (.inl (by kernel_rfl)) (ac (.inl (by kernel_rfl)) (ac (.inl (by kernel_rfl)) (ac (.inl (by kernel_rfl)) (ac (.inl (by kernel_rfl)) (ac (.inl (by kernel_rfl)) (ac (.inr (OpVal.plain rfl rfl (v_fieldAddr' rfl fo77_3 rfl rfl))) (ac (.inr (OpVal.plain rfl rfl (v_load (k := 0) rfl rfl rfl ty28 (fun _ => rfl) rfl rfl))) (ac (.inl (by kernel_rfl)) (ac (.inr (OpVal.plain rfl rfl (v_fieldAddr' rfl fo77_3 rfl rfl))) an))))))))))) rfl ?_
              clear hok
              intro hok
              refine TrAny.next (j := 15) (by kernel_rfl) hok rfl (by kernel_rfl) (op_store' (k := 2) (c' := [.int .u64 z6.1, .int .i64 z6.2.1, .int .u64 r18, .int .u64 r19, .slice m80.1 s5.2.2.2.length m80.2]) rfl rfl rfl rfl rfl ty28 rfl (Nat.le_of_ble_eq_true rfl) (ones (oc rfl on)) rfl ?_)
              refine nxs hok (kp_aw (by kernel_rfl)) rfl ?_
              clear hok
              intro hok
              refine TrAny.done (by kernel_rfl) (by kernel_rfl) hok (by kernel_rfl) (⟨(), Imp.re _ [1, 2, 0, 3] [0, 1, 2] (sc rfl (sc rfl (sc rfl (sc rfl (sc rfl (sc rfl sn)))))) (by decide) rfl rfl rfl⟩)
            · refine step_n rfl (by kernel_rfl) rfl (op_buildSlice' (rp := (rInt .u64)) (xs := [s5.2.2.1, z8.2.2.2.1]) (vs := [.int .u64 s5.2.2.1, .int .u64 z8.2.2.2.1]) (out := [.int .u64 s5.2.2.1, .int .u64 z8.2.2.2.1]) rfl (bl rfl) rfl sl182 ty28 ze28 rfl rfl (by decide) (by decide) rfl (fun γ w hF => (rowc rfl (rowc rfl rown rfl) rfl)) (fun A76 => ?_))
              refine nxp hok (kp_imp (kp_cf rfl)) rfl (by kernel_rfl) ?_
              clear hok
              intro hok
              refine TrAny.next (j := 5) (by kernel_rfl) hok rfl (by kernel_rfl) (op_call0' (vs := [.slice A74 2 2]) (cap := []) [4] rfl rfl (bl rfl) rfl rfl en86 (c_buffer_latest ([s5.2.1, z8.2.2.1]) A74 2 r18 hr18) rfl (fun ret M' F' hR88 => ?_))
              obtain ⟨rfl, rfl, rfl⟩ := hR88
              refine nxp hok (kp_imp (kp_c0 rfl)) rfl (by kernel_rfl) ?_
              clear hok
              intro hok
              refine TrAny.next (j := 11) (by kernel_rfl) hok rfl (by kernel_rfl) (op_call0' (vs := [.slice A76 2 2]) (cap := []) [5] rfl rfl (bl rfl) rfl rfl en86 (c_buffer_latest ([s5.2.2.1, z8.2.2.2.1]) A76 2 r19 hr19) rfl (fun ret M' F' hR89 => ?_))
              obtain ⟨rfl, rfl, rfl⟩ := hR89
              refine nxp hok (kp_imp (kp_c0 rfl)) rfl (by kernel_rfl) ?_
              clear hok
              intro hok
              refine TrAny.next (j := 13) (by kernel_rfl) hok rfl (by kernel_rfl) (op_store' (k := 2) (c' := [.int .u64 z6.1, .int .i64 z6.2.1, .int .u64 r18, .int .u64 s5.2.2.1, .slice m80.1 s5.2.2.2.length m80.2]) rfl rfl rfl rfl rfl ty28 rfl (Nat.le_of_ble_eq_true rfl) (ones (oc rfl on)) rfl ?_)
              refine nxs hok (kp_allE [(0, 28, .pointer (some ⟨b9, 2, none⟩)), (1, 29, .int .u64 s5.2.1), (2, 30, .pointer (some ⟨b12, 2, none⟩)), (3, 31, .int .u64 z8.2.2.1), (6, 34, .pointer (some ⟨b9, 3, none⟩)), (7, 35, .int .u64 s5.2.2.1), (8, 36, .pointer (some ⟨b12, 3, none⟩)), (9, 37, .int .u64 z8.2.2.2.1), (12, 40, .pointer (some ⟨b9, 2, none⟩)), (14, 41, .pointer (some ⟨b9, 3, none⟩))] (by kernel_rfl) (ac (.inl (by kernel_rfl)) (ac (.inl (by kernel_rfl)) (ac (.inl (by kernel_rfl)) (ac (.inl (by kernel_rfl)) (ac (.inl (by kernel_rfl)) (ac (.inl (by kernel_rfl)) (ac (.inr (OpVal.plain rfl rfl (v_fieldAddr' rfl fo77_3 rfl rfl))) (ac (.inr (OpVal.plain rfl rfl (v_load (k := 0) rfl rfl rfl ty28 (fun _ => rfl) rfl rfl))) (ac (.inl (by kernel_rfl)) (ac (.inr (OpVal.plain rfl rfl (v_fieldAddr' rfl fo77_3 rfl rfl))) an))))))))))) rfl ?_
              clear hok
              intro hok
              refine TrAny.next (j := 15) (by kernel_rfl) hok rfl (by kernel_rfl) (op_store' (k := 2) (c' := [.int .u64 z6.1, .int .i64 z6.2.1, .int .u64 r18, .int .u64 r19, .slice m80.1 s5.2.2.2.length m80.2]) rfl rfl rfl rfl rfl ty28 rfl (Nat.le_of_ble_eq_true rfl) (ones (oc rfl on)) rfl ?_)
              refine nxs hok (kp_aw (by kernel_rfl)) rfl ?_
              clear hok
              intro hok
              refine TrAny.done (by kernel_rfl) (by kernel_rfl) hok (by kernel_rfl) (⟨(), Imp.re _ [1, 2, 0, 3] [0, 1, 2] (sc rfl (sc rfl (sc rfl (sc rfl (sc rfl (sc rfl sn)))))) (by decide) rfl rfl rfl⟩)
          · refine step_n rfl (by kernel_rfl) rfl (op_buildSlice' (rp := (rInt .u64)) (xs := [s5.2.2.1, z8.2.2.2.1]) (vs := [.int .u64 s5.2.2.1, .int .u64 z8.2.2.2.1]) (out := [.int .u64 s5.2.2.1, .int .u64 z8.2.2.2.1]) rfl (bl rfl) rfl sl182 ty28 ze28 rfl rfl (by decide) (by decide) rfl (fun γ w hF => (rowc rfl (rowc rfl rown rfl) rfl)) (fun A77 => ?_))
            refine nxp hok (kp_imp (kp_cf rfl)) rfl (by kernel_rfl) ?_
            clear hok
            intro hok
            refine TrAny.next (j := 4) (by kernel_rfl) hok rfl (by kernel_rfl) (op_buildSlice' (rp := (rInt .u64)) (xs := [s5.2.1, z8.2.2.1]) (vs := [.int .u64 s5.2.1, .int .u64 z8.2.2.1]) (out := [.int .u64 s5.2.1, .int .u64 z8.2.2.1]) rfl (bl rfl) rfl sl182 ty28 ze28 rfl rfl (by decide) (by decide) rfl (fun γ w hF => (rowc rfl (rowc rfl rown rfl) rfl)) (fun A78 => ?_))
            refine nxp hok (kp_imp (kp_cf rfl)) rfl (by kernel_rfl) ?_
            clear hok
            intro hok
            refine TrAny.next (j := 5) (by kernel_rfl) hok rfl (by kernel_rfl) (op_call0' (vs := [.slice A78 2 2]) (cap := []) [5] rfl rfl (bl rfl) rfl rfl en86 (c_buffer_latest ([s5.2.1, z8.2.2.1]) A78 2 r18 hr18) rfl (fun ret M' F' hR90 => ?_))
            obtain ⟨rfl, rfl, rfl⟩ := hR90
            refine nxp hok (kp_imp (kp_c0 rfl)) rfl (by kernel_rfl) ?_
            clear hok
            intro hok
            refine TrAny.next (j := 11) (by kernel_rfl) hok rfl (by kernel_rfl) (op_call0' (vs := [.slice A77 2 2]) (cap := []) [4] rfl rfl (bl rfl) rfl rfl en86 (c_buffer_latest ([s5.2.2.1, z8.2.2.2.1]) A77 2 r19 hr19) rfl (fun ret M' F' hR91 => ?_))
            obtain ⟨rfl, rfl, rfl⟩ := hR91
            refine nxp hok (kp_imp (kp_c0 rfl)) rfl (by kernel_rfl) ?_
            clear hok
            intro hok
            refine TrAny.next (j := 13) (by kernel_rfl) hok rfl (by kernel_rfl) (op_store' (k := 2) (c' := [.int .u64 z6.1, .int .i64 z6.2.1, .int .u64 r18, .int .u64 s5.2.2.1, .slice m80.1 s5.2.2.2.length m80.2]) rfl rfl rfl rfl rfl ty28 rfl (Nat.le_of_ble_eq_true rfl) (ones (oc rfl on)) rfl ?_)
            refine nxs hok (kp_allE [(0, 28, .pointer (some ⟨b9, 2, none⟩)), (1, 29, .int .u64 s5.2.1), (2, 30, .pointer (some ⟨b12, 2, none⟩)), (3, 31, .int .u64 z8.2.2.1), (6, 34, .pointer (some ⟨b9, 3, none⟩)), (7, 35, .int .u64 s5.2.2.1), (8, 36, .pointer (some ⟨b12, 3, none⟩)), (9, 37, .int .u64 z8.2.2.2.1), (12, 40, .pointer (some ⟨b9, 2, none⟩)), (14, 41, .pointer (some ⟨b9, 3, none⟩))] (by kernel_rfl) (ac (.inl (by kernel_rfl)) (ac (.inl (by kernel_rfl)) (ac (.inl (by kernel_rfl)) (ac (.inl (by kernel_rfl)) (ac (.inl (by kernel_rfl)) (ac (.inl (by kernel_rfl)) (ac (.inr (OpVal.plain rfl rfl (v_fieldAddr' rfl fo77_3 rfl rfl))) (ac (.inr (OpVal.plain rfl rfl (v_load (k := 0) rfl rfl rfl ty28 (fun _ => rfl) rfl rfl))) (ac (.inl (by kernel_rfl)) (ac (.inr (OpVal.plain rfl rfl (v_fieldAddr' rfl fo77_3 rfl rfl))) an))))))))))) rfl ?_
            clear hok
            intro hok
            refine TrAny.next (j := 15) (by kernel_rfl) hok rfl (by kernel_rfl) (op_store' (k := 2) (c' := [.int .u64 z6.1, .int .i64 z6.2.1, .int .u64 r18, .int .u64 r19, .slice m80.1 s5.2.2.2.length m80.2]) rfl rfl rfl rfl rfl ty28 rfl (Nat.le_of_ble_eq_true rfl) (ones (oc rfl on)) rfl ?_)
            refine nxs hok (kp_aw (by kernel_rfl)) rfl ?_
            clear hok
            intro hok
            refine TrAny.done (by kernel_rfl) (by kernel_rfl) hok (by kernel_rfl) (⟨(), Imp.re _ [1, 2, 0, 3] [0, 1, 2] (sc rfl (sc rfl (sc rfl (sc rfl (sc rfl (sc rfl sn)))))) (by decide) rfl rfl rfl⟩)
        · refine (qthen_n ?_)
          refine Tr.region ?_
          refine TrL.v (v_fieldAddr' rfl fo77_4 rfl rfl) rfl rfl (bl rfl) ?_
          refine TrL.v (v_load (k := 1) rfl rfl rfl ty71 (fun _ => rfl) rfl rfl) rfl rfl (bl rfl) ?_
          refine TrL.v (v_fieldAddr' rfl fo77_4 rfl rfl) rfl rfl (bl rfl) ?_
          refine TrL.v (v_load (k := 2) rfl rfl rfl ty71 (fun _ => rfl) rfl rfl) rfl rfl (bl rfl) ?_
          refine TrL.shut' 3 rfl ?_
          refine TrL.cons rfl (op_buildSlice' (rp := (rSl rp_u64_u64_u64)) (xs := [s5.2.2.2, z8.2.2.2.2]) (vs := [.slice m80.1 s5.2.2.2.length m80.2, .slice m100.1 z8.2.2.2.2.length m100.2]) (out := [.slice m80.1 s5.2.2.2.length m80.2, .slice m100.1 z8.2.2.2.2.length m100.2]) rfl (bl rfl) rfl sl216 ty71 ze71 rfl rfl (by decide) (by decide) rfl (fun γ w hF => (rowc ⟨_, _, rfl, hF _ (List.mem_of_getElem? (i := 3) rfl)⟩ (rowc ⟨_, _, rfl, hF _ (List.mem_of_getElem? (i := 2) rfl)⟩ rown rfl) rfl)) (fun A79 => ?_))
          obtain ⟨r20, hr20, hy2⟩ := bnd hy2
          refine TrL.cons rfl (op_call0' (vs := [.slice A79 2 2]) (cap := []) [4] rfl rfl (bl rfl) rfl rfl en87 (c_slices_Concat_Event ([s5.2.2.2, z8.2.2.2.2]) A79 2 r20 hr20) rfl (fun ret M' F' hR92 => ?_))
          obtain ⟨m116, rfl, rfl, rfl⟩ := hR92
          refine TrL.v (v_fieldAddr' rfl fo77_4 rfl rfl) rfl rfl (bl rfl) ?_
          refine TrL.cons rfl (op_store' (k := 2) (c' := [.int .u64 z6.1, .int .i64 z6.2.1, .int .u64 r18, .int .u64 r19, .slice m116.1 r20.length m116.2]) rfl rfl rfl rfl rfl ty71 rfl (Nat.le_of_ble_eq_true rfl) (ones (oc rfl on)) rfl ?_)
          refine TrL.nil (qblock_n (qthen_n ?_))
          refine Tr.region ?_
          refine TrL.v (v_arith rfl rfl rfl ar_add_i64) rfl rfl (bl rfl) ?_
          refine TrL.v (v_move rfl rfl) rfl rfl (bl rfl) ?_
          have hz := Option.some.inj hy2
          subst hz
          refine TrL.nil (qloop_n ((m116.1, m116.2)) (Imp.re _ [1, 2, 0] [0, 1] (sc rfl (sc rfl (sc rfl (sc rfl (sc rfl sn))))) (by decide) rfl rfl rfl))
      · refine Tr.cond_f rfl (bf_dec h10) ?_
        have hz := Option.some.inj hy2
        subst hz
        refine Tr.exit (qthen_x (qloop_x (qblock_hit (qcut_hit ((s5.2.1, s5.2.2.1, s5.2.2.2)) ((m80.1, m80.2)) (hx4 _ rfl).symm (Imp.re _ [0, 1, 2] [1] (sc rfl (sc rfl sn)) (by decide) rfl rfl rfl)))))
    · subst hd2
      refine (qthen_n ?_)
      refine Tr.seq ?_
      refine Tr.region ?_
      refine TrL.v (v_fieldAddr' rfl fo77_4 rfl rfl) rfl rfl (bl rfl) ?_
      refine TrL.v (v_load (k := 1) rfl rfl rfl ty71 (fun _ => rfl) rfl rfl) rfl rfl (bl rfl) ?_
      obtain ⟨r21, hr21, H⟩ := bnd H
      refine TrL.cons rfl (op_callg' (fs := []) (vs := [.slice m99.1 x2.2.2.length m99.2, .func (.func 89) #[] #[]]) (cap := []) (Mr := [cells b7 [.int .u64 0, .int .i64 0, .int .u64 0, .int .u64 0, .slice none 0 0] 77, cells b9 [.int .u64 z6.1, .int .i64 z6.2.1, .int .u64 x2.1, .int .u64 x2.2.1, .slice m99.1 x2.2.2.length m99.2] 77]) [2] [0, 1] [] rfl rfl rfl en88 (c_slices_SortStableFunc_Event x2.2.2 m99.1 m99.2 x2.2.2.length r21 hr21) (by decide) rfl rfl rfl (bl rfl) (fun ret M' F' hR93 => ?_))
      obtain ⟨rfl, rfl, rfl⟩ := hR93
      refine TrL.nil (qthen_n ?_)
      refine Tr.seq ?_
      refine Tr.region ?_
      refine TrL.v (v_load (k := 2) rfl rfl rfl ty77 nofun rfl rfl) rfl rfl (bl rfl) ?_
      refine TrL.v (v_fieldAddr' rfl fo77_3 rfl rfl) rfl rfl (bl rfl) ?_
      refine TrL.v (v_load (k := 2) rfl rfl rfl ty28 (fun _ => rfl) rfl rfl) rfl rfl (bl rfl) ?_
      refine TrL.renormF (fun nn => ⟨[(2, .pointer (some ⟨b7, 0, none⟩)), (4, .pointer (some ⟨b9, 0, none⟩)), (50, .pointer (some ⟨b9, 4, none⟩)), (51, .slice m99.1 nn m99.2), (53, .agg #[.int .u64 z6.1, .int .i64 z6.2.1, .int .u64 x2.1, .int .u64 x2.2.1, .slice m99.1 nn m99.2]), (54, .pointer (some ⟨b9, 3, none⟩)), (55, .int .u64 x2.2.1)], [arr rp_u64_u64_u64 85 m99.1 nn m99.2 r21, cells b7 [.int .u64 0, .int .i64 0, .int .u64 0, .int .u64 0, .slice none 0 0] 77, cells b9 [.int .u64 z6.1, .int .i64 z6.2.1, .int .u64 x2.1, .int .u64 x2.2.1, .slice m99.1 nn m99.2] 77], [slF rp_u64_u64_u64 none 0 (([] : List (Int × Int × Int)))], []⟩) 0 (Imp.re _ [0, 1, 2] [0] (sc rfl (sc rfl (sc rfl (sc rfl (sc rfl (sc rfl (sc rfl sn))))))) (by decide) rfl rfl rfl) rfl ?_
      refine TrL.shut' 0 rfl ?_
      obtain ⟨r22, hr22, H⟩ := bnd H
      refine TrL.cons rfl (op_call0' (vs := [.agg #[.int .u64 z6.1, .int .i64 z6.2.1, .int .u64 x2.1, .int .u64 x2.2.1, .slice m99.1 r21.length m99.2], .int .u64 x2.2.1]) (cap := []) [1] rfl rfl (bl rfl) rfl rfl en91 (c_buffer_Buf_below ((z6.1, z6.2.1, x2.1, x2.2.1, r21)) x2.2.1 m99.1 m99.2 r22 hr22) rfl (fun ret M' F' hR94 => ?_))
      obtain ⟨rfl, rfl, rfl⟩ := hR94
      refine TrL.v (v_assign rfl rfl) rfl rfl (bl rfl) ?_
      refine TrL.nil (qthen_n ?_)
      refine Tr.seq ?_
      refine Tr.region ?_
      refine TrL.v (v_fieldAddr' rfl fo77_4 rfl rfl) rfl rfl (bl rfl) ?_
      refine TrL.v (v_load (k := 1) rfl rfl rfl ty71 (fun _ => rfl) rfl rfl) rfl rfl (bl rfl) ?_
      refine TrL.v (v_move rfl rfl) rfl rfl (bl rfl) ?_
      refine TrL.v (v_move rfl rfl) rfl rfl (bl rfl) ?_
      obtain ⟨h11, H⟩ := mst H
      refine TrL.addF' (slF rp_u64_u64_u64 (slA m99.1 0 r22.toNat 3) r22.toNat (r21.take r22.toNat)) (slx5_f (k := 1) rfl h11) ?_
      refine TrL.v (slx5_v (rp := rp_u64_u64_u64) (xs := r21) (k := 1) rfl sl71 ty85 rfl rfl rfl rfl h11 rfl) rfl rfl (bl rfl) ?_
      refine TrL.v (v_assign rfl rfl) rfl rfl (bl rfl) ?_
      refine TrL.nil (qthen_n ?_)
      refine Tr.seq ?_
      refine Tr.region ?_
      refine TrL.v (v_fieldAddr' rfl fo77_4 rfl rfl) rfl rfl (bl rfl) ?_
      refine TrL.v (v_load (k := 1) rfl rfl rfl ty71 (fun _ => rfl) rfl rfl) rfl rfl (bl rfl) ?_
      refine TrL.v (v_move rfl rfl) rfl rfl (bl rfl) ?_
      obtain ⟨h12, H⟩ := mst H
      refine TrL.addF' (slF rp_u64_u64_u64 (slA m99.1 r22.toNat m99.2 3) (m99.2 - r22.toNat) (r21.drop r22.toNat)) (slx1_f (k := 1) rfl h12) ?_
      refine TrL.v (slx1_v (rp := rp_u64_u64_u64) (xs := r21) (k := 1) rfl sl71 ty85 rfl rfl rfl h12 rfl) rfl rfl (bl rfl) ?_
      refine TrL.v (v_fieldAddr' rfl fo77_4 rfl rfl) rfl rfl (bl rfl) ?_
      refine TrL.cons rfl (op_store' (k := 1) (c' := [.int .u64 z6.1, .int .i64 z6.2.1, .int .u64 x2.1, .int .u64 x2.2.1, .slice (slA m99.1 r22.toNat m99.2 3) ((r21.drop r22.toNat).length) (m99.2 - r22.toNat)]) rfl rfl rfl rfl rfl ty71 rfl (Nat.le_of_ble_eq_true rfl) (ones (oc rfl on)) rfl ?_)
      refine TrL.nil (qthen_n ?_)
      refine Tr.seq ?_
      refine Tr.region ?_
      refine TrL.v (v_load (k := 1) rfl rfl rfl ty77 nofun rfl rfl) rfl rfl (bl rfl) ?_
      refine TrL.v (v_move rfl rfl) rfl rfl (bl rfl) ?_
      refine TrL.cons rfl (op_store' (k := 0) (c' := [.int .u64 z6.1, .int .i64 z6.2.1, .int .u64 x2.1, .int .u64 x2.2.1, .slice (slA m99.1 r22.toNat m99.2 3) ((r21.drop r22.toNat).length) (m99.2 - r22.toNat)]) rfl rfl rfl rfl rfl ty77 rfl (Nat.le_of_ble_eq_true rfl) (ones (oc rfl (oc rfl (oc rfl (oc rfl (oc rfl on)))))) rfl ?_)
      refine TrL.v (v_assign rfl rfl) rfl rfl (bl rfl) ?_
      refine TrL.nil (qthen_n ?_)
      have hz := Option.some.inj H
      subst hz
      refine Tr.ret (ret_r ⟨[(2, .pointer (some ⟨b7, 0, none⟩)), (3, .slice (slA m99.1 0 r22.toNat 3) ((r21.take r22.toNat).length) r22.toNat)], [cells b7 [.int .u64 z6.1, .int .i64 z6.2.1, .int .u64 x2.1, .int .u64 x2.2.1, .slice (slA m99.1 r22.toNat m99.2 3) ((r21.drop r22.toNat).length) (m99.2 - r22.toNat)] 77], [slF rp_u64_u64_u64 (slA m99.1 r22.toNat m99.2 3) (m99.2 - r22.toNat) (r21.drop r22.toNat), slF rp_u64_u64_u64 (slA m99.1 0 r22.toNat 3) r22.toNat (r21.take r22.toNat)], []⟩ [.agg #[.int .u64 z6.1, .int .i64 z6.2.1, .int .u64 x2.1, .int .u64 x2.2.1, .slice (slA m99.1 r22.toNat m99.2 3) ((r21.drop r22.toNat).length) (m99.2 - r22.toNat)], .slice (slA m99.1 0 r22.toNat 3) ((r21.take r22.toNat).length) r22.toNat] [] [cells b7 [.int .u64 z6.1, .int .i64 z6.2.1, .int .u64 x2.1, .int .u64 x2.2.1, .slice (slA m99.1 r22.toNat m99.2 3) ((r21.drop r22.toNat).length) (m99.2 - r22.toNat)] 77] (Imp.re _ [0] [3, 2] (sc rfl (sc rfl sn)) (by decide) rfl rfl rfl) rfl rfl ⟨((slA m99.1 r22.toNat m99.2 3, m99.2 - r22.toNat, slA m99.1 0 r22.toNat 3, r22.toNat)), rfl, rfl, rfl⟩ (.cons (resv_cell (k := 0) rfl rfl ty77 nofun rfl rfl) (.cons (resv_tmp rfl) .nil)))
end Go.Proofs.Ytbeknohemgjfbaa.W
