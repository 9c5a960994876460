/- The contracts of the walked functions: the printed walks. -/
import Derived.Test.YtbeknohemgjfbaaKc
import Derived.Test.YtbeknohemgjfbaaQc
import Derived.Test.YtbeknohemgjfbaaWslicesbc
namespace Go.Proofs.Ytbeknohemgjfbaa.W
open Go Go.Proofs Go.Proofs.Ytbeknohemgjfbaa.L Go.Proofs.Ytbeknohemgjfbaa.Pu
set_option linter.unusedVariables false
set_option maxHeartbeats 4000000

theorem c_buffer_Buf_below (p1 : Int × Int × Int × Int × List (Int × Int × Int)) (p2 : Int) (A1 : Option Addr) (c1 : Nat) (r : Int) (H : buffer_Buf_below p1 p2 = some r) :
    Ctr Try.prog 91 [.agg #[.int .u64 p1.1, .int .i64 p1.2.1, .int .u64 p1.2.2.1, .int .u64 p1.2.2.2.1, .slice A1 p1.2.2.2.2.length c1], .int .u64 p2] [] [slF rp_u64_u64_u64 A1 c1 p1.2.2.2.2] (fun ret M' F' => ret = .int .i64 r ∧ M' = [] ∧ F' = []) := by
  unfold buffer_Buf_below at H
  refine ctr_ofI (N := 16) Try.func91 rfl Try.ntmps91 rfl (Nat.le_of_ble_eq_true rfl) (fun γ0 w0 => ?_)
  refine Tr.seq ?_
  refine Tr.region ?_
  refine TrL.cons rfl (op_box' rfl (bl rfl) rfl rfl rfl (fun b3 => ?_))
  refine TrL.cons rfl (op_box' rfl (bl rfl) rfl rfl rfl (fun b4 => ?_))
  refine TrL.v (v_assign rfl rfl) rfl rfl (bl rfl) ?_
  refine TrL.nil (qthen_n ?_)
  refine Tr.seq ?_
  refine Tr.region ?_
  refine TrL.v (v_fieldAddr' rfl fo77_4 rfl rfl) rfl rfl (bl rfl) ?_
  refine TrL.v (v_load (k := 1) rfl rfl rfl ty71 (fun _ => rfl) rfl rfl) rfl rfl (bl rfl) ?_
  refine TrL.v (v_makeFunc (vs := [.pointer (some ⟨b4, 0, none⟩)]) rfl rfl) rfl rfl (bl rfl) ?_
  obtain ⟨r2, hr2, H⟩ := bnd H
  refine TrL.cons rfl (op_callg' (fs := []) (vs := [.slice A1 p1.2.2.2.2.length c1, .func (.func 147) #[] #[.pointer (some ⟨b4, 0, none⟩)]]) (cap := []) (Mr := [cells b3 [.int .u64 p1.1, .int .i64 p1.2.1, .int .u64 p1.2.2.1, .int .u64 p1.2.2.2.1, .slice A1 p1.2.2.2.2.length c1] 77]) [0] [1] [0] rfl rfl rfl en146 (c_slices_IndexFunc_Event p1.2.2.2.2 p2 A1 c1 b4 r2 hr2) (by decide) rfl rfl rfl (bl rfl) (fun ret M' F' hR2 => ?_))
  obtain ⟨rfl, rfl, rfl⟩ := hR2
  refine TrL.v (v_assign rfl rfl) rfl rfl (bl rfl) ?_
  refine TrL.nil (qthen_n ?_)
  refine Tr.seq ?_
  refine Tr.seq ?_
  refine Tr.region ?_
  refine TrL.v (v_move rfl rfl) rfl rfl (bl rfl) ?_
  refine TrL.v (v_arith rfl rfl rfl ar_lss) rfl rfl (bl rfl) ?_
  refine TrL.nil (qthen_n ?_)
  rcases ifc H with ⟨h2, H⟩ | ⟨h2, H⟩
  · refine Tr.cond_t rfl (bt_dec h2) ?_
    refine Tr.seq ?_
    refine Tr.region ?_
    refine TrL.v (v_fieldAddr' rfl fo77_4 rfl rfl) rfl rfl (bl rfl) ?_
    refine TrL.v (v_load (k := 1) rfl rfl rfl ty71 (fun _ => rfl) rfl rfl) rfl rfl (bl rfl) ?_
    refine TrL.v (v_len rfl sl71 rfl) rfl rfl (bl rfl) ?_
    refine TrL.v (v_assign rfl rfl) rfl rfl (bl rfl) ?_
    refine TrL.nil (qthen_n ?_)
    have hz := Option.some.inj H
    subst hz
    refine Tr.ret (qthen_r (ret_r ⟨[(4, .int .i64 ((p1.2.2.2.2.length : Int)))], [], [], []⟩ [.int .i64 ((p1.2.2.2.2.length : Int))] [] [] (Imp.re _ [] [] (sc rfl sn) (by decide) rfl rfl rfl) rfl rfl ⟨rfl, rfl, rfl⟩ (.cons (resv_tmp rfl) .nil)))
  · refine Tr.cond_f rfl (bf_dec h2) ?_
    refine Tr.skip (qthen_n ?_)
    refine Tr.seq ?_
    refine Tr.region ?_
    refine TrL.v (v_move rfl rfl) rfl rfl (bl rfl) ?_
    refine TrL.v (v_assign rfl rfl) rfl rfl (bl rfl) ?_
    refine TrL.nil (qthen_n ?_)
    have hz := Option.some.inj H
    subst hz
    refine Tr.ret (ret_r ⟨[(4, .int .i64 r2)], [], [], []⟩ [.int .i64 r2] [] [] (Imp.re _ [] [] (sc rfl sn) (by decide) rfl rfl rfl) rfl rfl ⟨rfl, rfl, rfl⟩ (.cons (resv_tmp rfl) .nil))

theorem c_buffer_latest (p1 : List Int) (A1 : Option Addr) (c1 : Nat) (r : Int) (H : buffer_latest p1 = some r) :
    Ctr Try.prog 86 [.slice A1 p1.length c1] [] [slF (rInt .u64) A1 c1 p1] (fun ret M' F' => ret = .int .u64 r ∧ M' = [] ∧ F' = []) := by
  unfold buffer_latest at H
  refine ctr_ofI (N := 5) Try.func86 rfl Try.ntmps86 rfl (Nat.le_of_ble_eq_true rfl) (fun γ0 w0 => ?_)
  refine Tr.seq ?_
  refine Tr.region ?_
  refine TrL.v (v_assign rfl rfl) rfl rfl (bl rfl) ?_
  refine TrL.nil (qthen_n ?_)
  refine Tr.seq ?_
  refine Tr.region ?_
  refine TrL.v (v_move rfl rfl) rfl rfl (bl rfl) ?_
  obtain ⟨r2, hr2, H⟩ := bnd H
  refine TrL.cons rfl (op_call0' (vs := [.slice A1 p1.length c1]) (cap := []) [0] rfl rfl (bl rfl) rfl rfl en142 (c_slices_Max_uint64 p1 A1 c1 r2 hr2) rfl (fun ret M' F' hR2 => ?_))
  obtain ⟨rfl, rfl, rfl⟩ := hR2
  refine TrL.v (v_assign rfl rfl) rfl rfl (bl rfl) ?_
  refine TrL.nil (qthen_n ?_)
  have hz := Option.some.inj H
  subst hz
  refine Tr.ret (ret_r ⟨[(2, .int .u64 r2)], [], [], []⟩ [.int .u64 r2] [] [] (Imp.re _ [] [] (sc rfl sn) (by decide) rfl rfl rfl) rfl rfl ⟨rfl, rfl, rfl⟩ (.cons (resv_tmp rfl) .nil))

theorem c_buffer_Buf_settle (p1 : Int × Int × Int × Int × List (Int × Int × Int)) (A1 : Option Addr) (c1 : Nat) (r : Int × (List (Int × Int × Int)) × List (Int × Int × Int)) (H : buffer_Buf_settle p1 = some r) :
    Ctr Try.prog 137 [.agg #[.int .u64 p1.1, .int .i64 p1.2.1, .int .u64 p1.2.2.1, .int .u64 p1.2.2.2.1, .slice A1 p1.2.2.2.2.length c1]] [] [slF rp_u64_u64_u64 A1 c1 p1.2.2.2.2] (fun ret M' F' => ∃ m : Option Addr × Nat × Option Addr × Nat, ret = .tuple #[.agg #[.int .u64 p1.1, .int .i64 p1.2.1, .int .u64 p1.2.2.1, .int .u64 r.1, .slice m.1 r.2.1.length m.2.1], .slice m.2.2.1 r.2.2.length m.2.2.2] ∧ M' = [] ∧ F' = [slF rp_u64_u64_u64 m.1 m.2.1 r.2.1, slF rp_u64_u64_u64 m.2.2.1 m.2.2.2 r.2.2]) := by
  unfold buffer_Buf_settle at H
  refine ctr_ofI (N := 57) Try.func137 rfl Try.ntmps137 rfl (Nat.le_of_ble_eq_true rfl) (fun γ0 w0 => ?_)
  refine Tr.seq ?_
  refine Tr.region ?_
  refine TrL.cons rfl (op_box' rfl (bl rfl) rfl rfl rfl (fun b3 => ?_))
  refine TrL.cons rfl (op_alloc' rfl (bl rfl) rfl ze77 (fun b4 => ?_))
  refine TrL.v (v_assign rfl rfl) rfl rfl (bl rfl) ?_
  refine TrL.nil (qthen_n ?_)
  refine Tr.seq ?_
  refine Tr.seq ?_
  refine Tr.region ?_
  refine TrL.v (v_fieldAddr' rfl fo77_2 rfl rfl) rfl rfl (bl rfl) ?_
  refine TrL.v (v_load (k := 1) rfl rfl rfl ty28 (fun _ => rfl) rfl rfl) rfl rfl (bl rfl) ?_
  refine TrL.v (v_fieldAddr' rfl fo77_0 rfl rfl) rfl rfl (bl rfl) ?_
  refine TrL.v (v_load (k := 1) rfl rfl rfl ty28 (fun _ => rfl) rfl rfl) rfl rfl (bl rfl) ?_
  refine TrL.v (v_arith rfl rfl rfl ar_gtr) rfl rfl (bl rfl) ?_
  refine TrL.nil (qthen_n ?_)
  obtain ⟨j2, hj2, H⟩ := bnd H
  refine Tr.cutE (D := Int) (M := Unit) .normal (fun _d => j2 = _d) (fun j2 m15 => ⟨[(1, .pointer (some ⟨b3, 0, none⟩)), (2, .pointer (some ⟨b4, 0, none⟩))], [cells b3 [.int .u64 p1.1, .int .i64 p1.2.1, .int .u64 p1.2.2.1, .int .u64 j2, .slice A1 p1.2.2.2.2.length c1] 77, cells b4 [.int .u64 0, .int .i64 0, .int .u64 0, .int .u64 0, .slice none 0 0] 77], [slF rp_u64_u64_u64 A1 c1 p1.2.2.2.2, slF rp_u64_u64_u64 none 0 (([] : List (Int × Int × Int)))], []⟩) ?_ (fun j2 m15 hd3 => ?_)
  · rcases ifc hj2 with ⟨h9, hj2⟩ | ⟨h9, hj2⟩
    · refine Tr.cond_t rfl (bt_dec h9) ?_
      refine Tr.region ?_
      refine TrL.v (v_fieldAddr' rfl fo77_3 rfl rfl) rfl rfl (bl rfl) ?_
      refine TrL.v (v_load (k := 1) rfl rfl rfl ty28 (fun _ => rfl) rfl rfl) rfl rfl (bl rfl) ?_
      refine TrL.v (v_fieldAddr' rfl fo77_2 rfl rfl) rfl rfl (bl rfl) ?_
      refine TrL.v (v_load (k := 1) rfl rfl rfl ty28 (fun _ => rfl) rfl rfl) rfl rfl (bl rfl) ?_
      refine TrL.v (v_fieldAddr' rfl fo77_0 rfl rfl) rfl rfl (bl rfl) ?_
      refine TrL.v (v_load (k := 1) rfl rfl rfl ty28 (fun _ => rfl) rfl rfl) rfl rfl (bl rfl) ?_
      refine TrL.v (v_arith rfl rfl rfl ar_sub_u64) rfl rfl (bl rfl) ?_
      refine TrL.cons rfl (op_buildSlice' (rp := (rInt .u64)) (xs := [p1.2.2.2.1, wu64 (p1.2.2.1 - p1.1)]) (vs := [.int .u64 p1.2.2.2.1, .int .u64 (wu64 (p1.2.2.1 - p1.1))]) (out := [.int .u64 p1.2.2.2.1, .int .u64 (wu64 (p1.2.2.1 - p1.1))]) rfl (bl rfl) rfl sl182 ty28 ze28 rfl rfl (by decide) (by decide) rfl (fun γ w hF => (rowc rfl (rowc rfl rown rfl) rfl)) (fun A5 => ?_))
      obtain ⟨r10, hr10, hj2⟩ := bnd hj2
      refine TrL.cons rfl (op_call0' (vs := [.slice A5 2 2]) (cap := []) [1] rfl rfl (bl rfl) rfl rfl en86 (c_buffer_latest ([p1.2.2.2.1, wu64 (p1.2.2.1 - p1.1)]) A5 2 r10 hr10) rfl (fun ret M' F' hR10 => ?_))
      obtain ⟨rfl, rfl, rfl⟩ := hR10
      refine TrL.v (v_fieldAddr' rfl fo77_3 rfl rfl) rfl rfl (bl rfl) ?_
      refine TrL.cons rfl (op_store' (k := 1) (c' := [.int .u64 p1.1, .int .i64 p1.2.1, .int .u64 p1.2.2.1, .int .u64 r10, .slice A1 p1.2.2.2.2.length c1]) rfl rfl rfl rfl rfl ty28 rfl (Nat.le_of_ble_eq_true rfl) (ones (oc rfl on)) rfl ?_)
      refine TrL.nil (qcut_hit r10 (()) (Option.some.inj hj2).symm (Imp.addF' _ (nilF rp_u64_u64_u64) (Imp.re _ [1, 0] [0, 2] (sc rfl (sc rfl sn)) (by decide) rfl rfl rfl)))
    · refine Tr.cond_f rfl (bf_dec h9) ?_
      refine Tr.skip (qcut_hit p1.2.2.2.1 (()) (Option.some.inj hj2).symm (Imp.addF' _ (nilF rp_u64_u64_u64) (Imp.re _ [1, 0] [0, 1] (sc rfl (sc rfl sn)) (by decide) rfl rfl rfl)))
  · subst hd3
    refine (qthen_n ?_)
    refine Tr.seq ?_
    refine Tr.region ?_
    refine TrL.v (v_load (k := 0) rfl rfl rfl ty77 nofun rfl rfl) rfl rfl (bl rfl) ?_
    refine TrL.v (v_fieldAddr' rfl fo77_3 rfl rfl) rfl rfl (bl rfl) ?_
    refine TrL.v (v_load (k := 0) rfl rfl rfl ty28 (fun _ => rfl) rfl rfl) rfl rfl (bl rfl) ?_
    obtain ⟨r11, hr11, H⟩ := bnd H
    refine TrL.cons rfl (op_call0' (vs := [.agg #[.int .u64 p1.1, .int .i64 p1.2.1, .int .u64 p1.2.2.1, .int .u64 j2, .slice A1 p1.2.2.2.2.length c1], .int .u64 j2]) (cap := []) [0] rfl rfl (bl rfl) rfl rfl en91 (c_buffer_Buf_below ((p1.1, p1.2.1, p1.2.2.1, j2, p1.2.2.2.2)) j2 A1 c1 r11 hr11) rfl (fun ret M' F' hR11 => ?_))
    obtain ⟨rfl, rfl, rfl⟩ := hR11
    refine TrL.v (v_assign rfl rfl) rfl rfl (bl rfl) ?_
    refine TrL.nil (qthen_n ?_)
    refine Tr.seq ?_
    obtain ⟨x2, hx3, H⟩ := bnd H
    refine Tr.cutE (D := Int × Int) (M := Unit) .normal (fun _d => x2 = _d) (fun x2 m23 => ⟨[(1, .pointer (some ⟨b3, 0, none⟩)), (2, .pointer (some ⟨b4, 0, none⟩)), (4, .int .i64 x2.1)], [cells b3 [.int .u64 p1.1, .int .i64 p1.2.1, .int .u64 p1.2.2.1, .int .u64 x2.2, .slice A1 p1.2.2.2.2.length c1] 77, cells b4 [.int .u64 0, .int .i64 0, .int .u64 0, .int .u64 0, .slice none 0 0] 77], [slF rp_u64_u64_u64 A1 c1 p1.2.2.2.2, slF rp_u64_u64_u64 none 0 (([] : List (Int × Int × Int)))], []⟩) ?_ (fun x2 m23 hd4 => ?_)
    · refine Tr.block (Tr.loopI (ι := Unit) (step := buffer_Buf_settle_s0 p1) (fun s5 m20 => ⟨[(1, .pointer (some ⟨b3, 0, none⟩)), (2, .pointer (some ⟨b4, 0, none⟩)), (4, .int .i64 s5.1)], [cells b3 [.int .u64 p1.1, .int .i64 p1.2.1, .int .u64 p1.2.2.1, .int .u64 s5.2, .slice A1 p1.2.2.2.2.length c1] 77, cells b4 [.int .u64 0, .int .i64 0, .int .u64 0, .int .u64 0, .slice none 0 0] 77], [slF rp_u64_u64_u64 A1 c1 p1.2.2.2.2, slF rp_u64_u64_u64 none 0 (([] : List (Int × Int × Int)))], []⟩) (()) hx3 (Imp.re _ [0, 1] [0, 1] (sc rfl (sc rfl (sc rfl sn))) (by decide) rfl rfl rfl) (fun s5 m20 y2 hy2 hx4 => ?_))
      unfold buffer_Buf_settle_s0 at hy2
      refine Tr.seq ?_
      refine Tr.seq ?_
      refine Tr.region ?_
      refine TrL.v (v_fieldAddr' rfl fo77_4 rfl rfl) rfl rfl (bl rfl) ?_
      refine TrL.v (v_load (k := 0) rfl rfl rfl ty71 (fun _ => rfl) rfl rfl) rfl rfl (bl rfl) ?_
      refine TrL.v (v_len rfl sl71 rfl) rfl rfl (bl rfl) ?_
      refine TrL.v (v_move rfl rfl) rfl rfl (bl rfl) ?_
      refine TrL.v (v_arith rfl rfl rfl ar_sub_i64) rfl rfl (bl rfl) ?_
      refine TrL.v (v_fieldAddr' rfl fo77_1 rfl rfl) rfl rfl (bl rfl) ?_
      refine TrL.v (v_load (k := 0) rfl rfl rfl ty3 (fun _ => rfl) rfl rfl) rfl rfl (bl rfl) ?_
      refine TrL.v (v_arith rfl rfl rfl ar_gtr) rfl rfl (bl rfl) ?_
      refine TrL.nil (qthen_n ?_)
      rcases ifc hy2 with ⟨h12, hy2⟩ | ⟨h12, hy2⟩
      · refine Tr.cond_t rfl (bt_dec h12) ?_
        refine Tr.skip (qthen_n ?_)
        refine Tr.block ?_
        refine Tr.seq ?_
        refine Tr.region ?_
        refine TrL.v (v_fieldAddr' rfl fo77_4 rfl rfl) rfl rfl (bl rfl) ?_
        refine TrL.v (v_load (k := 0) rfl rfl rfl ty71 (fun _ => rfl) rfl rfl) rfl rfl (bl rfl) ?_
        refine TrL.v (v_move rfl rfl) rfl rfl (bl rfl) ?_
        obtain ⟨z6, hz6, hy2⟩ := bnd hy2
        refine TrL.v (v_indexAddr (k := 0) rfl sl71 ty85 rfl rfl rfl rfl hz6) rfl rfl (bl rfl) ?_
        refine TrL.v (v_fieldAddr rfl fo85_0 rfl) rfl rfl (bl rfl) ?_
        refine TrL.v (v_loadg (A := A1) (i := s5.1) (j := 0) (k := 0) rfl ty28 (fun _ => rfl) rfl rfl hz6 rfl rfl) rfl rfl (bl rfl) ?_
        refine TrL.v (v_fieldAddr' rfl fo77_3 rfl rfl) rfl rfl (bl rfl) ?_
        refine TrL.cons rfl (op_store' (k := 0) (c' := [.int .u64 p1.1, .int .i64 p1.2.1, .int .u64 p1.2.2.1, .int .u64 z6.1, .slice A1 p1.2.2.2.2.length c1]) rfl rfl rfl rfl rfl ty28 rfl (Nat.le_of_ble_eq_true rfl) (ones (oc rfl on)) rfl ?_)
        refine TrL.nil (qthen_n ?_)
        refine Tr.region ?_
        refine TrL.v (v_load (k := 0) rfl rfl rfl ty77 nofun rfl rfl) rfl rfl (bl rfl) ?_
        refine TrL.v (v_fieldAddr' rfl fo77_3 rfl rfl) rfl rfl (bl rfl) ?_
        refine TrL.v (v_load (k := 0) rfl rfl rfl ty28 (fun _ => rfl) rfl rfl) rfl rfl (bl rfl) ?_
        obtain ⟨r14, hr14, hy2⟩ := bnd hy2
        refine TrL.cons rfl (op_call0' (vs := [.agg #[.int .u64 p1.1, .int .i64 p1.2.1, .int .u64 p1.2.2.1, .int .u64 z6.1, .slice A1 p1.2.2.2.2.length c1], .int .u64 z6.1]) (cap := []) [0] rfl rfl (bl rfl) rfl rfl en91 (c_buffer_Buf_below ((p1.1, p1.2.1, p1.2.2.1, z6.1, p1.2.2.2.2)) z6.1 A1 c1 r14 hr14) rfl (fun ret M' F' hR14 => ?_))
        obtain ⟨rfl, rfl, rfl⟩ := hR14
        refine TrL.v (v_assign rfl rfl) rfl rfl (bl rfl) ?_
        have hz := Option.some.inj hy2
        subst hz
        refine TrL.nil (qblock_n (qloop_n (()) (Imp.re _ [0, 1] [0, 1] (sc rfl (sc rfl (sc rfl sn))) (by decide) rfl rfl rfl)))
      · refine Tr.cond_f rfl (bf_dec h12) ?_
        have hz := Option.some.inj hy2
        subst hz
        refine Tr.exit (qthen_x (qloop_x (qblock_hit (qcut_hit ((s5.1, s5.2)) (()) (hx4 _ rfl).symm (Imp.re _ [0, 1] [0, 1] (sc rfl (sc rfl (sc rfl sn))) (by decide) rfl rfl rfl)))))
    · subst hd4
      refine (qthen_n ?_)
      refine Tr.seq ?_
      refine Tr.region ?_
      refine TrL.v (v_fieldAddr' rfl fo77_4 rfl rfl) rfl rfl (bl rfl) ?_
      refine TrL.v (v_load (k := 0) rfl rfl rfl ty71 (fun _ => rfl) rfl rfl) rfl rfl (bl rfl) ?_
      refine TrL.v (v_move rfl rfl) rfl rfl (bl rfl) ?_
      refine TrL.v (v_move rfl rfl) rfl rfl (bl rfl) ?_
      obtain ⟨h13, H⟩ := mst H
      refine TrL.addF' (slF rp_u64_u64_u64 (slA A1 0 x2.1.toNat 3) x2.1.toNat (p1.2.2.2.2.take x2.1.toNat)) (slx5_f (k := 0) rfl h13) ?_
      refine TrL.v (slx5_v (rp := rp_u64_u64_u64) (xs := p1.2.2.2.2) (k := 0) rfl sl71 ty85 rfl rfl rfl rfl h13 rfl) rfl rfl (bl rfl) ?_
      refine TrL.v (v_assign rfl rfl) rfl rfl (bl rfl) ?_
      refine TrL.nil (qthen_n ?_)
      refine Tr.seq ?_
      refine Tr.region ?_
      refine TrL.v (v_fieldAddr' rfl fo77_4 rfl rfl) rfl rfl (bl rfl) ?_
      refine TrL.v (v_load (k := 0) rfl rfl rfl ty71 (fun _ => rfl) rfl rfl) rfl rfl (bl rfl) ?_
      refine TrL.v (v_move rfl rfl) rfl rfl (bl rfl) ?_
      obtain ⟨h14, H⟩ := mst H
      refine TrL.addF' (slF rp_u64_u64_u64 (slA A1 x2.1.toNat c1 3) (c1 - x2.1.toNat) (p1.2.2.2.2.drop x2.1.toNat)) (slx1_f (k := 0) rfl h14) ?_
      refine TrL.v (slx1_v (rp := rp_u64_u64_u64) (xs := p1.2.2.2.2) (k := 0) rfl sl71 ty85 rfl rfl rfl h14 rfl) rfl rfl (bl rfl) ?_
      refine TrL.v (v_fieldAddr' rfl fo77_4 rfl rfl) rfl rfl (bl rfl) ?_
      refine TrL.cons rfl (op_store' (k := 0) (c' := [.int .u64 p1.1, .int .i64 p1.2.1, .int .u64 p1.2.2.1, .int .u64 x2.2, .slice (slA A1 x2.1.toNat c1 3) ((p1.2.2.2.2.drop x2.1.toNat).length) (c1 - x2.1.toNat)]) rfl rfl rfl rfl rfl ty71 rfl (Nat.le_of_ble_eq_true rfl) (ones (oc rfl on)) rfl ?_)
      refine TrL.nil (qthen_n ?_)
      refine Tr.seq ?_
      refine Tr.regionD drawn (fun hok => ?_)
      refine TrAny.prom (i := 0) (d := 54) hok (OpVal.plain rfl rfl (v_load (k := 0) rfl rfl rfl ty77 nofun rfl rfl)) (by kernel_rfl) rfl (bl rfl) ?_
      clear hok
      intro hok
      refine TrAny.prom (i := 1) (d := 55) hok (OpVal.plain rfl rfl (v_move rfl rfl)) (by kernel_rfl) rfl (bl rfl) ?_
      clear hok
      intro hok
      obtain ⟨r16, hr16, H⟩ := bnd H
      refine TrAny.next (j := 2) (by kernel_rfl) hok rfl (by kernel_rfl) (op_call0' (vs := [.slice (slA A1 0 x2.1.toNat 3) ((p1.2.2.2.2.take x2.1.toNat).length) x2.1.toNat]) (cap := []) [2] rfl rfl (bl rfl) rfl rfl en169 (c_slices_Clone_Event (p1.2.2.2.2.take x2.1.toNat) (slA A1 0 x2.1.toNat 3) x2.1.toNat r16 hr16) rfl (fun ret M' F' hR16 => ?_))
      obtain ⟨m26, rfl, rfl, rfl⟩ := hR16
      refine nxp hok (kp_imp (kp_c0 rfl)) rfl (by kernel_rfl) ?_
      clear hok
      intro hok
      refine TrAny.prom (i := 4) (d := 3) hok (OpVal.plain rfl rfl (v_assign rfl rfl)) (by kernel_rfl) rfl (bl rfl) ?_
      clear hok
      intro hok
      refine TrAny.next (j := 3) (by kernel_rfl) hok rfl (by kernel_rfl) (op_store' (k := 1) (c' := [.int .u64 p1.1, .int .i64 p1.2.1, .int .u64 p1.2.2.1, .int .u64 x2.2, .slice (slA A1 x2.1.toNat c1 3) ((p1.2.2.2.2.drop x2.1.toNat).length) (c1 - x2.1.toNat)]) rfl rfl rfl rfl rfl ty77 rfl (Nat.le_of_ble_eq_true rfl) (ones (oc rfl (oc rfl (oc rfl (oc rfl (oc rfl on)))))) rfl ?_)
      refine nxs hok (kp_all (ac (.inl (by kernel_rfl)) (ac (.inr (OpVal.plain rfl rfl (v_move rfl rfl))) (ac (.inr (OpVal.plain rfl rfl (v_assign rfl rfl))) an)))) rfl ?_
      clear hok
      intro hok
      refine TrAny.done (by kernel_rfl) (by kernel_rfl) hok (by kernel_rfl) (qthen_n ?_)
      have hz := Option.some.inj H
      subst hz
      refine Tr.ret (ret_r ⟨[(2, .pointer (some ⟨b4, 0, none⟩)), (3, .slice m26.1 r16.length m26.2)], [cells b4 [.int .u64 p1.1, .int .i64 p1.2.1, .int .u64 p1.2.2.1, .int .u64 x2.2, .slice (slA A1 x2.1.toNat c1 3) ((p1.2.2.2.2.drop x2.1.toNat).length) (c1 - x2.1.toNat)] 77], [slF rp_u64_u64_u64 (slA A1 x2.1.toNat c1 3) (c1 - x2.1.toNat) (p1.2.2.2.2.drop x2.1.toNat), slF rp_u64_u64_u64 m26.1 m26.2 r16], []⟩ [.agg #[.int .u64 p1.1, .int .i64 p1.2.1, .int .u64 p1.2.2.1, .int .u64 x2.2, .slice (slA A1 x2.1.toNat c1 3) ((p1.2.2.2.2.drop x2.1.toNat).length) (c1 - x2.1.toNat)], .slice m26.1 r16.length m26.2] [] [cells b4 [.int .u64 p1.1, .int .i64 p1.2.1, .int .u64 p1.2.2.1, .int .u64 x2.2, .slice (slA A1 x2.1.toNat c1 3) ((p1.2.2.2.2.drop x2.1.toNat).length) (c1 - x2.1.toNat)] 77] (Imp.re _ [1] [3, 4] (sc rfl (sc rfl sn)) (by decide) rfl rfl rfl) rfl rfl ⟨((slA A1 x2.1.toNat c1 3, c1 - x2.1.toNat, m26.1, m26.2)), rfl, rfl, rfl⟩ (.cons (resv_cell (k := 0) rfl rfl ty77 nofun rfl rfl) (.cons (resv_tmp rfl) .nil)))

theorem c_buffer_Push (p1 : Int × Int × Int × Int × List (Int × Int × Int)) (p2 : Int × Int × Int) (A1 : Option Addr) (c1 : Nat) (r : Int × Int × Int × Int × (List (Int × Int × Int)) × (List (Int × Int × Int)) × Int) (H : buffer_Push p1 p2 = some r) :
    Ctr Try.prog 83 [.agg #[.int .u64 p1.1, .int .i64 p1.2.1, .int .u64 p1.2.2.1, .int .u64 p1.2.2.2.1, .slice A1 p1.2.2.2.2.length c1], .agg #[.int .u64 p2.1, .int .u64 p2.2.1, .int .u64 p2.2.2]] [] [slF rp_u64_u64_u64 A1 c1 p1.2.2.2.2] (fun ret M' F' => ∃ m : Option Addr × Nat × Option Addr × Nat, ret = .tuple #[.agg #[.int .u64 r.1, .int .i64 r.2.1, .int .u64 r.2.2.1, .int .u64 r.2.2.2.1, .slice m.1 r.2.2.2.2.1.length m.2.1], .slice m.2.2.1 r.2.2.2.2.2.1.length m.2.2.2, .int .i64 r.2.2.2.2.2.2] ∧ M' = [] ∧ F' = [slF rp_u64_u64_u64 m.1 m.2.1 r.2.2.2.2.1, slF rp_u64_u64_u64 m.2.2.1 m.2.2.2 r.2.2.2.2.2.1]) := by
  unfold buffer_Push at H
  refine ctr_ofI (N := 59) Try.func83 rfl Try.ntmps83 rfl (Nat.le_of_ble_eq_true rfl) (fun γ0 w0 => ?_)
  refine Tr.seq ?_
  refine Tr.region ?_
  refine TrL.cons rfl (op_box' rfl (bl rfl) rfl rfl rfl (fun b5 => ?_))
  refine TrL.cons rfl (op_box' rfl (bl rfl) rfl rfl rfl (fun b6 => ?_))
  refine TrL.cons rfl (op_alloc' rfl (bl rfl) rfl ze77 (fun b7 => ?_))
  refine TrL.v (v_assign rfl rfl) rfl rfl (bl rfl) ?_
  refine TrL.v (v_assign rfl rfl) rfl rfl (bl rfl) ?_
  refine TrL.nil (qthen_n ?_)
  refine Tr.seq ?_
  refine Tr.block ?_
  refine Tr.seq ?_
  refine Tr.region ?_
  refine TrL.v (v_fieldAddr' rfl fo85_2 rfl rfl) rfl rfl (bl rfl) ?_
  refine TrL.v (v_load (k := 1) rfl rfl rfl ty28 (fun _ => rfl) rfl rfl) rfl rfl (bl rfl) ?_
  refine TrL.v (v_arith rfl rfl rfl ar_eql) rfl rfl (bl rfl) ?_
  refine TrL.v (v_assign rfl rfl) rfl rfl (bl rfl) ?_
  refine TrL.nil (qthen_n ?_)
  rcases ifc H with ⟨h8, H⟩ | ⟨h8, H⟩
  · refine Tr.cond_t rfl (bt_dec h8) ?_
    refine Tr.seq ?_
    refine Tr.region ?_
    refine TrL.v (v_build (vs := []) (out := [.int .u64 0, .int .i64 0, .int .u64 0, .int .u64 0, .slice none 0 0]) rfl pl77 ze77 rfl rfl) rfl rfl (bl rfl) ?_
    refine TrL.cons rfl (op_store' (k := 0) (c' := [.int .u64 0, .int .i64 0, .int .u64 0, .int .u64 0, .slice none 0 0]) rfl rfl rfl rfl rfl ty77 rfl (Nat.le_of_ble_eq_true rfl) (ones (oc rfl (oc rfl (oc rfl (oc rfl (oc rfl on)))))) rfl ?_)
    refine TrL.v (v_assign rfl rfl) rfl rfl (bl rfl) ?_
    refine TrL.v (v_assign rfl rfl) rfl rfl (bl rfl) ?_
    refine TrL.nil (qthen_n ?_)
    have hz := Option.some.inj H
    subst hz
    refine Tr.ret (qblock_r (qthen_r (ret_r ⟨[(4, .pointer (some ⟨b7, 0, none⟩)), (5, .slice none 0 0), (6, .int .i64 1)], [cells b7 [.int .u64 0, .int .i64 0, .int .u64 0, .int .u64 0, .slice none 0 0] 77], [slF rp_u64_u64_u64 none 0 (([] : List (Int × Int × Int))), slF rp_u64_u64_u64 none 0 (([] : List (Int × Int × Int)))], []⟩ [.agg #[.int .u64 0, .int .i64 0, .int .u64 0, .int .u64 0, .slice none 0 0], .slice none 0 0, .int .i64 1] [] [cells b7 [.int .u64 0, .int .i64 0, .int .u64 0, .int .u64 0, .slice none 0 0] 77] (Imp.addF' _ (nilF rp_u64_u64_u64) (Imp.re _ [0] [1, 1] (sc rfl (sc rfl (sc rfl sn))) (by decide) rfl rfl rfl)) rfl rfl ⟨((none, 0, none, 0)), rfl, rfl, rfl⟩ (.cons (resv_cell (k := 0) rfl rfl ty77 nofun rfl rfl) (.cons (resv_tmp rfl) (.cons (resv_tmp rfl) .nil))))))
  · refine Tr.cond_f rfl (bf_dec h8) ?_
    refine Tr.seq ?_
    refine Tr.region ?_
    refine TrL.v (v_fieldAddr' rfl fo85_0 rfl rfl) rfl rfl (bl rfl) ?_
    refine TrL.v (v_load (k := 1) rfl rfl rfl ty28 (fun _ => rfl) rfl rfl) rfl rfl (bl rfl) ?_
    refine TrL.v (v_arith rfl rfl rfl ar_gtr) rfl rfl (bl rfl) ?_
    refine TrL.v (v_assign rfl rfl) rfl rfl (bl rfl) ?_
    refine TrL.nil (qthen_n ?_)
    rcases ifc H with ⟨h9, H⟩ | ⟨h9, H⟩
    · refine Tr.cond_t rfl (bt_dec h9) ?_
      refine Tr.seq ?_
      refine Tr.region ?_
      refine TrL.v (v_build (vs := []) (out := [.int .u64 0, .int .i64 0, .int .u64 0, .int .u64 0, .slice none 0 0]) rfl pl77 ze77 rfl rfl) rfl rfl (bl rfl) ?_
      refine TrL.cons rfl (op_store' (k := 0) (c' := [.int .u64 0, .int .i64 0, .int .u64 0, .int .u64 0, .slice none 0 0]) rfl rfl rfl rfl rfl ty77 rfl (Nat.le_of_ble_eq_true rfl) (ones (oc rfl (oc rfl (oc rfl (oc rfl (oc rfl on)))))) rfl ?_)
      refine TrL.v (v_assign rfl rfl) rfl rfl (bl rfl) ?_
      refine TrL.v (v_assign rfl rfl) rfl rfl (bl rfl) ?_
      refine TrL.nil (qthen_n ?_)
      have hz := Option.some.inj H
      subst hz
      refine Tr.ret (qblock_r (qthen_r (ret_r ⟨[(4, .pointer (some ⟨b7, 0, none⟩)), (5, .slice none 0 0), (6, .int .i64 6)], [cells b7 [.int .u64 0, .int .i64 0, .int .u64 0, .int .u64 0, .slice none 0 0] 77], [slF rp_u64_u64_u64 none 0 (([] : List (Int × Int × Int))), slF rp_u64_u64_u64 none 0 (([] : List (Int × Int × Int)))], []⟩ [.agg #[.int .u64 0, .int .i64 0, .int .u64 0, .int .u64 0, .slice none 0 0], .slice none 0 0, .int .i64 6] [] [cells b7 [.int .u64 0, .int .i64 0, .int .u64 0, .int .u64 0, .slice none 0 0] 77] (Imp.addF' _ (nilF rp_u64_u64_u64) (Imp.re _ [0] [1, 1] (sc rfl (sc rfl (sc rfl sn))) (by decide) rfl rfl rfl)) rfl rfl ⟨((none, 0, none, 0)), rfl, rfl, rfl⟩ (.cons (resv_cell (k := 0) rfl rfl ty77 nofun rfl rfl) (.cons (resv_tmp rfl) (.cons (resv_tmp rfl) .nil))))))
    · refine Tr.cond_f rfl (bf_dec h9) ?_
      refine Tr.seq ?_
      refine Tr.region ?_
      refine TrL.v (v_fieldAddr' rfl fo85_0 rfl rfl) rfl rfl (bl rfl) ?_
      refine TrL.v (v_load (k := 1) rfl rfl rfl ty28 (fun _ => rfl) rfl rfl) rfl rfl (bl rfl) ?_
      refine TrL.v (v_fieldAddr' rfl fo77_3 rfl rfl) rfl rfl (bl rfl) ?_
      refine TrL.v (v_load (k := 2) rfl rfl rfl ty28 (fun _ => rfl) rfl rfl) rfl rfl (bl rfl) ?_
      refine TrL.v (v_arith rfl rfl rfl ar_lss) rfl rfl (bl rfl) ?_
      refine TrL.v (v_assign rfl rfl) rfl rfl (bl rfl) ?_
      refine TrL.nil (qthen_n ?_)
      rcases ifc H with ⟨h10, H⟩ | ⟨h10, H⟩
      · refine Tr.cond_t rfl (bt_dec h10) ?_
        refine Tr.seq ?_
        refine Tr.region ?_
        refine TrL.v (v_build (vs := []) (out := [.int .u64 0, .int .i64 0, .int .u64 0, .int .u64 0, .slice none 0 0]) rfl pl77 ze77 rfl rfl) rfl rfl (bl rfl) ?_
        refine TrL.cons rfl (op_store' (k := 0) (c' := [.int .u64 0, .int .i64 0, .int .u64 0, .int .u64 0, .slice none 0 0]) rfl rfl rfl rfl rfl ty77 rfl (Nat.le_of_ble_eq_true rfl) (ones (oc rfl (oc rfl (oc rfl (oc rfl (oc rfl on)))))) rfl ?_)
        refine TrL.v (v_assign rfl rfl) rfl rfl (bl rfl) ?_
        refine TrL.v (v_assign rfl rfl) rfl rfl (bl rfl) ?_
        refine TrL.nil (qthen_n ?_)
        have hz := Option.some.inj H
        subst hz
        refine Tr.ret (qblock_r (qthen_r (ret_r ⟨[(4, .pointer (some ⟨b7, 0, none⟩)), (5, .slice none 0 0), (6, .int .i64 4)], [cells b7 [.int .u64 0, .int .i64 0, .int .u64 0, .int .u64 0, .slice none 0 0] 77], [slF rp_u64_u64_u64 none 0 (([] : List (Int × Int × Int))), slF rp_u64_u64_u64 none 0 (([] : List (Int × Int × Int)))], []⟩ [.agg #[.int .u64 0, .int .i64 0, .int .u64 0, .int .u64 0, .slice none 0 0], .slice none 0 0, .int .i64 4] [] [cells b7 [.int .u64 0, .int .i64 0, .int .u64 0, .int .u64 0, .slice none 0 0] 77] (Imp.addF' _ (nilF rp_u64_u64_u64) (Imp.re _ [0] [1, 1] (sc rfl (sc rfl (sc rfl sn))) (by decide) rfl rfl rfl)) rfl rfl ⟨((none, 0, none, 0)), rfl, rfl, rfl⟩ (.cons (resv_cell (k := 0) rfl rfl ty77 nofun rfl rfl) (.cons (resv_tmp rfl) (.cons (resv_tmp rfl) .nil))))))
      · refine Tr.cond_f rfl (bf_dec h10) ?_
        refine Tr.skip (qblock_n (qthen_n ?_))
        refine Tr.seq ?_
        refine Tr.region ?_
        refine TrL.v (v_load (k := 2) rfl rfl rfl ty77 nofun rfl rfl) rfl rfl (bl rfl) ?_
        refine TrL.v (v_fieldAddr' rfl fo85_0 rfl rfl) rfl rfl (bl rfl) ?_
        refine TrL.v (v_load (k := 1) rfl rfl rfl ty28 (fun _ => rfl) rfl rfl) rfl rfl (bl rfl) ?_
        obtain ⟨r6, hr6, H⟩ := bnd H
        refine TrL.cons rfl (op_call0' (vs := [.agg #[.int .u64 p1.1, .int .i64 p1.2.1, .int .u64 p1.2.2.1, .int .u64 p1.2.2.2.1, .slice A1 p1.2.2.2.2.length c1], .int .u64 p2.1]) (cap := []) [0] rfl rfl (bl rfl) rfl rfl en91 (c_buffer_Buf_below p1 p2.1 A1 c1 r6 hr6) rfl (fun ret M' F' hR6 => ?_))
        obtain ⟨rfl, rfl, rfl⟩ := hR6
        refine TrL.v (v_assign rfl rfl) rfl rfl (bl rfl) ?_
        refine TrL.nil (qthen_n ?_)
        refine Tr.seq ?_
        refine Tr.region ?_
        refine TrL.v (v_fieldAddr' rfl fo77_2 rfl rfl) rfl rfl (bl rfl) ?_
        refine TrL.v (v_load (k := 2) rfl rfl rfl ty28 (fun _ => rfl) rfl rfl) rfl rfl (bl rfl) ?_
        refine TrL.v (v_fieldAddr' rfl fo85_0 rfl rfl) rfl rfl (bl rfl) ?_
        refine TrL.v (v_load (k := 1) rfl rfl rfl ty28 (fun _ => rfl) rfl rfl) rfl rfl (bl rfl) ?_
        refine TrL.cons rfl (op_buildSlice' (rp := (rInt .u64)) (xs := [p1.2.2.1, p2.1]) (vs := [.int .u64 p1.2.2.1, .int .u64 p2.1]) (out := [.int .u64 p1.2.2.1, .int .u64 p2.1]) rfl (bl rfl) rfl sl182 ty28 ze28 rfl rfl (by decide) (by decide) rfl (fun γ w hF => (rowc rfl (rowc rfl rown rfl) rfl)) (fun A7 => ?_))
        obtain ⟨r7, hr7, H⟩ := bnd H
        refine TrL.cons rfl (op_call0' (vs := [.slice A7 2 2]) (cap := []) [1] rfl rfl (bl rfl) rfl rfl en86 (c_buffer_latest ([p1.2.2.1, p2.1]) A7 2 r7 hr7) rfl (fun ret M' F' hR7 => ?_))
        obtain ⟨rfl, rfl, rfl⟩ := hR7
        refine TrL.v (v_fieldAddr' rfl fo77_2 rfl rfl) rfl rfl (bl rfl) ?_
        refine TrL.cons rfl (op_store' (k := 2) (c' := [.int .u64 p1.1, .int .i64 p1.2.1, .int .u64 r7, .int .u64 p1.2.2.2.1, .slice A1 p1.2.2.2.2.length c1]) rfl rfl rfl rfl rfl ty28 rfl (Nat.le_of_ble_eq_true rfl) (ones (oc rfl on)) rfl ?_)
        refine TrL.nil (qthen_n ?_)
        refine Tr.seq ?_
        refine Tr.regionD drawn (fun hok => ?_)
        refine TrAny.prom (i := 0) (d := 38) hok (OpVal.plain rfl rfl (v_fieldAddr' rfl fo77_4 rfl rfl)) (by kernel_rfl) rfl (bl rfl) ?_
        clear hok
        intro hok
        refine TrAny.prom (i := 1) (d := 39) hok (OpVal.plain rfl rfl (v_load (k := 2) rfl rfl rfl ty71 (fun _ => rfl) rfl rfl)) (by kernel_rfl) rfl (bl rfl) ?_
        clear hok
        intro hok
        refine TrAny.prom (i := 2) (d := 40) hok (OpVal.plain rfl rfl (v_move rfl rfl)) (by kernel_rfl) rfl (bl rfl) ?_
        clear hok
        intro hok
        refine TrAny.prom (i := 3) (d := 41) hok (OpVal.plain rfl rfl (v_move rfl rfl)) (by kernel_rfl) rfl (bl rfl) ?_
        clear hok
        intro hok
        obtain ⟨h13, H⟩ := mst H
        refine TrAny.addF' (slF rp_u64_u64_u64 (slA A1 0 r6.toNat 3) r6.toNat (p1.2.2.2.2.take r6.toNat)) (slx5_f (k := 0) rfl h13) hok (fun hok => ?_)
        refine TrAny.prom (i := 4) (d := 42) hok (OpVal.plain rfl rfl (slx5_v (rp := rp_u64_u64_u64) (xs := p1.2.2.2.2) (k := 0) rfl sl71 ty85 rfl rfl rfl rfl h13 rfl)) (by kernel_rfl) rfl (bl rfl) ?_
        clear hok
        intro hok
        refine TrAny.prom (i := 5) (d := 43) hok (OpVal.plain rfl rfl (v_load (k := 1) rfl rfl rfl ty85 nofun rfl rfl)) (by kernel_rfl) rfl (bl rfl) ?_
        clear hok
        intro hok
        refine TrAny.prom (i := 7) (d := 45) hok (OpVal.plain rfl rfl (v_fieldAddr' rfl fo77_4 rfl rfl)) (by kernel_rfl) rfl (bl rfl) ?_
        clear hok
        intro hok
        refine TrAny.prom (i := 8) (d := 46) hok (OpVal.plain rfl rfl (v_load (k := 2) rfl rfl rfl ty71 (fun _ => rfl) rfl rfl)) (by kernel_rfl) rfl (bl rfl) ?_
        clear hok
        intro hok
        refine TrAny.prom (i := 9) (d := 47) hok (OpVal.plain rfl rfl (v_move rfl rfl)) (by kernel_rfl) rfl (bl rfl) ?_
        clear hok
        intro hok
        obtain ⟨h14, H⟩ := mst H
        refine TrAny.addF' (slF rp_u64_u64_u64 (slA A1 r6.toNat c1 3) (c1 - r6.toNat) (p1.2.2.2.2.drop r6.toNat)) (slx1_f (k := 0) rfl h14) hok (fun hok => ?_)
        refine TrAny.prom (i := 10) (d := 48) hok (OpVal.plain rfl rfl (slx1_v (rp := rp_u64_u64_u64) (xs := p1.2.2.2.2) (k := 0) rfl sl71 ty85 rfl rfl rfl h14 rfl)) (by kernel_rfl) rfl (bl rfl) ?_
        clear hok
        intro hok
        refine TrAny.prom (i := 13) (d := 51) hok (OpVal.plain rfl rfl (v_fieldAddr' rfl fo77_4 rfl rfl)) (by kernel_rfl) rfl (bl rfl) ?_
        clear hok
        intro hok
        refine TrAny.next (j := 6) (by kernel_rfl) hok rfl (by kernel_rfl) (op_buildSlice' (rp := rp_u64_u64_u64) (xs := [p2]) (vs := [.agg #[.int .u64 p2.1, .int .u64 p2.2.1, .int .u64 p2.2.2]]) (out := [.int .u64 p2.1, .int .u64 p2.2.1, .int .u64 p2.2.2]) rfl (bl rfl) rfl sl71 ty85 ze85 rfl rfl (by decide) (by decide) rfl (fun γ w hF => (rowc rfl rown rfl)) (fun A10 => ?_))
        refine nxp hok (kp_imp (kp_cf rfl)) rfl (by kernel_rfl) ?_
        clear hok
        intro hok
        refine TrAny.next (j := 11) (by kernel_rfl) hok rfl (by kernel_rfl) (op_buildSlice' (rp := (rSl rp_u64_u64_u64)) (xs := [p1.2.2.2.2.take r6.toNat, [p2], p1.2.2.2.2.drop r6.toNat]) (vs := [.slice (slA A1 0 r6.toNat 3) ((p1.2.2.2.2.take r6.toNat).length) r6.toNat, .slice A10 1 1, .slice (slA A1 r6.toNat c1 3) ((p1.2.2.2.2.drop r6.toNat).length) (c1 - r6.toNat)]) (out := [.slice (slA A1 0 r6.toNat 3) ((p1.2.2.2.2.take r6.toNat).length) r6.toNat, .slice A10 1 1, .slice (slA A1 r6.toNat c1 3) ((p1.2.2.2.2.drop r6.toNat).length) (c1 - r6.toNat)]) rfl (bl rfl) rfl sl216 ty71 ze71 rfl rfl (by decide) (by decide) rfl (fun γ w hF => (rowc ⟨_, _, rfl, hF _ (List.mem_of_getElem? (i := 2) rfl)⟩ (rowc ⟨_, _, rfl, hF _ (List.mem_of_getElem? (i := 4) rfl)⟩ (rowc ⟨_, _, rfl, hF _ (List.mem_of_getElem? (i := 3) rfl)⟩ rown rfl) rfl) rfl)) (fun A11 => ?_))
        refine nxp hok (kp_imp (kp_cf rfl)) rfl (by kernel_rfl) ?_
        clear hok
        intro hok
        obtain ⟨r9, hr9, H⟩ := bnd H
        refine TrAny.next (j := 12) (by kernel_rfl) hok rfl (by kernel_rfl) (op_call0' (vs := [.slice A11 3 3]) (cap := []) [5] rfl rfl (bl rfl) rfl rfl en87 (c_slices_Concat_Event ([p1.2.2.2.2.take r6.toNat, [p2], p1.2.2.2.2.drop r6.toNat]) A11 3 r9 hr9) rfl (fun ret M' F' hR9 => ?_))
        obtain ⟨m9, rfl, rfl, rfl⟩ := hR9
        refine nxp hok (kp_imp (kp_c0 rfl)) rfl (by kernel_rfl) ?_
        clear hok
        intro hok
        refine TrAny.next (j := 14) (by kernel_rfl) hok rfl (by kernel_rfl) (op_store' (k := 3) (c' := [.int .u64 p1.1, .int .i64 p1.2.1, .int .u64 r7, .int .u64 p1.2.2.2.1, .slice m9.1 r9.length m9.2]) rfl rfl rfl rfl rfl ty71 rfl (Nat.le_of_ble_eq_true rfl) (ones (oc rfl on)) rfl ?_)
        refine nxs hok (kp_aw (by kernel_rfl)) rfl ?_
        clear hok
        intro hok
        refine TrAny.done (by kernel_rfl) (by kernel_rfl) hok (by kernel_rfl) (qthen_n ?_)
        refine Tr.seq ?_
        refine Tr.region ?_
        refine TrL.v (v_load (k := 3) rfl rfl rfl ty77 nofun rfl rfl) rfl rfl (bl rfl) ?_
        refine TrL.shut' 0 rfl ?_
        obtain ⟨r10, hr10, H⟩ := bnd H
        refine TrL.cons rfl (op_call0' (vs := [.agg #[.int .u64 p1.1, .int .i64 p1.2.1, .int .u64 r7, .int .u64 p1.2.2.2.1, .slice m9.1 r9.length m9.2]]) (cap := []) [6] rfl rfl (bl rfl) rfl rfl en137 (c_buffer_Buf_settle ((p1.1, p1.2.1, r7, p1.2.2.2.1, r9)) m9.1 m9.2 r10 hr10) rfl (fun ret M' F' hR10 => ?_))
        obtain ⟨m10, rfl, rfl, rfl⟩ := hR10
        refine TrL.v (v_move rfl rfl) rfl rfl (bl rfl) ?_
        refine TrL.v (v_extract rfl rfl rfl) rfl rfl (bl rfl) ?_
        refine TrL.v (v_extract rfl rfl rfl) rfl rfl (bl rfl) ?_
        refine TrL.cons rfl (op_alloc' rfl (bl rfl) rfl ze77 (fun b8 => ?_))
        refine TrL.cons rfl (op_store' (k := 0) (c' := [.int .u64 (((p1.1, p1.2.1, r7, p1.2.2.2.1, r9)).1), .int .i64 (((p1.1, p1.2.1, r7, p1.2.2.2.1, r9)).2.1), .int .u64 (((p1.1, p1.2.1, r7, p1.2.2.2.1, r9)).2.2.1), .int .u64 r10.1, .slice m10.1 r10.2.1.length m10.2.1]) rfl rfl rfl rfl rfl ty77 rfl (Nat.le_of_ble_eq_true rfl) (ones (oc rfl (oc rfl (oc rfl (oc rfl (oc rfl on)))))) rfl ?_)
        refine TrL.v (v_assign rfl rfl) rfl rfl (bl rfl) ?_
        refine TrL.nil (qthen_n ?_)
        refine Tr.seq ?_
        refine Tr.region ?_
        refine TrL.v (v_load (k := 0) rfl rfl rfl ty77 nofun rfl rfl) rfl rfl (bl rfl) ?_
        refine TrL.v (v_move rfl rfl) rfl rfl (bl rfl) ?_
        refine TrL.cons rfl (op_store' (k := 1) (c' := [.int .u64 (((p1.1, p1.2.1, r7, p1.2.2.2.1, r9)).1), .int .i64 (((p1.1, p1.2.1, r7, p1.2.2.2.1, r9)).2.1), .int .u64 (((p1.1, p1.2.1, r7, p1.2.2.2.1, r9)).2.2.1), .int .u64 r10.1, .slice m10.1 r10.2.1.length m10.2.1]) rfl rfl rfl rfl rfl ty77 rfl (Nat.le_of_ble_eq_true rfl) (ones (oc rfl (oc rfl (oc rfl (oc rfl (oc rfl on)))))) rfl ?_)
        refine TrL.v (v_assign rfl rfl) rfl rfl (bl rfl) ?_
        refine TrL.v (v_assign rfl rfl) rfl rfl (bl rfl) ?_
        refine TrL.nil (qthen_n ?_)
        have hz := Option.some.inj H
        subst hz
        refine Tr.ret (ret_r ⟨[(4, .pointer (some ⟨b7, 0, none⟩)), (5, .slice m10.2.2.1 r10.2.2.length m10.2.2.2), (6, .int .i64 0)], [cells b7 [.int .u64 (((p1.1, p1.2.1, r7, p1.2.2.2.1, r9)).1), .int .i64 (((p1.1, p1.2.1, r7, p1.2.2.2.1, r9)).2.1), .int .u64 (((p1.1, p1.2.1, r7, p1.2.2.2.1, r9)).2.2.1), .int .u64 r10.1, .slice m10.1 r10.2.1.length m10.2.1] 77], [slF rp_u64_u64_u64 m10.1 m10.2.1 r10.2.1, slF rp_u64_u64_u64 m10.2.2.1 m10.2.2.2 r10.2.2], []⟩ [.agg #[.int .u64 (((p1.1, p1.2.1, r7, p1.2.2.2.1, r9)).1), .int .i64 (((p1.1, p1.2.1, r7, p1.2.2.2.1, r9)).2.1), .int .u64 (((p1.1, p1.2.1, r7, p1.2.2.2.1, r9)).2.2.1), .int .u64 r10.1, .slice m10.1 r10.2.1.length m10.2.1], .slice m10.2.2.1 r10.2.2.length m10.2.2.2, .int .i64 0] [] [cells b7 [.int .u64 (((p1.1, p1.2.1, r7, p1.2.2.2.1, r9)).1), .int .i64 (((p1.1, p1.2.1, r7, p1.2.2.2.1, r9)).2.1), .int .u64 (((p1.1, p1.2.1, r7, p1.2.2.2.1, r9)).2.2.1), .int .u64 r10.1, .slice m10.1 r10.2.1.length m10.2.1] 77] (Imp.re _ [1] [7, 8] (sc rfl (sc rfl (sc rfl sn))) (by decide) rfl rfl rfl) rfl rfl ⟨((m10.1, m10.2.1, m10.2.2.1, m10.2.2.2)), rfl, rfl, rfl⟩ (.cons (resv_cell (k := 0) rfl rfl ty77 nofun rfl rfl) (.cons (resv_tmp rfl) (.cons (resv_tmp rfl) .nil))))

theorem c_buffer_Weight (p1 : Int × Int × Int × Int × List (Int × Int × Int)) (A1 : Option Addr) (c1 : Nat) (r : Int) (H : buffer_Weight p1 = some r) :
    Ctr Try.prog 43 [.agg #[.int .u64 p1.1, .int .i64 p1.2.1, .int .u64 p1.2.2.1, .int .u64 p1.2.2.2.1, .slice A1 p1.2.2.2.2.length c1]] [] [slF rp_u64_u64_u64 A1 c1 p1.2.2.2.2] (fun ret M' F' => ret = .int .u64 r ∧ M' = [] ∧ F' = []) := by
  unfold buffer_Weight at H
  refine ctr_ofI (N := 19) Try.func43 rfl Try.ntmps43 rfl (Nat.le_of_ble_eq_true rfl) (fun γ0 w0 => ?_)
  refine Tr.seq ?_
  refine Tr.region ?_
  refine TrL.cons rfl (op_box' rfl (bl rfl) rfl rfl rfl (fun b5 => ?_))
  refine TrL.v (v_assign rfl rfl) rfl rfl (bl rfl) ?_
  refine TrL.nil (qthen_n ?_)
  refine Tr.seq ?_
  refine Tr.region ?_
  refine TrL.v (v_assign rfl rfl) rfl rfl (bl rfl) ?_
  refine TrL.nil (qthen_n ?_)
  refine Tr.seq ?_
  refine Tr.seq ?_
  refine Tr.region ?_
  refine TrL.v (v_fieldAddr' rfl fo77_4 rfl rfl) rfl rfl (bl rfl) ?_
  refine TrL.v (v_load (k := 0) rfl rfl rfl ty71 (fun _ => rfl) rfl rfl) rfl rfl (bl rfl) ?_
  refine TrL.v (v_len rfl sl71 rfl) rfl rfl (bl rfl) ?_
  refine TrL.v (v_move rfl rfl) rfl rfl (bl rfl) ?_
  refine TrL.nil (qthen_n ?_)
  obtain ⟨x2, hx3, H⟩ := bnd H
  refine Tr.cutE (D := Int) (M := Unit) .normal (fun _d => x2 = _d) (fun x2 m8 => ⟨[(3, .int .u64 x2)], [], [], []⟩) ?_ (fun x2 m8 hd2 => ?_)
  · refine Tr.block (Tr.loopI (ι := Unit) (step := buffer_Weight_s0 p1) (fun s5 m6 => ⟨[(3, .int .u64 s5.1), (7, .slice A1 p1.2.2.2.2.length c1), (8, .int .i64 ((p1.2.2.2.2.length : Int))), (9, .int .i64 s5.2)], [], [slF rp_u64_u64_u64 A1 c1 p1.2.2.2.2], []⟩) (()) hx3 (Imp.re _ [] [0] (sc rfl (sc rfl (sc rfl (sc rfl sn)))) (by decide) rfl rfl rfl) (fun s5 m6 y2 hy2 hx4 => ?_))
    unfold buffer_Weight_s0 at hy2
    refine Tr.seq ?_
    refine Tr.region ?_
    refine TrL.v (v_arith rfl rfl rfl ar_lss) rfl rfl (bl rfl) ?_
    refine TrL.nil (qthen_n ?_)
    refine Tr.seq ?_
    rcases ifc hy2 with ⟨h6, hy2⟩ | ⟨h6, hy2⟩
    · refine Tr.cond_t rfl (bt_dec h6) ?_
      refine Tr.skip (qthen_n ?_)
      refine Tr.seq ?_
      refine Tr.block ?_
      refine Tr.seq ?_
      refine Tr.region ?_
      obtain ⟨z6, hz6, hy2⟩ := bnd hy2
      refine TrL.v (v_indexAddr (k := 0) rfl sl71 ty85 rfl rfl rfl rfl hz6) rfl rfl (bl rfl) ?_
      refine TrL.v (v_loadg (A := A1) (i := s5.2) (j := 0) (k := 0) rfl ty85 nofun rfl rfl hz6 rfl rfl) rfl rfl (bl rfl) ?_
      refine TrL.cons rfl (op_alloc' rfl (bl rfl) rfl ze85 (fun b8 => ?_))
      refine TrL.cons rfl (op_store' (k := 0) (c' := [.int .u64 z6.1, .int .u64 z6.2.1, .int .u64 z6.2.2]) rfl rfl rfl rfl rfl ty85 rfl (Nat.le_of_ble_eq_true rfl) (ones (oc rfl (oc rfl (oc rfl on)))) rfl ?_)
      refine TrL.nil (qthen_n ?_)
      refine Tr.region ?_
      refine TrL.v (v_move rfl rfl) rfl rfl (bl rfl) ?_
      refine TrL.v (v_fieldAddr' rfl fo85_2 rfl rfl) rfl rfl (bl rfl) ?_
      refine TrL.v (v_load (k := 0) rfl rfl rfl ty28 (fun _ => rfl) rfl rfl) rfl rfl (bl rfl) ?_
      refine TrL.v (v_arith rfl rfl rfl ar_add_u64) rfl rfl (bl rfl) ?_
      refine TrL.v (v_assign rfl rfl) rfl rfl (bl rfl) ?_
      refine TrL.nil (qblock_n (qthen_n ?_))
      refine Tr.region ?_
      refine TrL.v (v_arith rfl rfl rfl ar_add_i64) rfl rfl (bl rfl) ?_
      refine TrL.v (v_move rfl rfl) rfl rfl (bl rfl) ?_
      have hz := Option.some.inj hy2
      subst hz
      refine TrL.nil (qloop_n (()) (Imp.re _ [] [0] (sc rfl (sc rfl (sc rfl (sc rfl sn)))) (by decide) rfl rfl rfl))
    · refine Tr.cond_f rfl (bf_dec h6) ?_
      have hz := Option.some.inj hy2
      subst hz
      refine Tr.exit (qthen_x (qloop_x (qblock_hit (qcut_hit s5.1 (()) (hx4 _ rfl).symm (Imp.re _ [] [] (sc rfl sn) (by decide) rfl rfl rfl)))))
  · subst hd2
    refine (qthen_n ?_)
    refine Tr.seq ?_
    refine Tr.region ?_
    refine TrL.v (v_move rfl rfl) rfl rfl (bl rfl) ?_
    refine TrL.v (v_assign rfl rfl) rfl rfl (bl rfl) ?_
    refine TrL.nil (qthen_n ?_)
    have hz := Option.some.inj H
    subst hz
    refine Tr.ret (ret_r ⟨[(2, .int .u64 x2)], [], [], []⟩ [.int .u64 x2] [] [] (Imp.re _ [] [] (sc rfl sn) (by decide) rfl rfl rfl) rfl rfl ⟨rfl, rfl, rfl⟩ (.cons (resv_tmp rfl) .nil))

theorem c_buffer_May_1 (p1 : Int × Int × Int) (p2 : Int × Int × Int × Int × List (Int × Int × Int)) (p3 : Int) (b1 : Nat) (A1 : Option Addr) (c1 : Nat) (b2 : Nat) (r : Bool) (H : buffer_May_1 p1 p2 p3 = some r) :
    Ctr Try.prog 139 [.agg #[.int .u64 p1.1, .int .u64 p1.2.1, .int .u64 p1.2.2], .pointer (some ⟨b1, 0, none⟩), .pointer (some ⟨b2, 0, none⟩)] [cells b1 [.int .u64 p2.1, .int .i64 p2.2.1, .int .u64 p2.2.2.1, .int .u64 p2.2.2.2.1, .slice A1 p2.2.2.2.2.length c1] 77, cells b2 [.int .u64 p3] 28] [slF rp_u64_u64_u64 A1 c1 p2.2.2.2.2] (fun ret M' F' => ret = .bool r ∧ M' = [cells b1 [.int .u64 p2.1, .int .i64 p2.2.1, .int .u64 p2.2.2.1, .int .u64 p2.2.2.2.1, .slice A1 p2.2.2.2.2.length c1] 77, cells b2 [.int .u64 p1.1] 28] ∧ F' = [slF rp_u64_u64_u64 A1 c1 p2.2.2.2.2]) := by
  unfold buffer_May_1 at H
  refine ctr_ofI (N := 32) Try.func139 rfl Try.ntmps139 rfl (Nat.le_of_ble_eq_true rfl) (fun γ0 w0 => ?_)
  refine Tr.seq ?_
  refine Tr.region ?_
  refine TrL.cons rfl (op_box' rfl (bl rfl) rfl rfl rfl (fun b4 => ?_))
  refine TrL.v (v_assign rfl rfl) rfl rfl (bl rfl) ?_
  refine TrL.nil (qthen_n ?_)
  refine Tr.seq ?_
  refine Tr.region ?_
  refine TrL.v (v_fieldAddr' rfl fo85_2 rfl rfl) rfl rfl (bl rfl) ?_
  refine TrL.v (v_load (k := 0) rfl rfl rfl ty28 (fun _ => rfl) rfl rfl) rfl rfl (bl rfl) ?_
  refine TrL.v (v_arith rfl rfl rfl ar_eql) rfl rfl (bl rfl) ?_
  refine TrL.v (v_move rfl rfl) rfl rfl (bl rfl) ?_
  rcases ifc H with ⟨h10, H⟩ | ⟨h10, H⟩
  · refine TrL.cons_no rfl rfl rfl (gn_f (bt_dec h10)) rfl (bl rfl) ?_
    refine TrL.cons_no rfl rfl rfl (gn_f (bt_dec h10)) rfl (bl rfl) ?_
    refine TrL.cons_no rfl rfl rfl (gn_f (bt_dec h10)) rfl (bl rfl) ?_
    refine TrL.cons_no rfl rfl rfl (gn_f (bt_dec h10)) rfl (bl rfl) ?_
    refine TrL.cons_no rfl rfl rfl (gn_f (bt_dec h10)) rfl (bl rfl) ?_
    refine TrL.v (v_pick_t rfl rfl (bt_dec h10) rfl) rfl rfl (bl rfl) ?_
    refine TrL.v (v_move rfl rfl) rfl rfl (bl rfl) ?_
    refine TrL.cons_no rfl rfl rfl (gn_f rfl) rfl (bl rfl) ?_
    refine TrL.cons_no rfl rfl rfl (gn_f rfl) rfl (bl rfl) ?_
    refine TrL.cons_no rfl rfl rfl (gn_f rfl) rfl (bl rfl) ?_
    refine TrL.cons_no rfl rfl rfl (gn_f rfl) rfl (bl rfl) ?_
    refine TrL.v (v_pick_t rfl rfl rfl rfl) rfl rfl (bl rfl) ?_
    refine TrL.v (v_move rfl rfl) rfl rfl (bl rfl) ?_
    refine TrL.cons_no rfl rfl rfl (gn_f rfl) rfl (bl rfl) ?_
    refine TrL.cons_no rfl rfl rfl (gn_f rfl) rfl (bl rfl) ?_
    refine TrL.cons_no rfl rfl rfl (gn_f rfl) rfl (bl rfl) ?_
    refine TrL.cons_no rfl rfl rfl (gn_f rfl) rfl (bl rfl) ?_
    refine TrL.cons_no rfl rfl rfl (gn_f rfl) rfl (bl rfl) ?_
    refine TrL.v (v_pick_t rfl rfl rfl rfl) rfl rfl (bl rfl) ?_
    refine TrL.v (v_assign rfl rfl) rfl rfl (bl rfl) ?_
    refine TrL.nil (qthen_n ?_)
    refine Tr.seq ?_
    refine Tr.region ?_
    refine TrL.v (v_fieldAddr' rfl fo85_0 rfl rfl) rfl rfl (bl rfl) ?_
    refine TrL.v (v_load (k := 0) rfl rfl rfl ty28 (fun _ => rfl) rfl rfl) rfl rfl (bl rfl) ?_
    refine TrL.cons rfl (op_store' (k := 2) (c' := [.int .u64 p1.1]) rfl rfl rfl rfl rfl ty28 rfl (Nat.le_of_ble_eq_true rfl) (ones (oc rfl on)) rfl ?_)
    refine TrL.nil (qthen_n ?_)
    refine Tr.seq ?_
    refine Tr.region ?_
    refine TrL.v (v_move rfl rfl) rfl rfl (bl rfl) ?_
    refine TrL.v (v_assign rfl rfl) rfl rfl (bl rfl) ?_
    refine TrL.nil (qthen_n ?_)
    have hz := Option.some.inj H
    subst hz
    refine Tr.ret (ret_r ⟨[(4, .bool true)], [cells b1 [.int .u64 p2.1, .int .i64 p2.2.1, .int .u64 p2.2.2.1, .int .u64 p2.2.2.2.1, .slice A1 p2.2.2.2.2.length c1] 77, cells b2 [.int .u64 p1.1] 28], [slF rp_u64_u64_u64 A1 c1 p2.2.2.2.2], []⟩ [.bool true] [cells b1 [.int .u64 p2.1, .int .i64 p2.2.1, .int .u64 p2.2.2.1, .int .u64 p2.2.2.2.1, .slice A1 p2.2.2.2.2.length c1] 77, cells b2 [.int .u64 p1.1] 28] [] (Imp.re _ [1, 2] [0] (sc rfl sn) (by decide) rfl rfl rfl) rfl rfl ⟨rfl, rfl, rfl⟩ (.cons (resv_tmp rfl) .nil))
  · refine TrL.cons_yes rfl rfl rfl (bf_dec h10) (OpTr.v (v_fieldAddr' rfl fo85_0 rfl rfl) rfl (bl rfl) ?_)
    refine TrL.cons_yes rfl rfl rfl (bf_dec h10) (OpTr.v (v_load (k := 0) rfl rfl rfl ty28 (fun _ => rfl) rfl rfl) rfl (bl rfl) ?_)
    refine TrL.cons_yes rfl rfl rfl (bf_dec h10) (OpTr.v (v_fieldAddr' rfl fo77_3 rfl rfl) rfl (bl rfl) ?_)
    refine TrL.cons_yes rfl rfl rfl (bf_dec h10) (OpTr.v (v_load (k := 1) rfl rfl rfl ty28 (fun _ => rfl) rfl rfl) rfl (bl rfl) ?_)
    refine TrL.cons_yes rfl rfl rfl (bf_dec h10) (OpTr.v (v_arith rfl rfl rfl ar_leq) rfl (bl rfl) ?_)
    refine TrL.v (v_pick_f rfl rfl (bf_dec h10) rfl) rfl rfl (bl rfl) ?_
    refine TrL.v (v_move rfl rfl) rfl rfl (bl rfl) ?_
    rcases ifc H with ⟨h11, H⟩ | ⟨h11, H⟩
    · refine TrL.cons_no rfl rfl rfl (gn_f (bt_dec h11)) rfl (bl rfl) ?_
      refine TrL.cons_no rfl rfl rfl (gn_f (bt_dec h11)) rfl (bl rfl) ?_
      refine TrL.cons_no rfl rfl rfl (gn_f (bt_dec h11)) rfl (bl rfl) ?_
      refine TrL.cons_no rfl rfl rfl (gn_f (bt_dec h11)) rfl (bl rfl) ?_
      refine TrL.v (v_pick_t rfl rfl (bt_dec h11) rfl) rfl rfl (bl rfl) ?_
      refine TrL.v (v_move rfl rfl) rfl rfl (bl rfl) ?_
      refine TrL.cons_no rfl rfl rfl (gn_f rfl) rfl (bl rfl) ?_
      refine TrL.cons_no rfl rfl rfl (gn_f rfl) rfl (bl rfl) ?_
      refine TrL.cons_no rfl rfl rfl (gn_f rfl) rfl (bl rfl) ?_
      refine TrL.cons_no rfl rfl rfl (gn_f rfl) rfl (bl rfl) ?_
      refine TrL.cons_no rfl rfl rfl (gn_f rfl) rfl (bl rfl) ?_
      refine TrL.v (v_pick_t rfl rfl rfl rfl) rfl rfl (bl rfl) ?_
      refine TrL.v (v_assign rfl rfl) rfl rfl (bl rfl) ?_
      refine TrL.nil (qthen_n ?_)
      refine Tr.seq ?_
      refine Tr.region ?_
      refine TrL.v (v_fieldAddr' rfl fo85_0 rfl rfl) rfl rfl (bl rfl) ?_
      refine TrL.v (v_load (k := 0) rfl rfl rfl ty28 (fun _ => rfl) rfl rfl) rfl rfl (bl rfl) ?_
      refine TrL.cons rfl (op_store' (k := 2) (c' := [.int .u64 p1.1]) rfl rfl rfl rfl rfl ty28 rfl (Nat.le_of_ble_eq_true rfl) (ones (oc rfl on)) rfl ?_)
      refine TrL.nil (qthen_n ?_)
      refine Tr.seq ?_
      refine Tr.region ?_
      refine TrL.v (v_move rfl rfl) rfl rfl (bl rfl) ?_
      refine TrL.v (v_assign rfl rfl) rfl rfl (bl rfl) ?_
      refine TrL.nil (qthen_n ?_)
      have hz := Option.some.inj H
      subst hz
      refine Tr.ret (ret_r ⟨[(4, .bool true)], [cells b1 [.int .u64 p2.1, .int .i64 p2.2.1, .int .u64 p2.2.2.1, .int .u64 p2.2.2.2.1, .slice A1 p2.2.2.2.2.length c1] 77, cells b2 [.int .u64 p1.1] 28], [slF rp_u64_u64_u64 A1 c1 p2.2.2.2.2], []⟩ [.bool true] [cells b1 [.int .u64 p2.1, .int .i64 p2.2.1, .int .u64 p2.2.2.1, .int .u64 p2.2.2.2.1, .slice A1 p2.2.2.2.2.length c1] 77, cells b2 [.int .u64 p1.1] 28] [] (Imp.re _ [1, 2] [0] (sc rfl sn) (by decide) rfl rfl rfl) rfl rfl ⟨rfl, rfl, rfl⟩ (.cons (resv_tmp rfl) .nil))
    · refine TrL.cons_yes rfl rfl rfl (bf_dec h11) (OpTr.v (v_fieldAddr' rfl fo85_0 rfl rfl) rfl (bl rfl) ?_)
      refine TrL.cons_yes rfl rfl rfl (bf_dec h11) (OpTr.v (v_load (k := 0) rfl rfl rfl ty28 (fun _ => rfl) rfl rfl) rfl (bl rfl) ?_)
      refine TrL.cons_yes rfl rfl rfl (bf_dec h11) (OpTr.v (v_load (k := 2) rfl rfl rfl ty28 (fun _ => rfl) rfl rfl) rfl (bl rfl) ?_)
      refine TrL.cons_yes rfl rfl rfl (bf_dec h11) (OpTr.v (v_arith rfl rfl rfl ar_lss) rfl (bl rfl) ?_)
      refine TrL.v (v_pick_f rfl rfl (bf_dec h11) rfl) rfl rfl (bl rfl) ?_
      refine TrL.v (v_move rfl rfl) rfl rfl (bl rfl) ?_
      rcases ifc H with ⟨h12, H⟩ | ⟨h12, H⟩
      · refine TrL.cons_no rfl rfl rfl (gn_f (bt_dec h12)) rfl (bl rfl) ?_
        refine TrL.cons_no rfl rfl rfl (gn_f (bt_dec h12)) rfl (bl rfl) ?_
        refine TrL.cons_no rfl rfl rfl (gn_f (bt_dec h12)) rfl (bl rfl) ?_
        refine TrL.cons_no rfl rfl rfl (gn_f (bt_dec h12)) rfl (bl rfl) ?_
        refine TrL.cons_no rfl rfl rfl (gn_f (bt_dec h12)) rfl (bl rfl) ?_
        refine TrL.v (v_pick_t rfl rfl (bt_dec h12) rfl) rfl rfl (bl rfl) ?_
        refine TrL.v (v_assign rfl rfl) rfl rfl (bl rfl) ?_
        refine TrL.nil (qthen_n ?_)
        refine Tr.seq ?_
        refine Tr.region ?_
        refine TrL.v (v_fieldAddr' rfl fo85_0 rfl rfl) rfl rfl (bl rfl) ?_
        refine TrL.v (v_load (k := 0) rfl rfl rfl ty28 (fun _ => rfl) rfl rfl) rfl rfl (bl rfl) ?_
        refine TrL.cons rfl (op_store' (k := 2) (c' := [.int .u64 p1.1]) rfl rfl rfl rfl rfl ty28 rfl (Nat.le_of_ble_eq_true rfl) (ones (oc rfl on)) rfl ?_)
        refine TrL.nil (qthen_n ?_)
        refine Tr.seq ?_
        refine Tr.region ?_
        refine TrL.v (v_move rfl rfl) rfl rfl (bl rfl) ?_
        refine TrL.v (v_assign rfl rfl) rfl rfl (bl rfl) ?_
        refine TrL.nil (qthen_n ?_)
        have hz := Option.some.inj H
        subst hz
        refine Tr.ret (ret_r ⟨[(4, .bool true)], [cells b1 [.int .u64 p2.1, .int .i64 p2.2.1, .int .u64 p2.2.2.1, .int .u64 p2.2.2.2.1, .slice A1 p2.2.2.2.2.length c1] 77, cells b2 [.int .u64 p1.1] 28], [slF rp_u64_u64_u64 A1 c1 p2.2.2.2.2], []⟩ [.bool true] [cells b1 [.int .u64 p2.1, .int .i64 p2.2.1, .int .u64 p2.2.2.1, .int .u64 p2.2.2.2.1, .slice A1 p2.2.2.2.2.length c1] 77, cells b2 [.int .u64 p1.1] 28] [] (Imp.re _ [1, 2] [0] (sc rfl sn) (by decide) rfl rfl rfl) rfl rfl ⟨rfl, rfl, rfl⟩ (.cons (resv_tmp rfl) .nil))
      · refine TrL.cons_yes rfl rfl rfl (bf_dec h12) (OpTr.v (v_fieldAddr' rfl fo85_0 rfl rfl) rfl (bl rfl) ?_)
        refine TrL.cons_yes rfl rfl rfl (bf_dec h12) (OpTr.v (v_load (k := 0) rfl rfl rfl ty28 (fun _ => rfl) rfl rfl) rfl (bl rfl) ?_)
        refine TrL.cons_yes rfl rfl rfl (bf_dec h12) (OpTr.v (v_fieldAddr' rfl fo77_2 rfl rfl) rfl (bl rfl) ?_)
        refine TrL.cons_yes rfl rfl rfl (bf_dec h12) (OpTr.v (v_load (k := 1) rfl rfl rfl ty28 (fun _ => rfl) rfl rfl) rfl (bl rfl) ?_)
        refine TrL.cons_yes rfl rfl rfl (bf_dec h12) (OpTr.v (v_arith rfl rfl rfl ar_gtr) rfl (bl rfl) ?_)
        refine TrL.v (v_pick_f rfl rfl (bf_dec h12) rfl) rfl rfl (bl rfl) ?_
        refine TrL.v (v_assign rfl rfl) rfl rfl (bl rfl) ?_
        refine TrL.nil (qthen_n ?_)
        refine Tr.seq ?_
        refine Tr.region ?_
        refine TrL.v (v_fieldAddr' rfl fo85_0 rfl rfl) rfl rfl (bl rfl) ?_
        refine TrL.v (v_load (k := 0) rfl rfl rfl ty28 (fun _ => rfl) rfl rfl) rfl rfl (bl rfl) ?_
        refine TrL.cons rfl (op_store' (k := 2) (c' := [.int .u64 p1.1]) rfl rfl rfl rfl rfl ty28 rfl (Nat.le_of_ble_eq_true rfl) (ones (oc rfl on)) rfl ?_)
        refine TrL.nil (qthen_n ?_)
        refine Tr.seq ?_
        refine Tr.region ?_
        refine TrL.v (v_move rfl rfl) rfl rfl (bl rfl) ?_
        refine TrL.v (v_assign rfl rfl) rfl rfl (bl rfl) ?_
        refine TrL.nil (qthen_n ?_)
        have hz := Option.some.inj H
        subst hz
        refine Tr.ret (ret_r ⟨[(4, .bool (decide (p2.2.2.1 < p1.1)))], [cells b1 [.int .u64 p2.1, .int .i64 p2.2.1, .int .u64 p2.2.2.1, .int .u64 p2.2.2.2.1, .slice A1 p2.2.2.2.2.length c1] 77, cells b2 [.int .u64 p1.1] 28], [slF rp_u64_u64_u64 A1 c1 p2.2.2.2.2], []⟩ [.bool (decide (p2.2.2.1 < p1.1))] [cells b1 [.int .u64 p2.1, .int .i64 p2.2.1, .int .u64 p2.2.2.1, .int .u64 p2.2.2.2.1, .slice A1 p2.2.2.2.2.length c1] 77, cells b2 [.int .u64 p1.1] 28] [] (Imp.re _ [1, 2] [0] (sc rfl sn) (by decide) rfl rfl rfl) rfl rfl ⟨rfl, rfl, rfl⟩ (.cons (resv_tmp rfl) .nil))
end Go.Proofs.Ytbeknohemgjfbaa.W
