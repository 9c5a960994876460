/- The contracts of the walked functions: the printed walks. -/
import Derived.Test.YtbeknohemgjfbaaKc
import Derived.Test.YtbeknohemgjfbaaQc
import Derived.Test.YtbeknohemgjfbaaWbufferac
import Derived.Test.YtbeknohemgjfbaaWslicescc
namespace Go.Proofs.Ytbeknohemgjfbaa.W
open Go Go.Proofs Go.Proofs.Ytbeknohemgjfbaa.L Go.Proofs.Ytbeknohemgjfbaa.Pu
set_option linter.unusedVariables false
set_option maxHeartbeats 4000000

theorem c_buffer_May (p1 : Int × Int × Int × Int × List (Int × Int × Int)) (A1 : Option Addr) (c1 : Nat) (r : Int) (H : buffer_May p1 = some r) :
    Ctr Try.prog 84 [.agg #[.int .u64 p1.1, .int .i64 p1.2.1, .int .u64 p1.2.2.1, .int .u64 p1.2.2.2.1, .slice A1 p1.2.2.2.2.length c1]] [] [slF rp_u64_u64_u64 A1 c1 p1.2.2.2.2] (fun ret M' F' => ret = .int .i64 r ∧ M' = [] ∧ F' = []) := by
  unfold buffer_May at H
  refine ctr_ofI (N := 55) Try.func84 rfl Try.ntmps84 rfl (Nat.le_of_ble_eq_true rfl) (fun γ0 w0 => ?_)
  refine Tr.seq ?_
  refine Tr.region ?_
  refine TrL.cons rfl (op_box' rfl (bl rfl) rfl rfl rfl (fun b4 => ?_))
  refine TrL.v (v_assign rfl rfl) rfl rfl (bl rfl) ?_
  refine TrL.nil (qthen_n ?_)
  refine Tr.seq ?_
  refine Tr.seq ?_
  refine Tr.region ?_
  refine TrL.v (v_fieldAddr' rfl fo77_0 rfl rfl) rfl rfl (bl rfl) ?_
  refine TrL.v (v_load (k := 0) rfl rfl rfl ty28 (fun _ => rfl) rfl rfl) rfl rfl (bl rfl) ?_
  refine TrL.v (v_fieldAddr' rfl fo77_1 rfl rfl) rfl rfl (bl rfl) ?_
  refine TrL.v (v_load (k := 0) rfl rfl rfl ty3 (fun _ => rfl) rfl rfl) rfl rfl (bl rfl) ?_
  obtain ⟨r3, hr3, H⟩ := bnd H
  refine TrL.cons rfl (op_call0' (vs := [.int .u64 p1.1, .int .i64 p1.2.1]) (cap := []) [] rfl rfl (bl rfl) rfl rfl en82 (c_buffer_New p1.1 p1.2.1 r3 hr3) rfl (fun ret M' F' hR3 => ?_))
  obtain ⟨rfl, rfl, rfl⟩ := hR3
  refine TrL.v (v_move rfl rfl) rfl rfl (bl rfl) ?_
  refine TrL.v (v_extract rfl rfl rfl) rfl rfl (bl rfl) ?_
  refine TrL.v (v_extract rfl rfl rfl) rfl rfl (bl rfl) ?_
  refine TrL.cons rfl (op_alloc' rfl (bl rfl) rfl ze77 (fun b5 => ?_))
  refine TrL.cons rfl (op_store' (k := 0) (c' := [.int .u64 r3.1, .int .i64 r3.2.1, .int .u64 0, .int .u64 0, .slice none 0 0]) rfl rfl rfl rfl rfl ty77 rfl (Nat.le_of_ble_eq_true rfl) (ones (oc rfl (oc rfl (oc rfl (oc rfl (oc rfl on)))))) rfl ?_)
  refine TrL.v (v_assign rfl rfl) rfl rfl (bl rfl) ?_
  refine TrL.nil (qthen_n ?_)
  refine Tr.seq ?_
  refine Tr.region ?_
  refine TrL.v (v_move rfl rfl) rfl rfl (bl rfl) ?_
  refine TrL.v (v_arith rfl rfl rfl ar_neq) rfl rfl (bl rfl) ?_
  refine TrL.nil (qthen_n ?_)
  rcases ifc H with ⟨h11, H⟩ | ⟨h11, H⟩
  · refine Tr.cond_t rfl (bt_dec h11) ?_
    refine Tr.seq ?_
    refine Tr.region ?_
    refine TrL.v (v_move rfl rfl) rfl rfl (bl rfl) ?_
    refine TrL.v (v_assign rfl rfl) rfl rfl (bl rfl) ?_
    refine TrL.nil (qthen_n ?_)
    have hz := Option.some.inj H
    subst hz
    refine Tr.ret (qthen_r (ret_r ⟨[(2, .int .i64 r3.2.2)], [], [], []⟩ [.int .i64 r3.2.2] [] [] (Imp.re _ [] [] (sc rfl sn) (by decide) rfl rfl rfl) rfl rfl ⟨rfl, rfl, rfl⟩ (.cons (resv_tmp rfl) .nil)))
  · refine Tr.cond_f rfl (bf_dec h11) ?_
    refine Tr.skip (qthen_n ?_)
    refine Tr.seq ?_
    refine Tr.region ?_
    refine TrL.v (v_fieldAddr' rfl fo77_3 rfl rfl) rfl rfl (bl rfl) ?_
    refine TrL.v (v_load (k := 1) rfl rfl rfl ty28 (fun _ => rfl) rfl rfl) rfl rfl (bl rfl) ?_
    refine TrL.cons rfl (op_alloc' rfl (bl rfl) rfl ze28 (fun b6 => ?_))
    refine TrL.cons rfl (op_store' (k := 0) (c' := [.int .u64 p1.2.2.2.1]) rfl rfl rfl rfl rfl ty28 rfl (Nat.le_of_ble_eq_true rfl) (ones (oc rfl on)) rfl ?_)
    refine TrL.nil (qthen_n ?_)
    refine Tr.seq ?_
    refine Tr.region ?_
    refine TrL.v (v_fieldAddr' rfl fo77_4 rfl rfl) rfl rfl (bl rfl) ?_
    refine TrL.v (v_load (k := 2) rfl rfl rfl ty71 (fun _ => rfl) rfl rfl) rfl rfl (bl rfl) ?_
    refine TrL.v (v_makeFunc (vs := [.pointer (some ⟨b4, 0, none⟩), .pointer (some ⟨b6, 0, none⟩)]) rfl rfl) rfl rfl (bl rfl) ?_
    obtain ⟨r4, hr4, H⟩ := bnd H
    refine TrL.cons rfl (op_callg' (fs := []) (vs := [.slice A1 p1.2.2.2.2.length c1, .func (.func 139) #[] #[.pointer (some ⟨b4, 0, none⟩), .pointer (some ⟨b6, 0, none⟩)]]) (cap := []) (Mr := [cells b5 [.int .u64 r3.1, .int .i64 r3.2.1, .int .u64 0, .int .u64 0, .slice none 0 0] 77]) [2, 0] [1] [0, 0] rfl rfl rfl en138 (c_slices_ContainsFunc_Event p1.2.2.2.2 ((p1.1, p1.2.1, p1.2.2.1, p1.2.2.2.1, p1.2.2.2.2, p1.2.2.2.1)) A1 c1 b4 A1 c1 b6 r4 hr4) (by decide) rfl rfl rfl (bl rfl) (fun ret M' F' hR4 => ?_))
    obtain ⟨rfl, rfl, rfl⟩ := hR4
    refine TrL.v (v_assign rfl rfl) rfl rfl (bl rfl) ?_
    refine TrL.nil (qthen_n ?_)
    refine Tr.seq ?_
    refine Tr.seq ?_
    refine Tr.region ?_
    refine TrL.v (v_move rfl rfl) rfl rfl (bl rfl) ?_
    refine TrL.v (v_move rfl rfl) rfl rfl (bl rfl) ?_
    rcases ifc H with ⟨h16, H⟩ | ⟨h16, H⟩
    · refine TrL.cons_no rfl rfl rfl (gn_f h16) rfl (bl rfl) ?_
      refine TrL.cons_no rfl rfl rfl (gn_f h16) rfl (bl rfl) ?_
      refine TrL.cons_no rfl rfl rfl (gn_f h16) rfl (bl rfl) ?_
      refine TrL.cons_no rfl rfl rfl (gn_f h16) rfl (bl rfl) ?_
      refine TrL.cons_no rfl rfl rfl (gn_f h16) rfl (bl rfl) ?_
      refine TrL.cons_no rfl rfl rfl (gn_f h16) rfl (bl rfl) ?_
      refine TrL.v (v_pick_t rfl rfl h16 rfl) rfl rfl (bl rfl) ?_
      refine TrL.v (v_move rfl rfl) rfl rfl (bl rfl) ?_
      refine TrL.cons_no rfl rfl rfl (gn_f rfl) rfl (bl rfl) ?_
      refine TrL.cons_no rfl rfl rfl (gn_f rfl) rfl (bl rfl) ?_
      refine TrL.cons_no rfl rfl rfl (gn_f rfl) rfl (bl rfl) ?_
      refine TrL.cons_no rfl rfl rfl (gn_f rfl) rfl (bl rfl) ?_
      refine TrL.cons_no rfl rfl rfl (gn_f rfl) rfl (bl rfl) ?_
      refine TrL.v (v_pick_t rfl rfl rfl rfl) rfl rfl (bl rfl) ?_
      refine TrL.v (v_move rfl rfl) rfl rfl (bl rfl) ?_
      refine TrL.cons_no rfl rfl rfl (gn_f rfl) rfl (bl rfl) ?_
      refine TrL.cons_no rfl rfl rfl (gn_f rfl) rfl (bl rfl) ?_
      refine TrL.cons_no rfl rfl rfl (gn_f rfl) rfl (bl rfl) ?_
      refine TrL.v (v_pick_t rfl rfl rfl rfl) rfl rfl (bl rfl) ?_
      refine TrL.v (v_move rfl rfl) rfl rfl (bl rfl) ?_
      refine TrL.cons_no rfl rfl rfl (gn_f rfl) rfl (bl rfl) ?_
      refine TrL.cons_no rfl rfl rfl (gn_f rfl) rfl (bl rfl) ?_
      refine TrL.cons_no rfl rfl rfl (gn_f rfl) rfl (bl rfl) ?_
      refine TrL.cons_no rfl rfl rfl (gn_f rfl) rfl (bl rfl) ?_
      refine TrL.cons_no rfl rfl rfl (gn_f rfl) rfl (bl rfl) ?_
      refine TrL.cons_no rfl rfl rfl (gn_f rfl) rfl (bl rfl) ?_
      refine TrL.cons_no rfl rfl rfl (gn_f rfl) rfl (bl rfl) ?_
      refine TrL.cons_no rfl rfl rfl (gn_f rfl) rfl (bl rfl) ?_
      refine TrL.v (v_pick_t rfl rfl rfl rfl) rfl rfl (bl rfl) ?_
      refine TrL.nil (qthen_n ?_)
      refine Tr.cond_t rfl rfl ?_
      refine Tr.seq ?_
      refine Tr.region ?_
      refine TrL.v (v_assign rfl rfl) rfl rfl (bl rfl) ?_
      refine TrL.nil (qthen_n ?_)
      have hz := Option.some.inj H
      subst hz
      refine Tr.ret (qthen_r (ret_r ⟨[(2, .int .i64 2)], [], [], []⟩ [.int .i64 2] [] [] (Imp.re _ [] [] (sc rfl sn) (by decide) rfl rfl rfl) rfl rfl ⟨rfl, rfl, rfl⟩ (.cons (resv_tmp rfl) .nil)))
    · refine TrL.cons_yes rfl rfl rfl (bf_b h16) (OpTr.v (v_fieldAddr' rfl fo77_4 rfl rfl) rfl (bl rfl) ?_)
      refine TrL.cons_yes rfl rfl rfl (bf_b h16) (OpTr.v (v_load (k := 0) rfl rfl rfl ty71 (fun _ => rfl) rfl rfl) rfl (bl rfl) ?_)
      refine TrL.cons_yes rfl rfl rfl (bf_b h16) (OpTr.v (v_len rfl sl71 rfl) rfl (bl rfl) ?_)
      refine TrL.cons_yes rfl rfl rfl (bf_b h16) (OpTr.v (v_fieldAddr' rfl fo77_1 rfl rfl) rfl (bl rfl) ?_)
      refine TrL.cons_yes rfl rfl rfl (bf_b h16) (OpTr.v (v_load (k := 0) rfl rfl rfl ty3 (fun _ => rfl) rfl rfl) rfl (bl rfl) ?_)
      refine TrL.cons_yes rfl rfl rfl (bf_b h16) (OpTr.v (v_arith rfl rfl rfl ar_gtr) rfl (bl rfl) ?_)
      refine TrL.v (v_pick_f rfl rfl (bf_b h16) rfl) rfl rfl (bl rfl) ?_
      refine TrL.v (v_move rfl rfl) rfl rfl (bl rfl) ?_
      rcases ifc H with ⟨h17, H⟩ | ⟨h17, H⟩
      · refine TrL.cons_no rfl rfl rfl (gn_f (bt_dec h17)) rfl (bl rfl) ?_
        refine TrL.cons_no rfl rfl rfl (gn_f (bt_dec h17)) rfl (bl rfl) ?_
        refine TrL.cons_no rfl rfl rfl (gn_f (bt_dec h17)) rfl (bl rfl) ?_
        refine TrL.cons_no rfl rfl rfl (gn_f (bt_dec h17)) rfl (bl rfl) ?_
        refine TrL.cons_no rfl rfl rfl (gn_f (bt_dec h17)) rfl (bl rfl) ?_
        refine TrL.v (v_pick_t rfl rfl (bt_dec h17) rfl) rfl rfl (bl rfl) ?_
        refine TrL.v (v_move rfl rfl) rfl rfl (bl rfl) ?_
        refine TrL.cons_no rfl rfl rfl (gn_f rfl) rfl (bl rfl) ?_
        refine TrL.cons_no rfl rfl rfl (gn_f rfl) rfl (bl rfl) ?_
        refine TrL.cons_no rfl rfl rfl (gn_f rfl) rfl (bl rfl) ?_
        refine TrL.v (v_pick_t rfl rfl rfl rfl) rfl rfl (bl rfl) ?_
        refine TrL.v (v_move rfl rfl) rfl rfl (bl rfl) ?_
        refine TrL.cons_no rfl rfl rfl (gn_f rfl) rfl (bl rfl) ?_
        refine TrL.cons_no rfl rfl rfl (gn_f rfl) rfl (bl rfl) ?_
        refine TrL.cons_no rfl rfl rfl (gn_f rfl) rfl (bl rfl) ?_
        refine TrL.cons_no rfl rfl rfl (gn_f rfl) rfl (bl rfl) ?_
        refine TrL.cons_no rfl rfl rfl (gn_f rfl) rfl (bl rfl) ?_
        refine TrL.cons_no rfl rfl rfl (gn_f rfl) rfl (bl rfl) ?_
        refine TrL.cons_no rfl rfl rfl (gn_f rfl) rfl (bl rfl) ?_
        refine TrL.cons_no rfl rfl rfl (gn_f rfl) rfl (bl rfl) ?_
        refine TrL.v (v_pick_t rfl rfl rfl rfl) rfl rfl (bl rfl) ?_
        refine TrL.nil (qthen_n ?_)
        refine Tr.cond_t rfl rfl ?_
        refine Tr.seq ?_
        refine Tr.region ?_
        refine TrL.v (v_assign rfl rfl) rfl rfl (bl rfl) ?_
        refine TrL.nil (qthen_n ?_)
        have hz := Option.some.inj H
        subst hz
        refine Tr.ret (qthen_r (ret_r ⟨[(2, .int .i64 2)], [], [], []⟩ [.int .i64 2] [] [] (Imp.re _ [] [] (sc rfl sn) (by decide) rfl rfl rfl) rfl rfl ⟨rfl, rfl, rfl⟩ (.cons (resv_tmp rfl) .nil)))
      · refine TrL.cons_yes rfl rfl rfl (bf_dec h17) (OpTr.v (v_fieldAddr' rfl fo77_3 rfl rfl) rfl (bl rfl) ?_)
        refine TrL.cons_yes rfl rfl rfl (bf_dec h17) (OpTr.v (v_load (k := 0) rfl rfl rfl ty28 (fun _ => rfl) rfl rfl) rfl (bl rfl) ?_)
        refine TrL.cons_yes rfl rfl rfl (bf_dec h17) (OpTr.v (v_fieldAddr' rfl fo77_2 rfl rfl) rfl (bl rfl) ?_)
        refine TrL.cons_yes rfl rfl rfl (bf_dec h17) (OpTr.v (v_load (k := 0) rfl rfl rfl ty28 (fun _ => rfl) rfl rfl) rfl (bl rfl) ?_)
        refine TrL.cons_yes rfl rfl rfl (bf_dec h17) (OpTr.v (v_arith rfl rfl rfl ar_gtr) rfl (bl rfl) ?_)
        refine TrL.v (v_pick_f rfl rfl (bf_dec h17) rfl) rfl rfl (bl rfl) ?_
        refine TrL.v (v_move rfl rfl) rfl rfl (bl rfl) ?_
        rcases ifc H with ⟨h18, H⟩ | ⟨h18, H⟩
        · refine TrL.cons_no rfl rfl rfl (gn_f (bt_dec h18)) rfl (bl rfl) ?_
          refine TrL.cons_no rfl rfl rfl (gn_f (bt_dec h18)) rfl (bl rfl) ?_
          refine TrL.cons_no rfl rfl rfl (gn_f (bt_dec h18)) rfl (bl rfl) ?_
          refine TrL.v (v_pick_t rfl rfl (bt_dec h18) rfl) rfl rfl (bl rfl) ?_
          refine TrL.v (v_move rfl rfl) rfl rfl (bl rfl) ?_
          refine TrL.cons_no rfl rfl rfl (gn_f rfl) rfl (bl rfl) ?_
          refine TrL.cons_no rfl rfl rfl (gn_f rfl) rfl (bl rfl) ?_
          refine TrL.cons_no rfl rfl rfl (gn_f rfl) rfl (bl rfl) ?_
          refine TrL.cons_no rfl rfl rfl (gn_f rfl) rfl (bl rfl) ?_
          refine TrL.cons_no rfl rfl rfl (gn_f rfl) rfl (bl rfl) ?_
          refine TrL.cons_no rfl rfl rfl (gn_f rfl) rfl (bl rfl) ?_
          refine TrL.cons_no rfl rfl rfl (gn_f rfl) rfl (bl rfl) ?_
          refine TrL.cons_no rfl rfl rfl (gn_f rfl) rfl (bl rfl) ?_
          refine TrL.v (v_pick_t rfl rfl rfl rfl) rfl rfl (bl rfl) ?_
          refine TrL.nil (qthen_n ?_)
          refine Tr.cond_t rfl rfl ?_
          refine Tr.seq ?_
          refine Tr.region ?_
          refine TrL.v (v_assign rfl rfl) rfl rfl (bl rfl) ?_
          refine TrL.nil (qthen_n ?_)
          have hz := Option.some.inj H
          subst hz
          refine Tr.ret (qthen_r (ret_r ⟨[(2, .int .i64 2)], [], [], []⟩ [.int .i64 2] [] [] (Imp.re _ [] [] (sc rfl sn) (by decide) rfl rfl rfl) rfl rfl ⟨rfl, rfl, rfl⟩ (.cons (resv_tmp rfl) .nil)))
        · refine TrL.cons_yes rfl rfl rfl (bf_dec h18) (OpTr.v (v_fieldAddr' rfl fo77_2 rfl rfl) rfl (bl rfl) ?_)
          refine TrL.cons_yes rfl rfl rfl (bf_dec h18) (OpTr.v (v_load (k := 0) rfl rfl rfl ty28 (fun _ => rfl) rfl rfl) rfl (bl rfl) ?_)
          refine TrL.cons_yes rfl rfl rfl (bf_dec h18) (OpTr.v (v_arith rfl rfl rfl ar_gtr) rfl (bl rfl) ?_)
          refine TrL.v (v_pick_f rfl rfl (bf_dec h18) rfl) rfl rfl (bl rfl) ?_
          refine TrL.v (v_move rfl rfl) rfl rfl (bl rfl) ?_
          rcases ifc H with ⟨h19, H⟩ | ⟨h19, H⟩
          · refine TrL.cons_no rfl rfl rfl (gn_f (bt_dec h19)) rfl (bl rfl) ?_
            refine TrL.cons_no rfl rfl rfl (gn_f (bt_dec h19)) rfl (bl rfl) ?_
            refine TrL.cons_no rfl rfl rfl (gn_f (bt_dec h19)) rfl (bl rfl) ?_
            refine TrL.cons_no rfl rfl rfl (gn_f (bt_dec h19)) rfl (bl rfl) ?_
            refine TrL.cons_no rfl rfl rfl (gn_f (bt_dec h19)) rfl (bl rfl) ?_
            refine TrL.cons_no rfl rfl rfl (gn_f (bt_dec h19)) rfl (bl rfl) ?_
            refine TrL.cons_no rfl rfl rfl (gn_f (bt_dec h19)) rfl (bl rfl) ?_
            refine TrL.cons_no rfl rfl rfl (gn_f (bt_dec h19)) rfl (bl rfl) ?_
            refine TrL.v (v_pick_t rfl rfl (bt_dec h19) rfl) rfl rfl (bl rfl) ?_
            refine TrL.nil (qthen_n ?_)
            refine Tr.cond_t rfl rfl ?_
            refine Tr.seq ?_
            refine Tr.region ?_
            refine TrL.v (v_assign rfl rfl) rfl rfl (bl rfl) ?_
            refine TrL.nil (qthen_n ?_)
            have hz := Option.some.inj H
            subst hz
            refine Tr.ret (qthen_r (ret_r ⟨[(2, .int .i64 2)], [], [], []⟩ [.int .i64 2] [] [] (Imp.re _ [] [] (sc rfl sn) (by decide) rfl rfl rfl) rfl rfl ⟨rfl, rfl, rfl⟩ (.cons (resv_tmp rfl) .nil)))
          · refine TrL.cons_yes rfl rfl rfl (bf_dec h19) (OpTr.v (v_fieldAddr' rfl fo77_2 rfl rfl) rfl (bl rfl) ?_)
            refine TrL.cons_yes rfl rfl rfl (bf_dec h19) (OpTr.v (v_load (k := 0) rfl rfl rfl ty28 (fun _ => rfl) rfl rfl) rfl (bl rfl) ?_)
            refine TrL.cons_yes rfl rfl rfl (bf_dec h19) (OpTr.v (v_fieldAddr' rfl fo77_3 rfl rfl) rfl (bl rfl) ?_)
            refine TrL.cons_yes rfl rfl rfl (bf_dec h19) (OpTr.v (v_load (k := 0) rfl rfl rfl ty28 (fun _ => rfl) rfl rfl) rfl (bl rfl) ?_)
            refine TrL.cons_yes rfl rfl rfl (bf_dec h19) (OpTr.v (v_arith rfl rfl rfl ar_sub_u64) rfl (bl rfl) ?_)
            refine TrL.cons_yes rfl rfl rfl (bf_dec h19) (OpTr.v (v_fieldAddr' rfl fo77_0 rfl rfl) rfl (bl rfl) ?_)
            refine TrL.cons_yes rfl rfl rfl (bf_dec h19) (OpTr.v (v_load (k := 0) rfl rfl rfl ty28 (fun _ => rfl) rfl rfl) rfl (bl rfl) ?_)
            refine TrL.cons_yes rfl rfl rfl (bf_dec h19) (OpTr.v (v_arith rfl rfl rfl ar_gtr) rfl (bl rfl) ?_)
            refine TrL.v (v_pick_f rfl rfl (bf_dec h19) rfl) rfl rfl (bl rfl) ?_
            refine TrL.nil (qthen_n ?_)
            rcases ifc H with ⟨h20, H⟩ | ⟨h20, H⟩
            · refine Tr.cond_t rfl (bt_dec h20) ?_
              refine Tr.seq ?_
              refine Tr.region ?_
              refine TrL.v (v_assign rfl rfl) rfl rfl (bl rfl) ?_
              refine TrL.nil (qthen_n ?_)
              have hz := Option.some.inj H
              subst hz
              refine Tr.ret (qthen_r (ret_r ⟨[(2, .int .i64 2)], [], [], []⟩ [.int .i64 2] [] [] (Imp.re _ [] [] (sc rfl sn) (by decide) rfl rfl rfl) rfl rfl ⟨rfl, rfl, rfl⟩ (.cons (resv_tmp rfl) .nil)))
            · refine Tr.cond_f rfl (bf_dec h20) ?_
              refine Tr.skip (qthen_n ?_)
              refine Tr.seq ?_
              refine Tr.region ?_
              refine TrL.v (v_assign rfl rfl) rfl rfl (bl rfl) ?_
              refine TrL.nil (qthen_n ?_)
              have hz := Option.some.inj H
              subst hz
              refine Tr.ret (ret_r ⟨[(2, .int .i64 0)], [], [], []⟩ [.int .i64 0] [] [] (Imp.re _ [] [] (sc rfl sn) (by decide) rfl rfl rfl) rfl rfl ⟨rfl, rfl, rfl⟩ (.cons (resv_tmp rfl) .nil))
end Go.Proofs.Ytbeknohemgjfbaa.W
