/- The contracts of the walked functions: the printed walks. -/
import Derived.Test.YtbeknohemgjfbaaKc
import Derived.Test.YtbeknohemgjfbaaQc
import Derived.Test.YtbeknohemgjfbaaWhistbc
import Derived.Test.YtbeknohemgjfbaaWlaw11ac
import Derived.Test.YtbeknohemgjfbaaWrecordac
import Derived.Test.YtbeknohemgjfbaaWrecordbc
import Derived.Test.YtbeknohemgjfbaaWref06bc
namespace Go.Proofs.Ytbeknohemgjfbaa.W
open Go Go.Proofs Go.Proofs.Ytbeknohemgjfbaa.L Go.Proofs.Ytbeknohemgjfbaa.Pu
set_option linter.unusedVariables false
set_option maxHeartbeats 4000000

theorem c_law11_awake (r : Bool) (H : law11_awake = some r) :
    Ctr Try.prog 20 [] [] [] (fun ret M' F' => ret = .bool r ∧ M' = [] ∧ F' = []) := by
  unfold law11_awake at H
  refine ctr_ofI (N := 41) Try.func20 rfl Try.ntmps20 rfl (Nat.le_of_ble_eq_true rfl) (fun γ0 w0 => ?_)
  refine Tr.seq ?_
  refine Tr.region ?_
  refine TrL.v (v_assign rfl rfl) rfl rfl (bl rfl) ?_
  refine TrL.nil (qthen_n ?_)
  refine Tr.seq ?_
  refine Tr.region ?_
  refine TrL.v (v_build (vs := [.int .u64 5, .int .u64 1]) (out := [.int .u64 5, .int .u64 1]) rfl pl103 ze103 rfl rfl) rfl rfl (bl rfl) ?_
  refine TrL.cons rfl (op_buildSlice' (rp := rp_u64_u64) (xs := [((5 : Int), (1 : Int))]) (vs := [.agg #[.int .u64 5, .int .u64 1]]) (out := [.int .u64 5, .int .u64 1]) rfl (bl rfl) rfl sl22 ty103 ze103 rfl rfl (by decide) (by decide) rfl (fun γ w hF => (rowc rfl rown rfl)) (fun A5 => ?_))
  obtain ⟨r8, hr8, H⟩ := bnd H
  refine TrL.cons rfl (op_call0' (vs := [.int .i64 0, .slice A5 1 1]) (cap := []) [0] rfl rfl (bl rfl) rfl rfl en16 (c_ref06_Made ((0 : Int)) ([((5 : Int), (1 : Int))]) A5 1 r8 hr8) rfl (fun ret M' F' hR8 => ?_))
  obtain ⟨m8, rfl, rfl, rfl⟩ := hR8
  obtain ⟨r9, hr9, H⟩ := bnd H
  refine TrL.cons rfl (op_call0' (vs := [.agg #[.int .i64 r8.1, .int .i64 r8.2.1, .slice m8.1 r8.2.2.length m8.2]]) (cap := []) [1] rfl rfl (bl rfl) rfl rfl en23 (c_law11_made r8 m8.1 m8.2 r9 hr9) rfl (fun ret M' F' hR9 => ?_))
  obtain ⟨rfl, rfl, rfl⟩ := hR9
  refine TrL.cons rfl (op_alloc' rfl (bl rfl) rfl ze35 (fun b4 => ?_))
  refine TrL.cons rfl (op_store' (k := 0) (c' := [.int .i64 r8.1, .int .i64 r8.2.1, .slice m8.1 r8.2.2.length m8.2]) rfl rfl rfl rfl rfl ty35 rfl (Nat.le_of_ble_eq_true rfl) (ones (oc rfl (oc rfl (oc rfl on)))) rfl ?_)
  refine TrL.nil (qthen_n ?_)
  refine Tr.seq ?_
  refine Tr.region ?_
  refine TrL.v (v_load (k := 0) rfl rfl rfl ty35 nofun rfl rfl) rfl rfl (bl rfl) ?_
  obtain ⟨r10, hr10, H⟩ := bnd H
  refine TrL.cons rfl (op_call0' (vs := [.agg #[.int .i64 r8.1, .int .i64 r8.2.1, .slice m8.1 r8.2.2.length m8.2]]) (cap := []) [1] rfl rfl (bl rfl) rfl rfl en22 (c_record_Put r8 m8.1 m8.2 r10 hr10) rfl (fun ret M' F' hR10 => ?_))
  obtain ⟨m10, rfl, rfl, rfl⟩ := hR10
  refine TrL.v (v_assign rfl rfl) rfl rfl (bl rfl) ?_
  refine TrL.nil (qthen_n ?_)
  refine Tr.seq ?_
  refine Tr.region ?_
  refine TrL.v (v_move rfl rfl) rfl rfl (bl rfl) ?_
  obtain ⟨r11, hr11, H⟩ := bnd H
  refine TrL.cons rfl (op_call0' (vs := [.slice m10.1 r10.length m10.2]) (cap := []) [3] rfl rfl (bl rfl) rfl rfl en25 (c_record_One r10 m10.1 m10.2 r11 hr11) rfl (fun ret M' F' hR11 => ?_))
  obtain ⟨m11, rfl, rfl, rfl⟩ := hR11
  refine TrL.v (v_move rfl rfl) rfl rfl (bl rfl) ?_
  refine TrL.v (v_extract rfl rfl rfl) rfl rfl (bl rfl) ?_
  refine TrL.v (v_extract rfl rfl rfl) rfl rfl (bl rfl) ?_
  refine TrL.cons rfl (op_alloc' rfl (bl rfl) rfl ze35 (fun b5 => ?_))
  refine TrL.cons rfl (op_store' (k := 0) (c' := [.int .i64 r11.1, .int .i64 r11.2.1, .slice m11.1 r11.2.2.1.length m11.2]) rfl rfl rfl rfl rfl ty35 rfl (Nat.le_of_ble_eq_true rfl) (ones (oc rfl (oc rfl (oc rfl on)))) rfl ?_)
  refine TrL.v (v_assign rfl rfl) rfl rfl (bl rfl) ?_
  refine TrL.nil (qthen_n ?_)
  refine Tr.seq ?_
  refine Tr.region ?_
  refine TrL.cons rfl (op_buildSlice' (rp := (rInt .u8)) (xs := [(2 : Int), (0 : Int), (1 : Int), (0 : Int)]) (vs := [.int .u8 2, .int .u8 0, .int .u8 1, .int .u8 0]) (out := [.int .u8 2, .int .u8 0, .int .u8 1, .int .u8 0]) rfl (bl rfl) rfl sl40 ty5 ze5 rfl rfl (by decide) (by decide) rfl (fun γ w hF => (rowc rfl (rowc rfl (rowc rfl (rowc rfl rown rfl) rfl) rfl) rfl)) (fun A6 => ?_))
  obtain ⟨r12, hr12, H⟩ := bnd H
  refine TrL.cons rfl (op_call0' (vs := [.slice A6 4 4]) (cap := []) [5] rfl rfl (bl rfl) rfl rfl en25 (c_record_One ([(2 : Int), (0 : Int), (1 : Int), (0 : Int)]) A6 4 r12 hr12) rfl (fun ret M' F' hR12 => ?_))
  obtain ⟨m12, rfl, rfl, rfl⟩ := hR12
  refine TrL.v (v_move rfl rfl) rfl rfl (bl rfl) ?_
  refine TrL.v (v_extract rfl rfl rfl) rfl rfl (bl rfl) ?_
  refine TrL.v (v_extract rfl rfl rfl) rfl rfl (bl rfl) ?_
  refine TrL.cons rfl (op_alloc' rfl (bl rfl) rfl ze35 (fun b6 => ?_))
  refine TrL.cons rfl (op_store' (k := 0) (c' := [.int .i64 r12.1, .int .i64 r12.2.1, .slice m12.1 r12.2.2.1.length m12.2]) rfl rfl rfl rfl rfl ty35 rfl (Nat.le_of_ble_eq_true rfl) (ones (oc rfl (oc rfl (oc rfl on)))) rfl ?_)
  refine TrL.v (v_assign rfl rfl) rfl rfl (bl rfl) ?_
  refine TrL.nil (qthen_n ?_)
  refine Tr.seq ?_
  refine Tr.region ?_
  refine TrL.v (v_move rfl rfl) rfl rfl (bl rfl) ?_
  refine TrL.v (v_bstr (k := 3) rfl Try.underlying40 Try.underlying5 Try.underlying9 rfl rfl rfl) rfl rfl (bl rfl) ?_
  refine TrL.cons rfl (op_buildSlice' (rp := (rInt .u8)) (xs := [(2 : Int), (0 : Int), (1 : Int), (1 : Int), (5 : Int), (0 : Int)]) (vs := [.int .u8 2, .int .u8 0, .int .u8 1, .int .u8 1, .int .u8 5, .int .u8 0]) (out := [.int .u8 2, .int .u8 0, .int .u8 1, .int .u8 1, .int .u8 5, .int .u8 0]) rfl (bl rfl) rfl sl40 ty5 ze5 rfl rfl (by decide) (by decide) rfl (fun γ w hF => (rowc rfl (rowc rfl (rowc rfl (rowc rfl (rowc rfl (rowc rfl rown rfl) rfl) rfl) rfl) rfl) rfl)) (fun A8 => ?_))
  refine TrL.v (v_bstr (k := 7) rfl Try.underlying40 Try.underlying5 Try.underlying9 rfl rfl rfl) rfl rfl (bl rfl) ?_
  refine TrL.v (v_streq rfl rfl rfl) rfl rfl (bl rfl) ?_
  refine TrL.v (v_move rfl rfl) rfl rfl (bl rfl) ?_
  rcases ifc H with ⟨h10, H⟩ | ⟨h10, H⟩
  · refine TrL.cons_yes rfl rfl rfl (bt_dec h10) (OpTr.v (v_move rfl rfl) rfl (bl rfl) ?_)
    refine TrL.cons_yes rfl rfl rfl (bt_dec h10) (OpTr.v (v_arith rfl rfl rfl ar_eql) rfl (bl rfl) ?_)
    refine TrL.v (v_pick_t rfl rfl (bt_dec h10) rfl) rfl rfl (bl rfl) ?_
    refine TrL.v (v_move rfl rfl) rfl rfl (bl rfl) ?_
    rcases ifc H with ⟨h11, H⟩ | ⟨h11, H⟩
    · refine TrL.cons_yes rfl rfl rfl (bt_dec h11) (OpTr.v (v_load (k := 1) rfl rfl rfl ty35 nofun rfl rfl) rfl (bl rfl) ?_)
      refine TrL.cons_yes rfl rfl rfl (bt_dec h11) (OpTr.v (v_load (k := 2) rfl rfl rfl ty35 nofun rfl rfl) rfl (bl rfl) ?_)
      obtain ⟨r14, hr14, H⟩ := bnd H
      refine TrL.cons_yes rfl rfl rfl (bt_dec h11) (op_call0' (vs := [.agg #[.int .i64 r11.1, .int .i64 r11.2.1, .slice m11.1 r11.2.2.1.length m11.2], .agg #[.int .i64 r8.1, .int .i64 r8.2.1, .slice m8.1 r8.2.2.length m8.2]]) (cap := []) [4, 1] rfl rfl (bl rfl) rfl rfl en63 (c_hist_Same ((r11.1, r11.2.1, r11.2.2.1)) r8 m11.1 m11.2 m8.1 m8.2 r14 hr14) rfl (fun ret M' F' hR14 => ?_))
      obtain ⟨rfl, rfl, rfl⟩ := hR14
      refine TrL.v (v_pick_t rfl rfl (bt_dec h11) rfl) rfl rfl (bl rfl) ?_
      refine TrL.v (v_move rfl rfl) rfl rfl (bl rfl) ?_
      rcases ifc H with ⟨h12, H⟩ | ⟨h12, H⟩
      · refine TrL.cons_yes rfl rfl rfl h12 (OpTr.v (v_move rfl rfl) rfl (bl rfl) ?_)
        refine TrL.cons_yes rfl rfl rfl h12 (OpTr.v (v_arith rfl rfl rfl ar_eql) rfl (bl rfl) ?_)
        refine TrL.v (v_pick_t rfl rfl h12 rfl) rfl rfl (bl rfl) ?_
        refine TrL.v (v_assign rfl rfl) rfl rfl (bl rfl) ?_
        refine TrL.nil (qthen_n ?_)
        have hz := Option.some.inj H
        subst hz
        refine Tr.ret (ret_r ⟨[(0, .bool (decide (r12.2.2.2 = 2)))], [], [], []⟩ [.bool (decide (r12.2.2.2 = 2))] [] [] (Imp.re _ [] [] (sc rfl sn) (by decide) rfl rfl rfl) rfl rfl ⟨rfl, rfl, rfl⟩ (.cons (resv_tmp rfl) .nil))
      · refine TrL.cons_no rfl rfl rfl (gn_t (bf_b h12)) rfl (bl rfl) ?_
        refine TrL.cons_no rfl rfl rfl (gn_t (bf_b h12)) rfl (bl rfl) ?_
        refine TrL.v (v_pick_f rfl rfl (bf_b h12) rfl) rfl rfl (bl rfl) ?_
        refine TrL.v (v_assign rfl rfl) rfl rfl (bl rfl) ?_
        refine TrL.nil (qthen_n ?_)
        have hz := Option.some.inj H
        subst hz
        refine Tr.ret (ret_r ⟨[(0, .bool false)], [], [], []⟩ [.bool false] [] [] (Imp.re _ [] [] (sc rfl sn) (by decide) rfl rfl rfl) rfl rfl ⟨rfl, rfl, rfl⟩ (.cons (resv_tmp rfl) .nil))
    · refine TrL.cons_no rfl rfl rfl (gn_t (bf_dec h11)) rfl (bl rfl) ?_
      refine TrL.cons_no rfl rfl rfl (gn_t (bf_dec h11)) rfl (bl rfl) ?_
      refine TrL.cons_no rfl rfl rfl (gn_t (bf_dec h11)) rfl (bl rfl) ?_
      refine TrL.v (v_pick_f rfl rfl (bf_dec h11) rfl) rfl rfl (bl rfl) ?_
      refine TrL.v (v_move rfl rfl) rfl rfl (bl rfl) ?_
      refine TrL.cons_no rfl rfl rfl (gn_t rfl) rfl (bl rfl) ?_
      refine TrL.cons_no rfl rfl rfl (gn_t rfl) rfl (bl rfl) ?_
      refine TrL.v (v_pick_f rfl rfl rfl rfl) rfl rfl (bl rfl) ?_
      refine TrL.v (v_assign rfl rfl) rfl rfl (bl rfl) ?_
      refine TrL.nil (qthen_n ?_)
      have hz := Option.some.inj H
      subst hz
      refine Tr.ret (ret_r ⟨[(0, .bool false)], [], [], []⟩ [.bool false] [] [] (Imp.re _ [] [] (sc rfl sn) (by decide) rfl rfl rfl) rfl rfl ⟨rfl, rfl, rfl⟩ (.cons (resv_tmp rfl) .nil))
  · refine TrL.cons_no rfl rfl rfl (gn_t (bf_dec h10)) rfl (bl rfl) ?_
    refine TrL.cons_no rfl rfl rfl (gn_t (bf_dec h10)) rfl (bl rfl) ?_
    refine TrL.v (v_pick_f rfl rfl (bf_dec h10) rfl) rfl rfl (bl rfl) ?_
    refine TrL.v (v_move rfl rfl) rfl rfl (bl rfl) ?_
    refine TrL.cons_no rfl rfl rfl (gn_t rfl) rfl (bl rfl) ?_
    refine TrL.cons_no rfl rfl rfl (gn_t rfl) rfl (bl rfl) ?_
    refine TrL.cons_no rfl rfl rfl (gn_t rfl) rfl (bl rfl) ?_
    refine TrL.v (v_pick_f rfl rfl rfl rfl) rfl rfl (bl rfl) ?_
    refine TrL.v (v_move rfl rfl) rfl rfl (bl rfl) ?_
    refine TrL.cons_no rfl rfl rfl (gn_t rfl) rfl (bl rfl) ?_
    refine TrL.cons_no rfl rfl rfl (gn_t rfl) rfl (bl rfl) ?_
    refine TrL.v (v_pick_f rfl rfl rfl rfl) rfl rfl (bl rfl) ?_
    refine TrL.v (v_assign rfl rfl) rfl rfl (bl rfl) ?_
    refine TrL.nil (qthen_n ?_)
    have hz := Option.some.inj H
    subst hz
    refine Tr.ret (ret_r ⟨[(0, .bool false)], [], [], []⟩ [.bool false] [] [] (Imp.re _ [] [] (sc rfl sn) (by decide) rfl rfl rfl) rfl rfl ⟨rfl, rfl, rfl⟩ (.cons (resv_tmp rfl) .nil))
end Go.Proofs.Ytbeknohemgjfbaa.W
