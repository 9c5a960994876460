/- The contracts of the walked functions: the printed walks. -/
import Derived.Test.YtbeknohemgjfbaaKc
import Derived.Test.YtbeknohemgjfbaaQc
import Derived.Test.YtbeknohemgjfbaaWbufferac
import Derived.Test.YtbeknohemgjfbaaWbufferbc
import Derived.Test.YtbeknohemgjfbaaWbuffercc
namespace Go.Proofs.Ytbeknohemgjfbaa.W
open Go Go.Proofs Go.Proofs.Ytbeknohemgjfbaa.L Go.Proofs.Ytbeknohemgjfbaa.Pu
set_option linter.unusedVariables false
set_option maxHeartbeats 4000000

theorem c_law12_awake (r : Bool) (H : law12_awake = some r) :
    Ctr Try.prog 37 [] [] [] (fun ret M' F' => ret = .bool r ∧ M' = [] ∧ F' = []) := by
  unfold law12_awake at H
  refine ctr_ofI (N := 93) Try.func37 rfl Try.ntmps37 rfl (Nat.le_of_ble_eq_true rfl) (fun γ0 w0 => ?_)
  refine Tr.seq ?_
  refine Tr.region ?_
  refine TrL.v (v_assign rfl rfl) rfl rfl (bl rfl) ?_
  refine TrL.nil (qthen_n ?_)
  refine Tr.seq ?_
  refine Tr.region ?_
  obtain ⟨r10, hr10, H⟩ := bnd H
  refine TrL.cons rfl (op_call0' (vs := [.int .u64 2, .int .i64 9]) (cap := []) [] rfl rfl (bl rfl) rfl rfl en82 (c_buffer_New ((2 : Int)) ((9 : Int)) r10 hr10) rfl (fun ret M' F' hR10 => ?_))
  obtain ⟨rfl, rfl, rfl⟩ := hR10
  refine TrL.v (v_move rfl rfl) rfl rfl (bl rfl) ?_
  refine TrL.v (v_extract rfl rfl rfl) rfl rfl (bl rfl) ?_
  refine TrL.v (v_extract rfl rfl rfl) rfl rfl (bl rfl) ?_
  refine TrL.cons rfl (op_alloc' rfl (bl rfl) rfl ze77 (fun b6 => ?_))
  refine TrL.cons rfl (op_store' (k := 0) (c' := [.int .u64 r10.1, .int .i64 r10.2.1, .int .u64 0, .int .u64 0, .slice none 0 0]) rfl rfl rfl rfl rfl ty77 rfl (Nat.le_of_ble_eq_true rfl) (ones (oc rfl (oc rfl (oc rfl (oc rfl (oc rfl on)))))) rfl ?_)
  refine TrL.v (v_assign rfl rfl) rfl rfl (bl rfl) ?_
  refine TrL.nil (qthen_n ?_)
  refine Tr.seq ?_
  refine Tr.region ?_
  refine TrL.v (v_load (k := 0) rfl rfl rfl ty77 nofun rfl rfl) rfl rfl (bl rfl) ?_
  refine TrL.v (v_build (vs := [.int .u64 5, .int .u64 1]) (out := [.int .u64 5, .int .u64 0, .int .u64 1]) rfl pl85 ze85 rfl rfl) rfl rfl (bl rfl) ?_
  obtain ⟨r11, hr11, H⟩ := bnd H
  refine TrL.cons rfl (op_call0' (vs := [.agg #[.int .u64 r10.1, .int .i64 r10.2.1, .int .u64 0, .int .u64 0, .slice none 0 0], .agg #[.int .u64 5, .int .u64 0, .int .u64 1]]) (cap := []) [0] rfl rfl (bl rfl) rfl rfl en83 (c_buffer_Push ((r10.1, r10.2.1, (0 : Int), (0 : Int), ([] : List (Int × Int × Int)))) (((5 : Int), (0 : Int), (1 : Int))) none 0 r11 hr11) rfl (fun ret M' F' hR11 => ?_))
  obtain ⟨m11, rfl, rfl, rfl⟩ := hR11
  refine TrL.v (v_move rfl rfl) rfl rfl (bl rfl) ?_
  refine TrL.v (v_extract rfl rfl rfl) rfl rfl (bl rfl) ?_
  refine TrL.v (v_extract rfl rfl rfl) rfl rfl (bl rfl) ?_
  refine TrL.v (v_extract rfl rfl rfl) rfl rfl (bl rfl) ?_
  refine TrL.cons rfl (op_alloc' rfl (bl rfl) rfl ze77 (fun b7 => ?_))
  refine TrL.cons rfl (op_store' (k := 0) (c' := [.int .u64 r11.1, .int .i64 r11.2.1, .int .u64 r11.2.2.1, .int .u64 r11.2.2.2.1, .slice m11.1 r11.2.2.2.2.1.length m11.2.1]) rfl rfl rfl rfl rfl ty77 rfl (Nat.le_of_ble_eq_true rfl) (ones (oc rfl (oc rfl (oc rfl (oc rfl (oc rfl on)))))) rfl ?_)
  refine TrL.v (v_assign rfl rfl) rfl rfl (bl rfl) ?_
  refine TrL.v (v_assign rfl rfl) rfl rfl (bl rfl) ?_
  refine TrL.nil (qthen_n ?_)
  refine Tr.seq ?_
  refine Tr.region ?_
  refine TrL.v (v_load (k := 0) rfl rfl rfl ty77 nofun rfl rfl) rfl rfl (bl rfl) ?_
  refine TrL.v (v_build (vs := [.int .u64 4, .int .u64 2]) (out := [.int .u64 4, .int .u64 0, .int .u64 2]) rfl pl85 ze85 rfl rfl) rfl rfl (bl rfl) ?_
  obtain ⟨r12, hr12, H⟩ := bnd H
  refine TrL.cons rfl (op_call0' (vs := [.agg #[.int .u64 r11.1, .int .i64 r11.2.1, .int .u64 r11.2.2.1, .int .u64 r11.2.2.2.1, .slice m11.1 r11.2.2.2.2.1.length m11.2.1], .agg #[.int .u64 4, .int .u64 0, .int .u64 2]]) (cap := []) [1] rfl rfl (bl rfl) rfl rfl en83 (c_buffer_Push ((r11.1, r11.2.1, r11.2.2.1, r11.2.2.2.1, r11.2.2.2.2.1)) (((4 : Int), (0 : Int), (2 : Int))) m11.1 m11.2.1 r12 hr12) rfl (fun ret M' F' hR12 => ?_))
  obtain ⟨m12, rfl, rfl, rfl⟩ := hR12
  refine TrL.v (v_move rfl rfl) rfl rfl (bl rfl) ?_
  refine TrL.v (v_extract rfl rfl rfl) rfl rfl (bl rfl) ?_
  refine TrL.v (v_extract rfl rfl rfl) rfl rfl (bl rfl) ?_
  refine TrL.v (v_extract rfl rfl rfl) rfl rfl (bl rfl) ?_
  refine TrL.cons rfl (op_alloc' rfl (bl rfl) rfl ze77 (fun b8 => ?_))
  refine TrL.cons rfl (op_store' (k := 0) (c' := [.int .u64 r12.1, .int .i64 r12.2.1, .int .u64 r12.2.2.1, .int .u64 r12.2.2.2.1, .slice m12.1 r12.2.2.2.2.1.length m12.2.1]) rfl rfl rfl rfl rfl ty77 rfl (Nat.le_of_ble_eq_true rfl) (ones (oc rfl (oc rfl (oc rfl (oc rfl (oc rfl on)))))) rfl ?_)
  refine TrL.v (v_assign rfl rfl) rfl rfl (bl rfl) ?_
  refine TrL.v (v_assign rfl rfl) rfl rfl (bl rfl) ?_
  refine TrL.nil (qthen_n ?_)
  refine Tr.seq ?_
  refine Tr.region ?_
  refine TrL.v (v_load (k := 0) rfl rfl rfl ty77 nofun rfl rfl) rfl rfl (bl rfl) ?_
  refine TrL.v (v_build (vs := [.int .u64 8, .int .u64 3]) (out := [.int .u64 8, .int .u64 0, .int .u64 3]) rfl pl85 ze85 rfl rfl) rfl rfl (bl rfl) ?_
  obtain ⟨r13, hr13, H⟩ := bnd H
  refine TrL.cons rfl (op_call0' (vs := [.agg #[.int .u64 r12.1, .int .i64 r12.2.1, .int .u64 r12.2.2.1, .int .u64 r12.2.2.2.1, .slice m12.1 r12.2.2.2.2.1.length m12.2.1], .agg #[.int .u64 8, .int .u64 0, .int .u64 3]]) (cap := []) [3] rfl rfl (bl rfl) rfl rfl en83 (c_buffer_Push ((r12.1, r12.2.1, r12.2.2.1, r12.2.2.2.1, r12.2.2.2.2.1)) (((8 : Int), (0 : Int), (3 : Int))) m12.1 m12.2.1 r13 hr13) rfl (fun ret M' F' hR13 => ?_))
  obtain ⟨m13, rfl, rfl, rfl⟩ := hR13
  refine TrL.v (v_move rfl rfl) rfl rfl (bl rfl) ?_
  refine TrL.v (v_extract rfl rfl rfl) rfl rfl (bl rfl) ?_
  refine TrL.v (v_extract rfl rfl rfl) rfl rfl (bl rfl) ?_
  refine TrL.v (v_extract rfl rfl rfl) rfl rfl (bl rfl) ?_
  refine TrL.cons rfl (op_alloc' rfl (bl rfl) rfl ze77 (fun b9 => ?_))
  refine TrL.cons rfl (op_store' (k := 0) (c' := [.int .u64 r13.1, .int .i64 r13.2.1, .int .u64 r13.2.2.1, .int .u64 r13.2.2.2.1, .slice m13.1 r13.2.2.2.2.1.length m13.2.1]) rfl rfl rfl rfl rfl ty77 rfl (Nat.le_of_ble_eq_true rfl) (ones (oc rfl (oc rfl (oc rfl (oc rfl (oc rfl on)))))) rfl ?_)
  refine TrL.v (v_assign rfl rfl) rfl rfl (bl rfl) ?_
  refine TrL.v (v_assign rfl rfl) rfl rfl (bl rfl) ?_
  refine TrL.nil (qthen_n ?_)
  refine Tr.seq ?_
  refine Tr.region ?_
  refine TrL.v (v_load (k := 0) rfl rfl rfl ty77 nofun rfl rfl) rfl rfl (bl rfl) ?_
  refine TrL.v (v_build (vs := [.int .u64 5, .int .u64 1]) (out := [.int .u64 5, .int .u64 0, .int .u64 1]) rfl pl85 ze85 rfl rfl) rfl rfl (bl rfl) ?_
  obtain ⟨r14, hr14, H⟩ := bnd H
  refine TrL.cons rfl (op_call0' (vs := [.agg #[.int .u64 r13.1, .int .i64 r13.2.1, .int .u64 r13.2.2.1, .int .u64 r13.2.2.2.1, .slice m13.1 r13.2.2.2.2.1.length m13.2.1], .agg #[.int .u64 5, .int .u64 0, .int .u64 1]]) (cap := []) [5] rfl rfl (bl rfl) rfl rfl en83 (c_buffer_Push ((r13.1, r13.2.1, r13.2.2.1, r13.2.2.2.1, r13.2.2.2.2.1)) (((5 : Int), (0 : Int), (1 : Int))) m13.1 m13.2.1 r14 hr14) rfl (fun ret M' F' hR14 => ?_))
  obtain ⟨m14, rfl, rfl, rfl⟩ := hR14
  refine TrL.v (v_move rfl rfl) rfl rfl (bl rfl) ?_
  refine TrL.v (v_extract rfl rfl rfl) rfl rfl (bl rfl) ?_
  refine TrL.v (v_extract rfl rfl rfl) rfl rfl (bl rfl) ?_
  refine TrL.v (v_extract rfl rfl rfl) rfl rfl (bl rfl) ?_
  refine TrL.cons rfl (op_alloc' rfl (bl rfl) rfl ze77 (fun b10 => ?_))
  refine TrL.cons rfl (op_store' (k := 0) (c' := [.int .u64 r14.1, .int .i64 r14.2.1, .int .u64 r14.2.2.1, .int .u64 r14.2.2.2.1, .slice m14.1 r14.2.2.2.2.1.length m14.2.1]) rfl rfl rfl rfl rfl ty77 rfl (Nat.le_of_ble_eq_true rfl) (ones (oc rfl (oc rfl (oc rfl (oc rfl (oc rfl on)))))) rfl ?_)
  refine TrL.v (v_assign rfl rfl) rfl rfl (bl rfl) ?_
  refine TrL.v (v_assign rfl rfl) rfl rfl (bl rfl) ?_
  refine TrL.nil (qthen_n ?_)
  refine Tr.seq ?_
  refine Tr.region ?_
  refine TrL.v (v_move rfl rfl) rfl rfl (bl rfl) ?_
  refine TrL.v (v_arith rfl rfl rfl ar_eql) rfl rfl (bl rfl) ?_
  refine TrL.v (v_move rfl rfl) rfl rfl (bl rfl) ?_
  rcases ifc H with ⟨h28, H⟩ | ⟨h28, H⟩
  · refine TrL.cons_yes rfl rfl rfl (bt_dec h28) (OpTr.v (v_move rfl rfl) rfl (bl rfl) ?_)
    refine TrL.cons_yes rfl rfl rfl (bt_dec h28) (OpTr.v (v_arith rfl rfl rfl ar_eql) rfl (bl rfl) ?_)
    refine TrL.v (v_pick_t rfl rfl (bt_dec h28) rfl) rfl rfl (bl rfl) ?_
    refine TrL.v (v_move rfl rfl) rfl rfl (bl rfl) ?_
    rcases ifc H with ⟨h29, H⟩ | ⟨h29, H⟩
    · refine TrL.cons_yes rfl rfl rfl (bt_dec h29) (OpTr.v (v_move rfl rfl) rfl (bl rfl) ?_)
      refine TrL.cons_yes rfl rfl rfl (bt_dec h29) (OpTr.v (v_arith rfl rfl rfl ar_eql) rfl (bl rfl) ?_)
      refine TrL.v (v_pick_t rfl rfl (bt_dec h29) rfl) rfl rfl (bl rfl) ?_
      refine TrL.v (v_move rfl rfl) rfl rfl (bl rfl) ?_
      rcases ifc H with ⟨h30, H⟩ | ⟨h30, H⟩
      · refine TrL.cons_yes rfl rfl rfl (bt_dec h30) (OpTr.v (v_move rfl rfl) rfl (bl rfl) ?_)
        refine TrL.cons_yes rfl rfl rfl (bt_dec h30) (OpTr.v (v_len rfl sl71 rfl) rfl (bl rfl) ?_)
        refine TrL.cons_yes rfl rfl rfl (bt_dec h30) (OpTr.v (v_arith rfl rfl rfl ar_eql) rfl (bl rfl) ?_)
        refine TrL.v (v_pick_t rfl rfl (bt_dec h30) rfl) rfl rfl (bl rfl) ?_
        refine TrL.v (v_move rfl rfl) rfl rfl (bl rfl) ?_
        rcases ifc H with ⟨h31, H⟩ | ⟨h31, H⟩
        · refine TrL.cons_yes rfl rfl rfl (bt_dec h31) (OpTr.v (v_move rfl rfl) rfl (bl rfl) ?_)
          refine TrL.cons_yes rfl rfl rfl (bt_dec h31) (OpTr.v (v_len rfl sl71 rfl) rfl (bl rfl) ?_)
          refine TrL.cons_yes rfl rfl rfl (bt_dec h31) (OpTr.v (v_arith rfl rfl rfl ar_eql) rfl (bl rfl) ?_)
          refine TrL.v (v_pick_t rfl rfl (bt_dec h31) rfl) rfl rfl (bl rfl) ?_
          refine TrL.v (v_move rfl rfl) rfl rfl (bl rfl) ?_
          rcases ifc H with ⟨h32, H⟩ | ⟨h32, H⟩
          · refine TrL.cons_yes rfl rfl rfl (bt_dec h32) (OpTr.v (v_move rfl rfl) rfl (bl rfl) ?_)
            obtain ⟨z4, hz4, H⟩ := bnd H
            refine TrL.cons_yes rfl rfl rfl (bt_dec h32) (OpTr.v (v_indexAddr (k := 6) rfl sl71 ty85 rfl rfl rfl rfl hz4) rfl (bl rfl) ?_)
            refine TrL.cons_yes rfl rfl rfl (bt_dec h32) (OpTr.v (v_fieldAddr rfl fo85_0 rfl) rfl (bl rfl) ?_)
            refine TrL.cons_yes rfl rfl rfl (bt_dec h32) (OpTr.v (v_loadg (A := m13.2.2.1) (i := 0) (j := 0) (k := 6) rfl ty28 (fun _ => rfl) rfl rfl hz4 rfl rfl) rfl (bl rfl) ?_)
            refine TrL.cons_yes rfl rfl rfl (bt_dec h32) (OpTr.v (v_arith rfl rfl rfl ar_eql) rfl (bl rfl) ?_)
            refine TrL.v (v_pick_t rfl rfl (bt_dec h32) rfl) rfl rfl (bl rfl) ?_
            refine TrL.v (v_move rfl rfl) rfl rfl (bl rfl) ?_
            rcases ifc H with ⟨h33, H⟩ | ⟨h33, H⟩
            · refine TrL.cons_yes rfl rfl rfl (bt_dec h33) (OpTr.v (v_fieldAddr' rfl fo77_3 rfl rfl) rfl (bl rfl) ?_)
              refine TrL.cons_yes rfl rfl rfl (bt_dec h33) (OpTr.v (v_load (k := 1) rfl rfl rfl ty28 (fun _ => rfl) rfl rfl) rfl (bl rfl) ?_)
              refine TrL.cons_yes rfl rfl rfl (bt_dec h33) (OpTr.v (v_arith rfl rfl rfl ar_eql) rfl (bl rfl) ?_)
              refine TrL.v (v_pick_t rfl rfl (bt_dec h33) rfl) rfl rfl (bl rfl) ?_
              refine TrL.v (v_move rfl rfl) rfl rfl (bl rfl) ?_
              rcases ifc H with ⟨h34, H⟩ | ⟨h34, H⟩
              · refine TrL.cons_yes rfl rfl rfl (bt_dec h34) (OpTr.v (v_move rfl rfl) rfl (bl rfl) ?_)
                refine TrL.cons_yes rfl rfl rfl (bt_dec h34) (OpTr.v (v_arith rfl rfl rfl ar_eql) rfl (bl rfl) ?_)
                refine TrL.v (v_pick_t rfl rfl (bt_dec h34) rfl) rfl rfl (bl rfl) ?_
                refine TrL.v (v_move rfl rfl) rfl rfl (bl rfl) ?_
                rcases ifc H with ⟨h35, H⟩ | ⟨h35, H⟩
                · refine TrL.cons_yes rfl rfl rfl (bt_dec h35) (OpTr.v (v_load (k := 1) rfl rfl rfl ty77 nofun rfl rfl) rfl (bl rfl) ?_)
                  obtain ⟨r17, hr17, H⟩ := bnd H
                  refine TrL.cons_yes rfl rfl rfl (bt_dec h35) (op_call0' (vs := [.agg #[.int .u64 r13.1, .int .i64 r13.2.1, .int .u64 r13.2.2.1, .int .u64 r13.2.2.2.1, .slice m13.1 r13.2.2.2.2.1.length m13.2.1]]) (cap := []) [5] rfl rfl (bl rfl) rfl rfl en43 (c_buffer_Weight ((r13.1, r13.2.1, r13.2.2.1, r13.2.2.2.1, r13.2.2.2.2.1)) m13.1 m13.2.1 r17 hr17) rfl (fun ret M' F' hR17 => ?_))
                  obtain ⟨rfl, rfl, rfl⟩ := hR17
                  refine TrL.cons_yes rfl rfl rfl (bt_dec h35) (OpTr.v (v_arith rfl rfl rfl ar_eql) rfl (bl rfl) ?_)
                  refine TrL.v (v_pick_t rfl rfl (bt_dec h35) rfl) rfl rfl (bl rfl) ?_
                  refine TrL.v (v_move rfl rfl) rfl rfl (bl rfl) ?_
                  rcases ifc H with ⟨h36, H⟩ | ⟨h36, H⟩
                  · refine TrL.cons_yes rfl rfl rfl (bt_dec h36) (OpTr.v (v_load (k := 1) rfl rfl rfl ty77 nofun rfl rfl) rfl (bl rfl) ?_)
                    obtain ⟨r18, hr18, H⟩ := bnd H
                    refine TrL.cons_yes rfl rfl rfl (bt_dec h36) (op_call0' (vs := [.agg #[.int .u64 r13.1, .int .i64 r13.2.1, .int .u64 r13.2.2.1, .int .u64 r13.2.2.2.1, .slice m13.1 r13.2.2.2.2.1.length m13.2.1]]) (cap := []) [5] rfl rfl (bl rfl) rfl rfl en84 (c_buffer_May ((r13.1, r13.2.1, r13.2.2.1, r13.2.2.2.1, r13.2.2.2.2.1)) m13.1 m13.2.1 r18 hr18) rfl (fun ret M' F' hR18 => ?_))
                    obtain ⟨rfl, rfl, rfl⟩ := hR18
                    refine TrL.cons_yes rfl rfl rfl (bt_dec h36) (OpTr.v (v_arith rfl rfl rfl ar_eql) rfl (bl rfl) ?_)
                    refine TrL.v (v_pick_t rfl rfl (bt_dec h36) rfl) rfl rfl (bl rfl) ?_
                    refine TrL.v (v_assign rfl rfl) rfl rfl (bl rfl) ?_
                    refine TrL.nil (qthen_n ?_)
                    have hz := Option.some.inj H
                    subst hz
                    refine Tr.ret (ret_r ⟨[(0, .bool (decide (r18 = 0)))], [], [], []⟩ [.bool (decide (r18 = 0))] [] [] (Imp.re _ [] [] (sc rfl sn) (by decide) rfl rfl rfl) rfl rfl ⟨rfl, rfl, rfl⟩ (.cons (resv_tmp rfl) .nil))
                  · refine TrL.cons_no rfl rfl rfl (gn_t (bf_dec h36)) rfl (bl rfl) ?_
                    refine TrL.cons_no rfl rfl rfl (gn_t (bf_dec h36)) rfl (bl rfl) ?_
                    refine TrL.cons_no rfl rfl rfl (gn_t (bf_dec h36)) rfl (bl rfl) ?_
                    refine TrL.v (v_pick_f rfl rfl (bf_dec h36) rfl) rfl rfl (bl rfl) ?_
                    refine TrL.v (v_assign rfl rfl) rfl rfl (bl rfl) ?_
                    refine TrL.nil (qthen_n ?_)
                    have hz := Option.some.inj H
                    subst hz
                    refine Tr.ret (ret_r ⟨[(0, .bool false)], [], [], []⟩ [.bool false] [] [] (Imp.re _ [] [] (sc rfl sn) (by decide) rfl rfl rfl) rfl rfl ⟨rfl, rfl, rfl⟩ (.cons (resv_tmp rfl) .nil))
                · refine TrL.cons_no rfl rfl rfl (gn_t (bf_dec h35)) rfl (bl rfl) ?_
                  refine TrL.cons_no rfl rfl rfl (gn_t (bf_dec h35)) rfl (bl rfl) ?_
                  refine TrL.cons_no rfl rfl rfl (gn_t (bf_dec h35)) rfl (bl rfl) ?_
                  refine TrL.v (v_pick_f rfl rfl (bf_dec h35) rfl) rfl rfl (bl rfl) ?_
                  refine TrL.v (v_move rfl rfl) rfl rfl (bl rfl) ?_
                  refine TrL.cons_no rfl rfl rfl (gn_t rfl) rfl (bl rfl) ?_
                  refine TrL.cons_no rfl rfl rfl (gn_t rfl) rfl (bl rfl) ?_
                  refine TrL.cons_no rfl rfl rfl (gn_t rfl) rfl (bl rfl) ?_
                  refine TrL.v (v_pick_f rfl rfl rfl rfl) rfl rfl (bl rfl) ?_
                  refine TrL.v (v_assign rfl rfl) rfl rfl (bl rfl) ?_
                  refine TrL.nil (qthen_n ?_)
                  have hz := Option.some.inj H
                  subst hz
                  refine Tr.ret (ret_r ⟨[(0, .bool false)], [], [], []⟩ [.bool false] [] [] (Imp.re _ [] [] (sc rfl sn) (by decide) rfl rfl rfl) rfl rfl ⟨rfl, rfl, rfl⟩ (.cons (resv_tmp rfl) .nil))
              · refine TrL.cons_no rfl rfl rfl (gn_t (bf_dec h34)) rfl (bl rfl) ?_
                refine TrL.cons_no rfl rfl rfl (gn_t (bf_dec h34)) rfl (bl rfl) ?_
                refine TrL.v (v_pick_f rfl rfl (bf_dec h34) rfl) rfl rfl (bl rfl) ?_
                refine TrL.v (v_move rfl rfl) rfl rfl (bl rfl) ?_
                refine TrL.cons_no rfl rfl rfl (gn_t rfl) rfl (bl rfl) ?_
                refine TrL.cons_no rfl rfl rfl (gn_t rfl) rfl (bl rfl) ?_
                refine TrL.cons_no rfl rfl rfl (gn_t rfl) rfl (bl rfl) ?_
                refine TrL.v (v_pick_f rfl rfl rfl rfl) rfl rfl (bl rfl) ?_
                refine TrL.v (v_move rfl rfl) rfl rfl (bl rfl) ?_
                refine TrL.cons_no rfl rfl rfl (gn_t rfl) rfl (bl rfl) ?_
                refine TrL.cons_no rfl rfl rfl (gn_t rfl) rfl (bl rfl) ?_
                refine TrL.cons_no rfl rfl rfl (gn_t rfl) rfl (bl rfl) ?_
                refine TrL.v (v_pick_f rfl rfl rfl rfl) rfl rfl (bl rfl) ?_
                refine TrL.v (v_assign rfl rfl) rfl rfl (bl rfl) ?_
                refine TrL.nil (qthen_n ?_)
                have hz := Option.some.inj H
                subst hz
                refine Tr.ret (ret_r ⟨[(0, .bool false)], [], [], []⟩ [.bool false] [] [] (Imp.re _ [] [] (sc rfl sn) (by decide) rfl rfl rfl) rfl rfl ⟨rfl, rfl, rfl⟩ (.cons (resv_tmp rfl) .nil))
            · refine TrL.cons_no rfl rfl rfl (gn_t (bf_dec h33)) rfl (bl rfl) ?_
              refine TrL.cons_no rfl rfl rfl (gn_t (bf_dec h33)) rfl (bl rfl) ?_
              refine TrL.cons_no rfl rfl rfl (gn_t (bf_dec h33)) rfl (bl rfl) ?_
              refine TrL.v (v_pick_f rfl rfl (bf_dec h33) rfl) rfl rfl (bl rfl) ?_
              refine TrL.v (v_move rfl rfl) rfl rfl (bl rfl) ?_
              refine TrL.cons_no rfl rfl rfl (gn_t rfl) rfl (bl rfl) ?_
              refine TrL.cons_no rfl rfl rfl (gn_t rfl) rfl (bl rfl) ?_
              refine TrL.v (v_pick_f rfl rfl rfl rfl) rfl rfl (bl rfl) ?_
              refine TrL.v (v_move rfl rfl) rfl rfl (bl rfl) ?_
              refine TrL.cons_no rfl rfl rfl (gn_t rfl) rfl (bl rfl) ?_
              refine TrL.cons_no rfl rfl rfl (gn_t rfl) rfl (bl rfl) ?_
              refine TrL.cons_no rfl rfl rfl (gn_t rfl) rfl (bl rfl) ?_
              refine TrL.v (v_pick_f rfl rfl rfl rfl) rfl rfl (bl rfl) ?_
              refine TrL.v (v_move rfl rfl) rfl rfl (bl rfl) ?_
              refine TrL.cons_no rfl rfl rfl (gn_t rfl) rfl (bl rfl) ?_
              refine TrL.cons_no rfl rfl rfl (gn_t rfl) rfl (bl rfl) ?_
              refine TrL.cons_no rfl rfl rfl (gn_t rfl) rfl (bl rfl) ?_
              refine TrL.v (v_pick_f rfl rfl rfl rfl) rfl rfl (bl rfl) ?_
              refine TrL.v (v_assign rfl rfl) rfl rfl (bl rfl) ?_
              refine TrL.nil (qthen_n ?_)
              have hz := Option.some.inj H
              subst hz
              refine Tr.ret (ret_r ⟨[(0, .bool false)], [], [], []⟩ [.bool false] [] [] (Imp.re _ [] [] (sc rfl sn) (by decide) rfl rfl rfl) rfl rfl ⟨rfl, rfl, rfl⟩ (.cons (resv_tmp rfl) .nil))
          · refine TrL.cons_no rfl rfl rfl (gn_t (bf_dec h32)) rfl (bl rfl) ?_
            refine TrL.cons_no rfl rfl rfl (gn_t (bf_dec h32)) rfl (bl rfl) ?_
            refine TrL.cons_no rfl rfl rfl (gn_t (bf_dec h32)) rfl (bl rfl) ?_
            refine TrL.cons_no rfl rfl rfl (gn_t (bf_dec h32)) rfl (bl rfl) ?_
            refine TrL.cons_no rfl rfl rfl (gn_t (bf_dec h32)) rfl (bl rfl) ?_
            refine TrL.v (v_pick_f rfl rfl (bf_dec h32) rfl) rfl rfl (bl rfl) ?_
            refine TrL.v (v_move rfl rfl) rfl rfl (bl rfl) ?_
            refine TrL.cons_no rfl rfl rfl (gn_t rfl) rfl (bl rfl) ?_
            refine TrL.cons_no rfl rfl rfl (gn_t rfl) rfl (bl rfl) ?_
            refine TrL.cons_no rfl rfl rfl (gn_t rfl) rfl (bl rfl) ?_
            refine TrL.v (v_pick_f rfl rfl rfl rfl) rfl rfl (bl rfl) ?_
            refine TrL.v (v_move rfl rfl) rfl rfl (bl rfl) ?_
            refine TrL.cons_no rfl rfl rfl (gn_t rfl) rfl (bl rfl) ?_
            refine TrL.cons_no rfl rfl rfl (gn_t rfl) rfl (bl rfl) ?_
            refine TrL.v (v_pick_f rfl rfl rfl rfl) rfl rfl (bl rfl) ?_
            refine TrL.v (v_move rfl rfl) rfl rfl (bl rfl) ?_
            refine TrL.cons_no rfl rfl rfl (gn_t rfl) rfl (bl rfl) ?_
            refine TrL.cons_no rfl rfl rfl (gn_t rfl) rfl (bl rfl) ?_
            refine TrL.cons_no rfl rfl rfl (gn_t rfl) rfl (bl rfl) ?_
            refine TrL.v (v_pick_f rfl rfl rfl rfl) rfl rfl (bl rfl) ?_
            refine TrL.v (v_move rfl rfl) rfl rfl (bl rfl) ?_
            refine TrL.cons_no rfl rfl rfl (gn_t rfl) rfl (bl rfl) ?_
            refine TrL.cons_no rfl rfl rfl (gn_t rfl) rfl (bl rfl) ?_
            refine TrL.cons_no rfl rfl rfl (gn_t rfl) rfl (bl rfl) ?_
            refine TrL.v (v_pick_f rfl rfl rfl rfl) rfl rfl (bl rfl) ?_
            refine TrL.v (v_assign rfl rfl) rfl rfl (bl rfl) ?_
            refine TrL.nil (qthen_n ?_)
            have hz := Option.some.inj H
            subst hz
            refine Tr.ret (ret_r ⟨[(0, .bool false)], [], [], []⟩ [.bool false] [] [] (Imp.re _ [] [] (sc rfl sn) (by decide) rfl rfl rfl) rfl rfl ⟨rfl, rfl, rfl⟩ (.cons (resv_tmp rfl) .nil))
        · refine TrL.cons_no rfl rfl rfl (gn_t (bf_dec h31)) rfl (bl rfl) ?_
          refine TrL.cons_no rfl rfl rfl (gn_t (bf_dec h31)) rfl (bl rfl) ?_
          refine TrL.cons_no rfl rfl rfl (gn_t (bf_dec h31)) rfl (bl rfl) ?_
          refine TrL.v (v_pick_f rfl rfl (bf_dec h31) rfl) rfl rfl (bl rfl) ?_
          refine TrL.v (v_move rfl rfl) rfl rfl (bl rfl) ?_
          refine TrL.cons_no rfl rfl rfl (gn_t rfl) rfl (bl rfl) ?_
          refine TrL.cons_no rfl rfl rfl (gn_t rfl) rfl (bl rfl) ?_
          refine TrL.cons_no rfl rfl rfl (gn_t rfl) rfl (bl rfl) ?_
          refine TrL.cons_no rfl rfl rfl (gn_t rfl) rfl (bl rfl) ?_
          refine TrL.cons_no rfl rfl rfl (gn_t rfl) rfl (bl rfl) ?_
          refine TrL.v (v_pick_f rfl rfl rfl rfl) rfl rfl (bl rfl) ?_
          refine TrL.v (v_move rfl rfl) rfl rfl (bl rfl) ?_
          refine TrL.cons_no rfl rfl rfl (gn_t rfl) rfl (bl rfl) ?_
          refine TrL.cons_no rfl rfl rfl (gn_t rfl) rfl (bl rfl) ?_
          refine TrL.cons_no rfl rfl rfl (gn_t rfl) rfl (bl rfl) ?_
          refine TrL.v (v_pick_f rfl rfl rfl rfl) rfl rfl (bl rfl) ?_
          refine TrL.v (v_move rfl rfl) rfl rfl (bl rfl) ?_
          refine TrL.cons_no rfl rfl rfl (gn_t rfl) rfl (bl rfl) ?_
          refine TrL.cons_no rfl rfl rfl (gn_t rfl) rfl (bl rfl) ?_
          refine TrL.v (v_pick_f rfl rfl rfl rfl) rfl rfl (bl rfl) ?_
          refine TrL.v (v_move rfl rfl) rfl rfl (bl rfl) ?_
          refine TrL.cons_no rfl rfl rfl (gn_t rfl) rfl (bl rfl) ?_
          refine TrL.cons_no rfl rfl rfl (gn_t rfl) rfl (bl rfl) ?_
          refine TrL.cons_no rfl rfl rfl (gn_t rfl) rfl (bl rfl) ?_
          refine TrL.v (v_pick_f rfl rfl rfl rfl) rfl rfl (bl rfl) ?_
          refine TrL.v (v_move rfl rfl) rfl rfl (bl rfl) ?_
          refine TrL.cons_no rfl rfl rfl (gn_t rfl) rfl (bl rfl) ?_
          refine TrL.cons_no rfl rfl rfl (gn_t rfl) rfl (bl rfl) ?_
          refine TrL.cons_no rfl rfl rfl (gn_t rfl) rfl (bl rfl) ?_
          refine TrL.v (v_pick_f rfl rfl rfl rfl) rfl rfl (bl rfl) ?_
          refine TrL.v (v_assign rfl rfl) rfl rfl (bl rfl) ?_
          refine TrL.nil (qthen_n ?_)
          have hz := Option.some.inj H
          subst hz
          refine Tr.ret (ret_r ⟨[(0, .bool false)], [], [], []⟩ [.bool false] [] [] (Imp.re _ [] [] (sc rfl sn) (by decide) rfl rfl rfl) rfl rfl ⟨rfl, rfl, rfl⟩ (.cons (resv_tmp rfl) .nil))
      · refine TrL.cons_no rfl rfl rfl (gn_t (bf_dec h30)) rfl (bl rfl) ?_
        refine TrL.cons_no rfl rfl rfl (gn_t (bf_dec h30)) rfl (bl rfl) ?_
        refine TrL.cons_no rfl rfl rfl (gn_t (bf_dec h30)) rfl (bl rfl) ?_
        refine TrL.v (v_pick_f rfl rfl (bf_dec h30) rfl) rfl rfl (bl rfl) ?_
        refine TrL.v (v_move rfl rfl) rfl rfl (bl rfl) ?_
        refine TrL.cons_no rfl rfl rfl (gn_t rfl) rfl (bl rfl) ?_
        refine TrL.cons_no rfl rfl rfl (gn_t rfl) rfl (bl rfl) ?_
        refine TrL.cons_no rfl rfl rfl (gn_t rfl) rfl (bl rfl) ?_
        refine TrL.v (v_pick_f rfl rfl rfl rfl) rfl rfl (bl rfl) ?_
        refine TrL.v (v_move rfl rfl) rfl rfl (bl rfl) ?_
        refine TrL.cons_no rfl rfl rfl (gn_t rfl) rfl (bl rfl) ?_
        refine TrL.cons_no rfl rfl rfl (gn_t rfl) rfl (bl rfl) ?_
        refine TrL.cons_no rfl rfl rfl (gn_t rfl) rfl (bl rfl) ?_
        refine TrL.cons_no rfl rfl rfl (gn_t rfl) rfl (bl rfl) ?_
        refine TrL.cons_no rfl rfl rfl (gn_t rfl) rfl (bl rfl) ?_
        refine TrL.v (v_pick_f rfl rfl rfl rfl) rfl rfl (bl rfl) ?_
        refine TrL.v (v_move rfl rfl) rfl rfl (bl rfl) ?_
        refine TrL.cons_no rfl rfl rfl (gn_t rfl) rfl (bl rfl) ?_
        refine TrL.cons_no rfl rfl rfl (gn_t rfl) rfl (bl rfl) ?_
        refine TrL.cons_no rfl rfl rfl (gn_t rfl) rfl (bl rfl) ?_
        refine TrL.v (v_pick_f rfl rfl rfl rfl) rfl rfl (bl rfl) ?_
        refine TrL.v (v_move rfl rfl) rfl rfl (bl rfl) ?_
        refine TrL.cons_no rfl rfl rfl (gn_t rfl) rfl (bl rfl) ?_
        refine TrL.cons_no rfl rfl rfl (gn_t rfl) rfl (bl rfl) ?_
        refine TrL.v (v_pick_f rfl rfl rfl rfl) rfl rfl (bl rfl) ?_
        refine TrL.v (v_move rfl rfl) rfl rfl (bl rfl) ?_
        refine TrL.cons_no rfl rfl rfl (gn_t rfl) rfl (bl rfl) ?_
        refine TrL.cons_no rfl rfl rfl (gn_t rfl) rfl (bl rfl) ?_
        refine TrL.cons_no rfl rfl rfl (gn_t rfl) rfl (bl rfl) ?_
        refine TrL.v (v_pick_f rfl rfl rfl rfl) rfl rfl (bl rfl) ?_
        refine TrL.v (v_move rfl rfl) rfl rfl (bl rfl) ?_
        refine TrL.cons_no rfl rfl rfl (gn_t rfl) rfl (bl rfl) ?_
        refine TrL.cons_no rfl rfl rfl (gn_t rfl) rfl (bl rfl) ?_
        refine TrL.cons_no rfl rfl rfl (gn_t rfl) rfl (bl rfl) ?_
        refine TrL.v (v_pick_f rfl rfl rfl rfl) rfl rfl (bl rfl) ?_
        refine TrL.v (v_assign rfl rfl) rfl rfl (bl rfl) ?_
        refine TrL.nil (qthen_n ?_)
        have hz := Option.some.inj H
        subst hz
        refine Tr.ret (ret_r ⟨[(0, .bool false)], [], [], []⟩ [.bool false] [] [] (Imp.re _ [] [] (sc rfl sn) (by decide) rfl rfl rfl) rfl rfl ⟨rfl, rfl, rfl⟩ (.cons (resv_tmp rfl) .nil))
    · refine TrL.cons_no rfl rfl rfl (gn_t (bf_dec h29)) rfl (bl rfl) ?_
      refine TrL.cons_no rfl rfl rfl (gn_t (bf_dec h29)) rfl (bl rfl) ?_
      refine TrL.v (v_pick_f rfl rfl (bf_dec h29) rfl) rfl rfl (bl rfl) ?_
      refine TrL.v (v_move rfl rfl) rfl rfl (bl rfl) ?_
      refine TrL.cons_no rfl rfl rfl (gn_t rfl) rfl (bl rfl) ?_
      refine TrL.cons_no rfl rfl rfl (gn_t rfl) rfl (bl rfl) ?_
      refine TrL.cons_no rfl rfl rfl (gn_t rfl) rfl (bl rfl) ?_
      refine TrL.v (v_pick_f rfl rfl rfl rfl) rfl rfl (bl rfl) ?_
      refine TrL.v (v_move rfl rfl) rfl rfl (bl rfl) ?_
      refine TrL.cons_no rfl rfl rfl (gn_t rfl) rfl (bl rfl) ?_
      refine TrL.cons_no rfl rfl rfl (gn_t rfl) rfl (bl rfl) ?_
      refine TrL.cons_no rfl rfl rfl (gn_t rfl) rfl (bl rfl) ?_
      refine TrL.v (v_pick_f rfl rfl rfl rfl) rfl rfl (bl rfl) ?_
      refine TrL.v (v_move rfl rfl) rfl rfl (bl rfl) ?_
      refine TrL.cons_no rfl rfl rfl (gn_t rfl) rfl (bl rfl) ?_
      refine TrL.cons_no rfl rfl rfl (gn_t rfl) rfl (bl rfl) ?_
      refine TrL.cons_no rfl rfl rfl (gn_t rfl) rfl (bl rfl) ?_
      refine TrL.cons_no rfl rfl rfl (gn_t rfl) rfl (bl rfl) ?_
      refine TrL.cons_no rfl rfl rfl (gn_t rfl) rfl (bl rfl) ?_
      refine TrL.v (v_pick_f rfl rfl rfl rfl) rfl rfl (bl rfl) ?_
      refine TrL.v (v_move rfl rfl) rfl rfl (bl rfl) ?_
      refine TrL.cons_no rfl rfl rfl (gn_t rfl) rfl (bl rfl) ?_
      refine TrL.cons_no rfl rfl rfl (gn_t rfl) rfl (bl rfl) ?_
      refine TrL.cons_no rfl rfl rfl (gn_t rfl) rfl (bl rfl) ?_
      refine TrL.v (v_pick_f rfl rfl rfl rfl) rfl rfl (bl rfl) ?_
      refine TrL.v (v_move rfl rfl) rfl rfl (bl rfl) ?_
      refine TrL.cons_no rfl rfl rfl (gn_t rfl) rfl (bl rfl) ?_
      refine TrL.cons_no rfl rfl rfl (gn_t rfl) rfl (bl rfl) ?_
      refine TrL.v (v_pick_f rfl rfl rfl rfl) rfl rfl (bl rfl) ?_
      refine TrL.v (v_move rfl rfl) rfl rfl (bl rfl) ?_
      refine TrL.cons_no rfl rfl rfl (gn_t rfl) rfl (bl rfl) ?_
      refine TrL.cons_no rfl rfl rfl (gn_t rfl) rfl (bl rfl) ?_
      refine TrL.cons_no rfl rfl rfl (gn_t rfl) rfl (bl rfl) ?_
      refine TrL.v (v_pick_f rfl rfl rfl rfl) rfl rfl (bl rfl) ?_
      refine TrL.v (v_move rfl rfl) rfl rfl (bl rfl) ?_
      refine TrL.cons_no rfl rfl rfl (gn_t rfl) rfl (bl rfl) ?_
      refine TrL.cons_no rfl rfl rfl (gn_t rfl) rfl (bl rfl) ?_
      refine TrL.cons_no rfl rfl rfl (gn_t rfl) rfl (bl rfl) ?_
      refine TrL.v (v_pick_f rfl rfl rfl rfl) rfl rfl (bl rfl) ?_
      refine TrL.v (v_assign rfl rfl) rfl rfl (bl rfl) ?_
      refine TrL.nil (qthen_n ?_)
      have hz := Option.some.inj H
      subst hz
      refine Tr.ret (ret_r ⟨[(0, .bool false)], [], [], []⟩ [.bool false] [] [] (Imp.re _ [] [] (sc rfl sn) (by decide) rfl rfl rfl) rfl rfl ⟨rfl, rfl, rfl⟩ (.cons (resv_tmp rfl) .nil))
  · refine TrL.cons_no rfl rfl rfl (gn_t (bf_dec h28)) rfl (bl rfl) ?_
    refine TrL.cons_no rfl rfl rfl (gn_t (bf_dec h28)) rfl (bl rfl) ?_
    refine TrL.v (v_pick_f rfl rfl (bf_dec h28) rfl) rfl rfl (bl rfl) ?_
    refine TrL.v (v_move rfl rfl) rfl rfl (bl rfl) ?_
    refine TrL.cons_no rfl rfl rfl (gn_t rfl) rfl (bl rfl) ?_
    refine TrL.cons_no rfl rfl rfl (gn_t rfl) rfl (bl rfl) ?_
    refine TrL.v (v_pick_f rfl rfl rfl rfl) rfl rfl (bl rfl) ?_
    refine TrL.v (v_move rfl rfl) rfl rfl (bl rfl) ?_
    refine TrL.cons_no rfl rfl rfl (gn_t rfl) rfl (bl rfl) ?_
    refine TrL.cons_no rfl rfl rfl (gn_t rfl) rfl (bl rfl) ?_
    refine TrL.cons_no rfl rfl rfl (gn_t rfl) rfl (bl rfl) ?_
    refine TrL.v (v_pick_f rfl rfl rfl rfl) rfl rfl (bl rfl) ?_
    refine TrL.v (v_move rfl rfl) rfl rfl (bl rfl) ?_
    refine TrL.cons_no rfl rfl rfl (gn_t rfl) rfl (bl rfl) ?_
    refine TrL.cons_no rfl rfl rfl (gn_t rfl) rfl (bl rfl) ?_
    refine TrL.cons_no rfl rfl rfl (gn_t rfl) rfl (bl rfl) ?_
    refine TrL.v (v_pick_f rfl rfl rfl rfl) rfl rfl (bl rfl) ?_
    refine TrL.v (v_move rfl rfl) rfl rfl (bl rfl) ?_
    refine TrL.cons_no rfl rfl rfl (gn_t rfl) rfl (bl rfl) ?_
    refine TrL.cons_no rfl rfl rfl (gn_t rfl) rfl (bl rfl) ?_
    refine TrL.cons_no rfl rfl rfl (gn_t rfl) rfl (bl rfl) ?_
    refine TrL.cons_no rfl rfl rfl (gn_t rfl) rfl (bl rfl) ?_
    refine TrL.cons_no rfl rfl rfl (gn_t rfl) rfl (bl rfl) ?_
    refine TrL.v (v_pick_f rfl rfl rfl rfl) rfl rfl (bl rfl) ?_
    refine TrL.v (v_move rfl rfl) rfl rfl (bl rfl) ?_
    refine TrL.cons_no rfl rfl rfl (gn_t rfl) rfl (bl rfl) ?_
    refine TrL.cons_no rfl rfl rfl (gn_t rfl) rfl (bl rfl) ?_
    refine TrL.cons_no rfl rfl rfl (gn_t rfl) rfl (bl rfl) ?_
    refine TrL.v (v_pick_f rfl rfl rfl rfl) rfl rfl (bl rfl) ?_
    refine TrL.v (v_move rfl rfl) rfl rfl (bl rfl) ?_
    refine TrL.cons_no rfl rfl rfl (gn_t rfl) rfl (bl rfl) ?_
    refine TrL.cons_no rfl rfl rfl (gn_t rfl) rfl (bl rfl) ?_
    refine TrL.v (v_pick_f rfl rfl rfl rfl) rfl rfl (bl rfl) ?_
    refine TrL.v (v_move rfl rfl) rfl rfl (bl rfl) ?_
    refine TrL.cons_no rfl rfl rfl (gn_t rfl) rfl (bl rfl) ?_
    refine TrL.cons_no rfl rfl rfl (gn_t rfl) rfl (bl rfl) ?_
    refine TrL.cons_no rfl rfl rfl (gn_t rfl) rfl (bl rfl) ?_
    refine TrL.v (v_pick_f rfl rfl rfl rfl) rfl rfl (bl rfl) ?_
    refine TrL.v (v_move rfl rfl) rfl rfl (bl rfl) ?_
    refine TrL.cons_no rfl rfl rfl (gn_t rfl) rfl (bl rfl) ?_
    refine TrL.cons_no rfl rfl rfl (gn_t rfl) rfl (bl rfl) ?_
    refine TrL.cons_no rfl rfl rfl (gn_t rfl) rfl (bl rfl) ?_
    refine TrL.v (v_pick_f rfl rfl rfl rfl) rfl rfl (bl rfl) ?_
    refine TrL.v (v_assign rfl rfl) rfl rfl (bl rfl) ?_
    refine TrL.nil (qthen_n ?_)
    have hz := Option.some.inj H
    subst hz
    refine Tr.ret (ret_r ⟨[(0, .bool false)], [], [], []⟩ [.bool false] [] [] (Imp.re _ [] [] (sc rfl sn) (by decide) rfl rfl rfl) rfl rfl ⟨rfl, rfl, rfl⟩ (.cons (resv_tmp rfl) .nil))

theorem c_law12_made (p1 : Int × Int × Int × Int × List (Int × Int × Int)) (A1 : Option Addr) (c1 : Nat) (r : Unit) (H : law12_made p1 = some r) :
    Ctr Try.prog 39 [.agg #[.int .u64 p1.1, .int .i64 p1.2.1, .int .u64 p1.2.2.1, .int .u64 p1.2.2.2.1, .slice A1 p1.2.2.2.2.length c1]] [] [slF rp_u64_u64_u64 A1 c1 p1.2.2.2.2] (fun ret M' F' => ret = .agg #[.int .u64 p1.1, .int .i64 p1.2.1, .int .u64 p1.2.2.1, .int .u64 p1.2.2.2.1, .slice A1 p1.2.2.2.2.length c1] ∧ M' = [] ∧ F' = [slF rp_u64_u64_u64 A1 c1 p1.2.2.2.2]) := by
  unfold law12_made at H
  refine ctr_ofI (N := 14) Try.func39 rfl Try.ntmps39 rfl (Nat.le_of_ble_eq_true rfl) (fun γ0 w0 => ?_)
  refine Tr.seq ?_
  refine Tr.region ?_
  refine TrL.cons rfl (op_box' rfl (bl rfl) rfl rfl rfl (fun b3 => ?_))
  refine TrL.cons rfl (op_alloc' rfl (bl rfl) rfl ze77 (fun b4 => ?_))
  refine TrL.nil (qthen_n ?_)
  refine Tr.seq ?_
  refine Tr.region ?_
  refine TrL.v (v_fieldAddr' rfl fo73_0 rfl rfl) rfl rfl (bl rfl) ?_
  refine TrL.v (v_load (k := 1) rfl rfl rfl ty28 (fun _ => rfl) rfl rfl) rfl rfl (bl rfl) ?_
  refine TrL.v (v_fieldAddr' rfl fo73_1 rfl rfl) rfl rfl (bl rfl) ?_
  refine TrL.v (v_load (k := 1) rfl rfl rfl ty3 (fun _ => rfl) rfl rfl) rfl rfl (bl rfl) ?_
  refine TrL.v (v_fieldAddr' rfl fo73_2 rfl rfl) rfl rfl (bl rfl) ?_
  refine TrL.v (v_load (k := 1) rfl rfl rfl ty28 (fun _ => rfl) rfl rfl) rfl rfl (bl rfl) ?_
  refine TrL.v (v_fieldAddr' rfl fo73_3 rfl rfl) rfl rfl (bl rfl) ?_
  refine TrL.v (v_load (k := 1) rfl rfl rfl ty28 (fun _ => rfl) rfl rfl) rfl rfl (bl rfl) ?_
  refine TrL.v (v_fieldAddr' rfl fo73_4 rfl rfl) rfl rfl (bl rfl) ?_
  refine TrL.v (v_load (k := 1) rfl rfl rfl ty71 (fun _ => rfl) rfl rfl) rfl rfl (bl rfl) ?_
  refine TrL.v (v_build (vs := [.int .u64 p1.1, .int .i64 p1.2.1, .int .u64 p1.2.2.1, .int .u64 p1.2.2.2.1, .slice A1 p1.2.2.2.2.length c1]) (out := [.int .u64 p1.1, .int .i64 p1.2.1, .int .u64 p1.2.2.1, .int .u64 p1.2.2.2.1, .slice A1 p1.2.2.2.2.length c1]) rfl pl77 ze77 rfl rfl) rfl rfl (bl rfl) ?_
  refine TrL.cons rfl (op_store' (k := 0) (c' := [.int .u64 p1.1, .int .i64 p1.2.1, .int .u64 p1.2.2.1, .int .u64 p1.2.2.2.1, .slice A1 p1.2.2.2.2.length c1]) rfl rfl rfl rfl rfl ty77 rfl (Nat.le_of_ble_eq_true rfl) (ones (oc rfl (oc rfl (oc rfl (oc rfl (oc rfl on)))))) rfl ?_)
  refine TrL.nil (qthen_n ?_)
  have hz := Option.some.inj H
  subst hz
  refine Tr.ret (ret_r ⟨[(2, .pointer (some ⟨b4, 0, none⟩))], [cells b4 [.int .u64 p1.1, .int .i64 p1.2.1, .int .u64 p1.2.2.1, .int .u64 p1.2.2.2.1, .slice A1 p1.2.2.2.2.length c1] 77], [slF rp_u64_u64_u64 A1 c1 p1.2.2.2.2], []⟩ [.agg #[.int .u64 p1.1, .int .i64 p1.2.1, .int .u64 p1.2.2.1, .int .u64 p1.2.2.2.1, .slice A1 p1.2.2.2.2.length c1]] [] [cells b4 [.int .u64 p1.1, .int .i64 p1.2.1, .int .u64 p1.2.2.1, .int .u64 p1.2.2.2.1, .slice A1 p1.2.2.2.2.length c1] 77] (Imp.re _ [0] [0] (sc rfl sn) (by decide) rfl rfl rfl) rfl rfl ⟨rfl, rfl, rfl⟩ (.cons (resv_cell (k := 0) rfl rfl ty77 nofun rfl rfl) .nil))
end Go.Proofs.Ytbeknohemgjfbaa.W
