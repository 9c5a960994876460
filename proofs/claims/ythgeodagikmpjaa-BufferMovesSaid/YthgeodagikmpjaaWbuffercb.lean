/- The contracts of the walked functions: the printed walks. -/
import Derived.Test.YthgeodagikmpjaaKb
import Derived.Test.YthgeodagikmpjaaQb
import Derived.Test.YthgeodagikmpjaaWbufferab
import Derived.Test.YthgeodagikmpjaaWbufferbb
import Derived.Test.YthgeodagikmpjaaWslicesab
import Derived.Test.YthgeodagikmpjaaWslicesbb
namespace Go.Proofs.Ythgeodagikmpjaa.W
open Go Go.Proofs Go.Proofs.Ythgeodagikmpjaa.L Go.Proofs.Ythgeodagikmpjaa.Pu
set_option linter.unusedVariables false
set_option maxHeartbeats 4000000

theorem c_buffer_May (p1 : Int × Int × Int × Int × List (Int × Int × Int)) (A1 : Option Addr) (c1 : Nat) (r : Int) (H : buffer_May p1 = some r) :
    Ctr Try.prog 44 [.agg #[.int .u64 p1.1, .int .i64 p1.2.1, .int .u64 p1.2.2.1, .int .u64 p1.2.2.2.1, .slice A1 p1.2.2.2.2.length c1]] [] [slF rp_u64_u64_u64 A1 c1 p1.2.2.2.2] (fun ret M' F' => ret = .int .i64 r ∧ M' = [] ∧ F' = []) := by
  unfold buffer_May at H
  refine ctr_ofI (N := 55) Try.func44 rfl Try.ntmps44 rfl (Nat.le_of_ble_eq_true rfl) (fun γ0 w0 => ?_)
  refine Tr.seq ?_
  refine Tr.region ?_
  refine TrL.cons rfl (op_box' rfl (bl rfl) rfl rfl rfl (fun b4 => ?_))
  refine TrL.v (v_assign rfl rfl) rfl rfl (bl rfl) ?_
  refine TrL.nil (qthen_n ?_)
  refine Tr.seq ?_
  refine Tr.seq ?_
  refine Tr.region ?_
  refine TrL.v (v_fieldAddr' rfl fo48_0 rfl rfl) rfl rfl (bl rfl) ?_
  refine TrL.v (v_load (k := 0) rfl rfl rfl ty22 (fun _ => rfl) rfl rfl) rfl rfl (bl rfl) ?_
  refine TrL.v (v_fieldAddr' rfl fo48_1 rfl rfl) rfl rfl (bl rfl) ?_
  refine TrL.v (v_load (k := 0) rfl rfl rfl ty3 (fun _ => rfl) rfl rfl) rfl rfl (bl rfl) ?_
  obtain ⟨r3, hr3, H⟩ := bnd H
  refine TrL.cons rfl (op_call0' (vs := [.int .u64 p1.1, .int .i64 p1.2.1]) (cap := []) [] rfl rfl (bl rfl) rfl rfl en39 (c_buffer_New p1.1 p1.2.1 r3 hr3) rfl (fun ret M' F' hR3 => ?_))
  obtain ⟨rfl, rfl, rfl⟩ := hR3
  refine TrL.v (v_move rfl rfl) rfl rfl (bl rfl) ?_
  refine TrL.v (v_extract rfl rfl rfl) rfl rfl (bl rfl) ?_
  refine TrL.v (v_extract rfl rfl rfl) rfl rfl (bl rfl) ?_
  refine TrL.cons rfl (op_alloc' rfl (bl rfl) rfl ze48 (fun b5 => ?_))
  refine TrL.cons rfl (op_store' (k := 0) (c' := [.int .u64 r3.1, .int .i64 r3.2.1, .int .u64 0, .int .u64 0, .slice none 0 0]) rfl rfl rfl rfl rfl ty48 rfl (Nat.le_of_ble_eq_true rfl) (ones (oc rfl (oc rfl (oc rfl (oc rfl (oc rfl on)))))) rfl ?_)
  refine TrL.v (v_assign rfl rfl) rfl rfl (bl rfl) ?_
  refine TrL.nil (qthen_n ?_)
  refine Tr.seq ?_
  refine Tr.region ?_
  refine TrL.v (v_move rfl rfl) rfl rfl (bl rfl) ?_
  refine TrL.v (v_arith rfl rfl rfl ar_neq) rfl rfl (bl rfl) ?_
  refine TrL.nil (qthen_n ?_)
  rcases ifc H with ⟨h11, H⟩ | ⟨h11, H⟩
  · refine Tr.cond_t rfl (bt_dec h11) ?_
    refine Tr.seq ?_
    refine Tr.region ?_
    refine TrL.v (v_move rfl rfl) rfl rfl (bl rfl) ?_
    refine TrL.v (v_assign rfl rfl) rfl rfl (bl rfl) ?_
    refine TrL.nil (qthen_n ?_)
    have hz := Option.some.inj H
    subst hz
    refine Tr.ret (qthen_r (ret_r ⟨[(2, .int .i64 r3.2.2)], [], [], []⟩ [.int .i64 r3.2.2] [] [] (Imp.re _ [] [] (sc rfl sn) (by decide) rfl rfl rfl) rfl rfl ⟨rfl, rfl, rfl⟩ (.cons (resv_tmp rfl) .nil)))
  · refine Tr.cond_f rfl (bf_dec h11) ?_
    refine Tr.skip (qthen_n ?_)
    refine Tr.seq ?_
    refine Tr.region ?_
    refine TrL.v (v_fieldAddr' rfl fo48_3 rfl rfl) rfl rfl (bl rfl) ?_
    refine TrL.v (v_load (k := 1) rfl rfl rfl ty22 (fun _ => rfl) rfl rfl) rfl rfl (bl rfl) ?_
    refine TrL.cons rfl (op_alloc' rfl (bl rfl) rfl ze22 (fun b6 => ?_))
    refine TrL.cons rfl (op_store' (k := 0) (c' := [.int .u64 p1.2.2.2.1]) rfl rfl rfl rfl rfl ty22 rfl (Nat.le_of_ble_eq_true rfl) (ones (oc rfl on)) rfl ?_)
    refine TrL.nil (qthen_n ?_)
    refine Tr.seq ?_
    refine Tr.region ?_
    refine TrL.v (v_fieldAddr' rfl fo48_4 rfl rfl) rfl rfl (bl rfl) ?_
    refine TrL.v (v_load (k := 2) rfl rfl rfl ty46 (fun _ => rfl) rfl rfl) rfl rfl (bl rfl) ?_
    refine TrL.v (v_makeFunc (vs := [.pointer (some ⟨b4, 0, none⟩), .pointer (some ⟨b6, 0, none⟩)]) rfl rfl) rfl rfl (bl rfl) ?_
    obtain ⟨r4, hr4, H⟩ := bnd H
    refine TrL.cons rfl (op_callg' (fs := []) (vs := [.slice A1 p1.2.2.2.2.length c1, .func (.func 72) #[] #[.pointer (some ⟨b4, 0, none⟩), .pointer (some ⟨b6, 0, none⟩)]]) (cap := []) (Mr := [cells b5 [.int .u64 r3.1, .int .i64 r3.2.1, .int .u64 0, .int .u64 0, .slice none 0 0] 48]) [2, 0] [1] [0, 0] rfl rfl rfl en71 (c_slices_ContainsFunc_Event p1.2.2.2.2 ((p1.1, p1.2.1, p1.2.2.1, p1.2.2.2.1, p1.2.2.2.2, p1.2.2.2.1)) A1 c1 b4 A1 c1 b6 r4 hr4) (by decide) rfl rfl rfl (bl rfl) (fun ret M' F' hR4 => ?_))
    obtain ⟨rfl, rfl, rfl⟩ := hR4
    refine TrL.v (v_assign rfl rfl) rfl rfl (bl rfl) ?_
    refine TrL.nil (qthen_n ?_)
    refine Tr.seq ?_
    refine Tr.seq ?_
    refine Tr.region ?_
    refine TrL.v (v_move rfl rfl) rfl rfl (bl rfl) ?_
    refine TrL.v (v_move rfl rfl) rfl rfl (bl rfl) ?_
    rcases ifc H with ⟨h16, H⟩ | ⟨h16, H⟩
    · refine TrL.cons_no rfl rfl rfl (gn_f h16) rfl (bl rfl) ?_
      refine TrL.cons_no rfl rfl rfl (gn_f h16) rfl (bl rfl) ?_
      refine TrL.cons_no rfl rfl rfl (gn_f h16) rfl (bl rfl) ?_
      refine TrL.cons_no rfl rfl rfl (gn_f h16) rfl (bl rfl) ?_
      refine TrL.cons_no rfl rfl rfl (gn_f h16) rfl (bl rfl) ?_
      refine TrL.cons_no rfl rfl rfl (gn_f h16) rfl (bl rfl) ?_
      refine TrL.v (v_pick_t rfl rfl h16 rfl) rfl rfl (bl rfl) ?_
      refine TrL.v (v_move rfl rfl) rfl rfl (bl rfl) ?_
      refine TrL.cons_no rfl rfl rfl (gn_f rfl) rfl (bl rfl) ?_
      refine TrL.cons_no rfl rfl rfl (gn_f rfl) rfl (bl rfl) ?_
      refine TrL.cons_no rfl rfl rfl (gn_f rfl) rfl (bl rfl) ?_
      refine TrL.cons_no rfl rfl rfl (gn_f rfl) rfl (bl rfl) ?_
      refine TrL.cons_no rfl rfl rfl (gn_f rfl) rfl (bl rfl) ?_
      refine TrL.v (v_pick_t rfl rfl rfl rfl) rfl rfl (bl rfl) ?_
      refine TrL.v (v_move rfl rfl) rfl rfl (bl rfl) ?_
      refine TrL.cons_no rfl rfl rfl (gn_f rfl) rfl (bl rfl) ?_
      refine TrL.cons_no rfl rfl rfl (gn_f rfl) rfl (bl rfl) ?_
      refine TrL.cons_no rfl rfl rfl (gn_f rfl) rfl (bl rfl) ?_
      refine TrL.v (v_pick_t rfl rfl rfl rfl) rfl rfl (bl rfl) ?_
      refine TrL.v (v_move rfl rfl) rfl rfl (bl rfl) ?_
      refine TrL.cons_no rfl rfl rfl (gn_f rfl) rfl (bl rfl) ?_
      refine TrL.cons_no rfl rfl rfl (gn_f rfl) rfl (bl rfl) ?_
      refine TrL.cons_no rfl rfl rfl (gn_f rfl) rfl (bl rfl) ?_
      refine TrL.cons_no rfl rfl rfl (gn_f rfl) rfl (bl rfl) ?_
      refine TrL.cons_no rfl rfl rfl (gn_f rfl) rfl (bl rfl) ?_
      refine TrL.cons_no rfl rfl rfl (gn_f rfl) rfl (bl rfl) ?_
      refine TrL.cons_no rfl rfl rfl (gn_f rfl) rfl (bl rfl) ?_
      refine TrL.cons_no rfl rfl rfl (gn_f rfl) rfl (bl rfl) ?_
      refine TrL.v (v_pick_t rfl rfl rfl rfl) rfl rfl (bl rfl) ?_
      refine TrL.nil (qthen_n ?_)
      refine Tr.cond_t rfl rfl ?_
      refine Tr.seq ?_
      refine Tr.region ?_
      refine TrL.v (v_assign rfl rfl) rfl rfl (bl rfl) ?_
      refine TrL.nil (qthen_n ?_)
      have hz := Option.some.inj H
      subst hz
      refine Tr.ret (qthen_r (ret_r ⟨[(2, .int .i64 2)], [], [], []⟩ [.int .i64 2] [] [] (Imp.re _ [] [] (sc rfl sn) (by decide) rfl rfl rfl) rfl rfl ⟨rfl, rfl, rfl⟩ (.cons (resv_tmp rfl) .nil)))
    · refine TrL.cons_yes rfl rfl rfl (bf_b h16) (OpTr.v (v_fieldAddr' rfl fo48_4 rfl rfl) rfl (bl rfl) ?_)
      refine TrL.cons_yes rfl rfl rfl (bf_b h16) (OpTr.v (v_load (k := 0) rfl rfl rfl ty46 (fun _ => rfl) rfl rfl) rfl (bl rfl) ?_)
      refine TrL.cons_yes rfl rfl rfl (bf_b h16) (OpTr.v (v_len rfl sl46 rfl) rfl (bl rfl) ?_)
      refine TrL.cons_yes rfl rfl rfl (bf_b h16) (OpTr.v (v_fieldAddr' rfl fo48_1 rfl rfl) rfl (bl rfl) ?_)
      refine TrL.cons_yes rfl rfl rfl (bf_b h16) (OpTr.v (v_load (k := 0) rfl rfl rfl ty3 (fun _ => rfl) rfl rfl) rfl (bl rfl) ?_)
      refine TrL.cons_yes rfl rfl rfl (bf_b h16) (OpTr.v (v_arith rfl rfl rfl ar_gtr) rfl (bl rfl) ?_)
      refine TrL.v (v_pick_f rfl rfl (bf_b h16) rfl) rfl rfl (bl rfl) ?_
      refine TrL.v (v_move rfl rfl) rfl rfl (bl rfl) ?_
      rcases ifc H with ⟨h17, H⟩ | ⟨h17, H⟩
      · refine TrL.cons_no rfl rfl rfl (gn_f (bt_dec h17)) rfl (bl rfl) ?_
        refine TrL.cons_no rfl rfl rfl (gn_f (bt_dec h17)) rfl (bl rfl) ?_
        refine TrL.cons_no rfl rfl rfl (gn_f (bt_dec h17)) rfl (bl rfl) ?_
        refine TrL.cons_no rfl rfl rfl (gn_f (bt_dec h17)) rfl (bl rfl) ?_
        refine TrL.cons_no rfl rfl rfl (gn_f (bt_dec h17)) rfl (bl rfl) ?_
        refine TrL.v (v_pick_t rfl rfl (bt_dec h17) rfl) rfl rfl (bl rfl) ?_
        refine TrL.v (v_move rfl rfl) rfl rfl (bl rfl) ?_
        refine TrL.cons_no rfl rfl rfl (gn_f rfl) rfl (bl rfl) ?_
        refine TrL.cons_no rfl rfl rfl (gn_f rfl) rfl (bl rfl) ?_
        refine TrL.cons_no rfl rfl rfl (gn_f rfl) rfl (bl rfl) ?_
        refine TrL.v (v_pick_t rfl rfl rfl rfl) rfl rfl (bl rfl) ?_
        refine TrL.v (v_move rfl rfl) rfl rfl (bl rfl) ?_
        refine TrL.cons_no rfl rfl rfl (gn_f rfl) rfl (bl rfl) ?_
        refine TrL.cons_no rfl rfl rfl (gn_f rfl) rfl (bl rfl) ?_
        refine TrL.cons_no rfl rfl rfl (gn_f rfl) rfl (bl rfl) ?_
        refine TrL.cons_no rfl rfl rfl (gn_f rfl) rfl (bl rfl) ?_
        refine TrL.cons_no rfl rfl rfl (gn_f rfl) rfl (bl rfl) ?_
        refine TrL.cons_no rfl rfl rfl (gn_f rfl) rfl (bl rfl) ?_
        refine TrL.cons_no rfl rfl rfl (gn_f rfl) rfl (bl rfl) ?_
        refine TrL.cons_no rfl rfl rfl (gn_f rfl) rfl (bl rfl) ?_
        refine TrL.v (v_pick_t rfl rfl rfl rfl) rfl rfl (bl rfl) ?_
        refine TrL.nil (qthen_n ?_)
        refine Tr.cond_t rfl rfl ?_
        refine Tr.seq ?_
        refine Tr.region ?_
        refine TrL.v (v_assign rfl rfl) rfl rfl (bl rfl) ?_
        refine TrL.nil (qthen_n ?_)
        have hz := Option.some.inj H
        subst hz
        refine Tr.ret (qthen_r (ret_r ⟨[(2, .int .i64 2)], [], [], []⟩ [.int .i64 2] [] [] (Imp.re _ [] [] (sc rfl sn) (by decide) rfl rfl rfl) rfl rfl ⟨rfl, rfl, rfl⟩ (.cons (resv_tmp rfl) .nil)))
      · refine TrL.cons_yes rfl rfl rfl (bf_dec h17) (OpTr.v (v_fieldAddr' rfl fo48_3 rfl rfl) rfl (bl rfl) ?_)
        refine TrL.cons_yes rfl rfl rfl (bf_dec h17) (OpTr.v (v_load (k := 0) rfl rfl rfl ty22 (fun _ => rfl) rfl rfl) rfl (bl rfl) ?_)
        refine TrL.cons_yes rfl rfl rfl (bf_dec h17) (OpTr.v (v_fieldAddr' rfl fo48_2 rfl rfl) rfl (bl rfl) ?_)
        refine TrL.cons_yes rfl rfl rfl (bf_dec h17) (OpTr.v (v_load (k := 0) rfl rfl rfl ty22 (fun _ => rfl) rfl rfl) rfl (bl rfl) ?_)
        refine TrL.cons_yes rfl rfl rfl (bf_dec h17) (OpTr.v (v_arith rfl rfl rfl ar_gtr) rfl (bl rfl) ?_)
        refine TrL.v (v_pick_f rfl rfl (bf_dec h17) rfl) rfl rfl (bl rfl) ?_
        refine TrL.v (v_move rfl rfl) rfl rfl (bl rfl) ?_
        rcases ifc H with ⟨h18, H⟩ | ⟨h18, H⟩
        · refine TrL.cons_no rfl rfl rfl (gn_f (bt_dec h18)) rfl (bl rfl) ?_
          refine TrL.cons_no rfl rfl rfl (gn_f (bt_dec h18)) rfl (bl rfl) ?_
          refine TrL.cons_no rfl rfl rfl (gn_f (bt_dec h18)) rfl (bl rfl) ?_
          refine TrL.v (v_pick_t rfl rfl (bt_dec h18) rfl) rfl rfl (bl rfl) ?_
          refine TrL.v (v_move rfl rfl) rfl rfl (bl rfl) ?_
          refine TrL.cons_no rfl rfl rfl (gn_f rfl) rfl (bl rfl) ?_
          refine TrL.cons_no rfl rfl rfl (gn_f rfl) rfl (bl rfl) ?_
          refine TrL.cons_no rfl rfl rfl (gn_f rfl) rfl (bl rfl) ?_
          refine TrL.cons_no rfl rfl rfl (gn_f rfl) rfl (bl rfl) ?_
          refine TrL.cons_no rfl rfl rfl (gn_f rfl) rfl (bl rfl) ?_
          refine TrL.cons_no rfl rfl rfl (gn_f rfl) rfl (bl rfl) ?_
          refine TrL.cons_no rfl rfl rfl (gn_f rfl) rfl (bl rfl) ?_
          refine TrL.cons_no rfl rfl rfl (gn_f rfl) rfl (bl rfl) ?_
          refine TrL.v (v_pick_t rfl rfl rfl rfl) rfl rfl (bl rfl) ?_
          refine TrL.nil (qthen_n ?_)
          refine Tr.cond_t rfl rfl ?_
          refine Tr.seq ?_
          refine Tr.region ?_
          refine TrL.v (v_assign rfl rfl) rfl rfl (bl rfl) ?_
          refine TrL.nil (qthen_n ?_)
          have hz := Option.some.inj H
          subst hz
          refine Tr.ret (qthen_r (ret_r ⟨[(2, .int .i64 2)], [], [], []⟩ [.int .i64 2] [] [] (Imp.re _ [] [] (sc rfl sn) (by decide) rfl rfl rfl) rfl rfl ⟨rfl, rfl, rfl⟩ (.cons (resv_tmp rfl) .nil)))
        · refine TrL.cons_yes rfl rfl rfl (bf_dec h18) (OpTr.v (v_fieldAddr' rfl fo48_2 rfl rfl) rfl (bl rfl) ?_)
          refine TrL.cons_yes rfl rfl rfl (bf_dec h18) (OpTr.v (v_load (k := 0) rfl rfl rfl ty22 (fun _ => rfl) rfl rfl) rfl (bl rfl) ?_)
          refine TrL.cons_yes rfl rfl rfl (bf_dec h18) (OpTr.v (v_arith rfl rfl rfl ar_gtr) rfl (bl rfl) ?_)
          refine TrL.v (v_pick_f rfl rfl (bf_dec h18) rfl) rfl rfl (bl rfl) ?_
          refine TrL.v (v_move rfl rfl) rfl rfl (bl rfl) ?_
          rcases ifc H with ⟨h19, H⟩ | ⟨h19, H⟩
          · refine TrL.cons_no rfl rfl rfl (gn_f (bt_dec h19)) rfl (bl rfl) ?_
            refine TrL.cons_no rfl rfl rfl (gn_f (bt_dec h19)) rfl (bl rfl) ?_
            refine TrL.cons_no rfl rfl rfl (gn_f (bt_dec h19)) rfl (bl rfl) ?_
            refine TrL.cons_no rfl rfl rfl (gn_f (bt_dec h19)) rfl (bl rfl) ?_
            refine TrL.cons_no rfl rfl rfl (gn_f (bt_dec h19)) rfl (bl rfl) ?_
            refine TrL.cons_no rfl rfl rfl (gn_f (bt_dec h19)) rfl (bl rfl) ?_
            refine TrL.cons_no rfl rfl rfl (gn_f (bt_dec h19)) rfl (bl rfl) ?_
            refine TrL.cons_no rfl rfl rfl (gn_f (bt_dec h19)) rfl (bl rfl) ?_
            refine TrL.v (v_pick_t rfl rfl (bt_dec h19) rfl) rfl rfl (bl rfl) ?_
            refine TrL.nil (qthen_n ?_)
            refine Tr.cond_t rfl rfl ?_
            refine Tr.seq ?_
            refine Tr.region ?_
            refine TrL.v (v_assign rfl rfl) rfl rfl (bl rfl) ?_
            refine TrL.nil (qthen_n ?_)
            have hz := Option.some.inj H
            subst hz
            refine Tr.ret (qthen_r (ret_r ⟨[(2, .int .i64 2)], [], [], []⟩ [.int .i64 2] [] [] (Imp.re _ [] [] (sc rfl sn) (by decide) rfl rfl rfl) rfl rfl ⟨rfl, rfl, rfl⟩ (.cons (resv_tmp rfl) .nil)))
          · refine TrL.cons_yes rfl rfl rfl (bf_dec h19) (OpTr.v (v_fieldAddr' rfl fo48_2 rfl rfl) rfl (bl rfl) ?_)
            refine TrL.cons_yes rfl rfl rfl (bf_dec h19) (OpTr.v (v_load (k := 0) rfl rfl rfl ty22 (fun _ => rfl) rfl rfl) rfl (bl rfl) ?_)
            refine TrL.cons_yes rfl rfl rfl (bf_dec h19) (OpTr.v (v_fieldAddr' rfl fo48_3 rfl rfl) rfl (bl rfl) ?_)
            refine TrL.cons_yes rfl rfl rfl (bf_dec h19) (OpTr.v (v_load (k := 0) rfl rfl rfl ty22 (fun _ => rfl) rfl rfl) rfl (bl rfl) ?_)
            refine TrL.cons_yes rfl rfl rfl (bf_dec h19) (OpTr.v (v_arith rfl rfl rfl ar_sub_u64) rfl (bl rfl) ?_)
            refine TrL.cons_yes rfl rfl rfl (bf_dec h19) (OpTr.v (v_fieldAddr' rfl fo48_0 rfl rfl) rfl (bl rfl) ?_)
            refine TrL.cons_yes rfl rfl rfl (bf_dec h19) (OpTr.v (v_load (k := 0) rfl rfl rfl ty22 (fun _ => rfl) rfl rfl) rfl (bl rfl) ?_)
            refine TrL.cons_yes rfl rfl rfl (bf_dec h19) (OpTr.v (v_arith rfl rfl rfl ar_gtr) rfl (bl rfl) ?_)
            refine TrL.v (v_pick_f rfl rfl (bf_dec h19) rfl) rfl rfl (bl rfl) ?_
            refine TrL.nil (qthen_n ?_)
            rcases ifc H with ⟨h20, H⟩ | ⟨h20, H⟩
            · refine Tr.cond_t rfl (bt_dec h20) ?_
              refine Tr.seq ?_
              refine Tr.region ?_
              refine TrL.v (v_assign rfl rfl) rfl rfl (bl rfl) ?_
              refine TrL.nil (qthen_n ?_)
              have hz := Option.some.inj H
              subst hz
              refine Tr.ret (qthen_r (ret_r ⟨[(2, .int .i64 2)], [], [], []⟩ [.int .i64 2] [] [] (Imp.re _ [] [] (sc rfl sn) (by decide) rfl rfl rfl) rfl rfl ⟨rfl, rfl, rfl⟩ (.cons (resv_tmp rfl) .nil)))
            · refine Tr.cond_f rfl (bf_dec h20) ?_
              refine Tr.skip (qthen_n ?_)
              refine Tr.seq ?_
              refine Tr.region ?_
              refine TrL.v (v_assign rfl rfl) rfl rfl (bl rfl) ?_
              refine TrL.nil (qthen_n ?_)
              have hz := Option.some.inj H
              subst hz
              refine Tr.ret (ret_r ⟨[(2, .int .i64 0)], [], [], []⟩ [.int .i64 0] [] [] (Imp.re _ [] [] (sc rfl sn) (by decide) rfl rfl rfl) rfl rfl ⟨rfl, rfl, rfl⟩ (.cons (resv_tmp rfl) .nil))

theorem c_buffer_Same (p1 : Int × Int × Int × Int × List (Int × Int × Int)) (p2 : Int × Int × Int × Int × List (Int × Int × Int)) (A1 : Option Addr) (c1 : Nat) (A2 : Option Addr) (c2 : Nat) (r : Bool) (H : buffer_Same p1 p2 = some r) :
    Ctr Try.prog 58 [.agg #[.int .u64 p1.1, .int .i64 p1.2.1, .int .u64 p1.2.2.1, .int .u64 p1.2.2.2.1, .slice A1 p1.2.2.2.2.length c1], .agg #[.int .u64 p2.1, .int .i64 p2.2.1, .int .u64 p2.2.2.1, .int .u64 p2.2.2.2.1, .slice A2 p2.2.2.2.2.length c2]] [] [slF rp_u64_u64_u64 A1 c1 p1.2.2.2.2, slF rp_u64_u64_u64 A2 c2 p2.2.2.2.2] (fun ret M' F' => ret = .bool r ∧ M' = [] ∧ F' = []) := by
  unfold buffer_Same at H
  refine ctr_ofI (N := 40) Try.func58 rfl Try.ntmps58 rfl (Nat.le_of_ble_eq_true rfl) (fun γ0 w0 => ?_)
  refine Tr.seq ?_
  refine Tr.region ?_
  refine TrL.cons rfl (op_box' rfl (bl rfl) rfl rfl rfl (fun b3 => ?_))
  refine TrL.cons rfl (op_box' rfl (bl rfl) rfl rfl rfl (fun b4 => ?_))
  refine TrL.v (v_assign rfl rfl) rfl rfl (bl rfl) ?_
  refine TrL.nil (qthen_n ?_)
  refine Tr.seq ?_
  obtain ⟨j2, hj2, H⟩ := bnd H
  refine Tr.cutE (D := Bool) (M := Unit) .normal (fun _d => j2 = _d) (fun j2 m4 => ⟨[(2, .pointer (some ⟨b3, 0, none⟩)), (3, .pointer (some ⟨b4, 0, none⟩)), (5, .bool j2)], [cells b3 [.int .u64 p1.1, .int .i64 p1.2.1, .int .u64 p1.2.2.1, .int .u64 p1.2.2.2.1, .slice A1 p1.2.2.2.2.length c1] 48, cells b4 [.int .u64 p2.1, .int .i64 p2.2.1, .int .u64 p2.2.2.1, .int .u64 p2.2.2.2.1, .slice A2 p2.2.2.2.2.length c2] 48], [slF rp_u64_u64_u64 A1 c1 p1.2.2.2.2, slF rp_u64_u64_u64 A2 c2 p2.2.2.2.2], []⟩) ?_ (fun j2 m4 hd2 => ?_)
  · refine Tr.region ?_
    refine TrL.v (v_fieldAddr' rfl fo48_0 rfl rfl) rfl rfl (bl rfl) ?_
    refine TrL.v (v_load (k := 1) rfl rfl rfl ty22 (fun _ => rfl) rfl rfl) rfl rfl (bl rfl) ?_
    refine TrL.v (v_fieldAddr' rfl fo48_0 rfl rfl) rfl rfl (bl rfl) ?_
    refine TrL.v (v_load (k := 0) rfl rfl rfl ty22 (fun _ => rfl) rfl rfl) rfl rfl (bl rfl) ?_
    refine TrL.v (v_arith rfl rfl rfl ar_eql) rfl rfl (bl rfl) ?_
    refine TrL.v (v_move rfl rfl) rfl rfl (bl rfl) ?_
    rcases ifc hj2 with ⟨h15, hj2⟩ | ⟨h15, hj2⟩
    · refine TrL.cons_yes rfl rfl rfl (bt_dec h15) (OpTr.v (v_fieldAddr' rfl fo48_2 rfl rfl) rfl (bl rfl) ?_)
      refine TrL.cons_yes rfl rfl rfl (bt_dec h15) (OpTr.v (v_load (k := 1) rfl rfl rfl ty22 (fun _ => rfl) rfl rfl) rfl (bl rfl) ?_)
      refine TrL.cons_yes rfl rfl rfl (bt_dec h15) (OpTr.v (v_fieldAddr' rfl fo48_2 rfl rfl) rfl (bl rfl) ?_)
      refine TrL.cons_yes rfl rfl rfl (bt_dec h15) (OpTr.v (v_load (k := 0) rfl rfl rfl ty22 (fun _ => rfl) rfl rfl) rfl (bl rfl) ?_)
      refine TrL.cons_yes rfl rfl rfl (bt_dec h15) (OpTr.v (v_arith rfl rfl rfl ar_eql) rfl (bl rfl) ?_)
      refine TrL.v (v_pick_t rfl rfl (bt_dec h15) rfl) rfl rfl (bl rfl) ?_
      refine TrL.v (v_move rfl rfl) rfl rfl (bl rfl) ?_
      rcases ifc hj2 with ⟨h16, hj2⟩ | ⟨h16, hj2⟩
      · refine TrL.cons_yes rfl rfl rfl (bt_dec h16) (OpTr.v (v_fieldAddr' rfl fo48_3 rfl rfl) rfl (bl rfl) ?_)
        refine TrL.cons_yes rfl rfl rfl (bt_dec h16) (OpTr.v (v_load (k := 1) rfl rfl rfl ty22 (fun _ => rfl) rfl rfl) rfl (bl rfl) ?_)
        refine TrL.cons_yes rfl rfl rfl (bt_dec h16) (OpTr.v (v_fieldAddr' rfl fo48_3 rfl rfl) rfl (bl rfl) ?_)
        refine TrL.cons_yes rfl rfl rfl (bt_dec h16) (OpTr.v (v_load (k := 0) rfl rfl rfl ty22 (fun _ => rfl) rfl rfl) rfl (bl rfl) ?_)
        refine TrL.cons_yes rfl rfl rfl (bt_dec h16) (OpTr.v (v_arith rfl rfl rfl ar_eql) rfl (bl rfl) ?_)
        refine TrL.v (v_pick_t rfl rfl (bt_dec h16) rfl) rfl rfl (bl rfl) ?_
        refine TrL.v (v_assign rfl rfl) rfl rfl (bl rfl) ?_
        refine TrL.nil (qcut_hit (decide (p1.2.2.2.1 = p2.2.2.2.1)) (()) (Option.some.inj hj2).symm (Imp.re _ [1, 0] [0, 1] (sc rfl (sc rfl (sc rfl sn))) (by decide) rfl rfl rfl))
      · refine TrL.cons_no rfl rfl rfl (gn_t (bf_dec h16)) rfl (bl rfl) ?_
        refine TrL.cons_no rfl rfl rfl (gn_t (bf_dec h16)) rfl (bl rfl) ?_
        refine TrL.cons_no rfl rfl rfl (gn_t (bf_dec h16)) rfl (bl rfl) ?_
        refine TrL.cons_no rfl rfl rfl (gn_t (bf_dec h16)) rfl (bl rfl) ?_
        refine TrL.cons_no rfl rfl rfl (gn_t (bf_dec h16)) rfl (bl rfl) ?_
        refine TrL.v (v_pick_f rfl rfl (bf_dec h16) rfl) rfl rfl (bl rfl) ?_
        refine TrL.v (v_assign rfl rfl) rfl rfl (bl rfl) ?_
        refine TrL.nil (qcut_hit false (()) (Option.some.inj hj2).symm (Imp.re _ [1, 0] [0, 1] (sc rfl (sc rfl (sc rfl sn))) (by decide) rfl rfl rfl))
    · refine TrL.cons_no rfl rfl rfl (gn_t (bf_dec h15)) rfl (bl rfl) ?_
      refine TrL.cons_no rfl rfl rfl (gn_t (bf_dec h15)) rfl (bl rfl) ?_
      refine TrL.cons_no rfl rfl rfl (gn_t (bf_dec h15)) rfl (bl rfl) ?_
      refine TrL.cons_no rfl rfl rfl (gn_t (bf_dec h15)) rfl (bl rfl) ?_
      refine TrL.cons_no rfl rfl rfl (gn_t (bf_dec h15)) rfl (bl rfl) ?_
      refine TrL.v (v_pick_f rfl rfl (bf_dec h15) rfl) rfl rfl (bl rfl) ?_
      refine TrL.v (v_move rfl rfl) rfl rfl (bl rfl) ?_
      refine TrL.cons_no rfl rfl rfl (gn_t rfl) rfl (bl rfl) ?_
      refine TrL.cons_no rfl rfl rfl (gn_t rfl) rfl (bl rfl) ?_
      refine TrL.cons_no rfl rfl rfl (gn_t rfl) rfl (bl rfl) ?_
      refine TrL.cons_no rfl rfl rfl (gn_t rfl) rfl (bl rfl) ?_
      refine TrL.cons_no rfl rfl rfl (gn_t rfl) rfl (bl rfl) ?_
      refine TrL.v (v_pick_f rfl rfl rfl rfl) rfl rfl (bl rfl) ?_
      refine TrL.v (v_assign rfl rfl) rfl rfl (bl rfl) ?_
      refine TrL.nil (qcut_hit false (()) (Option.some.inj hj2).symm (Imp.re _ [1, 0] [0, 1] (sc rfl (sc rfl (sc rfl sn))) (by decide) rfl rfl rfl))
  · subst hd2
    refine (qthen_n ?_)
    refine Tr.seq ?_
    refine Tr.region ?_
    refine TrL.v (v_move rfl rfl) rfl rfl (bl rfl) ?_
    refine TrL.v (v_move rfl rfl) rfl rfl (bl rfl) ?_
    rcases ifc H with ⟨h19, H⟩ | ⟨h19, H⟩
    · refine TrL.cons_yes rfl rfl rfl h19 (OpTr.v (v_fieldAddr' rfl fo48_1 rfl rfl) rfl (bl rfl) ?_)
      refine TrL.cons_yes rfl rfl rfl h19 (OpTr.v (v_load (k := 0) rfl rfl rfl ty3 (fun _ => rfl) rfl rfl) rfl (bl rfl) ?_)
      refine TrL.cons_yes rfl rfl rfl h19 (OpTr.v (v_fieldAddr' rfl fo48_1 rfl rfl) rfl (bl rfl) ?_)
      refine TrL.cons_yes rfl rfl rfl h19 (OpTr.v (v_load (k := 1) rfl rfl rfl ty3 (fun _ => rfl) rfl rfl) rfl (bl rfl) ?_)
      refine TrL.cons_yes rfl rfl rfl h19 (OpTr.v (v_arith rfl rfl rfl ar_eql) rfl (bl rfl) ?_)
      refine TrL.v (v_pick_t rfl rfl h19 rfl) rfl rfl (bl rfl) ?_
      refine TrL.v (v_move rfl rfl) rfl rfl (bl rfl) ?_
      rcases ifc H with ⟨h20, H⟩ | ⟨h20, H⟩
      · refine TrL.cons_yes rfl rfl rfl (bt_dec h20) (OpTr.v (v_fieldAddr' rfl fo48_4 rfl rfl) rfl (bl rfl) ?_)
        refine TrL.cons_yes rfl rfl rfl (bt_dec h20) (OpTr.v (v_load (k := 0) rfl rfl rfl ty46 (fun _ => rfl) rfl rfl) rfl (bl rfl) ?_)
        refine TrL.cons_yes rfl rfl rfl (bt_dec h20) (OpTr.v (v_fieldAddr' rfl fo48_4 rfl rfl) rfl (bl rfl) ?_)
        refine TrL.cons_yes rfl rfl rfl (bt_dec h20) (OpTr.v (v_load (k := 1) rfl rfl rfl ty46 (fun _ => rfl) rfl rfl) rfl (bl rfl) ?_)
        obtain ⟨r4, hr4, H⟩ := bnd H
        refine TrL.cons_yes rfl rfl rfl (bt_dec h20) (op_call0' (vs := [.slice A1 p1.2.2.2.2.length c1, .slice A2 p2.2.2.2.2.length c2]) (cap := []) [0, 1] rfl rfl (bl rfl) rfl rfl en77 (c_slices_Equal_Event p1.2.2.2.2 p2.2.2.2.2 A1 c1 A2 c2 r4 hr4) rfl (fun ret M' F' hR4 => ?_))
        obtain ⟨rfl, rfl, rfl⟩ := hR4
        refine TrL.v (v_pick_t rfl rfl (bt_dec h20) rfl) rfl rfl (bl rfl) ?_
        refine TrL.v (v_assign rfl rfl) rfl rfl (bl rfl) ?_
        refine TrL.nil (qthen_n ?_)
        have hz := Option.some.inj H
        subst hz
        refine Tr.ret (ret_r ⟨[(4, .bool r4)], [], [], []⟩ [.bool r4] [] [] (Imp.re _ [] [] (sc rfl sn) (by decide) rfl rfl rfl) rfl rfl ⟨rfl, rfl, rfl⟩ (.cons (resv_tmp rfl) .nil))
      · refine TrL.cons_no rfl rfl rfl (gn_t (bf_dec h20)) rfl (bl rfl) ?_
        refine TrL.cons_no rfl rfl rfl (gn_t (bf_dec h20)) rfl (bl rfl) ?_
        refine TrL.cons_no rfl rfl rfl (gn_t (bf_dec h20)) rfl (bl rfl) ?_
        refine TrL.cons_no rfl rfl rfl (gn_t (bf_dec h20)) rfl (bl rfl) ?_
        refine TrL.cons_no rfl rfl rfl (gn_t (bf_dec h20)) rfl (bl rfl) ?_
        refine TrL.v (v_pick_f rfl rfl (bf_dec h20) rfl) rfl rfl (bl rfl) ?_
        refine TrL.v (v_assign rfl rfl) rfl rfl (bl rfl) ?_
        refine TrL.nil (qthen_n ?_)
        have hz := Option.some.inj H
        subst hz
        refine Tr.ret (ret_r ⟨[(4, .bool false)], [], [], []⟩ [.bool false] [] [] (Imp.re _ [] [] (sc rfl sn) (by decide) rfl rfl rfl) rfl rfl ⟨rfl, rfl, rfl⟩ (.cons (resv_tmp rfl) .nil))
    · refine TrL.cons_no rfl rfl rfl (gn_t (bf_b h19)) rfl (bl rfl) ?_
      refine TrL.cons_no rfl rfl rfl (gn_t (bf_b h19)) rfl (bl rfl) ?_
      refine TrL.cons_no rfl rfl rfl (gn_t (bf_b h19)) rfl (bl rfl) ?_
      refine TrL.cons_no rfl rfl rfl (gn_t (bf_b h19)) rfl (bl rfl) ?_
      refine TrL.cons_no rfl rfl rfl (gn_t (bf_b h19)) rfl (bl rfl) ?_
      refine TrL.v (v_pick_f rfl rfl (bf_b h19) rfl) rfl rfl (bl rfl) ?_
      refine TrL.v (v_move rfl rfl) rfl rfl (bl rfl) ?_
      refine TrL.cons_no rfl rfl rfl (gn_t rfl) rfl (bl rfl) ?_
      refine TrL.cons_no rfl rfl rfl (gn_t rfl) rfl (bl rfl) ?_
      refine TrL.cons_no rfl rfl rfl (gn_t rfl) rfl (bl rfl) ?_
      refine TrL.cons_no rfl rfl rfl (gn_t rfl) rfl (bl rfl) ?_
      refine TrL.cons_no rfl rfl rfl (gn_t rfl) rfl (bl rfl) ?_
      refine TrL.v (v_pick_f rfl rfl rfl rfl) rfl rfl (bl rfl) ?_
      refine TrL.v (v_assign rfl rfl) rfl rfl (bl rfl) ?_
      refine TrL.nil (qthen_n ?_)
      have hz := Option.some.inj H
      subst hz
      refine Tr.ret (ret_r ⟨[(4, .bool false)], [], [], []⟩ [.bool false] [] [] (Imp.re _ [] [] (sc rfl sn) (by decide) rfl rfl rfl) rfl rfl ⟨rfl, rfl, rfl⟩ (.cons (resv_tmp rfl) .nil))

theorem c_buffer_Move (p1 : Int × Int × Int × Int × List (Int × Int × Int)) (p2 : Int) (A1 : Option Addr) (c1 : Nat) (r : Int × Int × Int × Int × (List (Int × Int × Int)) × (List (Int × Int × Int)) × Int) (H : buffer_Move p1 p2 = some r) :
    Ctr Try.prog 50 [.agg #[.int .u64 p1.1, .int .i64 p1.2.1, .int .u64 p1.2.2.1, .int .u64 p1.2.2.2.1, .slice A1 p1.2.2.2.2.length c1], .int .u64 p2] [] [slF rp_u64_u64_u64 A1 c1 p1.2.2.2.2] (fun ret M' F' => ∃ m : Option Addr × Nat × Option Addr × Nat, ret = .tuple #[.agg #[.int .u64 r.1, .int .i64 r.2.1, .int .u64 r.2.2.1, .int .u64 r.2.2.2.1, .slice m.1 r.2.2.2.2.1.length m.2.1], .slice m.2.2.1 r.2.2.2.2.2.1.length m.2.2.2, .int .i64 r.2.2.2.2.2.2] ∧ M' = [] ∧ F' = [slF rp_u64_u64_u64 m.1 m.2.1 r.2.2.2.2.1, slF rp_u64_u64_u64 m.2.2.1 m.2.2.2 r.2.2.2.2.2.1]) := by
  unfold buffer_Move at H
  refine ctr_ofI (N := 29) Try.func50 rfl Try.ntmps50 rfl (Nat.le_of_ble_eq_true rfl) (fun γ0 w0 => ?_)
  refine Tr.seq ?_
  refine Tr.region ?_
  refine TrL.cons rfl (op_box' rfl (bl rfl) rfl rfl rfl (fun b4 => ?_))
  refine TrL.cons rfl (op_alloc' rfl (bl rfl) rfl ze48 (fun b5 => ?_))
  refine TrL.v (v_assign rfl rfl) rfl rfl (bl rfl) ?_
  refine TrL.v (v_assign rfl rfl) rfl rfl (bl rfl) ?_
  refine TrL.nil (qthen_n ?_)
  refine Tr.seq ?_
  refine Tr.seq ?_
  refine Tr.region ?_
  refine TrL.v (v_move rfl rfl) rfl rfl (bl rfl) ?_
  refine TrL.v (v_arith rfl rfl rfl ar_gtr) rfl rfl (bl rfl) ?_
  refine TrL.nil (qthen_n ?_)
  rcases ifc H with ⟨h2, H⟩ | ⟨h2, H⟩
  · refine Tr.cond_t rfl (bt_dec h2) ?_
    refine Tr.seq ?_
    refine Tr.region ?_
    refine TrL.v (v_build (vs := []) (out := [.int .u64 0, .int .i64 0, .int .u64 0, .int .u64 0, .slice none 0 0]) rfl pl48 ze48 rfl rfl) rfl rfl (bl rfl) ?_
    refine TrL.cons rfl (op_store' (k := 0) (c' := [.int .u64 0, .int .i64 0, .int .u64 0, .int .u64 0, .slice none 0 0]) rfl rfl rfl rfl rfl ty48 rfl (Nat.le_of_ble_eq_true rfl) (ones (oc rfl (oc rfl (oc rfl (oc rfl (oc rfl on)))))) rfl ?_)
    refine TrL.v (v_assign rfl rfl) rfl rfl (bl rfl) ?_
    refine TrL.v (v_assign rfl rfl) rfl rfl (bl rfl) ?_
    refine TrL.nil (qthen_n ?_)
    have hz := Option.some.inj H
    subst hz
    refine Tr.ret (qthen_r (ret_r ⟨[(4, .pointer (some ⟨b5, 0, none⟩)), (5, .slice none 0 0), (6, .int .i64 6)], [cells b5 [.int .u64 0, .int .i64 0, .int .u64 0, .int .u64 0, .slice none 0 0] 48], [slF rp_u64_u64_u64 none 0 (([] : List (Int × Int × Int))), slF rp_u64_u64_u64 none 0 (([] : List (Int × Int × Int)))], []⟩ [.agg #[.int .u64 0, .int .i64 0, .int .u64 0, .int .u64 0, .slice none 0 0], .slice none 0 0, .int .i64 6] [] [cells b5 [.int .u64 0, .int .i64 0, .int .u64 0, .int .u64 0, .slice none 0 0] 48] (Imp.addF' _ (nilF rp_u64_u64_u64) (Imp.re _ [0] [1, 1] (sc rfl (sc rfl (sc rfl sn))) (by decide) rfl rfl rfl)) rfl rfl ⟨((none, 0, none, 0)), rfl, rfl, rfl⟩ (.cons (resv_cell (k := 0) rfl rfl ty48 nofun rfl rfl) (.cons (resv_tmp rfl) (.cons (resv_tmp rfl) .nil)))))
  · refine Tr.cond_f rfl (bf_dec h2) ?_
    refine Tr.skip (qthen_n ?_)
    refine Tr.seq ?_
    refine Tr.region ?_
    refine TrL.v (v_fieldAddr' rfl fo48_2 rfl rfl) rfl rfl (bl rfl) ?_
    refine TrL.v (v_load (k := 1) rfl rfl rfl ty22 (fun _ => rfl) rfl rfl) rfl rfl (bl rfl) ?_
    refine TrL.v (v_move rfl rfl) rfl rfl (bl rfl) ?_
    refine TrL.cons rfl (op_buildSlice' (rp := (rInt .u64)) (xs := [p1.2.2.1, p2]) (vs := [.int .u64 p1.2.2.1, .int .u64 p2]) (out := [.int .u64 p1.2.2.1, .int .u64 p2]) rfl (bl rfl) rfl sl129 ty22 ze22 rfl rfl (by decide) (by decide) rfl (fun γ w hF => (rowc rfl (rowc rfl rown rfl) rfl)) (fun A3 => ?_))
    obtain ⟨r4, hr4, H⟩ := bnd H
    refine TrL.cons rfl (op_call0' (vs := [.slice A3 2 2]) (cap := []) [1] rfl rfl (bl rfl) rfl rfl en67 (c_buffer_latest ([p1.2.2.1, p2]) A3 2 r4 hr4) rfl (fun ret M' F' hR4 => ?_))
    obtain ⟨rfl, rfl, rfl⟩ := hR4
    refine TrL.v (v_fieldAddr' rfl fo48_2 rfl rfl) rfl rfl (bl rfl) ?_
    refine TrL.cons rfl (op_store' (k := 1) (c' := [.int .u64 p1.1, .int .i64 p1.2.1, .int .u64 r4, .int .u64 p1.2.2.2.1, .slice A1 p1.2.2.2.2.length c1]) rfl rfl rfl rfl rfl ty22 rfl (Nat.le_of_ble_eq_true rfl) (ones (oc rfl on)) rfl ?_)
    refine TrL.nil (qthen_n ?_)
    refine Tr.seq ?_
    refine Tr.region ?_
    refine TrL.v (v_fieldAddr' rfl fo48_4 rfl rfl) rfl rfl (bl rfl) ?_
    refine TrL.v (v_load (k := 1) rfl rfl rfl ty46 (fun _ => rfl) rfl rfl) rfl rfl (bl rfl) ?_
    obtain ⟨r5, hr5, H⟩ := bnd H
    refine TrL.cons rfl (op_call0' (vs := [.slice A1 p1.2.2.2.2.length c1]) (cap := []) [0] rfl rfl (bl rfl) rfl rfl en74 (c_slices_Clone_Event p1.2.2.2.2 A1 c1 r5 hr5) rfl (fun ret M' F' hR5 => ?_))
    obtain ⟨m5, rfl, rfl, rfl⟩ := hR5
    refine TrL.v (v_fieldAddr' rfl fo48_4 rfl rfl) rfl rfl (bl rfl) ?_
    refine TrL.cons rfl (op_store' (k := 1) (c' := [.int .u64 p1.1, .int .i64 p1.2.1, .int .u64 r4, .int .u64 p1.2.2.2.1, .slice m5.1 r5.length m5.2]) rfl rfl rfl rfl rfl ty46 rfl (Nat.le_of_ble_eq_true rfl) (ones (oc rfl on)) rfl ?_)
    refine TrL.nil (qthen_n ?_)
    refine Tr.seq ?_
    refine Tr.region ?_
    refine TrL.v (v_load (k := 1) rfl rfl rfl ty48 nofun rfl rfl) rfl rfl (bl rfl) ?_
    obtain ⟨r6, hr6, H⟩ := bnd H
    refine TrL.cons rfl (op_call0' (vs := [.agg #[.int .u64 p1.1, .int .i64 p1.2.1, .int .u64 r4, .int .u64 p1.2.2.2.1, .slice m5.1 r5.length m5.2]]) (cap := []) [2] rfl rfl (bl rfl) rfl rfl en69 (c_buffer_Buf_settle ((p1.1, p1.2.1, r4, p1.2.2.2.1, r5)) m5.1 m5.2 r6 hr6) rfl (fun ret M' F' hR6 => ?_))
    obtain ⟨m6, rfl, rfl, rfl⟩ := hR6
    refine TrL.v (v_move rfl rfl) rfl rfl (bl rfl) ?_
    refine TrL.v (v_extract rfl rfl rfl) rfl rfl (bl rfl) ?_
    refine TrL.v (v_extract rfl rfl rfl) rfl rfl (bl rfl) ?_
    refine TrL.cons rfl (op_alloc' rfl (bl rfl) rfl ze48 (fun b6 => ?_))
    refine TrL.cons rfl (op_store' (k := 0) (c' := [.int .u64 (((p1.1, p1.2.1, r4, p1.2.2.2.1, r5)).1), .int .i64 (((p1.1, p1.2.1, r4, p1.2.2.2.1, r5)).2.1), .int .u64 (((p1.1, p1.2.1, r4, p1.2.2.2.1, r5)).2.2.1), .int .u64 r6.1, .slice m6.1 r6.2.1.length m6.2.1]) rfl rfl rfl rfl rfl ty48 rfl (Nat.le_of_ble_eq_true rfl) (ones (oc rfl (oc rfl (oc rfl (oc rfl (oc rfl on)))))) rfl ?_)
    refine TrL.v (v_assign rfl rfl) rfl rfl (bl rfl) ?_
    refine TrL.nil (qthen_n ?_)
    refine Tr.seq ?_
    refine Tr.region ?_
    refine TrL.v (v_load (k := 0) rfl rfl rfl ty48 nofun rfl rfl) rfl rfl (bl rfl) ?_
    refine TrL.v (v_move rfl rfl) rfl rfl (bl rfl) ?_
    refine TrL.cons rfl (op_store' (k := 1) (c' := [.int .u64 (((p1.1, p1.2.1, r4, p1.2.2.2.1, r5)).1), .int .i64 (((p1.1, p1.2.1, r4, p1.2.2.2.1, r5)).2.1), .int .u64 (((p1.1, p1.2.1, r4, p1.2.2.2.1, r5)).2.2.1), .int .u64 r6.1, .slice m6.1 r6.2.1.length m6.2.1]) rfl rfl rfl rfl rfl ty48 rfl (Nat.le_of_ble_eq_true rfl) (ones (oc rfl (oc rfl (oc rfl (oc rfl (oc rfl on)))))) rfl ?_)
    refine TrL.v (v_assign rfl rfl) rfl rfl (bl rfl) ?_
    refine TrL.v (v_assign rfl rfl) rfl rfl (bl rfl) ?_
    refine TrL.nil (qthen_n ?_)
    have hz := Option.some.inj H
    subst hz
    refine Tr.ret (ret_r ⟨[(4, .pointer (some ⟨b5, 0, none⟩)), (5, .slice m6.2.2.1 r6.2.2.length m6.2.2.2), (6, .int .i64 0)], [cells b5 [.int .u64 (((p1.1, p1.2.1, r4, p1.2.2.2.1, r5)).1), .int .i64 (((p1.1, p1.2.1, r4, p1.2.2.2.1, r5)).2.1), .int .u64 (((p1.1, p1.2.1, r4, p1.2.2.2.1, r5)).2.2.1), .int .u64 r6.1, .slice m6.1 r6.2.1.length m6.2.1] 48], [slF rp_u64_u64_u64 m6.1 m6.2.1 r6.2.1, slF rp_u64_u64_u64 m6.2.2.1 m6.2.2.2 r6.2.2], []⟩ [.agg #[.int .u64 (((p1.1, p1.2.1, r4, p1.2.2.2.1, r5)).1), .int .i64 (((p1.1, p1.2.1, r4, p1.2.2.2.1, r5)).2.1), .int .u64 (((p1.1, p1.2.1, r4, p1.2.2.2.1, r5)).2.2.1), .int .u64 r6.1, .slice m6.1 r6.2.1.length m6.2.1], .slice m6.2.2.1 r6.2.2.length m6.2.2.2, .int .i64 0] [] [cells b5 [.int .u64 (((p1.1, p1.2.1, r4, p1.2.2.2.1, r5)).1), .int .i64 (((p1.1, p1.2.1, r4, p1.2.2.2.1, r5)).2.1), .int .u64 (((p1.1, p1.2.1, r4, p1.2.2.2.1, r5)).2.2.1), .int .u64 r6.1, .slice m6.1 r6.2.1.length m6.2.1] 48] (Imp.re _ [1] [3, 4] (sc rfl (sc rfl (sc rfl sn))) (by decide) rfl rfl rfl) rfl rfl ⟨((m6.1, m6.2.1, m6.2.2.1, m6.2.2.2)), rfl, rfl, rfl⟩ (.cons (resv_cell (k := 0) rfl rfl ty48 nofun rfl rfl) (.cons (resv_tmp rfl) (.cons (resv_tmp rfl) .nil))))
end Go.Proofs.Ythgeodagikmpjaa.W
