/- The contracts of the walked functions: the printed walks. -/
import Derived.Test.YthgeodagikmpjaaKb
import Derived.Test.YthgeodagikmpjaaQb
import Derived.Test.YthgeodagikmpjaaWbufferbb
import Derived.Test.YthgeodagikmpjaaWbuffercb
import Derived.Test.YthgeodagikmpjaaWlaw12ab
import Derived.Test.YthgeodagikmpjaaWlaw12bb
import Derived.Test.YthgeodagikmpjaaWref12db
namespace Go.Proofs.Ythgeodagikmpjaa.W
open Go Go.Proofs Go.Proofs.Ythgeodagikmpjaa.L Go.Proofs.Ythgeodagikmpjaa.Pu
set_option linter.unusedVariables false
set_option maxHeartbeats 4000000

theorem c_law12_BufferLate (p1 : Int) (p2 : List (Int × Int × Int)) (p3 : Int) (A1 : Option Addr) (c1 : Nat) (r : Bool) (H : law12_BufferLate p1 p2 p3 = some r) :
    Ctr Try.prog 12 [.int .u64 p1, .slice A1 p2.length c1, .int .u64 p3] [] [slF rp_u64_u64_u64 A1 c1 p2] (fun ret M' F' => ret = .bool r ∧ M' = [] ∧ F' = []) := by
  unfold law12_BufferLate at H
  refine ctr_ofI (N := 88) Try.func12 rfl Try.ntmps12 rfl (Nat.le_of_ble_eq_true rfl) (fun γ0 w0 => ?_)
  refine Tr.seq ?_
  refine Tr.region ?_
  refine TrL.v (v_assign rfl rfl) rfl rfl (bl rfl) ?_
  refine TrL.nil (qthen_n ?_)
  refine Tr.seq ?_
  refine Tr.region ?_
  obtain ⟨r9, hr9, H⟩ := bnd H
  refine TrL.cons rfl (op_call0' (vs := []) (cap := []) [] rfl rfl (bl rfl) rfl rfl en38 (c_law12_awake r9 hr9) rfl (fun ret M' F' hR9 => ?_))
  obtain ⟨rfl, rfl, rfl⟩ := hR9
  refine TrL.v (v_assign rfl rfl) rfl rfl (bl rfl) ?_
  refine TrL.nil (qthen_n ?_)
  refine Tr.seq ?_
  refine Tr.region ?_
  refine TrL.v (v_move rfl rfl) rfl rfl (bl rfl) ?_
  refine TrL.v (v_move rfl rfl) rfl rfl (bl rfl) ?_
  obtain ⟨r10, hr10, H⟩ := bnd H
  refine TrL.cons rfl (op_call0' (vs := [.int .u64 p1, .int .i64 30, .slice A1 p2.length c1]) (cap := []) [0] rfl rfl (bl rfl) rfl rfl en41 (c_ref12_Made p1 ((30 : Int)) p2 A1 c1 r10 hr10) rfl (fun ret M' F' hR10 => ?_))
  obtain ⟨m10, rfl, rfl, rfl⟩ := hR10
  refine TrL.v (v_move rfl rfl) rfl rfl (bl rfl) ?_
  refine TrL.v (v_extract rfl rfl rfl) rfl rfl (bl rfl) ?_
  refine TrL.v (v_extract rfl rfl rfl) rfl rfl (bl rfl) ?_
  refine TrL.cons rfl (op_alloc' rfl (bl rfl) rfl ze58 (fun b4 => ?_))
  refine TrL.cons rfl (op_store' (k := 0) (c' := [.int .u64 r10.1, .int .i64 r10.2.1, .int .u64 r10.2.2.1, .int .u64 r10.2.2.2.1, .slice m10.1 r10.2.2.2.2.1.length m10.2.1]) rfl rfl rfl rfl rfl ty58 rfl (Nat.le_of_ble_eq_true rfl) (ones (oc rfl (oc rfl (oc rfl (oc rfl (oc rfl on)))))) rfl ?_)
  refine TrL.v (v_assign rfl rfl) rfl rfl (bl rfl) ?_
  refine TrL.nil (qthen_n ?_)
  refine Tr.seq ?_
  refine Tr.region ?_
  refine TrL.v (v_load (k := 0) rfl rfl rfl ty58 nofun rfl rfl) rfl rfl (bl rfl) ?_
  obtain ⟨r11, hr11, H⟩ := bnd H
  refine TrL.cons rfl (op_call0' (vs := [.agg #[.int .u64 r10.1, .int .i64 r10.2.1, .int .u64 r10.2.2.1, .int .u64 r10.2.2.2.1, .slice m10.1 r10.2.2.2.2.1.length m10.2.1]]) (cap := []) [1] rfl rfl (bl rfl) rfl rfl en42 (c_law12_made ((r10.1, r10.2.1, r10.2.2.1, r10.2.2.2.1, r10.2.2.2.2.1)) m10.1 m10.2.1 r11 hr11) rfl (fun ret M' F' hR11 => ?_))
  obtain ⟨rfl, rfl, rfl⟩ := hR11
  refine TrL.cons rfl (op_alloc' rfl (bl rfl) rfl ze48 (fun b5 => ?_))
  refine TrL.cons rfl (op_store' (k := 0) (c' := [.int .u64 (((r10.1, r10.2.1, r10.2.2.1, r10.2.2.2.1, r10.2.2.2.2.1)).1), .int .i64 (((r10.1, r10.2.1, r10.2.2.1, r10.2.2.2.1, r10.2.2.2.2.1)).2.1), .int .u64 (((r10.1, r10.2.1, r10.2.2.1, r10.2.2.2.1, r10.2.2.2.2.1)).2.2.1), .int .u64 (((r10.1, r10.2.1, r10.2.2.1, r10.2.2.2.1, r10.2.2.2.2.1)).2.2.2.1), .slice m10.1 ((((r10.1, r10.2.1, r10.2.2.1, r10.2.2.2.1, r10.2.2.2.2.1)).2.2.2.2).length) m10.2.1]) rfl rfl rfl rfl rfl ty48 rfl (Nat.le_of_ble_eq_true rfl) (ones (oc rfl (oc rfl (oc rfl (oc rfl (oc rfl on)))))) rfl ?_)
  refine TrL.nil (qthen_n ?_)
  refine Tr.seq ?_
  refine Tr.region ?_
  refine TrL.v (v_load (k := 0) rfl rfl rfl ty48 nofun rfl rfl) rfl rfl (bl rfl) ?_
  refine TrL.v (v_move rfl rfl) rfl rfl (bl rfl) ?_
  refine TrL.v (v_build (vs := [.int .u64 p3, .int .u64 1]) (out := [.int .u64 p3, .int .u64 0, .int .u64 1]) rfl pl55 ze55 rfl rfl) rfl rfl (bl rfl) ?_
  obtain ⟨r12, hr12, H⟩ := bnd H
  refine TrL.cons rfl (op_call0' (vs := [.agg #[.int .u64 (((r10.1, r10.2.1, r10.2.2.1, r10.2.2.2.1, r10.2.2.2.2.1)).1), .int .i64 (((r10.1, r10.2.1, r10.2.2.1, r10.2.2.2.1, r10.2.2.2.2.1)).2.1), .int .u64 (((r10.1, r10.2.1, r10.2.2.1, r10.2.2.2.1, r10.2.2.2.2.1)).2.2.1), .int .u64 (((r10.1, r10.2.1, r10.2.2.1, r10.2.2.2.1, r10.2.2.2.2.1)).2.2.2.1), .slice m10.1 ((((r10.1, r10.2.1, r10.2.2.1, r10.2.2.2.1, r10.2.2.2.2.1)).2.2.2.2).length) m10.2.1], .agg #[.int .u64 p3, .int .u64 0, .int .u64 1]]) (cap := []) [3] rfl rfl (bl rfl) rfl rfl en40 (c_buffer_Push (((r10.1, r10.2.1, r10.2.2.1, r10.2.2.2.1, r10.2.2.2.2.1))) ((p3, (0 : Int), (1 : Int))) m10.1 m10.2.1 r12 hr12) rfl (fun ret M' F' hR12 => ?_))
  obtain ⟨m12, rfl, rfl, rfl⟩ := hR12
  refine TrL.v (v_move rfl rfl) rfl rfl (bl rfl) ?_
  refine TrL.v (v_extract rfl rfl rfl) rfl rfl (bl rfl) ?_
  refine TrL.v (v_extract rfl rfl rfl) rfl rfl (bl rfl) ?_
  refine TrL.v (v_extract rfl rfl rfl) rfl rfl (bl rfl) ?_
  refine TrL.cons rfl (op_alloc' rfl (bl rfl) rfl ze48 (fun b6 => ?_))
  refine TrL.cons rfl (op_store' (k := 0) (c' := [.int .u64 r12.1, .int .i64 r12.2.1, .int .u64 r12.2.2.1, .int .u64 r12.2.2.2.1, .slice m12.1 r12.2.2.2.2.1.length m12.2.1]) rfl rfl rfl rfl rfl ty48 rfl (Nat.le_of_ble_eq_true rfl) (ones (oc rfl (oc rfl (oc rfl (oc rfl (oc rfl on)))))) rfl ?_)
  refine TrL.v (v_assign rfl rfl) rfl rfl (bl rfl) ?_
  refine TrL.v (v_assign rfl rfl) rfl rfl (bl rfl) ?_
  refine TrL.nil (qthen_n ?_)
  refine Tr.seq ?_
  refine Tr.seq ?_
  refine Tr.region ?_
  refine TrL.v (v_move rfl rfl) rfl rfl (bl rfl) ?_
  refine TrL.v (v_arith rfl rfl rfl ar_gtr) rfl rfl (bl rfl) ?_
  refine TrL.nil (qthen_n ?_)
  rcases ifc H with ⟨h19, H⟩ | ⟨h19, H⟩
  · refine Tr.cond_t rfl (bt_dec h19) ?_
    refine Tr.seq ?_
    refine Tr.region ?_
    refine TrL.v (v_move rfl rfl) rfl rfl (bl rfl) ?_
    refine TrL.v (v_move rfl rfl) rfl rfl (bl rfl) ?_
    rcases ifc H with ⟨h21, H⟩ | ⟨h21, H⟩
    · refine TrL.cons_yes rfl rfl rfl h21 (OpTr.v (v_move rfl rfl) rfl (bl rfl) ?_)
      refine TrL.cons_yes rfl rfl rfl h21 (OpTr.v (v_arith rfl rfl rfl ar_eql) rfl (bl rfl) ?_)
      refine TrL.v (v_pick_t rfl rfl h21 rfl) rfl rfl (bl rfl) ?_
      refine TrL.v (v_assign rfl rfl) rfl rfl (bl rfl) ?_
      refine TrL.nil (qthen_n ?_)
      have hz := Option.some.inj H
      subst hz
      refine Tr.ret (qthen_r (ret_r ⟨[(6, .bool (decide (r12.2.2.2.2.2.2 = 6)))], [], [], []⟩ [.bool (decide (r12.2.2.2.2.2.2 = 6))] [] [] (Imp.re _ [] [] (sc rfl sn) (by decide) rfl rfl rfl) rfl rfl ⟨rfl, rfl, rfl⟩ (.cons (resv_tmp rfl) .nil)))
    · refine TrL.cons_no rfl rfl rfl (gn_t (bf_b h21)) rfl (bl rfl) ?_
      refine TrL.cons_no rfl rfl rfl (gn_t (bf_b h21)) rfl (bl rfl) ?_
      refine TrL.v (v_pick_f rfl rfl (bf_b h21) rfl) rfl rfl (bl rfl) ?_
      refine TrL.v (v_assign rfl rfl) rfl rfl (bl rfl) ?_
      refine TrL.nil (qthen_n ?_)
      have hz := Option.some.inj H
      subst hz
      refine Tr.ret (qthen_r (ret_r ⟨[(6, .bool false)], [], [], []⟩ [.bool false] [] [] (Imp.re _ [] [] (sc rfl sn) (by decide) rfl rfl rfl) rfl rfl ⟨rfl, rfl, rfl⟩ (.cons (resv_tmp rfl) .nil)))
  · refine Tr.cond_f rfl (bf_dec h19) ?_
    refine Tr.skip (qthen_n ?_)
    refine Tr.seq ?_
    refine Tr.seq ?_
    refine Tr.region ?_
    refine TrL.v (v_move rfl rfl) rfl rfl (bl rfl) ?_
    refine TrL.v (v_fieldAddr' rfl fo58_3 rfl rfl) rfl rfl (bl rfl) ?_
    refine TrL.v (v_load (k := 2) rfl rfl rfl ty22 (fun _ => rfl) rfl rfl) rfl rfl (bl rfl) ?_
    refine TrL.v (v_arith rfl rfl rfl ar_lss) rfl rfl (bl rfl) ?_
    refine TrL.nil (qthen_n ?_)
    rcases ifc H with ⟨h22, H⟩ | ⟨h22, H⟩
    · refine Tr.cond_t rfl (bt_dec h22) ?_
      refine Tr.seq ?_
      refine Tr.region ?_
      refine TrL.v (v_move rfl rfl) rfl rfl (bl rfl) ?_
      refine TrL.v (v_move rfl rfl) rfl rfl (bl rfl) ?_
      rcases ifc H with ⟨h25, H⟩ | ⟨h25, H⟩
      · refine TrL.cons_yes rfl rfl rfl h25 (OpTr.v (v_move rfl rfl) rfl (bl rfl) ?_)
        refine TrL.cons_yes rfl rfl rfl h25 (OpTr.v (v_arith rfl rfl rfl ar_eql) rfl (bl rfl) ?_)
        refine TrL.v (v_pick_t rfl rfl h25 rfl) rfl rfl (bl rfl) ?_
        refine TrL.v (v_move rfl rfl) rfl rfl (bl rfl) ?_
        rcases ifc H with ⟨h26, H⟩ | ⟨h26, H⟩
        · refine TrL.cons_yes rfl rfl rfl (bt_dec h26) (OpTr.v (v_load (k := 1) rfl rfl rfl ty48 nofun rfl rfl) rfl (bl rfl) ?_)
          refine TrL.cons_yes rfl rfl rfl (bt_dec h26) (OpTr.v (v_load (k := 2) rfl rfl rfl ty58 nofun rfl rfl) rfl (bl rfl) ?_)
          obtain ⟨r14, hr14, H⟩ := bnd H
          refine TrL.cons_yes rfl rfl rfl (bt_dec h26) (op_call0' (vs := [.agg #[.int .u64 (((r10.1, r10.2.1, r10.2.2.1, r10.2.2.2.1, r10.2.2.2.2.1)).1), .int .i64 (((r10.1, r10.2.1, r10.2.2.1, r10.2.2.2.1, r10.2.2.2.2.1)).2.1), .int .u64 (((r10.1, r10.2.1, r10.2.2.1, r10.2.2.2.1, r10.2.2.2.2.1)).2.2.1), .int .u64 (((r10.1, r10.2.1, r10.2.2.1, r10.2.2.2.1, r10.2.2.2.2.1)).2.2.2.1), .slice m10.1 ((((r10.1, r10.2.1, r10.2.2.1, r10.2.2.2.1, r10.2.2.2.2.1)).2.2.2.2).length) m10.2.1], .agg #[.int .u64 r10.1, .int .i64 r10.2.1, .int .u64 r10.2.2.1, .int .u64 r10.2.2.2.1, .slice m10.1 r10.2.2.2.2.1.length m10.2.1]]) (cap := []) [3, 1] rfl rfl (bl rfl) rfl rfl en43 (c_law12_same (((r10.1, r10.2.1, r10.2.2.1, r10.2.2.2.1, r10.2.2.2.2.1))) ((r10.1, r10.2.1, r10.2.2.1, r10.2.2.2.1, r10.2.2.2.2.1)) m10.1 m10.2.1 m10.1 m10.2.1 r14 hr14) rfl (fun ret M' F' hR14 => ?_))
          obtain ⟨rfl, rfl, rfl⟩ := hR14
          refine TrL.v (v_pick_t rfl rfl (bt_dec h26) rfl) rfl rfl (bl rfl) ?_
          refine TrL.v (v_assign rfl rfl) rfl rfl (bl rfl) ?_
          refine TrL.nil (qthen_n ?_)
          have hz := Option.some.inj H
          subst hz
          refine Tr.ret (qthen_r (ret_r ⟨[(6, .bool r14)], [], [], []⟩ [.bool r14] [] [] (Imp.re _ [] [] (sc rfl sn) (by decide) rfl rfl rfl) rfl rfl ⟨rfl, rfl, rfl⟩ (.cons (resv_tmp rfl) .nil)))
        · refine TrL.cons_no rfl rfl rfl (gn_t (bf_dec h26)) rfl (bl rfl) ?_
          refine TrL.cons_no rfl rfl rfl (gn_t (bf_dec h26)) rfl (bl rfl) ?_
          refine TrL.cons_no rfl rfl rfl (gn_t (bf_dec h26)) rfl (bl rfl) ?_
          refine TrL.v (v_pick_f rfl rfl (bf_dec h26) rfl) rfl rfl (bl rfl) ?_
          refine TrL.v (v_assign rfl rfl) rfl rfl (bl rfl) ?_
          refine TrL.nil (qthen_n ?_)
          have hz := Option.some.inj H
          subst hz
          refine Tr.ret (qthen_r (ret_r ⟨[(6, .bool false)], [], [], []⟩ [.bool false] [] [] (Imp.re _ [] [] (sc rfl sn) (by decide) rfl rfl rfl) rfl rfl ⟨rfl, rfl, rfl⟩ (.cons (resv_tmp rfl) .nil)))
      · refine TrL.cons_no rfl rfl rfl (gn_t (bf_b h25)) rfl (bl rfl) ?_
        refine TrL.cons_no rfl rfl rfl (gn_t (bf_b h25)) rfl (bl rfl) ?_
        refine TrL.v (v_pick_f rfl rfl (bf_b h25) rfl) rfl rfl (bl rfl) ?_
        refine TrL.v (v_move rfl rfl) rfl rfl (bl rfl) ?_
        refine TrL.cons_no rfl rfl rfl (gn_t rfl) rfl (bl rfl) ?_
        refine TrL.cons_no rfl rfl rfl (gn_t rfl) rfl (bl rfl) ?_
        refine TrL.cons_no rfl rfl rfl (gn_t rfl) rfl (bl rfl) ?_
        refine TrL.v (v_pick_f rfl rfl rfl rfl) rfl rfl (bl rfl) ?_
        refine TrL.v (v_assign rfl rfl) rfl rfl (bl rfl) ?_
        refine TrL.nil (qthen_n ?_)
        have hz := Option.some.inj H
        subst hz
        refine Tr.ret (qthen_r (ret_r ⟨[(6, .bool false)], [], [], []⟩ [.bool false] [] [] (Imp.re _ [] [] (sc rfl sn) (by decide) rfl rfl rfl) rfl rfl ⟨rfl, rfl, rfl⟩ (.cons (resv_tmp rfl) .nil)))
    · refine Tr.cond_f rfl (bf_dec h22) ?_
      refine Tr.skip (qthen_n ?_)
      refine Tr.seq ?_
      refine Tr.region ?_
      refine TrL.v (v_move rfl rfl) rfl rfl (bl rfl) ?_
      refine TrL.v (v_move rfl rfl) rfl rfl (bl rfl) ?_
      rcases ifc H with ⟨h32, H⟩ | ⟨h32, H⟩
      · refine TrL.cons_yes rfl rfl rfl h32 (OpTr.v (v_move rfl rfl) rfl (bl rfl) ?_)
        refine TrL.cons_yes rfl rfl rfl h32 (OpTr.v (v_arith rfl rfl rfl ar_eql) rfl (bl rfl) ?_)
        refine TrL.v (v_pick_t rfl rfl h32 rfl) rfl rfl (bl rfl) ?_
        refine TrL.v (v_move rfl rfl) rfl rfl (bl rfl) ?_
        rcases ifc H with ⟨h33, H⟩ | ⟨h33, H⟩
        · refine TrL.cons_yes rfl rfl rfl (bt_dec h33) (OpTr.v (v_load (k := 0) rfl rfl rfl ty48 nofun rfl rfl) rfl (bl rfl) ?_)
          obtain ⟨r16, hr16, H⟩ := bnd H
          refine TrL.cons_yes rfl rfl rfl (bt_dec h33) (op_call0' (vs := [.agg #[.int .u64 r12.1, .int .i64 r12.2.1, .int .u64 r12.2.2.1, .int .u64 r12.2.2.2.1, .slice m12.1 r12.2.2.2.2.1.length m12.2.1]]) (cap := []) [4] rfl rfl (bl rfl) rfl rfl en44 (c_buffer_May ((r12.1, r12.2.1, r12.2.2.1, r12.2.2.2.1, r12.2.2.2.2.1)) m12.1 m12.2.1 r16 hr16) rfl (fun ret M' F' hR16 => ?_))
          obtain ⟨rfl, rfl, rfl⟩ := hR16
          refine TrL.cons_yes rfl rfl rfl (bt_dec h33) (OpTr.v (v_arith rfl rfl rfl ar_eql) rfl (bl rfl) ?_)
          refine TrL.v (v_pick_t rfl rfl (bt_dec h33) rfl) rfl rfl (bl rfl) ?_
          refine TrL.v (v_move rfl rfl) rfl rfl (bl rfl) ?_
          rcases ifc H with ⟨h34, H⟩ | ⟨h34, H⟩
          · refine TrL.cons_yes rfl rfl rfl (bt_dec h34) (OpTr.v (v_fieldAddr' rfl fo48_3 rfl rfl) rfl (bl rfl) ?_)
            refine TrL.cons_yes rfl rfl rfl (bt_dec h34) (OpTr.v (v_load (k := 0) rfl rfl rfl ty22 (fun _ => rfl) rfl rfl) rfl (bl rfl) ?_)
            refine TrL.cons_yes rfl rfl rfl (bt_dec h34) (OpTr.v (v_fieldAddr' rfl fo58_3 rfl rfl) rfl (bl rfl) ?_)
            refine TrL.cons_yes rfl rfl rfl (bt_dec h34) (OpTr.v (v_load (k := 2) rfl rfl rfl ty22 (fun _ => rfl) rfl rfl) rfl (bl rfl) ?_)
            refine TrL.cons_yes rfl rfl rfl (bt_dec h34) (OpTr.v (v_arith rfl rfl rfl ar_geq) rfl (bl rfl) ?_)
            refine TrL.v (v_pick_t rfl rfl (bt_dec h34) rfl) rfl rfl (bl rfl) ?_
            refine TrL.v (v_move rfl rfl) rfl rfl (bl rfl) ?_
            rcases ifc H with ⟨h35, H⟩ | ⟨h35, H⟩
            · refine TrL.cons_yes rfl rfl rfl (bt_dec h35) (OpTr.v (v_fieldAddr' rfl fo48_2 rfl rfl) rfl (bl rfl) ?_)
              refine TrL.cons_yes rfl rfl rfl (bt_dec h35) (OpTr.v (v_load (k := 0) rfl rfl rfl ty22 (fun _ => rfl) rfl rfl) rfl (bl rfl) ?_)
              refine TrL.cons_yes rfl rfl rfl (bt_dec h35) (OpTr.v (v_fieldAddr' rfl fo58_2 rfl rfl) rfl (bl rfl) ?_)
              refine TrL.cons_yes rfl rfl rfl (bt_dec h35) (OpTr.v (v_load (k := 2) rfl rfl rfl ty22 (fun _ => rfl) rfl rfl) rfl (bl rfl) ?_)
              refine TrL.cons_yes rfl rfl rfl (bt_dec h35) (OpTr.v (v_move rfl rfl) rfl (bl rfl) ?_)
              refine TrL.cons_yes rfl rfl rfl (bt_dec h35) (OpTr.v (v_max rfl rfl rfl) rfl (bl rfl) ?_)
              refine TrL.cons_yes rfl rfl rfl (bt_dec h35) (OpTr.v (v_arith rfl rfl rfl ar_eql) rfl (bl rfl) ?_)
              refine TrL.v (v_pick_t rfl rfl (bt_dec h35) rfl) rfl rfl (bl rfl) ?_
              refine TrL.v (v_move rfl rfl) rfl rfl (bl rfl) ?_
              rcases ifc H with ⟨h36, H⟩ | ⟨h36, H⟩
              · refine TrL.cons_yes rfl rfl rfl (bt_dec h36) (OpTr.v (v_fieldAddr' rfl fo48_2 rfl rfl) rfl (bl rfl) ?_)
                refine TrL.cons_yes rfl rfl rfl (bt_dec h36) (OpTr.v (v_load (k := 0) rfl rfl rfl ty22 (fun _ => rfl) rfl rfl) rfl (bl rfl) ?_)
                refine TrL.cons_yes rfl rfl rfl (bt_dec h36) (OpTr.v (v_fieldAddr' rfl fo48_3 rfl rfl) rfl (bl rfl) ?_)
                refine TrL.cons_yes rfl rfl rfl (bt_dec h36) (OpTr.v (v_load (k := 0) rfl rfl rfl ty22 (fun _ => rfl) rfl rfl) rfl (bl rfl) ?_)
                refine TrL.cons_yes rfl rfl rfl (bt_dec h36) (OpTr.v (v_arith rfl rfl rfl ar_sub_u64) rfl (bl rfl) ?_)
                refine TrL.cons_yes rfl rfl rfl (bt_dec h36) (OpTr.v (v_fieldAddr' rfl fo58_0 rfl rfl) rfl (bl rfl) ?_)
                refine TrL.cons_yes rfl rfl rfl (bt_dec h36) (OpTr.v (v_load (k := 2) rfl rfl rfl ty22 (fun _ => rfl) rfl rfl) rfl (bl rfl) ?_)
                refine TrL.cons_yes rfl rfl rfl (bt_dec h36) (OpTr.v (v_arith rfl rfl rfl ar_leq) rfl (bl rfl) ?_)
                refine TrL.v (v_pick_t rfl rfl (bt_dec h36) rfl) rfl rfl (bl rfl) ?_
                refine TrL.v (v_assign rfl rfl) rfl rfl (bl rfl) ?_
                refine TrL.nil (qthen_n ?_)
                have hz := Option.some.inj H
                subst hz
                refine Tr.ret (ret_r ⟨[(6, .bool (decide ((wu64 (r12.2.2.1 - r12.2.2.2.1)) ≤ r10.1)))], [], [], []⟩ [.bool (decide ((wu64 (r12.2.2.1 - r12.2.2.2.1)) ≤ r10.1))] [] [] (Imp.re _ [] [] (sc rfl sn) (by decide) rfl rfl rfl) rfl rfl ⟨rfl, rfl, rfl⟩ (.cons (resv_tmp rfl) .nil))
              · refine TrL.cons_no rfl rfl rfl (gn_t (bf_dec h36)) rfl (bl rfl) ?_
                refine TrL.cons_no rfl rfl rfl (gn_t (bf_dec h36)) rfl (bl rfl) ?_
                refine TrL.cons_no rfl rfl rfl (gn_t (bf_dec h36)) rfl (bl rfl) ?_
                refine TrL.cons_no rfl rfl rfl (gn_t (bf_dec h36)) rfl (bl rfl) ?_
                refine TrL.cons_no rfl rfl rfl (gn_t (bf_dec h36)) rfl (bl rfl) ?_
                refine TrL.cons_no rfl rfl rfl (gn_t (bf_dec h36)) rfl (bl rfl) ?_
                refine TrL.cons_no rfl rfl rfl (gn_t (bf_dec h36)) rfl (bl rfl) ?_
                refine TrL.cons_no rfl rfl rfl (gn_t (bf_dec h36)) rfl (bl rfl) ?_
                refine TrL.v (v_pick_f rfl rfl (bf_dec h36) rfl) rfl rfl (bl rfl) ?_
                refine TrL.v (v_assign rfl rfl) rfl rfl (bl rfl) ?_
                refine TrL.nil (qthen_n ?_)
                have hz := Option.some.inj H
                subst hz
                refine Tr.ret (ret_r ⟨[(6, .bool false)], [], [], []⟩ [.bool false] [] [] (Imp.re _ [] [] (sc rfl sn) (by decide) rfl rfl rfl) rfl rfl ⟨rfl, rfl, rfl⟩ (.cons (resv_tmp rfl) .nil))
            · refine TrL.cons_no rfl rfl rfl (gn_t (bf_dec h35)) rfl (bl rfl) ?_
              refine TrL.cons_no rfl rfl rfl (gn_t (bf_dec h35)) rfl (bl rfl) ?_
              refine TrL.cons_no rfl rfl rfl (gn_t (bf_dec h35)) rfl (bl rfl) ?_
              refine TrL.cons_no rfl rfl rfl (gn_t (bf_dec h35)) rfl (bl rfl) ?_
              refine TrL.cons_no rfl rfl rfl (gn_t (bf_dec h35)) rfl (bl rfl) ?_
              refine TrL.cons_no rfl rfl rfl (gn_t (bf_dec h35)) rfl (bl rfl) ?_
              refine TrL.cons_no rfl rfl rfl (gn_t (bf_dec h35)) rfl (bl rfl) ?_
              refine TrL.v (v_pick_f rfl rfl (bf_dec h35) rfl) rfl rfl (bl rfl) ?_
              refine TrL.v (v_move rfl rfl) rfl rfl (bl rfl) ?_
              refine TrL.cons_no rfl rfl rfl (gn_t rfl) rfl (bl rfl) ?_
              refine TrL.cons_no rfl rfl rfl (gn_t rfl) rfl (bl rfl) ?_
              refine TrL.cons_no rfl rfl rfl (gn_t rfl) rfl (bl rfl) ?_
              refine TrL.cons_no rfl rfl rfl (gn_t rfl) rfl (bl rfl) ?_
              refine TrL.cons_no rfl rfl rfl (gn_t rfl) rfl (bl rfl) ?_
              refine TrL.cons_no rfl rfl rfl (gn_t rfl) rfl (bl rfl) ?_
              refine TrL.cons_no rfl rfl rfl (gn_t rfl) rfl (bl rfl) ?_
              refine TrL.cons_no rfl rfl rfl (gn_t rfl) rfl (bl rfl) ?_
              refine TrL.v (v_pick_f rfl rfl rfl rfl) rfl rfl (bl rfl) ?_
              refine TrL.v (v_assign rfl rfl) rfl rfl (bl rfl) ?_
              refine TrL.nil (qthen_n ?_)
              have hz := Option.some.inj H
              subst hz
              refine Tr.ret (ret_r ⟨[(6, .bool false)], [], [], []⟩ [.bool false] [] [] (Imp.re _ [] [] (sc rfl sn) (by decide) rfl rfl rfl) rfl rfl ⟨rfl, rfl, rfl⟩ (.cons (resv_tmp rfl) .nil))
          · refine TrL.cons_no rfl rfl rfl (gn_t (bf_dec h34)) rfl (bl rfl) ?_
            refine TrL.cons_no rfl rfl rfl (gn_t (bf_dec h34)) rfl (bl rfl) ?_
            refine TrL.cons_no rfl rfl rfl (gn_t (bf_dec h34)) rfl (bl rfl) ?_
            refine TrL.cons_no rfl rfl rfl (gn_t (bf_dec h34)) rfl (bl rfl) ?_
            refine TrL.cons_no rfl rfl rfl (gn_t (bf_dec h34)) rfl (bl rfl) ?_
            refine TrL.v (v_pick_f rfl rfl (bf_dec h34) rfl) rfl rfl (bl rfl) ?_
            refine TrL.v (v_move rfl rfl) rfl rfl (bl rfl) ?_
            refine TrL.cons_no rfl rfl rfl (gn_t rfl) rfl (bl rfl) ?_
            refine TrL.cons_no rfl rfl rfl (gn_t rfl) rfl (bl rfl) ?_
            refine TrL.cons_no rfl rfl rfl (gn_t rfl) rfl (bl rfl) ?_
            refine TrL.cons_no rfl rfl rfl (gn_t rfl) rfl (bl rfl) ?_
            refine TrL.cons_no rfl rfl rfl (gn_t rfl) rfl (bl rfl) ?_
            refine TrL.cons_no rfl rfl rfl (gn_t rfl) rfl (bl rfl) ?_
            refine TrL.cons_no rfl rfl rfl (gn_t rfl) rfl (bl rfl) ?_
            refine TrL.v (v_pick_f rfl rfl rfl rfl) rfl rfl (bl rfl) ?_
            refine TrL.v (v_move rfl rfl) rfl rfl (bl rfl) ?_
            refine TrL.cons_no rfl rfl rfl (gn_t rfl) rfl (bl rfl) ?_
            refine TrL.cons_no rfl rfl rfl (gn_t rfl) rfl (bl rfl) ?_
            refine TrL.cons_no rfl rfl rfl (gn_t rfl) rfl (bl rfl) ?_
            refine TrL.cons_no rfl rfl rfl (gn_t rfl) rfl (bl rfl) ?_
            refine TrL.cons_no rfl rfl rfl (gn_t rfl) rfl (bl rfl) ?_
            refine TrL.cons_no rfl rfl rfl (gn_t rfl) rfl (bl rfl) ?_
            refine TrL.cons_no rfl rfl rfl (gn_t rfl) rfl (bl rfl) ?_
            refine TrL.cons_no rfl rfl rfl (gn_t rfl) rfl (bl rfl) ?_
            refine TrL.v (v_pick_f rfl rfl rfl rfl) rfl rfl (bl rfl) ?_
            refine TrL.v (v_assign rfl rfl) rfl rfl (bl rfl) ?_
            refine TrL.nil (qthen_n ?_)
            have hz := Option.some.inj H
            subst hz
            refine Tr.ret (ret_r ⟨[(6, .bool false)], [], [], []⟩ [.bool false] [] [] (Imp.re _ [] [] (sc rfl sn) (by decide) rfl rfl rfl) rfl rfl ⟨rfl, rfl, rfl⟩ (.cons (resv_tmp rfl) .nil))
        · refine TrL.cons_no rfl rfl rfl (gn_t (bf_dec h33)) rfl (bl rfl) ?_
          refine TrL.cons_no rfl rfl rfl (gn_t (bf_dec h33)) rfl (bl rfl) ?_
          refine TrL.cons_no rfl rfl rfl (gn_t (bf_dec h33)) rfl (bl rfl) ?_
          refine TrL.v (v_pick_f rfl rfl (bf_dec h33) rfl) rfl rfl (bl rfl) ?_
          refine TrL.v (v_move rfl rfl) rfl rfl (bl rfl) ?_
          refine TrL.cons_no rfl rfl rfl (gn_t rfl) rfl (bl rfl) ?_
          refine TrL.cons_no rfl rfl rfl (gn_t rfl) rfl (bl rfl) ?_
          refine TrL.cons_no rfl rfl rfl (gn_t rfl) rfl (bl rfl) ?_
          refine TrL.cons_no rfl rfl rfl (gn_t rfl) rfl (bl rfl) ?_
          refine TrL.cons_no rfl rfl rfl (gn_t rfl) rfl (bl rfl) ?_
          refine TrL.v (v_pick_f rfl rfl rfl rfl) rfl rfl (bl rfl) ?_
          refine TrL.v (v_move rfl rfl) rfl rfl (bl rfl) ?_
          refine TrL.cons_no rfl rfl rfl (gn_t rfl) rfl (bl rfl) ?_
          refine TrL.cons_no rfl rfl rfl (gn_t rfl) rfl (bl rfl) ?_
          refine TrL.cons_no rfl rfl rfl (gn_t rfl) rfl (bl rfl) ?_
          refine TrL.cons_no rfl rfl rfl (gn_t rfl) rfl (bl rfl) ?_
          refine TrL.cons_no rfl rfl rfl (gn_t rfl) rfl (bl rfl) ?_
          refine TrL.cons_no rfl rfl rfl (gn_t rfl) rfl (bl rfl) ?_
          refine TrL.cons_no rfl rfl rfl (gn_t rfl) rfl (bl rfl) ?_
          refine TrL.v (v_pick_f rfl rfl rfl rfl) rfl rfl (bl rfl) ?_
          refine TrL.v (v_move rfl rfl) rfl rfl (bl rfl) ?_
          refine TrL.cons_no rfl rfl rfl (gn_t rfl) rfl (bl rfl) ?_
          refine TrL.cons_no rfl rfl rfl (gn_t rfl) rfl (bl rfl) ?_
          refine TrL.cons_no rfl rfl rfl (gn_t rfl) rfl (bl rfl) ?_
          refine TrL.cons_no rfl rfl rfl (gn_t rfl) rfl (bl rfl) ?_
          refine TrL.cons_no rfl rfl rfl (gn_t rfl) rfl (bl rfl) ?_
          refine TrL.cons_no rfl rfl rfl (gn_t rfl) rfl (bl rfl) ?_
          refine TrL.cons_no rfl rfl rfl (gn_t rfl) rfl (bl rfl) ?_
          refine TrL.cons_no rfl rfl rfl (gn_t rfl) rfl (bl rfl) ?_
          refine TrL.v (v_pick_f rfl rfl rfl rfl) rfl rfl (bl rfl) ?_
          refine TrL.v (v_assign rfl rfl) rfl rfl (bl rfl) ?_
          refine TrL.nil (qthen_n ?_)
          have hz := Option.some.inj H
          subst hz
          refine Tr.ret (ret_r ⟨[(6, .bool false)], [], [], []⟩ [.bool false] [] [] (Imp.re _ [] [] (sc rfl sn) (by decide) rfl rfl rfl) rfl rfl ⟨rfl, rfl, rfl⟩ (.cons (resv_tmp rfl) .nil))
      · refine TrL.cons_no rfl rfl rfl (gn_t (bf_b h32)) rfl (bl rfl) ?_
        refine TrL.cons_no rfl rfl rfl (gn_t (bf_b h32)) rfl (bl rfl) ?_
        refine TrL.v (v_pick_f rfl rfl (bf_b h32) rfl) rfl rfl (bl rfl) ?_
        refine TrL.v (v_move rfl rfl) rfl rfl (bl rfl) ?_
        refine TrL.cons_no rfl rfl rfl (gn_t rfl) rfl (bl rfl) ?_
        refine TrL.cons_no rfl rfl rfl (gn_t rfl) rfl (bl rfl) ?_
        refine TrL.cons_no rfl rfl rfl (gn_t rfl) rfl (bl rfl) ?_
        refine TrL.v (v_pick_f rfl rfl rfl rfl) rfl rfl (bl rfl) ?_
        refine TrL.v (v_move rfl rfl) rfl rfl (bl rfl) ?_
        refine TrL.cons_no rfl rfl rfl (gn_t rfl) rfl (bl rfl) ?_
        refine TrL.cons_no rfl rfl rfl (gn_t rfl) rfl (bl rfl) ?_
        refine TrL.cons_no rfl rfl rfl (gn_t rfl) rfl (bl rfl) ?_
        refine TrL.cons_no rfl rfl rfl (gn_t rfl) rfl (bl rfl) ?_
        refine TrL.cons_no rfl rfl rfl (gn_t rfl) rfl (bl rfl) ?_
        refine TrL.v (v_pick_f rfl rfl rfl rfl) rfl rfl (bl rfl) ?_
        refine TrL.v (v_move rfl rfl) rfl rfl (bl rfl) ?_
        refine TrL.cons_no rfl rfl rfl (gn_t rfl) rfl (bl rfl) ?_
        refine TrL.cons_no rfl rfl rfl (gn_t rfl) rfl (bl rfl) ?_
        refine TrL.cons_no rfl rfl rfl (gn_t rfl) rfl (bl rfl) ?_
        refine TrL.cons_no rfl rfl rfl (gn_t rfl) rfl (bl rfl) ?_
        refine TrL.cons_no rfl rfl rfl (gn_t rfl) rfl (bl rfl) ?_
        refine TrL.cons_no rfl rfl rfl (gn_t rfl) rfl (bl rfl) ?_
        refine TrL.cons_no rfl rfl rfl (gn_t rfl) rfl (bl rfl) ?_
        refine TrL.v (v_pick_f rfl rfl rfl rfl) rfl rfl (bl rfl) ?_
        refine TrL.v (v_move rfl rfl) rfl rfl (bl rfl) ?_
        refine TrL.cons_no rfl rfl rfl (gn_t rfl) rfl (bl rfl) ?_
        refine TrL.cons_no rfl rfl rfl (gn_t rfl) rfl (bl rfl) ?_
        refine TrL.cons_no rfl rfl rfl (gn_t rfl) rfl (bl rfl) ?_
        refine TrL.cons_no rfl rfl rfl (gn_t rfl) rfl (bl rfl) ?_
        refine TrL.cons_no rfl rfl rfl (gn_t rfl) rfl (bl rfl) ?_
        refine TrL.cons_no rfl rfl rfl (gn_t rfl) rfl (bl rfl) ?_
        refine TrL.cons_no rfl rfl rfl (gn_t rfl) rfl (bl rfl) ?_
        refine TrL.cons_no rfl rfl rfl (gn_t rfl) rfl (bl rfl) ?_
        refine TrL.v (v_pick_f rfl rfl rfl rfl) rfl rfl (bl rfl) ?_
        refine TrL.v (v_assign rfl rfl) rfl rfl (bl rfl) ?_
        refine TrL.nil (qthen_n ?_)
        have hz := Option.some.inj H
        subst hz
        refine Tr.ret (ret_r ⟨[(6, .bool false)], [], [], []⟩ [.bool false] [] [] (Imp.re _ [] [] (sc rfl sn) (by decide) rfl rfl rfl) rfl rfl ⟨rfl, rfl, rfl⟩ (.cons (resv_tmp rfl) .nil))
end Go.Proofs.Ythgeodagikmpjaa.W
