/- The contracts of the walked functions: the printed walks. -/
import Derived.Test.YthgeodagikmpjaaKb
import Derived.Test.YthgeodagikmpjaaQb
import Derived.Test.YthgeodagikmpjaaWbuffercb
import Derived.Test.YthgeodagikmpjaaWlaw12ab
import Derived.Test.YthgeodagikmpjaaWlaw12bb
import Derived.Test.YthgeodagikmpjaaWref12ab
import Derived.Test.YthgeodagikmpjaaWref12db
namespace Go.Proofs.Ythgeodagikmpjaa.W
open Go Go.Proofs Go.Proofs.Ythgeodagikmpjaa.L Go.Proofs.Ythgeodagikmpjaa.Pu
set_option linter.unusedVariables false
set_option maxHeartbeats 4000000

theorem c_law12_BufferMoves (p1 : Int) (p2 : List (Int × Int × Int)) (p3 : Int × Int) (A1 : Option Addr) (c1 : Nat) (r : Bool) (H : law12_BufferMoves p1 p2 p3 = some r) :
    Ctr Try.prog 17 [.int .u64 p1, .slice A1 p2.length c1, .agg #[.int .u64 p3.1, .int .u64 p3.2]] [] [slF rp_u64_u64_u64 A1 c1 p2] (fun ret M' F' => ret = .bool r ∧ M' = [] ∧ F' = []) := by
  unfold law12_BufferMoves at H
  refine ctr_ofI (N := 88) Try.func17 rfl Try.ntmps17 rfl (Nat.le_of_ble_eq_true rfl) (fun γ0 w0 => ?_)
  refine Tr.seq ?_
  refine Tr.region ?_
  refine TrL.cons rfl (op_box' rfl (bl rfl) rfl rfl rfl (fun b6 => ?_))
  refine TrL.v (v_assign rfl rfl) rfl rfl (bl rfl) ?_
  refine TrL.nil (qthen_n ?_)
  refine Tr.seq ?_
  refine Tr.region ?_
  obtain ⟨r11, hr11, H⟩ := bnd H
  refine TrL.cons rfl (op_call0' (vs := []) (cap := []) [] rfl rfl (bl rfl) rfl rfl en38 (c_law12_awake r11 hr11) rfl (fun ret M' F' hR12 => ?_))
  obtain ⟨rfl, rfl, rfl⟩ := hR12
  refine TrL.v (v_assign rfl rfl) rfl rfl (bl rfl) ?_
  refine TrL.nil (qthen_n ?_)
  refine Tr.seq ?_
  refine Tr.region ?_
  refine TrL.v (v_move rfl rfl) rfl rfl (bl rfl) ?_
  refine TrL.v (v_move rfl rfl) rfl rfl (bl rfl) ?_
  obtain ⟨r12, hr12, H⟩ := bnd H
  refine TrL.cons rfl (op_call0' (vs := [.int .u64 p1, .int .i64 40, .slice A1 p2.length c1]) (cap := []) [0] rfl rfl (bl rfl) rfl rfl en41 (c_ref12_Made p1 ((40 : Int)) p2 A1 c1 r12 hr12) rfl (fun ret M' F' hR13 => ?_))
  obtain ⟨m13, rfl, rfl, rfl⟩ := hR13
  refine TrL.v (v_move rfl rfl) rfl rfl (bl rfl) ?_
  refine TrL.v (v_extract rfl rfl rfl) rfl rfl (bl rfl) ?_
  refine TrL.v (v_extract rfl rfl rfl) rfl rfl (bl rfl) ?_
  refine TrL.cons rfl (op_alloc' rfl (bl rfl) rfl ze58 (fun b7 => ?_))
  refine TrL.cons rfl (op_store' (k := 0) (c' := [.int .u64 r12.1, .int .i64 r12.2.1, .int .u64 r12.2.2.1, .int .u64 r12.2.2.2.1, .slice m13.1 r12.2.2.2.2.1.length m13.2.1]) rfl rfl rfl rfl rfl ty58 rfl (Nat.le_of_ble_eq_true rfl) (ones (oc rfl (oc rfl (oc rfl (oc rfl (oc rfl on)))))) rfl ?_)
  refine TrL.v (v_assign rfl rfl) rfl rfl (bl rfl) ?_
  refine TrL.nil (qthen_n ?_)
  refine Tr.seq ?_
  refine Tr.region ?_
  refine TrL.v (v_indexArr rfl ar94 ty22 rfl rfl (by decide) (by decide) rfl) rfl rfl (bl rfl) ?_
  refine TrL.v (v_load (k := 1) rfl rfl rfl ty22 (fun _ => rfl) rfl rfl) rfl rfl (bl rfl) ?_
  refine TrL.v (v_rem rfl rfl rfl (by decide)) rfl rfl (bl rfl) ?_
  refine TrL.v (v_assign rfl rfl) rfl rfl (bl rfl) ?_
  refine TrL.nil (qthen_n ?_)
  refine Tr.seq ?_
  refine Tr.region ?_
  refine TrL.v (v_indexArr rfl ar94 ty22 rfl rfl (by decide) (by decide) rfl) rfl rfl (bl rfl) ?_
  refine TrL.v (v_load (k := 1) rfl rfl rfl ty22 (fun _ => rfl) rfl rfl) rfl rfl (bl rfl) ?_
  refine TrL.v (v_rem rfl rfl rfl (by decide)) rfl rfl (bl rfl) ?_
  refine TrL.v (v_assign rfl rfl) rfl rfl (bl rfl) ?_
  refine TrL.nil (qthen_n ?_)
  refine Tr.seq ?_
  refine Tr.region ?_
  refine TrL.v (v_load (k := 0) rfl rfl rfl ty58 nofun rfl rfl) rfl rfl (bl rfl) ?_
  obtain ⟨r13, hr13, H⟩ := bnd H
  refine TrL.cons rfl (op_call0' (vs := [.agg #[.int .u64 r12.1, .int .i64 r12.2.1, .int .u64 r12.2.2.1, .int .u64 r12.2.2.2.1, .slice m13.1 r12.2.2.2.2.1.length m13.2.1]]) (cap := []) [1] rfl rfl (bl rfl) rfl rfl en42 (c_law12_made ((r12.1, r12.2.1, r12.2.2.1, r12.2.2.2.1, r12.2.2.2.2.1)) m13.1 m13.2.1 r13 hr13) rfl (fun ret M' F' hR14 => ?_))
  obtain ⟨rfl, rfl, rfl⟩ := hR14
  refine TrL.v (v_move rfl rfl) rfl rfl (bl rfl) ?_
  obtain ⟨r14, hr14, H⟩ := bnd H
  refine TrL.cons rfl (op_call0' (vs := [.agg #[.int .u64 (((r12.1, r12.2.1, r12.2.2.1, r12.2.2.2.1, r12.2.2.2.2.1)).1), .int .i64 (((r12.1, r12.2.1, r12.2.2.1, r12.2.2.2.1, r12.2.2.2.2.1)).2.1), .int .u64 (((r12.1, r12.2.1, r12.2.2.1, r12.2.2.2.1, r12.2.2.2.2.1)).2.2.1), .int .u64 (((r12.1, r12.2.1, r12.2.2.1, r12.2.2.2.1, r12.2.2.2.2.1)).2.2.2.1), .slice m13.1 ((((r12.1, r12.2.1, r12.2.2.1, r12.2.2.2.1, r12.2.2.2.2.1)).2.2.2.2).length) m13.2.1], .int .u64 (p3.1.tmod 4611686018427387904)]) (cap := []) [3] rfl rfl (bl rfl) rfl rfl en50 (c_buffer_Move (((r12.1, r12.2.1, r12.2.2.1, r12.2.2.2.1, r12.2.2.2.2.1))) (p3.1.tmod 4611686018427387904) m13.1 m13.2.1 r14 hr14) rfl (fun ret M' F' hR15 => ?_))
  obtain ⟨m15, rfl, rfl, rfl⟩ := hR15
  refine TrL.v (v_move rfl rfl) rfl rfl (bl rfl) ?_
  refine TrL.v (v_extract rfl rfl rfl) rfl rfl (bl rfl) ?_
  refine TrL.v (v_extract rfl rfl rfl) rfl rfl (bl rfl) ?_
  refine TrL.v (v_extract rfl rfl rfl) rfl rfl (bl rfl) ?_
  refine TrL.cons rfl (op_alloc' rfl (bl rfl) rfl ze48 (fun b8 => ?_))
  refine TrL.cons rfl (op_store' (k := 0) (c' := [.int .u64 r14.1, .int .i64 r14.2.1, .int .u64 r14.2.2.1, .int .u64 r14.2.2.2.1, .slice m15.1 r14.2.2.2.2.1.length m15.2.1]) rfl rfl rfl rfl rfl ty48 rfl (Nat.le_of_ble_eq_true rfl) (ones (oc rfl (oc rfl (oc rfl (oc rfl (oc rfl on)))))) rfl ?_)
  refine TrL.v (v_assign rfl rfl) rfl rfl (bl rfl) ?_
  refine TrL.v (v_assign rfl rfl) rfl rfl (bl rfl) ?_
  refine TrL.nil (qthen_n ?_)
  refine Tr.seq ?_
  refine Tr.region ?_
  refine TrL.v (v_load (k := 0) rfl rfl rfl ty48 nofun rfl rfl) rfl rfl (bl rfl) ?_
  refine TrL.v (v_move rfl rfl) rfl rfl (bl rfl) ?_
  obtain ⟨r15, hr15, H⟩ := bnd H
  refine TrL.cons rfl (op_call0' (vs := [.agg #[.int .u64 r14.1, .int .i64 r14.2.1, .int .u64 r14.2.2.1, .int .u64 r14.2.2.2.1, .slice m15.1 r14.2.2.2.2.1.length m15.2.1], .int .u64 (p3.2.tmod 4611686018427387904)]) (cap := []) [4] rfl rfl (bl rfl) rfl rfl en50 (c_buffer_Move ((r14.1, r14.2.1, r14.2.2.1, r14.2.2.2.1, r14.2.2.2.2.1)) (p3.2.tmod 4611686018427387904) m15.1 m15.2.1 r15 hr15) rfl (fun ret M' F' hR16 => ?_))
  obtain ⟨m16, rfl, rfl, rfl⟩ := hR16
  refine TrL.v (v_move rfl rfl) rfl rfl (bl rfl) ?_
  refine TrL.v (v_extract rfl rfl rfl) rfl rfl (bl rfl) ?_
  refine TrL.v (v_extract rfl rfl rfl) rfl rfl (bl rfl) ?_
  refine TrL.v (v_extract rfl rfl rfl) rfl rfl (bl rfl) ?_
  refine TrL.cons rfl (op_alloc' rfl (bl rfl) rfl ze48 (fun b9 => ?_))
  refine TrL.cons rfl (op_store' (k := 0) (c' := [.int .u64 r15.1, .int .i64 r15.2.1, .int .u64 r15.2.2.1, .int .u64 r15.2.2.2.1, .slice m16.1 r15.2.2.2.2.1.length m16.2.1]) rfl rfl rfl rfl rfl ty48 rfl (Nat.le_of_ble_eq_true rfl) (ones (oc rfl (oc rfl (oc rfl (oc rfl (oc rfl on)))))) rfl ?_)
  refine TrL.v (v_assign rfl rfl) rfl rfl (bl rfl) ?_
  refine TrL.v (v_assign rfl rfl) rfl rfl (bl rfl) ?_
  refine TrL.nil (qthen_n ?_)
  refine Tr.seq ?_
  refine Tr.region ?_
  refine TrL.v (v_load (k := 2) rfl rfl rfl ty58 nofun rfl rfl) rfl rfl (bl rfl) ?_
  refine TrL.cons rfl (op_call0' (vs := [.agg #[.int .u64 r12.1, .int .i64 r12.2.1, .int .u64 r12.2.2.1, .int .u64 r12.2.2.2.1, .slice m13.1 r12.2.2.2.2.1.length m13.2.1]]) (cap := []) [1] rfl rfl (bl rfl) rfl rfl en42 (c_law12_made ((r12.1, r12.2.1, r12.2.2.1, r12.2.2.2.1, r12.2.2.2.2.1)) m13.1 m13.2.1 r13 hr13) rfl (fun ret M' F' hR17 => ?_))
  obtain ⟨rfl, rfl, rfl⟩ := hR17
  refine TrL.v (v_move rfl rfl) rfl rfl (bl rfl) ?_
  refine TrL.v (v_move rfl rfl) rfl rfl (bl rfl) ?_
  refine TrL.v (v_max rfl rfl rfl) rfl rfl (bl rfl) ?_
  obtain ⟨r16, hr16, H⟩ := bnd H
  refine TrL.cons rfl (op_call0' (vs := [.agg #[.int .u64 (((r12.1, r12.2.1, r12.2.2.1, r12.2.2.2.1, r12.2.2.2.2.1)).1), .int .i64 (((r12.1, r12.2.1, r12.2.2.1, r12.2.2.2.1, r12.2.2.2.2.1)).2.1), .int .u64 (((r12.1, r12.2.1, r12.2.2.1, r12.2.2.2.1, r12.2.2.2.2.1)).2.2.1), .int .u64 (((r12.1, r12.2.1, r12.2.2.1, r12.2.2.2.1, r12.2.2.2.2.1)).2.2.2.1), .slice m13.1 ((((r12.1, r12.2.1, r12.2.2.1, r12.2.2.2.1, r12.2.2.2.2.1)).2.2.2.2).length) m13.2.1], .int .u64 (max (p3.1.tmod 4611686018427387904) (p3.2.tmod 4611686018427387904))]) (cap := []) [3] rfl rfl (bl rfl) rfl rfl en50 (c_buffer_Move (((r12.1, r12.2.1, r12.2.2.1, r12.2.2.2.1, r12.2.2.2.2.1))) (max (p3.1.tmod 4611686018427387904) (p3.2.tmod 4611686018427387904)) m13.1 m13.2.1 r16 hr16) rfl (fun ret M' F' hR18 => ?_))
  obtain ⟨m18, rfl, rfl, rfl⟩ := hR18
  refine TrL.v (v_move rfl rfl) rfl rfl (bl rfl) ?_
  refine TrL.v (v_extract rfl rfl rfl) rfl rfl (bl rfl) ?_
  refine TrL.v (v_extract rfl rfl rfl) rfl rfl (bl rfl) ?_
  refine TrL.v (v_extract rfl rfl rfl) rfl rfl (bl rfl) ?_
  refine TrL.cons rfl (op_alloc' rfl (bl rfl) rfl ze48 (fun b10 => ?_))
  refine TrL.cons rfl (op_store' (k := 0) (c' := [.int .u64 r16.1, .int .i64 r16.2.1, .int .u64 r16.2.2.1, .int .u64 r16.2.2.2.1, .slice m18.1 r16.2.2.2.2.1.length m18.2.1]) rfl rfl rfl rfl rfl ty48 rfl (Nat.le_of_ble_eq_true rfl) (ones (oc rfl (oc rfl (oc rfl (oc rfl (oc rfl on)))))) rfl ?_)
  refine TrL.v (v_assign rfl rfl) rfl rfl (bl rfl) ?_
  refine TrL.v (v_assign rfl rfl) rfl rfl (bl rfl) ?_
  refine TrL.nil (qthen_n ?_)
  refine Tr.seq ?_
  refine Tr.region ?_
  refine TrL.cons rfl (op_buildSlice' (rp := rp_u64_u64_u64) (xs := []) (vs := []) (out := []) rfl (bl rfl) rfl sl46 ty55 ze55 rfl rfl (by decide) (by decide) rfl (fun γ w hF => rown) (fun A5 => ?_))
  refine TrL.v (v_move rfl rfl) rfl rfl (bl rfl) ?_
  refine TrL.full' (E := 55) (sz := 3) (A := A5) (n := 0) ?_
  obtain ⟨h13, H⟩ := rom H
  refine TrL.cons rfl (op_append' (rp := rp_u64_u64_u64) (xs := ([] : List (Int × Int × Int))) (ys := r14.2.2.2.2.2.1) (k := 0) (kx := 11) (ky := 5) rfl (bl rfl) rfl sl46 ty55 ze55 rfl by55 rfl rfl rfl rfl rfl rfl rfl h13.1 h13.2 (fun A6 c4 o3 => ?_))
  refine TrL.v (v_move rfl rfl) rfl rfl (bl rfl) ?_
  obtain ⟨h14, H⟩ := rom H
  refine TrL.cons rfl (op_append' (rp := rp_u64_u64_u64) (xs := r14.2.2.2.2.2.1) (ys := r15.2.2.2.2.2.1) (k := 0) (kx := 12) (ky := 7) rfl (bl rfl) rfl sl46 ty55 ze55 rfl by55 rfl rfl rfl rfl rfl rfl rfl h14.1 h14.2 (fun A7 c5 o4 => ?_))
  refine TrL.v (v_assign rfl rfl) rfl rfl (bl rfl) ?_
  refine TrL.nil (qthen_n ?_)
  refine Tr.seq ?_
  refine Tr.region ?_
  refine TrL.v (v_move rfl rfl) rfl rfl (bl rfl) ?_
  refine TrL.v (v_move rfl rfl) rfl rfl (bl rfl) ?_
  rcases ifc H with ⟨h20, H⟩ | ⟨h20, H⟩
  · refine TrL.cons_yes rfl rfl rfl h20 (OpTr.v (v_move rfl rfl) rfl (bl rfl) ?_)
    refine TrL.cons_yes rfl rfl rfl h20 (OpTr.v (v_arith rfl rfl rfl ar_eql) rfl (bl rfl) ?_)
    refine TrL.v (v_pick_t rfl rfl h20 rfl) rfl rfl (bl rfl) ?_
    refine TrL.v (v_move rfl rfl) rfl rfl (bl rfl) ?_
    rcases ifc H with ⟨h21, H⟩ | ⟨h21, H⟩
    · refine TrL.cons_yes rfl rfl rfl (bt_dec h21) (OpTr.v (v_move rfl rfl) rfl (bl rfl) ?_)
      refine TrL.cons_yes rfl rfl rfl (bt_dec h21) (OpTr.v (v_arith rfl rfl rfl ar_eql) rfl (bl rfl) ?_)
      refine TrL.v (v_pick_t rfl rfl (bt_dec h21) rfl) rfl rfl (bl rfl) ?_
      refine TrL.v (v_move rfl rfl) rfl rfl (bl rfl) ?_
      rcases ifc H with ⟨h22, H⟩ | ⟨h22, H⟩
      · refine TrL.cons_yes rfl rfl rfl (bt_dec h22) (OpTr.v (v_move rfl rfl) rfl (bl rfl) ?_)
        refine TrL.cons_yes rfl rfl rfl (bt_dec h22) (OpTr.v (v_arith rfl rfl rfl ar_eql) rfl (bl rfl) ?_)
        refine TrL.v (v_pick_t rfl rfl (bt_dec h22) rfl) rfl rfl (bl rfl) ?_
        refine TrL.v (v_move rfl rfl) rfl rfl (bl rfl) ?_
        rcases ifc H with ⟨h23, H⟩ | ⟨h23, H⟩
        · refine TrL.cons_yes rfl rfl rfl (bt_dec h23) (OpTr.v (v_load (k := 2) rfl rfl rfl ty48 nofun rfl rfl) rfl (bl rfl) ?_)
          refine TrL.cons_yes rfl rfl rfl (bt_dec h23) (OpTr.v (v_load (k := 1) rfl rfl rfl ty48 nofun rfl rfl) rfl (bl rfl) ?_)
          obtain ⟨r19, hr19, H⟩ := bnd H
          refine TrL.cons_yes rfl rfl rfl (bt_dec h23) (op_call0' (vs := [.agg #[.int .u64 r15.1, .int .i64 r15.2.1, .int .u64 r15.2.2.1, .int .u64 r15.2.2.2.1, .slice m16.1 r15.2.2.2.2.1.length m16.2.1], .agg #[.int .u64 r16.1, .int .i64 r16.2.1, .int .u64 r16.2.2.1, .int .u64 r16.2.2.2.1, .slice m18.1 r16.2.2.2.2.1.length m18.2.1]]) (cap := []) [6, 9] rfl rfl (bl rfl) rfl rfl en58 (c_buffer_Same ((r15.1, r15.2.1, r15.2.2.1, r15.2.2.2.1, r15.2.2.2.2.1)) ((r16.1, r16.2.1, r16.2.2.1, r16.2.2.2.1, r16.2.2.2.2.1)) m16.1 m16.2.1 m18.1 m18.2.1 r19 hr19) rfl (fun ret M' F' hR21 => ?_))
          obtain ⟨rfl, rfl, rfl⟩ := hR21
          refine TrL.v (v_pick_t rfl rfl (bt_dec h23) rfl) rfl rfl (bl rfl) ?_
          refine TrL.v (v_move rfl rfl) rfl rfl (bl rfl) ?_
          rcases ifc H with ⟨h24, H⟩ | ⟨h24, H⟩
          · refine TrL.cons_yes rfl rfl rfl h24 (OpTr.v (v_move rfl rfl) rfl (bl rfl) ?_)
            refine TrL.cons_yes rfl rfl rfl h24 (OpTr.v (v_move rfl rfl) rfl (bl rfl) ?_)
            obtain ⟨r20, hr20, H⟩ := bnd H
            refine TrL.cons_yes rfl rfl rfl h24 (op_call0' (vs := [.slice A7 ((r14.2.2.2.2.2.1 ++ r15.2.2.2.2.2.1).length) c5, .slice m18.2.2.1 r16.2.2.2.2.2.1.length m18.2.2.2]) (cap := []) [13, 10] rfl rfl (bl rfl) rfl rfl en52 (c_ref12_Events (r14.2.2.2.2.2.1 ++ r15.2.2.2.2.2.1) r16.2.2.2.2.2.1 A7 c5 m18.2.2.1 m18.2.2.2 r20 hr20) rfl (fun ret M' F' hR22 => ?_))
            obtain ⟨rfl, rfl, rfl⟩ := hR22
            refine TrL.v (v_pick_t rfl rfl h24 rfl) rfl rfl (bl rfl) ?_
            refine TrL.v (v_assign rfl rfl) rfl rfl (bl rfl) ?_
            refine TrL.nil (qthen_n ?_)
            have hz := Option.some.inj H
            subst hz
            refine Tr.ret (ret_r ⟨[(6, .bool r20)], [], [], []⟩ [.bool r20] [] [] (Imp.re _ [] [] (sc rfl sn) (by decide) rfl rfl rfl) rfl rfl ⟨rfl, rfl, rfl⟩ (.cons (resv_tmp rfl) .nil))
          · refine TrL.cons_no rfl rfl rfl (gn_t (bf_b h24)) rfl (bl rfl) ?_
            refine TrL.cons_no rfl rfl rfl (gn_t (bf_b h24)) rfl (bl rfl) ?_
            refine TrL.cons_no rfl rfl rfl (gn_t (bf_b h24)) rfl (bl rfl) ?_
            refine TrL.v (v_pick_f rfl rfl (bf_b h24) rfl) rfl rfl (bl rfl) ?_
            refine TrL.v (v_assign rfl rfl) rfl rfl (bl rfl) ?_
            refine TrL.nil (qthen_n ?_)
            have hz := Option.some.inj H
            subst hz
            refine Tr.ret (ret_r ⟨[(6, .bool false)], [], [], []⟩ [.bool false] [] [] (Imp.re _ [] [] (sc rfl sn) (by decide) rfl rfl rfl) rfl rfl ⟨rfl, rfl, rfl⟩ (.cons (resv_tmp rfl) .nil))
        · refine TrL.cons_no rfl rfl rfl (gn_t (bf_dec h23)) rfl (bl rfl) ?_
          refine TrL.cons_no rfl rfl rfl (gn_t (bf_dec h23)) rfl (bl rfl) ?_
          refine TrL.cons_no rfl rfl rfl (gn_t (bf_dec h23)) rfl (bl rfl) ?_
          refine TrL.v (v_pick_f rfl rfl (bf_dec h23) rfl) rfl rfl (bl rfl) ?_
          refine TrL.v (v_move rfl rfl) rfl rfl (bl rfl) ?_
          refine TrL.cons_no rfl rfl rfl (gn_t rfl) rfl (bl rfl) ?_
          refine TrL.cons_no rfl rfl rfl (gn_t rfl) rfl (bl rfl) ?_
          refine TrL.cons_no rfl rfl rfl (gn_t rfl) rfl (bl rfl) ?_
          refine TrL.v (v_pick_f rfl rfl rfl rfl) rfl rfl (bl rfl) ?_
          refine TrL.v (v_assign rfl rfl) rfl rfl (bl rfl) ?_
          refine TrL.nil (qthen_n ?_)
          have hz := Option.some.inj H
          subst hz
          refine Tr.ret (ret_r ⟨[(6, .bool false)], [], [], []⟩ [.bool false] [] [] (Imp.re _ [] [] (sc rfl sn) (by decide) rfl rfl rfl) rfl rfl ⟨rfl, rfl, rfl⟩ (.cons (resv_tmp rfl) .nil))
      · refine TrL.cons_no rfl rfl rfl (gn_t (bf_dec h22)) rfl (bl rfl) ?_
        refine TrL.cons_no rfl rfl rfl (gn_t (bf_dec h22)) rfl (bl rfl) ?_
        refine TrL.v (v_pick_f rfl rfl (bf_dec h22) rfl) rfl rfl (bl rfl) ?_
        refine TrL.v (v_move rfl rfl) rfl rfl (bl rfl) ?_
        refine TrL.cons_no rfl rfl rfl (gn_t rfl) rfl (bl rfl) ?_
        refine TrL.cons_no rfl rfl rfl (gn_t rfl) rfl (bl rfl) ?_
        refine TrL.cons_no rfl rfl rfl (gn_t rfl) rfl (bl rfl) ?_
        refine TrL.v (v_pick_f rfl rfl rfl rfl) rfl rfl (bl rfl) ?_
        refine TrL.v (v_move rfl rfl) rfl rfl (bl rfl) ?_
        refine TrL.cons_no rfl rfl rfl (gn_t rfl) rfl (bl rfl) ?_
        refine TrL.cons_no rfl rfl rfl (gn_t rfl) rfl (bl rfl) ?_
        refine TrL.cons_no rfl rfl rfl (gn_t rfl) rfl (bl rfl) ?_
        refine TrL.v (v_pick_f rfl rfl rfl rfl) rfl rfl (bl rfl) ?_
        refine TrL.v (v_assign rfl rfl) rfl rfl (bl rfl) ?_
        refine TrL.nil (qthen_n ?_)
        have hz := Option.some.inj H
        subst hz
        refine Tr.ret (ret_r ⟨[(6, .bool false)], [], [], []⟩ [.bool false] [] [] (Imp.re _ [] [] (sc rfl sn) (by decide) rfl rfl rfl) rfl rfl ⟨rfl, rfl, rfl⟩ (.cons (resv_tmp rfl) .nil))
    · refine TrL.cons_no rfl rfl rfl (gn_t (bf_dec h21)) rfl (bl rfl) ?_
      refine TrL.cons_no rfl rfl rfl (gn_t (bf_dec h21)) rfl (bl rfl) ?_
      refine TrL.v (v_pick_f rfl rfl (bf_dec h21) rfl) rfl rfl (bl rfl) ?_
      refine TrL.v (v_move rfl rfl) rfl rfl (bl rfl) ?_
      refine TrL.cons_no rfl rfl rfl (gn_t rfl) rfl (bl rfl) ?_
      refine TrL.cons_no rfl rfl rfl (gn_t rfl) rfl (bl rfl) ?_
      refine TrL.v (v_pick_f rfl rfl rfl rfl) rfl rfl (bl rfl) ?_
      refine TrL.v (v_move rfl rfl) rfl rfl (bl rfl) ?_
      refine TrL.cons_no rfl rfl rfl (gn_t rfl) rfl (bl rfl) ?_
      refine TrL.cons_no rfl rfl rfl (gn_t rfl) rfl (bl rfl) ?_
      refine TrL.cons_no rfl rfl rfl (gn_t rfl) rfl (bl rfl) ?_
      refine TrL.v (v_pick_f rfl rfl rfl rfl) rfl rfl (bl rfl) ?_
      refine TrL.v (v_move rfl rfl) rfl rfl (bl rfl) ?_
      refine TrL.cons_no rfl rfl rfl (gn_t rfl) rfl (bl rfl) ?_
      refine TrL.cons_no rfl rfl rfl (gn_t rfl) rfl (bl rfl) ?_
      refine TrL.cons_no rfl rfl rfl (gn_t rfl) rfl (bl rfl) ?_
      refine TrL.v (v_pick_f rfl rfl rfl rfl) rfl rfl (bl rfl) ?_
      refine TrL.v (v_assign rfl rfl) rfl rfl (bl rfl) ?_
      refine TrL.nil (qthen_n ?_)
      have hz := Option.some.inj H
      subst hz
      refine Tr.ret (ret_r ⟨[(6, .bool false)], [], [], []⟩ [.bool false] [] [] (Imp.re _ [] [] (sc rfl sn) (by decide) rfl rfl rfl) rfl rfl ⟨rfl, rfl, rfl⟩ (.cons (resv_tmp rfl) .nil))
  · refine TrL.cons_no rfl rfl rfl (gn_t (bf_b h20)) rfl (bl rfl) ?_
    refine TrL.cons_no rfl rfl rfl (gn_t (bf_b h20)) rfl (bl rfl) ?_
    refine TrL.v (v_pick_f rfl rfl (bf_b h20) rfl) rfl rfl (bl rfl) ?_
    refine TrL.v (v_move rfl rfl) rfl rfl (bl rfl) ?_
    refine TrL.cons_no rfl rfl rfl (gn_t rfl) rfl (bl rfl) ?_
    refine TrL.cons_no rfl rfl rfl (gn_t rfl) rfl (bl rfl) ?_
    refine TrL.v (v_pick_f rfl rfl rfl rfl) rfl rfl (bl rfl) ?_
    refine TrL.v (v_move rfl rfl) rfl rfl (bl rfl) ?_
    refine TrL.cons_no rfl rfl rfl (gn_t rfl) rfl (bl rfl) ?_
    refine TrL.cons_no rfl rfl rfl (gn_t rfl) rfl (bl rfl) ?_
    refine TrL.v (v_pick_f rfl rfl rfl rfl) rfl rfl (bl rfl) ?_
    refine TrL.v (v_move rfl rfl) rfl rfl (bl rfl) ?_
    refine TrL.cons_no rfl rfl rfl (gn_t rfl) rfl (bl rfl) ?_
    refine TrL.cons_no rfl rfl rfl (gn_t rfl) rfl (bl rfl) ?_
    refine TrL.cons_no rfl rfl rfl (gn_t rfl) rfl (bl rfl) ?_
    refine TrL.v (v_pick_f rfl rfl rfl rfl) rfl rfl (bl rfl) ?_
    refine TrL.v (v_move rfl rfl) rfl rfl (bl rfl) ?_
    refine TrL.cons_no rfl rfl rfl (gn_t rfl) rfl (bl rfl) ?_
    refine TrL.cons_no rfl rfl rfl (gn_t rfl) rfl (bl rfl) ?_
    refine TrL.cons_no rfl rfl rfl (gn_t rfl) rfl (bl rfl) ?_
    refine TrL.v (v_pick_f rfl rfl rfl rfl) rfl rfl (bl rfl) ?_
    refine TrL.v (v_assign rfl rfl) rfl rfl (bl rfl) ?_
    refine TrL.nil (qthen_n ?_)
    have hz := Option.some.inj H
    subst hz
    refine Tr.ret (ret_r ⟨[(6, .bool false)], [], [], []⟩ [.bool false] [] [] (Imp.re _ [] [] (sc rfl sn) (by decide) rfl rfl rfl) rfl rfl ⟨rfl, rfl, rfl⟩ (.cons (resv_tmp rfl) .nil))
end Go.Proofs.Ythgeodagikmpjaa.W
