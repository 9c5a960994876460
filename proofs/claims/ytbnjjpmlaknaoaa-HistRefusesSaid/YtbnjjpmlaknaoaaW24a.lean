/- The contracts of the walked functions: the printed walks. -/
import Derived.Test.YtbnjjpmlaknaoaaKa
import Derived.Test.YtbnjjpmlaknaoaaQa
import Derived.Test.YtbnjjpmlaknaoaaWhistba
import Derived.Test.YtbnjjpmlaknaoaaWlaw06aa
import Derived.Test.YtbnjjpmlaknaoaaWlaw06ba
import Derived.Test.YtbnjjpmlaknaoaaWref06ba
namespace Go.Proofs.Ytbnjjpmlaknaoaa.W
open Go Go.Proofs Go.Proofs.Ytbnjjpmlaknaoaa.L Go.Proofs.Ytbnjjpmlaknaoaa.Pu
set_option linter.unusedVariables false
set_option maxHeartbeats 4000000

theorem c_law06_HistRefuses (p1 : Int) (p2 : List (Int × Int)) (p3 : Int × Int) (A1 : Option Addr) (c1 : Nat) (r : Bool) (H : law06_HistRefuses p1 p2 p3 = some r) :
    Ctr Try.prog 24 [.int .i64 p1, .slice A1 p2.length c1, .agg #[.int .u64 p3.1, .int .u64 p3.2]] [] [slF rp_u64_u64 A1 c1 p2] (fun ret M' F' => ret = .bool r ∧ M' = [] ∧ F' = []) := by
  unfold law06_HistRefuses at H
  refine ctr_ofI (N := 105) Try.func24 rfl Try.ntmps24 rfl (Nat.le_of_ble_eq_true rfl) (fun γ0 w0 => ?_)
  refine Tr.seq ?_
  refine Tr.region ?_
  refine TrL.cons rfl (op_box' rfl (bl rfl) rfl rfl rfl (fun b7 => ?_))
  refine TrL.v (v_assign rfl rfl) rfl rfl (bl rfl) ?_
  refine TrL.nil (qthen_n ?_)
  refine Tr.seq ?_
  refine Tr.region ?_
  obtain ⟨r13, hr13, H⟩ := bnd H
  refine TrL.cons rfl (op_call0' (vs := []) (cap := []) [] rfl rfl (bl rfl) rfl rfl en70 (c_law06_awake r13 hr13) rfl (fun ret M' F' hR13 => ?_))
  obtain ⟨rfl, rfl, rfl⟩ := hR13
  refine TrL.v (v_assign rfl rfl) rfl rfl (bl rfl) ?_
  refine TrL.nil (qthen_n ?_)
  refine Tr.seq ?_
  refine Tr.region ?_
  refine TrL.v (v_move rfl rfl) rfl rfl (bl rfl) ?_
  refine TrL.v (v_move rfl rfl) rfl rfl (bl rfl) ?_
  obtain ⟨r14, hr14, H⟩ := bnd H
  refine TrL.cons rfl (op_call0' (vs := [.int .i64 p1, .slice A1 p2.length c1]) (cap := []) [0] rfl rfl (bl rfl) rfl rfl en71 (c_law06_played p1 p2 A1 c1 r14 hr14) rfl (fun ret M' F' hR14 => ?_))
  obtain ⟨m14, rfl, rfl, rfl⟩ := hR14
  refine TrL.v (v_move rfl rfl) rfl rfl (bl rfl) ?_
  refine TrL.v (v_extract rfl rfl rfl) rfl rfl (bl rfl) ?_
  refine TrL.v (v_extract rfl rfl rfl) rfl rfl (bl rfl) ?_
  refine TrL.v (v_extract rfl rfl rfl) rfl rfl (bl rfl) ?_
  refine TrL.cons rfl (op_alloc' rfl (bl rfl) rfl ze31 (fun b8 => ?_))
  refine TrL.cons rfl (op_alloc' rfl (bl rfl) rfl ze28 (fun b9 => ?_))
  refine TrL.cons rfl (op_store' (k := 1) (c' := [.int .i64 r14.1, .int .i64 r14.2.1, .slice m14.1 r14.2.2.1.length m14.2.1]) rfl rfl rfl rfl rfl ty31 rfl (Nat.le_of_ble_eq_true rfl) (ones (oc rfl (oc rfl (oc rfl on)))) rfl ?_)
  refine TrL.cons rfl (op_store' (k := 0) (c' := [.int .i64 r14.2.2.2.1, .int .i64 r14.2.2.2.2.1, .slice m14.2.2.1 r14.2.2.2.2.2.1.length m14.2.2.2]) rfl rfl rfl rfl rfl ty28 rfl (Nat.le_of_ble_eq_true rfl) (ones (oc rfl (oc rfl (oc rfl on)))) rfl ?_)
  refine TrL.v (v_assign rfl rfl) rfl rfl (bl rfl) ?_
  refine TrL.nil (qthen_n ?_)
  refine Tr.seq ?_
  refine Tr.region ?_
  refine TrL.v (v_load (k := 1) rfl rfl rfl ty31 nofun rfl rfl) rfl rfl (bl rfl) ?_
  refine TrL.v (v_indexArr rfl ar37 ty23 rfl rfl (by decide) (by decide) rfl) rfl rfl (bl rfl) ?_
  refine TrL.v (v_load (k := 2) rfl rfl rfl ty23 (fun _ => rfl) rfl rfl) rfl rfl (bl rfl) ?_
  refine TrL.v (v_indexArr rfl ar37 ty23 rfl rfl (by decide) (by decide) rfl) rfl rfl (bl rfl) ?_
  refine TrL.v (v_load (k := 2) rfl rfl rfl ty23 (fun _ => rfl) rfl rfl) rfl rfl (bl rfl) ?_
  obtain ⟨r15, hr15, H⟩ := bnd H
  refine TrL.cons rfl (op_call0' (vs := [.agg #[.int .i64 r14.1, .int .i64 r14.2.1, .slice m14.1 r14.2.2.1.length m14.2.1], .int .u64 p3.1, .int .u64 p3.2]) (cap := []) [1] rfl rfl (bl rfl) rfl rfl en69 (c_hist_Add ((r14.1, r14.2.1, r14.2.2.1)) p3.1 p3.2 m14.1 m14.2.1 r15 hr15) rfl (fun ret M' F' hR15 => ?_))
  obtain ⟨m15, rfl, rfl, rfl⟩ := hR15
  refine TrL.v (v_move rfl rfl) rfl rfl (bl rfl) ?_
  refine TrL.v (v_extract rfl rfl rfl) rfl rfl (bl rfl) ?_
  refine TrL.v (v_extract rfl rfl rfl) rfl rfl (bl rfl) ?_
  refine TrL.cons rfl (op_alloc' rfl (bl rfl) rfl ze31 (fun b10 => ?_))
  refine TrL.cons rfl (op_store' (k := 0) (c' := [.int .i64 r15.1, .int .i64 r15.2.1, .slice m15.1 r15.2.2.1.length m15.2]) rfl rfl rfl rfl rfl ty31 rfl (Nat.le_of_ble_eq_true rfl) (ones (oc rfl (oc rfl (oc rfl on)))) rfl ?_)
  refine TrL.v (v_assign rfl rfl) rfl rfl (bl rfl) ?_
  refine TrL.nil (qthen_n ?_)
  refine Tr.seq ?_
  refine Tr.region ?_
  refine TrL.v (v_load (k := 1) rfl rfl rfl ty28 nofun rfl rfl) rfl rfl (bl rfl) ?_
  refine TrL.v (v_indexArr rfl ar37 ty23 rfl rfl (by decide) (by decide) rfl) rfl rfl (bl rfl) ?_
  refine TrL.v (v_load (k := 3) rfl rfl rfl ty23 (fun _ => rfl) rfl rfl) rfl rfl (bl rfl) ?_
  refine TrL.v (v_indexArr rfl ar37 ty23 rfl rfl (by decide) (by decide) rfl) rfl rfl (bl rfl) ?_
  refine TrL.v (v_load (k := 3) rfl rfl rfl ty23 (fun _ => rfl) rfl rfl) rfl rfl (bl rfl) ?_
  obtain ⟨r16, hr16, H⟩ := bnd H
  refine TrL.cons rfl (op_call0' (vs := [.agg #[.int .i64 r14.2.2.2.1, .int .i64 r14.2.2.2.2.1, .slice m14.2.2.1 r14.2.2.2.2.2.1.length m14.2.2.2], .int .u64 p3.1, .int .u64 p3.2]) (cap := []) [2] rfl rfl (bl rfl) rfl rfl en67 (c_ref06_Add ((r14.2.2.2.1, r14.2.2.2.2.1, r14.2.2.2.2.2.1)) p3.1 p3.2 m14.2.2.1 m14.2.2.2 r16 hr16) rfl (fun ret M' F' hR16 => ?_))
  obtain ⟨m16, rfl, rfl, rfl⟩ := hR16
  refine TrL.v (v_move rfl rfl) rfl rfl (bl rfl) ?_
  refine TrL.v (v_extract rfl rfl rfl) rfl rfl (bl rfl) ?_
  refine TrL.v (v_extract rfl rfl rfl) rfl rfl (bl rfl) ?_
  refine TrL.cons rfl (op_alloc' rfl (bl rfl) rfl ze28 (fun b11 => ?_))
  refine TrL.cons rfl (op_store' (k := 0) (c' := [.int .i64 r16.1, .int .i64 r16.2.1, .slice m16.1 r16.2.2.1.length m16.2]) rfl rfl rfl rfl rfl ty28 rfl (Nat.le_of_ble_eq_true rfl) (ones (oc rfl (oc rfl (oc rfl on)))) rfl ?_)
  refine TrL.v (v_assign rfl rfl) rfl rfl (bl rfl) ?_
  refine TrL.nil (qthen_n ?_)
  refine Tr.seq ?_
  refine Tr.region ?_
  refine TrL.v (v_move rfl rfl) rfl rfl (bl rfl) ?_
  obtain ⟨r17, hr17, H⟩ := bnd H
  refine TrL.cons rfl (op_call0' (vs := [.int .i64 p1]) (cap := []) [] rfl rfl (bl rfl) rfl rfl en75 (c_hist_New p1 r17 hr17) rfl (fun ret M' F' hR17 => ?_))
  obtain ⟨rfl, rfl, rfl⟩ := hR17
  refine TrL.v (v_move rfl rfl) rfl rfl (bl rfl) ?_
  refine TrL.v (v_extract rfl rfl rfl) rfl rfl (bl rfl) ?_
  refine TrL.v (v_extract rfl rfl rfl) rfl rfl (bl rfl) ?_
  refine TrL.cons rfl (op_alloc' rfl (bl rfl) rfl ze31 (fun b12 => ?_))
  refine TrL.cons rfl (op_store' (k := 0) (c' := [.int .i64 r17.1, .int .i64 0, .slice none 0 0]) rfl rfl rfl rfl rfl ty31 rfl (Nat.le_of_ble_eq_true rfl) (ones (oc rfl (oc rfl (oc rfl on)))) rfl ?_)
  refine TrL.v (v_assign rfl rfl) rfl rfl (bl rfl) ?_
  refine TrL.nil (qthen_n ?_)
  refine Tr.seq ?_
  refine Tr.region ?_
  refine TrL.v (v_move rfl rfl) rfl rfl (bl rfl) ?_
  obtain ⟨r18, hr18, H⟩ := bnd H
  refine TrL.cons rfl (op_call0' (vs := [.int .i64 p1]) (cap := []) [] rfl rfl (bl rfl) rfl rfl en76 (c_ref06_May p1 r18 hr18) rfl (fun ret M' F' hR18 => ?_))
  obtain ⟨rfl, rfl, rfl⟩ := hR18
  refine TrL.v (v_assign rfl rfl) rfl rfl (bl rfl) ?_
  refine TrL.nil (qthen_n ?_)
  refine Tr.seq ?_
  refine Tr.region ?_
  refine TrL.v (v_move rfl rfl) rfl rfl (bl rfl) ?_
  refine TrL.v (v_move rfl rfl) rfl rfl (bl rfl) ?_
  rcases ifc H with ⟨h31, H⟩ | ⟨h31, H⟩
  · refine TrL.cons_yes rfl rfl rfl h31 (OpTr.v (v_move rfl rfl) rfl (bl rfl) ?_)
    refine TrL.v (v_pick_t rfl rfl h31 rfl) rfl rfl (bl rfl) ?_
    refine TrL.v (v_move rfl rfl) rfl rfl (bl rfl) ?_
    rcases ifc H with ⟨h32, H⟩ | ⟨h32, H⟩
    · refine TrL.cons_yes rfl rfl rfl h32 (OpTr.v (v_move rfl rfl) rfl (bl rfl) ?_)
      refine TrL.cons_yes rfl rfl rfl h32 (OpTr.v (v_move rfl rfl) rfl (bl rfl) ?_)
      refine TrL.cons_yes rfl rfl rfl h32 (OpTr.v (v_arith rfl rfl rfl ar_eql) rfl (bl rfl) ?_)
      refine TrL.v (v_pick_t rfl rfl h32 rfl) rfl rfl (bl rfl) ?_
      refine TrL.v (v_move rfl rfl) rfl rfl (bl rfl) ?_
      rcases ifc H with ⟨h33, H⟩ | ⟨h33, H⟩
      · refine TrL.cons_yes rfl rfl rfl (bt_dec h33) (OpTr.v (v_load (k := 2) rfl rfl rfl ty31 nofun rfl rfl) rfl (bl rfl) ?_)
        refine TrL.cons_yes rfl rfl rfl (bt_dec h33) (OpTr.v (v_load (k := 1) rfl rfl rfl ty28 nofun rfl rfl) rfl (bl rfl) ?_)
        obtain ⟨r22, hr22, H⟩ := bnd H
        refine TrL.cons_yes rfl rfl rfl (bt_dec h33) (op_call0' (vs := [.agg #[.int .i64 r15.1, .int .i64 r15.2.1, .slice m15.1 r15.2.2.1.length m15.2], .agg #[.int .i64 r16.1, .int .i64 r16.2.1, .slice m16.1 r16.2.2.1.length m16.2]]) (cap := []) [3, 4] rfl rfl (bl rfl) rfl rfl en73 (c_law06_same ((r15.1, r15.2.1, r15.2.2.1)) ((r16.1, r16.2.1, r16.2.2.1)) m15.1 m15.2 m16.1 m16.2 r22 hr22) rfl (fun ret M' F' hR22 => ?_))
        obtain ⟨rfl, rfl, rfl⟩ := hR22
        refine TrL.v (v_pick_t rfl rfl (bt_dec h33) rfl) rfl rfl (bl rfl) ?_
        refine TrL.v (v_move rfl rfl) rfl rfl (bl rfl) ?_
        rcases ifc H with ⟨h34, H⟩ | ⟨h34, H⟩
        · refine TrL.cons_yes rfl rfl rfl h34 (OpTr.v (v_load (k := 4) rfl rfl rfl ty31 nofun rfl rfl) rfl (bl rfl) ?_)
          refine TrL.cons_yes rfl rfl rfl h34 (OpTr.v (v_load (k := 3) rfl rfl rfl ty28 nofun rfl rfl) rfl (bl rfl) ?_)
          obtain ⟨r23, hr23, H⟩ := bnd H
          refine TrL.cons_yes rfl rfl rfl h34 (op_call0' (vs := [.agg #[.int .i64 r14.1, .int .i64 r14.2.1, .slice m14.1 r14.2.2.1.length m14.2.1], .agg #[.int .i64 r14.2.2.2.1, .int .i64 r14.2.2.2.2.1, .slice m14.2.2.1 r14.2.2.2.2.2.1.length m14.2.2.2]]) (cap := []) [1, 2] rfl rfl (bl rfl) rfl rfl en73 (c_law06_same ((r14.1, r14.2.1, r14.2.2.1)) ((r14.2.2.2.1, r14.2.2.2.2.1, r14.2.2.2.2.2.1)) m14.1 m14.2.1 m14.2.2.1 m14.2.2.2 r23 hr23) rfl (fun ret M' F' hR23 => ?_))
          obtain ⟨rfl, rfl, rfl⟩ := hR23
          refine TrL.v (v_pick_t rfl rfl h34 rfl) rfl rfl (bl rfl) ?_
          refine TrL.v (v_move rfl rfl) rfl rfl (bl rfl) ?_
          rcases ifc H with ⟨h35, H⟩ | ⟨h35, H⟩
          · refine TrL.cons_yes rfl rfl rfl h35 (OpTr.v (v_move rfl rfl) rfl (bl rfl) ?_)
            refine TrL.cons_yes rfl rfl rfl h35 (OpTr.v (v_arith rfl rfl rfl ar_eql) rfl (bl rfl) ?_)
            refine TrL.cons_yes rfl rfl rfl h35 (OpTr.v (v_move rfl rfl) rfl (bl rfl) ?_)
            refine TrL.cons_yes rfl rfl rfl h35 (OpTr.v (v_eqd rfl Try.underlying4 rfl rfl) rfl (bl rfl) ?_)
            refine TrL.v (v_pick_t rfl rfl h35 rfl) rfl rfl (bl rfl) ?_
            refine TrL.v (v_move rfl rfl) rfl rfl (bl rfl) ?_
            rcases ifc H with ⟨h36, H⟩ | ⟨h36, H⟩
            · refine TrL.cons_yes rfl rfl rfl (bt_dec h36) (OpTr.v (v_move rfl rfl) rfl (bl rfl) ?_)
              refine TrL.cons_yes rfl rfl rfl (bt_dec h36) (OpTr.v (v_arith rfl rfl rfl ar_eql) rfl (bl rfl) ?_)
              refine TrL.cons_yes rfl rfl rfl (bt_dec h36) (OpTr.v (v_move rfl rfl) rfl (bl rfl) ?_)
              refine TrL.cons_yes rfl rfl rfl (bt_dec h36) (OpTr.v (v_notd rfl (bdec rfl)) rfl (bl rfl) ?_)
              refine TrL.cons_yes rfl rfl rfl (bt_dec h36) (OpTr.v (v_eqd rfl Try.underlying4 rfl rfl) rfl (bl rfl) ?_)
              refine TrL.v (v_pick_t rfl rfl (bt_dec h36) rfl) rfl rfl (bl rfl) ?_
              refine TrL.v (v_move rfl rfl) rfl rfl (bl rfl) ?_
              rcases ifc H with ⟨h37, H⟩ | ⟨h37, H⟩
              · refine TrL.cons_yes rfl rfl rfl (bt_dec h37) (OpTr.v (v_load (k := 0) rfl rfl rfl ty31 nofun rfl rfl) rfl (bl rfl) ?_)
                refine TrL.cons_yes rfl rfl rfl (bt_dec h37) (OpTr.v (v_fieldAddr' rfl fo31_0 rfl rfl) rfl (bl rfl) ?_)
                refine TrL.cons_yes rfl rfl rfl (bt_dec h37) (OpTr.v (v_load (k := 0) rfl rfl rfl ty3 (fun _ => rfl) rfl rfl) rfl (bl rfl) ?_)
                refine TrL.cons_yes rfl rfl rfl (bt_dec h37) (OpTr.v (v_build (vs := [.int .i64 r17.1]) (out := [.int .i64 r17.1, .int .i64 0, .slice none 0 0]) rfl pl28 ze28 rfl rfl) rfl (bl rfl) ?_)
                obtain ⟨r24, hr24, H⟩ := bnd H
                refine TrL.cons_yes rfl rfl rfl (bt_dec h37) (op_call0' (vs := [.agg #[.int .i64 r17.1, .int .i64 0, .slice none 0 0], .agg #[.int .i64 r17.1, .int .i64 0, .slice none 0 0]]) (cap := []) [5, 5] rfl rfl (bl rfl) rfl rfl en73 (c_law06_same ((r17.1, (0 : Int), ([] : List (List (Int × Int))))) ((r17.1, (0 : Int), ([] : List (List (Int × Int))))) none 0 none 0 r24 hr24) rfl (fun ret M' F' hR24 => ?_))
                obtain ⟨rfl, rfl, rfl⟩ := hR24
                refine TrL.v (v_pick_t rfl rfl (bt_dec h37) rfl) rfl rfl (bl rfl) ?_
                refine TrL.v (v_move rfl rfl) rfl rfl (bl rfl) ?_
                rcases ifc H with ⟨h38, H⟩ | ⟨h38, H⟩
                · refine TrL.cons_yes rfl rfl rfl h38 (OpTr.v (v_fieldAddr' rfl fo31_0 rfl rfl) rfl (bl rfl) ?_)
                  refine TrL.cons_yes rfl rfl rfl h38 (OpTr.v (v_load (k := 0) rfl rfl rfl ty3 (fun _ => rfl) rfl rfl) rfl (bl rfl) ?_)
                  refine TrL.cons_yes rfl rfl rfl h38 (OpTr.v (v_move rfl rfl) rfl (bl rfl) ?_)
                  refine TrL.cons_yes rfl rfl rfl h38 (OpTr.v (v_arith rfl rfl rfl ar_eql) rfl (bl rfl) ?_)
                  refine TrL.cons_yes rfl rfl rfl h38 (OpTr.v (v_move rfl rfl) rfl (bl rfl) ?_)
                  rcases ifc H with ⟨h39, H⟩ | ⟨h39, H⟩
                  · refine TrL.cons_no rfl rfl rfl (gn_f (bt_dec h39)) rfl (bl rfl) ?_
                    refine TrL.cons_no rfl rfl rfl (gn_f (bt_dec h39)) rfl (bl rfl) ?_
                    refine TrL.cons_no rfl rfl rfl (gn_f (bt_dec h39)) rfl (bl rfl) ?_
                    refine TrL.cons_un rfl rfl rfl rfl (bl rfl) ?_
                    refine TrL.cons_un rfl rfl rfl rfl (bl rfl) ?_
                    refine TrL.cons_un rfl rfl rfl rfl (bl rfl) ?_
                    refine TrL.cons_no rfl rfl rfl (gn_f (bt_dec h39)) rfl (bl rfl) ?_
                    refine TrL.cons_yes rfl rfl rfl h38 (OpTr.v (v_pick_t rfl rfl (bt_dec h39) rfl) rfl (bl rfl) ?_)
                    refine TrL.v (v_pick_t rfl rfl h38 rfl) rfl rfl (bl rfl) ?_
                    refine TrL.v (v_assign rfl rfl) rfl rfl (bl rfl) ?_
                    refine TrL.nil (qthen_n ?_)
                    have hz := Option.some.inj H
                    subst hz
                    refine Tr.ret (ret_r ⟨[(6, .bool true)], [], [], []⟩ [.bool true] [] [] (Imp.re _ [] [] (sc rfl sn) (by decide) rfl rfl rfl) rfl rfl ⟨rfl, rfl, rfl⟩ (.cons (resv_tmp rfl) .nil))
                  · refine TrL.cons_yes rfl rfl rfl (bf_dec h39) (OpTr.v (v_move rfl rfl) rfl (bl rfl) ?_)
                    refine TrL.cons_yes rfl rfl rfl (bf_dec h39) (OpTr.v (v_notd rfl (bdec rfl)) rfl (bl rfl) ?_)
                    refine TrL.cons_yes rfl rfl rfl (bf_dec h39) (OpTr.v (v_move rfl rfl) rfl (bl rfl) ?_)
                    rcases ifc H with ⟨h40, H⟩ | ⟨h40, H⟩
                    · refine TrL.cons_yes rfl rfl rfl (bt_dec h40) (OpTr.v (v_fieldAddr' rfl fo31_0 rfl rfl) rfl (bl rfl) ?_)
                      refine TrL.cons_yes rfl rfl rfl (bt_dec h40) (OpTr.v (v_load (k := 0) rfl rfl rfl ty3 (fun _ => rfl) rfl rfl) rfl (bl rfl) ?_)
                      refine TrL.cons_yes rfl rfl rfl (bt_dec h40) (OpTr.v (v_arith rfl rfl rfl ar_eql) rfl (bl rfl) ?_)
                      refine TrL.cons_yes rfl rfl rfl (bf_dec h39) (OpTr.v (v_pick_t rfl rfl (bt_dec h40) rfl) rfl (bl rfl) ?_)
                      refine TrL.cons_yes rfl rfl rfl h38 (OpTr.v (v_pick_f rfl rfl (bf_dec h39) rfl) rfl (bl rfl) ?_)
                      refine TrL.v (v_pick_t rfl rfl h38 rfl) rfl rfl (bl rfl) ?_
                      refine TrL.v (v_assign rfl rfl) rfl rfl (bl rfl) ?_
                      refine TrL.nil (qthen_n ?_)
                      have hz := Option.some.inj H
                      subst hz
                      refine Tr.ret (ret_r ⟨[(6, .bool (decide (r17.1 = 0)))], [], [], []⟩ [.bool (decide (r17.1 = 0))] [] [] (Imp.re _ [] [] (sc rfl sn) (by decide) rfl rfl rfl) rfl rfl ⟨rfl, rfl, rfl⟩ (.cons (resv_tmp rfl) .nil))
                    · refine TrL.cons_no rfl rfl rfl (gn_t (bf_dec h40)) rfl (bl rfl) ?_
                      refine TrL.cons_no rfl rfl rfl (gn_t (bf_dec h40)) rfl (bl rfl) ?_
                      refine TrL.cons_no rfl rfl rfl (gn_t (bf_dec h40)) rfl (bl rfl) ?_
                      refine TrL.cons_yes rfl rfl rfl (bf_dec h39) (OpTr.v (v_pick_f rfl rfl (bf_dec h40) rfl) rfl (bl rfl) ?_)
                      refine TrL.cons_yes rfl rfl rfl h38 (OpTr.v (v_pick_f rfl rfl (bf_dec h39) rfl) rfl (bl rfl) ?_)
                      refine TrL.v (v_pick_t rfl rfl h38 rfl) rfl rfl (bl rfl) ?_
                      refine TrL.v (v_assign rfl rfl) rfl rfl (bl rfl) ?_
                      refine TrL.nil (qthen_n ?_)
                      have hz := Option.some.inj H
                      subst hz
                      refine Tr.ret (ret_r ⟨[(6, .bool false)], [], [], []⟩ [.bool false] [] [] (Imp.re _ [] [] (sc rfl sn) (by decide) rfl rfl rfl) rfl rfl ⟨rfl, rfl, rfl⟩ (.cons (resv_tmp rfl) .nil))
                · refine TrL.cons_no rfl rfl rfl (gn_t (bf_b h38)) rfl (bl rfl) ?_
                  refine TrL.cons_no rfl rfl rfl (gn_t (bf_b h38)) rfl (bl rfl) ?_
                  refine TrL.cons_no rfl rfl rfl (gn_t (bf_b h38)) rfl (bl rfl) ?_
                  refine TrL.cons_no rfl rfl rfl (gn_t (bf_b h38)) rfl (bl rfl) ?_
                  refine TrL.cons_no rfl rfl rfl (gn_t (bf_b h38)) rfl (bl rfl) ?_
                  refine TrL.cons_un rfl rfl rfl rfl (bl rfl) ?_
                  refine TrL.cons_un rfl rfl rfl rfl (bl rfl) ?_
                  refine TrL.cons_un rfl rfl rfl rfl (bl rfl) ?_
                  refine TrL.cons_un rfl rfl rfl rfl (bl rfl) ?_
                  refine TrL.cons_un rfl rfl rfl rfl (bl rfl) ?_
                  refine TrL.cons_un rfl rfl rfl rfl (bl rfl) ?_
                  refine TrL.cons_un rfl rfl rfl rfl (bl rfl) ?_
                  refine TrL.cons_no rfl rfl rfl (gn_t (bf_b h38)) rfl (bl rfl) ?_
                  refine TrL.v (v_pick_f rfl rfl (bf_b h38) rfl) rfl rfl (bl rfl) ?_
                  refine TrL.v (v_assign rfl rfl) rfl rfl (bl rfl) ?_
                  refine TrL.nil (qthen_n ?_)
                  have hz := Option.some.inj H
                  subst hz
                  refine Tr.ret (ret_r ⟨[(6, .bool false)], [], [], []⟩ [.bool false] [] [] (Imp.re _ [] [] (sc rfl sn) (by decide) rfl rfl rfl) rfl rfl ⟨rfl, rfl, rfl⟩ (.cons (resv_tmp rfl) .nil))
              · refine TrL.cons_no rfl rfl rfl (gn_t (bf_dec h37)) rfl (bl rfl) ?_
                refine TrL.cons_no rfl rfl rfl (gn_t (bf_dec h37)) rfl (bl rfl) ?_
                refine TrL.cons_no rfl rfl rfl (gn_t (bf_dec h37)) rfl (bl rfl) ?_
                refine TrL.cons_no rfl rfl rfl (gn_t (bf_dec h37)) rfl (bl rfl) ?_
                refine TrL.cons_no rfl rfl rfl (gn_t (bf_dec h37)) rfl (bl rfl) ?_
                refine TrL.v (v_pick_f rfl rfl (bf_dec h37) rfl) rfl rfl (bl rfl) ?_
                refine TrL.v (v_move rfl rfl) rfl rfl (bl rfl) ?_
                refine TrL.cons_no rfl rfl rfl (gn_t rfl) rfl (bl rfl) ?_
                refine TrL.cons_no rfl rfl rfl (gn_t rfl) rfl (bl rfl) ?_
                refine TrL.cons_no rfl rfl rfl (gn_t rfl) rfl (bl rfl) ?_
                refine TrL.cons_no rfl rfl rfl (gn_t rfl) rfl (bl rfl) ?_
                refine TrL.cons_no rfl rfl rfl (gn_t rfl) rfl (bl rfl) ?_
                refine TrL.cons_un rfl rfl rfl rfl (bl rfl) ?_
                refine TrL.cons_un rfl rfl rfl rfl (bl rfl) ?_
                refine TrL.cons_un rfl rfl rfl rfl (bl rfl) ?_
                refine TrL.cons_un rfl rfl rfl rfl (bl rfl) ?_
                refine TrL.cons_un rfl rfl rfl rfl (bl rfl) ?_
                refine TrL.cons_un rfl rfl rfl rfl (bl rfl) ?_
                refine TrL.cons_un rfl rfl rfl rfl (bl rfl) ?_
                refine TrL.cons_no rfl rfl rfl (gn_t rfl) rfl (bl rfl) ?_
                refine TrL.v (v_pick_f rfl rfl rfl rfl) rfl rfl (bl rfl) ?_
                refine TrL.v (v_assign rfl rfl) rfl rfl (bl rfl) ?_
                refine TrL.nil (qthen_n ?_)
                have hz := Option.some.inj H
                subst hz
                refine Tr.ret (ret_r ⟨[(6, .bool false)], [], [], []⟩ [.bool false] [] [] (Imp.re _ [] [] (sc rfl sn) (by decide) rfl rfl rfl) rfl rfl ⟨rfl, rfl, rfl⟩ (.cons (resv_tmp rfl) .nil))
            · refine TrL.cons_no rfl rfl rfl (gn_t (bf_dec h36)) rfl (bl rfl) ?_
              refine TrL.cons_no rfl rfl rfl (gn_t (bf_dec h36)) rfl (bl rfl) ?_
              refine TrL.cons_no rfl rfl rfl (gn_t (bf_dec h36)) rfl (bl rfl) ?_
              refine TrL.cons_no rfl rfl rfl (gn_t (bf_dec h36)) rfl (bl rfl) ?_
              refine TrL.cons_no rfl rfl rfl (gn_t (bf_dec h36)) rfl (bl rfl) ?_
              refine TrL.v (v_pick_f rfl rfl (bf_dec h36) rfl) rfl rfl (bl rfl) ?_
              refine TrL.v (v_move rfl rfl) rfl rfl (bl rfl) ?_
              refine TrL.cons_no rfl rfl rfl (gn_t rfl) rfl (bl rfl) ?_
              refine TrL.cons_no rfl rfl rfl (gn_t rfl) rfl (bl rfl) ?_
              refine TrL.cons_no rfl rfl rfl (gn_t rfl) rfl (bl rfl) ?_
              refine TrL.cons_no rfl rfl rfl (gn_t rfl) rfl (bl rfl) ?_
              refine TrL.cons_no rfl rfl rfl (gn_t rfl) rfl (bl rfl) ?_
              refine TrL.v (v_pick_f rfl rfl rfl rfl) rfl rfl (bl rfl) ?_
              refine TrL.v (v_move rfl rfl) rfl rfl (bl rfl) ?_
              refine TrL.cons_no rfl rfl rfl (gn_t rfl) rfl (bl rfl) ?_
              refine TrL.cons_no rfl rfl rfl (gn_t rfl) rfl (bl rfl) ?_
              refine TrL.cons_no rfl rfl rfl (gn_t rfl) rfl (bl rfl) ?_
              refine TrL.cons_no rfl rfl rfl (gn_t rfl) rfl (bl rfl) ?_
              refine TrL.cons_no rfl rfl rfl (gn_t rfl) rfl (bl rfl) ?_
              refine TrL.cons_un rfl rfl rfl rfl (bl rfl) ?_
              refine TrL.cons_un rfl rfl rfl rfl (bl rfl) ?_
              refine TrL.cons_un rfl rfl rfl rfl (bl rfl) ?_
              refine TrL.cons_un rfl rfl rfl rfl (bl rfl) ?_
              refine TrL.cons_un rfl rfl rfl rfl (bl rfl) ?_
              refine TrL.cons_un rfl rfl rfl rfl (bl rfl) ?_
              refine TrL.cons_un rfl rfl rfl rfl (bl rfl) ?_
              refine TrL.cons_no rfl rfl rfl (gn_t rfl) rfl (bl rfl) ?_
              refine TrL.v (v_pick_f rfl rfl rfl rfl) rfl rfl (bl rfl) ?_
              refine TrL.v (v_assign rfl rfl) rfl rfl (bl rfl) ?_
              refine TrL.nil (qthen_n ?_)
              have hz := Option.some.inj H
              subst hz
              refine Tr.ret (ret_r ⟨[(6, .bool false)], [], [], []⟩ [.bool false] [] [] (Imp.re _ [] [] (sc rfl sn) (by decide) rfl rfl rfl) rfl rfl ⟨rfl, rfl, rfl⟩ (.cons (resv_tmp rfl) .nil))
          · refine TrL.cons_no rfl rfl rfl (gn_t (bf_b h35)) rfl (bl rfl) ?_
            refine TrL.cons_no rfl rfl rfl (gn_t (bf_b h35)) rfl (bl rfl) ?_
            refine TrL.cons_no rfl rfl rfl (gn_t (bf_b h35)) rfl (bl rfl) ?_
            refine TrL.cons_no rfl rfl rfl (gn_t (bf_b h35)) rfl (bl rfl) ?_
            refine TrL.v (v_pick_f rfl rfl (bf_b h35) rfl) rfl rfl (bl rfl) ?_
            refine TrL.v (v_move rfl rfl) rfl rfl (bl rfl) ?_
            refine TrL.cons_no rfl rfl rfl (gn_t rfl) rfl (bl rfl) ?_
            refine TrL.cons_no rfl rfl rfl (gn_t rfl) rfl (bl rfl) ?_
            refine TrL.cons_no rfl rfl rfl (gn_t rfl) rfl (bl rfl) ?_
            refine TrL.cons_no rfl rfl rfl (gn_t rfl) rfl (bl rfl) ?_
            refine TrL.cons_no rfl rfl rfl (gn_t rfl) rfl (bl rfl) ?_
            refine TrL.v (v_pick_f rfl rfl rfl rfl) rfl rfl (bl rfl) ?_
            refine TrL.v (v_move rfl rfl) rfl rfl (bl rfl) ?_
            refine TrL.cons_no rfl rfl rfl (gn_t rfl) rfl (bl rfl) ?_
            refine TrL.cons_no rfl rfl rfl (gn_t rfl) rfl (bl rfl) ?_
            refine TrL.cons_no rfl rfl rfl (gn_t rfl) rfl (bl rfl) ?_
            refine TrL.cons_no rfl rfl rfl (gn_t rfl) rfl (bl rfl) ?_
            refine TrL.cons_no rfl rfl rfl (gn_t rfl) rfl (bl rfl) ?_
            refine TrL.v (v_pick_f rfl rfl rfl rfl) rfl rfl (bl rfl) ?_
            refine TrL.v (v_move rfl rfl) rfl rfl (bl rfl) ?_
            refine TrL.cons_no rfl rfl rfl (gn_t rfl) rfl (bl rfl) ?_
            refine TrL.cons_no rfl rfl rfl (gn_t rfl) rfl (bl rfl) ?_
            refine TrL.cons_no rfl rfl rfl (gn_t rfl) rfl (bl rfl) ?_
            refine TrL.cons_no rfl rfl rfl (gn_t rfl) rfl (bl rfl) ?_
            refine TrL.cons_no rfl rfl rfl (gn_t rfl) rfl (bl rfl) ?_
            refine TrL.cons_un rfl rfl rfl rfl (bl rfl) ?_
            refine TrL.cons_un rfl rfl rfl rfl (bl rfl) ?_
            refine TrL.cons_un rfl rfl rfl rfl (bl rfl) ?_
            refine TrL.cons_un rfl rfl rfl rfl (bl rfl) ?_
            refine TrL.cons_un rfl rfl rfl rfl (bl rfl) ?_
            refine TrL.cons_un rfl rfl rfl rfl (bl rfl) ?_
            refine TrL.cons_un rfl rfl rfl rfl (bl rfl) ?_
            refine TrL.cons_no rfl rfl rfl (gn_t rfl) rfl (bl rfl) ?_
            refine TrL.v (v_pick_f rfl rfl rfl rfl) rfl rfl (bl rfl) ?_
            refine TrL.v (v_assign rfl rfl) rfl rfl (bl rfl) ?_
            refine TrL.nil (qthen_n ?_)
            have hz := Option.some.inj H
            subst hz
            refine Tr.ret (ret_r ⟨[(6, .bool false)], [], [], []⟩ [.bool false] [] [] (Imp.re _ [] [] (sc rfl sn) (by decide) rfl rfl rfl) rfl rfl ⟨rfl, rfl, rfl⟩ (.cons (resv_tmp rfl) .nil))
        · refine TrL.cons_no rfl rfl rfl (gn_t (bf_b h34)) rfl (bl rfl) ?_
          refine TrL.cons_no rfl rfl rfl (gn_t (bf_b h34)) rfl (bl rfl) ?_
          refine TrL.cons_no rfl rfl rfl (gn_t (bf_b h34)) rfl (bl rfl) ?_
          refine TrL.v (v_pick_f rfl rfl (bf_b h34) rfl) rfl rfl (bl rfl) ?_
          refine TrL.v (v_move rfl rfl) rfl rfl (bl rfl) ?_
          refine TrL.cons_no rfl rfl rfl (gn_t rfl) rfl (bl rfl) ?_
          refine TrL.cons_no rfl rfl rfl (gn_t rfl) rfl (bl rfl) ?_
          refine TrL.cons_no rfl rfl rfl (gn_t rfl) rfl (bl rfl) ?_
          refine TrL.cons_no rfl rfl rfl (gn_t rfl) rfl (bl rfl) ?_
          refine TrL.v (v_pick_f rfl rfl rfl rfl) rfl rfl (bl rfl) ?_
          refine TrL.v (v_move rfl rfl) rfl rfl (bl rfl) ?_
          refine TrL.cons_no rfl rfl rfl (gn_t rfl) rfl (bl rfl) ?_
          refine TrL.cons_no rfl rfl rfl (gn_t rfl) rfl (bl rfl) ?_
          refine TrL.cons_no rfl rfl rfl (gn_t rfl) rfl (bl rfl) ?_
          refine TrL.cons_no rfl rfl rfl (gn_t rfl) rfl (bl rfl) ?_
          refine TrL.cons_no rfl rfl rfl (gn_t rfl) rfl (bl rfl) ?_
          refine TrL.v (v_pick_f rfl rfl rfl rfl) rfl rfl (bl rfl) ?_
          refine TrL.v (v_move rfl rfl) rfl rfl (bl rfl) ?_
          refine TrL.cons_no rfl rfl rfl (gn_t rfl) rfl (bl rfl) ?_
          refine TrL.cons_no rfl rfl rfl (gn_t rfl) rfl (bl rfl) ?_
          refine TrL.cons_no rfl rfl rfl (gn_t rfl) rfl (bl rfl) ?_
          refine TrL.cons_no rfl rfl rfl (gn_t rfl) rfl (bl rfl) ?_
          refine TrL.cons_no rfl rfl rfl (gn_t rfl) rfl (bl rfl) ?_
          refine TrL.v (v_pick_f rfl rfl rfl rfl) rfl rfl (bl rfl) ?_
          refine TrL.v (v_move rfl rfl) rfl rfl (bl rfl) ?_
          refine TrL.cons_no rfl rfl rfl (gn_t rfl) rfl (bl rfl) ?_
          refine TrL.cons_no rfl rfl rfl (gn_t rfl) rfl (bl rfl) ?_
          refine TrL.cons_no rfl rfl rfl (gn_t rfl) rfl (bl rfl) ?_
          refine TrL.cons_no rfl rfl rfl (gn_t rfl) rfl (bl rfl) ?_
          refine TrL.cons_no rfl rfl rfl (gn_t rfl) rfl (bl rfl) ?_
          refine TrL.cons_un rfl rfl rfl rfl (bl rfl) ?_
          refine TrL.cons_un rfl rfl rfl rfl (bl rfl) ?_
          refine TrL.cons_un rfl rfl rfl rfl (bl rfl) ?_
          refine TrL.cons_un rfl rfl rfl rfl (bl rfl) ?_
          refine TrL.cons_un rfl rfl rfl rfl (bl rfl) ?_
          refine TrL.cons_un rfl rfl rfl rfl (bl rfl) ?_
          refine TrL.cons_un rfl rfl rfl rfl (bl rfl) ?_
          refine TrL.cons_no rfl rfl rfl (gn_t rfl) rfl (bl rfl) ?_
          refine TrL.v (v_pick_f rfl rfl rfl rfl) rfl rfl (bl rfl) ?_
          refine TrL.v (v_assign rfl rfl) rfl rfl (bl rfl) ?_
          refine TrL.nil (qthen_n ?_)
          have hz := Option.some.inj H
          subst hz
          refine Tr.ret (ret_r ⟨[(6, .bool false)], [], [], []⟩ [.bool false] [] [] (Imp.re _ [] [] (sc rfl sn) (by decide) rfl rfl rfl) rfl rfl ⟨rfl, rfl, rfl⟩ (.cons (resv_tmp rfl) .nil))
      · refine TrL.cons_no rfl rfl rfl (gn_t (bf_dec h33)) rfl (bl rfl) ?_
        refine TrL.cons_no rfl rfl rfl (gn_t (bf_dec h33)) rfl (bl rfl) ?_
        refine TrL.cons_no rfl rfl rfl (gn_t (bf_dec h33)) rfl (bl rfl) ?_
        refine TrL.v (v_pick_f rfl rfl (bf_dec h33) rfl) rfl rfl (bl rfl) ?_
        refine TrL.v (v_move rfl rfl) rfl rfl (bl rfl) ?_
        refine TrL.cons_no rfl rfl rfl (gn_t rfl) rfl (bl rfl) ?_
        refine TrL.cons_no rfl rfl rfl (gn_t rfl) rfl (bl rfl) ?_
        refine TrL.cons_no rfl rfl rfl (gn_t rfl) rfl (bl rfl) ?_
        refine TrL.v (v_pick_f rfl rfl rfl rfl) rfl rfl (bl rfl) ?_
        refine TrL.v (v_move rfl rfl) rfl rfl (bl rfl) ?_
        refine TrL.cons_no rfl rfl rfl (gn_t rfl) rfl (bl rfl) ?_
        refine TrL.cons_no rfl rfl rfl (gn_t rfl) rfl (bl rfl) ?_
        refine TrL.cons_no rfl rfl rfl (gn_t rfl) rfl (bl rfl) ?_
        refine TrL.cons_no rfl rfl rfl (gn_t rfl) rfl (bl rfl) ?_
        refine TrL.v (v_pick_f rfl rfl rfl rfl) rfl rfl (bl rfl) ?_
        refine TrL.v (v_move rfl rfl) rfl rfl (bl rfl) ?_
        refine TrL.cons_no rfl rfl rfl (gn_t rfl) rfl (bl rfl) ?_
        refine TrL.cons_no rfl rfl rfl (gn_t rfl) rfl (bl rfl) ?_
        refine TrL.cons_no rfl rfl rfl (gn_t rfl) rfl (bl rfl) ?_
        refine TrL.cons_no rfl rfl rfl (gn_t rfl) rfl (bl rfl) ?_
        refine TrL.cons_no rfl rfl rfl (gn_t rfl) rfl (bl rfl) ?_
        refine TrL.v (v_pick_f rfl rfl rfl rfl) rfl rfl (bl rfl) ?_
        refine TrL.v (v_move rfl rfl) rfl rfl (bl rfl) ?_
        refine TrL.cons_no rfl rfl rfl (gn_t rfl) rfl (bl rfl) ?_
        refine TrL.cons_no rfl rfl rfl (gn_t rfl) rfl (bl rfl) ?_
        refine TrL.cons_no rfl rfl rfl (gn_t rfl) rfl (bl rfl) ?_
        refine TrL.cons_no rfl rfl rfl (gn_t rfl) rfl (bl rfl) ?_
        refine TrL.cons_no rfl rfl rfl (gn_t rfl) rfl (bl rfl) ?_
        refine TrL.v (v_pick_f rfl rfl rfl rfl) rfl rfl (bl rfl) ?_
        refine TrL.v (v_move rfl rfl) rfl rfl (bl rfl) ?_
        refine TrL.cons_no rfl rfl rfl (gn_t rfl) rfl (bl rfl) ?_
        refine TrL.cons_no rfl rfl rfl (gn_t rfl) rfl (bl rfl) ?_
        refine TrL.cons_no rfl rfl rfl (gn_t rfl) rfl (bl rfl) ?_
        refine TrL.cons_no rfl rfl rfl (gn_t rfl) rfl (bl rfl) ?_
        refine TrL.cons_no rfl rfl rfl (gn_t rfl) rfl (bl rfl) ?_
        refine TrL.cons_un rfl rfl rfl rfl (bl rfl) ?_
        refine TrL.cons_un rfl rfl rfl rfl (bl rfl) ?_
        refine TrL.cons_un rfl rfl rfl rfl (bl rfl) ?_
        refine TrL.cons_un rfl rfl rfl rfl (bl rfl) ?_
        refine TrL.cons_un rfl rfl rfl rfl (bl rfl) ?_
        refine TrL.cons_un rfl rfl rfl rfl (bl rfl) ?_
        refine TrL.cons_un rfl rfl rfl rfl (bl rfl) ?_
        refine TrL.cons_no rfl rfl rfl (gn_t rfl) rfl (bl rfl) ?_
        refine TrL.v (v_pick_f rfl rfl rfl rfl) rfl rfl (bl rfl) ?_
        refine TrL.v (v_assign rfl rfl) rfl rfl (bl rfl) ?_
        refine TrL.nil (qthen_n ?_)
        have hz := Option.some.inj H
        subst hz
        refine Tr.ret (ret_r ⟨[(6, .bool false)], [], [], []⟩ [.bool false] [] [] (Imp.re _ [] [] (sc rfl sn) (by decide) rfl rfl rfl) rfl rfl ⟨rfl, rfl, rfl⟩ (.cons (resv_tmp rfl) .nil))
    · refine TrL.cons_no rfl rfl rfl (gn_t (bf_b h32)) rfl (bl rfl) ?_
      refine TrL.cons_no rfl rfl rfl (gn_t (bf_b h32)) rfl (bl rfl) ?_
      refine TrL.cons_no rfl rfl rfl (gn_t (bf_b h32)) rfl (bl rfl) ?_
      refine TrL.v (v_pick_f rfl rfl (bf_b h32) rfl) rfl rfl (bl rfl) ?_
      refine TrL.v (v_move rfl rfl) rfl rfl (bl rfl) ?_
      refine TrL.cons_no rfl rfl rfl (gn_t rfl) rfl (bl rfl) ?_
      refine TrL.cons_no rfl rfl rfl (gn_t rfl) rfl (bl rfl) ?_
      refine TrL.cons_no rfl rfl rfl (gn_t rfl) rfl (bl rfl) ?_
      refine TrL.v (v_pick_f rfl rfl rfl rfl) rfl rfl (bl rfl) ?_
      refine TrL.v (v_move rfl rfl) rfl rfl (bl rfl) ?_
      refine TrL.cons_no rfl rfl rfl (gn_t rfl) rfl (bl rfl) ?_
      refine TrL.cons_no rfl rfl rfl (gn_t rfl) rfl (bl rfl) ?_
      refine TrL.cons_no rfl rfl rfl (gn_t rfl) rfl (bl rfl) ?_
      refine TrL.v (v_pick_f rfl rfl rfl rfl) rfl rfl (bl rfl) ?_
      refine TrL.v (v_move rfl rfl) rfl rfl (bl rfl) ?_
      refine TrL.cons_no rfl rfl rfl (gn_t rfl) rfl (bl rfl) ?_
      refine TrL.cons_no rfl rfl rfl (gn_t rfl) rfl (bl rfl) ?_
      refine TrL.cons_no rfl rfl rfl (gn_t rfl) rfl (bl rfl) ?_
      refine TrL.cons_no rfl rfl rfl (gn_t rfl) rfl (bl rfl) ?_
      refine TrL.v (v_pick_f rfl rfl rfl rfl) rfl rfl (bl rfl) ?_
      refine TrL.v (v_move rfl rfl) rfl rfl (bl rfl) ?_
      refine TrL.cons_no rfl rfl rfl (gn_t rfl) rfl (bl rfl) ?_
      refine TrL.cons_no rfl rfl rfl (gn_t rfl) rfl (bl rfl) ?_
      refine TrL.cons_no rfl rfl rfl (gn_t rfl) rfl (bl rfl) ?_
      refine TrL.cons_no rfl rfl rfl (gn_t rfl) rfl (bl rfl) ?_
      refine TrL.cons_no rfl rfl rfl (gn_t rfl) rfl (bl rfl) ?_
      refine TrL.v (v_pick_f rfl rfl rfl rfl) rfl rfl (bl rfl) ?_
      refine TrL.v (v_move rfl rfl) rfl rfl (bl rfl) ?_
      refine TrL.cons_no rfl rfl rfl (gn_t rfl) rfl (bl rfl) ?_
      refine TrL.cons_no rfl rfl rfl (gn_t rfl) rfl (bl rfl) ?_
      refine TrL.cons_no rfl rfl rfl (gn_t rfl) rfl (bl rfl) ?_
      refine TrL.cons_no rfl rfl rfl (gn_t rfl) rfl (bl rfl) ?_
      refine TrL.cons_no rfl rfl rfl (gn_t rfl) rfl (bl rfl) ?_
      refine TrL.v (v_pick_f rfl rfl rfl rfl) rfl rfl (bl rfl) ?_
      refine TrL.v (v_move rfl rfl) rfl rfl (bl rfl) ?_
      refine TrL.cons_no rfl rfl rfl (gn_t rfl) rfl (bl rfl) ?_
      refine TrL.cons_no rfl rfl rfl (gn_t rfl) rfl (bl rfl) ?_
      refine TrL.cons_no rfl rfl rfl (gn_t rfl) rfl (bl rfl) ?_
      refine TrL.cons_no rfl rfl rfl (gn_t rfl) rfl (bl rfl) ?_
      refine TrL.cons_no rfl rfl rfl (gn_t rfl) rfl (bl rfl) ?_
      refine TrL.cons_un rfl rfl rfl rfl (bl rfl) ?_
      refine TrL.cons_un rfl rfl rfl rfl (bl rfl) ?_
      refine TrL.cons_un rfl rfl rfl rfl (bl rfl) ?_
      refine TrL.cons_un rfl rfl rfl rfl (bl rfl) ?_
      refine TrL.cons_un rfl rfl rfl rfl (bl rfl) ?_
      refine TrL.cons_un rfl rfl rfl rfl (bl rfl) ?_
      refine TrL.cons_un rfl rfl rfl rfl (bl rfl) ?_
      refine TrL.cons_no rfl rfl rfl (gn_t rfl) rfl (bl rfl) ?_
      refine TrL.v (v_pick_f rfl rfl rfl rfl) rfl rfl (bl rfl) ?_
      refine TrL.v (v_assign rfl rfl) rfl rfl (bl rfl) ?_
      refine TrL.nil (qthen_n ?_)
      have hz := Option.some.inj H
      subst hz
      refine Tr.ret (ret_r ⟨[(6, .bool false)], [], [], []⟩ [.bool false] [] [] (Imp.re _ [] [] (sc rfl sn) (by decide) rfl rfl rfl) rfl rfl ⟨rfl, rfl, rfl⟩ (.cons (resv_tmp rfl) .nil))
  · refine TrL.cons_no rfl rfl rfl (gn_t (bf_b h31)) rfl (bl rfl) ?_
    refine TrL.v (v_pick_f rfl rfl (bf_b h31) rfl) rfl rfl (bl rfl) ?_
    refine TrL.v (v_move rfl rfl) rfl rfl (bl rfl) ?_
    refine TrL.cons_no rfl rfl rfl (gn_t rfl) rfl (bl rfl) ?_
    refine TrL.cons_no rfl rfl rfl (gn_t rfl) rfl (bl rfl) ?_
    refine TrL.cons_no rfl rfl rfl (gn_t rfl) rfl (bl rfl) ?_
    refine TrL.v (v_pick_f rfl rfl rfl rfl) rfl rfl (bl rfl) ?_
    refine TrL.v (v_move rfl rfl) rfl rfl (bl rfl) ?_
    refine TrL.cons_no rfl rfl rfl (gn_t rfl) rfl (bl rfl) ?_
    refine TrL.cons_no rfl rfl rfl (gn_t rfl) rfl (bl rfl) ?_
    refine TrL.cons_no rfl rfl rfl (gn_t rfl) rfl (bl rfl) ?_
    refine TrL.v (v_pick_f rfl rfl rfl rfl) rfl rfl (bl rfl) ?_
    refine TrL.v (v_move rfl rfl) rfl rfl (bl rfl) ?_
    refine TrL.cons_no rfl rfl rfl (gn_t rfl) rfl (bl rfl) ?_
    refine TrL.cons_no rfl rfl rfl (gn_t rfl) rfl (bl rfl) ?_
    refine TrL.cons_no rfl rfl rfl (gn_t rfl) rfl (bl rfl) ?_
    refine TrL.v (v_pick_f rfl rfl rfl rfl) rfl rfl (bl rfl) ?_
    refine TrL.v (v_move rfl rfl) rfl rfl (bl rfl) ?_
    refine TrL.cons_no rfl rfl rfl (gn_t rfl) rfl (bl rfl) ?_
    refine TrL.cons_no rfl rfl rfl (gn_t rfl) rfl (bl rfl) ?_
    refine TrL.cons_no rfl rfl rfl (gn_t rfl) rfl (bl rfl) ?_
    refine TrL.cons_no rfl rfl rfl (gn_t rfl) rfl (bl rfl) ?_
    refine TrL.v (v_pick_f rfl rfl rfl rfl) rfl rfl (bl rfl) ?_
    refine TrL.v (v_move rfl rfl) rfl rfl (bl rfl) ?_
    refine TrL.cons_no rfl rfl rfl (gn_t rfl) rfl (bl rfl) ?_
    refine TrL.cons_no rfl rfl rfl (gn_t rfl) rfl (bl rfl) ?_
    refine TrL.cons_no rfl rfl rfl (gn_t rfl) rfl (bl rfl) ?_
    refine TrL.cons_no rfl rfl rfl (gn_t rfl) rfl (bl rfl) ?_
    refine TrL.cons_no rfl rfl rfl (gn_t rfl) rfl (bl rfl) ?_
    refine TrL.v (v_pick_f rfl rfl rfl rfl) rfl rfl (bl rfl) ?_
    refine TrL.v (v_move rfl rfl) rfl rfl (bl rfl) ?_
    refine TrL.cons_no rfl rfl rfl (gn_t rfl) rfl (bl rfl) ?_
    refine TrL.cons_no rfl rfl rfl (gn_t rfl) rfl (bl rfl) ?_
    refine TrL.cons_no rfl rfl rfl (gn_t rfl) rfl (bl rfl) ?_
    refine TrL.cons_no rfl rfl rfl (gn_t rfl) rfl (bl rfl) ?_
    refine TrL.cons_no rfl rfl rfl (gn_t rfl) rfl (bl rfl) ?_
    refine TrL.v (v_pick_f rfl rfl rfl rfl) rfl rfl (bl rfl) ?_
    refine TrL.v (v_move rfl rfl) rfl rfl (bl rfl) ?_
    refine TrL.cons_no rfl rfl rfl (gn_t rfl) rfl (bl rfl) ?_
    refine TrL.cons_no rfl rfl rfl (gn_t rfl) rfl (bl rfl) ?_
    refine TrL.cons_no rfl rfl rfl (gn_t rfl) rfl (bl rfl) ?_
    refine TrL.cons_no rfl rfl rfl (gn_t rfl) rfl (bl rfl) ?_
    refine TrL.cons_no rfl rfl rfl (gn_t rfl) rfl (bl rfl) ?_
    refine TrL.cons_un rfl rfl rfl rfl (bl rfl) ?_
    refine TrL.cons_un rfl rfl rfl rfl (bl rfl) ?_
    refine TrL.cons_un rfl rfl rfl rfl (bl rfl) ?_
    refine TrL.cons_un rfl rfl rfl rfl (bl rfl) ?_
    refine TrL.cons_un rfl rfl rfl rfl (bl rfl) ?_
    refine TrL.cons_un rfl rfl rfl rfl (bl rfl) ?_
    refine TrL.cons_un rfl rfl rfl rfl (bl rfl) ?_
    refine TrL.cons_no rfl rfl rfl (gn_t rfl) rfl (bl rfl) ?_
    refine TrL.v (v_pick_f rfl rfl rfl rfl) rfl rfl (bl rfl) ?_
    refine TrL.v (v_assign rfl rfl) rfl rfl (bl rfl) ?_
    refine TrL.nil (qthen_n ?_)
    have hz := Option.some.inj H
    subst hz
    refine Tr.ret (ret_r ⟨[(6, .bool false)], [], [], []⟩ [.bool false] [] [] (Imp.re _ [] [] (sc rfl sn) (by decide) rfl rfl rfl) rfl rfl ⟨rfl, rfl, rfl⟩ (.cons (resv_tmp rfl) .nil))
end Go.Proofs.Ytbnjjpmlaknaoaa.W
