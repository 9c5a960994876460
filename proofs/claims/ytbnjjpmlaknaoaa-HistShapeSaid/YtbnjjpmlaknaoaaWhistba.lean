/- The contracts of the walked functions: the printed walks. -/
import Derived.Test.YtbnjjpmlaknaoaaKa
import Derived.Test.YtbnjjpmlaknaoaaQa
import Derived.Test.YtbnjjpmlaknaoaaWhistaa
import Derived.Test.YtbnjjpmlaknaoaaWlevelaa
import Derived.Test.YtbnjjpmlaknaoaaWslicesaa
namespace Go.Proofs.Ytbnjjpmlaknaoaa.W
open Go Go.Proofs Go.Proofs.Ytbnjjpmlaknaoaa.L Go.Proofs.Ytbnjjpmlaknaoaa.Pu
set_option linter.unusedVariables false
set_option maxHeartbeats 4000000

theorem c_hist_Hist_equal (p1 : Int × Int × List (List (Int × Int))) (p2 : List (List (Int × Int))) (A1 : Option Addr) (c1 : Nat) (A2 : Option Addr) (c2 : Nat) (r : Bool) (H : hist_Hist_equal p1 p2 = some r) :
    Ctr Try.prog 90 [.agg #[.int .i64 p1.1, .int .i64 p1.2.1, .slice A1 p1.2.2.length c1], .slice A2 p2.length c2] [] [slF (rSl rp_u64_u64) A1 c1 p1.2.2, slF (rSl rp_u64_u64) A2 c2 p2] (fun ret M' F' => ret = .bool r ∧ M' = [] ∧ F' = []) := by
  unfold hist_Hist_equal at H
  refine ctr_ofI (N := 9) Try.func90 rfl Try.ntmps90 rfl (Nat.le_of_ble_eq_true rfl) (fun γ0 w0 => ?_)
  refine Tr.seq ?_
  refine Tr.region ?_
  refine TrL.cons rfl (op_box' rfl (bl rfl) rfl rfl rfl (fun b2 => ?_))
  refine TrL.v (v_assign rfl rfl) rfl rfl (bl rfl) ?_
  refine TrL.nil (qthen_n ?_)
  refine Tr.seq ?_
  refine Tr.region ?_
  refine TrL.v (v_fieldAddr' rfl fo31_2 rfl rfl) rfl rfl (bl rfl) ?_
  refine TrL.v (v_load (k := 0) rfl rfl rfl ty26 (fun _ => rfl) rfl rfl) rfl rfl (bl rfl) ?_
  refine TrL.v (v_move rfl rfl) rfl rfl (bl rfl) ?_
  obtain ⟨r2, hr2, H⟩ := bnd H
  refine TrL.cons rfl (op_call0' (vs := [.slice A1 p1.2.2.length c1, .slice A2 p2.length c2, .func (.func 103) #[] #[]]) (cap := []) [0, 1] rfl rfl (bl rfl) rfl rfl en102 (c_slices_EqualFunc_Spans p1.2.2 p2 A1 c1 A2 c2 r2 hr2) rfl (fun ret M' F' hR2 => ?_))
  obtain ⟨rfl, rfl, rfl⟩ := hR2
  refine TrL.v (v_assign rfl rfl) rfl rfl (bl rfl) ?_
  refine TrL.nil (qthen_n ?_)
  have hz := Option.some.inj H
  subst hz
  refine Tr.ret (ret_r ⟨[(4, .bool r2)], [], [], []⟩ [.bool r2] [] [] (Imp.re _ [] [] (sc rfl sn) (by decide) rfl rfl rfl) rfl rfl ⟨rfl, rfl, rfl⟩ (.cons (resv_tmp rfl) .nil))

theorem c_hist_Same (p1 : Int × Int × List (List (Int × Int))) (p2 : Int × Int × List (List (Int × Int))) (A1 : Option Addr) (c1 : Nat) (A2 : Option Addr) (c2 : Nat) (r : Bool) (H : hist_Same p1 p2 = some r) :
    Ctr Try.prog 56 [.agg #[.int .i64 p1.1, .int .i64 p1.2.1, .slice A1 p1.2.2.length c1], .agg #[.int .i64 p2.1, .int .i64 p2.2.1, .slice A2 p2.2.2.length c2]] [] [slF (rSl rp_u64_u64) A1 c1 p1.2.2, slF (rSl rp_u64_u64) A2 c2 p2.2.2] (fun ret M' F' => ret = .bool r ∧ M' = [] ∧ F' = []) := by
  unfold hist_Same at H
  refine ctr_ofI (N := 26) Try.func56 rfl Try.ntmps56 rfl (Nat.le_of_ble_eq_true rfl) (fun γ0 w0 => ?_)
  refine Tr.seq ?_
  refine Tr.region ?_
  refine TrL.cons rfl (op_box' rfl (bl rfl) rfl rfl rfl (fun b3 => ?_))
  refine TrL.cons rfl (op_box' rfl (bl rfl) rfl rfl rfl (fun b4 => ?_))
  refine TrL.v (v_assign rfl rfl) rfl rfl (bl rfl) ?_
  refine TrL.nil (qthen_n ?_)
  refine Tr.seq ?_
  refine Tr.region ?_
  refine TrL.v (v_load (k := 1) rfl rfl rfl ty31 nofun rfl rfl) rfl rfl (bl rfl) ?_
  refine TrL.v (v_makeFunc' (us := [.agg #[.int .i64 p1.1, .int .i64 p1.2.1, .slice A1 p1.2.2.length c1]]) (vs := []) rfl rfl rfl rfl) rfl rfl (bl rfl) ?_
  refine TrL.v (v_assign rfl rfl) rfl rfl (bl rfl) ?_
  refine TrL.nil (qthen_n ?_)
  refine Tr.seq ?_
  refine Tr.region ?_
  refine TrL.v (v_fieldAddr' rfl fo31_0 rfl rfl) rfl rfl (bl rfl) ?_
  refine TrL.v (v_load (k := 1) rfl rfl rfl ty3 (fun _ => rfl) rfl rfl) rfl rfl (bl rfl) ?_
  refine TrL.v (v_fieldAddr' rfl fo31_0 rfl rfl) rfl rfl (bl rfl) ?_
  refine TrL.v (v_load (k := 0) rfl rfl rfl ty3 (fun _ => rfl) rfl rfl) rfl rfl (bl rfl) ?_
  refine TrL.v (v_arith rfl rfl rfl ar_eql) rfl rfl (bl rfl) ?_
  refine TrL.v (v_move rfl rfl) rfl rfl (bl rfl) ?_
  rcases ifc H with ⟨h7, H⟩ | ⟨h7, H⟩
  · refine TrL.cons_yes rfl rfl rfl (bt_dec h7) (OpTr.v (v_fieldAddr' rfl fo31_1 rfl rfl) rfl (bl rfl) ?_)
    refine TrL.cons_yes rfl rfl rfl (bt_dec h7) (OpTr.v (v_load (k := 1) rfl rfl rfl ty3 (fun _ => rfl) rfl rfl) rfl (bl rfl) ?_)
    refine TrL.cons_yes rfl rfl rfl (bt_dec h7) (OpTr.v (v_fieldAddr' rfl fo31_1 rfl rfl) rfl (bl rfl) ?_)
    refine TrL.cons_yes rfl rfl rfl (bt_dec h7) (OpTr.v (v_load (k := 0) rfl rfl rfl ty3 (fun _ => rfl) rfl rfl) rfl (bl rfl) ?_)
    refine TrL.cons_yes rfl rfl rfl (bt_dec h7) (OpTr.v (v_arith rfl rfl rfl ar_eql) rfl (bl rfl) ?_)
    refine TrL.v (v_pick_t rfl rfl (bt_dec h7) rfl) rfl rfl (bl rfl) ?_
    refine TrL.v (v_move rfl rfl) rfl rfl (bl rfl) ?_
    rcases ifc H with ⟨h8, H⟩ | ⟨h8, H⟩
    · refine TrL.cons_yes rfl rfl rfl (bt_dec h8) (OpTr.v (v_move rfl rfl) rfl (bl rfl) ?_)
      refine TrL.cons_yes rfl rfl rfl (bt_dec h8) (OpTr.v (v_fieldAddr' rfl fo31_2 rfl rfl) rfl (bl rfl) ?_)
      refine TrL.cons_yes rfl rfl rfl (bt_dec h8) (OpTr.v (v_load (k := 0) rfl rfl rfl ty26 (fun _ => rfl) rfl rfl) rfl (bl rfl) ?_)
      obtain ⟨r4, hr4, H⟩ := bnd H
      refine TrL.cons_yes rfl rfl rfl (bt_dec h8) (op_callg' (fs := [.agg #[.int .i64 p1.1, .int .i64 p1.2.1, .slice A1 p1.2.2.length c1]]) (vs := [.slice A2 p2.2.2.length c2]) (cap := []) (Mr := [cells b4 [.int .i64 p2.1, .int .i64 p2.2.1, .slice A2 p2.2.2.length c2] 31, cells b3 [.int .i64 p1.1, .int .i64 p1.2.1, .slice A1 p1.2.2.length c1] 31]) [] [0, 1] [0, 1] rfl rfl rfl en90 (c_hist_Hist_equal p1 p2.2.2 A1 c1 A2 c2 r4 hr4) (by decide) rfl rfl rfl (bl rfl) (fun ret M' F' hR4 => ?_))
      obtain ⟨rfl, rfl, rfl⟩ := hR4
      refine TrL.v (v_pick_t rfl rfl (bt_dec h8) rfl) rfl rfl (bl rfl) ?_
      refine TrL.v (v_assign rfl rfl) rfl rfl (bl rfl) ?_
      refine TrL.nil (qthen_n ?_)
      have hz := Option.some.inj H
      subst hz
      refine Tr.ret (ret_r ⟨[(4, .bool r4)], [], [], []⟩ [.bool r4] [] [] (Imp.re _ [] [] (sc rfl sn) (by decide) rfl rfl rfl) rfl rfl ⟨rfl, rfl, rfl⟩ (.cons (resv_tmp rfl) .nil))
    · refine TrL.cons_no rfl rfl rfl (gn_t (bf_dec h8)) rfl (bl rfl) ?_
      refine TrL.cons_no rfl rfl rfl (gn_t (bf_dec h8)) rfl (bl rfl) ?_
      refine TrL.cons_no rfl rfl rfl (gn_t (bf_dec h8)) rfl (bl rfl) ?_
      refine TrL.cons_no rfl rfl rfl (gn_t (bf_dec h8)) rfl (bl rfl) ?_
      refine TrL.v (v_pick_f rfl rfl (bf_dec h8) rfl) rfl rfl (bl rfl) ?_
      refine TrL.v (v_assign rfl rfl) rfl rfl (bl rfl) ?_
      refine TrL.nil (qthen_n ?_)
      have hz := Option.some.inj H
      subst hz
      refine Tr.ret (ret_r ⟨[(4, .bool false)], [], [], []⟩ [.bool false] [] [] (Imp.re _ [] [] (sc rfl sn) (by decide) rfl rfl rfl) rfl rfl ⟨rfl, rfl, rfl⟩ (.cons (resv_tmp rfl) .nil))
  · refine TrL.cons_no rfl rfl rfl (gn_t (bf_dec h7)) rfl (bl rfl) ?_
    refine TrL.cons_no rfl rfl rfl (gn_t (bf_dec h7)) rfl (bl rfl) ?_
    refine TrL.cons_no rfl rfl rfl (gn_t (bf_dec h7)) rfl (bl rfl) ?_
    refine TrL.cons_no rfl rfl rfl (gn_t (bf_dec h7)) rfl (bl rfl) ?_
    refine TrL.cons_no rfl rfl rfl (gn_t (bf_dec h7)) rfl (bl rfl) ?_
    refine TrL.v (v_pick_f rfl rfl (bf_dec h7) rfl) rfl rfl (bl rfl) ?_
    refine TrL.v (v_move rfl rfl) rfl rfl (bl rfl) ?_
    refine TrL.cons_no rfl rfl rfl (gn_t rfl) rfl (bl rfl) ?_
    refine TrL.cons_no rfl rfl rfl (gn_t rfl) rfl (bl rfl) ?_
    refine TrL.cons_no rfl rfl rfl (gn_t rfl) rfl (bl rfl) ?_
    refine TrL.cons_no rfl rfl rfl (gn_t rfl) rfl (bl rfl) ?_
    refine TrL.v (v_pick_f rfl rfl rfl rfl) rfl rfl (bl rfl) ?_
    refine TrL.v (v_assign rfl rfl) rfl rfl (bl rfl) ?_
    refine TrL.nil (qthen_n ?_)
    have hz := Option.some.inj H
    subst hz
    refine Tr.ret (ret_r ⟨[(4, .bool false)], [], [], []⟩ [.bool false] [] [] (Imp.re _ [] [] (sc rfl sn) (by decide) rfl rfl rfl) rfl rfl ⟨rfl, rfl, rfl⟩ (.cons (resv_tmp rfl) .nil))

theorem c_hist_Last (p1 : Int × Int × List (List (Int × Int))) (A1 : Option Addr) (c1 : Nat) (r : Int × Bool) (H : hist_Last p1 = some r) :
    Ctr Try.prog 72 [.agg #[.int .i64 p1.1, .int .i64 p1.2.1, .slice A1 p1.2.2.length c1]] [] [slF (rSl rp_u64_u64) A1 c1 p1.2.2] (fun ret M' F' => ret = .tuple #[.int .u64 r.1, .bool r.2] ∧ M' = [] ∧ F' = []) := by
  unfold hist_Last at H
  refine ctr_ofI (N := 28) Try.func72 rfl Try.ntmps72 rfl (Nat.le_of_ble_eq_true rfl) (fun γ0 w0 => ?_)
  refine Tr.seq ?_
  refine Tr.region ?_
  refine TrL.cons rfl (op_box' rfl (bl rfl) rfl rfl rfl (fun b2 => ?_))
  refine TrL.v (v_assign rfl rfl) rfl rfl (bl rfl) ?_
  refine TrL.v (v_assign rfl rfl) rfl rfl (bl rfl) ?_
  refine TrL.nil (qthen_n ?_)
  refine Tr.seq ?_
  refine Tr.seq ?_
  refine Tr.region ?_
  refine TrL.v (v_fieldAddr' rfl fo31_2 rfl rfl) rfl rfl (bl rfl) ?_
  refine TrL.v (v_load (k := 0) rfl rfl rfl ty26 (fun _ => rfl) rfl rfl) rfl rfl (bl rfl) ?_
  refine TrL.v (v_len rfl sl26 rfl) rfl rfl (bl rfl) ?_
  refine TrL.v (v_arith rfl rfl rfl ar_eql) rfl rfl (bl rfl) ?_
  refine TrL.v (v_move rfl rfl) rfl rfl (bl rfl) ?_
  rcases ifc H with ⟨h5, H⟩ | ⟨h5, H⟩
  · refine TrL.cons_no rfl rfl rfl (gn_f (bt_dec h5)) rfl (bl rfl) ?_
    refine TrL.cons_no rfl rfl rfl (gn_f (bt_dec h5)) rfl (bl rfl) ?_
    refine TrL.cons_no rfl rfl rfl (gn_f (bt_dec h5)) rfl (bl rfl) ?_
    refine TrL.cons_no rfl rfl rfl (gn_f (bt_dec h5)) rfl (bl rfl) ?_
    refine TrL.cons_no rfl rfl rfl (gn_f (bt_dec h5)) rfl (bl rfl) ?_
    refine TrL.cons_no rfl rfl rfl (gn_f (bt_dec h5)) rfl (bl rfl) ?_
    refine TrL.v (v_pick_t rfl rfl (bt_dec h5) rfl) rfl rfl (bl rfl) ?_
    refine TrL.nil (qthen_n ?_)
    refine Tr.cond_t rfl rfl ?_
    refine Tr.seq ?_
    refine Tr.region ?_
    refine TrL.v (v_assign rfl rfl) rfl rfl (bl rfl) ?_
    refine TrL.v (v_assign rfl rfl) rfl rfl (bl rfl) ?_
    refine TrL.nil (qthen_n ?_)
    have hz := Option.some.inj H
    subst hz
    refine Tr.ret (qthen_r (ret_r ⟨[(2, .int .u64 0), (3, .bool false)], [], [], []⟩ [.int .u64 0, .bool false] [] [] (Imp.re _ [] [] (sc rfl (sc rfl sn)) (by decide) rfl rfl rfl) rfl rfl ⟨rfl, rfl, rfl⟩ (.cons (resv_tmp rfl) (.cons (resv_tmp rfl) .nil))))
  · refine TrL.cons_yes rfl rfl rfl (bf_dec h5) (OpTr.v (v_fieldAddr' rfl fo31_2 rfl rfl) rfl (bl rfl) ?_)
    refine TrL.cons_yes rfl rfl rfl (bf_dec h5) (OpTr.v (v_load (k := 0) rfl rfl rfl ty26 (fun _ => rfl) rfl rfl) rfl (bl rfl) ?_)
    obtain ⟨z5, hz5, H⟩ := bnd H
    refine TrL.cons_yes rfl rfl rfl (bf_dec h5) (OpTr.v (v_indexAddr (k := 0) rfl sl26 ty38 rfl rfl rfl rfl hz5) rfl (bl rfl) ?_)
    refine TrL.openS' (k := 0) rfl hz5 (fun A5 c5 => ?_)
    refine TrL.cons_yes rfl rfl rfl (bf_dec h5) (OpTr.v (v_loadF (k := 2) rfl ty38 rfl rfl) rfl (bl rfl) ?_)
    refine TrL.cons_yes rfl rfl rfl (bf_dec h5) (OpTr.v (v_len rfl sl38 rfl) rfl (bl rfl) ?_)
    refine TrL.cons_yes rfl rfl rfl (bf_dec h5) (OpTr.v (v_arith rfl rfl rfl ar_eql) rfl (bl rfl) ?_)
    refine TrL.v (v_pick_f rfl rfl (bf_dec h5) rfl) rfl rfl (bl rfl) ?_
    refine TrL.nil (qthen_n ?_)
    rcases ifc H with ⟨h6, H⟩ | ⟨h6, H⟩
    · refine Tr.cond_t rfl (bt_dec h6) ?_
      refine Tr.seq ?_
      refine Tr.region ?_
      refine TrL.v (v_assign rfl rfl) rfl rfl (bl rfl) ?_
      refine TrL.v (v_assign rfl rfl) rfl rfl (bl rfl) ?_
      refine TrL.nil (qthen_n ?_)
      have hz := Option.some.inj H
      subst hz
      refine Tr.ret (qthen_r (ret_r ⟨[(2, .int .u64 0), (3, .bool false)], [], [], []⟩ [.int .u64 0, .bool false] [] [] (Imp.re _ [] [] (sc rfl (sc rfl sn)) (by decide) rfl rfl rfl) rfl rfl ⟨rfl, rfl, rfl⟩ (.cons (resv_tmp rfl) (.cons (resv_tmp rfl) .nil))))
    · refine Tr.cond_f rfl (bf_dec h6) ?_
      refine Tr.skip (qthen_n ?_)
      refine Tr.seq ?_
      refine Tr.region ?_
      refine TrL.v (v_fieldAddr' rfl fo31_2 rfl rfl) rfl rfl (bl rfl) ?_
      refine TrL.v (v_load (k := 0) rfl rfl rfl ty26 (fun _ => rfl) rfl rfl) rfl rfl (bl rfl) ?_
      refine TrL.v (v_indexAddr (k := 0) rfl sl26 ty38 rfl rfl rfl rfl hz5) rfl rfl (bl rfl) ?_
      refine TrL.v (v_loadF (k := 2) rfl ty38 rfl rfl) rfl rfl (bl rfl) ?_
      refine TrL.v (v_assign rfl rfl) rfl rfl (bl rfl) ?_
      refine TrL.nil (qthen_n ?_)
      refine Tr.seq ?_
      refine Tr.region ?_
      refine TrL.v (v_move rfl rfl) rfl rfl (bl rfl) ?_
      refine TrL.v (v_move rfl rfl) rfl rfl (bl rfl) ?_
      refine TrL.v (v_len rfl sl38 rfl) rfl rfl (bl rfl) ?_
      refine TrL.v (v_arith rfl rfl rfl ar_sub_i64) rfl rfl (bl rfl) ?_
      obtain ⟨z6, hz6, H⟩ := bnd H
      refine TrL.v (v_indexAddr (k := 1) rfl sl38 ty41 rfl rfl rfl rfl hz6) rfl rfl (bl rfl) ?_
      refine TrL.v (v_fieldAddr rfl fo41_1 rfl) rfl rfl (bl rfl) ?_
      refine TrL.v (v_loadg (A := A5) (i := (wi64 (((z5.length : Int)) - 1))) (j := 1) (k := 1) rfl ty23 (fun _ => rfl) rfl rfl hz6 rfl rfl) rfl rfl (bl rfl) ?_
      refine TrL.v (v_assign rfl rfl) rfl rfl (bl rfl) ?_
      refine TrL.v (v_assign rfl rfl) rfl rfl (bl rfl) ?_
      refine TrL.nil (qthen_n ?_)
      have hz := Option.some.inj H
      subst hz
      refine Tr.ret (ret_r ⟨[(2, .int .u64 z6.2), (3, .bool true)], [], [], []⟩ [.int .u64 z6.2, .bool true] [] [] (Imp.re _ [] [] (sc rfl (sc rfl sn)) (by decide) rfl rfl rfl) rfl rfl ⟨rfl, rfl, rfl⟩ (.cons (resv_tmp rfl) (.cons (resv_tmp rfl) .nil)))

theorem c_hist_Hist_flow (p1 : Int × Int × List (List (Int × Int))) (p2 : Int) (p3 : Int) (A1 : Option Addr) (c1 : Nat) (r : Unit) (H : hist_Hist_flow p1 p2 p3 = some r) :
    Ctr Try.prog 100 [.agg #[.int .i64 p1.1, .int .i64 p1.2.1, .slice A1 p1.2.2.length c1], .int .u64 p2, .int .u64 p3] [] [slF (rSl rp_u64_u64) A1 c1 p1.2.2] (fun ret M' F' => ∃ m : Nat × Nat × Nat, ret = .func (.func 105) #[] #[.pointer (some ⟨m.1, 0, none⟩), .pointer (some ⟨m.2.1, 0, none⟩), .pointer (some ⟨m.2.2, 0, none⟩)] ∧ M' = [cells m.1 [.int .u64 p3] 23, cells m.2.1 [.int .i64 p1.1, .int .i64 p1.2.1, .slice A1 p1.2.2.length c1] 31, cells m.2.2 [.int .u64 p2] 23] ∧ F' = [slF (rSl rp_u64_u64) A1 c1 p1.2.2]) := by
  unfold hist_Hist_flow at H
  refine ctr_ofI (N := 8) Try.func100 rfl Try.ntmps100 rfl (Nat.le_of_ble_eq_true rfl) (fun γ0 w0 => ?_)
  refine Tr.seq ?_
  refine Tr.region ?_
  refine TrL.cons rfl (op_box' rfl (bl rfl) rfl rfl rfl (fun b4 => ?_))
  refine TrL.cons rfl (op_box' rfl (bl rfl) rfl rfl rfl (fun b5 => ?_))
  refine TrL.cons rfl (op_box' rfl (bl rfl) rfl rfl rfl (fun b6 => ?_))
  refine TrL.v (v_assign rfl rfl) rfl rfl (bl rfl) ?_
  refine TrL.nil (qthen_n ?_)
  refine Tr.seq ?_
  refine Tr.region ?_
  refine TrL.v (v_makeFunc (vs := [.pointer (some ⟨b6, 0, none⟩), .pointer (some ⟨b4, 0, none⟩), .pointer (some ⟨b5, 0, none⟩)]) rfl rfl) rfl rfl (bl rfl) ?_
  refine TrL.v (v_assign rfl rfl) rfl rfl (bl rfl) ?_
  refine TrL.nil (qthen_n ?_)
  have hz := Option.some.inj H
  subst hz
  refine Tr.ret (ret_r ⟨[(6, .func (.func 105) #[] #[.pointer (some ⟨b6, 0, none⟩), .pointer (some ⟨b4, 0, none⟩), .pointer (some ⟨b5, 0, none⟩)])], [cells b6 [.int .u64 p3] 23, cells b4 [.int .i64 p1.1, .int .i64 p1.2.1, .slice A1 p1.2.2.length c1] 31, cells b5 [.int .u64 p2] 23], [slF (rSl rp_u64_u64) A1 c1 p1.2.2], []⟩ [.func (.func 105) #[] #[.pointer (some ⟨b6, 0, none⟩), .pointer (some ⟨b4, 0, none⟩), .pointer (some ⟨b5, 0, none⟩)]] [cells b6 [.int .u64 p3] 23, cells b4 [.int .i64 p1.1, .int .i64 p1.2.1, .slice A1 p1.2.2.length c1] 31, cells b5 [.int .u64 p2] 23] [] (Imp.re _ [0, 2, 1] [0] (sc rfl sn) (by decide) rfl rfl rfl) rfl rfl ⟨((b6, b4, b5)), rfl, rfl, rfl⟩ (.cons (resv_tmp rfl) .nil))

theorem c_hist_Hist_flow_1 {σ ι : Type} (y : (List (Int × Int)) → σ → Option (Bool × σ)) (C : σ → ι → Chunk) (l : Nat) (hy : ∀ (x : List (Int × Int)) (xm : Option Addr × Nat) (s : σ) (m : ι) (bo : Bool) (s' : σ), y x s = some (bo, s') → YCtr Try.prog l [.slice xm.1 x.length xm.2] [C s m] [slF rp_u64_u64 xm.1 xm.2 x] (fun ret M' F' => ∃ m', ret = .bool bo ∧ M' = [C s' m'] ∧ F' = [])) (p1 : Int) (p2 : Int × Int × List (List (Int × Int))) (p3 : Int) (s0 : σ) (b1 : Nat) (b2 : Nat) (A1 : Option Addr) (c1 : Nat) (b3 : Nat) (m0 : ι) (r : σ) (H : hist_Hist_flow_1 y p1 p2 p3 s0 = some r) :
    Ctr Try.prog 105 [.func (.yield l) #[] #[], .pointer (some ⟨b1, 0, none⟩), .pointer (some ⟨b2, 0, none⟩), .pointer (some ⟨b3, 0, none⟩)] [C s0 m0, cells b1 [.int .u64 p1] 23, cells b2 [.int .i64 p2.1, .int .i64 p2.2.1, .slice A1 p2.2.2.length c1] 31, cells b3 [.int .u64 p3] 23] [slF (rSl rp_u64_u64) A1 c1 p2.2.2] (fun ret M' F' => ∃ m : ι, ret = ret1 [] ∧ M' = [C r m, cells b1 [.int .u64 p1] 23, cells b2 [.int .i64 p2.1, .int .i64 p2.2.1, .slice A1 p2.2.2.length c1] 31, cells b3 [.int .u64 p3] 23] ∧ F' = [slF (rSl rp_u64_u64) A1 c1 p2.2.2]) := by
  unfold hist_Hist_flow_1 at H
  refine ctr_ofI (N := 58) Try.func105 rfl Try.ntmps105 rfl (Nat.le_of_ble_eq_true rfl) (fun γ0 w0 => ?_)
  refine Tr.seq ?_
  refine Tr.region ?_
  refine TrL.v (v_assign rfl rfl) rfl rfl (bl rfl) ?_
  refine TrL.nil (qthen_n ?_)
  refine Tr.seq ?_
  refine Tr.region ?_
  refine TrL.v (v_load (k := 1) rfl rfl rfl ty23 (fun _ => rfl) rfl rfl) rfl rfl (bl rfl) ?_
  refine TrL.v (v_assign rfl rfl) rfl rfl (bl rfl) ?_
  refine TrL.nil (qthen_n ?_)
  refine Tr.seq ?_
  refine Tr.region ?_
  refine TrL.v (v_assign rfl rfl) rfl rfl (bl rfl) ?_
  refine TrL.nil (qthen_n ?_)
  obtain ⟨x2, hx3, H⟩ := bnd H
  refine Tr.cutE (D := σ) (M := ι) .ret (fun d3 => x2 = .inl d3) (fun d3 m44 => ⟨[(1, .pointer (some ⟨b1, 0, none⟩)), (2, .pointer (some ⟨b2, 0, none⟩)), (3, .pointer (some ⟨b3, 0, none⟩))], [C d3 m44, cells b1 [.int .u64 p1] 23, cells b2 [.int .i64 p2.1, .int .i64 p2.2.1, .slice A1 p2.2.2.length c1] 31, cells b3 [.int .u64 p3] 23], [slF (rSl rp_u64_u64) A1 c1 p2.2.2], []⟩) ?_ (fun d3 m44 hd15 => ?_)
  · refine Tr.cutE (D := σ) (M := ι) .normal (fun d4 => x2 = .inr d4) (fun d4 m45 => ⟨[(1, .pointer (some ⟨b1, 0, none⟩)), (2, .pointer (some ⟨b2, 0, none⟩)), (3, .pointer (some ⟨b3, 0, none⟩))], [C d4 m45, cells b1 [.int .u64 p1] 23, cells b2 [.int .i64 p2.1, .int .i64 p2.2.1, .slice A1 p2.2.2.length c1] 31, cells b3 [.int .u64 p3] 23], [slF (rSl rp_u64_u64) A1 c1 p2.2.2], []⟩) ?_ (fun d4 m45 hd16 => ?_)
    · refine Tr.block (Tr.loopI (ι := Option Addr × Nat × Option Nat × ι) (step := hist_Hist_flow_1_s0 y p2 p3) (fun s5 m35 => ⟨[(0, .func (.yield l) #[] #[]), (1, .pointer (some ⟨b1, 0, none⟩)), (2, .pointer (some ⟨b2, 0, none⟩)), (3, .pointer (some ⟨b3, 0, none⟩)), (5, .slice m35.1 s5.1.length m35.2.1), (6, .int .u64 s5.2.1), (7, .int .i64 s5.2.2.1)], [C s5.2.2.2 m35.2.2.2, cells b1 [.int .u64 p1] 23, cells b2 [.int .i64 p2.1, .int .i64 p2.2.1, .slice A1 p2.2.2.length c1] 31, cells b3 [.int .u64 p3] 23, grow 41 2 (.slice m35.1 s5.1.length m35.2.1) s5.1.length m35.2.2.1], [slF rp_u64_u64 m35.1 m35.2.1 s5.1, slF (rSl rp_u64_u64) A1 c1 p2.2.2], []⟩) ((none, 0, none, m0)) hx3 (Imp.full' (E := 41) (sz := 2) (A := none) (n := 0) (Imp.addF' _ (nilF rp_u64_u64) (Imp.re _ [1, 2, 3, 4, 0] [1, 0] (sc rfl (sc rfl (sc rfl (sc rfl (sc rfl (sc rfl (sc rfl sn))))))) (by decide) rfl rfl rfl))) (fun s5 m35 y2 hy2 hx4 => ?_))
      unfold hist_Hist_flow_1_s0 at hy2
      refine Tr.seq ?_
      refine Tr.seq ?_
      obtain ⟨j11, hj11, hy2⟩ := bnd hy2
      refine Tr.cutE (D := Bool) (M := Unit) .normal (fun _d => j11 = _d) (fun j11 m46 => ⟨[(0, .func (.yield l) #[] #[]), (1, .pointer (some ⟨b1, 0, none⟩)), (2, .pointer (some ⟨b2, 0, none⟩)), (3, .pointer (some ⟨b3, 0, none⟩)), (5, .slice m35.1 s5.1.length m35.2.1), (6, .int .u64 s5.2.1), (7, .int .i64 s5.2.2.1), (26, .bool j11)], [C s5.2.2.2 m35.2.2.2, cells b1 [.int .u64 p1] 23, cells b2 [.int .i64 p2.1, .int .i64 p2.2.1, .slice A1 p2.2.2.length c1] 31, cells b3 [.int .u64 p3] 23, grow 41 2 (.slice m35.1 s5.1.length m35.2.1) s5.1.length m35.2.2.1], [slF rp_u64_u64 m35.1 m35.2.1 s5.1, slF (rSl rp_u64_u64) A1 c1 p2.2.2], []⟩) ?_ (fun j11 m46 hd13 => ?_)
      · refine Tr.region ?_
        refine TrL.v (v_move rfl rfl) rfl rfl (bl rfl) ?_
        refine TrL.v (v_len rfl sl38 rfl) rfl rfl (bl rfl) ?_
        refine TrL.v (v_arith rfl rfl rfl ar_gtr) rfl rfl (bl rfl) ?_
        refine TrL.v (v_move rfl rfl) rfl rfl (bl rfl) ?_
        rcases ifc hj11 with ⟨h49, hj11⟩ | ⟨h49, hj11⟩
        · refine TrL.cons_no rfl rfl rfl (gn_f (bt_dec h49)) rfl (bl rfl) ?_
          refine TrL.cons_no rfl rfl rfl (gn_f (bt_dec h49)) rfl (bl rfl) ?_
          refine TrL.v (v_pick_t rfl rfl (bt_dec h49) rfl) rfl rfl (bl rfl) ?_
          refine TrL.v (v_move rfl rfl) rfl rfl (bl rfl) ?_
          refine TrL.cons_no rfl rfl rfl (gn_f rfl) rfl (bl rfl) ?_
          refine TrL.cons_no rfl rfl rfl (gn_f rfl) rfl (bl rfl) ?_
          refine TrL.cons_no rfl rfl rfl (gn_f rfl) rfl (bl rfl) ?_
          refine TrL.cons_no rfl rfl rfl (gn_f rfl) rfl (bl rfl) ?_
          refine TrL.cons_no rfl rfl rfl (gn_f rfl) rfl (bl rfl) ?_
          refine TrL.v (v_pick_t rfl rfl rfl rfl) rfl rfl (bl rfl) ?_
          refine TrL.nil (qcut_hit true (()) (Option.some.inj hj11).symm (Imp.re _ [0, 1, 2, 3, 4] [0, 1] (sc rfl (sc rfl (sc rfl (sc rfl (sc rfl (sc rfl (sc rfl (sc rfl sn)))))))) (by decide) rfl rfl rfl))
        · refine TrL.cons_yes rfl rfl rfl (bf_dec h49) (OpTr.v (v_move rfl rfl) rfl (bl rfl) ?_)
          refine TrL.cons_yes rfl rfl rfl (bf_dec h49) (OpTr.v (v_arith rfl rfl rfl ar_gtr) rfl (bl rfl) ?_)
          refine TrL.v (v_pick_f rfl rfl (bf_dec h49) rfl) rfl rfl (bl rfl) ?_
          refine TrL.v (v_move rfl rfl) rfl rfl (bl rfl) ?_
          rcases ifc hj11 with ⟨h50, hj11⟩ | ⟨h50, hj11⟩
          · refine TrL.cons_no rfl rfl rfl (gn_f (bt_dec h50)) rfl (bl rfl) ?_
            refine TrL.cons_no rfl rfl rfl (gn_f (bt_dec h50)) rfl (bl rfl) ?_
            refine TrL.cons_no rfl rfl rfl (gn_f (bt_dec h50)) rfl (bl rfl) ?_
            refine TrL.cons_no rfl rfl rfl (gn_f (bt_dec h50)) rfl (bl rfl) ?_
            refine TrL.cons_no rfl rfl rfl (gn_f (bt_dec h50)) rfl (bl rfl) ?_
            refine TrL.v (v_pick_t rfl rfl (bt_dec h50) rfl) rfl rfl (bl rfl) ?_
            refine TrL.nil (qcut_hit true (()) (Option.some.inj hj11).symm (Imp.re _ [0, 1, 2, 3, 4] [0, 1] (sc rfl (sc rfl (sc rfl (sc rfl (sc rfl (sc rfl (sc rfl (sc rfl sn)))))))) (by decide) rfl rfl rfl))
          · refine TrL.cons_yes rfl rfl rfl (bf_dec h50) (OpTr.v (v_move rfl rfl) rfl (bl rfl) ?_)
            refine TrL.cons_yes rfl rfl rfl (bf_dec h50) (OpTr.v (v_fieldAddr' rfl fo31_2 rfl rfl) rfl (bl rfl) ?_)
            refine TrL.cons_yes rfl rfl rfl (bf_dec h50) (OpTr.v (v_load (k := 2) rfl rfl rfl ty26 (fun _ => rfl) rfl rfl) rfl (bl rfl) ?_)
            refine TrL.cons_yes rfl rfl rfl (bf_dec h50) (OpTr.v (v_len rfl sl26 rfl) rfl (bl rfl) ?_)
            refine TrL.cons_yes rfl rfl rfl (bf_dec h50) (OpTr.v (v_arith rfl rfl rfl ar_lss) rfl (bl rfl) ?_)
            refine TrL.v (v_pick_f rfl rfl (bf_dec h50) rfl) rfl rfl (bl rfl) ?_
            refine TrL.nil (qcut_hit (decide (s5.2.2.1 < ((p2.2.2.length : Int)))) (()) (Option.some.inj hj11).symm (Imp.re _ [0, 1, 2, 3, 4] [0, 1] (sc rfl (sc rfl (sc rfl (sc rfl (sc rfl (sc rfl (sc rfl (sc rfl sn)))))))) (by decide) rfl rfl rfl))
      · subst hd13
        refine (qthen_n ?_)
        rcases ifc hy2 with ⟨h51, hy2⟩ | ⟨h51, hy2⟩
        · refine Tr.cond_t rfl h51 ?_
          refine Tr.skip (qthen_n ?_)
          refine Tr.seq ?_
          refine Tr.block ?_
          refine Tr.seq ?_
          refine Tr.region ?_
          refine TrL.v (v_assign rfl rfl) rfl rfl (bl rfl) ?_
          refine TrL.nil (qthen_n ?_)
          refine Tr.seq ?_
          refine Tr.seq ?_
          refine Tr.region ?_
          refine TrL.v (v_move rfl rfl) rfl rfl (bl rfl) ?_
          refine TrL.v (v_fieldAddr' rfl fo31_2 rfl rfl) rfl rfl (bl rfl) ?_
          refine TrL.v (v_load (k := 2) rfl rfl rfl ty26 (fun _ => rfl) rfl rfl) rfl rfl (bl rfl) ?_
          refine TrL.v (v_len rfl sl26 rfl) rfl rfl (bl rfl) ?_
          refine TrL.v (v_arith rfl rfl rfl ar_lss) rfl rfl (bl rfl) ?_
          refine TrL.nil (qthen_n ?_)
          obtain ⟨j12, hj12, hy2⟩ := bnd hy2
          refine Tr.cutE (D := List (Int × Int)) (M := Option Addr × Nat) .normal (fun _d => j12 = _d) (fun j12 m47 => ⟨[(0, .func (.yield l) #[] #[]), (1, .pointer (some ⟨b1, 0, none⟩)), (2, .pointer (some ⟨b2, 0, none⟩)), (3, .pointer (some ⟨b3, 0, none⟩)), (5, .slice m35.1 s5.1.length m35.2.1), (6, .int .u64 s5.2.1), (7, .int .i64 s5.2.2.1), (8, .slice m47.1 j12.length m47.2)], [C s5.2.2.2 m35.2.2.2, cells b1 [.int .u64 p1] 23, cells b2 [.int .i64 p2.1, .int .i64 p2.2.1, .slice A1 p2.2.2.length c1] 31, cells b3 [.int .u64 p3] 23, grow 41 2 (.slice m35.1 s5.1.length m35.2.1) s5.1.length m35.2.2.1], [slF rp_u64_u64 m35.1 m35.2.1 s5.1, slF rp_u64_u64 m47.1 m47.2 j12, slF (rSl rp_u64_u64) A1 c1 p2.2.2], []⟩) ?_ (fun j12 m47 hd14 => ?_)
          · rcases ifc hj12 with ⟨h53, hj12⟩ | ⟨h53, hj12⟩
            · refine Tr.cond_t rfl (bt_dec h53) ?_
              refine Tr.region ?_
              refine TrL.v (v_fieldAddr' rfl fo31_2 rfl rfl) rfl rfl (bl rfl) ?_
              refine TrL.v (v_load (k := 2) rfl rfl rfl ty26 (fun _ => rfl) rfl rfl) rfl rfl (bl rfl) ?_
              refine TrL.v (v_move rfl rfl) rfl rfl (bl rfl) ?_
              obtain ⟨z12, hz12, hj12⟩ := bnd hj12
              refine TrL.v (v_indexAddr (k := 1) rfl sl26 ty38 rfl rfl rfl rfl hz12) rfl rfl (bl rfl) ?_
              refine TrL.openS' (k := 1) rfl hz12 (fun A13 c13 => ?_)
              refine TrL.v (v_loadF (k := 3) rfl ty38 rfl rfl) rfl rfl (bl rfl) ?_
              refine TrL.v (v_assign rfl rfl) rfl rfl (bl rfl) ?_
              refine TrL.nil (qcut_hit z12 ((A13, c13)) (Option.some.inj hj12).symm (Imp.re _ [0, 1, 2, 3, 4] [0, 2, 1] (sc rfl (sc rfl (sc rfl (sc rfl (sc rfl (sc rfl (sc rfl (sc rfl sn)))))))) (by decide) rfl rfl rfl))
            · refine Tr.cond_f rfl (bf_dec h53) ?_
              refine Tr.skip (qcut_hit (([] : List (Int × Int))) ((none, 0)) (Option.some.inj hj12).symm (Imp.addF' _ (nilF rp_u64_u64) (Imp.re _ [0, 1, 2, 3, 4] [0, 2, 1] (sc rfl (sc rfl (sc rfl (sc rfl (sc rfl (sc rfl (sc rfl (sc rfl sn)))))))) (by decide) rfl rfl rfl)))
          · subst hd14
            refine (qthen_n ?_)
            refine Tr.seq ?_
            refine Tr.regionD drawn (fun hok => ?_)
            refine TrAny.prom (i := 0) (d := 40) hok (OpVal.plain rfl rfl (v_move rfl rfl)) (by kernel_rfl) rfl (bl rfl) ?_
            clear hok
            intro hok
            refine TrAny.prom (i := 1) (d := 41) hok (OpVal.plain rfl rfl (v_fieldAddr' rfl fo31_0 rfl rfl)) (by kernel_rfl) rfl (bl rfl) ?_
            clear hok
            intro hok
            refine TrAny.prom (i := 2) (d := 42) hok (OpVal.plain rfl rfl (v_load (k := 2) rfl rfl rfl ty3 (fun _ => rfl) rfl rfl)) (by kernel_rfl) rfl (bl rfl) ?_
            clear hok
            intro hok
            refine TrAny.prom (i := 3) (d := 43) hok (OpVal.plain rfl rfl (v_move rfl rfl)) (by kernel_rfl) rfl (bl rfl) ?_
            clear hok
            intro hok
            refine TrAny.prom (i := 5) (d := 45) hok (OpVal.plain rfl rfl (v_move rfl rfl)) (by kernel_rfl) rfl (bl rfl) ?_
            clear hok
            intro hok
            refine TrAny.prom (i := 6) (d := 46) hok (OpVal.plain rfl rfl (v_move rfl rfl)) (by kernel_rfl) rfl (bl rfl) ?_
            clear hok
            intro hok
            refine TrAny.prom (i := 7) (d := 47) hok (OpVal.plain rfl rfl (v_load (k := 3) rfl rfl rfl ty23 (fun _ => rfl) rfl rfl)) (by kernel_rfl) rfl (bl rfl) ?_
            clear hok
            intro hok
            obtain ⟨r28, hr28, hy2⟩ := bnd hy2
            refine TrAny.next (j := 4) (by kernel_rfl) hok rfl (by kernel_rfl) (op_call0' (vs := [.int .i64 p2.1, .int .i64 s5.2.2.1]) (cap := []) [] rfl rfl (bl rfl) rfl rfl en50 (c_level_Most p2.1 s5.2.2.1 r28 hr28) rfl (fun ret M' F' hR28 => ?_))
            obtain ⟨rfl, rfl, rfl⟩ := hR28
            refine nxp hok (kp_imp (kp_c0 rfl)) rfl (by kernel_rfl) ?_
            clear hok
            intro hok
            obtain ⟨r29, hr29, hy2⟩ := bnd hy2
            refine TrAny.next (j := 8) (by kernel_rfl) hok rfl (by kernel_rfl) (op_call0' (vs := [.slice m47.1 j12.length m47.2, .int .i64 r28, .slice m35.1 s5.1.length m35.2.1, .int .u64 s5.2.1, .int .u64 p3]) (cap := []) [1, 0] rfl rfl (bl rfl) rfl rfl en48 (c_level_Push j12 r28 s5.1 s5.2.1 p3 m47.1 m47.2 m35.1 m35.2.1 r29 hr29) rfl (fun ret M' F' hR29 => ?_))
            obtain ⟨m51, rfl, rfl, rfl⟩ := hR29
            refine nxp hok (kp_imp (kp_c0 rfl)) rfl (by kernel_rfl) ?_
            clear hok
            intro hok
            refine TrAny.prom (i := 9) (d := 39) hok (OpVal.plain rfl rfl (v_move rfl rfl)) (by kernel_rfl) rfl (bl rfl) ?_
            clear hok
            intro hok
            refine TrAny.prom (i := 10) (d := 49) hok (OpVal.plain rfl rfl (v_extract rfl rfl rfl)) (by kernel_rfl) rfl (bl rfl) ?_
            clear hok
            intro hok
            refine TrAny.prom (i := 11) (d := 50) hok (OpVal.plain rfl rfl (v_extract rfl rfl rfl)) (by kernel_rfl) rfl (bl rfl) ?_
            clear hok
            intro hok
            refine TrAny.prom (i := 12) (d := 51) hok (OpVal.plain rfl rfl (v_extract rfl rfl rfl)) (by kernel_rfl) rfl (bl rfl) ?_
            clear hok
            intro hok
            refine TrAny.prom (i := 13) (d := 9) hok (OpVal.plain rfl rfl (v_assign rfl rfl)) (by kernel_rfl) rfl (bl rfl) ?_
            clear hok
            intro hok
            refine TrAny.prom (i := 14) (d := 10) hok (OpVal.plain rfl rfl (v_assign rfl rfl)) (by kernel_rfl) rfl (bl rfl) ?_
            clear hok
            intro hok
            refine TrAny.prom (i := 15) (d := 11) hok (OpVal.plain rfl rfl (v_assign rfl rfl)) (by kernel_rfl) rfl (bl rfl) ?_
            clear hok
            intro hok
            refine TrAny.done (by kernel_rfl) (by kernel_rfl) hok (by kernel_rfl) (qthen_n ?_)
            refine Tr.seq ?_
            refine Tr.seq ?_
            refine Tr.region ?_
            refine TrL.v (v_move rfl rfl) rfl rfl (bl rfl) ?_
            refine TrL.v (v_move rfl rfl) rfl rfl (bl rfl) ?_
            obtain ⟨r30, hr30, hy2⟩ := bnd hy2
            refine TrL.cons rfl (op_yield (vs := [.slice m51.1 r29.1.length m51.2.1]) (Mr := [grow 41 2 (.slice m51.1 r29.1.length m51.2.1) r29.1.length m51.2.2.2.2.1, grow 41 2 (.slice m51.2.2.1 r29.2.1.length m51.2.2.2.1) r29.2.1.length m51.2.2.2.2.2, cells b1 [.int .u64 p1] 23, cells b2 [.int .i64 p2.1, .int .i64 p2.2.1, .slice A1 p2.2.2.length c1] 31, cells b3 [.int .u64 p3] 23, grow 41 2 (.slice m35.1 s5.1.length m35.2.1) s5.1.length m35.2.2.1]) [2] [0, 1, 3, 4, 5, 6] [3] rfl rfl rfl (hy r29.1 ((m51.1, m51.2.1)) s5.2.2.2 m35.2.2.2 r30.1 r30.2 hr30) (by decide) rfl rfl rfl (bl rfl) (fun ret M' F' hR30 => ?_))
            obtain ⟨m52, rfl, rfl, rfl⟩ := hR30
            refine TrL.v (v_notd rfl (bdec rfl)) rfl rfl (bl rfl) ?_
            refine TrL.nil (qthen_n ?_)
            rcases ifc hy2 with ⟨h54, hy2⟩ | ⟨h54, hy2⟩
            · refine Tr.cond_t rfl (bt_dec h54) ?_
              have hz := Option.some.inj hy2
              subst hz
              refine Tr.ret (qthen_r (qblock_r (qthen_r (qloop_r (qblock_r (qcut_miss (by simp) (qcut_hit r30.2 m52 (hx4 _ rfl).symm (Imp.re _ [0, 3, 4, 5] [2] (sc rfl (sc rfl (sc rfl sn))) (by decide) rfl rfl rfl))))))))
            · refine Tr.cond_f rfl (bf_dec h54) ?_
              refine Tr.skip (qthen_n ?_)
              refine Tr.region ?_
              refine TrL.v (v_move rfl rfl) rfl rfl (bl rfl) ?_
              refine TrL.v (v_move rfl rfl) rfl rfl (bl rfl) ?_
              refine TrL.v (v_assign rfl rfl) rfl rfl (bl rfl) ?_
              refine TrL.v (v_assign rfl rfl) rfl rfl (bl rfl) ?_
              refine TrL.nil (qblock_n (qthen_n ?_))
              refine Tr.region ?_
              refine TrL.v (v_move rfl rfl) rfl rfl (bl rfl) ?_
              refine TrL.v (v_arith rfl rfl rfl ar_add_i64) rfl rfl (bl rfl) ?_
              refine TrL.v (v_assign rfl rfl) rfl rfl (bl rfl) ?_
              have hz := Option.some.inj hy2
              subst hz
              refine TrL.nil (qloop_n ((m51.2.2.1, m51.2.2.2.1, m51.2.2.2.2.2, m52)) (Imp.re _ [0, 3, 4, 5, 2] [4, 2] (sc rfl (sc rfl (sc rfl (sc rfl (sc rfl (sc rfl (sc rfl sn))))))) (by decide) rfl rfl rfl))
        · refine Tr.cond_f rfl (bf_b h51) ?_
          have hz := Option.some.inj hy2
          subst hz
          refine Tr.exit (qthen_x (qloop_x (qblock_hit (qcut_hit s5.2.2.2 m35.2.2.2 (hx4 _ rfl).symm (Imp.re _ [0, 1, 2, 3] [1] (sc rfl (sc rfl (sc rfl sn))) (by decide) rfl rfl rfl)))))
    · subst hd16
      replace H := sumr H
      have hz := Option.some.inj H
      subst hz
      refine (qcut_miss (by simp) (ret_n ⟨[], [C d4 m45, cells b1 [.int .u64 p1] 23, cells b2 [.int .i64 p2.1, .int .i64 p2.2.1, .slice A1 p2.2.2.length c1] 31, cells b3 [.int .u64 p3] 23], [slF (rSl rp_u64_u64) A1 c1 p2.2.2], []⟩ [] [C d4 m45, cells b1 [.int .u64 p1] 23, cells b2 [.int .i64 p2.1, .int .i64 p2.2.1, .slice A1 p2.2.2.length c1] 31, cells b3 [.int .u64 p3] 23] [] (Imp.re _ [0, 1, 2, 3] [0] sn (by decide) rfl rfl rfl) rfl rfl ⟨m45, rfl, rfl, rfl⟩ .nil))
  · subst hd15
    replace H := suml H
    have hz := Option.some.inj H
    subst hz
    refine (ret_r ⟨[], [C d3 m44, cells b1 [.int .u64 p1] 23, cells b2 [.int .i64 p2.1, .int .i64 p2.2.1, .slice A1 p2.2.2.length c1] 31, cells b3 [.int .u64 p3] 23], [slF (rSl rp_u64_u64) A1 c1 p2.2.2], []⟩ [] [C d3 m44, cells b1 [.int .u64 p1] 23, cells b2 [.int .i64 p2.1, .int .i64 p2.2.1, .slice A1 p2.2.2.length c1] 31, cells b3 [.int .u64 p3] 23] [] (Imp.re _ [0, 1, 2, 3] [0] sn (by decide) rfl rfl rfl) rfl rfl ⟨m44, rfl, rfl, rfl⟩ .nil)

theorem c_hist_Add (p1 : Int × Int × List (List (Int × Int))) (p2 : Int) (p3 : Int) (A1 : Option Addr) (c1 : Nat) (r : Int × Int × (List (List (Int × Int))) × Int) (H : hist_Add p1 p2 p3 = some r) :
    Ctr Try.prog 69 [.agg #[.int .i64 p1.1, .int .i64 p1.2.1, .slice A1 p1.2.2.length c1], .int .u64 p2, .int .u64 p3] [] [slF (rSl rp_u64_u64) A1 c1 p1.2.2] (fun ret M' F' => ∃ m : Option Addr × Nat, ret = .tuple #[.agg #[.int .i64 r.1, .int .i64 r.2.1, .slice m.1 r.2.2.1.length m.2], .int .i64 r.2.2.2] ∧ M' = [] ∧ F' = [slF (rSl rp_u64_u64) m.1 m.2 r.2.2.1]) := by
  unfold hist_Add at H
  refine ctr_ofI (N := 57) Try.func69 rfl Try.ntmps69 rfl (Nat.le_of_ble_eq_true rfl) (fun γ0 w0 => ?_)
  refine Tr.seq ?_
  refine Tr.region ?_
  refine TrL.cons rfl (op_box' rfl (bl rfl) rfl rfl rfl (fun b5 => ?_))
  refine TrL.cons rfl (op_alloc' rfl (bl rfl) rfl ze31 (fun b6 => ?_))
  refine TrL.v (v_assign rfl rfl) rfl rfl (bl rfl) ?_
  refine TrL.nil (qthen_n ?_)
  refine Tr.seq ?_
  refine Tr.region ?_
  refine TrL.v (v_load (k := 1) rfl rfl rfl ty31 nofun rfl rfl) rfl rfl (bl rfl) ?_
  obtain ⟨r4, hr4, H⟩ := bnd H
  refine TrL.cons rfl (op_call0' (vs := [.agg #[.int .i64 p1.1, .int .i64 p1.2.1, .slice A1 p1.2.2.length c1]]) (cap := []) [0] rfl rfl (bl rfl) rfl rfl en72 (c_hist_Last p1 A1 c1 r4 hr4) rfl (fun ret M' F' hR4 => ?_))
  obtain ⟨rfl, rfl, rfl⟩ := hR4
  refine TrL.v (v_move rfl rfl) rfl rfl (bl rfl) ?_
  refine TrL.v (v_extract rfl rfl rfl) rfl rfl (bl rfl) ?_
  refine TrL.v (v_extract rfl rfl rfl) rfl rfl (bl rfl) ?_
  refine TrL.v (v_assign rfl rfl) rfl rfl (bl rfl) ?_
  refine TrL.v (v_assign rfl rfl) rfl rfl (bl rfl) ?_
  refine TrL.nil (qthen_n ?_)
  refine Tr.seq ?_
  refine Tr.block ?_
  refine Tr.seq ?_
  refine Tr.region ?_
  refine TrL.v (v_move rfl rfl) rfl rfl (bl rfl) ?_
  refine TrL.v (v_arith rfl rfl rfl ar_eql) rfl rfl (bl rfl) ?_
  refine TrL.v (v_assign rfl rfl) rfl rfl (bl rfl) ?_
  refine TrL.nil (qthen_n ?_)
  rcases ifc H with ⟨h13, H⟩ | ⟨h13, H⟩
  · refine Tr.cond_t rfl (bt_dec h13) ?_
    refine Tr.seq ?_
    refine Tr.region ?_
    refine TrL.v (v_build (vs := []) (out := [.int .i64 0, .int .i64 0, .slice none 0 0]) rfl pl31 ze31 rfl rfl) rfl rfl (bl rfl) ?_
    refine TrL.cons rfl (op_store' (k := 0) (c' := [.int .i64 0, .int .i64 0, .slice none 0 0]) rfl rfl rfl rfl rfl ty31 rfl (Nat.le_of_ble_eq_true rfl) (ones (oc rfl (oc rfl (oc rfl on)))) rfl ?_)
    refine TrL.v (v_assign rfl rfl) rfl rfl (bl rfl) ?_
    refine TrL.nil (qthen_n ?_)
    have hz := Option.some.inj H
    subst hz
    refine Tr.ret (qblock_r (qthen_r (ret_r ⟨[(6, .pointer (some ⟨b6, 0, none⟩)), (7, .int .i64 1)], [cells b6 [.int .i64 0, .int .i64 0, .slice none 0 0] 31], [slF (rSl rp_u64_u64) none 0 (([] : List (List (Int × Int))))], []⟩ [.agg #[.int .i64 0, .int .i64 0, .slice none 0 0], .int .i64 1] [] [cells b6 [.int .i64 0, .int .i64 0, .slice none 0 0] 31] (Imp.addF' _ (nilF (rSl rp_u64_u64)) (Imp.re _ [0] [1] (sc rfl (sc rfl sn)) (by decide) rfl rfl rfl)) rfl rfl ⟨((none, 0)), rfl, rfl, rfl⟩ (.cons (resv_cell (k := 0) rfl rfl ty31 nofun rfl rfl) (.cons (resv_tmp rfl) .nil)))))
  · refine Tr.cond_f rfl (bf_dec h13) ?_
    refine Tr.seq ?_
    obtain ⟨j3, hj3, H⟩ := bnd H
    refine Tr.cutE (D := Bool) (M := Unit) .normal (fun _d => j3 = _d) (fun j3 m9 => ⟨[(1, .int .u64 p2), (2, .int .u64 p3), (3, .pointer (some ⟨b5, 0, none⟩)), (6, .pointer (some ⟨b6, 0, none⟩)), (21, .bool j3)], [cells b5 [.int .i64 p1.1, .int .i64 p1.2.1, .slice A1 p1.2.2.length c1] 31, cells b6 [.int .i64 0, .int .i64 0, .slice none 0 0] 31], [slF (rSl rp_u64_u64) A1 c1 p1.2.2, slF (rSl rp_u64_u64) none 0 (([] : List (List (Int × Int))))], []⟩) ?_ (fun j3 m9 hd2 => ?_)
    · refine Tr.region ?_
      refine TrL.v (v_move rfl rfl) rfl rfl (bl rfl) ?_
      refine TrL.v (v_arith rfl rfl rfl ar_gtr) rfl rfl (bl rfl) ?_
      refine TrL.v (v_move rfl rfl) rfl rfl (bl rfl) ?_
      rcases ifc hj3 with ⟨h18, hj3⟩ | ⟨h18, hj3⟩
      · refine TrL.cons_no rfl rfl rfl (gn_f (bt_dec h18)) rfl (bl rfl) ?_
        refine TrL.cons_no rfl rfl rfl (gn_f (bt_dec h18)) rfl (bl rfl) ?_
        refine TrL.cons_un rfl rfl rfl rfl (bl rfl) ?_
        refine TrL.cons_un rfl rfl rfl rfl (bl rfl) ?_
        refine TrL.cons_un rfl rfl rfl rfl (bl rfl) ?_
        refine TrL.cons_no rfl rfl rfl (gn_f (bt_dec h18)) rfl (bl rfl) ?_
        refine TrL.v (v_pick_t rfl rfl (bt_dec h18) rfl) rfl rfl (bl rfl) ?_
        refine TrL.v (v_assign rfl rfl) rfl rfl (bl rfl) ?_
        refine TrL.nil (qcut_hit true (()) (Option.some.inj hj3).symm (Imp.addF' _ (nilF (rSl rp_u64_u64)) (Imp.re _ [1, 0] [0, 1] (sc rfl (sc rfl (sc rfl (sc rfl (sc rfl sn))))) (by decide) rfl rfl rfl)))
      · refine TrL.cons_yes rfl rfl rfl (bf_dec h18) (OpTr.v (v_move rfl rfl) rfl (bl rfl) ?_)
        refine TrL.cons_yes rfl rfl rfl (bf_dec h18) (OpTr.v (v_move rfl rfl) rfl (bl rfl) ?_)
        rcases ifc hj3 with ⟨h19, hj3⟩ | ⟨h19, hj3⟩
        · refine TrL.cons_yes rfl rfl rfl h19 (OpTr.v (v_move rfl rfl) rfl (bl rfl) ?_)
          refine TrL.cons_yes rfl rfl rfl h19 (OpTr.v (v_move rfl rfl) rfl (bl rfl) ?_)
          refine TrL.cons_yes rfl rfl rfl h19 (OpTr.v (v_arith rfl rfl rfl ar_lss) rfl (bl rfl) ?_)
          refine TrL.cons_yes rfl rfl rfl (bf_dec h18) (OpTr.v (v_pick_t rfl rfl h19 rfl) rfl (bl rfl) ?_)
          refine TrL.v (v_pick_f rfl rfl (bf_dec h18) rfl) rfl rfl (bl rfl) ?_
          refine TrL.v (v_assign rfl rfl) rfl rfl (bl rfl) ?_
          refine TrL.nil (qcut_hit (decide (p2 < r4.1)) (()) (Option.some.inj hj3).symm (Imp.addF' _ (nilF (rSl rp_u64_u64)) (Imp.re _ [1, 0] [0, 1] (sc rfl (sc rfl (sc rfl (sc rfl (sc rfl sn))))) (by decide) rfl rfl rfl)))
        · refine TrL.cons_no rfl rfl rfl (gn_t (bf_b h19)) rfl (bl rfl) ?_
          refine TrL.cons_no rfl rfl rfl (gn_t (bf_b h19)) rfl (bl rfl) ?_
          refine TrL.cons_no rfl rfl rfl (gn_t (bf_b h19)) rfl (bl rfl) ?_
          refine TrL.cons_yes rfl rfl rfl (bf_dec h18) (OpTr.v (v_pick_f rfl rfl (bf_b h19) rfl) rfl (bl rfl) ?_)
          refine TrL.v (v_pick_f rfl rfl (bf_dec h18) rfl) rfl rfl (bl rfl) ?_
          refine TrL.v (v_assign rfl rfl) rfl rfl (bl rfl) ?_
          refine TrL.nil (qcut_hit false (()) (Option.some.inj hj3).symm (Imp.addF' _ (nilF (rSl rp_u64_u64)) (Imp.re _ [1, 0] [0, 1] (sc rfl (sc rfl (sc rfl (sc rfl (sc rfl sn))))) (by decide) rfl rfl rfl)))
    · subst hd2
      refine (qthen_n ?_)
      rcases ifc H with ⟨h20, H⟩ | ⟨h20, H⟩
      · refine Tr.cond_t rfl h20 ?_
        refine Tr.seq ?_
        refine Tr.region ?_
        refine TrL.v (v_build (vs := []) (out := [.int .i64 0, .int .i64 0, .slice none 0 0]) rfl pl31 ze31 rfl rfl) rfl rfl (bl rfl) ?_
        refine TrL.cons rfl (op_store' (k := 1) (c' := [.int .i64 0, .int .i64 0, .slice none 0 0]) rfl rfl rfl rfl rfl ty31 rfl (Nat.le_of_ble_eq_true rfl) (ones (oc rfl (oc rfl (oc rfl on)))) rfl ?_)
        refine TrL.v (v_assign rfl rfl) rfl rfl (bl rfl) ?_
        refine TrL.nil (qthen_n ?_)
        have hz := Option.some.inj H
        subst hz
        refine Tr.ret (qblock_r (qthen_r (ret_r ⟨[(6, .pointer (some ⟨b6, 0, none⟩)), (7, .int .i64 6)], [cells b6 [.int .i64 0, .int .i64 0, .slice none 0 0] 31], [slF (rSl rp_u64_u64) none 0 (([] : List (List (Int × Int))))], []⟩ [.agg #[.int .i64 0, .int .i64 0, .slice none 0 0], .int .i64 6] [] [cells b6 [.int .i64 0, .int .i64 0, .slice none 0 0] 31] (Imp.re _ [1] [1] (sc rfl (sc rfl sn)) (by decide) rfl rfl rfl) rfl rfl ⟨((none, 0)), rfl, rfl, rfl⟩ (.cons (resv_cell (k := 0) rfl rfl ty31 nofun rfl rfl) (.cons (resv_tmp rfl) .nil)))))
      · refine Tr.cond_f rfl (bf_b h20) ?_
        refine Tr.seq ?_
        refine Tr.region ?_
        refine TrL.v (v_move rfl rfl) rfl rfl (bl rfl) ?_
        refine TrL.v (v_load (k := 0) rfl rfl rfl ty31 nofun rfl rfl) rfl rfl (bl rfl) ?_
        obtain ⟨r5, hr5, H⟩ := bnd H
        refine TrL.cons rfl (op_call0' (vs := [.agg #[.int .i64 p1.1, .int .i64 p1.2.1, .slice A1 p1.2.2.length c1]]) (cap := []) [0] rfl rfl (bl rfl) rfl rfl en45 (c_hist_Total p1 A1 c1 r5 hr5) rfl (fun ret M' F' hR5 => ?_))
        obtain ⟨rfl, rfl, rfl⟩ := hR5
        refine TrL.v (v_arith rfl rfl rfl ar_sub_u64) rfl rfl (bl rfl) ?_
        refine TrL.v (v_arith rfl rfl rfl ar_gtr) rfl rfl (bl rfl) ?_
        refine TrL.v (v_assign rfl rfl) rfl rfl (bl rfl) ?_
        refine TrL.nil (qthen_n ?_)
        rcases ifc H with ⟨h21, H⟩ | ⟨h21, H⟩
        · refine Tr.cond_t rfl (bt_dec h21) ?_
          refine Tr.seq ?_
          refine Tr.region ?_
          refine TrL.v (v_build (vs := []) (out := [.int .i64 0, .int .i64 0, .slice none 0 0]) rfl pl31 ze31 rfl rfl) rfl rfl (bl rfl) ?_
          refine TrL.cons rfl (op_store' (k := 1) (c' := [.int .i64 0, .int .i64 0, .slice none 0 0]) rfl rfl rfl rfl rfl ty31 rfl (Nat.le_of_ble_eq_true rfl) (ones (oc rfl (oc rfl (oc rfl on)))) rfl ?_)
          refine TrL.v (v_assign rfl rfl) rfl rfl (bl rfl) ?_
          refine TrL.nil (qthen_n ?_)
          have hz := Option.some.inj H
          subst hz
          refine Tr.ret (qblock_r (qthen_r (ret_r ⟨[(6, .pointer (some ⟨b6, 0, none⟩)), (7, .int .i64 5)], [cells b6 [.int .i64 0, .int .i64 0, .slice none 0 0] 31], [slF (rSl rp_u64_u64) none 0 (([] : List (List (Int × Int))))], []⟩ [.agg #[.int .i64 0, .int .i64 0, .slice none 0 0], .int .i64 5] [] [cells b6 [.int .i64 0, .int .i64 0, .slice none 0 0] 31] (Imp.re _ [1] [1] (sc rfl (sc rfl sn)) (by decide) rfl rfl rfl) rfl rfl ⟨((none, 0)), rfl, rfl, rfl⟩ (.cons (resv_cell (k := 0) rfl rfl ty31 nofun rfl rfl) (.cons (resv_tmp rfl) .nil)))))
        · refine Tr.cond_f rfl (bf_dec h21) ?_
          refine Tr.skip (qblock_n (qthen_n ?_))
          refine Tr.seq ?_
          refine Tr.region ?_
          refine TrL.v (v_fieldAddr' rfl fo31_0 rfl rfl) rfl rfl (bl rfl) ?_
          refine TrL.v (v_load (k := 0) rfl rfl rfl ty3 (fun _ => rfl) rfl rfl) rfl rfl (bl rfl) ?_
          refine TrL.v (v_fieldAddr' rfl fo31_1 rfl rfl) rfl rfl (bl rfl) ?_
          refine TrL.v (v_load (k := 0) rfl rfl rfl ty3 (fun _ => rfl) rfl rfl) rfl rfl (bl rfl) ?_
          refine TrL.v (v_build (vs := [.int .i64 p1.1, .int .i64 p1.2.1]) (out := [.int .i64 p1.1, .int .i64 p1.2.1, .slice none 0 0]) rfl pl31 ze31 rfl rfl) rfl rfl (bl rfl) ?_
          refine TrL.cons rfl (op_alloc' rfl (bl rfl) rfl ze31 (fun b7 => ?_))
          refine TrL.cons rfl (op_store' (k := 0) (c' := [.int .i64 p1.1, .int .i64 p1.2.1, .slice none 0 0]) rfl rfl rfl rfl rfl ty31 rfl (Nat.le_of_ble_eq_true rfl) (ones (oc rfl (oc rfl (oc rfl on)))) rfl ?_)
          refine TrL.nil (qthen_n ?_)
          refine Tr.seq ?_
          refine Tr.seq ?_
          refine Tr.region ?_
          refine TrL.v (v_load (k := 1) rfl rfl rfl ty31 nofun rfl rfl) rfl rfl (bl rfl) ?_
          refine TrL.v (v_move rfl rfl) rfl rfl (bl rfl) ?_
          refine TrL.v (v_move rfl rfl) rfl rfl (bl rfl) ?_
          obtain ⟨r6, hr6, H⟩ := bnd H
          refine TrL.cons rfl (op_call0' (vs := [.agg #[.int .i64 p1.1, .int .i64 p1.2.1, .slice A1 p1.2.2.length c1], .int .u64 p2, .int .u64 p3]) (cap := []) [0] rfl rfl (bl rfl) rfl rfl en100 (c_hist_Hist_flow p1 p2 p3 A1 c1 r6 hr6) rfl (fun ret M' F' hR6 => ?_))
          obtain ⟨m11, rfl, rfl, rfl⟩ := hR6
          refine TrL.nil (qthen_n ?_)
          refine Tr.block ?_
          refine Tr.full (E := 38) (sz := 1) (A := none) (n := 0) ?_
          obtain ⟨j4, hj4, H⟩ := bnd H
          refine Tr.rangeF (ps := [49]) (X := List (Int × Int)) (D := List (List (Int × Int))) (E := Empty) (ι := Option Addr × Nat × Option Nat) (ιE := Unit) (μ := Option Addr × Nat) (κ := ((Option Addr × Nat × Option Nat) ⊕ Unit)) (cap := [.pointer (some ⟨m11.1, 0, none⟩), .pointer (some ⟨m11.2.1, 0, none⟩), .pointer (some ⟨m11.2.2, 0, none⟩)]) (TM := fun d5 m13 => [cells b6 [.int .i64 0, .int .i64 0, .slice none 0 0] 31, cells b7 [.int .i64 p1.1, .int .i64 p1.2.1, .slice m13.1 d5.length m13.2.1] 31, grow 38 1 (.slice m13.1 d5.length m13.2.1) d5.length m13.2.2]) (TF := fun d5 m13 => [slF (rSl rp_u64_u64) none 0 (([] : List (List (Int × Int)))), slF (rSl rp_u64_u64) m13.1 m13.2.1 d5]) (EM := fun _ _ => []) (EF := fun _ _ => []) (jmp := fun _ => .ret) (step := hist_Add_r0) (encs := fun x2 xm2 => [.slice xm2.1 x2.length xm2.2]) (FX := fun x2 xm2 => [slF rp_u64_u64 xm2.1 xm2.2 x2]) (d0 := ([] : List (List (Int × Int)))) (m0 := (none, 0, none)) (x := j4) (Mp := [cells m11.1 [.int .u64 p3] 23, cells m11.2.1 [.int .i64 p1.1, .int .i64 p1.2.1, .slice A1 p1.2.2.length c1] 31, cells m11.2.2 [.int .u64 p2] 23]) (Mr := [cells b5 [.int .i64 p1.1, .int .i64 p1.2.1, .slice A1 p1.2.2.length c1] 31]) (Fp := [slF (rSl rp_u64_u64) A1 c1 p1.2.2]) (Mq := fun k2 => [cells m11.1 [.int .u64 p3] 23, cells m11.2.1 [.int .i64 p1.1, .int .i64 p1.2.1, .slice A1 p1.2.2.length c1] 31, cells m11.2.2 [.int .u64 p2] 23]) (Fq := fun k2 => [slF (rSl rp_u64_u64) A1 c1 p1.2.2]) [6, 4, 0, 1, 2, 3, 5] [1, 1] [0] rfl en105 (by decide) rfl rfl rfl (fun l2 C2 hy4 => ?_) (by decide) (ps_lt rfl) (fun _ _ => rfl) (fun l2 bs1 γ1 w1 x2 xm2 d5 m13 y2 hy3 => ?_) (fun d5 m13 k2 b8 hx2 => ?_) (fun q qm k2 b8 hx2 => ?_)
          · exact (c_hist_Hist_flow_1 (yl (hist_Add_r0)) C2 l2 hy4 p3 p1 p2 (.inl (([] : List (List (Int × Int))))) m11.1 m11.2.1 A1 c1 m11.2.2 (.inl ((none, 0, none))) j4 hj4).mono (fun ret M' F' hR => by obtain ⟨k2, _, hM, hF⟩ := hR; exact ⟨k2, k2, hM, hF⟩)
          · unfold hist_Add_r0 at hy3
            refine Tr.region ?_
            refine TrL.v (v_assign rfl rfl) rfl rfl (bl rfl) ?_
            refine TrL.nil (⟨rfl, fun bs2 γ2 w2 => ?_⟩)
            refine Tr.block ?_
            refine Tr.region ?_
            refine TrL.v (v_fieldAddr' rfl fo31_2 rfl rfl) rfl rfl (bl rfl) ?_
            refine TrL.v (v_load (k := 1) rfl rfl rfl ty26 (fun _ => rfl) rfl rfl) rfl rfl (bl rfl) ?_
            refine TrL.v (v_move rfl rfl) rfl rfl (bl rfl) ?_
            refine TrL.cons rfl (op_buildSlice' (rp := (rSl rp_u64_u64)) (xs := [x2]) (vs := [.slice xm2.1 x2.length xm2.2]) (out := [.slice xm2.1 x2.length xm2.2]) rfl (bl rfl) rfl sl26 ty38 ze38 rfl rfl (by decide) (by decide) rfl (fun γ w hF => (rowc ⟨_, _, rfl, hF _ (List.mem_of_getElem? (i := 2) rfl)⟩ rown rfl)) (fun A12 => ?_))
            obtain ⟨h24, hy3⟩ := rom hy3
            refine TrL.cons rfl (op_append' (rp := (rSl rp_u64_u64)) (xs := d5) (ys := [x2]) (k := 2) (kx := 1) (ky := 3) rfl (bl rfl) rfl sl26 ty38 ze38 rfl by38 rfl rfl rfl rfl rfl rfl rfl h24.1 h24.2 (fun A13 c7 o6 => ?_))
            refine TrL.v (v_fieldAddr' rfl fo31_2 rfl rfl) rfl rfl (bl rfl) ?_
            refine TrL.cons rfl (op_store' (k := 1) (c' := [.int .i64 p1.1, .int .i64 p1.2.1, .slice A13 ((d5 ++ ([x2])).length) c7]) rfl rfl rfl rfl rfl ty26 rfl (Nat.le_of_ble_eq_true rfl) (ones (oc rfl on)) rfl ?_)
            have hz := Option.some.inj hy3
            subst hz
            refine TrL.nil (qblock_n (⟨d5 ++ ([x2]), (A13, c7, o6), rfl, Imp.re _ [0, 1, 2] [0, 4] sn (by decide) rfl rfl rfl⟩))
          · rw [hx2] at H
            replace H := suml H
            refine (qblock_n (qthen_n ?_))
            refine Tr.seq ?_
            refine Tr.region ?_
            refine TrL.v (v_load (k := 2) rfl rfl rfl ty31 nofun rfl rfl) rfl rfl (bl rfl) ?_
            refine TrL.cons rfl (op_store' (k := 1) (c' := [.int .i64 p1.1, .int .i64 p1.2.1, .slice m13.1 d5.length m13.2.1]) rfl rfl rfl rfl rfl ty31 rfl (Nat.le_of_ble_eq_true rfl) (ones (oc rfl (oc rfl (oc rfl on)))) rfl ?_)
            refine TrL.v (v_assign rfl rfl) rfl rfl (bl rfl) ?_
            refine TrL.nil (qthen_n ?_)
            have hz := Option.some.inj H
            subst hz
            refine Tr.ret (ret_rm ⟨[(6, .pointer (some ⟨b6, 0, none⟩)), (7, .int .i64 0)], [objc b8 (.deferred (some [])), cells b6 [.int .i64 p1.1, .int .i64 p1.2.1, .slice m13.1 d5.length m13.2.1] 31], [slF (rSl rp_u64_u64) m13.1 m13.2.1 d5], [dmark b8]⟩ [.agg #[.int .i64 p1.1, .int .i64 p1.2.1, .slice m13.1 d5.length m13.2.1], .int .i64 0] [] [cells b6 [.int .i64 p1.1, .int .i64 p1.2.1, .slice m13.1 d5.length m13.2.1] 31] [b8] (Imp.re _ [0, 1] [5] (sc rfl (sc rfl sn)) (by decide) rfl rfl rfl) rfl rfl ⟨((m13.1, m13.2.1)), rfl, rfl, rfl⟩ (.cons (resv_cell (k := 0) rfl rfl ty31 nofun rfl rfl) (.cons (resv_tmp rfl) .nil)))
          · exact q.elim

theorem c_hist_New (p1 : Int) (r : Int × Int) (H : hist_New p1 = some r) :
    Ctr Try.prog 75 [.int .i64 p1] [] [] (fun ret M' F' => ret = .tuple #[.agg #[.int .i64 r.1, .int .i64 0, .slice none 0 0], .int .i64 r.2] ∧ M' = [] ∧ F' = [slF (rSl rp_u64_u64) none 0 (([] : List (List (Int × Int))))]) := by
  unfold hist_New at H
  refine ctr_ofI (N := 13) Try.func75 rfl Try.ntmps75 rfl (Nat.le_of_ble_eq_true rfl) (fun γ0 w0 => ?_)
  refine Tr.seq ?_
  refine Tr.region ?_
  refine TrL.cons rfl (op_alloc' rfl (bl rfl) rfl ze31 (fun b2 => ?_))
  refine TrL.v (v_assign rfl rfl) rfl rfl (bl rfl) ?_
  refine TrL.nil (qthen_n ?_)
  refine Tr.seq ?_
  refine Tr.seq ?_
  refine Tr.region ?_
  refine TrL.v (v_move rfl rfl) rfl rfl (bl rfl) ?_
  refine TrL.v (v_arith rfl rfl rfl ar_lss) rfl rfl (bl rfl) ?_
  refine TrL.v (v_move rfl rfl) rfl rfl (bl rfl) ?_
  rcases ifc H with ⟨h5, H⟩ | ⟨h5, H⟩
  · refine TrL.cons_no rfl rfl rfl (gn_f (bt_dec h5)) rfl (bl rfl) ?_
    refine TrL.cons_no rfl rfl rfl (gn_f (bt_dec h5)) rfl (bl rfl) ?_
    refine TrL.v (v_pick_t rfl rfl (bt_dec h5) rfl) rfl rfl (bl rfl) ?_
    refine TrL.nil (qthen_n ?_)
    refine Tr.cond_t rfl rfl ?_
    refine Tr.seq ?_
    refine Tr.region ?_
    refine TrL.v (v_build (vs := []) (out := [.int .i64 0, .int .i64 0, .slice none 0 0]) rfl pl31 ze31 rfl rfl) rfl rfl (bl rfl) ?_
    refine TrL.cons rfl (op_store' (k := 0) (c' := [.int .i64 0, .int .i64 0, .slice none 0 0]) rfl rfl rfl rfl rfl ty31 rfl (Nat.le_of_ble_eq_true rfl) (ones (oc rfl (oc rfl (oc rfl on)))) rfl ?_)
    refine TrL.v (v_assign rfl rfl) rfl rfl (bl rfl) ?_
    refine TrL.nil (qthen_n ?_)
    have hz := Option.some.inj H
    subst hz
    refine Tr.ret (qthen_r (ret_r ⟨[(2, .pointer (some ⟨b2, 0, none⟩)), (3, .int .i64 9)], [cells b2 [.int .i64 0, .int .i64 0, .slice none 0 0] 31], [slF (rSl rp_u64_u64) none 0 (([] : List (List (Int × Int))))], []⟩ [.agg #[.int .i64 0, .int .i64 0, .slice none 0 0], .int .i64 9] [] [cells b2 [.int .i64 0, .int .i64 0, .slice none 0 0] 31] (Imp.addF' _ (nilF (rSl rp_u64_u64)) (Imp.re _ [0] [0] (sc rfl (sc rfl sn)) (by decide) rfl rfl rfl)) rfl rfl ⟨rfl, rfl, rfl⟩ (.cons (resv_cell (k := 0) rfl rfl ty31 nofun rfl rfl) (.cons (resv_tmp rfl) .nil))))
  · refine TrL.cons_yes rfl rfl rfl (bf_dec h5) (OpTr.v (v_move rfl rfl) rfl (bl rfl) ?_)
    refine TrL.cons_yes rfl rfl rfl (bf_dec h5) (OpTr.v (v_arith rfl rfl rfl ar_gtr) rfl (bl rfl) ?_)
    refine TrL.v (v_pick_f rfl rfl (bf_dec h5) rfl) rfl rfl (bl rfl) ?_
    refine TrL.nil (qthen_n ?_)
    rcases ifc H with ⟨h6, H⟩ | ⟨h6, H⟩
    · refine Tr.cond_t rfl (bt_dec h6) ?_
      refine Tr.seq ?_
      refine Tr.region ?_
      refine TrL.v (v_build (vs := []) (out := [.int .i64 0, .int .i64 0, .slice none 0 0]) rfl pl31 ze31 rfl rfl) rfl rfl (bl rfl) ?_
      refine TrL.cons rfl (op_store' (k := 0) (c' := [.int .i64 0, .int .i64 0, .slice none 0 0]) rfl rfl rfl rfl rfl ty31 rfl (Nat.le_of_ble_eq_true rfl) (ones (oc rfl (oc rfl (oc rfl on)))) rfl ?_)
      refine TrL.v (v_assign rfl rfl) rfl rfl (bl rfl) ?_
      refine TrL.nil (qthen_n ?_)
      have hz := Option.some.inj H
      subst hz
      refine Tr.ret (qthen_r (ret_r ⟨[(2, .pointer (some ⟨b2, 0, none⟩)), (3, .int .i64 9)], [cells b2 [.int .i64 0, .int .i64 0, .slice none 0 0] 31], [slF (rSl rp_u64_u64) none 0 (([] : List (List (Int × Int))))], []⟩ [.agg #[.int .i64 0, .int .i64 0, .slice none 0 0], .int .i64 9] [] [cells b2 [.int .i64 0, .int .i64 0, .slice none 0 0] 31] (Imp.addF' _ (nilF (rSl rp_u64_u64)) (Imp.re _ [0] [0] (sc rfl (sc rfl sn)) (by decide) rfl rfl rfl)) rfl rfl ⟨rfl, rfl, rfl⟩ (.cons (resv_cell (k := 0) rfl rfl ty31 nofun rfl rfl) (.cons (resv_tmp rfl) .nil))))
    · refine Tr.cond_f rfl (bf_dec h6) ?_
      refine Tr.skip (qthen_n ?_)
      refine Tr.seq ?_
      refine Tr.region ?_
      refine TrL.v (v_move rfl rfl) rfl rfl (bl rfl) ?_
      refine TrL.v (v_build (vs := [.int .i64 p1]) (out := [.int .i64 p1, .int .i64 0, .slice none 0 0]) rfl pl31 ze31 rfl rfl) rfl rfl (bl rfl) ?_
      refine TrL.cons rfl (op_store' (k := 0) (c' := [.int .i64 p1, .int .i64 0, .slice none 0 0]) rfl rfl rfl rfl rfl ty31 rfl (Nat.le_of_ble_eq_true rfl) (ones (oc rfl (oc rfl (oc rfl on)))) rfl ?_)
      refine TrL.v (v_assign rfl rfl) rfl rfl (bl rfl) ?_
      refine TrL.nil (qthen_n ?_)
      have hz := Option.some.inj H
      subst hz
      refine Tr.ret (ret_r ⟨[(2, .pointer (some ⟨b2, 0, none⟩)), (3, .int .i64 0)], [cells b2 [.int .i64 p1, .int .i64 0, .slice none 0 0] 31], [slF (rSl rp_u64_u64) none 0 (([] : List (List (Int × Int))))], []⟩ [.agg #[.int .i64 p1, .int .i64 0, .slice none 0 0], .int .i64 0] [] [cells b2 [.int .i64 p1, .int .i64 0, .slice none 0 0] 31] (Imp.addF' _ (nilF (rSl rp_u64_u64)) (Imp.re _ [0] [0] (sc rfl (sc rfl sn)) (by decide) rfl rfl rfl)) rfl rfl ⟨rfl, rfl, rfl⟩ (.cons (resv_cell (k := 0) rfl rfl ty31 nofun rfl rfl) (.cons (resv_tmp rfl) .nil)))
end Go.Proofs.Ytbnjjpmlaknaoaa.W
