import Derived.Test.YtbeknohemgjfbaaKcv
import Derived.Test.YtbeknohemgjfbaaQcv
import Derived.Test.YtbeknohemgjfbaaWref12ccv
import Derived.Test.YtbeknohemgjfbaaWref19acv
namespace Go.Proofs.Ytbeknohemgjfbaa.W
open Go Go.Proofs Go.Proofs.Ytbeknohemgjfbaa.L Go.Proofs.Ytbeknohemgjfbaa.Pu
set_option linter.unusedVariables false
set_option maxHeartbeats 4000000

theorem c_ref20_Conf (p1 : Int × Int × Int × Int × Int × Int × (List (Int × Int)) × Int × Int) (A1 : Option Addr) (c1 : Nat) (r : Bool) (H : ref20_Conf p1 = some r) :
  Ctr Try.prog 104 [.agg #[.int .i64 p1.1, .int .i64 p1.2.1, .int .u64 p1.2.2.1, .int .u64 p1.2.2.2.1, .int .i64 p1.2.2.2.2.1, .int .i64 p1.2.2.2.2.2.1, .slice A1 p1.2.2.2.2.2.2.1.length c1, .int .i64 p1.2.2.2.2.2.2.2.1, .int .i64 p1.2.2.2.2.2.2.2.2]] [] [slF rp_u64_u64 A1 c1 p1.2.2.2.2.2.2.1] (fun ret M' F' => ret = .bool r ∧ M' = [] ∧ F' = []) := by
 unfold ref20_Conf at H
 refine ctr_ofI (N := 17) Try.func104 rfl Try.ntmps104 rfl (Nat.le_of_ble_eq_true rfl) (fun γ0 w0 => ?_)
 refine Tr.seq ?_
 refine Tr.region ?_
 refine TrL.cons rfl (op_box' rfl (bl rfl) rfl rfl rfl (fun b2 => ?_))
 refine TrL.v (v_assign rfl rfl) rfl rfl (bl rfl) ?_
 refine TrL.nil (qthen_n ?_)
 refine Tr.seq ?_
 refine Tr.region ?_
 refine TrL.v (v_fieldAddr' rfl fo91_3 rfl rfl) rfl rfl (bl rfl) ?_
 refine TrL.v (v_load (k := 0) rfl rfl rfl ty28 (fun _ => rfl) rfl rfl) rfl rfl (bl rfl) ?_
 refine TrL.v (v_fieldAddr' rfl fo91_4 rfl rfl) rfl rfl (bl rfl) ?_
 refine TrL.v (v_load (k := 0) rfl rfl rfl ty3 (fun _ => rfl) rfl rfl) rfl rfl (bl rfl) ?_
 obtain ⟨r7, hr7, H⟩ := bnd H
 refine TrL.cons rfl (op_call0' (vs := [.int .u64 p1.2.2.2.1, .int .i64 p1.2.2.2.2.1]) (cap := []) [] rfl rfl (bl rfl) rfl rfl en153 (c_ref12_Conf p1.2.2.2.1 p1.2.2.2.2.1 r7 hr7) rfl (fun ret M' F' hR7 => ?_))
 obtain ⟨rfl, rfl, rfl⟩ := hR7
 refine TrL.v (v_move rfl rfl) rfl rfl (bl rfl) ?_
 rcases ifc H with ⟨h4, H⟩ | ⟨h4, H⟩
 ·refine TrL.cons_yes rfl rfl rfl h4 (OpTr.v (v_fieldAddr' rfl fo91_7 rfl rfl) rfl (bl rfl) ?_)
  refine TrL.cons_yes rfl rfl rfl h4 (OpTr.v (v_load (k := 0) rfl rfl rfl ty3 (fun _ => rfl) rfl rfl) rfl (bl rfl) ?_)
  refine TrL.cons_yes rfl rfl rfl h4 (OpTr.v (v_fieldAddr' rfl fo91_8 rfl rfl) rfl (bl rfl) ?_)
  refine TrL.cons_yes rfl rfl rfl h4 (OpTr.v (v_load (k := 0) rfl rfl rfl ty3 (fun _ => rfl) rfl rfl) rfl (bl rfl) ?_)
  refine TrL.cons_yes rfl rfl rfl h4 (OpTr.v (v_fieldAddr' rfl fo91_2 rfl rfl) rfl (bl rfl) ?_)
  refine TrL.cons_yes rfl rfl rfl h4 (OpTr.v (v_load (k := 0) rfl rfl rfl ty28 (fun _ => rfl) rfl rfl) rfl (bl rfl) ?_)
  obtain ⟨r8, hr8, H⟩ := bnd H
  refine TrL.cons_yes rfl rfl rfl h4 (op_call0' (vs := [.int .i64 p1.2.2.2.2.2.2.2.1, .int .i64 p1.2.2.2.2.2.2.2.2, .int .u64 p1.2.2.1]) (cap := []) [] rfl rfl (bl rfl) rfl rfl en155 (c_ref19_Conf p1.2.2.2.2.2.2.2.1 p1.2.2.2.2.2.2.2.2 p1.2.2.1 r8 hr8) rfl (fun ret M' F' hR8 => ?_))
  obtain ⟨rfl, rfl, rfl⟩ := hR8
  refine TrL.v (v_pick_t rfl rfl h4 rfl) rfl rfl (bl rfl) ?_
  refine TrL.v (v_assign rfl rfl) rfl rfl (bl rfl) ?_
  refine TrL.nil (qthen_n ?_)
  have hz := Option.some.inj H
  subst hz
  refine Tr.ret (ret_r ⟨[(2, .bool r8)], [], [], []⟩ [.bool r8] [] [] (Imp.re _ [] [] (sc rfl sn) (by decide) rfl rfl rfl) rfl rfl ⟨rfl, rfl, rfl⟩ (.cons (resv_tmp rfl) .nil))
 ·refine TrL.cons_no rfl rfl rfl (gn_t (bf_b h4)) rfl (bl rfl) ?_
  refine TrL.cons_no rfl rfl rfl (gn_t (bf_b h4)) rfl (bl rfl) ?_
  refine TrL.cons_no rfl rfl rfl (gn_t (bf_b h4)) rfl (bl rfl) ?_
  refine TrL.cons_no rfl rfl rfl (gn_t (bf_b h4)) rfl (bl rfl) ?_
  refine TrL.cons_no rfl rfl rfl (gn_t (bf_b h4)) rfl (bl rfl) ?_
  refine TrL.cons_no rfl rfl rfl (gn_t (bf_b h4)) rfl (bl rfl) ?_
  refine TrL.cons_no rfl rfl rfl (gn_t (bf_b h4)) rfl (bl rfl) ?_
  refine TrL.v (v_pick_f rfl rfl (bf_b h4) rfl) rfl rfl (bl rfl) ?_
  refine TrL.v (v_assign rfl rfl) rfl rfl (bl rfl) ?_
  refine TrL.nil (qthen_n ?_)
  have hz := Option.some.inj H
  subst hz
  refine Tr.ret (ret_r ⟨[(2, .bool false)], [], [], []⟩ [.bool false] [] [] (Imp.re _ [] [] (sc rfl sn) (by decide) rfl rfl rfl) rfl rfl ⟨rfl, rfl, rfl⟩ (.cons (resv_tmp rfl) .nil))

theorem c_ref20_Tame (p1 : Int × Int × Int × Int × Int × Int × (List (Int × Int)) × Int × Int) (A1 : Option Addr) (c1 : Nat) (r : Unit) (H : ref20_Tame p1 = some r) :
  Ctr Try.prog 113 [.agg #[.int .i64 p1.1, .int .i64 p1.2.1, .int .u64 p1.2.2.1, .int .u64 p1.2.2.2.1, .int .i64 p1.2.2.2.2.1, .int .i64 p1.2.2.2.2.2.1, .slice A1 p1.2.2.2.2.2.2.1.length c1, .int .i64 p1.2.2.2.2.2.2.2.1, .int .i64 p1.2.2.2.2.2.2.2.2]] [] [slF rp_u64_u64 A1 c1 p1.2.2.2.2.2.2.1] (fun ret M' F' => ret = .agg #[.int .i64 3, .int .i64 0, .int .u64 (wu64 ((wu64 (wi64 (1 + ((max p1.2.2.2.2.2.2.2.2 0).tmod 6)))) * (wu64 (1 + (p1.2.2.1.tmod 40))))), .int .u64 (p1.2.2.2.1.tmod 100), .int .i64 (wi64 (1 + ((max p1.2.2.2.2.1 0).tmod 7))), .int .i64 0, .slice none 0 0, .int .i64 (wi64 (1 + ((max p1.2.2.2.2.2.2.2.1 0).tmod 8))), .int .i64 (wi64 (1 + ((max p1.2.2.2.2.2.2.2.2 0).tmod 6)))] ∧ M' = [] ∧ F' = [slF rp_u64_u64 none 0 (([] : List (Int × Int)))]) := by
 unfold ref20_Tame at H
 refine ctr_ofI (N := 26) Try.func113 rfl Try.ntmps113 rfl (Nat.le_of_ble_eq_true rfl) (fun γ0 w0 => ?_)
 refine Tr.seq ?_
 refine Tr.region ?_
 refine TrL.cons rfl (op_box' rfl (bl rfl) rfl rfl rfl (fun b4 => ?_))
 refine TrL.cons rfl (op_alloc' rfl (bl rfl) rfl ze91 (fun b5 => ?_))
 refine TrL.nil (qthen_n ?_)
 refine Tr.seq ?_
 refine Tr.region ?_
 refine TrL.v (v_fieldAddr' rfl fo91_7 rfl rfl) rfl rfl (bl rfl) ?_
 refine TrL.v (v_load (k := 1) rfl rfl rfl ty3 (fun _ => rfl) rfl rfl) rfl rfl (bl rfl) ?_
 refine TrL.v (v_fieldAddr' rfl fo91_8 rfl rfl) rfl rfl (bl rfl) ?_
 refine TrL.v (v_load (k := 1) rfl rfl rfl ty3 (fun _ => rfl) rfl rfl) rfl rfl (bl rfl) ?_
 refine TrL.v (v_fieldAddr' rfl fo91_2 rfl rfl) rfl rfl (bl rfl) ?_
 refine TrL.v (v_load (k := 1) rfl rfl rfl ty28 (fun _ => rfl) rfl rfl) rfl rfl (bl rfl) ?_
 obtain ⟨r2, hr2, H⟩ := bnd H
 refine TrL.cons rfl (op_call0' (vs := [.int .i64 p1.2.2.2.2.2.2.2.1, .int .i64 p1.2.2.2.2.2.2.2.2, .int .u64 p1.2.2.1]) (cap := []) [] rfl rfl (bl rfl) rfl rfl en160 (c_ref19_Tame p1.2.2.2.2.2.2.2.1 p1.2.2.2.2.2.2.2.2 p1.2.2.1 r2 hr2) rfl (fun ret M' F' hR2 => ?_))
 obtain ⟨rfl, rfl, rfl⟩ := hR2
 refine TrL.cons rfl (op_alloc' rfl (bl rfl) rfl ze241 (fun b6 => ?_))
 refine TrL.cons rfl (op_store' (k := 0) (c' := [.int .i64 (wi64 (1 + ((max p1.2.2.2.2.2.2.2.1 0).tmod 8))), .int .i64 (wi64 (1 + ((max p1.2.2.2.2.2.2.2.2 0).tmod 6))), .int .u64 (wu64 ((wu64 (wi64 (1 + ((max p1.2.2.2.2.2.2.2.2 0).tmod 6)))) * (wu64 (1 + (p1.2.2.1.tmod 40))))), .slice none 0 0]) rfl rfl rfl rfl rfl ty241 rfl (Nat.le_of_ble_eq_true rfl) (ones (oc rfl (oc rfl (oc rfl (oc rfl on))))) rfl ?_)
 refine TrL.nil (qthen_n ?_)
 refine Tr.seq ?_
 refine Tr.region ?_
 refine TrL.v (v_fieldAddr' rfl fo241_2 rfl rfl) rfl rfl (bl rfl) ?_
 refine TrL.v (v_load (k := 0) rfl rfl rfl ty28 (fun _ => rfl) rfl rfl) rfl rfl (bl rfl) ?_
 refine TrL.v (v_fieldAddr' rfl fo91_3 rfl rfl) rfl rfl (bl rfl) ?_
 refine TrL.v (v_load (k := 2) rfl rfl rfl ty28 (fun _ => rfl) rfl rfl) rfl rfl (bl rfl) ?_
 refine TrL.v (v_rem rfl rfl rfl (by decide)) rfl rfl (bl rfl) ?_
 refine TrL.v (v_fieldAddr' rfl fo91_4 rfl rfl) rfl rfl (bl rfl) ?_
 refine TrL.v (v_load (k := 2) rfl rfl rfl ty3 (fun _ => rfl) rfl rfl) rfl rfl (bl rfl) ?_
 refine TrL.v (v_max rfl rfl rfl) rfl rfl (bl rfl) ?_
 refine TrL.v (v_rem rfl rfl rfl (by decide)) rfl rfl (bl rfl) ?_
 refine TrL.v (v_arith rfl rfl rfl ar_add_i64) rfl rfl (bl rfl) ?_
 refine TrL.v (v_fieldAddr' rfl fo241_0 rfl rfl) rfl rfl (bl rfl) ?_
 refine TrL.v (v_load (k := 0) rfl rfl rfl ty3 (fun _ => rfl) rfl rfl) rfl rfl (bl rfl) ?_
 refine TrL.v (v_fieldAddr' rfl fo241_1 rfl rfl) rfl rfl (bl rfl) ?_
 refine TrL.v (v_load (k := 0) rfl rfl rfl ty3 (fun _ => rfl) rfl rfl) rfl rfl (bl rfl) ?_
 refine TrL.v (v_build (vs := [.int .i64 3, .int .u64 (wu64 ((wu64 (wi64 (1 + ((max p1.2.2.2.2.2.2.2.2 0).tmod 6)))) * (wu64 (1 + (p1.2.2.1.tmod 40))))), .int .u64 (p1.2.2.2.1.tmod 100), .int .i64 (wi64 (1 + ((max p1.2.2.2.2.1 0).tmod 7))), .int .i64 (wi64 (1 + ((max p1.2.2.2.2.2.2.2.1 0).tmod 8))), .int .i64 (wi64 (1 + ((max p1.2.2.2.2.2.2.2.2 0).tmod 6)))]) (out := [.int .i64 3, .int .i64 0, .int .u64 (wu64 ((wu64 (wi64 (1 + ((max p1.2.2.2.2.2.2.2.2 0).tmod 6)))) * (wu64 (1 + (p1.2.2.1.tmod 40))))), .int .u64 (p1.2.2.2.1.tmod 100), .int .i64 (wi64 (1 + ((max p1.2.2.2.2.1 0).tmod 7))), .int .i64 0, .slice none 0 0, .int .i64 (wi64 (1 + ((max p1.2.2.2.2.2.2.2.1 0).tmod 8))), .int .i64 (wi64 (1 + ((max p1.2.2.2.2.2.2.2.2 0).tmod 6)))]) rfl pl91 ze91 rfl rfl) rfl rfl (bl rfl) ?_
 refine TrL.cons rfl (op_store' (k := 1) (c' := [.int .i64 3, .int .i64 0, .int .u64 (wu64 ((wu64 (wi64 (1 + ((max p1.2.2.2.2.2.2.2.2 0).tmod 6)))) * (wu64 (1 + (p1.2.2.1.tmod 40))))), .int .u64 (p1.2.2.2.1.tmod 100), .int .i64 (wi64 (1 + ((max p1.2.2.2.2.1 0).tmod 7))), .int .i64 0, .slice none 0 0, .int .i64 (wi64 (1 + ((max p1.2.2.2.2.2.2.2.1 0).tmod 8))), .int .i64 (wi64 (1 + ((max p1.2.2.2.2.2.2.2.2 0).tmod 6)))]) rfl rfl rfl rfl rfl ty91 rfl (Nat.le_of_ble_eq_true rfl) (ones (oc rfl (oc rfl (oc rfl (oc rfl (oc rfl (oc rfl (oc rfl (oc rfl (oc rfl on)))))))))) rfl ?_)
 refine TrL.nil (qthen_n ?_)
 have hz := Option.some.inj H
 subst hz
 refine Tr.ret (ret_r ⟨[(2, .pointer (some ⟨b5, 0, none⟩))], [cells b5 [.int .i64 3, .int .i64 0, .int .u64 (wu64 ((wu64 (wi64 (1 + ((max p1.2.2.2.2.2.2.2.2 0).tmod 6)))) * (wu64 (1 + (p1.2.2.1.tmod 40))))), .int .u64 (p1.2.2.2.1.tmod 100), .int .i64 (wi64 (1 + ((max p1.2.2.2.2.1 0).tmod 7))), .int .i64 0, .slice none 0 0, .int .i64 (wi64 (1 + ((max p1.2.2.2.2.2.2.2.1 0).tmod 8))), .int .i64 (wi64 (1 + ((max p1.2.2.2.2.2.2.2.2 0).tmod 6)))] 91], [slF rp_u64_u64 none 0 (([] : List (Int × Int)))], []⟩ [.agg #[.int .i64 3, .int .i64 0, .int .u64 (wu64 ((wu64 (wi64 (1 + ((max p1.2.2.2.2.2.2.2.2 0).tmod 6)))) * (wu64 (1 + (p1.2.2.1.tmod 40))))), .int .u64 (p1.2.2.2.1.tmod 100), .int .i64 (wi64 (1 + ((max p1.2.2.2.2.1 0).tmod 7))), .int .i64 0, .slice none 0 0, .int .i64 (wi64 (1 + ((max p1.2.2.2.2.2.2.2.1 0).tmod 8))), .int .i64 (wi64 (1 + ((max p1.2.2.2.2.2.2.2.2 0).tmod 6)))]] [] [cells b5 [.int .i64 3, .int .i64 0, .int .u64 (wu64 ((wu64 (wi64 (1 + ((max p1.2.2.2.2.2.2.2.2 0).tmod 6)))) * (wu64 (1 + (p1.2.2.1.tmod 40))))), .int .u64 (p1.2.2.2.1.tmod 100), .int .i64 (wi64 (1 + ((max p1.2.2.2.2.1 0).tmod 7))), .int .i64 0, .slice none 0 0, .int .i64 (wi64 (1 + ((max p1.2.2.2.2.2.2.2.1 0).tmod 8))), .int .i64 (wi64 (1 + ((max p1.2.2.2.2.2.2.2.2 0).tmod 6)))] 91] (Imp.addF' _ (nilF rp_u64_u64) (Imp.re _ [1] [2] (sc rfl sn) (by decide) rfl rfl rfl)) rfl rfl ⟨rfl, rfl, rfl⟩ (.cons (resv_cell (k := 0) rfl rfl ty91 nofun rfl rfl) .nil))
end Go.Proofs.Ytbeknohemgjfbaa.W
