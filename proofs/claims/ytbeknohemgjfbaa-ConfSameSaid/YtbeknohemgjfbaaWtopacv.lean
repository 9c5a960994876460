import Derived.Test.YtbeknohemgjfbaaKcv
import Derived.Test.YtbeknohemgjfbaaQcv
import Derived.Test.YtbeknohemgjfbaaWbufferacv
import Derived.Test.YtbeknohemgjfbaaWringacv
namespace Go.Proofs.Ytbeknohemgjfbaa.W
open Go Go.Proofs Go.Proofs.Ytbeknohemgjfbaa.L Go.Proofs.Ytbeknohemgjfbaa.Pu
set_option linter.unusedVariables false
set_option maxHeartbeats 4000000

theorem c_top_New (p1 : Int × Int × Int × Int × Int × Int × (List (Int × Int)) × Int × Int) (A1 : Option Addr) (c1 : Nat) (r : Int × Int × Int × Int × Int × Int) (H : top_New p1 = some r) :
  Ctr Try.prog 101 [.agg #[.int .i64 p1.1, .int .i64 p1.2.1, .int .u64 p1.2.2.1, .int .u64 p1.2.2.2.1, .int .i64 p1.2.2.2.2.1, .int .i64 p1.2.2.2.2.2.1, .slice A1 p1.2.2.2.2.2.2.1.length c1, .int .i64 p1.2.2.2.2.2.2.2.1, .int .i64 p1.2.2.2.2.2.2.2.2]] [] [slF rp_u64_u64 A1 c1 p1.2.2.2.2.2.2.1] (fun ret M' F' => ret = .tuple #[.agg #[.int .u64 r.1, .int .i64 r.2.1, .int .u64 0, .int .u64 0, .slice none 0 0, .int .i64 r.2.2.1, .int .i64 r.2.2.2.1, .int .u64 r.2.2.2.2.1, .slice none 0 0], .int .i64 r.2.2.2.2.2] ∧ M' = [] ∧ F' = [slF rp_u64_u64_u64 none 0 (([] : List (Int × Int × Int))), slF rp_u64_i64_u64_LOu64_u64_C none 0 (([] : List (Int × Int × Int × List (Int × Int))))]) := by
 unfold top_New at H
 refine ctr_ofI (N := 36) Try.func101 rfl Try.ntmps101 rfl (Nat.le_of_ble_eq_true rfl) (fun γ0 w0 => ?_)
 refine Tr.seq ?_
 refine Tr.region ?_
 refine TrL.cons rfl (op_box' rfl (bl rfl) rfl rfl rfl (fun b5 => ?_))
 refine TrL.cons rfl (op_alloc' rfl (bl rfl) rfl ze171 (fun b6 => ?_))
 refine TrL.v (v_assign rfl rfl) rfl rfl (bl rfl) ?_
 refine TrL.nil (qthen_n ?_)
 refine Tr.seq ?_
 refine Tr.region ?_
 refine TrL.v (v_fieldAddr' rfl fo91_3 rfl rfl) rfl rfl (bl rfl) ?_
 refine TrL.v (v_load (k := 1) rfl rfl rfl ty28 (fun _ => rfl) rfl rfl) rfl rfl (bl rfl) ?_
 refine TrL.v (v_fieldAddr' rfl fo91_4 rfl rfl) rfl rfl (bl rfl) ?_
 refine TrL.v (v_load (k := 1) rfl rfl rfl ty3 (fun _ => rfl) rfl rfl) rfl rfl (bl rfl) ?_
 obtain ⟨r3, hr3, H⟩ := bnd H
 refine TrL.cons rfl (op_call0' (vs := [.int .u64 p1.2.2.2.1, .int .i64 p1.2.2.2.2.1]) (cap := []) [] rfl rfl (bl rfl) rfl rfl en82 (c_buffer_New p1.2.2.2.1 p1.2.2.2.2.1 r3 hr3) rfl (fun ret M' F' hR3 => ?_))
 obtain ⟨rfl, rfl, rfl⟩ := hR3
 refine TrL.v (v_move rfl rfl) rfl rfl (bl rfl) ?_
 refine TrL.v (v_extract rfl rfl rfl) rfl rfl (bl rfl) ?_
 refine TrL.v (v_extract rfl rfl rfl) rfl rfl (bl rfl) ?_
 refine TrL.cons rfl (op_alloc' rfl (bl rfl) rfl ze77 (fun b7 => ?_))
 refine TrL.cons rfl (op_store' (k := 0) (c' := [.int .u64 r3.1, .int .i64 r3.2.1, .int .u64 0, .int .u64 0, .slice none 0 0]) rfl rfl rfl rfl rfl ty77 rfl (Nat.le_of_ble_eq_true rfl) (ones (oc rfl (oc rfl (oc rfl (oc rfl (oc rfl on)))))) rfl ?_)
 refine TrL.v (v_assign rfl rfl) rfl rfl (bl rfl) ?_
 refine TrL.nil (qthen_n ?_)
 refine Tr.seq ?_
 refine Tr.seq ?_
 refine Tr.region ?_
 refine TrL.v (v_move rfl rfl) rfl rfl (bl rfl) ?_
 refine TrL.v (v_arith rfl rfl rfl ar_neq) rfl rfl (bl rfl) ?_
 refine TrL.nil (qthen_n ?_)
 rcases ifc H with ⟨h3, H⟩ | ⟨h3, H⟩
 ·refine Tr.cond_t rfl (bt_dec h3) ?_
  refine Tr.seq ?_
  refine Tr.region ?_
  refine TrL.v (v_build (vs := []) (out := [.int .u64 0, .int .i64 0, .int .u64 0, .int .u64 0, .slice none 0 0, .int .i64 0, .int .i64 0, .int .u64 0, .slice none 0 0]) rfl pl171 ze171 rfl rfl) rfl rfl (bl rfl) ?_
  refine TrL.v (v_move rfl rfl) rfl rfl (bl rfl) ?_
  refine TrL.cons rfl (op_store' (k := 1) (c' := [.int .u64 0, .int .i64 0, .int .u64 0, .int .u64 0, .slice none 0 0, .int .i64 0, .int .i64 0, .int .u64 0, .slice none 0 0]) rfl rfl rfl rfl rfl ty171 rfl (Nat.le_of_ble_eq_true rfl) (ones (oc rfl (oc rfl (oc rfl (oc rfl (oc rfl (oc rfl (oc rfl (oc rfl (oc rfl on)))))))))) rfl ?_)
  refine TrL.v (v_assign rfl rfl) rfl rfl (bl rfl) ?_
  refine TrL.nil (qthen_n ?_)
  have hz := Option.some.inj H
  subst hz
  refine Tr.ret (qthen_r (ret_r ⟨[(2, .pointer (some ⟨b6, 0, none⟩)), (3, .int .i64 r3.2.2)], [cells b6 [.int .u64 0, .int .i64 0, .int .u64 0, .int .u64 0, .slice none 0 0, .int .i64 0, .int .i64 0, .int .u64 0, .slice none 0 0] 171], [slF rp_u64_u64_u64 none 0 (([] : List (Int × Int × Int))), slF rp_u64_i64_u64_LOu64_u64_C none 0 (([] : List (Int × Int × Int × List (Int × Int))))], []⟩ [.agg #[.int .u64 0, .int .i64 0, .int .u64 0, .int .u64 0, .slice none 0 0, .int .i64 0, .int .i64 0, .int .u64 0, .slice none 0 0], .int .i64 r3.2.2] [] [cells b6 [.int .u64 0, .int .i64 0, .int .u64 0, .int .u64 0, .slice none 0 0, .int .i64 0, .int .i64 0, .int .u64 0, .slice none 0 0] 171] (Imp.addF' _ (nilF rp_u64_i64_u64_LOu64_u64_C) (Imp.re _ [1] [1, 2] (sc rfl (sc rfl sn)) (by decide) rfl rfl rfl)) rfl rfl ⟨rfl, rfl, rfl⟩ (.cons (resv_cell (k := 0) rfl rfl ty171 nofun rfl rfl) (.cons (resv_tmp rfl) .nil))))
 ·refine Tr.cond_f rfl (bf_dec h3) ?_
  refine Tr.skip (qthen_n ?_)
  refine Tr.seq ?_
  refine Tr.region ?_
  refine TrL.v (v_fieldAddr' rfl fo91_7 rfl rfl) rfl rfl (bl rfl) ?_
  refine TrL.v (v_load (k := 2) rfl rfl rfl ty3 (fun _ => rfl) rfl rfl) rfl rfl (bl rfl) ?_
  refine TrL.v (v_fieldAddr' rfl fo91_8 rfl rfl) rfl rfl (bl rfl) ?_
  refine TrL.v (v_load (k := 2) rfl rfl rfl ty3 (fun _ => rfl) rfl rfl) rfl rfl (bl rfl) ?_
  refine TrL.v (v_fieldAddr' rfl fo91_2 rfl rfl) rfl rfl (bl rfl) ?_
  refine TrL.v (v_load (k := 2) rfl rfl rfl ty28 (fun _ => rfl) rfl rfl) rfl rfl (bl rfl) ?_
  obtain ⟨r4, hr4, H⟩ := bnd H
  refine TrL.cons rfl (op_call0' (vs := [.int .i64 p1.2.2.2.2.2.2.2.1, .int .i64 p1.2.2.2.2.2.2.2.2, .int .u64 p1.2.2.1]) (cap := []) [] rfl rfl (bl rfl) rfl rfl en152 (c_ring_New p1.2.2.2.2.2.2.2.1 p1.2.2.2.2.2.2.2.2 p1.2.2.1 r4 hr4) rfl (fun ret M' F' hR4 => ?_))
  obtain ⟨rfl, rfl, rfl⟩ := hR4
  refine TrL.v (v_move rfl rfl) rfl rfl (bl rfl) ?_
  refine TrL.v (v_extract rfl rfl rfl) rfl rfl (bl rfl) ?_
  refine TrL.v (v_extract rfl rfl rfl) rfl rfl (bl rfl) ?_
  refine TrL.cons rfl (op_alloc' rfl (bl rfl) rfl ze169 (fun b8 => ?_))
  refine TrL.cons rfl (op_store' (k := 0) (c' := [.int .i64 r4.1, .int .i64 r4.2.1, .int .u64 r4.2.2.1, .slice none 0 0]) rfl rfl rfl rfl rfl ty169 rfl (Nat.le_of_ble_eq_true rfl) (ones (oc rfl (oc rfl (oc rfl (oc rfl on))))) rfl ?_)
  refine TrL.v (v_assign rfl rfl) rfl rfl (bl rfl) ?_
  refine TrL.nil (qthen_n ?_)
  refine Tr.seq ?_
  refine Tr.seq ?_
  refine Tr.region ?_
  refine TrL.v (v_move rfl rfl) rfl rfl (bl rfl) ?_
  refine TrL.v (v_arith rfl rfl rfl ar_neq) rfl rfl (bl rfl) ?_
  refine TrL.nil (qthen_n ?_)
  rcases ifc H with ⟨h4, H⟩ | ⟨h4, H⟩
  ·refine Tr.cond_t rfl (bt_dec h4) ?_
   refine Tr.seq ?_
   refine Tr.region ?_
   refine TrL.v (v_build (vs := []) (out := [.int .u64 0, .int .i64 0, .int .u64 0, .int .u64 0, .slice none 0 0, .int .i64 0, .int .i64 0, .int .u64 0, .slice none 0 0]) rfl pl171 ze171 rfl rfl) rfl rfl (bl rfl) ?_
   refine TrL.v (v_move rfl rfl) rfl rfl (bl rfl) ?_
   refine TrL.cons rfl (op_store' (k := 2) (c' := [.int .u64 0, .int .i64 0, .int .u64 0, .int .u64 0, .slice none 0 0, .int .i64 0, .int .i64 0, .int .u64 0, .slice none 0 0]) rfl rfl rfl rfl rfl ty171 rfl (Nat.le_of_ble_eq_true rfl) (ones (oc rfl (oc rfl (oc rfl (oc rfl (oc rfl (oc rfl (oc rfl (oc rfl (oc rfl on)))))))))) rfl ?_)
   refine TrL.v (v_assign rfl rfl) rfl rfl (bl rfl) ?_
   refine TrL.nil (qthen_n ?_)
   have hz := Option.some.inj H
   subst hz
   refine Tr.ret (qthen_r (ret_r ⟨[(2, .pointer (some ⟨b6, 0, none⟩)), (3, .int .i64 r4.2.2.2)], [cells b6 [.int .u64 0, .int .i64 0, .int .u64 0, .int .u64 0, .slice none 0 0, .int .i64 0, .int .i64 0, .int .u64 0, .slice none 0 0] 171], [slF rp_u64_u64_u64 none 0 (([] : List (Int × Int × Int))), slF rp_u64_i64_u64_LOu64_u64_C none 0 (([] : List (Int × Int × Int × List (Int × Int))))], []⟩ [.agg #[.int .u64 0, .int .i64 0, .int .u64 0, .int .u64 0, .slice none 0 0, .int .i64 0, .int .i64 0, .int .u64 0, .slice none 0 0], .int .i64 r4.2.2.2] [] [cells b6 [.int .u64 0, .int .i64 0, .int .u64 0, .int .u64 0, .slice none 0 0, .int .i64 0, .int .i64 0, .int .u64 0, .slice none 0 0] 171] (Imp.re _ [2] [1, 2] (sc rfl (sc rfl sn)) (by decide) rfl rfl rfl) rfl rfl ⟨rfl, rfl, rfl⟩ (.cons (resv_cell (k := 0) rfl rfl ty171 nofun rfl rfl) (.cons (resv_tmp rfl) .nil))))
  ·refine Tr.cond_f rfl (bf_dec h4) ?_
   refine Tr.skip (qthen_n ?_)
   refine Tr.seq ?_
   refine Tr.region ?_
   refine TrL.v (v_load (k := 1) rfl rfl rfl ty77 nofun rfl rfl) rfl rfl (bl rfl) ?_
   refine TrL.v (v_load (k := 0) rfl rfl rfl ty169 nofun rfl rfl) rfl rfl (bl rfl) ?_
   refine TrL.v (v_build (vs := [.agg #[.int .u64 r3.1, .int .i64 r3.2.1, .int .u64 0, .int .u64 0, .slice none 0 0], .agg #[.int .i64 r4.1, .int .i64 r4.2.1, .int .u64 r4.2.2.1, .slice none 0 0]]) (out := [.int .u64 r3.1, .int .i64 r3.2.1, .int .u64 0, .int .u64 0, .slice none 0 0, .int .i64 r4.1, .int .i64 r4.2.1, .int .u64 r4.2.2.1, .slice none 0 0]) rfl pl171 ze171 rfl rfl) rfl rfl (bl rfl) ?_
   refine TrL.cons rfl (op_store' (k := 2) (c' := [.int .u64 r3.1, .int .i64 r3.2.1, .int .u64 0, .int .u64 0, .slice none 0 0, .int .i64 r4.1, .int .i64 r4.2.1, .int .u64 r4.2.2.1, .slice none 0 0]) rfl rfl rfl rfl rfl ty171 rfl (Nat.le_of_ble_eq_true rfl) (ones (oc rfl (oc rfl (oc rfl (oc rfl (oc rfl (oc rfl (oc rfl (oc rfl (oc rfl on)))))))))) rfl ?_)
   refine TrL.v (v_assign rfl rfl) rfl rfl (bl rfl) ?_
   refine TrL.nil (qthen_n ?_)
   have hz := Option.some.inj H
   subst hz
   refine Tr.ret (ret_r ⟨[(2, .pointer (some ⟨b6, 0, none⟩)), (3, .int .i64 0)], [cells b6 [.int .u64 r3.1, .int .i64 r3.2.1, .int .u64 0, .int .u64 0, .slice none 0 0, .int .i64 r4.1, .int .i64 r4.2.1, .int .u64 r4.2.2.1, .slice none 0 0] 171], [slF rp_u64_u64_u64 none 0 (([] : List (Int × Int × Int))), slF rp_u64_i64_u64_LOu64_u64_C none 0 (([] : List (Int × Int × Int × List (Int × Int))))], []⟩ [.agg #[.int .u64 r3.1, .int .i64 r3.2.1, .int .u64 0, .int .u64 0, .slice none 0 0, .int .i64 r4.1, .int .i64 r4.2.1, .int .u64 r4.2.2.1, .slice none 0 0], .int .i64 0] [] [cells b6 [.int .u64 r3.1, .int .i64 r3.2.1, .int .u64 0, .int .u64 0, .slice none 0 0, .int .i64 r4.1, .int .i64 r4.2.1, .int .u64 r4.2.2.1, .slice none 0 0] 171] (Imp.re _ [2] [1, 2] (sc rfl (sc rfl sn)) (by decide) rfl rfl rfl) rfl rfl ⟨rfl, rfl, rfl⟩ (.cons (resv_cell (k := 0) rfl rfl ty171 nofun rfl rfl) (.cons (resv_tmp rfl) .nil)))
end Go.Proofs.Ytbeknohemgjfbaa.W
