/- The contracts of the walked functions: the printed walks. -/
import Derived.Test.YtbeknohemgjfbaaKc
import Derived.Test.YtbeknohemgjfbaaQc
import Derived.Test.YtbeknohemgjfbaaWcheckcc
import Derived.Test.YtbeknohemgjfbaaWcodecac
import Derived.Test.YtbeknohemgjfbaaWlevelac
import Derived.Test.YtbeknohemgjfbaaWslicesac
namespace Go.Proofs.Ytbeknohemgjfbaa.W
open Go Go.Proofs Go.Proofs.Ytbeknohemgjfbaa.L Go.Proofs.Ytbeknohemgjfbaa.Pu
set_option linter.unusedVariables false
set_option maxHeartbeats 4000000

theorem c_record_ticks (r : Unit) (H : record_ticks = some r) :
    Ctr Try.prog 66 [] [] [] (fun ret M' F' => ∃ m : Nat, ret = .func (.func 127) #[] #[.pointer (some ⟨m, 0, none⟩)] ∧ M' = [cells m [.int .u64 0] 28] ∧ F' = []) := by
  unfold record_ticks at H
  refine ctr_ofI (N := 3) Try.func66 rfl Try.ntmps66 rfl (Nat.le_of_ble_eq_true rfl) (fun γ0 w0 => ?_)
  refine Tr.seq ?_
  refine Tr.region ?_
  refine TrL.v (v_assign rfl rfl) rfl rfl (bl rfl) ?_
  refine TrL.nil (qthen_n ?_)
  refine Tr.seq ?_
  refine Tr.region ?_
  refine TrL.cons rfl (op_alloc' rfl (bl rfl) rfl ze28 (fun b2 => ?_))
  refine TrL.cons rfl (op_store' (k := 0) (c' := [.int .u64 0]) rfl rfl rfl rfl rfl ty28 rfl (Nat.le_of_ble_eq_true rfl) (ones (oc rfl on)) rfl ?_)
  refine TrL.nil (qthen_n ?_)
  refine Tr.seq ?_
  refine Tr.region ?_
  refine TrL.v (v_makeFunc (vs := [.pointer (some ⟨b2, 0, none⟩)]) rfl rfl) rfl rfl (bl rfl) ?_
  refine TrL.v (v_assign rfl rfl) rfl rfl (bl rfl) ?_
  refine TrL.nil (qthen_n ?_)
  have hz := Option.some.inj H
  subst hz
  refine Tr.ret (ret_r ⟨[(0, .func (.func 127) #[] #[.pointer (some ⟨b2, 0, none⟩)])], [cells b2 [.int .u64 0] 28], [], []⟩ [.func (.func 127) #[] #[.pointer (some ⟨b2, 0, none⟩)]] [cells b2 [.int .u64 0] 28] [] (Imp.re _ [0] [] (sc rfl sn) (by decide) rfl rfl rfl) rfl rfl ⟨b2, rfl, rfl, rfl⟩ (.cons (resv_tmp rfl) .nil))

theorem c_record_ticks_1 (p1 : Int) (p2 : Int) (b1 : Nat) (r : List Int) (H : record_ticks_1 p1 p2 = some r) :
    Ctr Try.prog 127 [.int .u64 p1, .pointer (some ⟨b1, 0, none⟩)] [cells b1 [.int .u64 p2] 28] [] (fun ret M' F' => ∃ m : Option Addr × Nat, ret = .slice m.1 r.length m.2 ∧ M' = [cells b1 [.int .u64 p1] 28] ∧ F' = [slF (rInt .u8) m.1 m.2 r]) := by
  unfold record_ticks_1 at H
  refine ctr_ofI (N := 11) Try.func127 rfl Try.ntmps127 rfl (Nat.le_of_ble_eq_true rfl) (fun γ0 w0 => ?_)
  refine Tr.seq ?_
  refine Tr.region ?_
  refine TrL.v (v_assign rfl rfl) rfl rfl (bl rfl) ?_
  refine TrL.nil (qthen_n ?_)
  refine Tr.seq ?_
  refine Tr.region ?_
  refine TrL.v (v_move rfl rfl) rfl rfl (bl rfl) ?_
  refine TrL.v (v_load (k := 0) rfl rfl rfl ty28 (fun _ => rfl) rfl rfl) rfl rfl (bl rfl) ?_
  refine TrL.v (v_arith rfl rfl rfl ar_sub_u64) rfl rfl (bl rfl) ?_
  refine TrL.v (v_assign rfl rfl) rfl rfl (bl rfl) ?_
  refine TrL.nil (qthen_n ?_)
  refine Tr.seq ?_
  refine Tr.region ?_
  refine TrL.v (v_move rfl rfl) rfl rfl (bl rfl) ?_
  refine TrL.cons rfl (op_store' (k := 0) (c' := [.int .u64 p1]) rfl rfl rfl rfl rfl ty28 rfl (Nat.le_of_ble_eq_true rfl) (ones (oc rfl on)) rfl ?_)
  refine TrL.nil (qthen_n ?_)
  refine Tr.seq ?_
  refine Tr.region ?_
  refine TrL.v (v_move rfl rfl) rfl rfl (bl rfl) ?_
  obtain ⟨r2, hr2, H⟩ := bnd H
  refine TrL.cons rfl (op_call0' (vs := [.int .u64 (wu64 (p1 - p2))]) (cap := []) [] rfl rfl (bl rfl) rfl rfl en65 (c_codec_Num (wu64 (p1 - p2)) r2 hr2) rfl (fun ret M' F' hR2 => ?_))
  obtain ⟨m2, rfl, rfl, rfl⟩ := hR2
  refine TrL.v (v_assign rfl rfl) rfl rfl (bl rfl) ?_
  refine TrL.nil (qthen_n ?_)
  have hz := Option.some.inj H
  subst hz
  refine Tr.ret (ret_r ⟨[(3, .slice m2.1 r2.length m2.2.1)], [cells b1 [.int .u64 p1] 28], [slF (rInt .u8) m2.1 m2.2.1 r2], []⟩ [.slice m2.1 r2.length m2.2.1] [cells b1 [.int .u64 p1] 28] [] (Imp.re _ [1] [0] (sc rfl sn) (by decide) rfl rfl rfl) rfl rfl ⟨((m2.1, m2.2.1)), rfl, rfl, rfl⟩ (.cons (resv_tmp rfl) .nil))

theorem c_record_Put (p1 : Int × Int × List (List (Int × Int))) (A1 : Option Addr) (c1 : Nat) (r : List Int) (H : record_Put p1 = some r) :
    Ctr Try.prog 22 [.agg #[.int .i64 p1.1, .int .i64 p1.2.1, .slice A1 p1.2.2.length c1]] [] [slF (rSl rp_u64_u64) A1 c1 p1.2.2] (fun ret M' F' => ∃ m : Option Addr × Nat, ret = .slice m.1 r.length m.2 ∧ M' = [] ∧ F' = [slF (rInt .u8) m.1 m.2 r]) := by
  unfold record_Put at H
  refine ctr_ofI (N := 69) Try.func22 rfl Try.ntmps22 rfl (Nat.le_of_ble_eq_true rfl) (fun γ0 w0 => ?_)
  refine Tr.seq ?_
  refine Tr.region ?_
  refine TrL.cons rfl (op_box' rfl (bl rfl) rfl rfl rfl (fun b11 => ?_))
  refine TrL.v (v_assign rfl rfl) rfl rfl (bl rfl) ?_
  refine TrL.nil (qthen_n ?_)
  refine Tr.seq ?_
  refine Tr.seq ?_
  refine Tr.region ?_
  refine TrL.v (v_load (k := 0) rfl rfl rfl ty35 nofun rfl rfl) rfl rfl (bl rfl) ?_
  obtain ⟨r32, hr32, H⟩ := bnd H
  refine TrL.cons rfl (op_call0' (vs := [.agg #[.int .i64 p1.1, .int .i64 p1.2.1, .slice A1 p1.2.2.length c1]]) (cap := []) [0] rfl rfl (bl rfl) rfl rfl en18 (c_check_Hist p1 A1 c1 r32 hr32) rfl (fun ret M' F' hR32 => ?_))
  obtain ⟨rfl, rfl, rfl⟩ := hR32
  refine TrL.v (v_arith rfl rfl rfl ar_neq) rfl rfl (bl rfl) ?_
  refine TrL.nil (qthen_n ?_)
  rcases ifc H with ⟨h35, H⟩ | ⟨h35, H⟩
  · refine Tr.cond_t rfl (bt_dec h35) ?_
    refine Tr.seq ?_
    refine Tr.region ?_
    refine TrL.v (v_assign rfl rfl) rfl rfl (bl rfl) ?_
    refine TrL.nil (qthen_n ?_)
    have hz := Option.some.inj H
    subst hz
    refine Tr.ret (qthen_r (ret_r ⟨[(2, .slice none 0 0)], [], [slF (rInt .u8) none 0 (([] : List Int))], []⟩ [.slice none 0 0] [] [] (Imp.addF' _ (nilF (rInt .u8)) (Imp.re _ [] [1] (sc rfl sn) (by decide) rfl rfl rfl)) rfl rfl ⟨((none, 0)), rfl, rfl, rfl⟩ (.cons (resv_tmp rfl) .nil)))
  · refine Tr.cond_f rfl (bf_dec h35) ?_
    refine Tr.skip (qthen_n ?_)
    refine Tr.seq ?_
    refine Tr.region ?_
    refine TrL.v (v_fieldAddr' rfl fo35_2 rfl rfl) rfl rfl (bl rfl) ?_
    refine TrL.v (v_load (k := 0) rfl rfl rfl ty24 (fun _ => rfl) rfl rfl) rfl rfl (bl rfl) ?_
    refine TrL.v (v_len rfl sl24 rfl) rfl rfl (bl rfl) ?_
    refine TrL.v (v_assign rfl rfl) rfl rfl (bl rfl) ?_
    refine TrL.nil (qthen_n ?_)
    refine Tr.seq ?_
    refine Tr.regionD drawn (fun hok => ?_)
    refine TrAny.prom (i := 0) (d := 16) hok (OpVal.plain rfl rfl (v_fieldAddr' rfl fo35_0 rfl rfl)) (by kernel_rfl) rfl (bl rfl) ?_
    clear hok
    intro hok
    refine TrAny.prom (i := 1) (d := 17) hok (OpVal.plain rfl rfl (v_load (k := 0) rfl rfl rfl ty3 (fun _ => rfl) rfl rfl)) (by kernel_rfl) rfl (bl rfl) ?_
    clear hok
    intro hok
    refine TrAny.prom (i := 2) (d := 18) hok (OpVal.plain rfl rfl (v_conv' rfl ⟨_, Try.underlying3⟩ Try.underlying28 rfl wrap_u64')) (by kernel_rfl) rfl (bl rfl) ?_
    clear hok
    intro hok
    refine TrAny.prom (i := 4) (d := 20) hok (OpVal.plain rfl rfl (v_fieldAddr' rfl fo35_1 rfl rfl)) (by kernel_rfl) rfl (bl rfl) ?_
    clear hok
    intro hok
    refine TrAny.prom (i := 5) (d := 21) hok (OpVal.plain rfl rfl (v_load (k := 0) rfl rfl rfl ty3 (fun _ => rfl) rfl rfl)) (by kernel_rfl) rfl (bl rfl) ?_
    clear hok
    intro hok
    refine TrAny.prom (i := 6) (d := 22) hok (OpVal.plain rfl rfl (v_conv' rfl ⟨_, Try.underlying3⟩ Try.underlying28 rfl wrap_u64')) (by kernel_rfl) rfl (bl rfl) ?_
    clear hok
    intro hok
    refine TrAny.prom (i := 8) (d := 24) hok (OpVal.plain rfl rfl (v_move rfl rfl)) (by kernel_rfl) rfl (bl rfl) ?_
    clear hok
    intro hok
    refine TrAny.prom (i := 9) (d := 25) hok (OpVal.plain rfl rfl (v_conv' rfl ⟨_, Try.underlying3⟩ Try.underlying28 rfl wrap_u64')) (by kernel_rfl) rfl (bl rfl) ?_
    clear hok
    intro hok
    obtain ⟨r37, hr37, H⟩ := bnd H
    refine TrAny.next (j := 3) (by kernel_rfl) hok rfl (by kernel_rfl) (op_call0' (vs := [.int .u64 (wu64 p1.1)]) (cap := []) [] rfl rfl (bl rfl) rfl rfl en65 (c_codec_Num (wu64 p1.1) r37 hr37) rfl (fun ret M' F' hR37 => ?_))
    obtain ⟨m53, rfl, rfl, rfl⟩ := hR37
    refine nxp hok (kp_imp (kp_c0 rfl)) rfl (by kernel_rfl) ?_
    clear hok
    intro hok
    obtain ⟨r38, hr38, H⟩ := bnd H
    refine TrAny.next (j := 7) (by kernel_rfl) hok rfl (by kernel_rfl) (op_call0' (vs := [.int .u64 (wu64 p1.2.1)]) (cap := []) [] rfl rfl (bl rfl) rfl rfl en65 (c_codec_Num (wu64 p1.2.1) r38 hr38) rfl (fun ret M' F' hR38 => ?_))
    obtain ⟨m54, rfl, rfl, rfl⟩ := hR38
    refine nxp hok (kp_imp (kp_c0 rfl)) rfl (by kernel_rfl) ?_
    clear hok
    intro hok
    obtain ⟨r39, hr39, H⟩ := bnd H
    refine TrAny.next (j := 10) (by kernel_rfl) hok rfl (by kernel_rfl) (op_call0' (vs := [.int .u64 (wu64 ((p1.2.2.length : Int)))]) (cap := []) [] rfl rfl (bl rfl) rfl rfl en65 (c_codec_Num (wu64 ((p1.2.2.length : Int))) r39 hr39) rfl (fun ret M' F' hR39 => ?_))
    obtain ⟨m55, rfl, rfl, rfl⟩ := hR39
    refine nxp hok (kp_imp (kp_c0 rfl)) rfl (by kernel_rfl) ?_
    clear hok
    intro hok
    refine TrAny.next (j := 11) (by kernel_rfl) hok rfl (by kernel_rfl) (op_buildSlice' (rp := (rSl (rInt .u8))) (xs := [r37, r38, r39]) (vs := [.slice m53.1 r37.length m53.2.1, .slice m54.1 r38.length m54.2.1, .slice m55.1 r39.length m55.2.1]) (out := [.slice m53.1 r37.length m53.2.1, .slice m54.1 r38.length m54.2.1, .slice m55.1 r39.length m55.2.1]) rfl (bl rfl) rfl sl202 ty40 ze40 rfl rfl (by decide) (by decide) rfl (fun γ w hF => (rowc ⟨_, _, rfl, hF _ (List.mem_of_getElem? (i := 1) rfl)⟩ (rowc ⟨_, _, rfl, hF _ (List.mem_of_getElem? (i := 2) rfl)⟩ (rowc ⟨_, _, rfl, hF _ (List.mem_of_getElem? (i := 3) rfl)⟩ rown rfl) rfl) rfl)) (fun A29 => ?_))
    refine nxp hok (kp_imp (kp_cf rfl)) rfl (by kernel_rfl) ?_
    clear hok
    intro hok
    obtain ⟨r40, hr40, H⟩ := bnd H
    refine TrAny.next (j := 12) (by kernel_rfl) hok rfl (by kernel_rfl) (op_call0' (vs := [.slice A29 3 3]) (cap := []) [4] rfl rfl (bl rfl) rfl rfl en64 (c_slices_Concat_byte ([r37, r38, r39]) A29 3 r40 hr40) rfl (fun ret M' F' hR40 => ?_))
    obtain ⟨m56, rfl, rfl, rfl⟩ := hR40
    refine nxp hok (kp_imp (kp_c0 rfl)) rfl (by kernel_rfl) ?_
    clear hok
    intro hok
    refine TrAny.prom (i := 13) (d := 4) hok (OpVal.plain rfl rfl (v_assign rfl rfl)) (by kernel_rfl) rfl (bl rfl) ?_
    clear hok
    intro hok
    refine TrAny.done (by kernel_rfl) (by kernel_rfl) hok (by kernel_rfl) (qthen_n ?_)
    refine Tr.seq ?_
    refine Tr.region ?_
    obtain ⟨r41, hr41, H⟩ := bnd H
    refine TrL.cons rfl (op_call0' (vs := []) (cap := []) [] rfl rfl (bl rfl) rfl rfl en66 (c_record_ticks r41 hr41) rfl (fun ret M' F' hR41 => ?_))
    obtain ⟨m57, rfl, rfl, rfl⟩ := hR41
    refine TrL.v (v_assign rfl rfl) rfl rfl (bl rfl) ?_
    refine TrL.nil (qthen_n ?_)
    refine Tr.seq ?_
    refine Tr.seq ?_
    refine Tr.region ?_
    refine TrL.v (v_move rfl rfl) rfl rfl (bl rfl) ?_
    refine TrL.v (v_move rfl rfl) rfl rfl (bl rfl) ?_
    refine TrL.nil (qthen_n ?_)
    obtain ⟨x7, hx13, H⟩ := bnd H
    refine Tr.cutE (D := List Int) (M := Option Addr × Nat × Option Nat) .normal (fun _d => x7 = _d) (fun x7 m83 => ⟨[(4, .slice m83.1 x7.length m83.2.1)], [grow 5 1 (.slice m83.1 x7.length m83.2.1) x7.length m83.2.2], [slF (rInt .u8) m83.1 m83.2.1 x7], []⟩) ?_ (fun x7 m83 hd8 => ?_)
    · refine Tr.block (Tr.loopI (ι := Option Addr × Nat × Option Nat) (step := record_Put_s0 p1) (fun s17 m70 => ⟨[(1, .pointer (some ⟨b11, 0, none⟩)), (3, .int .i64 ((p1.2.2.length : Int))), (4, .slice m70.1 s17.1.length m70.2.1), (5, .func (.func 127) #[] #[.pointer (some ⟨m57, 0, none⟩)]), (30, .int .i64 ((p1.2.2.length : Int))), (31, .int .i64 s17.2.1)], [cells b11 [.int .i64 p1.1, .int .i64 p1.2.1, .slice A1 p1.2.2.length c1] 35, cells m57 [.int .u64 s17.2.2] 28, grow 5 1 (.slice m70.1 s17.1.length m70.2.1) s17.1.length m70.2.2], [slF (rInt .u8) m70.1 m70.2.1 s17.1, slF (rSl rp_u64_u64) A1 c1 p1.2.2], []⟩) ((m56.1, m56.2.1, m56.2.2)) hx13 (Imp.re _ [5, 0, 1] [5, 0] (sc rfl (sc rfl (sc rfl (sc rfl (sc rfl (sc rfl sn)))))) (by decide) rfl rfl rfl) (fun s17 m70 y7 hy7 hx14 => ?_))
      unfold record_Put_s0 at hy7
      refine Tr.seq ?_
      refine Tr.region ?_
      refine TrL.v (v_arith rfl rfl rfl ar_lss) rfl rfl (bl rfl) ?_
      refine TrL.nil (qthen_n ?_)
      refine Tr.seq ?_
      rcases ifc hy7 with ⟨h58, hy7⟩ | ⟨h58, hy7⟩
      · refine Tr.cond_t rfl (bt_dec h58) ?_
        refine Tr.skip (qthen_n ?_)
        refine Tr.seq ?_
        refine Tr.block ?_
        refine Tr.seq ?_
        refine Tr.region ?_
        refine TrL.v (v_move rfl rfl) rfl rfl (bl rfl) ?_
        refine TrL.v (v_assign rfl rfl) rfl rfl (bl rfl) ?_
        refine TrL.nil (qthen_n ?_)
        refine Tr.seq ?_
        refine Tr.region ?_
        refine TrL.v (v_fieldAddr' rfl fo35_2 rfl rfl) rfl rfl (bl rfl) ?_
        refine TrL.v (v_load (k := 0) rfl rfl rfl ty24 (fun _ => rfl) rfl rfl) rfl rfl (bl rfl) ?_
        refine TrL.v (v_move rfl rfl) rfl rfl (bl rfl) ?_
        refine TrL.v (v_arith rfl rfl rfl ar_sub_i64) rfl rfl (bl rfl) ?_
        refine TrL.v (v_move rfl rfl) rfl rfl (bl rfl) ?_
        refine TrL.v (v_arith rfl rfl rfl ar_sub_i64) rfl rfl (bl rfl) ?_
        obtain ⟨z21, hz21, hy7⟩ := bnd hy7
        refine TrL.v (v_indexAddr (k := 1) rfl sl24 ty31 rfl rfl rfl rfl hz21) rfl rfl (bl rfl) ?_
        refine TrL.openS' (k := 1) rfl hz21 (fun A46 c42 => ?_)
        refine TrL.v (v_loadF (k := 3) rfl ty31 rfl rfl) rfl rfl (bl rfl) ?_
        refine TrL.v (v_assign rfl rfl) rfl rfl (bl rfl) ?_
        refine TrL.nil (qthen_n ?_)
        refine Tr.seq ?_
        refine Tr.region ?_
        refine TrL.v (v_move rfl rfl) rfl rfl (bl rfl) ?_
        refine TrL.v (v_move rfl rfl) rfl rfl (bl rfl) ?_
        refine TrL.v (v_len rfl sl31 rfl) rfl rfl (bl rfl) ?_
        refine TrL.v (v_conv' rfl ⟨_, Try.underlying3⟩ Try.underlying28 rfl wrap_u64') rfl rfl (bl rfl) ?_
        obtain ⟨r56, hr56, hy7⟩ := bnd hy7
        refine TrL.cons rfl (op_call0' (vs := [.int .u64 (wu64 ((z21.length : Int)))]) (cap := []) [] rfl rfl (bl rfl) rfl rfl en65 (c_codec_Num (wu64 ((z21.length : Int))) r56 hr56) rfl (fun ret M' F' hR56 => ?_))
        obtain ⟨m84, rfl, rfl, rfl⟩ := hR56
        obtain ⟨h59, hy7⟩ := rom hy7
        refine TrL.cons rfl (op_append' (rp := (rInt .u8)) (xs := s17.1) (ys := r56) (k := 3) (kx := 0) (ky := 4) rfl (bl rfl) rfl sl40 ty5 ze5 rfl by5 rfl rfl rfl rfl rfl rfl rfl h59.1 h59.2 (fun A47 c43 o36 => ?_))
        refine TrL.v (v_assign rfl rfl) rfl rfl (bl rfl) ?_
        refine TrL.nil (qthen_n ?_)
        refine Tr.seq ?_
        refine Tr.region ?_
        refine TrL.v (v_move rfl rfl) rfl rfl (bl rfl) ?_
        refine TrL.v (v_len rfl sl31 rfl) rfl rfl (bl rfl) ?_
        refine TrL.v (v_move rfl rfl) rfl rfl (bl rfl) ?_
        refine TrL.nil (qthen_n ?_)
        obtain ⟨x8, hx15, hy7⟩ := bnd hy7
        refine Tr.cutE (D := List Int × Int) (M := Option Addr × Nat × Option Nat) .normal (fun _d => x8 = _d) (fun x8 m92 => ⟨[(1, .pointer (some ⟨b11, 0, none⟩)), (3, .int .i64 ((p1.2.2.length : Int))), (4, .slice m92.1 x8.1.length m92.2.1), (5, .func (.func 127) #[] #[.pointer (some ⟨m57, 0, none⟩)]), (30, .int .i64 ((p1.2.2.length : Int))), (31, .int .i64 s17.2.1)], [cells b11 [.int .i64 p1.1, .int .i64 p1.2.1, .slice A1 p1.2.2.length c1] 35, cells m57 [.int .u64 x8.2] 28, grow 5 1 (.slice m92.1 x8.1.length m92.2.1) x8.1.length m92.2.2], [slF (rInt .u8) m92.1 m92.2.1 x8.1, slF (rSl rp_u64_u64) A1 c1 p1.2.2], []⟩) ?_ (fun x8 m92 hd7 => ?_)
        · refine Tr.block (Tr.loopI (ι := Option Addr × Nat × Option Nat) (step := record_Put_s1 z21) (fun s23 m88 => ⟨[(1, .pointer (some ⟨b11, 0, none⟩)), (3, .int .i64 ((p1.2.2.length : Int))), (4, .slice m88.1 s23.1.length m88.2.1), (5, .func (.func 127) #[] #[.pointer (some ⟨m57, 0, none⟩)]), (30, .int .i64 ((p1.2.2.length : Int))), (31, .int .i64 s17.2.1), (48, .slice A46 z21.length c42), (49, .int .i64 ((z21.length : Int))), (50, .int .i64 s23.2.1)], [cells b11 [.int .i64 p1.1, .int .i64 p1.2.1, .slice A1 p1.2.2.length c1] 35, cells m57 [.int .u64 s23.2.2] 28, grow 5 1 (.slice m88.1 s23.1.length m88.2.1) s23.1.length m88.2.2], [slF (rInt .u8) m88.1 m88.2.1 s23.1, slF rp_u64_u64 A46 c42 z21, slF (rSl rp_u64_u64) A1 c1 p1.2.2], []⟩) ((A47, c43, o36)) hx15 (Imp.re _ [1, 2, 3] [5, 2, 1] (sc rfl (sc rfl (sc rfl (sc rfl (sc rfl (sc rfl (sc rfl (sc rfl (sc rfl sn))))))))) (by decide) rfl rfl rfl) (fun s23 m88 y8 hy8 hx16 => ?_))
          unfold record_Put_s1 at hy8
          refine Tr.seq ?_
          refine Tr.region ?_
          refine TrL.v (v_arith rfl rfl rfl ar_lss) rfl rfl (bl rfl) ?_
          refine TrL.nil (qthen_n ?_)
          refine Tr.seq ?_
          rcases ifc hy8 with ⟨h66, hy8⟩ | ⟨h66, hy8⟩
          · refine Tr.cond_t rfl (bt_dec h66) ?_
            refine Tr.skip (qthen_n ?_)
            refine Tr.seq ?_
            refine Tr.block ?_
            refine Tr.seq ?_
            refine Tr.region ?_
            obtain ⟨z24, hz24, hy8⟩ := bnd hy8
            refine TrL.v (v_indexAddr (k := 1) rfl sl31 ty30 rfl rfl rfl rfl hz24) rfl rfl (bl rfl) ?_
            refine TrL.v (v_loadg (A := A46) (i := s23.2.1) (j := 0) (k := 1) rfl ty30 nofun rfl rfl hz24 rfl rfl) rfl rfl (bl rfl) ?_
            refine TrL.cons rfl (op_alloc' rfl (bl rfl) rfl ze30 (fun b20 => ?_))
            refine TrL.cons rfl (op_store' (k := 0) (c' := [.int .u64 z24.1, .int .u64 z24.2]) rfl rfl rfl rfl rfl ty30 rfl (Nat.le_of_ble_eq_true rfl) (ones (oc rfl (oc rfl on))) rfl ?_)
            refine TrL.nil (qthen_n ?_)
            refine Tr.seq ?_
            refine Tr.region ?_
            refine TrL.v (v_move rfl rfl) rfl rfl (bl rfl) ?_
            refine TrL.v (v_move rfl rfl) rfl rfl (bl rfl) ?_
            refine TrL.v (v_fieldAddr' rfl fo30_0 rfl rfl) rfl rfl (bl rfl) ?_
            refine TrL.v (v_load (k := 0) rfl rfl rfl ty28 (fun _ => rfl) rfl rfl) rfl rfl (bl rfl) ?_
            obtain ⟨r61, hr61, hy8⟩ := bnd hy8
            refine TrL.cons rfl (op_callg' (fs := []) (vs := [.int .u64 z24.1]) (cap := [.pointer (some ⟨m57, 0, none⟩)]) (Mr := [cells b20 [.int .u64 z24.1, .int .u64 z24.2] 30, cells b11 [.int .i64 p1.1, .int .i64 p1.2.1, .slice A1 p1.2.2.length c1] 35, grow 5 1 (.slice m88.1 s23.1.length m88.2.1) s23.1.length m88.2.2]) [2] [0, 1, 3] [] rfl rfl rfl en127 (c_record_ticks_1 z24.1 s23.2.2 m57 r61 hr61) (by decide) rfl rfl rfl (bl rfl) (fun ret M' F' hR61 => ?_))
            obtain ⟨m93, rfl, rfl, rfl⟩ := hR61
            obtain ⟨h67, hy8⟩ := rom hy8
            refine TrL.cons rfl (op_append' (rp := (rInt .u8)) (xs := s23.1) (ys := r61) (k := 3) (kx := 0) (ky := 3) rfl (bl rfl) rfl sl40 ty5 ze5 rfl by5 rfl rfl rfl rfl rfl rfl rfl h67.1 h67.2 (fun A52 c48 o41 => ?_))
            refine TrL.v (v_assign rfl rfl) rfl rfl (bl rfl) ?_
            refine TrL.nil (qthen_n ?_)
            refine Tr.region ?_
            refine TrL.v (v_move rfl rfl) rfl rfl (bl rfl) ?_
            refine TrL.v (v_move rfl rfl) rfl rfl (bl rfl) ?_
            refine TrL.v (v_fieldAddr' rfl fo30_1 rfl rfl) rfl rfl (bl rfl) ?_
            refine TrL.v (v_load (k := 1) rfl rfl rfl ty28 (fun _ => rfl) rfl rfl) rfl rfl (bl rfl) ?_
            obtain ⟨r62, hr62, hy8⟩ := bnd hy8
            refine TrL.cons rfl (op_callg' (fs := []) (vs := [.int .u64 z24.2]) (cap := [.pointer (some ⟨m57, 0, none⟩)]) (Mr := [cells b20 [.int .u64 z24.1, .int .u64 z24.2] 30, cells b11 [.int .i64 p1.1, .int .i64 p1.2.1, .slice A1 p1.2.2.length c1] 35, grow 5 1 (.slice A52 ((s23.1 ++ r61).length) c48) ((s23.1 ++ r61).length) o41]) [0] [1, 2, 3] [] rfl rfl rfl en127 (c_record_ticks_1 z24.2 z24.1 m57 r62 hr62) (by decide) rfl rfl rfl (bl rfl) (fun ret M' F' hR62 => ?_))
            obtain ⟨m94, rfl, rfl, rfl⟩ := hR62
            obtain ⟨h68, hy8⟩ := rom hy8
            refine TrL.cons rfl (op_append' (rp := (rInt .u8)) (xs := s23.1 ++ r61) (ys := r62) (k := 3) (kx := 4) (ky := 5) rfl (bl rfl) rfl sl40 ty5 ze5 rfl by5 rfl rfl rfl rfl rfl rfl rfl h68.1 h68.2 (fun A53 c49 o42 => ?_))
            refine TrL.v (v_assign rfl rfl) rfl rfl (bl rfl) ?_
            refine TrL.nil (qblock_n (qthen_n ?_))
            refine Tr.region ?_
            refine TrL.v (v_arith rfl rfl rfl ar_add_i64) rfl rfl (bl rfl) ?_
            refine TrL.v (v_move rfl rfl) rfl rfl (bl rfl) ?_
            have hz := Option.some.inj hy8
            subst hz
            refine TrL.nil (qloop_n ((A53, c49, o42)) (Imp.re _ [2, 0, 3] [6, 1, 2] (sc rfl (sc rfl (sc rfl (sc rfl (sc rfl (sc rfl (sc rfl (sc rfl (sc rfl sn))))))))) (by decide) rfl rfl rfl))
          · refine Tr.cond_f rfl (bf_dec h66) ?_
            have hz := Option.some.inj hy8
            subst hz
            refine Tr.exit (qthen_x (qloop_x (qblock_hit (qcut_hit ((s23.1, s23.2.2)) ((m88.1, m88.2.1, m88.2.2)) (hx16 _ rfl).symm (Imp.re _ [0, 1, 2] [0, 2] (sc rfl (sc rfl (sc rfl (sc rfl (sc rfl (sc rfl sn)))))) (by decide) rfl rfl rfl)))))
        · subst hd7
          refine (qblock_n (qthen_n ?_))
          refine Tr.region ?_
          refine TrL.v (v_arith rfl rfl rfl ar_add_i64) rfl rfl (bl rfl) ?_
          refine TrL.v (v_move rfl rfl) rfl rfl (bl rfl) ?_
          have hz := Option.some.inj hy7
          subst hz
          refine TrL.nil (qloop_n ((m92.1, m92.2.1, m92.2.2)) (Imp.re _ [0, 1, 2] [0, 1] (sc rfl (sc rfl (sc rfl (sc rfl (sc rfl (sc rfl sn)))))) (by decide) rfl rfl rfl))
      · refine Tr.cond_f rfl (bf_dec h58) ?_
        have hz := Option.some.inj hy7
        subst hz
        refine Tr.exit (qthen_x (qloop_x (qblock_hit (qcut_hit s17.1 ((m70.1, m70.2.1, m70.2.2)) (hx14 _ rfl).symm (Imp.re _ [2] [0] (sc rfl sn) (by decide) rfl rfl rfl)))))
    · subst hd8
      refine (qthen_n ?_)
      refine Tr.seq ?_
      refine Tr.region ?_
      refine TrL.v (v_move rfl rfl) rfl rfl (bl rfl) ?_
      refine TrL.v (v_assign rfl rfl) rfl rfl (bl rfl) ?_
      refine TrL.nil (qthen_n ?_)
      have hz := Option.some.inj H
      subst hz
      refine Tr.ret (ret_r ⟨[(2, .slice m83.1 x7.length m83.2.1)], [], [slF (rInt .u8) m83.1 m83.2.1 x7], []⟩ [.slice m83.1 x7.length m83.2.1] [] [] (Imp.re _ [] [0] (sc rfl sn) (by decide) rfl rfl rfl) rfl rfl ⟨((m83.1, m83.2.1)), rfl, rfl, rfl⟩ (.cons (resv_tmp rfl) .nil))

theorem c_record_clock_next (p1 : List Int × Int × Int) (b1 : Nat) (b2 : Nat) (A1 : Option Addr) (c1 : Nat) (r : Int × List Int × Int) (H : record_clock_next p1 = some r) :
    Ctr Try.prog 131 [.pointer (some ⟨b1, 0, none⟩)] [cells b2 [.slice A1 p1.1.length c1, .int .i64 p1.2.1] 116, cells b1 [.pointer (some ⟨b2, 0, none⟩), .int .u64 p1.2.2] 120] [slF (rInt .u8) A1 c1 p1.1] (fun ret M' F' => ∃ m : Option Addr × Nat, ret = .int .u64 r.1 ∧ M' = [cells b2 [.slice m.1 r.2.1.length m.2, .int .i64 r.2.2] 116, cells b1 [.pointer (some ⟨b2, 0, none⟩), .int .u64 r.1] 120] ∧ F' = [slF (rInt .u8) m.1 m.2 r.2.1]) := by
  unfold record_clock_next at H
  refine ctr_ofI (N := 23) Try.func131 rfl Try.ntmps131 rfl (Nat.le_of_ble_eq_true rfl) (fun γ0 w0 => ?_)
  refine Tr.seq ?_
  refine Tr.region ?_
  refine TrL.v (v_assign rfl rfl) rfl rfl (bl rfl) ?_
  refine TrL.nil (qthen_n ?_)
  refine Tr.seq ?_
  refine Tr.region ?_
  refine TrL.v (v_move rfl rfl) rfl rfl (bl rfl) ?_
  refine TrL.v (v_nilCheck rfl rfl) rfl rfl (bl rfl) ?_
  refine TrL.v (v_fieldAddr' rfl fo120_0 rfl rfl) rfl rfl (bl rfl) ?_
  refine TrL.v (v_load (k := 1) rfl rfl rfl ty47 (fun _ => rfl) rfl rfl) rfl rfl (bl rfl) ?_
  obtain ⟨r2, hr2, H⟩ := bnd H
  refine TrL.cons rfl (op_callg' (fs := []) (vs := [.pointer (some ⟨b2, 0, none⟩), .int .u64 9223372036854775807]) (cap := []) (Mr := [cells b1 [.pointer (some ⟨b2, 0, none⟩), .int .u64 p1.2.2] 120]) [0] [1] [0] rfl rfl rfl en69 (c_codec_Reader_Num ((p1.1, p1.2.1)) ((9223372036854775807 : Int)) b2 A1 c1 r2 hr2) (by decide) rfl rfl rfl (bl rfl) (fun ret M' F' hR2 => ?_))
  obtain ⟨m2, rfl, rfl, rfl⟩ := hR2
  refine TrL.v (v_assign rfl rfl) rfl rfl (bl rfl) ?_
  refine TrL.nil (qthen_n ?_)
  refine Tr.seq ?_
  refine Tr.region ?_
  refine TrL.v (v_move rfl rfl) rfl rfl (bl rfl) ?_
  refine TrL.v (v_move rfl rfl) rfl rfl (bl rfl) ?_
  refine TrL.v (v_nilCheck rfl rfl) rfl rfl (bl rfl) ?_
  refine TrL.v (v_fieldAddr' rfl fo120_1 rfl rfl) rfl rfl (bl rfl) ?_
  refine TrL.v (v_load (k := 1) rfl rfl rfl ty28 (fun _ => rfl) rfl rfl) rfl rfl (bl rfl) ?_
  refine TrL.v (v_move rfl rfl) rfl rfl (bl rfl) ?_
  refine TrL.v (v_arith rfl rfl rfl ar_add_u64) rfl rfl (bl rfl) ?_
  refine TrL.v (v_min rfl rfl rfl) rfl rfl (bl rfl) ?_
  refine TrL.v (v_nilCheck rfl rfl) rfl rfl (bl rfl) ?_
  refine TrL.v (v_fieldAddr' rfl fo120_1 rfl rfl) rfl rfl (bl rfl) ?_
  refine TrL.cons rfl (op_store' (k := 1) (c' := [.pointer (some ⟨b2, 0, none⟩), .int .u64 (min (wu64 (p1.2.2 + r2.1)) 9223372036854775808)]) rfl rfl rfl rfl rfl ty28 rfl (Nat.le_of_ble_eq_true rfl) (ones (oc rfl on)) rfl ?_)
  refine TrL.nil (qthen_n ?_)
  refine Tr.seq ?_
  refine Tr.region ?_
  refine TrL.v (v_move rfl rfl) rfl rfl (bl rfl) ?_
  refine TrL.v (v_nilCheck rfl rfl) rfl rfl (bl rfl) ?_
  refine TrL.v (v_fieldAddr' rfl fo120_1 rfl rfl) rfl rfl (bl rfl) ?_
  refine TrL.v (v_load (k := 1) rfl rfl rfl ty28 (fun _ => rfl) rfl rfl) rfl rfl (bl rfl) ?_
  refine TrL.v (v_assign rfl rfl) rfl rfl (bl rfl) ?_
  refine TrL.nil (qthen_n ?_)
  have hz := Option.some.inj H
  subst hz
  refine Tr.ret (ret_r ⟨[(2, .int .u64 (min (wu64 (p1.2.2 + r2.1)) 9223372036854775808))], [cells b2 [.slice m2.1 r2.2.1.length m2.2, .int .i64 r2.2.2] 116, cells b1 [.pointer (some ⟨b2, 0, none⟩), .int .u64 (min (wu64 (p1.2.2 + r2.1)) 9223372036854775808)] 120], [slF (rInt .u8) m2.1 m2.2 r2.2.1], []⟩ [.int .u64 (min (wu64 (p1.2.2 + r2.1)) 9223372036854775808)] [cells b2 [.slice m2.1 r2.2.1.length m2.2, .int .i64 r2.2.2] 116, cells b1 [.pointer (some ⟨b2, 0, none⟩), .int .u64 (min (wu64 (p1.2.2 + r2.1)) 9223372036854775808)] 120] [] (Imp.re _ [0, 1] [1] (sc rfl sn) (by decide) rfl rfl rfl) rfl rfl ⟨((m2.1, m2.2)), rfl, rfl, rfl⟩ (.cons (resv_tmp rfl) .nil))

theorem c_record_clock_spans (p1 : List Int × Int × Int) (b1 : Nat) (b2 : Nat) (A1 : Option Addr) (c1 : Nat) (r : (List (Int × Int)) × List Int × Int × Int) (H : record_clock_spans p1 = some r) :
    Ctr Try.prog 70 [.pointer (some ⟨b1, 0, none⟩)] [cells b2 [.slice A1 p1.1.length c1, .int .i64 p1.2.1] 116, cells b1 [.pointer (some ⟨b2, 0, none⟩), .int .u64 p1.2.2] 120] [slF (rInt .u8) A1 c1 p1.1] (fun ret M' F' => ∃ m : Option Addr × Nat × Option Addr × Nat, ret = .slice m.1 r.1.length m.2.1 ∧ M' = [cells b2 [.slice m.2.2.1 r.2.1.length m.2.2.2, .int .i64 r.2.2.1] 116, cells b1 [.pointer (some ⟨b2, 0, none⟩), .int .u64 r.2.2.2] 120] ∧ F' = [slF rp_u64_u64 m.1 m.2.1 r.1, slF (rInt .u8) m.2.2.1 m.2.2.2 r.2.1]) := by
  unfold record_clock_spans at H
  refine ctr_ofI (N := 33) Try.func70 rfl Try.ntmps70 rfl (Nat.le_of_ble_eq_true rfl) (fun γ0 w0 => ?_)
  refine Tr.seq ?_
  refine Tr.region ?_
  refine TrL.v (v_assign rfl rfl) rfl rfl (bl rfl) ?_
  refine TrL.nil (qthen_n ?_)
  refine Tr.seq ?_
  refine Tr.region ?_
  refine TrL.v (v_assign rfl rfl) rfl rfl (bl rfl) ?_
  refine TrL.nil (qthen_n ?_)
  refine Tr.seq ?_
  refine Tr.regionD drawn (fun hok => ?_)
  refine TrAny.prom (i := 0) (d := 6) hok (OpVal.plain rfl rfl (v_move rfl rfl)) (by kernel_rfl) rfl (bl rfl) ?_
  clear hok
  intro hok
  refine TrAny.prom (i := 1) (d := 7) hok (OpVal.plain rfl rfl (v_nilCheck rfl rfl)) (by kernel_rfl) rfl (bl rfl) ?_
  clear hok
  intro hok
  refine TrAny.prom (i := 2) (d := 8) hok (OpVal.plain rfl rfl (v_fieldAddr' rfl fo120_0 rfl rfl)) (by kernel_rfl) rfl (bl rfl) ?_
  clear hok
  intro hok
  refine TrAny.prom (i := 3) (d := 9) hok (OpVal.plain rfl rfl (v_load (k := 1) rfl rfl rfl ty47 (fun _ => rfl) rfl rfl)) (by kernel_rfl) rfl (bl rfl) ?_
  clear hok
  intro hok
  obtain ⟨r16, hr16, H⟩ := bnd H
  refine TrAny.next (j := 4) (by kernel_rfl) hok rfl (by kernel_rfl) (op_call0' (vs := [.int .i64 1024, .int .i64 0]) (cap := []) [] rfl rfl (bl rfl) rfl rfl en121 (c_level_Most ((1024 : Int)) ((0 : Int)) r16 hr16) rfl (fun ret M' F' hR16 => ?_))
  obtain ⟨rfl, rfl, rfl⟩ := hR16
  refine nxp hok (kp_imp (kp_c0 rfl)) rfl (by kernel_rfl) ?_
  clear hok
  intro hok
  refine TrAny.prom (i := 5) (d := 11) hok (OpVal.plain rfl rfl (v_conv' rfl ⟨_, Try.underlying3⟩ Try.underlying28 rfl wrap_u64')) (by kernel_rfl) rfl (bl rfl) ?_
  clear hok
  intro hok
  obtain ⟨r17, hr17, H⟩ := bnd H
  refine TrAny.next (j := 6) (by kernel_rfl) hok rfl (by kernel_rfl) (op_callg' (fs := []) (vs := [.pointer (some ⟨b2, 0, none⟩), .int .u64 (wu64 r16)]) (cap := []) (Mr := [cells b1 [.pointer (some ⟨b2, 0, none⟩), .int .u64 p1.2.2] 120]) [0] [1] [0] rfl rfl rfl en69 (c_codec_Reader_Num ((p1.1, p1.2.1)) (wu64 r16) b2 A1 c1 r17 hr17) (by decide) rfl rfl rfl (bl rfl) (fun ret M' F' hR17 => ?_))
  obtain ⟨m21, rfl, rfl, rfl⟩ := hR17
  refine nxp hok (by first | exact (kp_imp (kp_cc [0, 1] rfl (by decide) rfl)) | exact (kp_all (ac (.inr (OpVal.plain rfl rfl (v_move rfl rfl))) (ac (.inr (OpVal.plain rfl rfl (v_nilCheck rfl rfl))) (ac (.inr (OpVal.plain rfl rfl (v_fieldAddr' rfl fo120_0 rfl rfl))) (ac (.inl (by kernel_rfl)) (ac (.inl (by kernel_rfl)) an))))))) rfl (by kernel_rfl) ?_
  clear hok
  intro hok
  refine TrAny.prom (i := 7) (d := 4) hok (OpVal.plain rfl rfl (v_assign rfl rfl)) (by kernel_rfl) rfl (bl rfl) ?_
  clear hok
  intro hok
  refine TrAny.done (by kernel_rfl) (by kernel_rfl) hok (by kernel_rfl) (qthen_n ?_)
  refine Tr.seq ?_
  refine Tr.seq ?_
  refine Tr.region ?_
  refine TrL.v (v_move rfl rfl) rfl rfl (bl rfl) ?_
  refine TrL.v (v_move rfl rfl) rfl rfl (bl rfl) ?_
  refine TrL.nil (qthen_n ?_)
  obtain ⟨x2, hx3, H⟩ := bnd H
  refine Tr.cutE (D := (List (Int × Int)) × Int × List Int × Int) (M := Option Addr × Nat × Option Addr × Nat × Option Nat) .normal (fun _d => x2 = _d) (fun x2 m31 => ⟨[(0, .pointer (some ⟨b1, 0, none⟩)), (3, .slice m31.1 x2.1.length m31.2.1)], [cells b1 [.pointer (some ⟨b2, 0, none⟩), .int .u64 x2.2.1] 120, cells b2 [.slice m31.2.2.1 x2.2.2.1.length m31.2.2.2.1, .int .i64 x2.2.2.2] 116, grow 30 2 (.slice m31.1 x2.1.length m31.2.1) x2.1.length m31.2.2.2.2], [slF rp_u64_u64 m31.1 m31.2.1 x2.1, slF (rInt .u8) m31.2.2.1 m31.2.2.2.1 x2.2.2.1], []⟩) ?_ (fun x2 m31 hd2 => ?_)
  · refine Tr.block (Tr.loopI (ι := Option Addr × Nat × Option Addr × Nat × Option Nat) (step := record_clock_spans_s0 r17) (fun s5 m26 => ⟨[(0, .pointer (some ⟨b1, 0, none⟩)), (3, .slice m26.1 s5.1.length m26.2.1), (13, .int .u64 r17.1), (14, .int .u64 s5.2.1)], [cells b1 [.pointer (some ⟨b2, 0, none⟩), .int .u64 s5.2.2.1] 120, cells b2 [.slice m26.2.2.1 s5.2.2.2.1.length m26.2.2.2.1, .int .i64 s5.2.2.2.2] 116, grow 30 2 (.slice m26.1 s5.1.length m26.2.1) s5.1.length m26.2.2.2.2], [slF rp_u64_u64 m26.1 m26.2.1 s5.1, slF (rInt .u8) m26.2.2.1 m26.2.2.2.1 s5.2.2.2.1], []⟩) ((none, 0, m21.1, m21.2, none)) hx3 (Imp.full' (E := 30) (sz := 2) (A := none) (n := 0) (Imp.addF' _ (nilF rp_u64_u64) (Imp.re _ [2, 1, 0] [2, 1] (sc rfl (sc rfl (sc rfl (sc rfl sn)))) (by decide) rfl rfl rfl))) (fun s5 m26 y2 hy2 hx4 => ?_))
    unfold record_clock_spans_s0 at hy2
    refine Tr.seq ?_
    refine Tr.region ?_
    refine TrL.v (v_arith rfl rfl rfl ar_lss) rfl rfl (bl rfl) ?_
    refine TrL.nil (qthen_n ?_)
    refine Tr.seq ?_
    rcases ifc hy2 with ⟨h16, hy2⟩ | ⟨h16, hy2⟩
    · refine Tr.cond_t rfl (bt_dec h16) ?_
      refine Tr.skip (qthen_n ?_)
      refine Tr.seq ?_
      refine Tr.block ?_
      refine Tr.seq ?_
      refine Tr.region ?_
      refine TrL.v (v_move rfl rfl) rfl rfl (bl rfl) ?_
      obtain ⟨r24, hr24, hy2⟩ := bnd hy2
      refine TrL.cons rfl (op_callg' (fs := []) (vs := [.pointer (some ⟨b1, 0, none⟩)]) (cap := []) (Mr := [grow 30 2 (.slice m26.1 s5.1.length m26.2.1) s5.1.length m26.2.2.2.2]) [1, 0] [2] [1] rfl rfl rfl en131 (c_record_clock_next ((s5.2.2.2.1, s5.2.2.2.2, s5.2.2.1)) b1 b2 m26.2.2.1 m26.2.2.2.1 r24 hr24) (by decide) rfl rfl rfl (bl rfl) (fun ret M' F' hR24 => ?_))
      obtain ⟨m32, rfl, rfl, rfl⟩ := hR24
      refine TrL.v (v_move rfl rfl) rfl rfl (bl rfl) ?_
      obtain ⟨r25, hr25, hy2⟩ := bnd hy2
      refine TrL.cons rfl (op_callg' (fs := []) (vs := [.pointer (some ⟨b1, 0, none⟩)]) (cap := []) (Mr := [grow 30 2 (.slice m26.1 s5.1.length m26.2.1) s5.1.length m26.2.2.2.2]) [0, 1] [2] [2] rfl rfl rfl en131 (c_record_clock_next ((r24.2.1, r24.2.2, r24.1)) b1 b2 m32.1 m32.2 r25 hr25) (by decide) rfl rfl rfl (bl rfl) (fun ret M' F' hR25 => ?_))
      obtain ⟨m33, rfl, rfl, rfl⟩ := hR25
      refine TrL.v (v_build (vs := [.int .u64 r24.1, .int .u64 r25.1]) (out := [.int .u64 r24.1, .int .u64 r25.1]) rfl pl30 ze30 rfl rfl) rfl rfl (bl rfl) ?_
      refine TrL.cons rfl (op_alloc' rfl (bl rfl) rfl ze30 (fun b8 => ?_))
      refine TrL.cons rfl (op_store' (k := 0) (c' := [.int .u64 r24.1, .int .u64 r25.1]) rfl rfl rfl rfl rfl ty30 rfl (Nat.le_of_ble_eq_true rfl) (ones (oc rfl (oc rfl on))) rfl ?_)
      refine TrL.nil (qthen_n ?_)
      refine Tr.seq ?_
      refine Tr.seq ?_
      refine Tr.region ?_
      refine TrL.v (v_move rfl rfl) rfl rfl (bl rfl) ?_
      refine TrL.v (v_nilCheck rfl rfl) rfl rfl (bl rfl) ?_
      refine TrL.v (v_fieldAddr' rfl fo120_0 rfl rfl) rfl rfl (bl rfl) ?_
      refine TrL.v (v_load (k := 2) rfl rfl rfl ty47 (fun _ => rfl) rfl rfl) rfl rfl (bl rfl) ?_
      obtain ⟨r26, hr26, hy2⟩ := bnd hy2
      refine TrL.cons rfl (op_callg' (fs := []) (vs := [.pointer (some ⟨b2, 0, none⟩)]) (cap := []) (Mr := [cells b8 [.int .u64 r24.1, .int .u64 r25.1] 30, cells b1 [.pointer (some ⟨b2, 0, none⟩), .int .u64 r25.1] 120, grow 30 2 (.slice m26.1 s5.1.length m26.2.1) s5.1.length m26.2.2.2.2]) [1] [0, 2, 3] [3] rfl rfl rfl en32 (c_codec_Reader_Err r25.2 b2 m33.1 m33.2 r26 hr26) (by decide) rfl rfl rfl (bl rfl) (fun ret M' F' hR26 => ?_))
      obtain ⟨rfl, rfl, rfl⟩ := hR26
      refine TrL.v (v_arith rfl rfl rfl ar_neq) rfl rfl (bl rfl) ?_
      refine TrL.nil (qthen_n ?_)
      rcases ifc hy2 with ⟨h17, hy2⟩ | ⟨h17, hy2⟩
      · refine Tr.cond_t rfl (bt_dec h17) ?_
        have hz := Option.some.inj hy2
        subst hz
        refine Tr.exit (qthen_x (qblock_miss (by decide) (qthen_x (qloop_x (qblock_hit (qcut_hit ((s5.1, r25.1, r25.2.1, r25.2.2)) ((m26.1, m26.2.1, m33.1, m33.2, m26.2.2.2.2)) (hx4 _ rfl).symm (Imp.re _ [2, 0, 3] [0, 3] (sc rfl (sc rfl sn)) (by decide) rfl rfl rfl)))))))
      · refine Tr.cond_f rfl (bf_dec h17) ?_
        refine Tr.skip (qthen_n ?_)
        refine Tr.region ?_
        refine TrL.v (v_move rfl rfl) rfl rfl (bl rfl) ?_
        refine TrL.v (v_load (k := 1) rfl rfl rfl ty30 nofun rfl rfl) rfl rfl (bl rfl) ?_
        refine TrL.cons rfl (op_buildSlice' (rp := rp_u64_u64) (xs := [(r24.1, r25.1)]) (vs := [.agg #[.int .u64 r24.1, .int .u64 r25.1]]) (out := [.int .u64 r24.1, .int .u64 r25.1]) rfl (bl rfl) rfl sl31 ty30 ze30 rfl rfl (by decide) (by decide) rfl (fun γ w hF => (rowc rfl rown rfl)) (fun A12 => ?_))
        obtain ⟨h18, hy2⟩ := rom hy2
        refine TrL.cons rfl (op_append' (rp := rp_u64_u64) (xs := s5.1) (ys := [(r24.1, r25.1)]) (k := 3) (kx := 0) (ky := 5) rfl (bl rfl) rfl sl31 ty30 ze30 rfl by30 rfl rfl rfl rfl rfl rfl rfl h18.1 h18.2 (fun A13 c7 o6 => ?_))
        refine TrL.v (v_assign rfl rfl) rfl rfl (bl rfl) ?_
        refine TrL.nil (qblock_n (qthen_n ?_))
        refine Tr.region ?_
        refine TrL.v (v_arith rfl rfl rfl ar_add_u64) rfl rfl (bl rfl) ?_
        refine TrL.v (v_move rfl rfl) rfl rfl (bl rfl) ?_
        have hz := Option.some.inj hy2
        subst hz
        refine TrL.nil (qloop_n ((A13, c7, m33.1, m33.2, o6)) (Imp.re _ [2, 0, 3] [6, 3] (sc rfl (sc rfl (sc rfl (sc rfl sn)))) (by decide) rfl rfl rfl))
    · refine Tr.cond_f rfl (bf_dec h16) ?_
      have hz := Option.some.inj hy2
      subst hz
      refine Tr.exit (qthen_x (qloop_x (qblock_hit (qcut_hit ((s5.1, s5.2.2.1, s5.2.2.2.1, s5.2.2.2.2)) ((m26.1, m26.2.1, m26.2.2.1, m26.2.2.2.1, m26.2.2.2.2)) (hx4 _ rfl).symm (Imp.re _ [0, 1, 2] [0, 1] (sc rfl (sc rfl sn)) (by decide) rfl rfl rfl)))))
  · subst hd2
    refine (qthen_n ?_)
    refine Tr.seq ?_
    refine Tr.region ?_
    refine TrL.v (v_move rfl rfl) rfl rfl (bl rfl) ?_
    refine TrL.v (v_assign rfl rfl) rfl rfl (bl rfl) ?_
    refine TrL.nil (qthen_n ?_)
    have hz := Option.some.inj H
    subst hz
    refine Tr.ret (ret_r ⟨[(2, .slice m31.1 x2.1.length m31.2.1)], [cells b2 [.slice m31.2.2.1 x2.2.2.1.length m31.2.2.2.1, .int .i64 x2.2.2.2] 116, cells b1 [.pointer (some ⟨b2, 0, none⟩), .int .u64 x2.2.1] 120], [slF rp_u64_u64 m31.1 m31.2.1 x2.1, slF (rInt .u8) m31.2.2.1 m31.2.2.2.1 x2.2.2.1], []⟩ [.slice m31.1 x2.1.length m31.2.1] [cells b2 [.slice m31.2.2.1 x2.2.2.1.length m31.2.2.2.1, .int .i64 x2.2.2.2] 116, cells b1 [.pointer (some ⟨b2, 0, none⟩), .int .u64 x2.2.1] 120] [] (Imp.re _ [1, 0] [0, 1] (sc rfl sn) (by decide) rfl rfl rfl) rfl rfl ⟨((m31.1, m31.2.1, m31.2.2.1, m31.2.2.2.1)), rfl, rfl, rfl⟩ (.cons (resv_tmp rfl) .nil))
end Go.Proofs.Ytbeknohemgjfbaa.W
