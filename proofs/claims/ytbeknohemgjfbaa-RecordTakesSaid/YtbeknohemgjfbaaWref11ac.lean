/- The contracts of the walked functions: the printed walks. -/
import Derived.Test.YtbeknohemgjfbaaKc
import Derived.Test.YtbeknohemgjfbaaQc
import Derived.Test.YtbeknohemgjfbaaWref02ac
import Derived.Test.YtbeknohemgjfbaaWref09ac
namespace Go.Proofs.Ytbeknohemgjfbaa.W
open Go Go.Proofs Go.Proofs.Ytbeknohemgjfbaa.L Go.Proofs.Ytbeknohemgjfbaa.Pu
set_option linter.unusedVariables false
set_option maxHeartbeats 4000000

theorem c_ref11_Put (p1 : Int × Int × List (List (Int × Int))) (A1 : Option Addr) (c1 : Nat) (r : List Int) (H : ref11_Put p1 = some r) :
    Ctr Try.prog 24 [.agg #[.int .i64 p1.1, .int .i64 p1.2.1, .slice A1 p1.2.2.length c1]] [] [slF (rSl rp_u64_u64) A1 c1 p1.2.2] (fun ret M' F' => ∃ m : Option Addr × Nat, ret = .slice m.1 r.length m.2 ∧ M' = [] ∧ F' = [slF (rInt .u8) m.1 m.2 r]) := by
  unfold ref11_Put at H
  refine ctr_ofI (N := 84) Try.func24 rfl Try.ntmps24 rfl (Nat.le_of_ble_eq_true rfl) (fun γ0 w0 => ?_)
  refine Tr.seq ?_
  refine Tr.region ?_
  refine TrL.cons rfl (op_box' rfl (bl rfl) rfl rfl rfl (fun b11 => ?_))
  refine TrL.v (v_assign rfl rfl) rfl rfl (bl rfl) ?_
  refine TrL.nil (qthen_n ?_)
  refine Tr.seq ?_
  refine Tr.seq ?_
  refine Tr.region ?_
  refine TrL.v (v_load (k := 0) rfl rfl rfl ty26 nofun rfl rfl) rfl rfl (bl rfl) ?_
  obtain ⟨r26, hr26, H⟩ := bnd H
  refine TrL.cons rfl (op_call0' (vs := [.agg #[.int .i64 p1.1, .int .i64 p1.2.1, .slice A1 p1.2.2.length c1]]) (cap := []) [0] rfl rfl (bl rfl) rfl rfl en35 (c_ref09_Hist p1 A1 c1 r26 hr26) rfl (fun ret M' F' hR26 => ?_))
  obtain ⟨rfl, rfl, rfl⟩ := hR26
  refine TrL.v (v_arith rfl rfl rfl ar_neq) rfl rfl (bl rfl) ?_
  refine TrL.nil (qthen_n ?_)
  rcases ifc H with ⟨h38, H⟩ | ⟨h38, H⟩
  · refine Tr.cond_t rfl (bt_dec h38) ?_
    refine Tr.seq ?_
    refine Tr.region ?_
    refine TrL.v (v_assign rfl rfl) rfl rfl (bl rfl) ?_
    refine TrL.nil (qthen_n ?_)
    have hz := Option.some.inj H
    subst hz
    refine Tr.ret (qthen_r (ret_r ⟨[(2, .slice none 0 0)], [], [slF (rInt .u8) none 0 (([] : List Int))], []⟩ [.slice none 0 0] [] [] (Imp.addF' _ (nilF (rInt .u8)) (Imp.re _ [] [1] (sc rfl sn) (by decide) rfl rfl rfl)) rfl rfl ⟨((none, 0)), rfl, rfl, rfl⟩ (.cons (resv_tmp rfl) .nil)))
  · refine Tr.cond_f rfl (bf_dec h38) ?_
    refine Tr.skip (qthen_n ?_)
    refine Tr.seq ?_
    refine Tr.region ?_
    refine TrL.cons rfl (op_buildSlice' (rp := (rInt .u8)) (xs := []) (vs := []) (out := []) rfl (bl rfl) rfl sl40 ty5 ze5 rfl rfl (by decide) (by decide) rfl (fun γ w hF => rown) (fun A39 => ?_))
    refine TrL.v (v_fieldAddr' rfl fo26_0 rfl rfl) rfl rfl (bl rfl) ?_
    refine TrL.v (v_load (k := 0) rfl rfl rfl ty3 (fun _ => rfl) rfl rfl) rfl rfl (bl rfl) ?_
    refine TrL.v (v_conv' rfl ⟨_, Try.underlying3⟩ Try.underlying28 rfl wrap_u64') rfl rfl (bl rfl) ?_
    obtain ⟨r27, hr27, H⟩ := bnd H
    refine TrL.cons rfl (op_call0' (vs := [.int .u64 (wu64 p1.1)]) (cap := []) [] rfl rfl (bl rfl) rfl rfl en67 (c_ref02_Num (wu64 p1.1) r27 hr27) rfl (fun ret M' F' hR27 => ?_))
    obtain ⟨m43, rfl, rfl, rfl⟩ := hR27
    refine TrL.full' (E := 5) (sz := 1) (A := A39) (n := 0) ?_
    obtain ⟨h39, H⟩ := rom H
    refine TrL.cons rfl (op_append' (rp := (rInt .u8)) (xs := ([] : List Int)) (ys := r27) (k := 0) (kx := 1) (ky := 2) rfl (bl rfl) rfl sl40 ty5 ze5 rfl by5 rfl rfl rfl rfl rfl rfl rfl h39.1 h39.2 (fun A40 c38 o25 => ?_))
    refine TrL.v (v_assign rfl rfl) rfl rfl (bl rfl) ?_
    refine TrL.nil (qthen_n ?_)
    refine Tr.seq ?_
    refine Tr.region ?_
    refine TrL.v (v_move rfl rfl) rfl rfl (bl rfl) ?_
    refine TrL.v (v_fieldAddr' rfl fo26_1 rfl rfl) rfl rfl (bl rfl) ?_
    refine TrL.v (v_load (k := 1) rfl rfl rfl ty3 (fun _ => rfl) rfl rfl) rfl rfl (bl rfl) ?_
    refine TrL.v (v_conv' rfl ⟨_, Try.underlying3⟩ Try.underlying28 rfl wrap_u64') rfl rfl (bl rfl) ?_
    obtain ⟨r28, hr28, H⟩ := bnd H
    refine TrL.cons rfl (op_call0' (vs := [.int .u64 (wu64 p1.2.1)]) (cap := []) [] rfl rfl (bl rfl) rfl rfl en67 (c_ref02_Num (wu64 p1.2.1) r28 hr28) rfl (fun ret M' F' hR28 => ?_))
    obtain ⟨m44, rfl, rfl, rfl⟩ := hR28
    obtain ⟨h40, H⟩ := rom H
    refine TrL.cons rfl (op_append' (rp := (rInt .u8)) (xs := r27) (ys := r28) (k := 0) (kx := 3) (ky := 4) rfl (bl rfl) rfl sl40 ty5 ze5 rfl by5 rfl rfl rfl rfl rfl rfl rfl h40.1 h40.2 (fun A41 c39 o26 => ?_))
    refine TrL.v (v_assign rfl rfl) rfl rfl (bl rfl) ?_
    refine TrL.nil (qthen_n ?_)
    refine Tr.seq ?_
    refine Tr.region ?_
    refine TrL.v (v_move rfl rfl) rfl rfl (bl rfl) ?_
    refine TrL.v (v_fieldAddr' rfl fo26_2 rfl rfl) rfl rfl (bl rfl) ?_
    refine TrL.v (v_load (k := 1) rfl rfl rfl ty24 (fun _ => rfl) rfl rfl) rfl rfl (bl rfl) ?_
    refine TrL.v (v_len rfl sl24 rfl) rfl rfl (bl rfl) ?_
    refine TrL.v (v_conv' rfl ⟨_, Try.underlying3⟩ Try.underlying28 rfl wrap_u64') rfl rfl (bl rfl) ?_
    obtain ⟨r29, hr29, H⟩ := bnd H
    refine TrL.cons rfl (op_call0' (vs := [.int .u64 (wu64 ((p1.2.2.length : Int)))]) (cap := []) [] rfl rfl (bl rfl) rfl rfl en67 (c_ref02_Num (wu64 ((p1.2.2.length : Int))) r29 hr29) rfl (fun ret M' F' hR29 => ?_))
    obtain ⟨m45, rfl, rfl, rfl⟩ := hR29
    obtain ⟨h41, H⟩ := rom H
    refine TrL.cons rfl (op_append' (rp := (rInt .u8)) (xs := r27 ++ r28) (ys := r29) (k := 0) (kx := 5) (ky := 6) rfl (bl rfl) rfl sl40 ty5 ze5 rfl by5 rfl rfl rfl rfl rfl rfl rfl h41.1 h41.2 (fun A42 c40 o27 => ?_))
    refine TrL.v (v_assign rfl rfl) rfl rfl (bl rfl) ?_
    refine TrL.nil (qthen_n ?_)
    refine Tr.seq ?_
    refine Tr.region ?_
    refine TrL.v (v_assign rfl rfl) rfl rfl (bl rfl) ?_
    refine TrL.nil (qthen_n ?_)
    refine Tr.seq ?_
    refine Tr.seq ?_
    refine Tr.region ?_
    refine TrL.v (v_fieldAddr' rfl fo26_2 rfl rfl) rfl rfl (bl rfl) ?_
    refine TrL.v (v_load (k := 1) rfl rfl rfl ty24 (fun _ => rfl) rfl rfl) rfl rfl (bl rfl) ?_
    refine TrL.v (v_len rfl sl24 rfl) rfl rfl (bl rfl) ?_
    refine TrL.v (v_arith rfl rfl rfl ar_sub_i64) rfl rfl (bl rfl) ?_
    refine TrL.v (v_assign rfl rfl) rfl rfl (bl rfl) ?_
    refine TrL.nil (qthen_n ?_)
    obtain ⟨x7, hx13, H⟩ := bnd H
    refine Tr.cutE (D := List Int) (M := Option Addr × Nat × Option Nat) .normal (fun _d => x7 = _d) (fun x7 m71 => ⟨[(3, .slice m71.1 x7.length m71.2.1)], [grow 5 1 (.slice m71.1 x7.length m71.2.1) x7.length m71.2.2], [slF (rInt .u8) m71.1 m71.2.1 x7], []⟩) ?_ (fun x7 m71 hd8 => ?_)
    · refine Tr.block (Tr.loopI (ι := Option Addr × Nat × Option Nat) (step := ref11_Put_s0 p1) (fun s17 m58 => ⟨[(1, .pointer (some ⟨b11, 0, none⟩)), (3, .slice m58.1 s17.1.length m58.2.1), (4, .int .u64 s17.2.1), (5, .int .i64 s17.2.2)], [cells b11 [.int .i64 p1.1, .int .i64 p1.2.1, .slice A1 p1.2.2.length c1] 26, grow 5 1 (.slice m58.1 s17.1.length m58.2.1) s17.1.length m58.2.2], [slF (rInt .u8) m58.1 m58.2.1 s17.1, slF (rSl rp_u64_u64) A1 c1 p1.2.2], []⟩) ((A42, c40, o27)) hx13 (Imp.re _ [1, 0] [7, 0] (sc rfl (sc rfl (sc rfl (sc rfl sn)))) (by decide) rfl rfl rfl) (fun s17 m58 y7 hy7 hx14 => ?_))
      unfold ref11_Put_s0 at hy7
      refine Tr.seq ?_
      refine Tr.seq ?_
      refine Tr.region ?_
      refine TrL.v (v_move rfl rfl) rfl rfl (bl rfl) ?_
      refine TrL.v (v_arith rfl rfl rfl ar_geq) rfl rfl (bl rfl) ?_
      refine TrL.nil (qthen_n ?_)
      rcases ifc hy7 with ⟨h64, hy7⟩ | ⟨h64, hy7⟩
      · refine Tr.cond_t rfl (bt_dec h64) ?_
        refine Tr.skip (qthen_n ?_)
        refine Tr.seq ?_
        refine Tr.block ?_
        refine Tr.seq ?_
        refine Tr.region ?_
        refine TrL.v (v_move rfl rfl) rfl rfl (bl rfl) ?_
        refine TrL.v (v_fieldAddr' rfl fo26_2 rfl rfl) rfl rfl (bl rfl) ?_
        refine TrL.v (v_load (k := 0) rfl rfl rfl ty24 (fun _ => rfl) rfl rfl) rfl rfl (bl rfl) ?_
        refine TrL.v (v_move rfl rfl) rfl rfl (bl rfl) ?_
        obtain ⟨z21, hz21, hy7⟩ := bnd hy7
        refine TrL.v (v_indexAddr (k := 1) rfl sl24 ty31 rfl rfl rfl rfl hz21) rfl rfl (bl rfl) ?_
        refine TrL.openS' (k := 1) rfl hz21 (fun A65 c63 => ?_)
        refine TrL.v (v_loadF (k := 3) rfl ty31 rfl rfl) rfl rfl (bl rfl) ?_
        refine TrL.v (v_len rfl sl31 rfl) rfl rfl (bl rfl) ?_
        refine TrL.v (v_conv' rfl ⟨_, Try.underlying3⟩ Try.underlying28 rfl wrap_u64') rfl rfl (bl rfl) ?_
        obtain ⟨r44, hr44, hy7⟩ := bnd hy7
        refine TrL.cons rfl (op_call0' (vs := [.int .u64 (wu64 ((z21.length : Int)))]) (cap := []) [] rfl rfl (bl rfl) rfl rfl en67 (c_ref02_Num (wu64 ((z21.length : Int))) r44 hr44) rfl (fun ret M' F' hR44 => ?_))
        obtain ⟨m72, rfl, rfl, rfl⟩ := hR44
        obtain ⟨h65, hy7⟩ := rom hy7
        refine TrL.cons rfl (op_append' (rp := (rInt .u8)) (xs := s17.1) (ys := r44) (k := 1) (kx := 0) (ky := 4) rfl (bl rfl) rfl sl40 ty5 ze5 rfl by5 rfl rfl rfl rfl rfl rfl rfl h65.1 h65.2 (fun A66 c64 o42 => ?_))
        refine TrL.v (v_assign rfl rfl) rfl rfl (bl rfl) ?_
        refine TrL.nil (qthen_n ?_)
        refine Tr.seq ?_
        refine Tr.region ?_
        refine TrL.v (v_assign rfl rfl) rfl rfl (bl rfl) ?_
        refine TrL.nil (qthen_n ?_)
        obtain ⟨x8, hx15, hy7⟩ := bnd hy7
        refine Tr.cutE (D := List Int × Int) (M := Option Addr × Nat × Option Nat) .normal (fun _d => x8 = _d) (fun x8 m80 => ⟨[(1, .pointer (some ⟨b11, 0, none⟩)), (3, .slice m80.1 x8.1.length m80.2.1), (4, .int .u64 x8.2), (5, .int .i64 s17.2.2)], [cells b11 [.int .i64 p1.1, .int .i64 p1.2.1, .slice A1 p1.2.2.length c1] 26, grow 5 1 (.slice m80.1 x8.1.length m80.2.1) x8.1.length m80.2.2], [slF (rInt .u8) m80.1 m80.2.1 x8.1, slF (rSl rp_u64_u64) A1 c1 p1.2.2], []⟩) ?_ (fun x8 m80 hd7 => ?_)
        · refine Tr.block (Tr.loopI (ι := Option Addr × Nat × Option Nat) (step := ref11_Put_s1 z21) (fun s23 m76 => ⟨[(1, .pointer (some ⟨b11, 0, none⟩)), (3, .slice m76.1 s23.1.length m76.2.1), (4, .int .u64 s23.2.1), (5, .int .i64 s17.2.2), (6, .int .i64 s23.2.2)], [cells b11 [.int .i64 p1.1, .int .i64 p1.2.1, .slice A1 p1.2.2.length c1] 26, grow 5 1 (.slice m76.1 s23.1.length m76.2.1) s23.1.length m76.2.2], [slF (rInt .u8) m76.1 m76.2.1 s23.1, slF (rSl rp_u64_u64) A1 c1 p1.2.2], []⟩) ((A66, c64, o42)) hx15 (Imp.re _ [0, 1] [5, 1] (sc rfl (sc rfl (sc rfl (sc rfl (sc rfl sn))))) (by decide) rfl rfl rfl) (fun s23 m76 y8 hy8 hx16 => ?_))
          unfold ref11_Put_s1 at hy8
          refine Tr.seq ?_
          refine Tr.seq ?_
          refine Tr.region ?_
          refine TrL.v (v_move rfl rfl) rfl rfl (bl rfl) ?_
          refine TrL.v (v_fieldAddr' rfl fo26_2 rfl rfl) rfl rfl (bl rfl) ?_
          refine TrL.v (v_load (k := 0) rfl rfl rfl ty24 (fun _ => rfl) rfl rfl) rfl rfl (bl rfl) ?_
          refine TrL.v (v_move rfl rfl) rfl rfl (bl rfl) ?_
          refine TrL.v (v_indexAddr (k := 1) rfl sl24 ty31 rfl rfl rfl rfl hz21) rfl rfl (bl rfl) ?_
          refine TrL.openS' (k := 1) rfl hz21 (fun A73 c71 => ?_)
          refine TrL.v (v_loadF (k := 3) rfl ty31 rfl rfl) rfl rfl (bl rfl) ?_
          refine TrL.v (v_len rfl sl31 rfl) rfl rfl (bl rfl) ?_
          refine TrL.v (v_arith rfl rfl rfl ar_lss) rfl rfl (bl rfl) ?_
          refine TrL.nil (qthen_n ?_)
          rcases ifc hy8 with ⟨h72, hy8⟩ | ⟨h72, hy8⟩
          · refine Tr.cond_t rfl (bt_dec h72) ?_
            refine Tr.skip (qthen_n ?_)
            refine Tr.seq ?_
            refine Tr.block ?_
            refine Tr.seq ?_
            refine Tr.region ?_
            refine TrL.v (v_fieldAddr' rfl fo26_2 rfl rfl) rfl rfl (bl rfl) ?_
            refine TrL.v (v_load (k := 0) rfl rfl rfl ty24 (fun _ => rfl) rfl rfl) rfl rfl (bl rfl) ?_
            refine TrL.v (v_move rfl rfl) rfl rfl (bl rfl) ?_
            refine TrL.v (v_indexAddr (k := 1) rfl sl24 ty31 rfl rfl rfl rfl hz21) rfl rfl (bl rfl) ?_
            refine TrL.v (v_loadF (k := 3) rfl ty31 rfl rfl) rfl rfl (bl rfl) ?_
            refine TrL.v (v_move rfl rfl) rfl rfl (bl rfl) ?_
            obtain ⟨z24, hz24, hy8⟩ := bnd hy8
            refine TrL.v (v_indexAddr (k := 2) rfl sl31 ty30 rfl rfl rfl rfl hz24) rfl rfl (bl rfl) ?_
            refine TrL.v (v_loadg (A := A73) (i := s23.2.2) (j := 0) (k := 2) rfl ty30 nofun rfl rfl hz24 rfl rfl) rfl rfl (bl rfl) ?_
            refine TrL.cons rfl (op_alloc' rfl (bl rfl) rfl ze30 (fun b20 => ?_))
            refine TrL.cons rfl (op_store' (k := 0) (c' := [.int .u64 z24.1, .int .u64 z24.2]) rfl rfl rfl rfl rfl ty30 rfl (Nat.le_of_ble_eq_true rfl) (ones (oc rfl (oc rfl on))) rfl ?_)
            refine TrL.nil (qthen_n ?_)
            refine Tr.seq ?_
            refine Tr.region ?_
            refine TrL.v (v_move rfl rfl) rfl rfl (bl rfl) ?_
            refine TrL.v (v_fieldAddr' rfl fo30_0 rfl rfl) rfl rfl (bl rfl) ?_
            refine TrL.v (v_load (k := 0) rfl rfl rfl ty28 (fun _ => rfl) rfl rfl) rfl rfl (bl rfl) ?_
            refine TrL.v (v_move rfl rfl) rfl rfl (bl rfl) ?_
            refine TrL.v (v_arith rfl rfl rfl ar_sub_u64) rfl rfl (bl rfl) ?_
            obtain ⟨r49, hr49, hy8⟩ := bnd hy8
            refine TrL.cons rfl (op_call0' (vs := [.int .u64 (wu64 (z24.1 - s23.2.1))]) (cap := []) [] rfl rfl (bl rfl) rfl rfl en67 (c_ref02_Num (wu64 (z24.1 - s23.2.1)) r49 hr49) rfl (fun ret M' F' hR49 => ?_))
            obtain ⟨m81, rfl, rfl, rfl⟩ := hR49
            obtain ⟨h73, hy8⟩ := rom hy8
            refine TrL.cons rfl (op_append' (rp := (rInt .u8)) (xs := s23.1) (ys := r49) (k := 2) (kx := 0) (ky := 4) rfl (bl rfl) rfl sl40 ty5 ze5 rfl by5 rfl rfl rfl rfl rfl rfl rfl h73.1 h73.2 (fun A74 c72 o47 => ?_))
            refine TrL.v (v_assign rfl rfl) rfl rfl (bl rfl) ?_
            refine TrL.nil (qthen_n ?_)
            refine Tr.seq ?_
            refine Tr.region ?_
            refine TrL.v (v_move rfl rfl) rfl rfl (bl rfl) ?_
            refine TrL.v (v_fieldAddr' rfl fo30_1 rfl rfl) rfl rfl (bl rfl) ?_
            refine TrL.v (v_load (k := 0) rfl rfl rfl ty28 (fun _ => rfl) rfl rfl) rfl rfl (bl rfl) ?_
            refine TrL.v (v_fieldAddr' rfl fo30_0 rfl rfl) rfl rfl (bl rfl) ?_
            refine TrL.v (v_load (k := 0) rfl rfl rfl ty28 (fun _ => rfl) rfl rfl) rfl rfl (bl rfl) ?_
            refine TrL.v (v_arith rfl rfl rfl ar_sub_u64) rfl rfl (bl rfl) ?_
            obtain ⟨r50, hr50, hy8⟩ := bnd hy8
            refine TrL.cons rfl (op_call0' (vs := [.int .u64 (wu64 (z24.2 - z24.1))]) (cap := []) [] rfl rfl (bl rfl) rfl rfl en67 (c_ref02_Num (wu64 (z24.2 - z24.1)) r50 hr50) rfl (fun ret M' F' hR50 => ?_))
            obtain ⟨m82, rfl, rfl, rfl⟩ := hR50
            obtain ⟨h74, hy8⟩ := rom hy8
            refine TrL.cons rfl (op_append' (rp := (rInt .u8)) (xs := s23.1 ++ r49) (ys := r50) (k := 2) (kx := 5) (ky := 6) rfl (bl rfl) rfl sl40 ty5 ze5 rfl by5 rfl rfl rfl rfl rfl rfl rfl h74.1 h74.2 (fun A75 c73 o48 => ?_))
            refine TrL.v (v_assign rfl rfl) rfl rfl (bl rfl) ?_
            refine TrL.nil (qthen_n ?_)
            refine Tr.region ?_
            refine TrL.v (v_fieldAddr' rfl fo30_1 rfl rfl) rfl rfl (bl rfl) ?_
            refine TrL.v (v_load (k := 0) rfl rfl rfl ty28 (fun _ => rfl) rfl rfl) rfl rfl (bl rfl) ?_
            refine TrL.v (v_assign rfl rfl) rfl rfl (bl rfl) ?_
            refine TrL.nil (qblock_n (qthen_n ?_))
            refine Tr.region ?_
            refine TrL.v (v_move rfl rfl) rfl rfl (bl rfl) ?_
            refine TrL.v (v_arith rfl rfl rfl ar_add_i64) rfl rfl (bl rfl) ?_
            refine TrL.v (v_assign rfl rfl) rfl rfl (bl rfl) ?_
            have hz := Option.some.inj hy8
            subst hz
            refine TrL.nil (qloop_n ((A75, c73, o48)) (Imp.re _ [1, 2] [7, 1] (sc rfl (sc rfl (sc rfl (sc rfl (sc rfl sn))))) (by decide) rfl rfl rfl))
          · refine Tr.cond_f rfl (bf_dec h72) ?_
            have hz := Option.some.inj hy8
            subst hz
            refine Tr.exit (qthen_x (qloop_x (qblock_hit (qcut_hit ((s23.1, s23.2.1)) ((m76.1, m76.2.1, m76.2.2)) (hx16 _ rfl).symm (Imp.re _ [0, 1] [0, 1] (sc rfl (sc rfl (sc rfl (sc rfl sn)))) (by decide) rfl rfl rfl)))))
        · subst hd7
          refine (qblock_n (qthen_n ?_))
          refine Tr.region ?_
          refine TrL.v (v_move rfl rfl) rfl rfl (bl rfl) ?_
          refine TrL.v (v_arith rfl rfl rfl ar_sub_i64) rfl rfl (bl rfl) ?_
          refine TrL.v (v_assign rfl rfl) rfl rfl (bl rfl) ?_
          have hz := Option.some.inj hy7
          subst hz
          refine TrL.nil (qloop_n ((m80.1, m80.2.1, m80.2.2)) (Imp.re _ [0, 1] [0, 1] (sc rfl (sc rfl (sc rfl (sc rfl sn)))) (by decide) rfl rfl rfl))
      · refine Tr.cond_f rfl (bf_dec h64) ?_
        have hz := Option.some.inj hy7
        subst hz
        refine Tr.exit (qthen_x (qloop_x (qblock_hit (qcut_hit s17.1 ((m58.1, m58.2.1, m58.2.2)) (hx14 _ rfl).symm (Imp.re _ [1] [0] (sc rfl sn) (by decide) rfl rfl rfl)))))
    · subst hd8
      refine (qthen_n ?_)
      refine Tr.seq ?_
      refine Tr.region ?_
      refine TrL.v (v_move rfl rfl) rfl rfl (bl rfl) ?_
      refine TrL.v (v_assign rfl rfl) rfl rfl (bl rfl) ?_
      refine TrL.nil (qthen_n ?_)
      have hz := Option.some.inj H
      subst hz
      refine Tr.ret (ret_r ⟨[(2, .slice m71.1 x7.length m71.2.1)], [], [slF (rInt .u8) m71.1 m71.2.1 x7], []⟩ [.slice m71.1 x7.length m71.2.1] [] [] (Imp.re _ [] [0] (sc rfl sn) (by decide) rfl rfl rfl) rfl rfl ⟨((m71.1, m71.2.1)), rfl, rfl, rfl⟩ (.cons (resv_tmp rfl) .nil))

theorem c_ref11_spans (p1 : List Int × Int) (p2 : Int) (A1 : Option Addr) (c1 : Nat) (r : List Int × Int × (List (Int × Int)) × Int) (H : ref11_spans p1 p2 = some r) :
    Ctr Try.prog 74 [.agg #[.slice A1 p1.1.length c1, .int .i64 p1.2], .int .u64 p2] [] [slF (rInt .u8) A1 c1 p1.1] (fun ret M' F' => ∃ m : Option Addr × Nat × Option Addr × Nat, ret = .tuple #[.agg #[.slice m.1 r.1.length m.2.1, .int .i64 r.2.1], .slice m.2.2.1 r.2.2.1.length m.2.2.2, .int .u64 r.2.2.2] ∧ M' = [] ∧ F' = [slF (rInt .u8) m.1 m.2.1 r.1, slF rp_u64_u64 m.2.2.1 m.2.2.2 r.2.2.1]) := by
  unfold ref11_spans at H
  refine ctr_ofI (N := 77) Try.func74 rfl Try.ntmps74 rfl (Nat.le_of_ble_eq_true rfl) (fun γ0 w0 => ?_)
  refine Tr.seq ?_
  refine Tr.region ?_
  refine TrL.cons rfl (op_box' rfl (bl rfl) rfl rfl rfl (fun b13 => ?_))
  refine TrL.cons rfl (op_alloc' rfl (bl rfl) rfl ze51 (fun b14 => ?_))
  refine TrL.v (v_assign rfl rfl) rfl rfl (bl rfl) ?_
  refine TrL.v (v_assign rfl rfl) rfl rfl (bl rfl) ?_
  refine TrL.nil (qthen_n ?_)
  refine Tr.seq ?_
  refine Tr.region ?_
  refine TrL.v (v_load (k := 1) rfl rfl rfl ty51 nofun rfl rfl) rfl rfl (bl rfl) ?_
  obtain ⟨r8, hr8, H⟩ := bnd H
  refine TrL.cons rfl (op_call0' (vs := [.agg #[.slice A1 p1.1.length c1, .int .i64 p1.2], .int .u64 1025]) (cap := []) [0] rfl rfl (bl rfl) rfl rfl en73 (c_ref02_Read p1 ((1025 : Int)) A1 c1 r8 hr8) rfl (fun ret M' F' hR8 => ?_))
  obtain ⟨m12, rfl, rfl, rfl⟩ := hR8
  refine TrL.v (v_move rfl rfl) rfl rfl (bl rfl) ?_
  refine TrL.v (v_extract rfl rfl rfl) rfl rfl (bl rfl) ?_
  refine TrL.v (v_extract rfl rfl rfl) rfl rfl (bl rfl) ?_
  refine TrL.cons rfl (op_alloc' rfl (bl rfl) rfl ze51 (fun b15 => ?_))
  refine TrL.cons rfl (op_store' (k := 0) (c' := [.slice m12.1 r8.1.length m12.2, .int .i64 r8.2.1]) rfl rfl rfl rfl rfl ty51 rfl (Nat.le_of_ble_eq_true rfl) (ones (oc rfl (oc rfl on))) rfl ?_)
  refine TrL.v (v_assign rfl rfl) rfl rfl (bl rfl) ?_
  refine TrL.nil (qthen_n ?_)
  refine Tr.seq ?_
  refine Tr.region ?_
  refine TrL.v (v_load (k := 0) rfl rfl rfl ty51 nofun rfl rfl) rfl rfl (bl rfl) ?_
  refine TrL.cons rfl (op_store' (k := 2) (c' := [.slice m12.1 r8.1.length m12.2, .int .i64 r8.2.1]) rfl rfl rfl rfl rfl ty51 rfl (Nat.le_of_ble_eq_true rfl) (ones (oc rfl (oc rfl on))) rfl ?_)
  refine TrL.nil (qthen_n ?_)
  refine Tr.seq ?_
  refine Tr.region ?_
  refine TrL.v (v_assign rfl rfl) rfl rfl (bl rfl) ?_
  refine TrL.nil (qthen_n ?_)
  refine Tr.seq ?_
  refine Tr.seq ?_
  refine Tr.region ?_
  refine TrL.v (v_assign rfl rfl) rfl rfl (bl rfl) ?_
  refine TrL.nil (qthen_n ?_)
  obtain ⟨x2, hx3, H⟩ := bnd H
  refine Tr.cutE (D := Int × (List (Int × Int)) × List Int × Int) (M := Option Addr × Nat × Option Addr × Nat × Option Nat) .normal (fun _d => x2 = _d) (fun x2 m20 => ⟨[(1, .int .u64 x2.1), (2, .pointer (some ⟨b13, 0, none⟩)), (4, .pointer (some ⟨b14, 0, none⟩)), (9, .slice m20.1 x2.2.1.length m20.2.1)], [cells b13 [.slice m20.2.2.1 x2.2.2.1.length m20.2.2.2.1, .int .i64 x2.2.2.2] 51, cells b14 [.slice none 0 0, .int .i64 0] 51, grow 30 2 (.slice m20.1 x2.2.1.length m20.2.1) x2.2.1.length m20.2.2.2.2], [slF rp_u64_u64 m20.1 m20.2.1 x2.2.1, slF (rInt .u8) m20.2.2.1 m20.2.2.2.1 x2.2.2.1, slF (rInt .u8) none 0 (([] : List Int))], []⟩) ?_ (fun x2 m20 hd2 => ?_)
  · refine Tr.block (Tr.loopI (ι := Option Addr × Nat × Option Addr × Nat × Option Nat) (step := ref11_spans_s0 r8) (fun s5 m16 => ⟨[(1, .int .u64 s5.1), (2, .pointer (some ⟨b13, 0, none⟩)), (4, .pointer (some ⟨b14, 0, none⟩)), (8, .int .u64 r8.2.2), (9, .slice m16.1 s5.2.1.length m16.2.1), (10, .int .u64 s5.2.2.1)], [cells b13 [.slice m16.2.2.1 s5.2.2.2.1.length m16.2.2.2.1, .int .i64 s5.2.2.2.2] 51, cells b14 [.slice none 0 0, .int .i64 0] 51, grow 30 2 (.slice m16.1 s5.2.1.length m16.2.1) s5.2.1.length m16.2.2.2.2], [slF rp_u64_u64 m16.1 m16.2.1 s5.2.1, slF (rInt .u8) m16.2.2.1 m16.2.2.2.1 s5.2.2.2.1, slF (rInt .u8) none 0 (([] : List Int))], []⟩) ((none, 0, m12.1, m12.2, none)) hx3 (Imp.full' (E := 30) (sz := 2) (A := none) (n := 0) (Imp.addF' _ (nilF rp_u64_u64) (Imp.addF' _ (nilF (rInt .u8)) (Imp.re _ [3, 2, 0] [2, 1, 3] (sc rfl (sc rfl (sc rfl (sc rfl (sc rfl (sc rfl sn)))))) (by decide) rfl rfl rfl)))) (fun s5 m16 y2 hy2 hx4 => ?_))
    unfold ref11_spans_s0 at hy2
    refine Tr.seq ?_
    refine Tr.seq ?_
    refine Tr.region ?_
    refine TrL.v (v_move rfl rfl) rfl rfl (bl rfl) ?_
    refine TrL.v (v_move rfl rfl) rfl rfl (bl rfl) ?_
    refine TrL.v (v_arith rfl rfl rfl ar_lss) rfl rfl (bl rfl) ?_
    refine TrL.v (v_move rfl rfl) rfl rfl (bl rfl) ?_
    rcases ifc hy2 with ⟨h47, hy2⟩ | ⟨h47, hy2⟩
    · refine TrL.cons_yes rfl rfl rfl (bt_dec h47) (OpTr.v (v_fieldAddr' rfl fo51_1 rfl rfl) rfl (bl rfl) ?_)
      refine TrL.cons_yes rfl rfl rfl (bt_dec h47) (OpTr.v (v_load (k := 0) rfl rfl rfl ty3 (fun _ => rfl) rfl rfl) rfl (bl rfl) ?_)
      refine TrL.cons_yes rfl rfl rfl (bt_dec h47) (OpTr.v (v_arith rfl rfl rfl ar_eql) rfl (bl rfl) ?_)
      refine TrL.v (v_pick_t rfl rfl (bt_dec h47) rfl) rfl rfl (bl rfl) ?_
      refine TrL.nil (qthen_n ?_)
      rcases ifc hy2 with ⟨h48, hy2⟩ | ⟨h48, hy2⟩
      · refine Tr.cond_t rfl (bt_dec h48) ?_
        refine Tr.skip (qthen_n ?_)
        refine Tr.seq ?_
        refine Tr.block ?_
        refine Tr.seq ?_
        refine Tr.region ?_
        refine TrL.v (v_load (k := 0) rfl rfl rfl ty51 nofun rfl rfl) rfl rfl (bl rfl) ?_
        obtain ⟨r13, hr13, hy2⟩ := bnd hy2
        refine TrL.cons rfl (op_call0' (vs := [.agg #[.slice m16.2.2.1 s5.2.2.2.1.length m16.2.2.2.1, .int .i64 s5.2.2.2.2], .int .u64 9223372036854775807]) (cap := []) [1] rfl rfl (bl rfl) rfl rfl en73 (c_ref02_Read s5.2.2.2 ((9223372036854775807 : Int)) m16.2.2.1 m16.2.2.2.1 r13 hr13) rfl (fun ret M' F' hR13 => ?_))
        obtain ⟨m21, rfl, rfl, rfl⟩ := hR13
        refine TrL.v (v_move rfl rfl) rfl rfl (bl rfl) ?_
        refine TrL.v (v_extract rfl rfl rfl) rfl rfl (bl rfl) ?_
        refine TrL.v (v_extract rfl rfl rfl) rfl rfl (bl rfl) ?_
        refine TrL.cons rfl (op_alloc' rfl (bl rfl) rfl ze51 (fun b22 => ?_))
        refine TrL.cons rfl (op_store' (k := 0) (c' := [.slice m21.1 r13.1.length m21.2, .int .i64 r13.2.1]) rfl rfl rfl rfl rfl ty51 rfl (Nat.le_of_ble_eq_true rfl) (ones (oc rfl (oc rfl on))) rfl ?_)
        refine TrL.v (v_assign rfl rfl) rfl rfl (bl rfl) ?_
        refine TrL.nil (qthen_n ?_)
        refine Tr.seq ?_
        refine Tr.region ?_
        refine TrL.v (v_load (k := 0) rfl rfl rfl ty51 nofun rfl rfl) rfl rfl (bl rfl) ?_
        obtain ⟨r14, hr14, hy2⟩ := bnd hy2
        refine TrL.cons rfl (op_call0' (vs := [.agg #[.slice m21.1 r13.1.length m21.2, .int .i64 r13.2.1], .int .u64 9223372036854775807]) (cap := []) [3] rfl rfl (bl rfl) rfl rfl en73 (c_ref02_Read ((r13.1, r13.2.1)) ((9223372036854775807 : Int)) m21.1 m21.2 r14 hr14) rfl (fun ret M' F' hR14 => ?_))
        obtain ⟨m22, rfl, rfl, rfl⟩ := hR14
        refine TrL.v (v_move rfl rfl) rfl rfl (bl rfl) ?_
        refine TrL.v (v_extract rfl rfl rfl) rfl rfl (bl rfl) ?_
        refine TrL.v (v_extract rfl rfl rfl) rfl rfl (bl rfl) ?_
        refine TrL.cons rfl (op_alloc' rfl (bl rfl) rfl ze51 (fun b23 => ?_))
        refine TrL.cons rfl (op_store' (k := 0) (c' := [.slice m22.1 r14.1.length m22.2, .int .i64 r14.2.1]) rfl rfl rfl rfl rfl ty51 rfl (Nat.le_of_ble_eq_true rfl) (ones (oc rfl (oc rfl on))) rfl ?_)
        refine TrL.v (v_assign rfl rfl) rfl rfl (bl rfl) ?_
        refine TrL.nil (qthen_n ?_)
        refine Tr.seq ?_
        refine Tr.region ?_
        refine TrL.v (v_load (k := 0) rfl rfl rfl ty51 nofun rfl rfl) rfl rfl (bl rfl) ?_
        refine TrL.cons rfl (op_store' (k := 2) (c' := [.slice m22.1 r14.1.length m22.2, .int .i64 r14.2.1]) rfl rfl rfl rfl rfl ty51 rfl (Nat.le_of_ble_eq_true rfl) (ones (oc rfl (oc rfl on))) rfl ?_)
        refine TrL.nil (qthen_n ?_)
        refine Tr.seq ?_
        refine Tr.region ?_
        refine TrL.v (v_move rfl rfl) rfl rfl (bl rfl) ?_
        refine TrL.v (v_move rfl rfl) rfl rfl (bl rfl) ?_
        refine TrL.v (v_arith rfl rfl rfl ar_add_u64) rfl rfl (bl rfl) ?_
        refine TrL.v (v_move rfl rfl) rfl rfl (bl rfl) ?_
        refine TrL.v (v_move rfl rfl) rfl rfl (bl rfl) ?_
        refine TrL.v (v_arith rfl rfl rfl ar_add_u64) rfl rfl (bl rfl) ?_
        refine TrL.v (v_move rfl rfl) rfl rfl (bl rfl) ?_
        refine TrL.v (v_arith rfl rfl rfl ar_add_u64) rfl rfl (bl rfl) ?_
        refine TrL.v (v_build (vs := [.int .u64 (wu64 (s5.1 + r13.2.2)), .int .u64 (wu64 ((wu64 (s5.1 + r13.2.2)) + r14.2.2))]) (out := [.int .u64 (wu64 (s5.1 + r13.2.2)), .int .u64 (wu64 ((wu64 (s5.1 + r13.2.2)) + r14.2.2))]) rfl pl30 ze30 rfl rfl) rfl rfl (bl rfl) ?_
        refine TrL.cons rfl (op_alloc' rfl (bl rfl) rfl ze30 (fun b24 => ?_))
        refine TrL.cons rfl (op_store' (k := 0) (c' := [.int .u64 (wu64 (s5.1 + r13.2.2)), .int .u64 (wu64 ((wu64 (s5.1 + r13.2.2)) + r14.2.2))]) rfl rfl rfl rfl rfl ty30 rfl (Nat.le_of_ble_eq_true rfl) (ones (oc rfl (oc rfl on))) rfl ?_)
        refine TrL.nil (qthen_n ?_)
        refine Tr.seq ?_
        refine Tr.region ?_
        refine TrL.v (v_move rfl rfl) rfl rfl (bl rfl) ?_
        refine TrL.v (v_load (k := 0) rfl rfl rfl ty30 nofun rfl rfl) rfl rfl (bl rfl) ?_
        refine TrL.cons rfl (op_buildSlice' (rp := rp_u64_u64) (xs := [(wu64 (s5.1 + r13.2.2), wu64 ((wu64 (s5.1 + r13.2.2)) + r14.2.2))]) (vs := [.agg #[.int .u64 (wu64 (s5.1 + r13.2.2)), .int .u64 (wu64 ((wu64 (s5.1 + r13.2.2)) + r14.2.2))]]) (out := [.int .u64 (wu64 (s5.1 + r13.2.2)), .int .u64 (wu64 ((wu64 (s5.1 + r13.2.2)) + r14.2.2))]) rfl (bl rfl) rfl sl31 ty30 ze30 rfl rfl (by decide) (by decide) rfl (fun γ w hF => (rowc rfl rown rfl)) (fun A12 => ?_))
        obtain ⟨h49, hy2⟩ := rom hy2
        refine TrL.cons rfl (op_append' (rp := rp_u64_u64) (xs := s5.2.1) (ys := [(wu64 (s5.1 + r13.2.2), wu64 ((wu64 (s5.1 + r13.2.2)) + r14.2.2))]) (k := 5) (kx := 0) (ky := 5) rfl (bl rfl) rfl sl31 ty30 ze30 rfl by30 rfl rfl rfl rfl rfl rfl rfl h49.1 h49.2 (fun A13 c7 o6 => ?_))
        refine TrL.v (v_assign rfl rfl) rfl rfl (bl rfl) ?_
        refine TrL.nil (qthen_n ?_)
        refine Tr.seq ?_
        refine Tr.region ?_
        refine TrL.v (v_fieldAddr' rfl fo30_1 rfl rfl) rfl rfl (bl rfl) ?_
        refine TrL.v (v_load (k := 0) rfl rfl rfl ty28 (fun _ => rfl) rfl rfl) rfl rfl (bl rfl) ?_
        refine TrL.v (v_assign rfl rfl) rfl rfl (bl rfl) ?_
        refine TrL.nil (qthen_n ?_)
        refine Tr.seq ?_
        refine Tr.region ?_
        refine TrL.v (v_fieldAddr' rfl fo30_1 rfl rfl) rfl rfl (bl rfl) ?_
        refine TrL.v (v_load (k := 0) rfl rfl rfl ty28 (fun _ => rfl) rfl rfl) rfl rfl (bl rfl) ?_
        refine TrL.v (v_fieldAddr' rfl fo30_0 rfl rfl) rfl rfl (bl rfl) ?_
        refine TrL.v (v_load (k := 0) rfl rfl rfl ty28 (fun _ => rfl) rfl rfl) rfl rfl (bl rfl) ?_
        refine TrL.v (v_arith rfl rfl rfl ar_lss) rfl rfl (bl rfl) ?_
        refine TrL.v (v_move rfl rfl) rfl rfl (bl rfl) ?_
        rcases ifc hy2 with ⟨h52, hy2⟩ | ⟨h52, hy2⟩
        · refine TrL.cons_no rfl rfl rfl (gn_f (bt_dec h52)) rfl (bl rfl) ?_
          refine TrL.cons_no rfl rfl rfl (gn_f (bt_dec h52)) rfl (bl rfl) ?_
          refine TrL.cons_no rfl rfl rfl (gn_f (bt_dec h52)) rfl (bl rfl) ?_
          refine TrL.cons_no rfl rfl rfl (gn_f (bt_dec h52)) rfl (bl rfl) ?_
          refine TrL.v (v_pick_t rfl rfl (bt_dec h52) rfl) rfl rfl (bl rfl) ?_
          refine TrL.v (v_move rfl rfl) rfl rfl (bl rfl) ?_
          refine TrL.cons_no rfl rfl rfl (gn_f rfl) rfl (bl rfl) ?_
          refine TrL.cons_no rfl rfl rfl (gn_f rfl) rfl (bl rfl) ?_
          refine TrL.cons_no rfl rfl rfl (gn_f rfl) rfl (bl rfl) ?_
          refine TrL.v (v_pick_t rfl rfl rfl rfl) rfl rfl (bl rfl) ?_
          refine TrL.nil (qthen_n ?_)
          refine Tr.cond_t rfl rfl ?_
          refine Tr.region ?_
          refine TrL.v (v_assign rfl rfl) rfl rfl (bl rfl) ?_
          refine TrL.nil (qblock_n (qthen_n ?_))
          refine Tr.region ?_
          refine TrL.v (v_move rfl rfl) rfl rfl (bl rfl) ?_
          refine TrL.v (v_arith rfl rfl rfl ar_add_u64) rfl rfl (bl rfl) ?_
          refine TrL.v (v_assign rfl rfl) rfl rfl (bl rfl) ?_
          have hz := Option.some.inj hy2
          subst hz
          refine TrL.nil (qloop_n ((A13, c7, m22.1, m22.2, o6)) (Imp.re _ [3, 4, 5] [6, 4, 2] (sc rfl (sc rfl (sc rfl (sc rfl (sc rfl (sc rfl sn)))))) (by decide) rfl rfl rfl))
        · refine TrL.cons_yes rfl rfl rfl (bf_dec h52) (OpTr.v (v_fieldAddr' rfl fo30_0 rfl rfl) rfl (bl rfl) ?_)
          refine TrL.cons_yes rfl rfl rfl (bf_dec h52) (OpTr.v (v_load (k := 0) rfl rfl rfl ty28 (fun _ => rfl) rfl rfl) rfl (bl rfl) ?_)
          refine TrL.cons_yes rfl rfl rfl (bf_dec h52) (OpTr.v (v_move rfl rfl) rfl (bl rfl) ?_)
          refine TrL.cons_yes rfl rfl rfl (bf_dec h52) (OpTr.v (v_arith rfl rfl rfl ar_lss) rfl (bl rfl) ?_)
          refine TrL.v (v_pick_f rfl rfl (bf_dec h52) rfl) rfl rfl (bl rfl) ?_
          refine TrL.v (v_move rfl rfl) rfl rfl (bl rfl) ?_
          rcases ifc hy2 with ⟨h53, hy2⟩ | ⟨h53, hy2⟩
          · refine TrL.cons_no rfl rfl rfl (gn_f (bt_dec h53)) rfl (bl rfl) ?_
            refine TrL.cons_no rfl rfl rfl (gn_f (bt_dec h53)) rfl (bl rfl) ?_
            refine TrL.cons_no rfl rfl rfl (gn_f (bt_dec h53)) rfl (bl rfl) ?_
            refine TrL.v (v_pick_t rfl rfl (bt_dec h53) rfl) rfl rfl (bl rfl) ?_
            refine TrL.nil (qthen_n ?_)
            refine Tr.cond_t rfl rfl ?_
            refine Tr.region ?_
            refine TrL.v (v_assign rfl rfl) rfl rfl (bl rfl) ?_
            refine TrL.nil (qblock_n (qthen_n ?_))
            refine Tr.region ?_
            refine TrL.v (v_move rfl rfl) rfl rfl (bl rfl) ?_
            refine TrL.v (v_arith rfl rfl rfl ar_add_u64) rfl rfl (bl rfl) ?_
            refine TrL.v (v_assign rfl rfl) rfl rfl (bl rfl) ?_
            have hz := Option.some.inj hy2
            subst hz
            refine TrL.nil (qloop_n ((A13, c7, m22.1, m22.2, o6)) (Imp.re _ [3, 4, 5] [6, 4, 2] (sc rfl (sc rfl (sc rfl (sc rfl (sc rfl (sc rfl sn)))))) (by decide) rfl rfl rfl))
          · refine TrL.cons_yes rfl rfl rfl (bf_dec h53) (OpTr.v (v_fieldAddr' rfl fo30_1 rfl rfl) rfl (bl rfl) ?_)
            refine TrL.cons_yes rfl rfl rfl (bf_dec h53) (OpTr.v (v_load (k := 0) rfl rfl rfl ty28 (fun _ => rfl) rfl rfl) rfl (bl rfl) ?_)
            refine TrL.cons_yes rfl rfl rfl (bf_dec h53) (OpTr.v (v_arith rfl rfl rfl ar_gtr) rfl (bl rfl) ?_)
            refine TrL.v (v_pick_f rfl rfl (bf_dec h53) rfl) rfl rfl (bl rfl) ?_
            refine TrL.nil (qthen_n ?_)
            rcases ifc hy2 with ⟨h54, hy2⟩ | ⟨h54, hy2⟩
            · refine Tr.cond_t rfl (bt_dec h54) ?_
              refine Tr.region ?_
              refine TrL.v (v_assign rfl rfl) rfl rfl (bl rfl) ?_
              refine TrL.nil (qblock_n (qthen_n ?_))
              refine Tr.region ?_
              refine TrL.v (v_move rfl rfl) rfl rfl (bl rfl) ?_
              refine TrL.v (v_arith rfl rfl rfl ar_add_u64) rfl rfl (bl rfl) ?_
              refine TrL.v (v_assign rfl rfl) rfl rfl (bl rfl) ?_
              have hz := Option.some.inj hy2
              subst hz
              refine TrL.nil (qloop_n ((A13, c7, m22.1, m22.2, o6)) (Imp.re _ [3, 4, 5] [6, 4, 2] (sc rfl (sc rfl (sc rfl (sc rfl (sc rfl (sc rfl sn)))))) (by decide) rfl rfl rfl))
            · refine Tr.cond_f rfl (bf_dec h54) ?_
              refine Tr.skip (qblock_n (qthen_n ?_))
              refine Tr.region ?_
              refine TrL.v (v_move rfl rfl) rfl rfl (bl rfl) ?_
              refine TrL.v (v_arith rfl rfl rfl ar_add_u64) rfl rfl (bl rfl) ?_
              refine TrL.v (v_assign rfl rfl) rfl rfl (bl rfl) ?_
              have hz := Option.some.inj hy2
              subst hz
              refine TrL.nil (qloop_n ((A13, c7, m22.1, m22.2, o6)) (Imp.re _ [3, 4, 5] [6, 4, 2] (sc rfl (sc rfl (sc rfl (sc rfl (sc rfl (sc rfl sn)))))) (by decide) rfl rfl rfl))
      · refine Tr.cond_f rfl (bf_dec h48) ?_
        have hz := Option.some.inj hy2
        subst hz
        refine Tr.exit (qthen_x (qloop_x (qblock_hit (qcut_hit ((s5.1, s5.2.1, s5.2.2.2.1, s5.2.2.2.2)) ((m16.1, m16.2.1, m16.2.2.1, m16.2.2.2.1, m16.2.2.2.2)) (hx4 _ rfl).symm (Imp.re _ [0, 1, 2] [0, 1, 2] (sc rfl (sc rfl (sc rfl (sc rfl sn)))) (by decide) rfl rfl rfl)))))
    · refine TrL.cons_no rfl rfl rfl (gn_t (bf_dec h47)) rfl (bl rfl) ?_
      refine TrL.cons_no rfl rfl rfl (gn_t (bf_dec h47)) rfl (bl rfl) ?_
      refine TrL.cons_no rfl rfl rfl (gn_t (bf_dec h47)) rfl (bl rfl) ?_
      refine TrL.v (v_pick_f rfl rfl (bf_dec h47) rfl) rfl rfl (bl rfl) ?_
      refine TrL.nil (qthen_n ?_)
      refine Tr.cond_f rfl rfl ?_
      have hz := Option.some.inj hy2
      subst hz
      refine Tr.exit (qthen_x (qloop_x (qblock_hit (qcut_hit ((s5.1, s5.2.1, s5.2.2.2.1, s5.2.2.2.2)) ((m16.1, m16.2.1, m16.2.2.1, m16.2.2.2.1, m16.2.2.2.2)) (hx4 _ rfl).symm (Imp.re _ [0, 1, 2] [0, 1, 2] (sc rfl (sc rfl (sc rfl (sc rfl sn)))) (by decide) rfl rfl rfl)))))
  · subst hd2
    refine (qthen_n ?_)
    refine Tr.seq ?_
    refine Tr.region ?_
    refine TrL.v (v_load (k := 0) rfl rfl rfl ty51 nofun rfl rfl) rfl rfl (bl rfl) ?_
    refine TrL.v (v_move rfl rfl) rfl rfl (bl rfl) ?_
    refine TrL.v (v_move rfl rfl) rfl rfl (bl rfl) ?_
    refine TrL.cons rfl (op_store' (k := 1) (c' := [.slice m20.2.2.1 x2.2.2.1.length m20.2.2.2.1, .int .i64 x2.2.2.2]) rfl rfl rfl rfl rfl ty51 rfl (Nat.le_of_ble_eq_true rfl) (ones (oc rfl (oc rfl on))) rfl ?_)
    refine TrL.v (v_assign rfl rfl) rfl rfl (bl rfl) ?_
    refine TrL.v (v_assign rfl rfl) rfl rfl (bl rfl) ?_
    refine TrL.nil (qthen_n ?_)
    have hz := Option.some.inj H
    subst hz
    refine Tr.ret (ret_r ⟨[(4, .pointer (some ⟨b14, 0, none⟩)), (5, .slice m20.1 x2.2.1.length m20.2.1), (6, .int .u64 x2.1)], [cells b14 [.slice m20.2.2.1 x2.2.2.1.length m20.2.2.2.1, .int .i64 x2.2.2.2] 51], [slF (rInt .u8) m20.2.2.1 m20.2.2.2.1 x2.2.2.1, slF rp_u64_u64 m20.1 m20.2.1 x2.2.1], []⟩ [.agg #[.slice m20.2.2.1 x2.2.2.1.length m20.2.2.2.1, .int .i64 x2.2.2.2], .slice m20.1 x2.2.1.length m20.2.1, .int .u64 x2.1] [] [cells b14 [.slice m20.2.2.1 x2.2.2.1.length m20.2.2.2.1, .int .i64 x2.2.2.2] 51] (Imp.re _ [1] [1, 0] (sc rfl (sc rfl (sc rfl sn))) (by decide) rfl rfl rfl) rfl rfl ⟨((m20.2.2.1, m20.2.2.2.1, m20.1, m20.2.1)), rfl, rfl, rfl⟩ (.cons (resv_cell (k := 0) rfl rfl ty51 nofun rfl rfl) (.cons (resv_tmp rfl) (.cons (resv_tmp rfl) .nil))))

theorem c_ref11_turned (p1 : List (List (Int × Int))) (A1 : Option Addr) (c1 : Nat) (r : List (List (Int × Int))) (H : ref11_turned p1 = some r) :
    Ctr Try.prog 75 [.slice A1 p1.length c1] [] [slF (rSl rp_u64_u64) A1 c1 p1] (fun ret M' F' => ∃ m : Option Addr × Nat, ret = .slice m.1 r.length m.2 ∧ M' = [] ∧ F' = [slF (rSl rp_u64_u64) m.1 m.2 r]) := by
  unfold ref11_turned at H
  refine ctr_ofI (N := 20) Try.func75 rfl Try.ntmps75 rfl (Nat.le_of_ble_eq_true rfl) (fun γ0 w0 => ?_)
  refine Tr.seq ?_
  refine Tr.region ?_
  refine TrL.v (v_assign rfl rfl) rfl rfl (bl rfl) ?_
  refine TrL.nil (qthen_n ?_)
  refine Tr.seq ?_
  refine Tr.region ?_
  refine TrL.v (v_assign rfl rfl) rfl rfl (bl rfl) ?_
  refine TrL.nil (qthen_n ?_)
  refine Tr.seq ?_
  refine Tr.seq ?_
  refine Tr.region ?_
  refine TrL.v (v_move rfl rfl) rfl rfl (bl rfl) ?_
  refine TrL.v (v_len rfl sl24 rfl) rfl rfl (bl rfl) ?_
  refine TrL.v (v_arith rfl rfl rfl ar_sub_i64) rfl rfl (bl rfl) ?_
  refine TrL.v (v_assign rfl rfl) rfl rfl (bl rfl) ?_
  refine TrL.nil (qthen_n ?_)
  obtain ⟨x2, hx3, H⟩ := bnd H
  refine Tr.cutE (D := List (List (Int × Int))) (M := Option Addr × Nat × Option Nat) .normal (fun _d => x2 = _d) (fun x2 m8 => ⟨[(3, .slice m8.1 x2.length m8.2.1)], [grow 31 1 (.slice m8.1 x2.length m8.2.1) x2.length m8.2.2], [slF (rSl rp_u64_u64) m8.1 m8.2.1 x2], []⟩) ?_ (fun x2 m8 hd2 => ?_)
  · refine Tr.block (Tr.loopI (ι := Option Addr × Nat × Option Nat) (step := ref11_turned_s0 p1) (fun s5 m6 => ⟨[(0, .slice A1 p1.length c1), (3, .slice m6.1 s5.1.length m6.2.1), (4, .int .i64 s5.2)], [grow 31 1 (.slice m6.1 s5.1.length m6.2.1) s5.1.length m6.2.2], [slF (rSl rp_u64_u64) A1 c1 p1, slF (rSl rp_u64_u64) m6.1 m6.2.1 s5.1], []⟩) ((none, 0, none)) hx3 (Imp.full' (E := 31) (sz := 1) (A := none) (n := 0) (Imp.addF' _ (nilF (rSl rp_u64_u64)) (Imp.re _ [0] [0, 1] (sc rfl (sc rfl (sc rfl sn))) (by decide) rfl rfl rfl))) (fun s5 m6 y2 hy2 hx4 => ?_))
    unfold ref11_turned_s0 at hy2
    refine Tr.seq ?_
    refine Tr.seq ?_
    refine Tr.region ?_
    refine TrL.v (v_move rfl rfl) rfl rfl (bl rfl) ?_
    refine TrL.v (v_arith rfl rfl rfl ar_geq) rfl rfl (bl rfl) ?_
    refine TrL.nil (qthen_n ?_)
    rcases ifc hy2 with ⟨h11, hy2⟩ | ⟨h11, hy2⟩
    · refine Tr.cond_t rfl (bt_dec h11) ?_
      refine Tr.skip (qthen_n ?_)
      refine Tr.seq ?_
      refine Tr.block ?_
      refine Tr.region ?_
      refine TrL.v (v_move rfl rfl) rfl rfl (bl rfl) ?_
      refine TrL.v (v_move rfl rfl) rfl rfl (bl rfl) ?_
      refine TrL.v (v_move rfl rfl) rfl rfl (bl rfl) ?_
      obtain ⟨z6, hz6, hy2⟩ := bnd hy2
      refine TrL.v (v_indexAddr (k := 0) rfl sl24 ty31 rfl rfl rfl rfl hz6) rfl rfl (bl rfl) ?_
      refine TrL.openS' (k := 0) rfl hz6 (fun A17 c12 => ?_)
      refine TrL.v (v_loadF (k := 3) rfl ty31 rfl rfl) rfl rfl (bl rfl) ?_
      refine TrL.cons rfl (op_buildSlice' (rp := (rSl rp_u64_u64)) (xs := [z6]) (vs := [.slice A17 z6.length c12]) (out := [.slice A17 z6.length c12]) rfl (bl rfl) rfl sl24 ty31 ze31 rfl rfl (by decide) (by decide) rfl (fun γ w hF => (rowc ⟨_, _, rfl, hF _ (List.mem_of_getElem? (i := 2) rfl)⟩ rown rfl)) (fun A18 => ?_))
      obtain ⟨h12, hy2⟩ := rom hy2
      refine TrL.cons rfl (op_append' (rp := (rSl rp_u64_u64)) (xs := s5.1) (ys := [z6]) (k := 0) (kx := 1) (ky := 4) rfl (bl rfl) rfl sl24 ty31 ze31 rfl by31 rfl rfl rfl rfl rfl rfl rfl h12.1 h12.2 (fun A19 c13 o6 => ?_))
      refine TrL.v (v_assign rfl rfl) rfl rfl (bl rfl) ?_
      refine TrL.nil (qblock_n (qthen_n ?_))
      refine Tr.region ?_
      refine TrL.v (v_move rfl rfl) rfl rfl (bl rfl) ?_
      refine TrL.v (v_arith rfl rfl rfl ar_sub_i64) rfl rfl (bl rfl) ?_
      refine TrL.v (v_assign rfl rfl) rfl rfl (bl rfl) ?_
      have hz := Option.some.inj hy2
      subst hz
      refine TrL.nil (qloop_n ((A19, c13, o6)) (Imp.re _ [0] [0, 5] (sc rfl (sc rfl (sc rfl sn))) (by decide) rfl rfl rfl))
    · refine Tr.cond_f rfl (bf_dec h11) ?_
      have hz := Option.some.inj hy2
      subst hz
      refine Tr.exit (qthen_x (qloop_x (qblock_hit (qcut_hit s5.1 ((m6.1, m6.2.1, m6.2.2)) (hx4 _ rfl).symm (Imp.re _ [0] [1] (sc rfl sn) (by decide) rfl rfl rfl)))))
  · subst hd2
    refine (qthen_n ?_)
    refine Tr.seq ?_
    refine Tr.region ?_
    refine TrL.v (v_move rfl rfl) rfl rfl (bl rfl) ?_
    refine TrL.v (v_assign rfl rfl) rfl rfl (bl rfl) ?_
    refine TrL.nil (qthen_n ?_)
    have hz := Option.some.inj H
    subst hz
    refine Tr.ret (ret_r ⟨[(2, .slice m8.1 x2.length m8.2.1)], [], [slF (rSl rp_u64_u64) m8.1 m8.2.1 x2], []⟩ [.slice m8.1 x2.length m8.2.1] [] [] (Imp.re _ [] [0] (sc rfl sn) (by decide) rfl rfl rfl) rfl rfl ⟨((m8.1, m8.2.1)), rfl, rfl, rfl⟩ (.cons (resv_tmp rfl) .nil))
end Go.Proofs.Ytbeknohemgjfbaa.W
