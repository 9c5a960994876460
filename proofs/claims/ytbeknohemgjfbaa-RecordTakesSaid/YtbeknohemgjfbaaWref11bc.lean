/- The contracts of the walked functions: the printed walks. -/
import Derived.Test.YtbeknohemgjfbaaKc
import Derived.Test.YtbeknohemgjfbaaQc
import Derived.Test.YtbeknohemgjfbaaWref02ac
import Derived.Test.YtbeknohemgjfbaaWref09ac
import Derived.Test.YtbeknohemgjfbaaWref11ac
namespace Go.Proofs.Ytbeknohemgjfbaa.W
open Go Go.Proofs Go.Proofs.Ytbeknohemgjfbaa.L Go.Proofs.Ytbeknohemgjfbaa.Pu
set_option linter.unusedVariables false
set_option maxHeartbeats 4000000

theorem c_ref11_Take (p1 : List Int × Int) (A1 : Option Addr) (c1 : Nat) (r : List Int × Int × Int × Int × List (List (Int × Int))) (H : ref11_Take p1 = some r) :
    Ctr Try.prog 29 [.agg #[.slice A1 p1.1.length c1, .int .i64 p1.2]] [] [slF (rInt .u8) A1 c1 p1.1] (fun ret M' F' => ∃ m : Option Addr × Nat × Option Addr × Nat, ret = .tuple #[.agg #[.slice m.1 r.1.length m.2.1, .int .i64 r.2.1], .agg #[.int .i64 r.2.2.1, .int .i64 r.2.2.2.1, .slice m.2.2.1 r.2.2.2.2.length m.2.2.2]] ∧ M' = [] ∧ F' = [slF (rInt .u8) m.1 m.2.1 r.1, slF (rSl rp_u64_u64) m.2.2.1 m.2.2.2 r.2.2.2.2]) := by
  unfold ref11_Take at H
  refine ctr_ofI (N := 79) Try.func29 rfl Try.ntmps29 rfl (Nat.le_of_ble_eq_true rfl) (fun γ0 w0 => ?_)
  refine Tr.seq ?_
  refine Tr.region ?_
  refine TrL.cons rfl (op_box' rfl (bl rfl) rfl rfl rfl (fun b11 => ?_))
  refine TrL.cons rfl (op_alloc' rfl (bl rfl) rfl ze51 (fun b12 => ?_))
  refine TrL.cons rfl (op_alloc' rfl (bl rfl) rfl ze26 (fun b13 => ?_))
  refine TrL.nil (qthen_n ?_)
  refine Tr.seq ?_
  refine Tr.region ?_
  refine TrL.v (v_load (k := 2) rfl rfl rfl ty51 nofun rfl rfl) rfl rfl (bl rfl) ?_
  obtain ⟨r11, hr11, H⟩ := bnd H
  refine TrL.cons rfl (op_call0' (vs := [.agg #[.slice A1 p1.1.length c1, .int .i64 p1.2], .int .u64 1024]) (cap := []) [0] rfl rfl (bl rfl) rfl rfl en73 (c_ref02_Read p1 ((1024 : Int)) A1 c1 r11 hr11) rfl (fun ret M' F' hR11 => ?_))
  obtain ⟨m16, rfl, rfl, rfl⟩ := hR11
  refine TrL.v (v_move rfl rfl) rfl rfl (bl rfl) ?_
  refine TrL.v (v_extract rfl rfl rfl) rfl rfl (bl rfl) ?_
  refine TrL.v (v_extract rfl rfl rfl) rfl rfl (bl rfl) ?_
  refine TrL.cons rfl (op_alloc' rfl (bl rfl) rfl ze51 (fun b14 => ?_))
  refine TrL.cons rfl (op_store' (k := 0) (c' := [.slice m16.1 r11.1.length m16.2, .int .i64 r11.2.1]) rfl rfl rfl rfl rfl ty51 rfl (Nat.le_of_ble_eq_true rfl) (ones (oc rfl (oc rfl on))) rfl ?_)
  refine TrL.v (v_assign rfl rfl) rfl rfl (bl rfl) ?_
  refine TrL.nil (qthen_n ?_)
  refine Tr.seq ?_
  refine Tr.region ?_
  refine TrL.v (v_load (k := 0) rfl rfl rfl ty51 nofun rfl rfl) rfl rfl (bl rfl) ?_
  obtain ⟨r12, hr12, H⟩ := bnd H
  refine TrL.cons rfl (op_call0' (vs := [.agg #[.slice m16.1 r11.1.length m16.2, .int .i64 r11.2.1], .int .u64 4]) (cap := []) [1] rfl rfl (bl rfl) rfl rfl en73 (c_ref02_Read ((r11.1, r11.2.1)) ((4 : Int)) m16.1 m16.2 r12 hr12) rfl (fun ret M' F' hR12 => ?_))
  obtain ⟨m17, rfl, rfl, rfl⟩ := hR12
  refine TrL.v (v_move rfl rfl) rfl rfl (bl rfl) ?_
  refine TrL.v (v_extract rfl rfl rfl) rfl rfl (bl rfl) ?_
  refine TrL.v (v_extract rfl rfl rfl) rfl rfl (bl rfl) ?_
  refine TrL.cons rfl (op_alloc' rfl (bl rfl) rfl ze51 (fun b15 => ?_))
  refine TrL.cons rfl (op_store' (k := 0) (c' := [.slice m17.1 r12.1.length m17.2, .int .i64 r12.2.1]) rfl rfl rfl rfl rfl ty51 rfl (Nat.le_of_ble_eq_true rfl) (ones (oc rfl (oc rfl on))) rfl ?_)
  refine TrL.v (v_assign rfl rfl) rfl rfl (bl rfl) ?_
  refine TrL.nil (qthen_n ?_)
  refine Tr.seq ?_
  refine Tr.region ?_
  refine TrL.v (v_load (k := 0) rfl rfl rfl ty51 nofun rfl rfl) rfl rfl (bl rfl) ?_
  obtain ⟨r13, hr13, H⟩ := bnd H
  refine TrL.cons rfl (op_call0' (vs := [.agg #[.slice m17.1 r12.1.length m17.2, .int .i64 r12.2.1], .int .u64 52]) (cap := []) [2] rfl rfl (bl rfl) rfl rfl en73 (c_ref02_Read ((r12.1, r12.2.1)) ((52 : Int)) m17.1 m17.2 r13 hr13) rfl (fun ret M' F' hR13 => ?_))
  obtain ⟨m18, rfl, rfl, rfl⟩ := hR13
  refine TrL.v (v_move rfl rfl) rfl rfl (bl rfl) ?_
  refine TrL.v (v_extract rfl rfl rfl) rfl rfl (bl rfl) ?_
  refine TrL.v (v_extract rfl rfl rfl) rfl rfl (bl rfl) ?_
  refine TrL.cons rfl (op_alloc' rfl (bl rfl) rfl ze51 (fun b16 => ?_))
  refine TrL.cons rfl (op_store' (k := 0) (c' := [.slice m18.1 r13.1.length m18.2, .int .i64 r13.2.1]) rfl rfl rfl rfl rfl ty51 rfl (Nat.le_of_ble_eq_true rfl) (ones (oc rfl (oc rfl on))) rfl ?_)
  refine TrL.v (v_assign rfl rfl) rfl rfl (bl rfl) ?_
  refine TrL.nil (qthen_n ?_)
  refine Tr.seq ?_
  refine Tr.region ?_
  refine TrL.v (v_move rfl rfl) rfl rfl (bl rfl) ?_
  refine TrL.v (v_conv' rfl ⟨_, Try.underlying28⟩ Try.underlying3 rfl wrap_i64') rfl rfl (bl rfl) ?_
  refine TrL.v (v_move rfl rfl) rfl rfl (bl rfl) ?_
  refine TrL.v (v_conv' rfl ⟨_, Try.underlying28⟩ Try.underlying3 rfl wrap_i64') rfl rfl (bl rfl) ?_
  refine TrL.v (v_build (vs := [.int .i64 (wi64 r11.2.2), .int .i64 (wi64 r12.2.2)]) (out := [.int .i64 (wi64 r11.2.2), .int .i64 (wi64 r12.2.2), .slice none 0 0]) rfl pl26 ze26 rfl rfl) rfl rfl (bl rfl) ?_
  refine TrL.cons rfl (op_alloc' rfl (bl rfl) rfl ze26 (fun b17 => ?_))
  refine TrL.cons rfl (op_store' (k := 0) (c' := [.int .i64 (wi64 r11.2.2), .int .i64 (wi64 r12.2.2), .slice none 0 0]) rfl rfl rfl rfl rfl ty26 rfl (Nat.le_of_ble_eq_true rfl) (ones (oc rfl (oc rfl (oc rfl on)))) rfl ?_)
  refine TrL.nil (qthen_n ?_)
  refine Tr.seq ?_
  refine Tr.region ?_
  refine TrL.v (v_assign rfl rfl) rfl rfl (bl rfl) ?_
  refine TrL.nil (qthen_n ?_)
  refine Tr.seq ?_
  refine Tr.region ?_
  refine TrL.v (v_assign rfl rfl) rfl rfl (bl rfl) ?_
  refine TrL.nil (qthen_n ?_)
  refine Tr.seq ?_
  refine Tr.seq ?_
  refine Tr.region ?_
  refine TrL.v (v_assign rfl rfl) rfl rfl (bl rfl) ?_
  refine TrL.nil (qthen_n ?_)
  obtain ⟨x2, hx3, H⟩ := bnd H
  refine Tr.cutE (D := (List (List (Int × Int))) × List Int × Int) (M := Option Addr × Nat × Option Addr × Nat × Option Nat) .normal (fun _d => x2 = _d) (fun x2 m24 => ⟨[(2, .pointer (some ⟨b12, 0, none⟩)), (3, .pointer (some ⟨b13, 0, none⟩)), (8, .pointer (some ⟨b16, 0, none⟩)), (10, .pointer (some ⟨b17, 0, none⟩)), (12, .slice m24.1 x2.1.length m24.2.1)], [cells b12 [.slice none 0 0, .int .i64 0] 51, cells b13 [.int .i64 0, .int .i64 0, .slice none 0 0] 26, cells b16 [.slice m24.2.2.1 x2.2.1.length m24.2.2.2.1, .int .i64 x2.2.2] 51, cells b17 [.int .i64 (wi64 r11.2.2), .int .i64 (wi64 r12.2.2), .slice none 0 0] 26, grow 31 1 (.slice m24.1 x2.1.length m24.2.1) x2.1.length m24.2.2.2.2], [slF (rSl rp_u64_u64) m24.1 m24.2.1 x2.1, slF (rInt .u8) none 0 (([] : List Int)), slF (rSl rp_u64_u64) none 0 (([] : List (List (Int × Int)))), slF (rInt .u8) m24.2.2.1 m24.2.2.2.1 x2.2.1], []⟩) ?_ (fun x2 m24 hd3 => ?_)
  · refine Tr.block (Tr.loopI (ι := Option Addr × Nat × Option Addr × Nat × Option Nat) (step := ref11_Take_s0 r13) (fun s5 m21 => ⟨[(2, .pointer (some ⟨b12, 0, none⟩)), (3, .pointer (some ⟨b13, 0, none⟩)), (8, .pointer (some ⟨b16, 0, none⟩)), (9, .int .u64 r13.2.2), (10, .pointer (some ⟨b17, 0, none⟩)), (11, .int .u64 s5.1), (12, .slice m21.1 s5.2.1.length m21.2.1), (13, .int .u64 s5.2.2.1)], [cells b12 [.slice none 0 0, .int .i64 0] 51, cells b13 [.int .i64 0, .int .i64 0, .slice none 0 0] 26, cells b16 [.slice m21.2.2.1 s5.2.2.2.1.length m21.2.2.2.1, .int .i64 s5.2.2.2.2] 51, cells b17 [.int .i64 (wi64 r11.2.2), .int .i64 (wi64 r12.2.2), .slice none 0 0] 26, grow 31 1 (.slice m21.1 s5.2.1.length m21.2.1) s5.2.1.length m21.2.2.2.2], [slF (rSl rp_u64_u64) m21.1 m21.2.1 s5.2.1, slF (rInt .u8) none 0 (([] : List Int)), slF (rSl rp_u64_u64) none 0 (([] : List (List (Int × Int)))), slF (rInt .u8) m21.2.2.1 m21.2.2.2.1 s5.2.2.2.1], []⟩) ((none, 0, m18.1, m18.2, none)) hx3 (Imp.full' (E := 31) (sz := 1) (A := none) (n := 0) (Imp.addF' _ (nilF (rSl rp_u64_u64)) (Imp.addF' _ (nilF (rInt .u8)) (Imp.re _ [6, 5, 2, 1, 0] [4, 5, 4, 3] (sc rfl (sc rfl (sc rfl (sc rfl (sc rfl (sc rfl (sc rfl (sc rfl sn)))))))) (by decide) rfl rfl rfl)))) (fun s5 m21 y2 hy2 hx4 => ?_))
    unfold ref11_Take_s0 at hy2
    refine Tr.seq ?_
    refine Tr.seq ?_
    refine Tr.region ?_
    refine TrL.v (v_move rfl rfl) rfl rfl (bl rfl) ?_
    refine TrL.v (v_move rfl rfl) rfl rfl (bl rfl) ?_
    refine TrL.v (v_arith rfl rfl rfl ar_lss) rfl rfl (bl rfl) ?_
    refine TrL.v (v_move rfl rfl) rfl rfl (bl rfl) ?_
    rcases ifc hy2 with ⟨h27, hy2⟩ | ⟨h27, hy2⟩
    · refine TrL.cons_yes rfl rfl rfl (bt_dec h27) (OpTr.v (v_fieldAddr' rfl fo51_1 rfl rfl) rfl (bl rfl) ?_)
      refine TrL.cons_yes rfl rfl rfl (bt_dec h27) (OpTr.v (v_load (k := 2) rfl rfl rfl ty3 (fun _ => rfl) rfl rfl) rfl (bl rfl) ?_)
      refine TrL.cons_yes rfl rfl rfl (bt_dec h27) (OpTr.v (v_arith rfl rfl rfl ar_eql) rfl (bl rfl) ?_)
      refine TrL.v (v_pick_t rfl rfl (bt_dec h27) rfl) rfl rfl (bl rfl) ?_
      refine TrL.nil (qthen_n ?_)
      rcases ifc hy2 with ⟨h28, hy2⟩ | ⟨h28, hy2⟩
      · refine Tr.cond_t rfl (bt_dec h28) ?_
        refine Tr.skip (qthen_n ?_)
        refine Tr.seq ?_
        refine Tr.block ?_
        refine Tr.seq ?_
        refine Tr.region ?_
        refine TrL.v (v_load (k := 2) rfl rfl rfl ty51 nofun rfl rfl) rfl rfl (bl rfl) ?_
        refine TrL.v (v_move rfl rfl) rfl rfl (bl rfl) ?_
        obtain ⟨r16, hr16, hy2⟩ := bnd hy2
        refine TrL.cons rfl (op_call0' (vs := [.agg #[.slice m21.2.2.1 s5.2.2.2.1.length m21.2.2.2.1, .int .i64 s5.2.2.2.2], .int .u64 s5.1]) (cap := []) [3] rfl rfl (bl rfl) rfl rfl en74 (c_ref11_spans s5.2.2.2 s5.1 m21.2.2.1 m21.2.2.2.1 r16 hr16) rfl (fun ret M' F' hR16 => ?_))
        obtain ⟨m25, rfl, rfl, rfl⟩ := hR16
        refine TrL.v (v_move rfl rfl) rfl rfl (bl rfl) ?_
        refine TrL.v (v_extract rfl rfl rfl) rfl rfl (bl rfl) ?_
        refine TrL.v (v_extract rfl rfl rfl) rfl rfl (bl rfl) ?_
        refine TrL.v (v_extract rfl rfl rfl) rfl rfl (bl rfl) ?_
        refine TrL.cons rfl (op_alloc' rfl (bl rfl) rfl ze51 (fun b20 => ?_))
        refine TrL.cons rfl (op_store' (k := 0) (c' := [.slice m25.1 r16.1.length m25.2.1, .int .i64 r16.2.1]) rfl rfl rfl rfl rfl ty51 rfl (Nat.le_of_ble_eq_true rfl) (ones (oc rfl (oc rfl on))) rfl ?_)
        refine TrL.v (v_assign rfl rfl) rfl rfl (bl rfl) ?_
        refine TrL.v (v_assign rfl rfl) rfl rfl (bl rfl) ?_
        refine TrL.nil (qthen_n ?_)
        refine Tr.seq ?_
        refine Tr.region ?_
        refine TrL.v (v_load (k := 0) rfl rfl rfl ty51 nofun rfl rfl) rfl rfl (bl rfl) ?_
        refine TrL.cons rfl (op_store' (k := 3) (c' := [.slice m25.1 r16.1.length m25.2.1, .int .i64 r16.2.1]) rfl rfl rfl rfl rfl ty51 rfl (Nat.le_of_ble_eq_true rfl) (ones (oc rfl (oc rfl on))) rfl ?_)
        refine TrL.nil (qthen_n ?_)
        refine Tr.seq ?_
        refine Tr.region ?_
        refine TrL.v (v_move rfl rfl) rfl rfl (bl rfl) ?_
        refine TrL.v (v_assign rfl rfl) rfl rfl (bl rfl) ?_
        refine TrL.nil (qthen_n ?_)
        refine Tr.region ?_
        refine TrL.v (v_move rfl rfl) rfl rfl (bl rfl) ?_
        refine TrL.v (v_move rfl rfl) rfl rfl (bl rfl) ?_
        refine TrL.cons rfl (op_buildSlice' (rp := (rSl rp_u64_u64)) (xs := [r16.2.2.1]) (vs := [.slice m25.2.2.1 r16.2.2.1.length m25.2.2.2]) (out := [.slice m25.2.2.1 r16.2.2.1.length m25.2.2.2]) rfl (bl rfl) rfl sl24 ty31 ze31 rfl rfl (by decide) (by decide) rfl (fun γ w hF => (rowc ⟨_, _, rfl, hF _ (List.mem_of_getElem? (i := 5) rfl)⟩ rown rfl)) (fun A12 => ?_))
        obtain ⟨h29, hy2⟩ := rom hy2
        refine TrL.cons rfl (op_append' (rp := (rSl rp_u64_u64)) (xs := s5.2.1) (ys := [r16.2.2.1]) (k := 5) (kx := 0) (ky := 6) rfl (bl rfl) rfl sl24 ty31 ze31 rfl by31 rfl rfl rfl rfl rfl rfl rfl h29.1 h29.2 (fun A13 c7 o6 => ?_))
        refine TrL.v (v_assign rfl rfl) rfl rfl (bl rfl) ?_
        refine TrL.nil (qblock_n (qthen_n ?_))
        refine Tr.region ?_
        refine TrL.v (v_move rfl rfl) rfl rfl (bl rfl) ?_
        refine TrL.v (v_arith rfl rfl rfl ar_add_u64) rfl rfl (bl rfl) ?_
        refine TrL.v (v_assign rfl rfl) rfl rfl (bl rfl) ?_
        have hz := Option.some.inj hy2
        subst hz
        refine TrL.nil (qloop_n ((A13, c7, m25.1, m25.2.1, o6)) (Imp.re _ [1, 2, 3, 4, 5] [7, 1, 2, 4] (sc rfl (sc rfl (sc rfl (sc rfl (sc rfl (sc rfl (sc rfl (sc rfl sn)))))))) (by decide) rfl rfl rfl))
      · refine Tr.cond_f rfl (bf_dec h28) ?_
        have hz := Option.some.inj hy2
        subst hz
        refine Tr.exit (qthen_x (qloop_x (qblock_hit (qcut_hit ((s5.2.1, s5.2.2.2.1, s5.2.2.2.2)) ((m21.1, m21.2.1, m21.2.2.1, m21.2.2.2.1, m21.2.2.2.2)) (hx4 _ rfl).symm (Imp.re _ [0, 1, 2, 3, 4] [0, 1, 2, 3] (sc rfl (sc rfl (sc rfl (sc rfl (sc rfl sn))))) (by decide) rfl rfl rfl)))))
    · refine TrL.cons_no rfl rfl rfl (gn_t (bf_dec h27)) rfl (bl rfl) ?_
      refine TrL.cons_no rfl rfl rfl (gn_t (bf_dec h27)) rfl (bl rfl) ?_
      refine TrL.cons_no rfl rfl rfl (gn_t (bf_dec h27)) rfl (bl rfl) ?_
      refine TrL.v (v_pick_f rfl rfl (bf_dec h27) rfl) rfl rfl (bl rfl) ?_
      refine TrL.nil (qthen_n ?_)
      refine Tr.cond_f rfl rfl ?_
      have hz := Option.some.inj hy2
      subst hz
      refine Tr.exit (qthen_x (qloop_x (qblock_hit (qcut_hit ((s5.2.1, s5.2.2.2.1, s5.2.2.2.2)) ((m21.1, m21.2.1, m21.2.2.1, m21.2.2.2.1, m21.2.2.2.2)) (hx4 _ rfl).symm (Imp.re _ [0, 1, 2, 3, 4] [0, 1, 2, 3] (sc rfl (sc rfl (sc rfl (sc rfl (sc rfl sn))))) (by decide) rfl rfl rfl)))))
  · subst hd3
    refine (qthen_n ?_)
    refine Tr.seq ?_
    refine Tr.region ?_
    refine TrL.v (v_move rfl rfl) rfl rfl (bl rfl) ?_
    obtain ⟨r17, hr17, H⟩ := bnd H
    refine TrL.cons rfl (op_call0' (vs := [.slice m24.1 x2.1.length m24.2.1]) (cap := []) [0] rfl rfl (bl rfl) rfl rfl en75 (c_ref11_turned x2.1 m24.1 m24.2.1 r17 hr17) rfl (fun ret M' F' hR17 => ?_))
    obtain ⟨m26, rfl, rfl, rfl⟩ := hR17
    refine TrL.v (v_fieldAddr' rfl fo26_2 rfl rfl) rfl rfl (bl rfl) ?_
    refine TrL.cons rfl (op_store' (k := 3) (c' := [.int .i64 (wi64 r11.2.2), .int .i64 (wi64 r12.2.2), .slice m26.1 r17.length m26.2]) rfl rfl rfl rfl rfl ty24 rfl (Nat.le_of_ble_eq_true rfl) (ones (oc rfl on)) rfl ?_)
    refine TrL.nil (qthen_n ?_)
    refine Tr.seq ?_
    refine Tr.seq ?_
    obtain ⟨j2, hj2, H⟩ := bnd H
    refine Tr.cutE (D := Bool) (M := Unit) .normal (fun _d => j2 = _d) (fun j2 m29 => ⟨[(2, .pointer (some ⟨b12, 0, none⟩)), (3, .pointer (some ⟨b13, 0, none⟩)), (8, .pointer (some ⟨b16, 0, none⟩)), (10, .pointer (some ⟨b17, 0, none⟩)), (70, .bool j2)], [cells b12 [.slice none 0 0, .int .i64 0] 51, cells b13 [.int .i64 0, .int .i64 0, .slice none 0 0] 26, cells b16 [.slice m24.2.2.1 x2.2.1.length m24.2.2.2.1, .int .i64 x2.2.2] 51, cells b17 [.int .i64 (wi64 r11.2.2), .int .i64 (wi64 r12.2.2), .slice m26.1 r17.length m26.2] 26], [slF (rInt .u8) none 0 (([] : List Int)), slF (rSl rp_u64_u64) none 0 (([] : List (List (Int × Int)))), slF (rInt .u8) m24.2.2.1 m24.2.2.2.1 x2.2.1, slF (rSl rp_u64_u64) m26.1 m26.2 r17], []⟩) ?_ (fun j2 m29 hd4 => ?_)
    · refine Tr.region ?_
      refine TrL.v (v_fieldAddr' rfl fo51_1 rfl rfl) rfl rfl (bl rfl) ?_
      refine TrL.v (v_load (k := 2) rfl rfl rfl ty3 (fun _ => rfl) rfl rfl) rfl rfl (bl rfl) ?_
      refine TrL.v (v_arith rfl rfl rfl ar_eql) rfl rfl (bl rfl) ?_
      refine TrL.v (v_move rfl rfl) rfl rfl (bl rfl) ?_
      rcases ifc hj2 with ⟨h32, hj2⟩ | ⟨h32, hj2⟩
      · refine TrL.cons_yes rfl rfl rfl (bt_dec h32) (OpTr.v (v_load (k := 3) rfl rfl rfl ty26 nofun rfl rfl) rfl (bl rfl) ?_)
        obtain ⟨r20, hr20, hj2⟩ := bnd hj2
        refine TrL.cons_yes rfl rfl rfl (bt_dec h32) (op_call0' (vs := [.agg #[.int .i64 (wi64 r11.2.2), .int .i64 (wi64 r12.2.2), .slice m26.1 r17.length m26.2]]) (cap := []) [4] rfl rfl (bl rfl) rfl rfl en35 (c_ref09_Hist ((wi64 r11.2.2, wi64 r12.2.2, r17)) m26.1 m26.2 r20 hr20) rfl (fun ret M' F' hR20 => ?_))
        obtain ⟨rfl, rfl, rfl⟩ := hR20
        refine TrL.cons_yes rfl rfl rfl (bt_dec h32) (OpTr.v (v_arith rfl rfl rfl ar_neq) rfl (bl rfl) ?_)
        refine TrL.v (v_pick_t rfl rfl (bt_dec h32) rfl) rfl rfl (bl rfl) ?_
        refine TrL.nil (qcut_hit (decide (¬ r20 = 0)) (()) (Option.some.inj hj2).symm (Imp.re _ [0, 1, 2, 3] [1, 2, 3, 4] (sc rfl (sc rfl (sc rfl (sc rfl (sc rfl sn))))) (by decide) rfl rfl rfl))
      · refine TrL.cons_no rfl rfl rfl (gn_t (bf_dec h32)) rfl (bl rfl) ?_
        refine TrL.cons_no rfl rfl rfl (gn_t (bf_dec h32)) rfl (bl rfl) ?_
        refine TrL.cons_no rfl rfl rfl (gn_t (bf_dec h32)) rfl (bl rfl) ?_
        refine TrL.v (v_pick_f rfl rfl (bf_dec h32) rfl) rfl rfl (bl rfl) ?_
        refine TrL.nil (qcut_hit false (()) (Option.some.inj hj2).symm (Imp.re _ [0, 1, 2, 3] [1, 2, 3, 4] (sc rfl (sc rfl (sc rfl (sc rfl (sc rfl sn))))) (by decide) rfl rfl rfl))
    · subst hd4
      refine (qthen_n ?_)
      rcases ifc H with ⟨h33, H⟩ | ⟨h33, H⟩
      · refine Tr.cond_t rfl h33 ?_
        refine Tr.region ?_
        refine TrL.v (v_fieldAddr' rfl fo51_1 rfl rfl) rfl rfl (bl rfl) ?_
        refine TrL.cons rfl (op_store' (k := 2) (c' := [.slice m24.2.2.1 x2.2.1.length m24.2.2.2.1, .int .i64 2]) rfl rfl rfl rfl rfl ty3 rfl (Nat.le_of_ble_eq_true rfl) (ones (oc rfl on)) rfl ?_)
        refine TrL.nil (qthen_n ?_)
        refine Tr.seq ?_
        refine Tr.seq ?_
        refine Tr.region ?_
        refine TrL.v (v_fieldAddr' rfl fo51_1 rfl rfl) rfl rfl (bl rfl) ?_
        refine TrL.v (v_load (k := 2) rfl rfl rfl ty3 (fun _ => rfl) rfl rfl) rfl rfl (bl rfl) ?_
        refine TrL.v (v_arith (v := .bool true) rfl rfl rfl rfl) rfl rfl (bl rfl) ?_
        refine TrL.nil (qthen_n ?_)
        refine Tr.cond_t rfl rfl ?_
        refine Tr.seq ?_
        refine Tr.region ?_
        refine TrL.v (v_load (k := 2) rfl rfl rfl ty51 nofun rfl rfl) rfl rfl (bl rfl) ?_
        refine TrL.v (v_build (vs := []) (out := [.int .i64 0, .int .i64 0, .slice none 0 0]) rfl pl26 ze26 rfl rfl) rfl rfl (bl rfl) ?_
        refine TrL.cons rfl (op_store' (k := 0) (c' := [.slice m24.2.2.1 x2.2.1.length m24.2.2.2.1, .int .i64 2]) rfl rfl rfl rfl rfl ty51 rfl (Nat.le_of_ble_eq_true rfl) (ones (oc rfl (oc rfl on))) rfl ?_)
        refine TrL.cons rfl (op_store' (k := 1) (c' := [.int .i64 0, .int .i64 0, .slice none 0 0]) rfl rfl rfl rfl rfl ty26 rfl (Nat.le_of_ble_eq_true rfl) (ones (oc rfl (oc rfl (oc rfl on)))) rfl ?_)
        refine TrL.nil (qthen_n ?_)
        have hz := Option.some.inj H
        subst hz
        refine Tr.ret (qthen_r (ret_r ⟨[(2, .pointer (some ⟨b12, 0, none⟩)), (3, .pointer (some ⟨b13, 0, none⟩))], [cells b12 [.slice m24.2.2.1 x2.2.1.length m24.2.2.2.1, .int .i64 2] 51, cells b13 [.int .i64 0, .int .i64 0, .slice none 0 0] 26], [slF (rInt .u8) m24.2.2.1 m24.2.2.2.1 x2.2.1, slF (rSl rp_u64_u64) none 0 (([] : List (List (Int × Int))))], []⟩ [.agg #[.slice m24.2.2.1 x2.2.1.length m24.2.2.2.1, .int .i64 2], .agg #[.int .i64 0, .int .i64 0, .slice none 0 0]] [] [cells b12 [.slice m24.2.2.1 x2.2.1.length m24.2.2.2.1, .int .i64 2] 51, cells b13 [.int .i64 0, .int .i64 0, .slice none 0 0] 26] (Imp.re _ [0, 1] [2, 1] (sc rfl (sc rfl sn)) (by decide) rfl rfl rfl) rfl rfl ⟨((m24.2.2.1, m24.2.2.2.1, none, 0)), rfl, rfl, rfl⟩ (.cons (resv_cell (k := 0) rfl rfl ty51 nofun rfl rfl) (.cons (resv_cell (k := 1) rfl rfl ty26 nofun rfl rfl) .nil))))
      · refine Tr.cond_f rfl (bf_b h33) ?_
        refine Tr.skip (qthen_n ?_)
        refine Tr.seq ?_
        refine Tr.seq ?_
        refine Tr.region ?_
        refine TrL.v (v_fieldAddr' rfl fo51_1 rfl rfl) rfl rfl (bl rfl) ?_
        refine TrL.v (v_load (k := 2) rfl rfl rfl ty3 (fun _ => rfl) rfl rfl) rfl rfl (bl rfl) ?_
        refine TrL.v (v_arith rfl rfl rfl ar_neq) rfl rfl (bl rfl) ?_
        refine TrL.nil (qthen_n ?_)
        rcases ifc H with ⟨h34, H⟩ | ⟨h34, H⟩
        · refine Tr.cond_t rfl (bt_dec h34) ?_
          refine Tr.seq ?_
          refine Tr.region ?_
          refine TrL.v (v_load (k := 2) rfl rfl rfl ty51 nofun rfl rfl) rfl rfl (bl rfl) ?_
          refine TrL.v (v_build (vs := []) (out := [.int .i64 0, .int .i64 0, .slice none 0 0]) rfl pl26 ze26 rfl rfl) rfl rfl (bl rfl) ?_
          refine TrL.cons rfl (op_store' (k := 0) (c' := [.slice m24.2.2.1 x2.2.1.length m24.2.2.2.1, .int .i64 x2.2.2]) rfl rfl rfl rfl rfl ty51 rfl (Nat.le_of_ble_eq_true rfl) (ones (oc rfl (oc rfl on))) rfl ?_)
          refine TrL.cons rfl (op_store' (k := 1) (c' := [.int .i64 0, .int .i64 0, .slice none 0 0]) rfl rfl rfl rfl rfl ty26 rfl (Nat.le_of_ble_eq_true rfl) (ones (oc rfl (oc rfl (oc rfl on)))) rfl ?_)
          refine TrL.nil (qthen_n ?_)
          have hz := Option.some.inj H
          subst hz
          refine Tr.ret (qthen_r (ret_r ⟨[(2, .pointer (some ⟨b12, 0, none⟩)), (3, .pointer (some ⟨b13, 0, none⟩))], [cells b12 [.slice m24.2.2.1 x2.2.1.length m24.2.2.2.1, .int .i64 x2.2.2] 51, cells b13 [.int .i64 0, .int .i64 0, .slice none 0 0] 26], [slF (rInt .u8) m24.2.2.1 m24.2.2.2.1 x2.2.1, slF (rSl rp_u64_u64) none 0 (([] : List (List (Int × Int))))], []⟩ [.agg #[.slice m24.2.2.1 x2.2.1.length m24.2.2.2.1, .int .i64 x2.2.2], .agg #[.int .i64 0, .int .i64 0, .slice none 0 0]] [] [cells b12 [.slice m24.2.2.1 x2.2.1.length m24.2.2.2.1, .int .i64 x2.2.2] 51, cells b13 [.int .i64 0, .int .i64 0, .slice none 0 0] 26] (Imp.re _ [0, 1] [2, 1] (sc rfl (sc rfl sn)) (by decide) rfl rfl rfl) rfl rfl ⟨((m24.2.2.1, m24.2.2.2.1, none, 0)), rfl, rfl, rfl⟩ (.cons (resv_cell (k := 0) rfl rfl ty51 nofun rfl rfl) (.cons (resv_cell (k := 1) rfl rfl ty26 nofun rfl rfl) .nil))))
        · refine Tr.cond_f rfl (bf_dec h34) ?_
          refine Tr.skip (qthen_n ?_)
          refine Tr.seq ?_
          refine Tr.regionD drawn (fun hok => ?_)
          refine TrAny.prom (i := 0) (d := 77) hok (OpVal.plain rfl rfl (v_load (k := 2) rfl rfl rfl ty51 nofun rfl rfl)) (by kernel_rfl) rfl (bl rfl) ?_
          clear hok
          intro hok
          refine TrAny.prom (i := 1) (d := 78) hok (OpVal.plain rfl rfl (v_load (k := 3) rfl rfl rfl ty26 nofun rfl rfl)) (by kernel_rfl) rfl (bl rfl) ?_
          clear hok
          intro hok
          refine TrAny.next (j := 2) (by kernel_rfl) hok rfl (by kernel_rfl) (op_store' (k := 0) (c' := [.slice m24.2.2.1 x2.2.1.length m24.2.2.2.1, .int .i64 x2.2.2]) rfl rfl rfl rfl rfl ty51 rfl (Nat.le_of_ble_eq_true rfl) (ones (oc rfl (oc rfl on))) rfl ?_)
          refine nxs hok (kp_all (ac (.inl (by kernel_rfl)) (ac (.inr (OpVal.plain rfl rfl (v_load (k := 3) rfl rfl rfl ty26 nofun rfl rfl))) an))) rfl ?_
          clear hok
          intro hok
          refine TrAny.next (j := 3) (by kernel_rfl) hok rfl (by kernel_rfl) (op_store' (k := 1) (c' := [.int .i64 (wi64 r11.2.2), .int .i64 (wi64 r12.2.2), .slice m26.1 r17.length m26.2]) rfl rfl rfl rfl rfl ty26 rfl (Nat.le_of_ble_eq_true rfl) (ones (oc rfl (oc rfl (oc rfl on)))) rfl ?_)
          refine nxs hok (kp_aw (by kernel_rfl)) rfl ?_
          clear hok
          intro hok
          refine TrAny.done (by kernel_rfl) (by kernel_rfl) hok (by kernel_rfl) (qthen_n ?_)
          have hz := Option.some.inj H
          subst hz
          refine Tr.ret (ret_r ⟨[(2, .pointer (some ⟨b12, 0, none⟩)), (3, .pointer (some ⟨b13, 0, none⟩))], [cells b12 [.slice m24.2.2.1 x2.2.1.length m24.2.2.2.1, .int .i64 x2.2.2] 51, cells b13 [.int .i64 (wi64 r11.2.2), .int .i64 (wi64 r12.2.2), .slice m26.1 r17.length m26.2] 26], [slF (rInt .u8) m24.2.2.1 m24.2.2.2.1 x2.2.1, slF (rSl rp_u64_u64) m26.1 m26.2 r17], []⟩ [.agg #[.slice m24.2.2.1 x2.2.1.length m24.2.2.2.1, .int .i64 x2.2.2], .agg #[.int .i64 (wi64 r11.2.2), .int .i64 (wi64 r12.2.2), .slice m26.1 r17.length m26.2]] [] [cells b12 [.slice m24.2.2.1 x2.2.1.length m24.2.2.2.1, .int .i64 x2.2.2] 51, cells b13 [.int .i64 (wi64 r11.2.2), .int .i64 (wi64 r12.2.2), .slice m26.1 r17.length m26.2] 26] (Imp.re _ [0, 1] [2, 3] (sc rfl (sc rfl sn)) (by decide) rfl rfl rfl) rfl rfl ⟨((m24.2.2.1, m24.2.2.2.1, m26.1, m26.2)), rfl, rfl, rfl⟩ (.cons (resv_cell (k := 0) rfl rfl ty51 nofun rfl rfl) (.cons (resv_cell (k := 1) rfl rfl ty26 nofun rfl rfl) .nil)))

theorem c_ref11_One (p1 : List Int) (A1 : Option Addr) (c1 : Nat) (r : Int × Int × (List (List (Int × Int))) × Int) (H : ref11_One p1 = some r) :
    Ctr Try.prog 26 [.slice A1 p1.length c1] [] [slF (rInt .u8) A1 c1 p1] (fun ret M' F' => ∃ m : Option Addr × Nat, ret = .tuple #[.agg #[.int .i64 r.1, .int .i64 r.2.1, .slice m.1 r.2.2.1.length m.2], .int .i64 r.2.2.2] ∧ M' = [] ∧ F' = [slF (rSl rp_u64_u64) m.1 m.2 r.2.2.1]) := by
  unfold ref11_One at H
  refine ctr_ofI (N := 20) Try.func26 rfl Try.ntmps26 rfl (Nat.le_of_ble_eq_true rfl) (fun γ0 w0 => ?_)
  refine Tr.seq ?_
  refine Tr.region ?_
  refine TrL.cons rfl (op_alloc' rfl (bl rfl) rfl ze26 (fun b4 => ?_))
  refine TrL.v (v_assign rfl rfl) rfl rfl (bl rfl) ?_
  refine TrL.nil (qthen_n ?_)
  refine Tr.seq ?_
  refine Tr.region ?_
  refine TrL.v (v_move rfl rfl) rfl rfl (bl rfl) ?_
  refine TrL.v (v_build (vs := [.slice A1 p1.length c1]) (out := [.slice A1 p1.length c1, .int .i64 0]) rfl pl51 ze51 rfl rfl) rfl rfl (bl rfl) ?_
  obtain ⟨r3, hr3, H⟩ := bnd H
  refine TrL.cons rfl (op_call0' (vs := [.agg #[.slice A1 p1.length c1, .int .i64 0]]) (cap := []) [0] rfl rfl (bl rfl) rfl rfl en29 (c_ref11_Take ((p1, (0 : Int))) A1 c1 r3 hr3) rfl (fun ret M' F' hR3 => ?_))
  obtain ⟨m3, rfl, rfl, rfl⟩ := hR3
  refine TrL.v (v_move rfl rfl) rfl rfl (bl rfl) ?_
  refine TrL.v (v_extract rfl rfl rfl) rfl rfl (bl rfl) ?_
  refine TrL.v (v_extract rfl rfl rfl) rfl rfl (bl rfl) ?_
  refine TrL.cons rfl (op_alloc' rfl (bl rfl) rfl ze51 (fun b5 => ?_))
  refine TrL.cons rfl (op_alloc' rfl (bl rfl) rfl ze26 (fun b6 => ?_))
  refine TrL.cons rfl (op_store' (k := 1) (c' := [.slice m3.1 r3.1.length m3.2.1, .int .i64 r3.2.1]) rfl rfl rfl rfl rfl ty51 rfl (Nat.le_of_ble_eq_true rfl) (ones (oc rfl (oc rfl on))) rfl ?_)
  refine TrL.cons rfl (op_store' (k := 0) (c' := [.int .i64 r3.2.2.1, .int .i64 r3.2.2.2.1, .slice m3.2.2.1 r3.2.2.2.2.length m3.2.2.2]) rfl rfl rfl rfl rfl ty26 rfl (Nat.le_of_ble_eq_true rfl) (ones (oc rfl (oc rfl (oc rfl on)))) rfl ?_)
  refine TrL.nil (qthen_n ?_)
  refine Tr.seq ?_
  refine Tr.region ?_
  refine TrL.v (v_load (k := 1) rfl rfl rfl ty51 nofun rfl rfl) rfl rfl (bl rfl) ?_
  obtain ⟨r4, hr4, H⟩ := bnd H
  refine TrL.cons rfl (op_call0' (vs := [.agg #[.slice m3.1 r3.1.length m3.2.1, .int .i64 r3.2.1]]) (cap := []) [1] rfl rfl (bl rfl) rfl rfl en68 (c_ref02_End ((r3.1, r3.2.1)) m3.1 m3.2.1 r4 hr4) rfl (fun ret M' F' hR4 => ?_))
  obtain ⟨rfl, rfl, rfl⟩ := hR4
  refine TrL.v (v_assign rfl rfl) rfl rfl (bl rfl) ?_
  refine TrL.nil (qthen_n ?_)
  refine Tr.seq ?_
  refine Tr.seq ?_
  refine Tr.region ?_
  refine TrL.v (v_move rfl rfl) rfl rfl (bl rfl) ?_
  refine TrL.v (v_arith rfl rfl rfl ar_neq) rfl rfl (bl rfl) ?_
  refine TrL.nil (qthen_n ?_)
  rcases ifc H with ⟨h2, H⟩ | ⟨h2, H⟩
  · refine Tr.cond_t rfl (bt_dec h2) ?_
    refine Tr.seq ?_
    refine Tr.region ?_
    refine TrL.v (v_build (vs := []) (out := [.int .i64 0, .int .i64 0, .slice none 0 0]) rfl pl26 ze26 rfl rfl) rfl rfl (bl rfl) ?_
    refine TrL.v (v_move rfl rfl) rfl rfl (bl rfl) ?_
    refine TrL.cons rfl (op_store' (k := 2) (c' := [.int .i64 0, .int .i64 0, .slice none 0 0]) rfl rfl rfl rfl rfl ty26 rfl (Nat.le_of_ble_eq_true rfl) (ones (oc rfl (oc rfl (oc rfl on)))) rfl ?_)
    refine TrL.v (v_assign rfl rfl) rfl rfl (bl rfl) ?_
    refine TrL.nil (qthen_n ?_)
    have hz := Option.some.inj H
    subst hz
    refine Tr.ret (qthen_r (ret_r ⟨[(2, .pointer (some ⟨b4, 0, none⟩)), (3, .int .i64 r4)], [cells b4 [.int .i64 0, .int .i64 0, .slice none 0 0] 26], [slF (rSl rp_u64_u64) none 0 (([] : List (List (Int × Int))))], []⟩ [.agg #[.int .i64 0, .int .i64 0, .slice none 0 0], .int .i64 r4] [] [cells b4 [.int .i64 0, .int .i64 0, .slice none 0 0] 26] (Imp.addF' _ (nilF (rSl rp_u64_u64)) (Imp.re _ [2] [3] (sc rfl (sc rfl sn)) (by decide) rfl rfl rfl)) rfl rfl ⟨((none, 0)), rfl, rfl, rfl⟩ (.cons (resv_cell (k := 0) rfl rfl ty26 nofun rfl rfl) (.cons (resv_tmp rfl) .nil))))
  · refine Tr.cond_f rfl (bf_dec h2) ?_
    refine Tr.skip (qthen_n ?_)
    refine Tr.seq ?_
    refine Tr.region ?_
    refine TrL.v (v_load (k := 0) rfl rfl rfl ty26 nofun rfl rfl) rfl rfl (bl rfl) ?_
    refine TrL.cons rfl (op_store' (k := 2) (c' := [.int .i64 r3.2.2.1, .int .i64 r3.2.2.2.1, .slice m3.2.2.1 r3.2.2.2.2.length m3.2.2.2]) rfl rfl rfl rfl rfl ty26 rfl (Nat.le_of_ble_eq_true rfl) (ones (oc rfl (oc rfl (oc rfl on)))) rfl ?_)
    refine TrL.v (v_assign rfl rfl) rfl rfl (bl rfl) ?_
    refine TrL.nil (qthen_n ?_)
    have hz := Option.some.inj H
    subst hz
    refine Tr.ret (ret_r ⟨[(2, .pointer (some ⟨b4, 0, none⟩)), (3, .int .i64 0)], [cells b4 [.int .i64 r3.2.2.1, .int .i64 r3.2.2.2.1, .slice m3.2.2.1 r3.2.2.2.2.length m3.2.2.2] 26], [slF (rSl rp_u64_u64) m3.2.2.1 m3.2.2.2 r3.2.2.2.2], []⟩ [.agg #[.int .i64 r3.2.2.1, .int .i64 r3.2.2.2.1, .slice m3.2.2.1 r3.2.2.2.2.length m3.2.2.2], .int .i64 0] [] [cells b4 [.int .i64 r3.2.2.1, .int .i64 r3.2.2.2.1, .slice m3.2.2.1 r3.2.2.2.2.length m3.2.2.2] 26] (Imp.re _ [2] [2] (sc rfl (sc rfl sn)) (by decide) rfl rfl rfl) rfl rfl ⟨((m3.2.2.1, m3.2.2.2)), rfl, rfl, rfl⟩ (.cons (resv_cell (k := 0) rfl rfl ty26 nofun rfl rfl) (.cons (resv_tmp rfl) .nil)))
end Go.Proofs.Ytbeknohemgjfbaa.W
