import Derived.Test.YtbeknohemgjfbaaKcv
import Derived.Test.YtbeknohemgjfbaaQcv
namespace Go.Proofs.Ytbeknohemgjfbaa.W
open Go Go.Proofs Go.Proofs.Ytbeknohemgjfbaa.L Go.Proofs.Ytbeknohemgjfbaa.Pu
set_option linter.unusedVariables false
set_option maxHeartbeats 4000000

theorem c_varint_digits (p1 : Int) (r : Unit) (H : varint_digits p1 = some r) :
  Ctr Try.prog 163 [.int .u64 p1] [] [] (fun ret M' F' => ∃ m : Nat, ret = .func (.func 183) #[] #[.pointer (some ⟨m, 0, none⟩)] ∧ M' = [cells m [.int .u64 p1] 28] ∧ F' = []) := by
 unfold varint_digits at H
 refine ctr_ofI (N := 4) Try.func163 rfl Try.ntmps163 rfl (Nat.le_of_ble_eq_true rfl) (fun γ0 w0 => ?_)
 refine Tr.seq ?_
 refine Tr.region ?_
 refine TrL.cons rfl (op_box' rfl (bl rfl) rfl rfl rfl (fun b2 => ?_))
 refine TrL.v (v_assign rfl rfl) rfl rfl (bl rfl) ?_
 refine TrL.nil (qthen_n ?_)
 refine Tr.seq ?_
 refine Tr.region ?_
 refine TrL.v (v_makeFunc (vs := [.pointer (some ⟨b2, 0, none⟩)]) rfl rfl) rfl rfl (bl rfl) ?_
 refine TrL.v (v_assign rfl rfl) rfl rfl (bl rfl) ?_
 refine TrL.nil (qthen_n ?_)
 have hz := Option.some.inj H
 subst hz
 refine Tr.ret (ret_r ⟨[(2, .func (.func 183) #[] #[.pointer (some ⟨b2, 0, none⟩)])], [cells b2 [.int .u64 p1] 28], [], []⟩ [.func (.func 183) #[] #[.pointer (some ⟨b2, 0, none⟩)]] [cells b2 [.int .u64 p1] 28] [] (Imp.re _ [0] [] (sc rfl sn) (by decide) rfl rfl rfl) rfl rfl ⟨b2, rfl, rfl, rfl⟩ (.cons (resv_tmp rfl) .nil))

theorem c_varint_digits_1 {σ ι : Type} (y : (Int × Bool) → σ → Option (Bool × σ)) (C : σ → ι → Chunk) (l : Nat) (hy : ∀ (x : Int × Bool) (xm : Unit) (s : σ) (m : ι) (bo : Bool) (s' : σ), y x s = some (bo, s') → YCtr Try.prog l [.int .u8 x.1, .bool x.2] [C s m] [] (fun ret M' F' => ∃ m', ret = .bool bo ∧ M' = [C s' m'] ∧ F' = [])) (p1 : Int) (s0 : σ) (b1 : Nat) (m0 : ι) (r : Int × σ) (H : varint_digits_1 y p1 s0 = some r) :
  Ctr Try.prog 183 [.func (.yield l) #[] #[], .pointer (some ⟨b1, 0, none⟩)] [C s0 m0, cells b1 [.int .u64 p1] 28] [] (fun ret M' F' => ∃ m : ι, ret = ret1 [] ∧ M' = [C r.2 m, cells b1 [.int .u64 r.1] 28] ∧ F' = []) := by
 unfold varint_digits_1 at H
 refine ctr_ofI (N := 19) Try.func183 rfl Try.ntmps183 rfl (Nat.le_of_ble_eq_true rfl) (fun γ0 w0 => ?_)
 obtain ⟨x2, hx3, H⟩ := bnd H
 refine Tr.cutE (D := Int × σ) (M := ι) .ret (fun _d => x2 = _d) (fun x2 m18 => ⟨[(1, .pointer (some ⟨b1, 0, none⟩))], [C x2.2 m18, cells b1 [.int .u64 x2.1] 28], [], []⟩) ?_ (fun x2 m18 hd2 => ?_)
 ·refine Tr.block (Tr.loopI (ι := ι) (step := varint_digits_1_s0 y) (fun s5 m14 => ⟨[(0, .func (.yield l) #[] #[]), (1, .pointer (some ⟨b1, 0, none⟩))], [C s5.2 m14, cells b1 [.int .u64 s5.1] 28], [], []⟩) m0 hx3 (Imp.re _ [0, 1] [] (sc rfl (sc rfl sn)) (by decide) rfl rfl rfl) (fun s5 m14 y2 hy2 hx4 => ?_))
  unfold varint_digits_1_s0 at hy2
  refine Tr.block ?_
  refine Tr.seq ?_
  refine Tr.region ?_
  refine TrL.v (v_load (k := 1) rfl rfl rfl ty28 (fun _ => rfl) rfl rfl) rfl rfl (bl rfl) ?_
  refine TrL.v (v_arith rfl rfl rfl ar_gtr) rfl rfl (bl rfl) ?_
  refine TrL.v (v_assign rfl rfl) rfl rfl (bl rfl) ?_
  refine TrL.nil (qthen_n ?_)
  refine Tr.seq ?_
  refine Tr.seq ?_
  refine Tr.region ?_
  refine TrL.v (v_move rfl rfl) rfl rfl (bl rfl) ?_
  refine TrL.v (v_load (k := 1) rfl rfl rfl ty28 (fun _ => rfl) rfl rfl) rfl rfl (bl rfl) ?_
  refine TrL.v (v_arith rfl rfl rfl ar_and_u64) rfl rfl (bl rfl) ?_
  refine TrL.v (v_conv' rfl ⟨_, Try.underlying28⟩ Try.underlying5 rfl wrap_u8') rfl rfl (bl rfl) ?_
  refine TrL.v (v_move rfl rfl) rfl rfl (bl rfl) ?_
  obtain ⟨r12, hr12, hy2⟩ := bnd hy2
  refine TrL.cons rfl (op_yield (vs := [.int .u8 (wu8 (wu64 (andk 64 s5.1 127))), .bool (decide (127 < s5.1))]) (Mr := [cells b1 [.int .u64 s5.1] 28]) [0] [1] [] rfl rfl rfl (hy ((wu8 (wu64 (andk 64 s5.1 127)), decide (127 < s5.1))) (()) s5.2 m14 r12.1 r12.2 hr12) (by decide) rfl rfl rfl (bl rfl) (fun ret M' F' hR12 => ?_))
  obtain ⟨m20, rfl, rfl, rfl⟩ := hR12
  refine TrL.v (v_notd rfl (bdec rfl)) rfl rfl (bl rfl) ?_
  refine TrL.v (v_move rfl rfl) rfl rfl (bl rfl) ?_
  rcases ifc hy2 with ⟨h17, hy2⟩ | ⟨h17, hy2⟩
  ·refine TrL.cons_no rfl rfl rfl (gn_f (bt_dec h17)) rfl (bl rfl) ?_
   refine TrL.cons_no rfl rfl rfl (gn_f (bt_dec h17)) rfl (bl rfl) ?_
   refine TrL.v (v_pick_t rfl rfl (bt_dec h17) rfl) rfl rfl (bl rfl) ?_
   refine TrL.nil (qthen_n ?_)
   refine Tr.cond_t rfl rfl ?_
   have hz := Option.some.inj hy2
   subst hz
   refine Tr.ret (qthen_r (qblock_r (qloop_r (qblock_r (qcut_hit ((s5.1, r12.2)) m20 (hx4 _ rfl).symm (Imp.re _ [0, 1] [] (sc rfl sn) (by decide) rfl rfl rfl))))))
  ·refine TrL.cons_yes rfl rfl rfl (bf_dec h17) (OpTr.v (v_move rfl rfl) rfl (bl rfl) ?_)
   refine TrL.cons_yes rfl rfl rfl (bf_dec h17) (OpTr.v (v_notd rfl rfl) rfl (bl rfl) ?_)
   refine TrL.v (v_pick_f rfl rfl (bf_dec h17) rfl) rfl rfl (bl rfl) ?_
   refine TrL.nil (qthen_n ?_)
   rcases ifc hy2 with ⟨h18, hy2⟩ | ⟨h18, hy2⟩
   ·refine Tr.cond_t rfl (bt_dec h18) ?_
    have hz := Option.some.inj hy2
    subst hz
    refine Tr.ret (qthen_r (qblock_r (qloop_r (qblock_r (qcut_hit ((s5.1, r12.2)) m20 (hx4 _ rfl).symm (Imp.re _ [0, 1] [] (sc rfl sn) (by decide) rfl rfl rfl))))))
   ·refine Tr.cond_f rfl (bf_dec h18) ?_
    refine Tr.skip (qthen_n ?_)
    refine Tr.region ?_
    refine TrL.v (v_load (k := 1) rfl rfl rfl ty28 (fun _ => rfl) rfl rfl) rfl rfl (bl rfl) ?_
    refine TrL.v (v_shr' rfl rfl rfl (by decide) rfl) rfl rfl (bl rfl) ?_
    refine TrL.cons rfl (op_store' (k := 1) (c' := [.int .u64 (shrk 64 s5.1 7)]) rfl rfl rfl rfl rfl ty28 rfl (Nat.le_of_ble_eq_true rfl) (ones (oc rfl on)) rfl ?_)
    have hz := Option.some.inj hy2
    subst hz
    refine TrL.nil (qblock_n (qloop_n m20 (Imp.re _ [0, 1] [] (sc rfl (sc rfl sn)) (by decide) rfl rfl rfl)))
 ·subst hd2
  have hz := Option.some.inj H
  subst hz
  refine (ret_r ⟨[], [C x2.2 m18, cells b1 [.int .u64 x2.1] 28], [], []⟩ [] [C x2.2 m18, cells b1 [.int .u64 x2.1] 28] [] (Imp.re _ [0, 1] [] sn (by decide) rfl rfl rfl) rfl rfl ⟨m18, rfl, rfl, rfl⟩ .nil)

theorem c_varint_Put (p1 : Int) (r : List Int) (H : varint_Put p1 = some r) :
  Ctr Try.prog 126 [.int .u64 p1] [] [] (fun ret M' F' => ∃ m : Option Addr × Nat × Option Nat, ret = .slice m.1 r.length m.2.1 ∧ M' = [grow 5 1 (.slice m.1 r.length m.2.1) r.length m.2.2] ∧ F' = [slF (rInt .u8) m.1 m.2.1 r]) := by
 unfold varint_Put at H
 refine ctr_ofI (N := 18) Try.func126 rfl Try.ntmps126 rfl (Nat.le_of_ble_eq_true rfl) (fun γ0 w0 => ?_)
 refine Tr.seq ?_
 refine Tr.region ?_
 refine TrL.v (v_assign rfl rfl) rfl rfl (bl rfl) ?_
 refine TrL.nil (qthen_n ?_)
 refine Tr.seq ?_
 refine Tr.region ?_
 refine TrL.cons rfl (op_alloc' rfl (bl rfl) rfl ze40 (fun b3 => ?_))
 refine TrL.nil (qthen_n ?_)
 refine Tr.seq ?_
 refine Tr.seq ?_
 refine Tr.region ?_
 refine TrL.v (v_move rfl rfl) rfl rfl (bl rfl) ?_
 obtain ⟨r2, hr2, H⟩ := bnd H
 refine TrL.cons rfl (op_call0' (vs := [.int .u64 p1]) (cap := []) [] rfl rfl (bl rfl) rfl rfl en163 (c_varint_digits p1 r2 hr2) rfl (fun ret M' F' hR2 => ?_))
 obtain ⟨m5, rfl, rfl, rfl⟩ := hR2
 refine TrL.nil (qthen_n ?_)
 refine Tr.block ?_
 refine Tr.full (E := 5) (sz := 1) (A := none) (n := 0) ?_
 refine Tr.addF (slF (rInt .u8) none 0 []) (nilF (rInt .u8)) ?_
 obtain ⟨j2, hj2, H⟩ := bnd H
 refine Tr.rangeF (ps := [8, 9]) (X := Int × Bool) (D := List Int) (E := Empty) (ι := Option Addr × Nat × Option Nat) (ιE := Unit) (μ := Unit) (κ := ((Option Addr × Nat × Option Nat) ⊕ Unit)) (cap := [.pointer (some ⟨m5, 0, none⟩)]) (TM := fun d5 m7 => [cells b3 [.slice m7.1 d5.length m7.2.1] 40, grow 5 1 (.slice m7.1 d5.length m7.2.1) d5.length m7.2.2]) (TF := fun d5 m7 => [slF (rInt .u8) m7.1 m7.2.1 d5]) (EM := fun _ _ => []) (EF := fun _ _ => []) (jmp := fun _ => .ret) (step := varint_Put_r0) (encs := fun x2 xm2 => [.int .u8 x2.1, .bool x2.2]) (FX := fun x2 xm2 => []) (d0 := ([] : List Int)) (m0 := (none, 0, none)) (x := j2.2) (Mp := [cells m5 [.int .u64 p1] 28]) (Mr := []) (Fp := []) (Mq := fun k2 => [cells m5 [.int .u64 j2.1] 28]) (Fq := fun k2 => []) [2, 0, 1] [0] [] rfl en183 (by decide) rfl rfl rfl (fun l2 C2 hy4 => ?_) (by decide) (ps_lt rfl) (fun _ _ => rfl) (fun l2 bs1 γ1 w1 x2 xm2 d5 m7 y2 hy3 => ?_) (fun d5 m7 k2 b4 hx2 => ?_) (fun q qm k2 b4 hx2 => ?_)
 ·exact (c_varint_digits_1 (yl (varint_Put_r0)) C2 l2 hy4 p1 (.inl (([] : List Int))) m5 (.inl ((none, 0, none))) j2 hj2).mono (fun ret M' F' hR => by obtain ⟨k2, _, hM, hF⟩ := hR; exact ⟨k2, k2, hM, hF⟩)
 ·unfold varint_Put_r0 at hy3
  refine Tr.seq ?_
  refine Tr.region ?_
  refine TrL.v (v_assign rfl rfl) rfl rfl (bl rfl) ?_
  refine TrL.nil (qthen_n ?_)
  refine Tr.region ?_
  refine TrL.v (v_assign rfl rfl) rfl rfl (bl rfl) ?_
  refine TrL.nil (⟨rfl, fun bs2 γ2 w2 => ?_⟩)
  refine Tr.block ?_
  refine Tr.seq ?_
  refine Tr.seq ?_
  refine Tr.region ?_
  refine TrL.v (v_move rfl rfl) rfl rfl (bl rfl) ?_
  refine TrL.nil (qthen_n ?_)
  rcases ifc hy3 with ⟨h16, hy3⟩ | ⟨h16, hy3⟩
  ·refine Tr.cond_t rfl h16 ?_
   refine Tr.region ?_
   refine TrL.v (v_move rfl rfl) rfl rfl (bl rfl) ?_
   refine TrL.v (v_arith rfl rfl rfl ar_or_u8) rfl rfl (bl rfl) ?_
   refine TrL.v (v_assign rfl rfl) rfl rfl (bl rfl) ?_
   refine TrL.nil (qthen_n ?_)
   refine Tr.region ?_
   refine TrL.v (v_load (k := 0) rfl rfl rfl ty40 (fun _ => rfl) rfl rfl) rfl rfl (bl rfl) ?_
   refine TrL.v (v_move rfl rfl) rfl rfl (bl rfl) ?_
   refine TrL.cons rfl (op_buildSlice' (rp := (rInt .u8)) (xs := [wu8 (ork 8 x2.1 128)]) (vs := [.int .u8 (wu8 (ork 8 x2.1 128))]) (out := [.int .u8 (wu8 (ork 8 x2.1 128))]) rfl (bl rfl) rfl sl40 ty5 ze5 rfl rfl (by decide) (by decide) rfl (fun γ w hF => (rowc rfl rown rfl)) (fun A21 => ?_))
   obtain ⟨h17, hy3⟩ := rom hy3
   refine TrL.cons rfl (op_append' (rp := (rInt .u8)) (xs := d5) (ys := [wu8 (ork 8 x2.1 128)]) (k := 1) (kx := 0) (ky := 1) rfl (bl rfl) rfl sl40 ty5 ze5 rfl by5 rfl rfl rfl rfl rfl rfl rfl h17.1 h17.2 (fun A22 c11 o11 => ?_))
   refine TrL.cons rfl (op_store' (k := 0) (c' := [.slice A22 ((d5 ++ ([wu8 (ork 8 x2.1 128)])).length) c11]) rfl rfl rfl rfl rfl ty40 rfl (Nat.le_of_ble_eq_true rfl) (ones (oc rfl on)) rfl ?_)
   have hz := Option.some.inj hy3
   subst hz
   refine TrL.nil (qblock_n (⟨d5 ++ ([wu8 (ork 8 x2.1 128)]), (A22, c11, o11), rfl, Imp.re _ [0, 1] [2] sn (by decide) rfl rfl rfl⟩))
  ·refine Tr.cond_f rfl (bf_b h16) ?_
   refine Tr.skip (qthen_n ?_)
   refine Tr.region ?_
   refine TrL.v (v_load (k := 0) rfl rfl rfl ty40 (fun _ => rfl) rfl rfl) rfl rfl (bl rfl) ?_
   refine TrL.v (v_move rfl rfl) rfl rfl (bl rfl) ?_
   refine TrL.cons rfl (op_buildSlice' (rp := (rInt .u8)) (xs := [x2.1]) (vs := [.int .u8 x2.1]) (out := [.int .u8 x2.1]) rfl (bl rfl) rfl sl40 ty5 ze5 rfl rfl (by decide) (by decide) rfl (fun γ w hF => (rowc rfl rown rfl)) (fun A23 => ?_))
   obtain ⟨h18, hy3⟩ := rom hy3
   refine TrL.cons rfl (op_append' (rp := (rInt .u8)) (xs := d5) (ys := [x2.1]) (k := 1) (kx := 0) (ky := 1) rfl (bl rfl) rfl sl40 ty5 ze5 rfl by5 rfl rfl rfl rfl rfl rfl rfl h18.1 h18.2 (fun A24 c12 o12 => ?_))
   refine TrL.cons rfl (op_store' (k := 0) (c' := [.slice A24 ((d5 ++ ([x2.1])).length) c12]) rfl rfl rfl rfl rfl ty40 rfl (Nat.le_of_ble_eq_true rfl) (ones (oc rfl on)) rfl ?_)
   have hz := Option.some.inj hy3
   subst hz
   refine TrL.nil (qblock_n (⟨d5 ++ ([x2.1]), (A24, c12, o12), rfl, Imp.re _ [0, 1] [2] sn (by decide) rfl rfl rfl⟩))
 ·rw [hx2] at H
  replace H := suml H
  refine (qblock_n (qthen_n ?_))
  refine Tr.seq ?_
  refine Tr.region ?_
  refine TrL.v (v_load (k := 1) rfl rfl rfl ty40 (fun _ => rfl) rfl rfl) rfl rfl (bl rfl) ?_
  refine TrL.v (v_assign rfl rfl) rfl rfl (bl rfl) ?_
  refine TrL.nil (qthen_n ?_)
  have hz := Option.some.inj H
  subst hz
  refine Tr.ret (ret_rm ⟨[(2, .slice m7.1 d5.length m7.2.1)], [objc b4 (.deferred (some [])), grow 5 1 (.slice m7.1 d5.length m7.2.1) d5.length m7.2.2], [slF (rInt .u8) m7.1 m7.2.1 d5], [dmark b4]⟩ [.slice m7.1 d5.length m7.2.1] [grow 5 1 (.slice m7.1 d5.length m7.2.1) d5.length m7.2.2] [] [b4] (Imp.re _ [0, 2] [1] (sc rfl sn) (by decide) rfl rfl rfl) rfl rfl ⟨((m7.1, m7.2.1, m7.2.2)), rfl, rfl, rfl⟩ (.cons (resv_tmp rfl) .nil))
 ·exact q.elim

theorem c_varint_Take (p1 : List Int) (A1 : Option Addr) (c1 : Nat) (r : Int × Int × Int) (H : varint_Take p1 = some r) :
  Ctr Try.prog 164 [.slice A1 p1.length c1] [] [slF (rInt .u8) A1 c1 p1] (fun ret M' F' => ret = .tuple #[.int .u64 r.1, .int .i64 r.2.1, .int .i64 r.2.2] ∧ M' = [] ∧ F' = []) := by
 unfold varint_Take at H
 refine ctr_ofI (N := 56) Try.func164 rfl Try.ntmps164 rfl (Nat.le_of_ble_eq_true rfl) (fun γ0 w0 => ?_)
 refine Tr.seq ?_
 refine Tr.region ?_
 refine TrL.v (v_assign rfl rfl) rfl rfl (bl rfl) ?_
 refine TrL.v (v_assign rfl rfl) rfl rfl (bl rfl) ?_
 refine TrL.v (v_assign rfl rfl) rfl rfl (bl rfl) ?_
 refine TrL.nil (qthen_n ?_)
 refine Tr.seq ?_
 refine Tr.region ?_
 refine TrL.v (v_assign rfl rfl) rfl rfl (bl rfl) ?_
 refine TrL.nil (qthen_n ?_)
 refine Tr.seq ?_
 refine Tr.seq ?_
 refine Tr.region ?_
 refine TrL.v (v_move rfl rfl) rfl rfl (bl rfl) ?_
 refine TrL.v (v_len rfl sl40 rfl) rfl rfl (bl rfl) ?_
 refine TrL.v (v_min rfl rfl rfl) rfl rfl (bl rfl) ?_
 refine TrL.v (v_move rfl rfl) rfl rfl (bl rfl) ?_
 refine TrL.nil (qthen_n ?_)
 obtain ⟨x2, hx3, H⟩ := bnd H
 refine Tr.cutE (D := Int × Int × Int) (M := Unit) .ret (fun d3 => x2 = .inl d3) (fun d3 m12 => ⟨[(2, .int .u64 d3.1), (3, .int .i64 d3.2.1), (4, .int .i64 d3.2.2)], [], [], []⟩) ?_ (fun d3 m12 hd7 => ?_)
 ·refine Tr.cutE (D := Unit) (M := Unit) .normal (fun d4 => x2 = .inr d4) (fun d4 m13 => ⟨[(0, .slice A1 p1.length c1)], [], [slF (rInt .u8) A1 c1 p1], []⟩) ?_ (fun d4 m13 hd8 => ?_)
  ·refine Tr.block (Tr.loopI (ι := Unit) (step := varint_Take_s0 p1) (fun s5 m9 => ⟨[(0, .slice A1 p1.length c1), (5, .int .u64 s5.1), (9, .int .i64 (min ((p1.length : Int)) 10)), (10, .int .i64 s5.2)], [], [slF (rInt .u8) A1 c1 p1], []⟩) (()) hx3 (Imp.re _ [] [0] (sc rfl (sc rfl (sc rfl (sc rfl sn)))) (by decide) rfl rfl rfl) (fun s5 m9 y2 hy2 hx4 => ?_))
   unfold varint_Take_s0 at hy2
   refine Tr.seq ?_
   refine Tr.region ?_
   refine TrL.v (v_arith rfl rfl rfl ar_lss) rfl rfl (bl rfl) ?_
   refine TrL.nil (qthen_n ?_)
   refine Tr.seq ?_
   rcases ifc hy2 with ⟨h58, hy2⟩ | ⟨h58, hy2⟩
   ·refine Tr.cond_t rfl (bt_dec h58) ?_
    refine Tr.skip (qthen_n ?_)
    refine Tr.seq ?_
    refine Tr.block ?_
    refine Tr.seq ?_
    refine Tr.region ?_
    refine TrL.v (v_move rfl rfl) rfl rfl (bl rfl) ?_
    refine TrL.v (v_assign rfl rfl) rfl rfl (bl rfl) ?_
    refine TrL.nil (qthen_n ?_)
    refine Tr.seq ?_
    refine Tr.region ?_
    refine TrL.v (v_move rfl rfl) rfl rfl (bl rfl) ?_
    refine TrL.v (v_move rfl rfl) rfl rfl (bl rfl) ?_
    refine TrL.v (v_move rfl rfl) rfl rfl (bl rfl) ?_
    obtain ⟨z6, hz6, hy2⟩ := bnd hy2
    refine TrL.v (v_indexAddr (k := 0) rfl sl40 ty5 rfl rfl rfl rfl hz6) rfl rfl (bl rfl) ?_
    refine TrL.v (v_loadg (A := A1) (i := s5.2) (j := 0) (k := 0) rfl ty5 (fun _ => rfl) rfl rfl hz6 rfl rfl) rfl rfl (bl rfl) ?_
    refine TrL.v (v_arith rfl rfl rfl ar_and_u8) rfl rfl (bl rfl) ?_
    refine TrL.v (v_conv' rfl ⟨_, Try.underlying5⟩ Try.underlying28 rfl wrap_u64') rfl rfl (bl rfl) ?_
    refine TrL.v (v_move rfl rfl) rfl rfl (bl rfl) ?_
    refine TrL.v (v_arith rfl rfl rfl ar_mul_i64) rfl rfl (bl rfl) ?_
    obtain ⟨h59, hy2⟩ := mst hy2
    refine TrL.v (v_shl' rfl rfl rfl h59 rfl wrap_u64') rfl rfl (bl rfl) ?_
    refine TrL.v (v_arith rfl rfl rfl ar_or_u64) rfl rfl (bl rfl) ?_
    refine TrL.v (v_assign rfl rfl) rfl rfl (bl rfl) ?_
    refine TrL.nil (qthen_n ?_)
    refine Tr.seq ?_
    refine Tr.seq ?_
    refine Tr.region ?_
    refine TrL.v (v_move rfl rfl) rfl rfl (bl rfl) ?_
    refine TrL.v (v_move rfl rfl) rfl rfl (bl rfl) ?_
    refine TrL.v (v_indexAddr (k := 0) rfl sl40 ty5 rfl rfl rfl rfl hz6) rfl rfl (bl rfl) ?_
    refine TrL.v (v_loadg (A := A1) (i := s5.2) (j := 0) (k := 0) rfl ty5 (fun _ => rfl) rfl rfl hz6 rfl rfl) rfl rfl (bl rfl) ?_
    refine TrL.v (v_arith rfl rfl rfl ar_geq) rfl rfl (bl rfl) ?_
    refine TrL.nil (qthen_n ?_)
    rcases ifc hy2 with ⟨h60, hy2⟩ | ⟨h60, hy2⟩
    ·refine Tr.cond_t rfl (bt_dec h60) ?_
     refine Tr.exit (qthen_x (qblock_hit (qthen_n ?_)))
     refine Tr.region ?_
     refine TrL.v (v_arith rfl rfl rfl ar_add_i64) rfl rfl (bl rfl) ?_
     refine TrL.v (v_move rfl rfl) rfl rfl (bl rfl) ?_
     have hz := Option.some.inj hy2
     subst hz
     refine TrL.nil (qloop_n (()) (Imp.re _ [] [0] (sc rfl (sc rfl (sc rfl (sc rfl sn)))) (by decide) rfl rfl rfl))
    ·refine Tr.cond_f rfl (bf_dec h60) ?_
     refine Tr.skip (qthen_n ?_)
     refine Tr.seq ?_
     refine Tr.seq ?_
     obtain ⟨j4, hj4, hy2⟩ := bnd hy2
     refine Tr.cutE (D := Bool) (M := Unit) .normal (fun _d => j4 = _d) (fun j4 m14 => ⟨[(5, .int .u64 (wu64 (ork 64 s5.1 (wu64 (shlk 64 (wu64 (wu8 (andk 8 z6 127))) (wi64 (7 * s5.2))))))), (6, .int .i64 s5.2), (48, .bool j4)], [], [], []⟩) ?_ (fun j4 m14 hd6 => ?_)
     ·refine Tr.region ?_
      refine TrL.v (v_move rfl rfl) rfl rfl (bl rfl) ?_
      refine TrL.v (v_move rfl rfl) rfl rfl (bl rfl) ?_
      refine TrL.v (v_indexAddr (k := 0) rfl sl40 ty5 rfl rfl rfl rfl hz6) rfl rfl (bl rfl) ?_
      refine TrL.v (v_loadg (A := A1) (i := s5.2) (j := 0) (k := 0) rfl ty5 (fun _ => rfl) rfl rfl hz6 rfl rfl) rfl rfl (bl rfl) ?_
      refine TrL.v (v_arith rfl rfl rfl ar_eql) rfl rfl (bl rfl) ?_
      refine TrL.v (v_move rfl rfl) rfl rfl (bl rfl) ?_
      rcases ifc hj4 with ⟨h69, hj4⟩ | ⟨h69, hj4⟩
      ·refine TrL.cons_yes rfl rfl rfl (bt_dec h69) (OpTr.v (v_move rfl rfl) rfl (bl rfl) ?_)
       refine TrL.cons_yes rfl rfl rfl (bt_dec h69) (OpTr.v (v_arith rfl rfl rfl ar_gtr) rfl (bl rfl) ?_)
       refine TrL.v (v_pick_t rfl rfl (bt_dec h69) rfl) rfl rfl (bl rfl) ?_
       refine TrL.v (v_move rfl rfl) rfl rfl (bl rfl) ?_
       rcases ifc hj4 with ⟨h70, hj4⟩ | ⟨h70, hj4⟩
       ·refine TrL.cons_no rfl rfl rfl (gn_f (bt_dec h70)) rfl (bl rfl) ?_
        refine TrL.cons_no rfl rfl rfl (gn_f (bt_dec h70)) rfl (bl rfl) ?_
        refine TrL.cons_no rfl rfl rfl (gn_f (bt_dec h70)) rfl (bl rfl) ?_
        refine TrL.cons_un rfl rfl rfl rfl (bl rfl) ?_
        refine TrL.cons_un rfl rfl rfl rfl (bl rfl) ?_
        refine TrL.cons_un rfl rfl rfl rfl (bl rfl) ?_
        refine TrL.cons_un rfl rfl rfl rfl (bl rfl) ?_
        refine TrL.cons_un rfl rfl rfl rfl (bl rfl) ?_
        refine TrL.cons_no rfl rfl rfl (gn_f (bt_dec h70)) rfl (bl rfl) ?_
        refine TrL.v (v_pick_t rfl rfl (bt_dec h70) rfl) rfl rfl (bl rfl) ?_
        refine TrL.nil (qcut_hit true (()) (Option.some.inj hj4).symm (Imp.re _ [] [] (sc rfl (sc rfl (sc rfl sn))) (by decide) rfl rfl rfl))
       ·refine TrL.cons_yes rfl rfl rfl (bf_dec h70) (OpTr.v (v_move rfl rfl) rfl (bl rfl) ?_)
        refine TrL.cons_yes rfl rfl rfl (bf_dec h70) (OpTr.v (v_arith rfl rfl rfl ar_eql) rfl (bl rfl) ?_)
        refine TrL.cons_yes rfl rfl rfl (bf_dec h70) (OpTr.v (v_move rfl rfl) rfl (bl rfl) ?_)
        rcases ifc hj4 with ⟨h71, hj4⟩ | ⟨h71, hj4⟩
        ·refine TrL.cons_yes rfl rfl rfl (bt_dec h71) (OpTr.v (v_move rfl rfl) rfl (bl rfl) ?_)
         refine TrL.cons_yes rfl rfl rfl (bt_dec h71) (OpTr.v (v_move rfl rfl) rfl (bl rfl) ?_)
         refine TrL.cons_yes rfl rfl rfl (bt_dec h71) (OpTr.v (v_indexAddr (k := 0) rfl sl40 ty5 rfl rfl rfl rfl hz6) rfl (bl rfl) ?_)
         refine TrL.cons_yes rfl rfl rfl (bt_dec h71) (OpTr.v (v_loadg (A := A1) (i := s5.2) (j := 0) (k := 0) rfl ty5 (fun _ => rfl) rfl rfl hz6 rfl rfl) rfl (bl rfl) ?_)
         refine TrL.cons_yes rfl rfl rfl (bt_dec h71) (OpTr.v (v_arith rfl rfl rfl ar_gtr) rfl (bl rfl) ?_)
         refine TrL.cons_yes rfl rfl rfl (bf_dec h70) (OpTr.v (v_pick_t rfl rfl (bt_dec h71) rfl) rfl (bl rfl) ?_)
         refine TrL.v (v_pick_f rfl rfl (bf_dec h70) rfl) rfl rfl (bl rfl) ?_
         refine TrL.nil (qcut_hit (decide (1 < z6)) (()) (Option.some.inj hj4).symm (Imp.re _ [] [] (sc rfl (sc rfl (sc rfl sn))) (by decide) rfl rfl rfl))
        ·refine TrL.cons_no rfl rfl rfl (gn_t (bf_dec h71)) rfl (bl rfl) ?_
         refine TrL.cons_no rfl rfl rfl (gn_t (bf_dec h71)) rfl (bl rfl) ?_
         refine TrL.cons_no rfl rfl rfl (gn_t (bf_dec h71)) rfl (bl rfl) ?_
         refine TrL.cons_no rfl rfl rfl (gn_t (bf_dec h71)) rfl (bl rfl) ?_
         refine TrL.cons_no rfl rfl rfl (gn_t (bf_dec h71)) rfl (bl rfl) ?_
         refine TrL.cons_yes rfl rfl rfl (bf_dec h70) (OpTr.v (v_pick_f rfl rfl (bf_dec h71) rfl) rfl (bl rfl) ?_)
         refine TrL.v (v_pick_f rfl rfl (bf_dec h70) rfl) rfl rfl (bl rfl) ?_
         refine TrL.nil (qcut_hit false (()) (Option.some.inj hj4).symm (Imp.re _ [] [] (sc rfl (sc rfl (sc rfl sn))) (by decide) rfl rfl rfl))
      ·refine TrL.cons_no rfl rfl rfl (gn_t (bf_dec h69)) rfl (bl rfl) ?_
       refine TrL.cons_no rfl rfl rfl (gn_t (bf_dec h69)) rfl (bl rfl) ?_
       refine TrL.v (v_pick_f rfl rfl (bf_dec h69) rfl) rfl rfl (bl rfl) ?_
       refine TrL.v (v_move rfl rfl) rfl rfl (bl rfl) ?_
       refine TrL.cons_yes rfl rfl rfl rfl (OpTr.v (v_move rfl rfl) rfl (bl rfl) ?_)
       refine TrL.cons_yes rfl rfl rfl rfl (OpTr.v (v_arith rfl rfl rfl ar_eql) rfl (bl rfl) ?_)
       refine TrL.cons_yes rfl rfl rfl rfl (OpTr.v (v_move rfl rfl) rfl (bl rfl) ?_)
       rcases ifc hj4 with ⟨h72, hj4⟩ | ⟨h72, hj4⟩
       ·refine TrL.cons_yes rfl rfl rfl (bt_dec h72) (OpTr.v (v_move rfl rfl) rfl (bl rfl) ?_)
        refine TrL.cons_yes rfl rfl rfl (bt_dec h72) (OpTr.v (v_move rfl rfl) rfl (bl rfl) ?_)
        refine TrL.cons_yes rfl rfl rfl (bt_dec h72) (OpTr.v (v_indexAddr (k := 0) rfl sl40 ty5 rfl rfl rfl rfl hz6) rfl (bl rfl) ?_)
        refine TrL.cons_yes rfl rfl rfl (bt_dec h72) (OpTr.v (v_loadg (A := A1) (i := s5.2) (j := 0) (k := 0) rfl ty5 (fun _ => rfl) rfl rfl hz6 rfl rfl) rfl (bl rfl) ?_)
        refine TrL.cons_yes rfl rfl rfl (bt_dec h72) (OpTr.v (v_arith rfl rfl rfl ar_gtr) rfl (bl rfl) ?_)
        refine TrL.cons_yes rfl rfl rfl rfl (OpTr.v (v_pick_t rfl rfl (bt_dec h72) rfl) rfl (bl rfl) ?_)
        refine TrL.v (v_pick_f rfl rfl rfl rfl) rfl rfl (bl rfl) ?_
        refine TrL.nil (qcut_hit (decide (1 < z6)) (()) (Option.some.inj hj4).symm (Imp.re _ [] [] (sc rfl (sc rfl (sc rfl sn))) (by decide) rfl rfl rfl))
       ·refine TrL.cons_no rfl rfl rfl (gn_t (bf_dec h72)) rfl (bl rfl) ?_
        refine TrL.cons_no rfl rfl rfl (gn_t (bf_dec h72)) rfl (bl rfl) ?_
        refine TrL.cons_no rfl rfl rfl (gn_t (bf_dec h72)) rfl (bl rfl) ?_
        refine TrL.cons_no rfl rfl rfl (gn_t (bf_dec h72)) rfl (bl rfl) ?_
        refine TrL.cons_no rfl rfl rfl (gn_t (bf_dec h72)) rfl (bl rfl) ?_
        refine TrL.cons_yes rfl rfl rfl rfl (OpTr.v (v_pick_f rfl rfl (bf_dec h72) rfl) rfl (bl rfl) ?_)
        refine TrL.v (v_pick_f rfl rfl rfl rfl) rfl rfl (bl rfl) ?_
        refine TrL.nil (qcut_hit false (()) (Option.some.inj hj4).symm (Imp.re _ [] [] (sc rfl (sc rfl (sc rfl sn))) (by decide) rfl rfl rfl))
     ·subst hd6
      refine (qthen_n ?_)
      rcases ifc hy2 with ⟨h73, hy2⟩ | ⟨h73, hy2⟩
      ·refine Tr.cond_t rfl h73 ?_
       refine Tr.seq ?_
       refine Tr.region ?_
       refine TrL.v (v_assign rfl rfl) rfl rfl (bl rfl) ?_
       refine TrL.v (v_assign rfl rfl) rfl rfl (bl rfl) ?_
       refine TrL.v (v_assign rfl rfl) rfl rfl (bl rfl) ?_
       refine TrL.nil (qthen_n ?_)
       have hz := Option.some.inj hy2
       subst hz
       refine Tr.ret (qthen_r (qblock_r (qthen_r (qloop_r (qblock_r (qcut_miss (by simp) (qcut_hit (((0 : Int), (0 : Int), (2 : Int))) (()) (hx4 _ rfl).symm (Imp.re _ [] [] (sc rfl (sc rfl (sc rfl sn))) (by decide) rfl rfl rfl))))))))
      ·refine Tr.cond_f rfl (bf_b h73) ?_
       refine Tr.skip (qthen_n ?_)
       refine Tr.seq ?_
       refine Tr.region ?_
       refine TrL.v (v_move rfl rfl) rfl rfl (bl rfl) ?_
       refine TrL.v (v_move rfl rfl) rfl rfl (bl rfl) ?_
       refine TrL.v (v_arith rfl rfl rfl ar_add_i64) rfl rfl (bl rfl) ?_
       refine TrL.v (v_assign rfl rfl) rfl rfl (bl rfl) ?_
       refine TrL.v (v_assign rfl rfl) rfl rfl (bl rfl) ?_
       refine TrL.v (v_assign rfl rfl) rfl rfl (bl rfl) ?_
       refine TrL.nil (qthen_n ?_)
       have hz := Option.some.inj hy2
       subst hz
       refine Tr.ret (qblock_r (qthen_r (qloop_r (qblock_r (qcut_miss (by simp) (qcut_hit ((wu64 (ork 64 s5.1 (wu64 (shlk 64 (wu64 (wu8 (andk 8 z6 127))) (wi64 (7 * s5.2))))), wi64 (s5.2 + 1), (0 : Int))) (()) (hx4 _ rfl).symm (Imp.re _ [] [] (sc rfl (sc rfl (sc rfl sn))) (by decide) rfl rfl rfl)))))))
   ·refine Tr.cond_f rfl (bf_dec h58) ?_
    have hz := Option.some.inj hy2
    subst hz
    refine Tr.exit (qthen_x (qloop_x (qblock_hit (qcut_hit (()) (()) (hx4 _ rfl).symm (Imp.re _ [] [0] (sc rfl sn) (by decide) rfl rfl rfl)))))
  ·subst hd8
   replace H := sumr H
   refine (qcut_miss (by simp) (qthen_n ?_))
   refine Tr.seq ?_
   refine Tr.seq ?_
   refine Tr.region ?_
   refine TrL.v (v_move rfl rfl) rfl rfl (bl rfl) ?_
   refine TrL.v (v_len rfl sl40 rfl) rfl rfl (bl rfl) ?_
   refine TrL.v (v_arith rfl rfl rfl ar_geq) rfl rfl (bl rfl) ?_
   refine TrL.nil (qthen_n ?_)
   rcases ifc H with ⟨h74, H⟩ | ⟨h74, H⟩
   ·refine Tr.cond_t rfl (bt_dec h74) ?_
    refine Tr.seq ?_
    refine Tr.region ?_
    refine TrL.v (v_assign rfl rfl) rfl rfl (bl rfl) ?_
    refine TrL.v (v_assign rfl rfl) rfl rfl (bl rfl) ?_
    refine TrL.v (v_assign rfl rfl) rfl rfl (bl rfl) ?_
    refine TrL.nil (qthen_n ?_)
    have hz := Option.some.inj H
    subst hz
    refine Tr.ret (qthen_r (ret_r ⟨[(2, .int .u64 0), (3, .int .i64 0), (4, .int .i64 2)], [], [], []⟩ [.int .u64 0, .int .i64 0, .int .i64 2] [] [] (Imp.re _ [] [] (sc rfl (sc rfl (sc rfl sn))) (by decide) rfl rfl rfl) rfl rfl ⟨rfl, rfl, rfl⟩ (.cons (resv_tmp rfl) (.cons (resv_tmp rfl) (.cons (resv_tmp rfl) .nil)))))
   ·refine Tr.cond_f rfl (bf_dec h74) ?_
    refine Tr.skip (qthen_n ?_)
    refine Tr.seq ?_
    refine Tr.region ?_
    refine TrL.v (v_assign rfl rfl) rfl rfl (bl rfl) ?_
    refine TrL.v (v_assign rfl rfl) rfl rfl (bl rfl) ?_
    refine TrL.v (v_assign rfl rfl) rfl rfl (bl rfl) ?_
    refine TrL.nil (qthen_n ?_)
    have hz := Option.some.inj H
    subst hz
    refine Tr.ret (ret_r ⟨[(2, .int .u64 0), (3, .int .i64 0), (4, .int .i64 3)], [], [], []⟩ [.int .u64 0, .int .i64 0, .int .i64 3] [] [] (Imp.re _ [] [] (sc rfl (sc rfl (sc rfl sn))) (by decide) rfl rfl rfl) rfl rfl ⟨rfl, rfl, rfl⟩ (.cons (resv_tmp rfl) (.cons (resv_tmp rfl) (.cons (resv_tmp rfl) .nil))))
 ·subst hd7
  replace H := suml H
  have hz := Option.some.inj H
  subst hz
  refine (qthen_r (ret_r ⟨[(2, .int .u64 d3.1), (3, .int .i64 d3.2.1), (4, .int .i64 d3.2.2)], [], [], []⟩ [.int .u64 d3.1, .int .i64 d3.2.1, .int .i64 d3.2.2] [] [] (Imp.re _ [] [] (sc rfl (sc rfl (sc rfl sn))) (by decide) rfl rfl rfl) rfl rfl ⟨rfl, rfl, rfl⟩ (.cons (resv_tmp rfl) (.cons (resv_tmp rfl) (.cons (resv_tmp rfl) .nil)))))
end Go.Proofs.Ytbeknohemgjfbaa.W
