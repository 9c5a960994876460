/- The contracts of the walked functions: the printed walks. -/
import Derived.Test.YtbeknohemgjfbaaKc
import Derived.Test.YtbeknohemgjfbaaQc
import Derived.Test.YtbeknohemgjfbaaWbufferbc
namespace Go.Proofs.Ytbeknohemgjfbaa.W
open Go Go.Proofs Go.Proofs.Ytbeknohemgjfbaa.L Go.Proofs.Ytbeknohemgjfbaa.Pu
set_option linter.unusedVariables false
set_option maxHeartbeats 4000000

theorem c_slices_IndexFunc_Event_v1 (p1 : List (Int × Int × Int)) (p2 : Int × Int × Int × Int × (List (Int × Int × Int)) × Int) (A1 : Option Addr) (c1 : Nat) (b1 : Nat) (A2 : Option Addr) (c2 : Nat) (b2 : Nat) (r : Int × Int × Int × Int × Int × (List (Int × Int × Int)) × Int) (H : slices_IndexFunc_Event_v1 p1 p2 = some r) :
    Ctr Try.prog 146 [.slice A1 p1.length c1, .func (.func 139) #[] #[.pointer (some ⟨b1, 0, none⟩), .pointer (some ⟨b2, 0, none⟩)]] [cells b1 [.int .u64 p2.1, .int .i64 p2.2.1, .int .u64 p2.2.2.1, .int .u64 p2.2.2.2.1, .slice A2 p2.2.2.2.2.1.length c2] 77, cells b2 [.int .u64 p2.2.2.2.2.2] 28] [slF rp_u64_u64_u64 A1 c1 p1, slF rp_u64_u64_u64 A2 c2 p2.2.2.2.2.1] (fun ret M' F' => ret = .int .i64 r.1 ∧ M' = [cells b1 [.int .u64 r.2.1, .int .i64 r.2.2.1, .int .u64 r.2.2.2.1, .int .u64 r.2.2.2.2.1, .slice A2 r.2.2.2.2.2.1.length c2] 77, cells b2 [.int .u64 r.2.2.2.2.2.2] 28] ∧ F' = [slF rp_u64_u64_u64 A2 c2 r.2.2.2.2.2.1]) := by
  unfold slices_IndexFunc_Event_v1 at H
  refine ctr_ofI (N := 19) Try.func146 rfl Try.ntmps146 rfl (Nat.le_of_ble_eq_true rfl) (fun γ0 w0 => ?_)
  refine Tr.seq ?_
  refine Tr.region ?_
  refine TrL.v (v_assign rfl rfl) rfl rfl (bl rfl) ?_
  refine TrL.nil (qthen_n ?_)
  refine Tr.seq ?_
  refine Tr.seq ?_
  refine Tr.region ?_
  refine TrL.v (v_move rfl rfl) rfl rfl (bl rfl) ?_
  refine TrL.v (v_len rfl sl71 rfl) rfl rfl (bl rfl) ?_
  refine TrL.v (v_move rfl rfl) rfl rfl (bl rfl) ?_
  refine TrL.nil (qthen_n ?_)
  obtain ⟨x2, hx3, H⟩ := bnd H
  refine Tr.cutE (D := Int × Int × Int × Int × Int × (List (Int × Int × Int)) × Int) (M := Unit) .ret (fun d3 => x2 = .inl d3) (fun d3 m14 => ⟨[(1, .func (.func 139) #[] #[.pointer (some ⟨b1, 0, none⟩), .pointer (some ⟨b2, 0, none⟩)]), (4, .int .i64 d3.1)], [cells b1 [.int .u64 d3.2.1, .int .i64 d3.2.2.1, .int .u64 d3.2.2.2.1, .int .u64 d3.2.2.2.2.1, .slice A2 d3.2.2.2.2.2.1.length c2] 77, cells b2 [.int .u64 d3.2.2.2.2.2.2] 28], [slF rp_u64_u64_u64 A2 c2 d3.2.2.2.2.2.1], []⟩) ?_ (fun d3 m14 hd3 => ?_)
  · refine Tr.cutE (D := Int × Int × Int × Int × (List (Int × Int × Int)) × Int) (M := Unit) .normal (fun d4 => x2 = .inr d4) (fun d4 m15 => ⟨[(1, .func (.func 139) #[] #[.pointer (some ⟨b1, 0, none⟩), .pointer (some ⟨b2, 0, none⟩)])], [cells b1 [.int .u64 d4.1, .int .i64 d4.2.1, .int .u64 d4.2.2.1, .int .u64 d4.2.2.2.1, .slice A2 d4.2.2.2.2.1.length c2] 77, cells b2 [.int .u64 d4.2.2.2.2.2] 28], [slF rp_u64_u64_u64 A2 c2 d4.2.2.2.2.1], []⟩) ?_ (fun d4 m15 hd4 => ?_)
    · refine Tr.block (Tr.loopI (ι := Unit) (step := slices_IndexFunc_Event_v1_s0 p1) (fun s5 m11 => ⟨[(0, .slice A1 p1.length c1), (1, .func (.func 139) #[] #[.pointer (some ⟨b1, 0, none⟩), .pointer (some ⟨b2, 0, none⟩)]), (7, .int .i64 ((p1.length : Int))), (8, .int .i64 s5.1)], [cells b1 [.int .u64 s5.2.1, .int .i64 s5.2.2.1, .int .u64 s5.2.2.2.1, .int .u64 s5.2.2.2.2.1, .slice A2 s5.2.2.2.2.2.1.length c2] 77, cells b2 [.int .u64 s5.2.2.2.2.2.2] 28], [slF rp_u64_u64_u64 A1 c1 p1, slF rp_u64_u64_u64 A2 c2 s5.2.2.2.2.2.1], []⟩) (()) hx3 (Imp.re _ [0, 1] [0, 1] (sc rfl (sc rfl (sc rfl (sc rfl sn)))) (by decide) rfl rfl rfl) (fun s5 m11 y2 hy2 hx4 => ?_))
      unfold slices_IndexFunc_Event_v1_s0 at hy2
      refine Tr.seq ?_
      refine Tr.region ?_
      refine TrL.v (v_arith rfl rfl rfl ar_lss) rfl rfl (bl rfl) ?_
      refine TrL.nil (qthen_n ?_)
      refine Tr.seq ?_
      rcases ifc hy2 with ⟨h11, hy2⟩ | ⟨h11, hy2⟩
      · refine Tr.cond_t rfl (bt_dec h11) ?_
        refine Tr.skip (qthen_n ?_)
        refine Tr.seq ?_
        refine Tr.block ?_
        refine Tr.seq ?_
        refine Tr.region ?_
        refine TrL.v (v_move rfl rfl) rfl rfl (bl rfl) ?_
        refine TrL.v (v_assign rfl rfl) rfl rfl (bl rfl) ?_
        refine TrL.nil (qthen_n ?_)
        refine Tr.seq ?_
        refine Tr.region ?_
        refine TrL.v (v_move rfl rfl) rfl rfl (bl rfl) ?_
        refine TrL.v (v_move rfl rfl) rfl rfl (bl rfl) ?_
        refine TrL.v (v_move rfl rfl) rfl rfl (bl rfl) ?_
        obtain ⟨z6, hz6, hy2⟩ := bnd hy2
        refine TrL.v (v_indexAddr (k := 0) rfl sl71 ty85 rfl rfl rfl rfl hz6) rfl rfl (bl rfl) ?_
        refine TrL.v (v_loadg (A := A1) (i := s5.1) (j := 0) (k := 0) rfl ty85 nofun rfl rfl hz6 rfl rfl) rfl rfl (bl rfl) ?_
        obtain ⟨r6, hr6, hy2⟩ := bnd hy2
        refine TrL.cons rfl (op_callg' (fs := []) (vs := [.agg #[.int .u64 z6.1, .int .u64 z6.2.1, .int .u64 z6.2.2]]) (cap := [.pointer (some ⟨b1, 0, none⟩), .pointer (some ⟨b2, 0, none⟩)]) (Mr := []) [0, 1] [] [1] rfl rfl rfl en139 (c_buffer_May_1 z6 ((s5.2.1, s5.2.2.1, s5.2.2.2.1, s5.2.2.2.2.1, s5.2.2.2.2.2.1)) s5.2.2.2.2.2.2 b1 A2 c2 b2 r6 hr6) (by decide) rfl rfl rfl (bl rfl) (fun ret M' F' hR6 => ?_))
        obtain ⟨rfl, rfl, rfl⟩ := hR6
        refine TrL.nil (qthen_n ?_)
        rcases ifc hy2 with ⟨h12, hy2⟩ | ⟨h12, hy2⟩
        · refine Tr.cond_t rfl h12 ?_
          refine Tr.seq ?_
          refine Tr.region ?_
          refine TrL.v (v_move rfl rfl) rfl rfl (bl rfl) ?_
          refine TrL.v (v_assign rfl rfl) rfl rfl (bl rfl) ?_
          refine TrL.nil (qthen_n ?_)
          have hz := Option.some.inj hy2
          subst hz
          refine Tr.ret (qblock_r (qthen_r (qloop_r (qblock_r (qcut_miss (by simp) (qcut_hit ((s5.1, ((s5.2.1, s5.2.2.1, s5.2.2.2.1, s5.2.2.2.2.1, s5.2.2.2.2.2.1)).1, ((s5.2.1, s5.2.2.1, s5.2.2.2.1, s5.2.2.2.2.1, s5.2.2.2.2.2.1)).2.1, ((s5.2.1, s5.2.2.1, s5.2.2.2.1, s5.2.2.2.2.1, s5.2.2.2.2.2.1)).2.2.1, ((s5.2.1, s5.2.2.1, s5.2.2.2.1, s5.2.2.2.2.1, s5.2.2.2.2.2.1)).2.2.2.1, ((s5.2.1, s5.2.2.1, s5.2.2.2.1, s5.2.2.2.2.1, s5.2.2.2.2.2.1)).2.2.2.2, z6.1)) (()) (hx4 _ rfl).symm (Imp.re _ [0, 1] [2] (sc rfl (sc rfl sn)) (by decide) rfl rfl rfl)))))))
        · refine Tr.cond_f rfl (bf_b h12) ?_
          refine Tr.skip (qblock_n (qthen_n ?_))
          refine Tr.region ?_
          refine TrL.v (v_arith rfl rfl rfl ar_add_i64) rfl rfl (bl rfl) ?_
          refine TrL.v (v_move rfl rfl) rfl rfl (bl rfl) ?_
          have hz := Option.some.inj hy2
          subst hz
          refine TrL.nil (qloop_n (()) (Imp.re _ [0, 1] [0, 2] (sc rfl (sc rfl (sc rfl (sc rfl sn)))) (by decide) rfl rfl rfl))
      · refine Tr.cond_f rfl (bf_dec h11) ?_
        have hz := Option.some.inj hy2
        subst hz
        refine Tr.exit (qthen_x (qloop_x (qblock_hit (qcut_hit ((s5.2.1, s5.2.2.1, s5.2.2.2.1, s5.2.2.2.2.1, s5.2.2.2.2.2.1, s5.2.2.2.2.2.2)) (()) (hx4 _ rfl).symm (Imp.re _ [0, 1] [1] (sc rfl sn) (by decide) rfl rfl rfl)))))
    · subst hd4
      replace H := sumr H
      refine (qcut_miss (by simp) (qthen_n ?_))
      refine Tr.seq ?_
      refine Tr.region ?_
      refine TrL.v (v_assign rfl rfl) rfl rfl (bl rfl) ?_
      refine TrL.nil (qthen_n ?_)
      have hz := Option.some.inj H
      subst hz
      refine Tr.ret (ret_r ⟨[(4, .int .i64 (-1))], [cells b1 [.int .u64 d4.1, .int .i64 d4.2.1, .int .u64 d4.2.2.1, .int .u64 d4.2.2.2.1, .slice A2 d4.2.2.2.2.1.length c2] 77, cells b2 [.int .u64 d4.2.2.2.2.2] 28], [slF rp_u64_u64_u64 A2 c2 d4.2.2.2.2.1], []⟩ [.int .i64 (-1)] [cells b1 [.int .u64 d4.1, .int .i64 d4.2.1, .int .u64 d4.2.2.1, .int .u64 d4.2.2.2.1, .slice A2 d4.2.2.2.2.1.length c2] 77, cells b2 [.int .u64 d4.2.2.2.2.2] 28] [] (Imp.re _ [0, 1] [0] (sc rfl sn) (by decide) rfl rfl rfl) rfl rfl ⟨rfl, rfl, rfl⟩ (.cons (resv_tmp rfl) .nil))
  · subst hd3
    replace H := suml H
    have hz := Option.some.inj H
    subst hz
    refine (qthen_r (ret_r ⟨[(4, .int .i64 d3.1)], [cells b1 [.int .u64 d3.2.1, .int .i64 d3.2.2.1, .int .u64 d3.2.2.2.1, .int .u64 d3.2.2.2.2.1, .slice A2 d3.2.2.2.2.2.1.length c2] 77, cells b2 [.int .u64 d3.2.2.2.2.2.2] 28], [slF rp_u64_u64_u64 A2 c2 d3.2.2.2.2.2.1], []⟩ [.int .i64 d3.1] [cells b1 [.int .u64 d3.2.1, .int .i64 d3.2.2.1, .int .u64 d3.2.2.2.1, .int .u64 d3.2.2.2.2.1, .slice A2 d3.2.2.2.2.2.1.length c2] 77, cells b2 [.int .u64 d3.2.2.2.2.2.2] 28] [] (Imp.re _ [0, 1] [0] (sc rfl sn) (by decide) rfl rfl rfl) rfl rfl ⟨rfl, rfl, rfl⟩ (.cons (resv_tmp rfl) .nil)))

theorem c_slices_ContainsFunc_Event (p1 : List (Int × Int × Int)) (p2 : Int × Int × Int × Int × (List (Int × Int × Int)) × Int) (A1 : Option Addr) (c1 : Nat) (b1 : Nat) (A2 : Option Addr) (c2 : Nat) (b2 : Nat) (r : Bool × Int × Int × Int × Int × (List (Int × Int × Int)) × Int) (H : slices_ContainsFunc_Event p1 p2 = some r) :
    Ctr Try.prog 138 [.slice A1 p1.length c1, .func (.func 139) #[] #[.pointer (some ⟨b1, 0, none⟩), .pointer (some ⟨b2, 0, none⟩)]] [cells b1 [.int .u64 p2.1, .int .i64 p2.2.1, .int .u64 p2.2.2.1, .int .u64 p2.2.2.2.1, .slice A2 p2.2.2.2.2.1.length c2] 77, cells b2 [.int .u64 p2.2.2.2.2.2] 28] [slF rp_u64_u64_u64 A1 c1 p1, slF rp_u64_u64_u64 A2 c2 p2.2.2.2.2.1] (fun ret M' F' => ret = .bool r.1 ∧ M' = [cells b1 [.int .u64 r.2.1, .int .i64 r.2.2.1, .int .u64 r.2.2.2.1, .int .u64 r.2.2.2.2.1, .slice A2 r.2.2.2.2.2.1.length c2] 77, cells b2 [.int .u64 r.2.2.2.2.2.2] 28] ∧ F' = [slF rp_u64_u64_u64 A2 c2 r.2.2.2.2.2.1]) := by
  unfold slices_ContainsFunc_Event at H
  refine ctr_ofI (N := 9) Try.func138 rfl Try.ntmps138 rfl (Nat.le_of_ble_eq_true rfl) (fun γ0 w0 => ?_)
  refine Tr.seq ?_
  refine Tr.region ?_
  refine TrL.v (v_assign rfl rfl) rfl rfl (bl rfl) ?_
  refine TrL.nil (qthen_n ?_)
  refine Tr.seq ?_
  refine Tr.region ?_
  refine TrL.v (v_move rfl rfl) rfl rfl (bl rfl) ?_
  refine TrL.v (v_move rfl rfl) rfl rfl (bl rfl) ?_
  obtain ⟨r2, hr2, H⟩ := bnd H
  refine TrL.cons rfl (op_callg' (fs := []) (vs := [.slice A1 p1.length c1, .func (.func 139) #[] #[.pointer (some ⟨b1, 0, none⟩), .pointer (some ⟨b2, 0, none⟩)]]) (cap := []) (Mr := []) [0, 1] [] [0, 1] rfl rfl rfl en146 (c_slices_IndexFunc_Event_v1 p1 p2 A1 c1 b1 A2 c2 b2 r2 hr2) (by decide) rfl rfl rfl (bl rfl) (fun ret M' F' hR2 => ?_))
  obtain ⟨rfl, rfl, rfl⟩ := hR2
  refine TrL.v (v_arith rfl rfl rfl ar_geq) rfl rfl (bl rfl) ?_
  refine TrL.v (v_assign rfl rfl) rfl rfl (bl rfl) ?_
  refine TrL.nil (qthen_n ?_)
  have hz := Option.some.inj H
  subst hz
  refine Tr.ret (ret_r ⟨[(4, .bool (decide (0 ≤ r2.1)))], [cells b1 [.int .u64 r2.2.1, .int .i64 r2.2.2.1, .int .u64 r2.2.2.2.1, .int .u64 r2.2.2.2.2.1, .slice A2 r2.2.2.2.2.2.1.length c2] 77, cells b2 [.int .u64 r2.2.2.2.2.2.2] 28], [slF rp_u64_u64_u64 A2 c2 r2.2.2.2.2.2.1], []⟩ [.bool (decide (0 ≤ r2.1))] [cells b1 [.int .u64 r2.2.1, .int .i64 r2.2.2.1, .int .u64 r2.2.2.2.1, .int .u64 r2.2.2.2.2.1, .slice A2 r2.2.2.2.2.2.1.length c2] 77, cells b2 [.int .u64 r2.2.2.2.2.2.2] 28] [] (Imp.re _ [0, 1] [2] (sc rfl sn) (by decide) rfl rfl rfl) rfl rfl ⟨rfl, rfl, rfl⟩ (.cons (resv_tmp rfl) .nil))
end Go.Proofs.Ytbeknohemgjfbaa.W
