/- The contracts of the walked functions: the printed walks. -/
import Derived.Test.YthgeodagikmpjaaKb
import Derived.Test.YthgeodagikmpjaaQb
import Derived.Test.YthgeodagikmpjaaWbufferbb
namespace Go.Proofs.Ythgeodagikmpjaa.W
open Go Go.Proofs Go.Proofs.Ythgeodagikmpjaa.L Go.Proofs.Ythgeodagikmpjaa.Pu
set_option linter.unusedVariables false
set_option maxHeartbeats 4000000

theorem c_slices_IndexFunc_Event_v1 (p1 : List (Int × Int × Int)) (p2 : Int × Int × Int × Int × (List (Int × Int × Int)) × Int) (A1 : Option Addr) (c1 : Nat) (b1 : Nat) (A2 : Option Addr) (c2 : Nat) (b2 : Nat) (r : Int × Int × Int × Int × Int × (List (Int × Int × Int)) × Int) (H : slices_IndexFunc_Event_v1 p1 p2 = some r) :
    Ctr Try.prog 83 [.slice A1 p1.length c1, .func (.func 72) #[] #[.pointer (some ⟨b1, 0, none⟩), .pointer (some ⟨b2, 0, none⟩)]] [cells b1 [.int .u64 p2.1, .int .i64 p2.2.1, .int .u64 p2.2.2.1, .int .u64 p2.2.2.2.1, .slice A2 p2.2.2.2.2.1.length c2] 48, cells b2 [.int .u64 p2.2.2.2.2.2] 22] [slF rp_u64_u64_u64 A1 c1 p1, slF rp_u64_u64_u64 A2 c2 p2.2.2.2.2.1] (fun ret M' F' => ret = .int .i64 r.1 ∧ M' = [cells b1 [.int .u64 r.2.1, .int .i64 r.2.2.1, .int .u64 r.2.2.2.1, .int .u64 r.2.2.2.2.1, .slice A2 r.2.2.2.2.2.1.length c2] 48, cells b2 [.int .u64 r.2.2.2.2.2.2] 22] ∧ F' = [slF rp_u64_u64_u64 A2 c2 r.2.2.2.2.2.1]) := by
  unfold slices_IndexFunc_Event_v1 at H
  refine ctr_ofI (N := 19) Try.func83 rfl Try.ntmps83 rfl (Nat.le_of_ble_eq_true rfl) (fun γ0 w0 => ?_)
  refine Tr.seq ?_
  refine Tr.region ?_
  refine TrL.v (v_assign rfl rfl) rfl rfl (bl rfl) ?_
  refine TrL.nil (qthen_n ?_)
  refine Tr.seq ?_
  refine Tr.seq ?_
  refine Tr.region ?_
  refine TrL.v (v_move rfl rfl) rfl rfl (bl rfl) ?_
  refine TrL.v (v_len rfl sl46 rfl) rfl rfl (bl rfl) ?_
  refine TrL.v (v_move rfl rfl) rfl rfl (bl rfl) ?_
  refine TrL.nil (qthen_n ?_)
  obtain ⟨x2, hx3, H⟩ := bnd H
  refine Tr.cutE (D := Int × Int × Int × Int × Int × (List (Int × Int × Int)) × Int) (M := Unit) .ret (fun d3 => x2 = .inl d3) (fun d3 m14 => ⟨[(1, .func (.func 72) #[] #[.pointer (some ⟨b1, 0, none⟩), .pointer (some ⟨b2, 0, none⟩)]), (4, .int .i64 d3.1)], [cells b1 [.int .u64 d3.2.1, .int .i64 d3.2.2.1, .int .u64 d3.2.2.2.1, .int .u64 d3.2.2.2.2.1, .slice A2 d3.2.2.2.2.2.1.length c2] 48, cells b2 [.int .u64 d3.2.2.2.2.2.2] 22], [slF rp_u64_u64_u64 A2 c2 d3.2.2.2.2.2.1], []⟩) ?_ (fun d3 m14 hd3 => ?_)
  · refine Tr.cutE (D := Int × Int × Int × Int × (List (Int × Int × Int)) × Int) (M := Unit) .normal (fun d4 => x2 = .inr d4) (fun d4 m15 => ⟨[(1, .func (.func 72) #[] #[.pointer (some ⟨b1, 0, none⟩), .pointer (some ⟨b2, 0, none⟩)])], [cells b1 [.int .u64 d4.1, .int .i64 d4.2.1, .int .u64 d4.2.2.1, .int .u64 d4.2.2.2.1, .slice A2 d4.2.2.2.2.1.length c2] 48, cells b2 [.int .u64 d4.2.2.2.2.2] 22], [slF rp_u64_u64_u64 A2 c2 d4.2.2.2.2.1], []⟩) ?_ (fun d4 m15 hd4 => ?_)
    · refine Tr.block (Tr.loopI (ι := Unit) (step := slices_IndexFunc_Event_v1_s0 p1) (fun s5 m11 => ⟨[(0, .slice A1 p1.length c1), (1, .func (.func 72) #[] #[.pointer (some ⟨b1, 0, none⟩), .pointer (some ⟨b2, 0, none⟩)]), (7, .int .i64 ((p1.length : Int))), (8, .int .i64 s5.1)], [cells b1 [.int .u64 s5.2.1, .int .i64 s5.2.2.1, .int .u64 s5.2.2.2.1, .int .u64 s5.2.2.2.2.1, .slice A2 s5.2.2.2.2.2.1.length c2] 48, cells b2 [.int .u64 s5.2.2.2.2.2.2] 22], [slF rp_u64_u64_u64 A1 c1 p1, slF rp_u64_u64_u64 A2 c2 s5.2.2.2.2.2.1], []⟩) (()) hx3 (Imp.re _ [0, 1] [0, 1] (sc rfl (sc rfl (sc rfl (sc rfl sn)))) (by decide) rfl rfl rfl) (fun s5 m11 y2 hy2 hx4 => ?_))
      unfold slices_IndexFunc_Event_v1_s0 at hy2
      refine Tr.seq ?_
      refine Tr.region ?_
      refine TrL.v (v_arith rfl rfl rfl ar_lss) rfl rfl (bl rfl) ?_
      refine TrL.nil (qthen_n ?_)
      refine Tr.seq ?_
      rcases ifc hy2 with ⟨h11, hy2⟩ | ⟨h11, hy2⟩
      · refine Tr.cond_t rfl (bt_dec h11) ?_
        refine Tr.skip (qthen_n ?_)
        refine Tr.seq ?_
        refine Tr.block ?_
        refine Tr.seq ?_
        refine Tr.region ?_
        refine TrL.v (v_move rfl rfl) rfl rfl (bl rfl) ?_
        refine TrL.v (v_assign rfl rfl) rfl rfl (bl rfl) ?_
        refine TrL.nil (qthen_n ?_)
        refine Tr.seq ?_
        refine Tr.region ?_
        refine TrL.v (v_move rfl rfl) rfl rfl (bl rfl) ?_
        refine TrL.v (v_move rfl rfl) rfl rfl (bl rfl) ?_
        refine TrL.v (v_move rfl rfl) rfl rfl (bl rfl) ?_
        obtain ⟨z6, hz6, hy2⟩ := bnd hy2
        refine TrL.v (v_indexAddr (k := 0) rfl sl46 ty55 rfl rfl rfl rfl hz6) rfl rfl (bl rfl) ?_
        refine TrL.v (v_loadg (A := A1) (i := s5.1) (j := 0) (k := 0) rfl ty55 nofun rfl rfl hz6 rfl rfl) rfl rfl (bl rfl) ?_
        obtain ⟨r6, hr6, hy2⟩ := bnd hy2
        refine TrL.cons rfl (op_callg' (fs := []) (vs := [.agg #[.int .u64 z6.1, .int .u64 z6.2.1, .int .u64 z6.2.2]]) (cap := [.pointer (some ⟨b1, 0, none⟩), .pointer (some ⟨b2, 0, none⟩)]) (Mr := []) [0, 1] [] [1] rfl rfl rfl en72 (c_buffer_May_1 z6 ((s5.2.1, s5.2.2.1, s5.2.2.2.1, s5.2.2.2.2.1, s5.2.2.2.2.2.1)) s5.2.2.2.2.2.2 b1 A2 c2 b2 r6 hr6) (by decide) rfl rfl rfl (bl rfl) (fun ret M' F' hR6 => ?_))
        obtain ⟨rfl, rfl, rfl⟩ := hR6
        refine TrL.nil (qthen_n ?_)
        rcases ifc hy2 with ⟨h12, hy2⟩ | ⟨h12, hy2⟩
        · refine Tr.cond_t rfl h12 ?_
          refine Tr.seq ?_
          refine Tr.region ?_
          refine TrL.v (v_move rfl rfl) rfl rfl (bl rfl) ?_
          refine TrL.v (v_assign rfl rfl) rfl rfl (bl rfl) ?_
          refine TrL.nil (qthen_n ?_)
          have hz := Option.some.inj hy2
          subst hz
          refine Tr.ret (qblock_r (qthen_r (qloop_r (qblock_r (qcut_miss (by simp) (qcut_hit ((s5.1, ((s5.2.1, s5.2.2.1, s5.2.2.2.1, s5.2.2.2.2.1, s5.2.2.2.2.2.1)).1, ((s5.2.1, s5.2.2.1, s5.2.2.2.1, s5.2.2.2.2.1, s5.2.2.2.2.2.1)).2.1, ((s5.2.1, s5.2.2.1, s5.2.2.2.1, s5.2.2.2.2.1, s5.2.2.2.2.2.1)).2.2.1, ((s5.2.1, s5.2.2.1, s5.2.2.2.1, s5.2.2.2.2.1, s5.2.2.2.2.2.1)).2.2.2.1, ((s5.2.1, s5.2.2.1, s5.2.2.2.1, s5.2.2.2.2.1, s5.2.2.2.2.2.1)).2.2.2.2, z6.1)) (()) (hx4 _ rfl).symm (Imp.re _ [0, 1] [2] (sc rfl (sc rfl sn)) (by decide) rfl rfl rfl)))))))
        · refine Tr.cond_f rfl (bf_b h12) ?_
          refine Tr.skip (qblock_n (qthen_n ?_))
          refine Tr.region ?_
          refine TrL.v (v_arith rfl rfl rfl ar_add_i64) rfl rfl (bl rfl) ?_
          refine TrL.v (v_move rfl rfl) rfl rfl (bl rfl) ?_
          have hz := Option.some.inj hy2
          subst hz
          refine TrL.nil (qloop_n (()) (Imp.re _ [0, 1] [0, 2] (sc rfl (sc rfl (sc rfl (sc rfl sn)))) (by decide) rfl rfl rfl))
      · refine Tr.cond_f rfl (bf_dec h11) ?_
        have hz := Option.some.inj hy2
        subst hz
        refine Tr.exit (qthen_x (qloop_x (qblock_hit (qcut_hit ((s5.2.1, s5.2.2.1, s5.2.2.2.1, s5.2.2.2.2.1, s5.2.2.2.2.2.1, s5.2.2.2.2.2.2)) (()) (hx4 _ rfl).symm (Imp.re _ [0, 1] [1] (sc rfl sn) (by decide) rfl rfl rfl)))))
    · subst hd4
      replace H := sumr H
      refine (qcut_miss (by simp) (qthen_n ?_))
      refine Tr.seq ?_
      refine Tr.region ?_
      refine TrL.v (v_assign rfl rfl) rfl rfl (bl rfl) ?_
      refine TrL.nil (qthen_n ?_)
      have hz := Option.some.inj H
      subst hz
      refine Tr.ret (ret_r ⟨[(4, .int .i64 (-1))], [cells b1 [.int .u64 d4.1, .int .i64 d4.2.1, .int .u64 d4.2.2.1, .int .u64 d4.2.2.2.1, .slice A2 d4.2.2.2.2.1.length c2] 48, cells b2 [.int .u64 d4.2.2.2.2.2] 22], [slF rp_u64_u64_u64 A2 c2 d4.2.2.2.2.1], []⟩ [.int .i64 (-1)] [cells b1 [.int .u64 d4.1, .int .i64 d4.2.1, .int .u64 d4.2.2.1, .int .u64 d4.2.2.2.1, .slice A2 d4.2.2.2.2.1.length c2] 48, cells b2 [.int .u64 d4.2.2.2.2.2] 22] [] (Imp.re _ [0, 1] [0] (sc rfl sn) (by decide) rfl rfl rfl) rfl rfl ⟨rfl, rfl, rfl⟩ (.cons (resv_tmp rfl) .nil))
  · subst hd3
    replace H := suml H
    have hz := Option.some.inj H
    subst hz
    refine (qthen_r (ret_r ⟨[(4, .int .i64 d3.1)], [cells b1 [.int .u64 d3.2.1, .int .i64 d3.2.2.1, .int .u64 d3.2.2.2.1, .int .u64 d3.2.2.2.2.1, .slice A2 d3.2.2.2.2.2.1.length c2] 48, cells b2 [.int .u64 d3.2.2.2.2.2.2] 22], [slF rp_u64_u64_u64 A2 c2 d3.2.2.2.2.2.1], []⟩ [.int .i64 d3.1] [cells b1 [.int .u64 d3.2.1, .int .i64 d3.2.2.1, .int .u64 d3.2.2.2.1, .int .u64 d3.2.2.2.2.1, .slice A2 d3.2.2.2.2.2.1.length c2] 48, cells b2 [.int .u64 d3.2.2.2.2.2.2] 22] [] (Imp.re _ [0, 1] [0] (sc rfl sn) (by decide) rfl rfl rfl) rfl rfl ⟨rfl, rfl, rfl⟩ (.cons (resv_tmp rfl) .nil)))

theorem c_slices_ContainsFunc_Event (p1 : List (Int × Int × Int)) (p2 : Int × Int × Int × Int × (List (Int × Int × Int)) × Int) (A1 : Option Addr) (c1 : Nat) (b1 : Nat) (A2 : Option Addr) (c2 : Nat) (b2 : Nat) (r : Bool × Int × Int × Int × Int × (List (Int × Int × Int)) × Int) (H : slices_ContainsFunc_Event p1 p2 = some r) :
    Ctr Try.prog 71 [.slice A1 p1.length c1, .func (.func 72) #[] #[.pointer (some ⟨b1, 0, none⟩), .pointer (some ⟨b2, 0, none⟩)]] [cells b1 [.int .u64 p2.1, .int .i64 p2.2.1, .int .u64 p2.2.2.1, .int .u64 p2.2.2.2.1, .slice A2 p2.2.2.2.2.1.length c2] 48, cells b2 [.int .u64 p2.2.2.2.2.2] 22] [slF rp_u64_u64_u64 A1 c1 p1, slF rp_u64_u64_u64 A2 c2 p2.2.2.2.2.1] (fun ret M' F' => ret = .bool r.1 ∧ M' = [cells b1 [.int .u64 r.2.1, .int .i64 r.2.2.1, .int .u64 r.2.2.2.1, .int .u64 r.2.2.2.2.1, .slice A2 r.2.2.2.2.2.1.length c2] 48, cells b2 [.int .u64 r.2.2.2.2.2.2] 22] ∧ F' = [slF rp_u64_u64_u64 A2 c2 r.2.2.2.2.2.1]) := by
  unfold slices_ContainsFunc_Event at H
  refine ctr_ofI (N := 9) Try.func71 rfl Try.ntmps71 rfl (Nat.le_of_ble_eq_true rfl) (fun γ0 w0 => ?_)
  refine Tr.seq ?_
  refine Tr.region ?_
  refine TrL.v (v_assign rfl rfl) rfl rfl (bl rfl) ?_
  refine TrL.nil (qthen_n ?_)
  refine Tr.seq ?_
  refine Tr.region ?_
  refine TrL.v (v_move rfl rfl) rfl rfl (bl rfl) ?_
  refine TrL.v (v_move rfl rfl) rfl rfl (bl rfl) ?_
  obtain ⟨r2, hr2, H⟩ := bnd H
  refine TrL.cons rfl (op_callg' (fs := []) (vs := [.slice A1 p1.length c1, .func (.func 72) #[] #[.pointer (some ⟨b1, 0, none⟩), .pointer (some ⟨b2, 0, none⟩)]]) (cap := []) (Mr := []) [0, 1] [] [0, 1] rfl rfl rfl en83 (c_slices_IndexFunc_Event_v1 p1 p2 A1 c1 b1 A2 c2 b2 r2 hr2) (by decide) rfl rfl rfl (bl rfl) (fun ret M' F' hR2 => ?_))
  obtain ⟨rfl, rfl, rfl⟩ := hR2
  refine TrL.v (v_arith rfl rfl rfl ar_geq) rfl rfl (bl rfl) ?_
  refine TrL.v (v_assign rfl rfl) rfl rfl (bl rfl) ?_
  refine TrL.nil (qthen_n ?_)
  have hz := Option.some.inj H
  subst hz
  refine Tr.ret (ret_r ⟨[(4, .bool (decide (0 ≤ r2.1)))], [cells b1 [.int .u64 r2.2.1, .int .i64 r2.2.2.1, .int .u64 r2.2.2.2.1, .int .u64 r2.2.2.2.2.1, .slice A2 r2.2.2.2.2.2.1.length c2] 48, cells b2 [.int .u64 r2.2.2.2.2.2.2] 22], [slF rp_u64_u64_u64 A2 c2 r2.2.2.2.2.2.1], []⟩ [.bool (decide (0 ≤ r2.1))] [cells b1 [.int .u64 r2.2.1, .int .i64 r2.2.2.1, .int .u64 r2.2.2.2.1, .int .u64 r2.2.2.2.2.1, .slice A2 r2.2.2.2.2.2.1.length c2] 48, cells b2 [.int .u64 r2.2.2.2.2.2.2] 22] [] (Imp.re _ [0, 1] [2] (sc rfl sn) (by decide) rfl rfl rfl) rfl rfl ⟨rfl, rfl, rfl⟩ (.cons (resv_tmp rfl) .nil))

theorem c_slices_Equal_Event (p1 : List (Int × Int × Int)) (p2 : List (Int × Int × Int)) (A1 : Option Addr) (c1 : Nat) (A2 : Option Addr) (c2 : Nat) (r : Bool) (H : slices_Equal_Event p1 p2 = some r) :
    Ctr Try.prog 77 [.slice A1 p1.length c1, .slice A2 p2.length c2] [] [slF rp_u64_u64_u64 A1 c1 p1, slF rp_u64_u64_u64 A2 c2 p2] (fun ret M' F' => ret = .bool r ∧ M' = [] ∧ F' = []) := by
  unfold slices_Equal_Event at H
  refine ctr_ofI (N := 26) Try.func77 rfl Try.ntmps77 rfl (Nat.le_of_ble_eq_true rfl) (fun γ0 w0 => ?_)
  refine Tr.seq ?_
  refine Tr.region ?_
  refine TrL.v (v_assign rfl rfl) rfl rfl (bl rfl) ?_
  refine TrL.nil (qthen_n ?_)
  refine Tr.seq ?_
  refine Tr.seq ?_
  refine Tr.region ?_
  refine TrL.v (v_move rfl rfl) rfl rfl (bl rfl) ?_
  refine TrL.v (v_len rfl sl46 rfl) rfl rfl (bl rfl) ?_
  refine TrL.v (v_move rfl rfl) rfl rfl (bl rfl) ?_
  refine TrL.v (v_len rfl sl46 rfl) rfl rfl (bl rfl) ?_
  refine TrL.v (v_arith rfl rfl rfl ar_neq) rfl rfl (bl rfl) ?_
  refine TrL.nil (qthen_n ?_)
  rcases ifc H with ⟨h8, H⟩ | ⟨h8, H⟩
  · refine Tr.cond_t rfl (bt_dec h8) ?_
    refine Tr.seq ?_
    refine Tr.region ?_
    refine TrL.v (v_assign rfl rfl) rfl rfl (bl rfl) ?_
    refine TrL.nil (qthen_n ?_)
    have hz := Option.some.inj H
    subst hz
    refine Tr.ret (qthen_r (ret_r ⟨[(4, .bool false)], [], [], []⟩ [.bool false] [] [] (Imp.re _ [] [] (sc rfl sn) (by decide) rfl rfl rfl) rfl rfl ⟨rfl, rfl, rfl⟩ (.cons (resv_tmp rfl) .nil)))
  · refine Tr.cond_f rfl (bf_dec h8) ?_
    refine Tr.skip (qthen_n ?_)
    refine Tr.seq ?_
    refine Tr.seq ?_
    refine Tr.region ?_
    refine TrL.v (v_move rfl rfl) rfl rfl (bl rfl) ?_
    refine TrL.v (v_len rfl sl46 rfl) rfl rfl (bl rfl) ?_
    refine TrL.v (v_move rfl rfl) rfl rfl (bl rfl) ?_
    refine TrL.nil (qthen_n ?_)
    obtain ⟨x2, hx3, H⟩ := bnd H
    refine Tr.cutE (D := Unit) (M := Unit) .ret (fun d3 => x2 = .inl d3) (fun d3 m9 => ⟨[(4, .bool false)], [], [], []⟩) ?_ (fun d3 m9 hd3 => ?_)
    · refine Tr.cutE (D := Unit) (M := Unit) .normal (fun d4 => x2 = .inr d4) (fun d4 m10 => ⟨[], [], [], []⟩) ?_ (fun d4 m10 hd4 => ?_)
      · refine Tr.block (Tr.loopI (ι := Unit) (step := slices_Equal_Event_s0 p1 p2) (fun s5 m7 => ⟨[(0, .slice A1 p1.length c1), (1, .slice A2 p2.length c2), (12, .int .i64 ((p1.length : Int))), (13, .int .i64 s5)], [], [slF rp_u64_u64_u64 A1 c1 p1, slF rp_u64_u64_u64 A2 c2 p2], []⟩) (()) hx3 (Imp.re _ [] [0, 1] (sc rfl (sc rfl (sc rfl (sc rfl sn)))) (by decide) rfl rfl rfl) (fun s5 m7 y2 hy2 hx4 => ?_))
        unfold slices_Equal_Event_s0 at hy2
        refine Tr.seq ?_
        refine Tr.region ?_
        refine TrL.v (v_arith rfl rfl rfl ar_lss) rfl rfl (bl rfl) ?_
        refine TrL.nil (qthen_n ?_)
        refine Tr.seq ?_
        rcases ifc hy2 with ⟨h13, hy2⟩ | ⟨h13, hy2⟩
        · refine Tr.cond_t rfl (bt_dec h13) ?_
          refine Tr.skip (qthen_n ?_)
          refine Tr.seq ?_
          refine Tr.block ?_
          refine Tr.seq ?_
          refine Tr.region ?_
          refine TrL.v (v_move rfl rfl) rfl rfl (bl rfl) ?_
          refine TrL.v (v_assign rfl rfl) rfl rfl (bl rfl) ?_
          refine TrL.nil (qthen_n ?_)
          refine Tr.seq ?_
          refine Tr.regionD drawn (fun hok => ?_)
          refine TrAny.prom (i := 0) (d := 16) hok (OpVal.plain rfl rfl (v_move rfl rfl)) (by kernel_rfl) rfl (bl rfl) ?_
          clear hok
          intro hok
          refine TrAny.prom (i := 1) (d := 17) hok (OpVal.plain rfl rfl (v_move rfl rfl)) (by kernel_rfl) rfl (bl rfl) ?_
          clear hok
          intro hok
          obtain ⟨z23, hz23, hy2⟩ := bnd hy2
          refine TrAny.prom (i := 2) (d := 18) hok (OpVal.plain rfl rfl (v_indexAddr (k := 0) rfl sl46 ty55 rfl rfl rfl rfl hz23)) (by kernel_rfl) rfl (bl rfl) ?_
          clear hok
          intro hok
          refine TrAny.prom (i := 3) (d := 19) hok (OpVal.plain rfl rfl (v_loadg (A := A1) (i := s5) (j := 0) (k := 0) rfl ty55 nofun rfl rfl hz23 rfl rfl)) (by kernel_rfl) rfl (bl rfl) ?_
          clear hok
          intro hok
          refine TrAny.prom (i := 4) (d := 20) hok (OpVal.plain rfl rfl (v_move rfl rfl)) (by kernel_rfl) rfl (bl rfl) ?_
          clear hok
          intro hok
          refine TrAny.prom (i := 5) (d := 21) hok (OpVal.plain rfl rfl (v_move rfl rfl)) (by kernel_rfl) rfl (bl rfl) ?_
          clear hok
          intro hok
          obtain ⟨z24, hz24, hy2⟩ := bnd hy2
          refine TrAny.prom (i := 6) (d := 22) hok (OpVal.plain rfl rfl (v_indexAddr (k := 1) rfl sl46 ty55 rfl rfl rfl rfl hz24)) (by kernel_rfl) rfl (bl rfl) ?_
          clear hok
          intro hok
          refine TrAny.prom (i := 7) (d := 23) hok (OpVal.plain rfl rfl (v_loadg (A := A2) (i := s5) (j := 0) (k := 1) rfl ty55 nofun rfl rfl hz24 rfl rfl)) (by kernel_rfl) rfl (bl rfl) ?_
          clear hok
          intro hok
          refine TrAny.prom (i := 8) (d := 24) hok (OpVal.plain rfl rfl (v_nes rfl if55 eg55 rfl rfl (eqc_cons rfl rfl (eqc_cons rfl rfl (eqc_cons rfl rfl eqc_nil))))) (by kernel_rfl) rfl (bl rfl) ?_
          clear hok
          intro hok
          refine TrAny.done (by kernel_rfl) (by kernel_rfl) hok (by kernel_rfl) (qthen_n ?_)
          rcases ifc hy2 with ⟨h14, hy2⟩ | ⟨h14, hy2⟩
          · refine Tr.cond_t rfl (bt_dec h14) ?_
            refine Tr.seq ?_
            refine Tr.region ?_
            refine TrL.v (v_assign rfl rfl) rfl rfl (bl rfl) ?_
            refine TrL.nil (qthen_n ?_)
            have hz := Option.some.inj hy2
            subst hz
            refine Tr.ret (qblock_r (qthen_r (qloop_r (qblock_r (qcut_miss (by simp) (qcut_hit (()) (()) (hx4 _ rfl).symm (Imp.re _ [] [] (sc rfl sn) (by decide) rfl rfl rfl)))))))
          · refine Tr.cond_f rfl (bf_dec h14) ?_
            refine Tr.skip (qblock_n (qthen_n ?_))
            refine Tr.region ?_
            refine TrL.v (v_arith rfl rfl rfl ar_add_i64) rfl rfl (bl rfl) ?_
            refine TrL.v (v_move rfl rfl) rfl rfl (bl rfl) ?_
            have hz := Option.some.inj hy2
            subst hz
            refine TrL.nil (qloop_n (()) (Imp.re _ [] [0, 1] (sc rfl (sc rfl (sc rfl (sc rfl sn)))) (by decide) rfl rfl rfl))
        · refine Tr.cond_f rfl (bf_dec h13) ?_
          have hz := Option.some.inj hy2
          subst hz
          refine Tr.exit (qthen_x (qloop_x (qblock_hit (qcut_hit (()) (()) (hx4 _ rfl).symm (Imp.re _ [] [] sn (by decide) rfl rfl rfl)))))
      · subst hd4
        replace H := sumr H
        refine (qcut_miss (by simp) (qthen_n ?_))
        refine Tr.seq ?_
        refine Tr.region ?_
        refine TrL.v (v_assign rfl rfl) rfl rfl (bl rfl) ?_
        refine TrL.nil (qthen_n ?_)
        have hz := Option.some.inj H
        subst hz
        refine Tr.ret (ret_r ⟨[(4, .bool true)], [], [], []⟩ [.bool true] [] [] (Imp.re _ [] [] (sc rfl sn) (by decide) rfl rfl rfl) rfl rfl ⟨rfl, rfl, rfl⟩ (.cons (resv_tmp rfl) .nil))
    · subst hd3
      replace H := suml H
      have hz := Option.some.inj H
      subst hz
      refine (qthen_r (ret_r ⟨[(4, .bool false)], [], [], []⟩ [.bool false] [] [] (Imp.re _ [] [] (sc rfl sn) (by decide) rfl rfl rfl) rfl rfl ⟨rfl, rfl, rfl⟩ (.cons (resv_tmp rfl) .nil)))
end Go.Proofs.Ythgeodagikmpjaa.W
