/- The contracts of the walked functions: the printed walks. -/
import Derived.Test.YtbeknohemgjfbaaKc
import Derived.Test.YtbeknohemgjfbaaQc
import Derived.Test.YtbeknohemgjfbaaWbufferbc
import Derived.Test.YtbeknohemgjfbaaWbufferec
import Derived.Test.YtbeknohemgjfbaaWlaw12ac
import Derived.Test.YtbeknohemgjfbaaWlaw12bc
import Derived.Test.YtbeknohemgjfbaaWref12bc
namespace Go.Proofs.Ytbeknohemgjfbaa.W
open Go Go.Proofs Go.Proofs.Ytbeknohemgjfbaa.L Go.Proofs.Ytbeknohemgjfbaa.Pu
set_option linter.unusedVariables false
set_option maxHeartbeats 4000000

theorem c_law12_BufferJoins (p1 : Int) (p2 : List (List (Int × Int × Int))) (A1 : Option Addr) (c1 : Nat) (r : Bool) (H : law12_BufferJoins p1 p2 = some r) :
    Ctr Try.prog 9 [.int .u64 p1, .slice A1 p2.length c1] [] [slF (rSl rp_u64_u64_u64) A1 c1 p2] (fun ret M' F' => ret = .bool r ∧ M' = [] ∧ F' = []) := by
  unfold law12_BufferJoins at H
  refine ctr_ofI (N := 92) Try.func9 rfl Try.ntmps9 rfl (Nat.le_of_ble_eq_true rfl) (fun γ0 w0 => ?_)
  refine Tr.seq ?_
  refine Tr.region ?_
  refine TrL.v (v_assign rfl rfl) rfl rfl (bl rfl) ?_
  refine TrL.nil (qthen_n ?_)
  refine Tr.seq ?_
  refine Tr.region ?_
  obtain ⟨r18, hr18, H⟩ := bnd H
  refine TrL.cons rfl (op_call0' (vs := []) (cap := []) [] rfl rfl (bl rfl) rfl rfl en37 (c_law12_awake r18 hr18) rfl (fun ret M' F' hR18 => ?_))
  obtain ⟨rfl, rfl, rfl⟩ := hR18
  refine TrL.v (v_assign rfl rfl) rfl rfl (bl rfl) ?_
  refine TrL.nil (qthen_n ?_)
  refine Tr.seq ?_
  refine Tr.seq ?_
  refine Tr.region ?_
  refine TrL.v (v_move rfl rfl) rfl rfl (bl rfl) ?_
  refine TrL.v (v_len rfl sl68 rfl) rfl rfl (bl rfl) ?_
  refine TrL.v (v_arith rfl rfl rfl ar_gtr) rfl rfl (bl rfl) ?_
  refine TrL.nil (qthen_n ?_)
  rcases ifc H with ⟨h20, H⟩ | ⟨h20, H⟩
  · refine Tr.cond_t rfl (bt_dec h20) ?_
    refine Tr.seq ?_
    refine Tr.region ?_
    refine TrL.v (v_move rfl rfl) rfl rfl (bl rfl) ?_
    refine TrL.v (v_assign rfl rfl) rfl rfl (bl rfl) ?_
    refine TrL.nil (qthen_n ?_)
    have hz := Option.some.inj H
    subst hz
    refine Tr.ret (qthen_r (ret_r ⟨[(4, .bool r18)], [], [], []⟩ [.bool r18] [] [] (Imp.re _ [] [] (sc rfl sn) (by decide) rfl rfl rfl) rfl rfl ⟨rfl, rfl, rfl⟩ (.cons (resv_tmp rfl) .nil)))
  · refine Tr.cond_f rfl (bf_dec h20) ?_
    refine Tr.skip (qthen_n ?_)
    refine Tr.seq ?_
    refine Tr.region ?_
    refine TrL.v (v_assign rfl rfl) rfl rfl (bl rfl) ?_
    refine TrL.nil (qthen_n ?_)
    refine Tr.seq ?_
    refine Tr.region ?_
    refine TrL.v (v_assign rfl rfl) rfl rfl (bl rfl) ?_
    refine TrL.nil (qthen_n ?_)
    refine Tr.seq ?_
    refine Tr.region ?_
    refine TrL.v (v_assign rfl rfl) rfl rfl (bl rfl) ?_
    refine TrL.nil (qthen_n ?_)
    refine Tr.seq ?_
    refine Tr.seq ?_
    refine Tr.region ?_
    refine TrL.v (v_assign rfl rfl) rfl rfl (bl rfl) ?_
    refine TrL.nil (qthen_n ?_)
    obtain ⟨x3, hx5, H⟩ := bnd H
    refine Tr.cutE (D := (List (Int × Int × Int × Int × List (Int × Int × Int))) × (List (Int × Int × Int × Int × List (Int × Int × Int))) × Int) (M := Option Addr × Nat × Option Addr × Nat × Option Nat × Option Nat) .normal (fun _d => x3 = _d) (fun x3 m36 => ⟨[(5, .bool r18), (6, .slice m36.1 x3.1.length m36.2.1), (7, .slice m36.2.2.1 x3.2.1.length m36.2.2.2.1), (8, .int .u64 x3.2.2)], [grow 73 5 (.slice m36.1 x3.1.length m36.2.1) x3.1.length m36.2.2.2.2.1, grow 77 5 (.slice m36.2.2.1 x3.2.1.length m36.2.2.2.1) x3.2.1.length m36.2.2.2.2.2], [slF rp_u64_i64_u64_u64_LOu64_u64_u64_C m36.1 m36.2.1 x3.1, slF rp_u64_i64_u64_u64_LOu64_u64_u64_C m36.2.2.1 m36.2.2.2.1 x3.2.1], []⟩) ?_ (fun x3 m36 hd3 => ?_)
    · refine Tr.block (Tr.loopI (ι := Option Addr × Nat × Option Addr × Nat × Option Nat × Option Nat) (step := law12_BufferJoins_s0 p1 p2) (fun s8 m31 => ⟨[(0, .int .u64 p1), (1, .slice A1 p2.length c1), (5, .bool r18), (6, .slice m31.1 s8.1.length m31.2.1), (7, .slice m31.2.2.1 s8.2.1.length m31.2.2.2.1), (8, .int .u64 s8.2.2.1), (9, .int .i64 s8.2.2.2)], [grow 73 5 (.slice m31.1 s8.1.length m31.2.1) s8.1.length m31.2.2.2.2.1, grow 77 5 (.slice m31.2.2.1 s8.2.1.length m31.2.2.2.1) s8.2.1.length m31.2.2.2.2.2], [slF (rSl rp_u64_u64_u64) A1 c1 p2, slF rp_u64_i64_u64_u64_LOu64_u64_u64_C m31.1 m31.2.1 s8.1, slF rp_u64_i64_u64_u64_LOu64_u64_u64_C m31.2.2.1 m31.2.2.2.1 s8.2.1], []⟩) ((none, 0, none, 0, none, none)) hx5 (Imp.full' (E := 73) (sz := 5) (A := none) (n := 0) (Imp.full' (E := 77) (sz := 5) (A := none) (n := 0) (Imp.addF' _ (nilF rp_u64_i64_u64_u64_LOu64_u64_u64_C) (Imp.re _ [1, 0] [0, 1, 1] (sc rfl (sc rfl (sc rfl (sc rfl (sc rfl (sc rfl (sc rfl sn))))))) (by decide) rfl rfl rfl)))) (fun s8 m31 y3 hy3 hx6 => ?_))
      unfold law12_BufferJoins_s0 at hy3
      refine Tr.seq ?_
      refine Tr.seq ?_
      refine Tr.region ?_
      refine TrL.v (v_move rfl rfl) rfl rfl (bl rfl) ?_
      refine TrL.v (v_move rfl rfl) rfl rfl (bl rfl) ?_
      refine TrL.v (v_len rfl sl68 rfl) rfl rfl (bl rfl) ?_
      refine TrL.v (v_arith rfl rfl rfl ar_lss) rfl rfl (bl rfl) ?_
      refine TrL.nil (qthen_n ?_)
      rcases ifc hy3 with ⟨h27, hy3⟩ | ⟨h27, hy3⟩
      · refine Tr.cond_t rfl (bt_dec h27) ?_
        refine Tr.skip (qthen_n ?_)
        refine Tr.seq ?_
        refine Tr.block ?_
        refine Tr.seq ?_
        refine Tr.region ?_
        refine TrL.v (v_move rfl rfl) rfl rfl (bl rfl) ?_
        refine TrL.v (v_move rfl rfl) rfl rfl (bl rfl) ?_
        refine TrL.v (v_move rfl rfl) rfl rfl (bl rfl) ?_
        obtain ⟨z9, hz9, hy3⟩ := bnd hy3
        refine TrL.v (v_indexAddr (k := 0) rfl sl68 ty76 rfl rfl rfl rfl hz9) rfl rfl (bl rfl) ?_
        refine TrL.openS' (k := 0) rfl hz9 (fun A27 c17 => ?_)
        refine TrL.v (v_loadF (k := 4) rfl ty76 rfl rfl) rfl rfl (bl rfl) ?_
        obtain ⟨r25, hr25, hy3⟩ := bnd hy3
        refine TrL.cons rfl (op_call0' (vs := [.int .u64 p1, .int .i64 20, .slice A27 z9.length c17]) (cap := []) [3] rfl rfl (bl rfl) rfl rfl en38 (c_ref12_Made p1 ((20 : Int)) z9 A27 c17 r25 hr25) rfl (fun ret M' F' hR25 => ?_))
        obtain ⟨m37, rfl, rfl, rfl⟩ := hR25
        refine TrL.v (v_move rfl rfl) rfl rfl (bl rfl) ?_
        refine TrL.v (v_extract rfl rfl rfl) rfl rfl (bl rfl) ?_
        refine TrL.v (v_extract rfl rfl rfl) rfl rfl (bl rfl) ?_
        refine TrL.cons rfl (op_alloc' rfl (bl rfl) rfl ze73 (fun b8 => ?_))
        refine TrL.cons rfl (op_store' (k := 0) (c' := [.int .u64 r25.1, .int .i64 r25.2.1, .int .u64 r25.2.2.1, .int .u64 r25.2.2.2.1, .slice m37.1 r25.2.2.2.2.1.length m37.2.1]) rfl rfl rfl rfl rfl ty73 rfl (Nat.le_of_ble_eq_true rfl) (ones (oc rfl (oc rfl (oc rfl (oc rfl (oc rfl on)))))) rfl ?_)
        refine TrL.v (v_assign rfl rfl) rfl rfl (bl rfl) ?_
        refine TrL.nil (qthen_n ?_)
        refine Tr.seq ?_
        refine Tr.region ?_
        refine TrL.v (v_move rfl rfl) rfl rfl (bl rfl) ?_
        refine TrL.v (v_load (k := 0) rfl rfl rfl ty73 nofun rfl rfl) rfl rfl (bl rfl) ?_
        refine TrL.cons rfl (op_buildSlice' (rp := rp_u64_i64_u64_u64_LOu64_u64_u64_C) (xs := [(r25.1, r25.2.1, r25.2.2.1, r25.2.2.2.1, r25.2.2.2.2.1)]) (vs := [.agg #[.int .u64 r25.1, .int .i64 r25.2.1, .int .u64 r25.2.2.1, .int .u64 r25.2.2.2.1, .slice m37.1 r25.2.2.2.2.1.length m37.2.1]]) (out := [.int .u64 r25.1, .int .i64 r25.2.1, .int .u64 r25.2.2.1, .int .u64 r25.2.2.2.1, .slice m37.1 r25.2.2.2.2.1.length m37.2.1]) rfl (bl rfl) rfl sl69 ty73 ze73 rfl rfl (by decide) (by decide) rfl (fun γ w hF => (rowc ⟨(m37.1, m37.2.1), rfl, (fcc (hF _ (List.mem_of_getElem? (i := 5) rfl)) fcn)⟩ rown rfl)) (fun A28 => ?_))
        obtain ⟨h28, hy3⟩ := rom hy3
        refine TrL.cons rfl (op_append' (rp := rp_u64_i64_u64_u64_LOu64_u64_u64_C) (xs := s8.1) (ys := [(r25.1, r25.2.1, r25.2.2.1, r25.2.2.2.1, r25.2.2.2.2.1)]) (k := 1) (kx := 1) (ky := 7) rfl (bl rfl) rfl sl69 ty73 ze73 rfl by73 rfl rfl rfl rfl rfl rfl rfl h28.1 h28.2 (fun A29 c18 o11 => ?_))
        refine TrL.v (v_assign rfl rfl) rfl rfl (bl rfl) ?_
        refine TrL.nil (qthen_n ?_)
        refine Tr.seq ?_
        refine Tr.region ?_
        refine TrL.v (v_move rfl rfl) rfl rfl (bl rfl) ?_
        refine TrL.v (v_load (k := 0) rfl rfl rfl ty73 nofun rfl rfl) rfl rfl (bl rfl) ?_
        obtain ⟨r26, hr26, hy3⟩ := bnd hy3
        refine TrL.cons rfl (op_call0' (vs := [.agg #[.int .u64 r25.1, .int .i64 r25.2.1, .int .u64 r25.2.2.1, .int .u64 r25.2.2.2.1, .slice m37.1 r25.2.2.2.2.1.length m37.2.1]]) (cap := []) [5] rfl rfl (bl rfl) rfl rfl en39 (c_law12_made ((r25.1, r25.2.1, r25.2.2.1, r25.2.2.2.1, r25.2.2.2.2.1)) m37.1 m37.2.1 r26 hr26) rfl (fun ret M' F' hR26 => ?_))
        obtain ⟨rfl, rfl, rfl⟩ := hR26
        refine TrL.cons rfl (op_buildSlice' (rp := rp_u64_i64_u64_u64_LOu64_u64_u64_C) (xs := [((r25.1, r25.2.1, r25.2.2.1, r25.2.2.2.1, r25.2.2.2.2.1))]) (vs := [.agg #[.int .u64 (((r25.1, r25.2.1, r25.2.2.1, r25.2.2.2.1, r25.2.2.2.2.1)).1), .int .i64 (((r25.1, r25.2.1, r25.2.2.1, r25.2.2.2.1, r25.2.2.2.2.1)).2.1), .int .u64 (((r25.1, r25.2.1, r25.2.2.1, r25.2.2.2.1, r25.2.2.2.2.1)).2.2.1), .int .u64 (((r25.1, r25.2.1, r25.2.2.1, r25.2.2.2.1, r25.2.2.2.2.1)).2.2.2.1), .slice m37.1 ((((r25.1, r25.2.1, r25.2.2.1, r25.2.2.2.1, r25.2.2.2.2.1)).2.2.2.2).length) m37.2.1]]) (out := [.int .u64 (((r25.1, r25.2.1, r25.2.2.1, r25.2.2.2.1, r25.2.2.2.2.1)).1), .int .i64 (((r25.1, r25.2.1, r25.2.2.1, r25.2.2.2.1, r25.2.2.2.2.1)).2.1), .int .u64 (((r25.1, r25.2.1, r25.2.2.1, r25.2.2.2.1, r25.2.2.2.2.1)).2.2.1), .int .u64 (((r25.1, r25.2.1, r25.2.2.1, r25.2.2.2.1, r25.2.2.2.2.1)).2.2.2.1), .slice m37.1 ((((r25.1, r25.2.1, r25.2.2.1, r25.2.2.2.1, r25.2.2.2.2.1)).2.2.2.2).length) m37.2.1]) rfl (bl rfl) rfl sl70 ty77 ze77 rfl rfl (by decide) (by decide) rfl (fun γ w hF => (rowc ⟨(m37.1, m37.2.1), rfl, (fcc (hF _ (List.mem_of_getElem? (i := 9) rfl)) fcn)⟩ rown rfl)) (fun A30 => ?_))
        obtain ⟨h29, hy3⟩ := rom hy3
        refine TrL.cons rfl (op_append' (rp := rp_u64_i64_u64_u64_LOu64_u64_u64_C) (xs := s8.2.1) (ys := [((r25.1, r25.2.1, r25.2.2.1, r25.2.2.2.1, r25.2.2.2.2.1))]) (k := 2) (kx := 2) (ky := 10) rfl (bl rfl) rfl sl70 ty77 ze77 rfl by77 rfl rfl rfl rfl rfl rfl rfl h29.1 h29.2 (fun A31 c19 o12 => ?_))
        refine TrL.v (v_assign rfl rfl) rfl rfl (bl rfl) ?_
        refine TrL.nil (qthen_n ?_)
        refine Tr.region ?_
        refine TrL.v (v_move rfl rfl) rfl rfl (bl rfl) ?_
        refine TrL.v (v_load (k := 0) rfl rfl rfl ty73 nofun rfl rfl) rfl rfl (bl rfl) ?_
        obtain ⟨r27, hr27, hy3⟩ := bnd hy3
        refine TrL.cons rfl (op_call0' (vs := [.agg #[.int .u64 r25.1, .int .i64 r25.2.1, .int .u64 r25.2.2.1, .int .u64 r25.2.2.2.1, .slice m37.1 r25.2.2.2.2.1.length m37.2.1]]) (cap := []) [5] rfl rfl (bl rfl) rfl rfl en40 (c_ref12_Weight ((r25.1, r25.2.1, r25.2.2.1, r25.2.2.2.1, r25.2.2.2.2.1)) m37.1 m37.2.1 r27 hr27) rfl (fun ret M' F' hR27 => ?_))
        obtain ⟨rfl, rfl, rfl⟩ := hR27
        refine TrL.v (v_arith rfl rfl rfl ar_add_u64) rfl rfl (bl rfl) ?_
        refine TrL.v (v_assign rfl rfl) rfl rfl (bl rfl) ?_
        refine TrL.nil (qblock_n (qthen_n ?_))
        refine Tr.region ?_
        refine TrL.v (v_move rfl rfl) rfl rfl (bl rfl) ?_
        refine TrL.v (v_arith rfl rfl rfl ar_add_i64) rfl rfl (bl rfl) ?_
        refine TrL.v (v_assign rfl rfl) rfl rfl (bl rfl) ?_
        have hz := Option.some.inj hy3
        subst hz
        refine TrL.nil (qloop_n ((A29, c18, A31, c19, o11, o12)) (Imp.re _ [1, 2] [0, 8, 11] (sc rfl (sc rfl (sc rfl (sc rfl (sc rfl (sc rfl (sc rfl sn))))))) (by decide) rfl rfl rfl))
      · refine Tr.cond_f rfl (bf_dec h27) ?_
        have hz := Option.some.inj hy3
        subst hz
        refine Tr.exit (qthen_x (qloop_x (qblock_hit (qcut_hit ((s8.1, s8.2.1, s8.2.2.1)) ((m31.1, m31.2.1, m31.2.2.1, m31.2.2.2.1, m31.2.2.2.2.1, m31.2.2.2.2.2)) (hx6 _ rfl).symm (Imp.re _ [0, 1] [1, 2] (sc rfl (sc rfl (sc rfl (sc rfl sn)))) (by decide) rfl rfl rfl)))))
    · subst hd3
      refine (qthen_n ?_)
      refine Tr.seq ?_
      refine Tr.region ?_
      refine TrL.v (v_move rfl rfl) rfl rfl (bl rfl) ?_
      obtain ⟨r28, hr28, H⟩ := bnd H
      refine TrL.cons rfl (op_call0' (vs := [.slice m36.2.2.1 x3.2.1.length m36.2.2.2.1]) (cap := []) [1] rfl rfl (bl rfl) rfl rfl en41 (c_buffer_Join x3.2.1 m36.2.2.1 m36.2.2.2.1 r28 hr28) rfl (fun ret M' F' hR28 => ?_))
      obtain ⟨m40, rfl, rfl, rfl⟩ := hR28
      refine TrL.v (v_move rfl rfl) rfl rfl (bl rfl) ?_
      refine TrL.v (v_extract rfl rfl rfl) rfl rfl (bl rfl) ?_
      refine TrL.v (v_extract rfl rfl rfl) rfl rfl (bl rfl) ?_
      refine TrL.cons rfl (op_alloc' rfl (bl rfl) rfl ze77 (fun b9 => ?_))
      refine TrL.cons rfl (op_store' (k := 0) (c' := [.int .u64 r28.1, .int .i64 r28.2.1, .int .u64 r28.2.2.1, .int .u64 r28.2.2.2.1, .slice m40.1 r28.2.2.2.2.1.length m40.2.1]) rfl rfl rfl rfl rfl ty77 rfl (Nat.le_of_ble_eq_true rfl) (ones (oc rfl (oc rfl (oc rfl (oc rfl (oc rfl on)))))) rfl ?_)
      refine TrL.v (v_assign rfl rfl) rfl rfl (bl rfl) ?_
      refine TrL.nil (qthen_n ?_)
      refine Tr.seq ?_
      refine Tr.region ?_
      refine TrL.v (v_move rfl rfl) rfl rfl (bl rfl) ?_
      obtain ⟨r29, hr29, H⟩ := bnd H
      refine TrL.cons rfl (op_call0' (vs := [.slice m36.1 x3.1.length m36.2.1]) (cap := []) [0] rfl rfl (bl rfl) rfl rfl en42 (c_ref12_Join x3.1 m36.1 m36.2.1 r29 hr29) rfl (fun ret M' F' hR29 => ?_))
      obtain ⟨m41, rfl, rfl, rfl⟩ := hR29
      refine TrL.v (v_move rfl rfl) rfl rfl (bl rfl) ?_
      refine TrL.v (v_extract rfl rfl rfl) rfl rfl (bl rfl) ?_
      refine TrL.v (v_extract rfl rfl rfl) rfl rfl (bl rfl) ?_
      refine TrL.cons rfl (op_alloc' rfl (bl rfl) rfl ze73 (fun b10 => ?_))
      refine TrL.cons rfl (op_store' (k := 0) (c' := [.int .u64 r29.1, .int .i64 r29.2.1, .int .u64 r29.2.2.1, .int .u64 r29.2.2.2.1, .slice m41.1 r29.2.2.2.2.1.length m41.2.1]) rfl rfl rfl rfl rfl ty73 rfl (Nat.le_of_ble_eq_true rfl) (ones (oc rfl (oc rfl (oc rfl (oc rfl (oc rfl on)))))) rfl ?_)
      refine TrL.v (v_assign rfl rfl) rfl rfl (bl rfl) ?_
      refine TrL.nil (qthen_n ?_)
      refine Tr.seq ?_
      refine Tr.region ?_
      refine TrL.v (v_load (k := 1) rfl rfl rfl ty77 nofun rfl rfl) rfl rfl (bl rfl) ?_
      obtain ⟨r30, hr30, H⟩ := bnd H
      refine TrL.cons rfl (op_call0' (vs := [.agg #[.int .u64 r28.1, .int .i64 r28.2.1, .int .u64 r28.2.2.1, .int .u64 r28.2.2.2.1, .slice m40.1 r28.2.2.2.2.1.length m40.2.1]]) (cap := []) [2] rfl rfl (bl rfl) rfl rfl en43 (c_buffer_Weight ((r28.1, r28.2.1, r28.2.2.1, r28.2.2.2.1, r28.2.2.2.2.1)) m40.1 m40.2.1 r30 hr30) rfl (fun ret M' F' hR30 => ?_))
      obtain ⟨rfl, rfl, rfl⟩ := hR30
      refine TrL.v (v_assign rfl rfl) rfl rfl (bl rfl) ?_
      refine TrL.nil (qthen_n ?_)
      refine Tr.seq ?_
      refine Tr.seq ?_
      refine Tr.region ?_
      refine TrL.v (v_assign rfl rfl) rfl rfl (bl rfl) ?_
      refine TrL.nil (qthen_n ?_)
      obtain ⟨x4, hx7, H⟩ := bnd H
      refine Tr.cutE (D := Int) (M := Unit) .normal (fun _d => x4 = _d) (fun x4 m46 => ⟨[(5, .bool r18), (8, .int .u64 x3.2.2), (12, .pointer (some ⟨b9, 0, none⟩)), (13, .slice m40.2.2.1 r28.2.2.2.2.2.length m40.2.2.2), (14, .pointer (some ⟨b10, 0, none⟩)), (15, .slice m41.2.2.1 r29.2.2.2.2.2.length m41.2.2.2), (16, .int .u64 x4)], [cells b9 [.int .u64 r28.1, .int .i64 r28.2.1, .int .u64 r28.2.2.1, .int .u64 r28.2.2.2.1, .slice m40.1 r28.2.2.2.2.1.length m40.2.1] 77, cells b10 [.int .u64 r29.1, .int .i64 r29.2.1, .int .u64 r29.2.2.1, .int .u64 r29.2.2.2.1, .slice m41.1 r29.2.2.2.2.1.length m41.2.1] 73], [slF rp_u64_u64_u64 m40.2.2.1 m40.2.2.2 r28.2.2.2.2.2, slF rp_u64_u64_u64 m41.2.2.1 m41.2.2.2 r29.2.2.2.2.2, slF rp_u64_u64_u64 m40.1 m40.2.1 r28.2.2.2.2.1, slF rp_u64_u64_u64 m41.1 m41.2.1 r29.2.2.2.2.1], []⟩) ?_ (fun x4 m46 hd4 => ?_)
      · refine Tr.block (Tr.loopI (ι := Unit) (step := law12_BufferJoins_s1 r28) (fun s11 m44 => ⟨[(5, .bool r18), (8, .int .u64 x3.2.2), (12, .pointer (some ⟨b9, 0, none⟩)), (13, .slice m40.2.2.1 r28.2.2.2.2.2.length m40.2.2.2), (14, .pointer (some ⟨b10, 0, none⟩)), (15, .slice m41.2.2.1 r29.2.2.2.2.2.length m41.2.2.2), (16, .int .u64 s11.1), (17, .int .i64 s11.2)], [cells b9 [.int .u64 r28.1, .int .i64 r28.2.1, .int .u64 r28.2.2.1, .int .u64 r28.2.2.2.1, .slice m40.1 r28.2.2.2.2.1.length m40.2.1] 77, cells b10 [.int .u64 r29.1, .int .i64 r29.2.1, .int .u64 r29.2.2.1, .int .u64 r29.2.2.2.1, .slice m41.1 r29.2.2.2.2.1.length m41.2.1] 73], [slF rp_u64_u64_u64 m40.2.2.1 m40.2.2.2 r28.2.2.2.2.2, slF rp_u64_u64_u64 m41.2.2.1 m41.2.2.2 r29.2.2.2.2.2, slF rp_u64_u64_u64 m40.1 m40.2.1 r28.2.2.2.2.1, slF rp_u64_u64_u64 m41.1 m41.2.1 r29.2.2.2.2.1], []⟩) (()) hx7 (Imp.re _ [1, 0] [3, 5, 2, 4] (sc rfl (sc rfl (sc rfl (sc rfl (sc rfl (sc rfl (sc rfl (sc rfl sn)))))))) (by decide) rfl rfl rfl) (fun s11 m44 y4 hy4 hx8 => ?_))
        unfold law12_BufferJoins_s1 at hy4
        refine Tr.seq ?_
        refine Tr.seq ?_
        refine Tr.region ?_
        refine TrL.v (v_move rfl rfl) rfl rfl (bl rfl) ?_
        refine TrL.v (v_move rfl rfl) rfl rfl (bl rfl) ?_
        refine TrL.v (v_len rfl sl71 rfl) rfl rfl (bl rfl) ?_
        refine TrL.v (v_arith rfl rfl rfl ar_lss) rfl rfl (bl rfl) ?_
        refine TrL.nil (qthen_n ?_)
        rcases ifc hy4 with ⟨h32, hy4⟩ | ⟨h32, hy4⟩
        · refine Tr.cond_t rfl (bt_dec h32) ?_
          refine Tr.skip (qthen_n ?_)
          refine Tr.seq ?_
          refine Tr.block ?_
          refine Tr.region ?_
          refine TrL.v (v_move rfl rfl) rfl rfl (bl rfl) ?_
          refine TrL.v (v_move rfl rfl) rfl rfl (bl rfl) ?_
          refine TrL.v (v_move rfl rfl) rfl rfl (bl rfl) ?_
          obtain ⟨z12, hz12, hy4⟩ := bnd hy4
          refine TrL.v (v_indexAddr (k := 0) rfl sl71 ty85 rfl rfl rfl rfl hz12) rfl rfl (bl rfl) ?_
          refine TrL.v (v_fieldAddr rfl fo85_2 rfl) rfl rfl (bl rfl) ?_
          refine TrL.v (v_loadg (A := m40.2.2.1) (i := s11.2) (j := 2) (k := 0) rfl ty28 (fun _ => rfl) rfl rfl hz12 rfl rfl) rfl rfl (bl rfl) ?_
          refine TrL.v (v_arith rfl rfl rfl ar_add_u64) rfl rfl (bl rfl) ?_
          refine TrL.v (v_assign rfl rfl) rfl rfl (bl rfl) ?_
          refine TrL.nil (qblock_n (qthen_n ?_))
          refine Tr.region ?_
          refine TrL.v (v_move rfl rfl) rfl rfl (bl rfl) ?_
          refine TrL.v (v_arith rfl rfl rfl ar_add_i64) rfl rfl (bl rfl) ?_
          refine TrL.v (v_assign rfl rfl) rfl rfl (bl rfl) ?_
          have hz := Option.some.inj hy4
          subst hz
          refine TrL.nil (qloop_n (()) (Imp.re _ [0, 1] [0, 1, 2, 3] (sc rfl (sc rfl (sc rfl (sc rfl (sc rfl (sc rfl (sc rfl (sc rfl sn)))))))) (by decide) rfl rfl rfl))
        · refine Tr.cond_f rfl (bf_dec h32) ?_
          have hz := Option.some.inj hy4
          subst hz
          refine Tr.exit (qthen_x (qloop_x (qblock_hit (qcut_hit s11.1 (()) (hx8 _ rfl).symm (Imp.re _ [0, 1] [0, 1, 2, 3] (sc rfl (sc rfl (sc rfl (sc rfl (sc rfl (sc rfl (sc rfl sn))))))) (by decide) rfl rfl rfl)))))
      · subst hd4
        refine (qthen_n ?_)
        refine Tr.seq ?_
        refine Tr.region ?_
        refine TrL.v (v_move rfl rfl) rfl rfl (bl rfl) ?_
        refine TrL.v (v_move rfl rfl) rfl rfl (bl rfl) ?_
        rcases ifc H with ⟨h36, H⟩ | ⟨h36, H⟩
        · refine TrL.cons_yes rfl rfl rfl h36 (OpTr.v (v_load (k := 0) rfl rfl rfl ty77 nofun rfl rfl) rfl (bl rfl) ?_)
          refine TrL.cons_yes rfl rfl rfl h36 (OpTr.v (v_load (k := 1) rfl rfl rfl ty73 nofun rfl rfl) rfl (bl rfl) ?_)
          obtain ⟨r33, hr33, H⟩ := bnd H
          refine TrL.cons_yes rfl rfl rfl h36 (op_call0' (vs := [.agg #[.int .u64 r28.1, .int .i64 r28.2.1, .int .u64 r28.2.2.1, .int .u64 r28.2.2.2.1, .slice m40.1 r28.2.2.2.2.1.length m40.2.1], .agg #[.int .u64 r29.1, .int .i64 r29.2.1, .int .u64 r29.2.2.1, .int .u64 r29.2.2.2.1, .slice m41.1 r29.2.2.2.2.1.length m41.2.1]]) (cap := []) [2, 3] rfl rfl (bl rfl) rfl rfl en44 (c_law12_same ((r28.1, r28.2.1, r28.2.2.1, r28.2.2.2.1, r28.2.2.2.2.1)) ((r29.1, r29.2.1, r29.2.2.1, r29.2.2.2.1, r29.2.2.2.2.1)) m40.1 m40.2.1 m41.1 m41.2.1 r33 hr33) rfl (fun ret M' F' hR33 => ?_))
          obtain ⟨rfl, rfl, rfl⟩ := hR33
          refine TrL.v (v_pick_t rfl rfl h36 rfl) rfl rfl (bl rfl) ?_
          refine TrL.v (v_move rfl rfl) rfl rfl (bl rfl) ?_
          rcases ifc H with ⟨h37, H⟩ | ⟨h37, H⟩
          · refine TrL.cons_yes rfl rfl rfl h37 (OpTr.v (v_move rfl rfl) rfl (bl rfl) ?_)
            refine TrL.cons_yes rfl rfl rfl h37 (OpTr.v (v_move rfl rfl) rfl (bl rfl) ?_)
            obtain ⟨r34, hr34, H⟩ := bnd H
            refine TrL.cons_yes rfl rfl rfl h37 (op_call0' (vs := [.slice m40.2.2.1 r28.2.2.2.2.2.length m40.2.2.2, .slice m41.2.2.1 r29.2.2.2.2.2.length m41.2.2.2]) (cap := []) [0, 1] rfl rfl (bl rfl) rfl rfl en45 (c_ref12_Events r28.2.2.2.2.2 r29.2.2.2.2.2 m40.2.2.1 m40.2.2.2 m41.2.2.1 m41.2.2.2 r34 hr34) rfl (fun ret M' F' hR34 => ?_))
            obtain ⟨rfl, rfl, rfl⟩ := hR34
            refine TrL.v (v_pick_t rfl rfl h37 rfl) rfl rfl (bl rfl) ?_
            refine TrL.v (v_move rfl rfl) rfl rfl (bl rfl) ?_
            rcases ifc H with ⟨h38, H⟩ | ⟨h38, H⟩
            · refine TrL.cons_yes rfl rfl rfl h38 (OpTr.v (v_move rfl rfl) rfl (bl rfl) ?_)
              refine TrL.cons_yes rfl rfl rfl h38 (OpTr.v (v_move rfl rfl) rfl (bl rfl) ?_)
              refine TrL.cons_yes rfl rfl rfl h38 (OpTr.v (v_arith rfl rfl rfl ar_eql) rfl (bl rfl) ?_)
              refine TrL.v (v_pick_t rfl rfl h38 rfl) rfl rfl (bl rfl) ?_
              refine TrL.v (v_assign rfl rfl) rfl rfl (bl rfl) ?_
              refine TrL.nil (qthen_n ?_)
              have hz := Option.some.inj H
              subst hz
              refine Tr.ret (ret_r ⟨[(4, .bool (decide (x4 = x3.2.2)))], [], [], []⟩ [.bool (decide (x4 = x3.2.2))] [] [] (Imp.re _ [] [] (sc rfl sn) (by decide) rfl rfl rfl) rfl rfl ⟨rfl, rfl, rfl⟩ (.cons (resv_tmp rfl) .nil))
            · refine TrL.cons_no rfl rfl rfl (gn_t (bf_b h38)) rfl (bl rfl) ?_
              refine TrL.cons_no rfl rfl rfl (gn_t (bf_b h38)) rfl (bl rfl) ?_
              refine TrL.cons_no rfl rfl rfl (gn_t (bf_b h38)) rfl (bl rfl) ?_
              refine TrL.v (v_pick_f rfl rfl (bf_b h38) rfl) rfl rfl (bl rfl) ?_
              refine TrL.v (v_assign rfl rfl) rfl rfl (bl rfl) ?_
              refine TrL.nil (qthen_n ?_)
              have hz := Option.some.inj H
              subst hz
              refine Tr.ret (ret_r ⟨[(4, .bool false)], [], [], []⟩ [.bool false] [] [] (Imp.re _ [] [] (sc rfl sn) (by decide) rfl rfl rfl) rfl rfl ⟨rfl, rfl, rfl⟩ (.cons (resv_tmp rfl) .nil))
          · refine TrL.cons_no rfl rfl rfl (gn_t (bf_b h37)) rfl (bl rfl) ?_
            refine TrL.cons_no rfl rfl rfl (gn_t (bf_b h37)) rfl (bl rfl) ?_
            refine TrL.cons_no rfl rfl rfl (gn_t (bf_b h37)) rfl (bl rfl) ?_
            refine TrL.v (v_pick_f rfl rfl (bf_b h37) rfl) rfl rfl (bl rfl) ?_
            refine TrL.v (v_move rfl rfl) rfl rfl (bl rfl) ?_
            refine TrL.cons_no rfl rfl rfl (gn_t rfl) rfl (bl rfl) ?_
            refine TrL.cons_no rfl rfl rfl (gn_t rfl) rfl (bl rfl) ?_
            refine TrL.cons_no rfl rfl rfl (gn_t rfl) rfl (bl rfl) ?_
            refine TrL.v (v_pick_f rfl rfl rfl rfl) rfl rfl (bl rfl) ?_
            refine TrL.v (v_assign rfl rfl) rfl rfl (bl rfl) ?_
            refine TrL.nil (qthen_n ?_)
            have hz := Option.some.inj H
            subst hz
            refine Tr.ret (ret_r ⟨[(4, .bool false)], [], [], []⟩ [.bool false] [] [] (Imp.re _ [] [] (sc rfl sn) (by decide) rfl rfl rfl) rfl rfl ⟨rfl, rfl, rfl⟩ (.cons (resv_tmp rfl) .nil))
        · refine TrL.cons_no rfl rfl rfl (gn_t (bf_b h36)) rfl (bl rfl) ?_
          refine TrL.cons_no rfl rfl rfl (gn_t (bf_b h36)) rfl (bl rfl) ?_
          refine TrL.cons_no rfl rfl rfl (gn_t (bf_b h36)) rfl (bl rfl) ?_
          refine TrL.v (v_pick_f rfl rfl (bf_b h36) rfl) rfl rfl (bl rfl) ?_
          refine TrL.v (v_move rfl rfl) rfl rfl (bl rfl) ?_
          refine TrL.cons_no rfl rfl rfl (gn_t rfl) rfl (bl rfl) ?_
          refine TrL.cons_no rfl rfl rfl (gn_t rfl) rfl (bl rfl) ?_
          refine TrL.cons_no rfl rfl rfl (gn_t rfl) rfl (bl rfl) ?_
          refine TrL.v (v_pick_f rfl rfl rfl rfl) rfl rfl (bl rfl) ?_
          refine TrL.v (v_move rfl rfl) rfl rfl (bl rfl) ?_
          refine TrL.cons_no rfl rfl rfl (gn_t rfl) rfl (bl rfl) ?_
          refine TrL.cons_no rfl rfl rfl (gn_t rfl) rfl (bl rfl) ?_
          refine TrL.cons_no rfl rfl rfl (gn_t rfl) rfl (bl rfl) ?_
          refine TrL.v (v_pick_f rfl rfl rfl rfl) rfl rfl (bl rfl) ?_
          refine TrL.v (v_assign rfl rfl) rfl rfl (bl rfl) ?_
          refine TrL.nil (qthen_n ?_)
          have hz := Option.some.inj H
          subst hz
          refine Tr.ret (ret_r ⟨[(4, .bool false)], [], [], []⟩ [.bool false] [] [] (Imp.re _ [] [] (sc rfl sn) (by decide) rfl rfl rfl) rfl rfl ⟨rfl, rfl, rfl⟩ (.cons (resv_tmp rfl) .nil))
end Go.Proofs.Ytbeknohemgjfbaa.W
