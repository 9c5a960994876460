/- The contracts of the walked functions: the printed walks. -/
import Derived.Test.YthgeodagikmpjaaKb
import Derived.Test.YthgeodagikmpjaaQb
import Derived.Test.YthgeodagikmpjaaWbufferab
import Derived.Test.YthgeodagikmpjaaWbufferbb
import Derived.Test.YthgeodagikmpjaaWbuffercb
import Derived.Test.YthgeodagikmpjaaWlaw12ab
import Derived.Test.YthgeodagikmpjaaWlaw12bb
import Derived.Test.YthgeodagikmpjaaWref12ab
import Derived.Test.YthgeodagikmpjaaWref12cb
import Derived.Test.YthgeodagikmpjaaWref12db
namespace Go.Proofs.Ythgeodagikmpjaa.W
open Go Go.Proofs Go.Proofs.Ythgeodagikmpjaa.L Go.Proofs.Ythgeodagikmpjaa.Pu
set_option linter.unusedVariables false
set_option maxHeartbeats 4000000

theorem c_law12_BufferPlays (p1 : Int) (p2 : Int) (p3 : List (Int × Int × Int)) (A1 : Option Addr) (c1 : Nat) (r : Bool) (H : law12_BufferPlays p1 p2 p3 = some r) :
    Ctr Try.prog 15 [.int .u64 p1, .int .i64 p2, .slice A1 p3.length c1] [] [slF rp_u64_u64_u64 A1 c1 p3] (fun ret M' F' => ret = .bool r ∧ M' = [] ∧ F' = []) := by
  unfold law12_BufferPlays at H
  refine ctr_ofI (N := 144) Try.func15 rfl Try.ntmps15 rfl (Nat.le_of_ble_eq_true rfl) (fun γ0 w0 => ?_)
  refine Tr.seq ?_
  refine Tr.region ?_
  refine TrL.v (v_assign rfl rfl) rfl rfl (bl rfl) ?_
  refine TrL.nil (qthen_n ?_)
  refine Tr.seq ?_
  refine Tr.region ?_
  obtain ⟨r51, hr51, H⟩ := bnd H
  refine TrL.cons rfl (op_call0' (vs := []) (cap := []) [] rfl rfl (bl rfl) rfl rfl en38 (c_law12_awake r51 hr51) rfl (fun ret M' F' hR51 => ?_))
  obtain ⟨rfl, rfl, rfl⟩ := hR51
  refine TrL.v (v_assign rfl rfl) rfl rfl (bl rfl) ?_
  refine TrL.nil (qthen_n ?_)
  refine Tr.seq ?_
  refine Tr.region ?_
  refine TrL.v (v_move rfl rfl) rfl rfl (bl rfl) ?_
  refine TrL.v (v_rem rfl rfl rfl (by decide)) rfl rfl (bl rfl) ?_
  refine TrL.v (v_move rfl rfl) rfl rfl (bl rfl) ?_
  refine TrL.v (v_max rfl rfl rfl) rfl rfl (bl rfl) ?_
  refine TrL.v (v_rem rfl rfl rfl (by decide)) rfl rfl (bl rfl) ?_
  refine TrL.v (v_arith rfl rfl rfl ar_add_i64) rfl rfl (bl rfl) ?_
  obtain ⟨r52, hr52, H⟩ := bnd H
  refine TrL.cons rfl (op_call0' (vs := [.int .u64 (p1.tmod 1000), .int .i64 (wi64 (1 + ((max p2 0).tmod 50)))]) (cap := []) [] rfl rfl (bl rfl) rfl rfl en39 (c_buffer_New (p1.tmod 1000) (wi64 (1 + ((max p2 0).tmod 50))) r52 hr52) rfl (fun ret M' F' hR52 => ?_))
  obtain ⟨rfl, rfl, rfl⟩ := hR52
  refine TrL.v (v_move rfl rfl) rfl rfl (bl rfl) ?_
  refine TrL.v (v_extract rfl rfl rfl) rfl rfl (bl rfl) ?_
  refine TrL.v (v_extract rfl rfl rfl) rfl rfl (bl rfl) ?_
  refine TrL.cons rfl (op_alloc' rfl (bl rfl) rfl ze48 (fun b18 => ?_))
  refine TrL.cons rfl (op_store' (k := 0) (c' := [.int .u64 r52.1, .int .i64 r52.2.1, .int .u64 0, .int .u64 0, .slice none 0 0]) rfl rfl rfl rfl rfl ty48 rfl (Nat.le_of_ble_eq_true rfl) (ones (oc rfl (oc rfl (oc rfl (oc rfl (oc rfl on)))))) rfl ?_)
  refine TrL.v (v_assign rfl rfl) rfl rfl (bl rfl) ?_
  refine TrL.nil (qthen_n ?_)
  refine Tr.seq ?_
  refine Tr.region ?_
  refine TrL.v (v_move rfl rfl) rfl rfl (bl rfl) ?_
  refine TrL.v (v_rem rfl rfl rfl (by decide)) rfl rfl (bl rfl) ?_
  refine TrL.v (v_move rfl rfl) rfl rfl (bl rfl) ?_
  refine TrL.v (v_max rfl rfl rfl) rfl rfl (bl rfl) ?_
  refine TrL.v (v_rem rfl rfl rfl (by decide)) rfl rfl (bl rfl) ?_
  refine TrL.v (v_arith rfl rfl rfl ar_add_i64) rfl rfl (bl rfl) ?_
  refine TrL.v (v_build (vs := [.int .u64 (p1.tmod 1000), .int .i64 (wi64 (1 + ((max p2 0).tmod 50)))]) (out := [.int .u64 (p1.tmod 1000), .int .i64 (wi64 (1 + ((max p2 0).tmod 50))), .int .u64 0, .int .u64 0, .slice none 0 0]) rfl pl58 ze58 rfl rfl) rfl rfl (bl rfl) ?_
  refine TrL.cons rfl (op_alloc' rfl (bl rfl) rfl ze58 (fun b19 => ?_))
  refine TrL.cons rfl (op_store' (k := 0) (c' := [.int .u64 (p1.tmod 1000), .int .i64 (wi64 (1 + ((max p2 0).tmod 50))), .int .u64 0, .int .u64 0, .slice none 0 0]) rfl rfl rfl rfl rfl ty58 rfl (Nat.le_of_ble_eq_true rfl) (ones (oc rfl (oc rfl (oc rfl (oc rfl (oc rfl on)))))) rfl ?_)
  refine TrL.nil (qthen_n ?_)
  refine Tr.seq ?_
  refine Tr.seq ?_
  refine Tr.region ?_
  refine TrL.v (v_move rfl rfl) rfl rfl (bl rfl) ?_
  refine TrL.v (v_arith rfl rfl rfl ar_neq) rfl rfl (bl rfl) ?_
  refine TrL.nil (qthen_n ?_)
  rcases ifc H with ⟨h57, H⟩ | ⟨h57, H⟩
  · refine Tr.cond_t rfl (bt_dec h57) ?_
    refine Tr.seq ?_
    refine Tr.region ?_
    refine TrL.v (v_assign rfl rfl) rfl rfl (bl rfl) ?_
    refine TrL.nil (qthen_n ?_)
    have hz := Option.some.inj H
    subst hz
    refine Tr.ret (qthen_r (ret_r ⟨[(6, .bool false)], [], [], []⟩ [.bool false] [] [] (Imp.re _ [] [] (sc rfl sn) (by decide) rfl rfl rfl) rfl rfl ⟨rfl, rfl, rfl⟩ (.cons (resv_tmp rfl) .nil)))
  · refine Tr.cond_f rfl (bf_dec h57) ?_
    refine Tr.skip (qthen_n ?_)
    refine Tr.seq ?_
    refine Tr.seq ?_
    refine Tr.region ?_
    refine TrL.v (v_assign rfl rfl) rfl rfl (bl rfl) ?_
    refine TrL.nil (qthen_n ?_)
    obtain ⟨x2, hx3, H⟩ := bnd H
    refine Tr.cutE (D := Unit) (M := Unit) .ret (fun d3 => x2 = .inl d3) (fun d3 m85 => ⟨[(6, .bool false)], [], [], []⟩) ?_ (fun d3 m85 hd3 => ?_)
    · refine Tr.cutE (D := Int × Int × Int × Int × (List (Int × Int × Int)) × Int × Int × Int × Int × List (Int × Int × Int)) (M := Option Addr × Nat × Option Addr × Nat) .normal (fun d4 => x2 = .inr d4) (fun d4 m86 => ⟨[(7, .bool r51), (8, .pointer (some ⟨b18, 0, none⟩)), (10, .pointer (some ⟨b19, 0, none⟩))], [cells b18 [.int .u64 d4.1, .int .i64 d4.2.1, .int .u64 d4.2.2.1, .int .u64 d4.2.2.2.1, .slice m86.1 d4.2.2.2.2.1.length m86.2.1] 48, cells b19 [.int .u64 d4.2.2.2.2.2.1, .int .i64 d4.2.2.2.2.2.2.1, .int .u64 d4.2.2.2.2.2.2.2.1, .int .u64 d4.2.2.2.2.2.2.2.2.1, .slice m86.2.2.1 d4.2.2.2.2.2.2.2.2.2.length m86.2.2.2] 58], [slF rp_u64_u64_u64 m86.1 m86.2.1 d4.2.2.2.2.1, slF rp_u64_u64_u64 m86.2.2.1 m86.2.2.2 d4.2.2.2.2.2.2.2.2.2], []⟩) ?_ (fun d4 m86 hd4 => ?_)
      · refine Tr.block (Tr.loopI (ι := Option Addr × Nat × Option Addr × Nat) (step := law12_BufferPlays_s0 p3) (fun s5 m71 => ⟨[(2, .slice A1 p3.length c1), (7, .bool r51), (8, .pointer (some ⟨b18, 0, none⟩)), (10, .pointer (some ⟨b19, 0, none⟩)), (11, .int .i64 s5.1)], [cells b18 [.int .u64 s5.2.1, .int .i64 s5.2.2.1, .int .u64 s5.2.2.2.1, .int .u64 s5.2.2.2.2.1, .slice m71.1 s5.2.2.2.2.2.1.length m71.2.1] 48, cells b19 [.int .u64 s5.2.2.2.2.2.2.1, .int .i64 s5.2.2.2.2.2.2.2.1, .int .u64 s5.2.2.2.2.2.2.2.2.1, .int .u64 s5.2.2.2.2.2.2.2.2.2.1, .slice m71.2.2.1 s5.2.2.2.2.2.2.2.2.2.2.length m71.2.2.2] 58], [slF rp_u64_u64_u64 A1 c1 p3, slF rp_u64_u64_u64 m71.1 m71.2.1 s5.2.2.2.2.2.1, slF rp_u64_u64_u64 m71.2.2.1 m71.2.2.2 s5.2.2.2.2.2.2.2.2.2.2], []⟩) ((none, 0, none, 0)) hx3 (Imp.re _ [1, 0] [0, 1, 1] (sc rfl (sc rfl (sc rfl (sc rfl (sc rfl sn))))) (by decide) rfl rfl rfl) (fun s5 m71 y2 hy2 hx4 => ?_))
        unfold law12_BufferPlays_s0 at hy2
        refine Tr.seq ?_
        refine Tr.seq ?_
        refine Tr.region ?_
        refine TrL.v (v_move rfl rfl) rfl rfl (bl rfl) ?_
        refine TrL.v (v_move rfl rfl) rfl rfl (bl rfl) ?_
        refine TrL.v (v_len rfl sl57 rfl) rfl rfl (bl rfl) ?_
        refine TrL.v (v_arith rfl rfl rfl ar_lss) rfl rfl (bl rfl) ?_
        refine TrL.v (v_move rfl rfl) rfl rfl (bl rfl) ?_
        rcases ifc hy2 with ⟨h90, hy2⟩ | ⟨h90, hy2⟩
        · refine TrL.cons_yes rfl rfl rfl (bt_dec h90) (OpTr.v (v_move rfl rfl) rfl (bl rfl) ?_)
          refine TrL.cons_yes rfl rfl rfl (bt_dec h90) (OpTr.v (v_arith rfl rfl rfl ar_lss) rfl (bl rfl) ?_)
          refine TrL.v (v_pick_t rfl rfl (bt_dec h90) rfl) rfl rfl (bl rfl) ?_
          refine TrL.nil (qthen_n ?_)
          rcases ifc hy2 with ⟨h91, hy2⟩ | ⟨h91, hy2⟩
          · refine Tr.cond_t rfl (bt_dec h91) ?_
            refine Tr.skip (qthen_n ?_)
            refine Tr.seq ?_
            refine Tr.block ?_
            refine Tr.seq ?_
            refine Tr.region ?_
            refine TrL.v (v_move rfl rfl) rfl rfl (bl rfl) ?_
            refine TrL.v (v_move rfl rfl) rfl rfl (bl rfl) ?_
            obtain ⟨z6, hz6, hy2⟩ := bnd hy2
            refine TrL.v (v_indexAddr (k := 0) rfl sl57 ty81 rfl rfl rfl rfl hz6) rfl rfl (bl rfl) ?_
            refine TrL.v (v_fieldAddr rfl fo81_0 rfl) rfl rfl (bl rfl) ?_
            refine TrL.v (v_loadg (A := A1) (i := s5.1) (j := 0) (k := 0) rfl ty55 nofun rfl rfl hz6 rfl rfl) rfl rfl (bl rfl) ?_
            refine TrL.cons rfl (op_alloc' rfl (bl rfl) rfl ze55 (fun b30 => ?_))
            refine TrL.cons rfl (op_store' (k := 0) (c' := [.int .u64 z6.1, .int .u64 z6.2.1, .int .u64 z6.2.2]) rfl rfl rfl rfl rfl ty55 rfl (Nat.le_of_ble_eq_true rfl) (ones (oc rfl (oc rfl (oc rfl on)))) rfl ?_)
            refine TrL.nil (qthen_n ?_)
            refine Tr.seq ?_
            refine Tr.seq ?_
            refine Tr.region ?_
            refine TrL.v (v_fieldAddr' rfl fo55_2 rfl rfl) rfl rfl (bl rfl) ?_
            refine TrL.v (v_load (k := 0) rfl rfl rfl ty22 (fun _ => rfl) rfl rfl) rfl rfl (bl rfl) ?_
            refine TrL.v (v_arith rfl rfl rfl ar_eql) rfl rfl (bl rfl) ?_
            refine TrL.nil (qthen_n ?_)
            rcases ifc hy2 with ⟨h92, hy2⟩ | ⟨h92, hy2⟩
            · refine Tr.cond_t rfl (bt_dec h92) ?_
              refine Tr.seq ?_
              refine Tr.region ?_
              refine TrL.v (v_load (k := 1) rfl rfl rfl ty48 nofun rfl rfl) rfl rfl (bl rfl) ?_
              refine TrL.v (v_fieldAddr' rfl fo55_0 rfl rfl) rfl rfl (bl rfl) ?_
              refine TrL.v (v_load (k := 0) rfl rfl rfl ty22 (fun _ => rfl) rfl rfl) rfl rfl (bl rfl) ?_
              obtain ⟨r77, hr77, hy2⟩ := bnd hy2
              refine TrL.cons rfl (op_call0' (vs := [.agg #[.int .u64 s5.2.1, .int .i64 s5.2.2.1, .int .u64 s5.2.2.2.1, .int .u64 s5.2.2.2.2.1, .slice m71.1 s5.2.2.2.2.2.1.length m71.2.1], .int .u64 z6.1]) (cap := []) [1] rfl rfl (bl rfl) rfl rfl en50 (c_buffer_Move ((s5.2.1, s5.2.2.1, s5.2.2.2.1, s5.2.2.2.2.1, s5.2.2.2.2.2.1)) z6.1 m71.1 m71.2.1 r77 hr77) rfl (fun ret M' F' hR77 => ?_))
              obtain ⟨m87, rfl, rfl, rfl⟩ := hR77
              refine TrL.v (v_move rfl rfl) rfl rfl (bl rfl) ?_
              refine TrL.v (v_extract rfl rfl rfl) rfl rfl (bl rfl) ?_
              refine TrL.v (v_extract rfl rfl rfl) rfl rfl (bl rfl) ?_
              refine TrL.v (v_extract rfl rfl rfl) rfl rfl (bl rfl) ?_
              refine TrL.cons rfl (op_alloc' rfl (bl rfl) rfl ze48 (fun b31 => ?_))
              refine TrL.cons rfl (op_store' (k := 0) (c' := [.int .u64 r77.1, .int .i64 r77.2.1, .int .u64 r77.2.2.1, .int .u64 r77.2.2.2.1, .slice m87.1 r77.2.2.2.2.1.length m87.2.1]) rfl rfl rfl rfl rfl ty48 rfl (Nat.le_of_ble_eq_true rfl) (ones (oc rfl (oc rfl (oc rfl (oc rfl (oc rfl on)))))) rfl ?_)
              refine TrL.v (v_assign rfl rfl) rfl rfl (bl rfl) ?_
              refine TrL.v (v_assign rfl rfl) rfl rfl (bl rfl) ?_
              refine TrL.nil (qthen_n ?_)
              refine Tr.seq ?_
              refine Tr.region ?_
              refine TrL.v (v_load (k := 3) rfl rfl rfl ty58 nofun rfl rfl) rfl rfl (bl rfl) ?_
              refine TrL.v (v_fieldAddr' rfl fo55_0 rfl rfl) rfl rfl (bl rfl) ?_
              refine TrL.v (v_load (k := 1) rfl rfl rfl ty22 (fun _ => rfl) rfl rfl) rfl rfl (bl rfl) ?_
              obtain ⟨r78, hr78, hy2⟩ := bnd hy2
              refine TrL.cons rfl (op_call0' (vs := [.agg #[.int .u64 s5.2.2.2.2.2.2.1, .int .i64 s5.2.2.2.2.2.2.2.1, .int .u64 s5.2.2.2.2.2.2.2.2.1, .int .u64 s5.2.2.2.2.2.2.2.2.2.1, .slice m71.2.2.1 s5.2.2.2.2.2.2.2.2.2.2.length m71.2.2.2], .int .u64 z6.1]) (cap := []) [2] rfl rfl (bl rfl) rfl rfl en51 (c_ref12_Move s5.2.2.2.2.2.2 z6.1 m71.2.2.1 m71.2.2.2 r78 hr78) rfl (fun ret M' F' hR78 => ?_))
              obtain ⟨m88, rfl, rfl, rfl⟩ := hR78
              refine TrL.v (v_move rfl rfl) rfl rfl (bl rfl) ?_
              refine TrL.v (v_extract rfl rfl rfl) rfl rfl (bl rfl) ?_
              refine TrL.v (v_extract rfl rfl rfl) rfl rfl (bl rfl) ?_
              refine TrL.v (v_extract rfl rfl rfl) rfl rfl (bl rfl) ?_
              refine TrL.cons rfl (op_alloc' rfl (bl rfl) rfl ze58 (fun b32 => ?_))
              refine TrL.cons rfl (op_store' (k := 0) (c' := [.int .u64 r78.1, .int .i64 r78.2.1, .int .u64 r78.2.2.1, .int .u64 r78.2.2.2.1, .slice m88.1 r78.2.2.2.2.1.length m88.2.1]) rfl rfl rfl rfl rfl ty58 rfl (Nat.le_of_ble_eq_true rfl) (ones (oc rfl (oc rfl (oc rfl (oc rfl (oc rfl on)))))) rfl ?_)
              refine TrL.v (v_assign rfl rfl) rfl rfl (bl rfl) ?_
              refine TrL.v (v_assign rfl rfl) rfl rfl (bl rfl) ?_
              refine TrL.nil (qthen_n ?_)
              refine Tr.seq ?_
              refine Tr.seq ?_
              refine Tr.region ?_
              refine TrL.v (v_move rfl rfl) rfl rfl (bl rfl) ?_
              refine TrL.v (v_move rfl rfl) rfl rfl (bl rfl) ?_
              refine TrL.v (v_arith rfl rfl rfl ar_neq) rfl rfl (bl rfl) ?_
              refine TrL.v (v_move rfl rfl) rfl rfl (bl rfl) ?_
              rcases ifc hy2 with ⟨h95, hy2⟩ | ⟨h95, hy2⟩
              · refine TrL.cons_no rfl rfl rfl (gn_f (bt_dec h95)) rfl (bl rfl) ?_
                refine TrL.cons_no rfl rfl rfl (gn_f (bt_dec h95)) rfl (bl rfl) ?_
                refine TrL.cons_no rfl rfl rfl (gn_f (bt_dec h95)) rfl (bl rfl) ?_
                refine TrL.cons_no rfl rfl rfl (gn_f (bt_dec h95)) rfl (bl rfl) ?_
                refine TrL.v (v_pick_t rfl rfl (bt_dec h95) rfl) rfl rfl (bl rfl) ?_
                refine TrL.v (v_move rfl rfl) rfl rfl (bl rfl) ?_
                refine TrL.cons_no rfl rfl rfl (gn_f rfl) rfl (bl rfl) ?_
                refine TrL.cons_no rfl rfl rfl (gn_f rfl) rfl (bl rfl) ?_
                refine TrL.cons_no rfl rfl rfl (gn_f rfl) rfl (bl rfl) ?_
                refine TrL.cons_no rfl rfl rfl (gn_f rfl) rfl (bl rfl) ?_
                refine TrL.v (v_pick_t rfl rfl rfl rfl) rfl rfl (bl rfl) ?_
                refine TrL.nil (qthen_n ?_)
                refine Tr.cond_t rfl rfl ?_
                refine Tr.seq ?_
                refine Tr.region ?_
                refine TrL.v (v_assign rfl rfl) rfl rfl (bl rfl) ?_
                refine TrL.nil (qthen_n ?_)
                have hz := Option.some.inj hy2
                subst hz
                refine Tr.ret (qthen_r (qthen_r (qblock_r (qthen_r (qloop_r (qblock_r (qcut_miss (by simp) (qcut_hit (()) (()) (hx4 _ rfl).symm (Imp.re _ [] [] (sc rfl sn) (by decide) rfl rfl rfl)))))))))
              · refine TrL.cons_yes rfl rfl rfl (bf_dec h95) (OpTr.v (v_load (k := 1) rfl rfl rfl ty48 nofun rfl rfl) rfl (bl rfl) ?_)
                refine TrL.cons_yes rfl rfl rfl (bf_dec h95) (OpTr.v (v_load (k := 0) rfl rfl rfl ty58 nofun rfl rfl) rfl (bl rfl) ?_)
                obtain ⟨r81, hr81, hy2⟩ := bnd hy2
                refine TrL.cons_yes rfl rfl rfl (bf_dec h95) (op_call0' (vs := [.agg #[.int .u64 r77.1, .int .i64 r77.2.1, .int .u64 r77.2.2.1, .int .u64 r77.2.2.2.1, .slice m87.1 r77.2.2.2.2.1.length m87.2.1], .agg #[.int .u64 r78.1, .int .i64 r78.2.1, .int .u64 r78.2.2.1, .int .u64 r78.2.2.2.1, .slice m88.1 r78.2.2.2.2.1.length m88.2.1]]) (cap := []) [3, 5] rfl rfl (bl rfl) rfl rfl en43 (c_law12_same ((r77.1, r77.2.1, r77.2.2.1, r77.2.2.2.1, r77.2.2.2.2.1)) ((r78.1, r78.2.1, r78.2.2.1, r78.2.2.2.1, r78.2.2.2.2.1)) m87.1 m87.2.1 m88.1 m88.2.1 r81 hr81) rfl (fun ret M' F' hR81 => ?_))
                obtain ⟨rfl, rfl, rfl⟩ := hR81
                refine TrL.cons_yes rfl rfl rfl (bf_dec h95) (OpTr.v (v_notd rfl (bdec rfl)) rfl (bl rfl) ?_)
                refine TrL.v (v_pick_f rfl rfl (bf_dec h95) rfl) rfl rfl (bl rfl) ?_
                refine TrL.v (v_move rfl rfl) rfl rfl (bl rfl) ?_
                rcases ifc hy2 with ⟨h96, hy2⟩ | ⟨h96, hy2⟩
                · refine TrL.cons_no rfl rfl rfl (gn_f (bt_dec h96)) rfl (bl rfl) ?_
                  refine TrL.cons_no rfl rfl rfl (gn_f (bt_dec h96)) rfl (bl rfl) ?_
                  refine TrL.cons_no rfl rfl rfl (gn_f (bt_dec h96)) rfl (bl rfl) ?_
                  refine TrL.cons_no rfl rfl rfl (gn_f (bt_dec h96)) rfl (bl rfl) ?_
                  refine TrL.v (v_pick_t rfl rfl (bt_dec h96) rfl) rfl rfl (bl rfl) ?_
                  refine TrL.nil (qthen_n ?_)
                  refine Tr.cond_t rfl rfl ?_
                  refine Tr.seq ?_
                  refine Tr.region ?_
                  refine TrL.v (v_assign rfl rfl) rfl rfl (bl rfl) ?_
                  refine TrL.nil (qthen_n ?_)
                  have hz := Option.some.inj hy2
                  subst hz
                  refine Tr.ret (qthen_r (qthen_r (qblock_r (qthen_r (qloop_r (qblock_r (qcut_miss (by simp) (qcut_hit (()) (()) (hx4 _ rfl).symm (Imp.re _ [] [] (sc rfl sn) (by decide) rfl rfl rfl)))))))))
                · refine TrL.cons_yes rfl rfl rfl (bf_dec h96) (OpTr.v (v_move rfl rfl) rfl (bl rfl) ?_)
                  refine TrL.cons_yes rfl rfl rfl (bf_dec h96) (OpTr.v (v_move rfl rfl) rfl (bl rfl) ?_)
                  obtain ⟨r82, hr82, hy2⟩ := bnd hy2
                  refine TrL.cons_yes rfl rfl rfl (bf_dec h96) (op_call0' (vs := [.slice m87.2.2.1 r77.2.2.2.2.2.1.length m87.2.2.2, .slice m88.2.2.1 r78.2.2.2.2.2.1.length m88.2.2.2]) (cap := []) [4, 6] rfl rfl (bl rfl) rfl rfl en52 (c_ref12_Events r77.2.2.2.2.2.1 r78.2.2.2.2.2.1 m87.2.2.1 m87.2.2.2 m88.2.2.1 m88.2.2.2 r82 hr82) rfl (fun ret M' F' hR82 => ?_))
                  obtain ⟨rfl, rfl, rfl⟩ := hR82
                  refine TrL.cons_yes rfl rfl rfl (bf_dec h96) (OpTr.v (v_notd rfl (bdec rfl)) rfl (bl rfl) ?_)
                  refine TrL.v (v_pick_f rfl rfl (bf_dec h96) rfl) rfl rfl (bl rfl) ?_
                  refine TrL.nil (qthen_n ?_)
                  rcases ifc hy2 with ⟨h97, hy2⟩ | ⟨h97, hy2⟩
                  · refine Tr.cond_t rfl (bt_dec h97) ?_
                    refine Tr.seq ?_
                    refine Tr.region ?_
                    refine TrL.v (v_assign rfl rfl) rfl rfl (bl rfl) ?_
                    refine TrL.nil (qthen_n ?_)
                    have hz := Option.some.inj hy2
                    subst hz
                    refine Tr.ret (qthen_r (qthen_r (qblock_r (qthen_r (qloop_r (qblock_r (qcut_miss (by simp) (qcut_hit (()) (()) (hx4 _ rfl).symm (Imp.re _ [] [] (sc rfl sn) (by decide) rfl rfl rfl)))))))))
                  · refine Tr.cond_f rfl (bf_dec h97) ?_
                    refine Tr.skip (qthen_n ?_)
                    refine Tr.seq ?_
                    refine Tr.seq ?_
                    refine Tr.region ?_
                    refine TrL.v (v_move rfl rfl) rfl rfl (bl rfl) ?_
                    refine TrL.v (v_arith rfl rfl rfl ar_eql) rfl rfl (bl rfl) ?_
                    refine TrL.nil (qthen_n ?_)
                    rcases ifc hy2 with ⟨h98, hy2⟩ | ⟨h98, hy2⟩
                    · refine Tr.cond_t rfl (bt_dec h98) ?_
                      refine Tr.seq ?_
                      refine Tr.region ?_
                      refine TrL.v (v_load (k := 1) rfl rfl rfl ty48 nofun rfl rfl) rfl rfl (bl rfl) ?_
                      refine TrL.cons rfl (op_store' (k := 3) (c' := [.int .u64 r77.1, .int .i64 r77.2.1, .int .u64 r77.2.2.1, .int .u64 r77.2.2.2.1, .slice m87.1 r77.2.2.2.2.1.length m87.2.1]) rfl rfl rfl rfl rfl ty48 rfl (Nat.le_of_ble_eq_true rfl) (ones (oc rfl (oc rfl (oc rfl (oc rfl (oc rfl on)))))) rfl ?_)
                      refine TrL.nil (qthen_n ?_)
                      refine Tr.region ?_
                      refine TrL.v (v_load (k := 0) rfl rfl rfl ty58 nofun rfl rfl) rfl rfl (bl rfl) ?_
                      refine TrL.cons rfl (op_store' (k := 4) (c' := [.int .u64 r78.1, .int .i64 r78.2.1, .int .u64 r78.2.2.1, .int .u64 r78.2.2.2.1, .slice m88.1 r78.2.2.2.2.1.length m88.2.1]) rfl rfl rfl rfl rfl ty58 rfl (Nat.le_of_ble_eq_true rfl) (ones (oc rfl (oc rfl (oc rfl (oc rfl (oc rfl on)))))) rfl ?_)
                      refine TrL.nil (qthen_n ?_)
                      refine Tr.exit (qthen_x (qblock_hit (qthen_n ?_)))
                      refine Tr.region ?_
                      refine TrL.v (v_move rfl rfl) rfl rfl (bl rfl) ?_
                      refine TrL.v (v_arith rfl rfl rfl ar_add_i64) rfl rfl (bl rfl) ?_
                      refine TrL.v (v_assign rfl rfl) rfl rfl (bl rfl) ?_
                      have hz := Option.some.inj hy2
                      subst hz
                      refine TrL.nil (qloop_n ((m87.1, m87.2.1, m88.1, m88.2.1)) (Imp.re _ [3, 4] [0, 3, 5] (sc rfl (sc rfl (sc rfl (sc rfl (sc rfl sn))))) (by decide) rfl rfl rfl))
                    · refine Tr.cond_f rfl (bf_dec h98) ?_
                      refine Tr.skip (qthen_n ?_)
                      refine Tr.exit (qthen_x (qblock_hit (qthen_n ?_)))
                      refine Tr.region ?_
                      refine TrL.v (v_move rfl rfl) rfl rfl (bl rfl) ?_
                      refine TrL.v (v_arith rfl rfl rfl ar_add_i64) rfl rfl (bl rfl) ?_
                      refine TrL.v (v_assign rfl rfl) rfl rfl (bl rfl) ?_
                      have hz := Option.some.inj hy2
                      subst hz
                      refine TrL.nil (qloop_n ((m71.1, m71.2.1, m71.2.2.1, m71.2.2.2)) (Imp.re _ [3, 4] [0, 1, 2] (sc rfl (sc rfl (sc rfl (sc rfl (sc rfl sn))))) (by decide) rfl rfl rfl))
            · refine Tr.cond_f rfl (bf_dec h92) ?_
              refine Tr.skip (qthen_n ?_)
              refine Tr.seq ?_
              refine Tr.region ?_
              refine TrL.v (v_load (k := 1) rfl rfl rfl ty48 nofun rfl rfl) rfl rfl (bl rfl) ?_
              refine TrL.v (v_load (k := 0) rfl rfl rfl ty55 nofun rfl rfl) rfl rfl (bl rfl) ?_
              obtain ⟨r83, hr83, hy2⟩ := bnd hy2
              refine TrL.cons rfl (op_call0' (vs := [.agg #[.int .u64 s5.2.1, .int .i64 s5.2.2.1, .int .u64 s5.2.2.2.1, .int .u64 s5.2.2.2.2.1, .slice m71.1 s5.2.2.2.2.2.1.length m71.2.1], .agg #[.int .u64 z6.1, .int .u64 z6.2.1, .int .u64 z6.2.2]]) (cap := []) [1] rfl rfl (bl rfl) rfl rfl en40 (c_buffer_Push ((s5.2.1, s5.2.2.1, s5.2.2.2.1, s5.2.2.2.2.1, s5.2.2.2.2.2.1)) z6 m71.1 m71.2.1 r83 hr83) rfl (fun ret M' F' hR83 => ?_))
              obtain ⟨m93, rfl, rfl, rfl⟩ := hR83
              refine TrL.v (v_move rfl rfl) rfl rfl (bl rfl) ?_
              refine TrL.v (v_extract rfl rfl rfl) rfl rfl (bl rfl) ?_
              refine TrL.v (v_extract rfl rfl rfl) rfl rfl (bl rfl) ?_
              refine TrL.v (v_extract rfl rfl rfl) rfl rfl (bl rfl) ?_
              refine TrL.cons rfl (op_alloc' rfl (bl rfl) rfl ze48 (fun b33 => ?_))
              refine TrL.cons rfl (op_store' (k := 0) (c' := [.int .u64 r83.1, .int .i64 r83.2.1, .int .u64 r83.2.2.1, .int .u64 r83.2.2.2.1, .slice m93.1 r83.2.2.2.2.1.length m93.2.1]) rfl rfl rfl rfl rfl ty48 rfl (Nat.le_of_ble_eq_true rfl) (ones (oc rfl (oc rfl (oc rfl (oc rfl (oc rfl on)))))) rfl ?_)
              refine TrL.v (v_assign rfl rfl) rfl rfl (bl rfl) ?_
              refine TrL.v (v_assign rfl rfl) rfl rfl (bl rfl) ?_
              refine TrL.nil (qthen_n ?_)
              refine Tr.seq ?_
              refine Tr.region ?_
              refine TrL.v (v_load (k := 3) rfl rfl rfl ty58 nofun rfl rfl) rfl rfl (bl rfl) ?_
              refine TrL.v (v_load (k := 1) rfl rfl rfl ty55 nofun rfl rfl) rfl rfl (bl rfl) ?_
              obtain ⟨r84, hr84, hy2⟩ := bnd hy2
              refine TrL.cons rfl (op_call0' (vs := [.agg #[.int .u64 s5.2.2.2.2.2.2.1, .int .i64 s5.2.2.2.2.2.2.2.1, .int .u64 s5.2.2.2.2.2.2.2.2.1, .int .u64 s5.2.2.2.2.2.2.2.2.2.1, .slice m71.2.2.1 s5.2.2.2.2.2.2.2.2.2.2.length m71.2.2.2], .agg #[.int .u64 z6.1, .int .u64 z6.2.1, .int .u64 z6.2.2]]) (cap := []) [2] rfl rfl (bl rfl) rfl rfl en53 (c_ref12_Push s5.2.2.2.2.2.2 z6 m71.2.2.1 m71.2.2.2 r84 hr84) rfl (fun ret M' F' hR84 => ?_))
              obtain ⟨m94, rfl, rfl, rfl⟩ := hR84
              refine TrL.v (v_move rfl rfl) rfl rfl (bl rfl) ?_
              refine TrL.v (v_extract rfl rfl rfl) rfl rfl (bl rfl) ?_
              refine TrL.v (v_extract rfl rfl rfl) rfl rfl (bl rfl) ?_
              refine TrL.v (v_extract rfl rfl rfl) rfl rfl (bl rfl) ?_
              refine TrL.cons rfl (op_alloc' rfl (bl rfl) rfl ze58 (fun b34 => ?_))
              refine TrL.cons rfl (op_store' (k := 0) (c' := [.int .u64 r84.1, .int .i64 r84.2.1, .int .u64 r84.2.2.1, .int .u64 r84.2.2.2.1, .slice m94.1 r84.2.2.2.2.1.length m94.2.1]) rfl rfl rfl rfl rfl ty58 rfl (Nat.le_of_ble_eq_true rfl) (ones (oc rfl (oc rfl (oc rfl (oc rfl (oc rfl on)))))) rfl ?_)
              refine TrL.v (v_assign rfl rfl) rfl rfl (bl rfl) ?_
              refine TrL.v (v_assign rfl rfl) rfl rfl (bl rfl) ?_
              refine TrL.nil (qthen_n ?_)
              refine Tr.seq ?_
              refine Tr.seq ?_
              refine Tr.region ?_
              refine TrL.v (v_move rfl rfl) rfl rfl (bl rfl) ?_
              refine TrL.v (v_move rfl rfl) rfl rfl (bl rfl) ?_
              refine TrL.v (v_arith rfl rfl rfl ar_neq) rfl rfl (bl rfl) ?_
              refine TrL.v (v_move rfl rfl) rfl rfl (bl rfl) ?_
              rcases ifc hy2 with ⟨h101, hy2⟩ | ⟨h101, hy2⟩
              · refine TrL.cons_no rfl rfl rfl (gn_f (bt_dec h101)) rfl (bl rfl) ?_
                refine TrL.cons_no rfl rfl rfl (gn_f (bt_dec h101)) rfl (bl rfl) ?_
                refine TrL.cons_no rfl rfl rfl (gn_f (bt_dec h101)) rfl (bl rfl) ?_
                refine TrL.cons_no rfl rfl rfl (gn_f (bt_dec h101)) rfl (bl rfl) ?_
                refine TrL.v (v_pick_t rfl rfl (bt_dec h101) rfl) rfl rfl (bl rfl) ?_
                refine TrL.v (v_move rfl rfl) rfl rfl (bl rfl) ?_
                refine TrL.cons_no rfl rfl rfl (gn_f rfl) rfl (bl rfl) ?_
                refine TrL.cons_no rfl rfl rfl (gn_f rfl) rfl (bl rfl) ?_
                refine TrL.cons_no rfl rfl rfl (gn_f rfl) rfl (bl rfl) ?_
                refine TrL.cons_no rfl rfl rfl (gn_f rfl) rfl (bl rfl) ?_
                refine TrL.v (v_pick_t rfl rfl rfl rfl) rfl rfl (bl rfl) ?_
                refine TrL.nil (qthen_n ?_)
                refine Tr.cond_t rfl rfl ?_
                refine Tr.seq ?_
                refine Tr.region ?_
                refine TrL.v (v_assign rfl rfl) rfl rfl (bl rfl) ?_
                refine TrL.nil (qthen_n ?_)
                have hz := Option.some.inj hy2
                subst hz
                refine Tr.ret (qthen_r (qblock_r (qthen_r (qloop_r (qblock_r (qcut_miss (by simp) (qcut_hit (()) (()) (hx4 _ rfl).symm (Imp.re _ [] [] (sc rfl sn) (by decide) rfl rfl rfl))))))))
              · refine TrL.cons_yes rfl rfl rfl (bf_dec h101) (OpTr.v (v_load (k := 1) rfl rfl rfl ty48 nofun rfl rfl) rfl (bl rfl) ?_)
                refine TrL.cons_yes rfl rfl rfl (bf_dec h101) (OpTr.v (v_load (k := 0) rfl rfl rfl ty58 nofun rfl rfl) rfl (bl rfl) ?_)
                obtain ⟨r87, hr87, hy2⟩ := bnd hy2
                refine TrL.cons_yes rfl rfl rfl (bf_dec h101) (op_call0' (vs := [.agg #[.int .u64 r83.1, .int .i64 r83.2.1, .int .u64 r83.2.2.1, .int .u64 r83.2.2.2.1, .slice m93.1 r83.2.2.2.2.1.length m93.2.1], .agg #[.int .u64 r84.1, .int .i64 r84.2.1, .int .u64 r84.2.2.1, .int .u64 r84.2.2.2.1, .slice m94.1 r84.2.2.2.2.1.length m94.2.1]]) (cap := []) [3, 5] rfl rfl (bl rfl) rfl rfl en43 (c_law12_same ((r83.1, r83.2.1, r83.2.2.1, r83.2.2.2.1, r83.2.2.2.2.1)) ((r84.1, r84.2.1, r84.2.2.1, r84.2.2.2.1, r84.2.2.2.2.1)) m93.1 m93.2.1 m94.1 m94.2.1 r87 hr87) rfl (fun ret M' F' hR87 => ?_))
                obtain ⟨rfl, rfl, rfl⟩ := hR87
                refine TrL.cons_yes rfl rfl rfl (bf_dec h101) (OpTr.v (v_notd rfl (bdec rfl)) rfl (bl rfl) ?_)
                refine TrL.v (v_pick_f rfl rfl (bf_dec h101) rfl) rfl rfl (bl rfl) ?_
                refine TrL.v (v_move rfl rfl) rfl rfl (bl rfl) ?_
                rcases ifc hy2 with ⟨h102, hy2⟩ | ⟨h102, hy2⟩
                · refine TrL.cons_no rfl rfl rfl (gn_f (bt_dec h102)) rfl (bl rfl) ?_
                  refine TrL.cons_no rfl rfl rfl (gn_f (bt_dec h102)) rfl (bl rfl) ?_
                  refine TrL.cons_no rfl rfl rfl (gn_f (bt_dec h102)) rfl (bl rfl) ?_
                  refine TrL.cons_no rfl rfl rfl (gn_f (bt_dec h102)) rfl (bl rfl) ?_
                  refine TrL.v (v_pick_t rfl rfl (bt_dec h102) rfl) rfl rfl (bl rfl) ?_
                  refine TrL.nil (qthen_n ?_)
                  refine Tr.cond_t rfl rfl ?_
                  refine Tr.seq ?_
                  refine Tr.region ?_
                  refine TrL.v (v_assign rfl rfl) rfl rfl (bl rfl) ?_
                  refine TrL.nil (qthen_n ?_)
                  have hz := Option.some.inj hy2
                  subst hz
                  refine Tr.ret (qthen_r (qblock_r (qthen_r (qloop_r (qblock_r (qcut_miss (by simp) (qcut_hit (()) (()) (hx4 _ rfl).symm (Imp.re _ [] [] (sc rfl sn) (by decide) rfl rfl rfl))))))))
                · refine TrL.cons_yes rfl rfl rfl (bf_dec h102) (OpTr.v (v_move rfl rfl) rfl (bl rfl) ?_)
                  refine TrL.cons_yes rfl rfl rfl (bf_dec h102) (OpTr.v (v_move rfl rfl) rfl (bl rfl) ?_)
                  obtain ⟨r88, hr88, hy2⟩ := bnd hy2
                  refine TrL.cons_yes rfl rfl rfl (bf_dec h102) (op_call0' (vs := [.slice m93.2.2.1 r83.2.2.2.2.2.1.length m93.2.2.2, .slice m94.2.2.1 r84.2.2.2.2.2.1.length m94.2.2.2]) (cap := []) [4, 6] rfl rfl (bl rfl) rfl rfl en52 (c_ref12_Events r83.2.2.2.2.2.1 r84.2.2.2.2.2.1 m93.2.2.1 m93.2.2.2 m94.2.2.1 m94.2.2.2 r88 hr88) rfl (fun ret M' F' hR88 => ?_))
                  obtain ⟨rfl, rfl, rfl⟩ := hR88
                  refine TrL.cons_yes rfl rfl rfl (bf_dec h102) (OpTr.v (v_notd rfl (bdec rfl)) rfl (bl rfl) ?_)
                  refine TrL.v (v_pick_f rfl rfl (bf_dec h102) rfl) rfl rfl (bl rfl) ?_
                  refine TrL.nil (qthen_n ?_)
                  rcases ifc hy2 with ⟨h103, hy2⟩ | ⟨h103, hy2⟩
                  · refine Tr.cond_t rfl (bt_dec h103) ?_
                    refine Tr.seq ?_
                    refine Tr.region ?_
                    refine TrL.v (v_assign rfl rfl) rfl rfl (bl rfl) ?_
                    refine TrL.nil (qthen_n ?_)
                    have hz := Option.some.inj hy2
                    subst hz
                    refine Tr.ret (qthen_r (qblock_r (qthen_r (qloop_r (qblock_r (qcut_miss (by simp) (qcut_hit (()) (()) (hx4 _ rfl).symm (Imp.re _ [] [] (sc rfl sn) (by decide) rfl rfl rfl))))))))
                  · refine Tr.cond_f rfl (bf_dec h103) ?_
                    refine Tr.skip (qthen_n ?_)
                    refine Tr.seq ?_
                    refine Tr.region ?_
                    refine TrL.v (v_move rfl rfl) rfl rfl (bl rfl) ?_
                    refine TrL.v (v_arith rfl rfl rfl ar_eql) rfl rfl (bl rfl) ?_
                    refine TrL.nil (qthen_n ?_)
                    rcases ifc hy2 with ⟨h104, hy2⟩ | ⟨h104, hy2⟩
                    · refine Tr.cond_t rfl (bt_dec h104) ?_
                      refine Tr.seq ?_
                      refine Tr.region ?_
                      refine TrL.v (v_load (k := 1) rfl rfl rfl ty48 nofun rfl rfl) rfl rfl (bl rfl) ?_
                      refine TrL.cons rfl (op_store' (k := 3) (c' := [.int .u64 r83.1, .int .i64 r83.2.1, .int .u64 r83.2.2.1, .int .u64 r83.2.2.2.1, .slice m93.1 r83.2.2.2.2.1.length m93.2.1]) rfl rfl rfl rfl rfl ty48 rfl (Nat.le_of_ble_eq_true rfl) (ones (oc rfl (oc rfl (oc rfl (oc rfl (oc rfl on)))))) rfl ?_)
                      refine TrL.nil (qthen_n ?_)
                      refine Tr.region ?_
                      refine TrL.v (v_load (k := 0) rfl rfl rfl ty58 nofun rfl rfl) rfl rfl (bl rfl) ?_
                      refine TrL.cons rfl (op_store' (k := 4) (c' := [.int .u64 r84.1, .int .i64 r84.2.1, .int .u64 r84.2.2.1, .int .u64 r84.2.2.2.1, .slice m94.1 r84.2.2.2.2.1.length m94.2.1]) rfl rfl rfl rfl rfl ty58 rfl (Nat.le_of_ble_eq_true rfl) (ones (oc rfl (oc rfl (oc rfl (oc rfl (oc rfl on)))))) rfl ?_)
                      refine TrL.nil (qblock_n (qthen_n ?_))
                      refine Tr.region ?_
                      refine TrL.v (v_move rfl rfl) rfl rfl (bl rfl) ?_
                      refine TrL.v (v_arith rfl rfl rfl ar_add_i64) rfl rfl (bl rfl) ?_
                      refine TrL.v (v_assign rfl rfl) rfl rfl (bl rfl) ?_
                      have hz := Option.some.inj hy2
                      subst hz
                      refine TrL.nil (qloop_n ((m93.1, m93.2.1, m94.1, m94.2.1)) (Imp.re _ [3, 4] [0, 3, 5] (sc rfl (sc rfl (sc rfl (sc rfl (sc rfl sn))))) (by decide) rfl rfl rfl))
                    · refine Tr.cond_f rfl (bf_dec h104) ?_
                      refine Tr.skip (qblock_n (qthen_n ?_))
                      refine Tr.region ?_
                      refine TrL.v (v_move rfl rfl) rfl rfl (bl rfl) ?_
                      refine TrL.v (v_arith rfl rfl rfl ar_add_i64) rfl rfl (bl rfl) ?_
                      refine TrL.v (v_assign rfl rfl) rfl rfl (bl rfl) ?_
                      have hz := Option.some.inj hy2
                      subst hz
                      refine TrL.nil (qloop_n ((m71.1, m71.2.1, m71.2.2.1, m71.2.2.2)) (Imp.re _ [3, 4] [0, 1, 2] (sc rfl (sc rfl (sc rfl (sc rfl (sc rfl sn))))) (by decide) rfl rfl rfl))
          · refine Tr.cond_f rfl (bf_dec h91) ?_
            have hz := Option.some.inj hy2
            subst hz
            refine Tr.exit (qthen_x (qloop_x (qblock_hit (qcut_hit ((s5.2.1, s5.2.2.1, s5.2.2.2.1, s5.2.2.2.2.1, s5.2.2.2.2.2.1, s5.2.2.2.2.2.2.1, s5.2.2.2.2.2.2.2.1, s5.2.2.2.2.2.2.2.2.1, s5.2.2.2.2.2.2.2.2.2.1, s5.2.2.2.2.2.2.2.2.2.2)) ((m71.1, m71.2.1, m71.2.2.1, m71.2.2.2)) (hx4 _ rfl).symm (Imp.re _ [0, 1] [1, 2] (sc rfl (sc rfl (sc rfl sn))) (by decide) rfl rfl rfl)))))
        · refine TrL.cons_no rfl rfl rfl (gn_t (bf_dec h90)) rfl (bl rfl) ?_
          refine TrL.cons_no rfl rfl rfl (gn_t (bf_dec h90)) rfl (bl rfl) ?_
          refine TrL.v (v_pick_f rfl rfl (bf_dec h90) rfl) rfl rfl (bl rfl) ?_
          refine TrL.nil (qthen_n ?_)
          refine Tr.cond_f rfl rfl ?_
          have hz := Option.some.inj hy2
          subst hz
          refine Tr.exit (qthen_x (qloop_x (qblock_hit (qcut_hit ((s5.2.1, s5.2.2.1, s5.2.2.2.1, s5.2.2.2.2.1, s5.2.2.2.2.2.1, s5.2.2.2.2.2.2.1, s5.2.2.2.2.2.2.2.1, s5.2.2.2.2.2.2.2.2.1, s5.2.2.2.2.2.2.2.2.2.1, s5.2.2.2.2.2.2.2.2.2.2)) ((m71.1, m71.2.1, m71.2.2.1, m71.2.2.2)) (hx4 _ rfl).symm (Imp.re _ [0, 1] [1, 2] (sc rfl (sc rfl (sc rfl sn))) (by decide) rfl rfl rfl)))))
      · subst hd4
        replace H := sumr H
        refine (qcut_miss (by simp) (qthen_n ?_))
        refine Tr.seq ?_
        refine Tr.regionD drawn (fun hok => ?_)
        refine TrAny.prom (i := 0) (d := 131) hok (OpVal.plain rfl rfl (v_move rfl rfl)) (by kernel_rfl) rfl (bl rfl) ?_
        clear hok
        intro hok
        refine TrAny.prom (i := 1) (d := 132) hok (OpVal.plain rfl rfl (v_move rfl rfl)) (by kernel_rfl) rfl (bl rfl) ?_
        clear hok
        intro hok
        rcases ifc H with ⟨h111, H⟩ | ⟨h111, H⟩
        · refine TrAny.prom (i := 2) (d := 133) hok (OpVal.yes rfl rfl rfl rfl h111 (v_load (k := 0) rfl rfl rfl ty48 nofun rfl rfl)) (by kernel_rfl) rfl (bl rfl) ?_
          clear hok
          intro hok
          refine TrAny.prom (i := 3) (d := 134) hok (OpVal.yes rfl rfl rfl rfl h111 (v_load (k := 1) rfl rfl rfl ty58 nofun rfl rfl)) (by kernel_rfl) rfl (bl rfl) ?_
          clear hok
          intro hok
          obtain ⟨r98, hr98, H⟩ := bnd H
          refine TrAny.nextY (j := 4) (by kernel_rfl) hok rfl (by kernel_rfl) rfl rfl rfl h111 (op_call0' (vs := [.agg #[.int .u64 d4.1, .int .i64 d4.2.1, .int .u64 d4.2.2.1, .int .u64 d4.2.2.2.1, .slice m86.1 d4.2.2.2.2.1.length m86.2.1], .agg #[.int .u64 d4.2.2.2.2.2.1, .int .i64 d4.2.2.2.2.2.2.1, .int .u64 d4.2.2.2.2.2.2.2.1, .int .u64 d4.2.2.2.2.2.2.2.2.1, .slice m86.2.2.1 d4.2.2.2.2.2.2.2.2.2.length m86.2.2.2]]) (cap := []) [0, 1] rfl rfl (bl rfl) rfl rfl en43 (c_law12_same ((d4.1, d4.2.1, d4.2.2.1, d4.2.2.2.1, d4.2.2.2.2.1)) d4.2.2.2.2.2 m86.1 m86.2.1 m86.2.2.1 m86.2.2.2 r98 hr98) rfl (fun ret M' F' hR98 => ?_))
          obtain ⟨rfl, rfl, rfl⟩ := hR98
          refine nxp hok (kp_imp (kp_c0 rfl)) rfl (by kernel_rfl) ?_
          clear hok
          intro hok
          refine TrAny.prom (i := 5) (d := 136) hok (OpVal.plain rfl rfl (v_pick_t rfl rfl h111 rfl)) (by kernel_rfl) rfl (bl rfl) ?_
          clear hok
          intro hok
          refine TrAny.prom (i := 6) (d := 137) hok (OpVal.plain rfl rfl (v_move rfl rfl)) (by kernel_rfl) rfl (bl rfl) ?_
          clear hok
          intro hok
          rcases ifc H with ⟨h112, H⟩ | ⟨h112, H⟩
          · refine TrAny.prom (i := 7) (d := 138) hok (OpVal.yes rfl rfl rfl rfl h112 (v_load (k := 0) rfl rfl rfl ty48 nofun rfl rfl)) (by kernel_rfl) rfl (bl rfl) ?_
            clear hok
            intro hok
            refine TrAny.prom (i := 9) (d := 140) hok (OpVal.yes rfl rfl rfl rfl h112 (v_load (k := 1) rfl rfl rfl ty58 nofun rfl rfl)) (by kernel_rfl) rfl (bl rfl) ?_
            clear hok
            intro hok
            obtain ⟨r99, hr99, H⟩ := bnd H
            refine TrAny.nextY (j := 8) (by kernel_rfl) hok rfl (by kernel_rfl) rfl rfl rfl h112 (op_call0' (vs := [.agg #[.int .u64 d4.1, .int .i64 d4.2.1, .int .u64 d4.2.2.1, .int .u64 d4.2.2.2.1, .slice m86.1 d4.2.2.2.2.1.length m86.2.1]]) (cap := []) [0] rfl rfl (bl rfl) rfl rfl en54 (c_buffer_Weight ((d4.1, d4.2.1, d4.2.2.1, d4.2.2.2.1, d4.2.2.2.2.1)) m86.1 m86.2.1 r99 hr99) rfl (fun ret M' F' hR99 => ?_))
            obtain ⟨rfl, rfl, rfl⟩ := hR99
            refine nxp hok (kp_imp (kp_c0 rfl)) rfl (by kernel_rfl) ?_
            clear hok
            intro hok
            obtain ⟨r100, hr100, H⟩ := bnd H
            refine TrAny.nextY (j := 10) (by kernel_rfl) hok rfl (by kernel_rfl) rfl rfl rfl h112 (op_call0' (vs := [.agg #[.int .u64 d4.2.2.2.2.2.1, .int .i64 d4.2.2.2.2.2.2.1, .int .u64 d4.2.2.2.2.2.2.2.1, .int .u64 d4.2.2.2.2.2.2.2.2.1, .slice m86.2.2.1 d4.2.2.2.2.2.2.2.2.2.length m86.2.2.2]]) (cap := []) [1] rfl rfl (bl rfl) rfl rfl en55 (c_ref12_Weight d4.2.2.2.2.2 m86.2.2.1 m86.2.2.2 r100 hr100) rfl (fun ret M' F' hR100 => ?_))
            obtain ⟨rfl, rfl, rfl⟩ := hR100
            refine nxp hok (kp_imp (kp_c0 rfl)) rfl (by kernel_rfl) ?_
            clear hok
            intro hok
            refine TrAny.prom (i := 11) (d := 142) hok (OpVal.yes rfl rfl rfl rfl h112 (v_arith rfl rfl rfl ar_eql)) (by kernel_rfl) rfl (bl rfl) ?_
            clear hok
            intro hok
            refine TrAny.prom (i := 12) (d := 143) hok (OpVal.plain rfl rfl (v_pick_t rfl rfl h112 rfl)) (by kernel_rfl) rfl (bl rfl) ?_
            clear hok
            intro hok
            refine TrAny.prom (i := 13) (d := 6) hok (OpVal.plain rfl rfl (v_assign rfl rfl)) (by kernel_rfl) rfl (bl rfl) ?_
            clear hok
            intro hok
            refine TrAny.done (by kernel_rfl) (by kernel_rfl) hok (by kernel_rfl) (qthen_n ?_)
            have hz := Option.some.inj H
            subst hz
            refine Tr.ret (ret_r ⟨[(6, .bool (decide (r99 = r100)))], [], [], []⟩ [.bool (decide (r99 = r100))] [] [] (Imp.re _ [] [] (sc rfl sn) (by decide) rfl rfl rfl) rfl rfl ⟨rfl, rfl, rfl⟩ (.cons (resv_tmp rfl) .nil))
          · refine TrAny.prom (i := 7) (d := 138) hok (OpVal.no rfl (fun c h => by cases h) rfl rfl rfl (gn_t (bf_b h112))) (by kernel_rfl) rfl (bl rfl) ?_
            clear hok
            intro hok
            refine TrAny.prom (i := 8) (d := 139) hok (OpVal.no rfl (fun c h => by cases h) rfl rfl rfl (gn_t (bf_b h112))) (by kernel_rfl) rfl (bl rfl) ?_
            clear hok
            intro hok
            refine TrAny.prom (i := 9) (d := 140) hok (OpVal.no rfl (fun c h => by cases h) rfl rfl rfl (gn_t (bf_b h112))) (by kernel_rfl) rfl (bl rfl) ?_
            clear hok
            intro hok
            refine TrAny.prom (i := 10) (d := 141) hok (OpVal.no rfl (fun c h => by cases h) rfl rfl rfl (gn_t (bf_b h112))) (by kernel_rfl) rfl (bl rfl) ?_
            clear hok
            intro hok
            refine TrAny.prom (i := 11) (d := 142) hok (OpVal.no rfl (fun c h => by cases h) rfl rfl rfl (gn_t (bf_b h112))) (by kernel_rfl) rfl (bl rfl) ?_
            clear hok
            intro hok
            refine TrAny.prom (i := 12) (d := 143) hok (OpVal.plain rfl rfl (v_pick_f rfl rfl (bf_b h112) rfl)) (by kernel_rfl) rfl (bl rfl) ?_
            clear hok
            intro hok
            refine TrAny.prom (i := 13) (d := 6) hok (OpVal.plain rfl rfl (v_assign rfl rfl)) (by kernel_rfl) rfl (bl rfl) ?_
            clear hok
            intro hok
            refine TrAny.done (by kernel_rfl) (by kernel_rfl) hok (by kernel_rfl) (qthen_n ?_)
            have hz := Option.some.inj H
            subst hz
            refine Tr.ret (ret_r ⟨[(6, .bool false)], [], [], []⟩ [.bool false] [] [] (Imp.re _ [] [] (sc rfl sn) (by decide) rfl rfl rfl) rfl rfl ⟨rfl, rfl, rfl⟩ (.cons (resv_tmp rfl) .nil))
        · refine TrAny.prom (i := 2) (d := 133) hok (OpVal.no rfl (fun c h => by cases h) rfl rfl rfl (gn_t (bf_b h111))) (by kernel_rfl) rfl (bl rfl) ?_
          clear hok
          intro hok
          refine TrAny.prom (i := 3) (d := 134) hok (OpVal.no rfl (fun c h => by cases h) rfl rfl rfl (gn_t (bf_b h111))) (by kernel_rfl) rfl (bl rfl) ?_
          clear hok
          intro hok
          refine TrAny.prom (i := 4) (d := 135) hok (OpVal.no rfl (fun c h => by cases h) rfl rfl rfl (gn_t (bf_b h111))) (by kernel_rfl) rfl (bl rfl) ?_
          clear hok
          intro hok
          refine TrAny.prom (i := 5) (d := 136) hok (OpVal.plain rfl rfl (v_pick_f rfl rfl (bf_b h111) rfl)) (by kernel_rfl) rfl (bl rfl) ?_
          clear hok
          intro hok
          refine TrAny.prom (i := 6) (d := 137) hok (OpVal.plain rfl rfl (v_move rfl rfl)) (by kernel_rfl) rfl (bl rfl) ?_
          clear hok
          intro hok
          refine TrAny.prom (i := 7) (d := 138) hok (OpVal.no rfl (fun c h => by cases h) rfl rfl rfl (gn_t rfl)) (by kernel_rfl) rfl (bl rfl) ?_
          clear hok
          intro hok
          refine TrAny.prom (i := 8) (d := 139) hok (OpVal.no rfl (fun c h => by cases h) rfl rfl rfl (gn_t rfl)) (by kernel_rfl) rfl (bl rfl) ?_
          clear hok
          intro hok
          refine TrAny.prom (i := 9) (d := 140) hok (OpVal.no rfl (fun c h => by cases h) rfl rfl rfl (gn_t rfl)) (by kernel_rfl) rfl (bl rfl) ?_
          clear hok
          intro hok
          refine TrAny.prom (i := 10) (d := 141) hok (OpVal.no rfl (fun c h => by cases h) rfl rfl rfl (gn_t rfl)) (by kernel_rfl) rfl (bl rfl) ?_
          clear hok
          intro hok
          refine TrAny.prom (i := 11) (d := 142) hok (OpVal.no rfl (fun c h => by cases h) rfl rfl rfl (gn_t rfl)) (by kernel_rfl) rfl (bl rfl) ?_
          clear hok
          intro hok
          refine TrAny.prom (i := 12) (d := 143) hok (OpVal.plain rfl rfl (v_pick_f rfl rfl rfl rfl)) (by kernel_rfl) rfl (bl rfl) ?_
          clear hok
          intro hok
          refine TrAny.prom (i := 13) (d := 6) hok (OpVal.plain rfl rfl (v_assign rfl rfl)) (by kernel_rfl) rfl (bl rfl) ?_
          clear hok
          intro hok
          refine TrAny.done (by kernel_rfl) (by kernel_rfl) hok (by kernel_rfl) (qthen_n ?_)
          have hz := Option.some.inj H
          subst hz
          refine Tr.ret (ret_r ⟨[(6, .bool false)], [], [], []⟩ [.bool false] [] [] (Imp.re _ [] [] (sc rfl sn) (by decide) rfl rfl rfl) rfl rfl ⟨rfl, rfl, rfl⟩ (.cons (resv_tmp rfl) .nil))
    · subst hd3
      replace H := suml H
      have hz := Option.some.inj H
      subst hz
      refine (qthen_r (ret_r ⟨[(6, .bool false)], [], [], []⟩ [.bool false] [] [] (Imp.re _ [] [] (sc rfl sn) (by decide) rfl rfl rfl) rfl rfl ⟨rfl, rfl, rfl⟩ (.cons (resv_tmp rfl) .nil)))
end Go.Proofs.Ythgeodagikmpjaa.W
