/- The contracts of the walked functions: the printed walks. -/
import Derived.Test.YtbnjjpmlaknaoaaKa
import Derived.Test.YtbnjjpmlaknaoaaQa
import Derived.Test.YtbnjjpmlaknaoaaWlaw05aa
import Derived.Test.YtbnjjpmlaknaoaaWlevelaa
import Derived.Test.YtbnjjpmlaknaoaaWref05aa
namespace Go.Proofs.Ytbnjjpmlaknaoaa.W
open Go Go.Proofs Go.Proofs.Ytbnjjpmlaknaoaa.L Go.Proofs.Ytbnjjpmlaknaoaa.Pu
set_option linter.unusedVariables false
set_option maxHeartbeats 4000000

theorem c_law05_LevelTells (p1 : List (Int × Int)) (p2 : List (Int × Int)) (p3 : Int × Int × Int × Int × Int) (A1 : Option Addr) (c1 : Nat) (A2 : Option Addr) (c2 : Nat) (r : Bool) (H : law05_LevelTells p1 p2 p3 = some r) :
    Ctr Try.prog 9 [.slice A1 p1.length c1, .slice A2 p2.length c2, .agg #[.int .u64 p3.1, .int .u64 p3.2.1, .int .u64 p3.2.2.1, .int .u64 p3.2.2.2.1, .int .u64 p3.2.2.2.2]] [] [slF rp_u64_u64 A1 c1 p1, slF rp_u64_u64 A2 c2 p2] (fun ret M' F' => ret = .bool r ∧ M' = [] ∧ F' = []) := by
  unfold law05_LevelTells at H
  refine ctr_ofI (N := 96) Try.func9 rfl Try.ntmps9 rfl (Nat.le_of_ble_eq_true rfl) (fun γ0 w0 => ?_)
  refine Tr.seq ?_
  refine Tr.region ?_
  refine TrL.cons rfl (op_box' rfl (bl rfl) rfl rfl rfl (fun b2 => ?_))
  refine TrL.v (v_assign rfl rfl) rfl rfl (bl rfl) ?_
  refine TrL.nil (qthen_n ?_)
  refine Tr.seq ?_
  refine Tr.region ?_
  obtain ⟨r17, hr17, H⟩ := bnd H
  refine TrL.cons rfl (op_call0' (vs := []) (cap := []) [] rfl rfl (bl rfl) rfl rfl en46 (c_law05_awake r17 hr17) rfl (fun ret M' F' hR17 => ?_))
  obtain ⟨rfl, rfl, rfl⟩ := hR17
  refine TrL.v (v_assign rfl rfl) rfl rfl (bl rfl) ?_
  refine TrL.nil (qthen_n ?_)
  refine Tr.seq ?_
  refine Tr.seq ?_
  refine Tr.region ?_
  refine TrL.v (v_move rfl rfl) rfl rfl (bl rfl) ?_
  refine TrL.v (v_move rfl rfl) rfl rfl (bl rfl) ?_
  obtain ⟨r18, hr18, H⟩ := bnd H
  refine TrL.cons rfl (op_call0' (vs := [.slice A1 p1.length c1, .slice A2 p2.length c2]) (cap := []) [0, 1] rfl rfl (bl rfl) rfl rfl en47 (c_law05_come p1 p2 A1 c1 A2 c2 r18 hr18) rfl (fun ret M' F' hR18 => ?_))
  obtain ⟨rfl, rfl, rfl⟩ := hR18
  refine TrL.v (v_notd rfl (bdec rfl)) rfl rfl (bl rfl) ?_
  refine TrL.nil (qthen_n ?_)
  rcases ifc H with ⟨h12, H⟩ | ⟨h12, H⟩
  · refine Tr.cond_t rfl (bt_dec h12) ?_
    refine Tr.seq ?_
    refine Tr.region ?_
    refine TrL.v (v_move rfl rfl) rfl rfl (bl rfl) ?_
    refine TrL.v (v_assign rfl rfl) rfl rfl (bl rfl) ?_
    refine TrL.nil (qthen_n ?_)
    have hz := Option.some.inj H
    subst hz
    refine Tr.ret (qthen_r (ret_r ⟨[(6, .bool r17)], [], [], []⟩ [.bool r17] [] [] (Imp.re _ [] [] (sc rfl sn) (by decide) rfl rfl rfl) rfl rfl ⟨rfl, rfl, rfl⟩ (.cons (resv_tmp rfl) .nil)))
  · refine Tr.cond_f rfl (bf_dec h12) ?_
    refine Tr.skip (qthen_n ?_)
    refine Tr.seq ?_
    refine Tr.region ?_
    refine TrL.v (v_indexArr rfl ar52 ty23 rfl rfl (by decide) (by decide) rfl) rfl rfl (bl rfl) ?_
    refine TrL.v (v_load (k := 0) rfl rfl rfl ty23 (fun _ => rfl) rfl rfl) rfl rfl (bl rfl) ?_
    refine TrL.v (v_rem rfl rfl rfl (by decide)) rfl rfl (bl rfl) ?_
    refine TrL.v (v_conv' rfl ⟨_, Try.underlying23⟩ Try.underlying3 rfl wrap_i64') rfl rfl (bl rfl) ?_
    refine TrL.v (v_assign rfl rfl) rfl rfl (bl rfl) ?_
    refine TrL.nil (qthen_n ?_)
    refine Tr.seq ?_
    refine Tr.region ?_
    refine TrL.v (v_indexArr rfl ar52 ty23 rfl rfl (by decide) (by decide) rfl) rfl rfl (bl rfl) ?_
    refine TrL.v (v_load (k := 0) rfl rfl rfl ty23 (fun _ => rfl) rfl rfl) rfl rfl (bl rfl) ?_
    refine TrL.v (v_rem rfl rfl rfl (by decide)) rfl rfl (bl rfl) ?_
    refine TrL.v (v_assign rfl rfl) rfl rfl (bl rfl) ?_
    refine TrL.nil (qthen_n ?_)
    refine Tr.seq ?_
    refine Tr.region ?_
    refine TrL.v (v_move rfl rfl) rfl rfl (bl rfl) ?_
    refine TrL.v (v_move rfl rfl) rfl rfl (bl rfl) ?_
    refine TrL.v (v_move rfl rfl) rfl rfl (bl rfl) ?_
    refine TrL.v (v_move rfl rfl) rfl rfl (bl rfl) ?_
    refine TrL.v (v_indexArr rfl ar52 ty23 rfl rfl (by decide) (by decide) rfl) rfl rfl (bl rfl) ?_
    refine TrL.v (v_load (k := 0) rfl rfl rfl ty23 (fun _ => rfl) rfl rfl) rfl rfl (bl rfl) ?_
    obtain ⟨r19, hr19, H⟩ := bnd H
    refine TrL.cons rfl (op_call0' (vs := [.slice A1 p1.length c1, .int .i64 (wi64 (p3.1.tmod 100)), .slice A2 p2.length c2, .int .u64 (p3.2.1.tmod 9007199254740992), .int .u64 p3.2.2.1]) (cap := []) [0, 1] rfl rfl (bl rfl) rfl rfl en48 (c_level_Push p1 (wi64 (p3.1.tmod 100)) p2 (p3.2.1.tmod 9007199254740992) p3.2.2.1 A1 c1 A2 c2 r19 hr19) rfl (fun ret M' F' hR19 => ?_))
    obtain ⟨m19, rfl, rfl, rfl⟩ := hR19
    refine TrL.v (v_move rfl rfl) rfl rfl (bl rfl) ?_
    refine TrL.v (v_extract rfl rfl rfl) rfl rfl (bl rfl) ?_
    refine TrL.v (v_extract rfl rfl rfl) rfl rfl (bl rfl) ?_
    refine TrL.v (v_extract rfl rfl rfl) rfl rfl (bl rfl) ?_
    refine TrL.v (v_assign rfl rfl) rfl rfl (bl rfl) ?_
    refine TrL.v (v_assign rfl rfl) rfl rfl (bl rfl) ?_
    refine TrL.v (v_assign rfl rfl) rfl rfl (bl rfl) ?_
    refine TrL.nil (qthen_n ?_)
    refine Tr.seq ?_
    refine Tr.region ?_
    refine TrL.v (v_move rfl rfl) rfl rfl (bl rfl) ?_
    refine TrL.v (v_move rfl rfl) rfl rfl (bl rfl) ?_
    refine TrL.v (v_move rfl rfl) rfl rfl (bl rfl) ?_
    refine TrL.v (v_move rfl rfl) rfl rfl (bl rfl) ?_
    refine TrL.v (v_indexArr rfl ar52 ty23 rfl rfl (by decide) (by decide) rfl) rfl rfl (bl rfl) ?_
    refine TrL.v (v_load (k := 2) rfl rfl rfl ty23 (fun _ => rfl) rfl rfl) rfl rfl (bl rfl) ?_
    obtain ⟨r20, hr20, H⟩ := bnd H
    refine TrL.cons rfl (op_call0' (vs := [.slice A1 p1.length c1, .int .i64 (wi64 (p3.1.tmod 100)), .slice A2 p2.length c2, .int .u64 (p3.2.1.tmod 9007199254740992), .int .u64 p3.2.2.1]) (cap := []) [0, 1] rfl rfl (bl rfl) rfl rfl en49 (c_ref05_Push p1 (wi64 (p3.1.tmod 100)) p2 (p3.2.1.tmod 9007199254740992) p3.2.2.1 A1 c1 A2 c2 r20 hr20) rfl (fun ret M' F' hR20 => ?_))
    obtain ⟨m20, rfl, rfl, rfl⟩ := hR20
    refine TrL.v (v_move rfl rfl) rfl rfl (bl rfl) ?_
    refine TrL.v (v_extract rfl rfl rfl) rfl rfl (bl rfl) ?_
    refine TrL.v (v_extract rfl rfl rfl) rfl rfl (bl rfl) ?_
    refine TrL.v (v_extract rfl rfl rfl) rfl rfl (bl rfl) ?_
    refine TrL.v (v_assign rfl rfl) rfl rfl (bl rfl) ?_
    refine TrL.v (v_assign rfl rfl) rfl rfl (bl rfl) ?_
    refine TrL.v (v_assign rfl rfl) rfl rfl (bl rfl) ?_
    refine TrL.nil (qthen_n ?_)
    refine Tr.seq ?_
    refine Tr.region ?_
    refine TrL.v (v_indexArr rfl ar52 ty23 rfl rfl (by decide) (by decide) rfl) rfl rfl (bl rfl) ?_
    refine TrL.v (v_load (k := 2) rfl rfl rfl ty23 (fun _ => rfl) rfl rfl) rfl rfl (bl rfl) ?_
    refine TrL.v (v_rem rfl rfl rfl (by decide)) rfl rfl (bl rfl) ?_
    refine TrL.v (v_conv' rfl ⟨_, Try.underlying23⟩ Try.underlying3 rfl wrap_i64') rfl rfl (bl rfl) ?_
    refine TrL.v (v_arith rfl rfl rfl ar_sub_i64) rfl rfl (bl rfl) ?_
    refine TrL.v (v_assign rfl rfl) rfl rfl (bl rfl) ?_
    refine TrL.nil (qthen_n ?_)
    refine Tr.seq ?_
    refine Tr.region ?_
    refine TrL.v (v_indexArr rfl ar52 ty23 rfl rfl (by decide) (by decide) rfl) rfl rfl (bl rfl) ?_
    refine TrL.v (v_load (k := 2) rfl rfl rfl ty23 (fun _ => rfl) rfl rfl) rfl rfl (bl rfl) ?_
    refine TrL.v (v_rem rfl rfl rfl (by decide)) rfl rfl (bl rfl) ?_
    refine TrL.v (v_conv' rfl ⟨_, Try.underlying23⟩ Try.underlying3 rfl wrap_i64') rfl rfl (bl rfl) ?_
    refine TrL.v (v_assign rfl rfl) rfl rfl (bl rfl) ?_
    refine TrL.nil (qthen_n ?_)
    refine Tr.seq ?_
    refine Tr.region ?_
    refine TrL.v (v_move rfl rfl) rfl rfl (bl rfl) ?_
    refine TrL.v (v_move rfl rfl) rfl rfl (bl rfl) ?_
    rcases ifc H with ⟨h18, H⟩ | ⟨h18, H⟩
    · refine TrL.cons_yes rfl rfl rfl h18 (OpTr.v (v_move rfl rfl) rfl (bl rfl) ?_)
      refine TrL.cons_yes rfl rfl rfl h18 (OpTr.v (v_move rfl rfl) rfl (bl rfl) ?_)
      obtain ⟨r27, hr27, H⟩ := bnd H
      refine TrL.cons_yes rfl rfl rfl h18 (op_call0' (vs := [.slice m19.1 r19.1.length m19.2.1, .slice m20.1 r20.1.length m20.2.1]) (cap := []) [2, 4] rfl rfl (bl rfl) rfl rfl en37 (c_ref05_Same r19.1 r20.1 m19.1 m19.2.1 m20.1 m20.2.1 r27 hr27) rfl (fun ret M' F' hR27 => ?_))
      obtain ⟨rfl, rfl, rfl⟩ := hR27
      refine TrL.v (v_pick_t rfl rfl h18 rfl) rfl rfl (bl rfl) ?_
      refine TrL.v (v_move rfl rfl) rfl rfl (bl rfl) ?_
      rcases ifc H with ⟨h19, H⟩ | ⟨h19, H⟩
      · refine TrL.cons_yes rfl rfl rfl h19 (OpTr.v (v_move rfl rfl) rfl (bl rfl) ?_)
        refine TrL.cons_yes rfl rfl rfl h19 (OpTr.v (v_move rfl rfl) rfl (bl rfl) ?_)
        obtain ⟨r28, hr28, H⟩ := bnd H
        refine TrL.cons_yes rfl rfl rfl h19 (op_call0' (vs := [.slice m19.2.2.1 r19.2.1.length m19.2.2.2.1, .slice m20.2.2.1 r20.2.1.length m20.2.2.2]) (cap := []) [3, 5] rfl rfl (bl rfl) rfl rfl en37 (c_ref05_Same r19.2.1 r20.2.1 m19.2.2.1 m19.2.2.2.1 m20.2.2.1 m20.2.2.2 r28 hr28) rfl (fun ret M' F' hR28 => ?_))
        obtain ⟨rfl, rfl, rfl⟩ := hR28
        refine TrL.v (v_pick_t rfl rfl h19 rfl) rfl rfl (bl rfl) ?_
        refine TrL.v (v_move rfl rfl) rfl rfl (bl rfl) ?_
        rcases ifc H with ⟨h20, H⟩ | ⟨h20, H⟩
        · refine TrL.cons_yes rfl rfl rfl h20 (OpTr.v (v_move rfl rfl) rfl (bl rfl) ?_)
          refine TrL.cons_yes rfl rfl rfl h20 (OpTr.v (v_move rfl rfl) rfl (bl rfl) ?_)
          refine TrL.cons_yes rfl rfl rfl h20 (OpTr.v (v_arith rfl rfl rfl ar_eql) rfl (bl rfl) ?_)
          refine TrL.v (v_pick_t rfl rfl h20 rfl) rfl rfl (bl rfl) ?_
          refine TrL.v (v_move rfl rfl) rfl rfl (bl rfl) ?_
          rcases ifc H with ⟨h21, H⟩ | ⟨h21, H⟩
          · refine TrL.cons_yes rfl rfl rfl (bt_dec h21) (OpTr.v (v_move rfl rfl) rfl (bl rfl) ?_)
            refine TrL.cons_yes rfl rfl rfl (bt_dec h21) (OpTr.v (v_move rfl rfl) rfl (bl rfl) ?_)
            obtain ⟨r29, hr29, H⟩ := bnd H
            refine TrL.cons_yes rfl rfl rfl (bt_dec h21) (op_call0' (vs := [.int .i64 (wi64 ((wi64 (p3.2.2.2.1.tmod 3000)) - 50)), .int .i64 (wi64 (p3.2.2.2.2.tmod 4))]) (cap := []) [] rfl rfl (bl rfl) rfl rfl en50 (c_level_Most (wi64 ((wi64 (p3.2.2.2.1.tmod 3000)) - 50)) (wi64 (p3.2.2.2.2.tmod 4)) r29 hr29) rfl (fun ret M' F' hR29 => ?_))
            obtain ⟨rfl, rfl, rfl⟩ := hR29
            refine TrL.cons_yes rfl rfl rfl (bt_dec h21) (OpTr.v (v_move rfl rfl) rfl (bl rfl) ?_)
            refine TrL.cons_yes rfl rfl rfl (bt_dec h21) (OpTr.v (v_move rfl rfl) rfl (bl rfl) ?_)
            obtain ⟨r30, hr30, H⟩ := bnd H
            refine TrL.cons_yes rfl rfl rfl (bt_dec h21) (op_call0' (vs := [.int .i64 (wi64 ((wi64 (p3.2.2.2.1.tmod 3000)) - 50)), .int .i64 (wi64 (p3.2.2.2.2.tmod 4))]) (cap := []) [] rfl rfl (bl rfl) rfl rfl en51 (c_ref05_Most (wi64 ((wi64 (p3.2.2.2.1.tmod 3000)) - 50)) (wi64 (p3.2.2.2.2.tmod 4)) r30 hr30) rfl (fun ret M' F' hR30 => ?_))
            obtain ⟨rfl, rfl, rfl⟩ := hR30
            refine TrL.cons_yes rfl rfl rfl (bt_dec h21) (OpTr.v (v_arith rfl rfl rfl ar_eql) rfl (bl rfl) ?_)
            refine TrL.v (v_pick_t rfl rfl (bt_dec h21) rfl) rfl rfl (bl rfl) ?_
            refine TrL.v (v_move rfl rfl) rfl rfl (bl rfl) ?_
            rcases ifc H with ⟨h22, H⟩ | ⟨h22, H⟩
            · refine TrL.cons_yes rfl rfl rfl (bt_dec h22) (OpTr.v (v_move rfl rfl) rfl (bl rfl) ?_)
              refine TrL.cons_yes rfl rfl rfl (bt_dec h22) (OpTr.v (v_move rfl rfl) rfl (bl rfl) ?_)
              obtain ⟨r31, hr31, H⟩ := bnd H
              refine TrL.cons_yes rfl rfl rfl (bt_dec h22) (op_call0' (vs := [.int .i64 (wi64 ((wi64 (p3.2.2.2.1.tmod 3000)) - 50)), .int .i64 (wi64 (p3.2.2.2.2.tmod 4))]) (cap := []) [] rfl rfl (bl rfl) rfl rfl en52 (c_level_Least (wi64 ((wi64 (p3.2.2.2.1.tmod 3000)) - 50)) (wi64 (p3.2.2.2.2.tmod 4)) r31 hr31) rfl (fun ret M' F' hR31 => ?_))
              obtain ⟨rfl, rfl, rfl⟩ := hR31
              refine TrL.cons_yes rfl rfl rfl (bt_dec h22) (OpTr.v (v_move rfl rfl) rfl (bl rfl) ?_)
              refine TrL.cons_yes rfl rfl rfl (bt_dec h22) (OpTr.v (v_move rfl rfl) rfl (bl rfl) ?_)
              obtain ⟨r32, hr32, H⟩ := bnd H
              refine TrL.cons_yes rfl rfl rfl (bt_dec h22) (op_call0' (vs := [.int .i64 (wi64 ((wi64 (p3.2.2.2.1.tmod 3000)) - 50)), .int .i64 (wi64 (p3.2.2.2.2.tmod 4))]) (cap := []) [] rfl rfl (bl rfl) rfl rfl en53 (c_ref05_Least (wi64 ((wi64 (p3.2.2.2.1.tmod 3000)) - 50)) (wi64 (p3.2.2.2.2.tmod 4)) r32 hr32) rfl (fun ret M' F' hR32 => ?_))
              obtain ⟨rfl, rfl, rfl⟩ := hR32
              refine TrL.cons_yes rfl rfl rfl (bt_dec h22) (OpTr.v (v_arith rfl rfl rfl ar_eql) rfl (bl rfl) ?_)
              refine TrL.v (v_pick_t rfl rfl (bt_dec h22) rfl) rfl rfl (bl rfl) ?_
              refine TrL.v (v_assign rfl rfl) rfl rfl (bl rfl) ?_
              refine TrL.nil (qthen_n ?_)
              have hz := Option.some.inj H
              subst hz
              refine Tr.ret (ret_r ⟨[(6, .bool (decide (r31 = r32)))], [], [], []⟩ [.bool (decide (r31 = r32))] [] [] (Imp.re _ [] [] (sc rfl sn) (by decide) rfl rfl rfl) rfl rfl ⟨rfl, rfl, rfl⟩ (.cons (resv_tmp rfl) .nil))
            · refine TrL.cons_no rfl rfl rfl (gn_t (bf_dec h22)) rfl (bl rfl) ?_
              refine TrL.cons_no rfl rfl rfl (gn_t (bf_dec h22)) rfl (bl rfl) ?_
              refine TrL.cons_no rfl rfl rfl (gn_t (bf_dec h22)) rfl (bl rfl) ?_
              refine TrL.cons_no rfl rfl rfl (gn_t (bf_dec h22)) rfl (bl rfl) ?_
              refine TrL.cons_no rfl rfl rfl (gn_t (bf_dec h22)) rfl (bl rfl) ?_
              refine TrL.cons_no rfl rfl rfl (gn_t (bf_dec h22)) rfl (bl rfl) ?_
              refine TrL.cons_no rfl rfl rfl (gn_t (bf_dec h22)) rfl (bl rfl) ?_
              refine TrL.v (v_pick_f rfl rfl (bf_dec h22) rfl) rfl rfl (bl rfl) ?_
              refine TrL.v (v_assign rfl rfl) rfl rfl (bl rfl) ?_
              refine TrL.nil (qthen_n ?_)
              have hz := Option.some.inj H
              subst hz
              refine Tr.ret (ret_r ⟨[(6, .bool false)], [], [], []⟩ [.bool false] [] [] (Imp.re _ [] [] (sc rfl sn) (by decide) rfl rfl rfl) rfl rfl ⟨rfl, rfl, rfl⟩ (.cons (resv_tmp rfl) .nil))
          · refine TrL.cons_no rfl rfl rfl (gn_t (bf_dec h21)) rfl (bl rfl) ?_
            refine TrL.cons_no rfl rfl rfl (gn_t (bf_dec h21)) rfl (bl rfl) ?_
            refine TrL.cons_no rfl rfl rfl (gn_t (bf_dec h21)) rfl (bl rfl) ?_
            refine TrL.cons_no rfl rfl rfl (gn_t (bf_dec h21)) rfl (bl rfl) ?_
            refine TrL.cons_no rfl rfl rfl (gn_t (bf_dec h21)) rfl (bl rfl) ?_
            refine TrL.cons_no rfl rfl rfl (gn_t (bf_dec h21)) rfl (bl rfl) ?_
            refine TrL.cons_no rfl rfl rfl (gn_t (bf_dec h21)) rfl (bl rfl) ?_
            refine TrL.v (v_pick_f rfl rfl (bf_dec h21) rfl) rfl rfl (bl rfl) ?_
            refine TrL.v (v_move rfl rfl) rfl rfl (bl rfl) ?_
            refine TrL.cons_no rfl rfl rfl (gn_t rfl) rfl (bl rfl) ?_
            refine TrL.cons_no rfl rfl rfl (gn_t rfl) rfl (bl rfl) ?_
            refine TrL.cons_no rfl rfl rfl (gn_t rfl) rfl (bl rfl) ?_
            refine TrL.cons_no rfl rfl rfl (gn_t rfl) rfl (bl rfl) ?_
            refine TrL.cons_no rfl rfl rfl (gn_t rfl) rfl (bl rfl) ?_
            refine TrL.cons_no rfl rfl rfl (gn_t rfl) rfl (bl rfl) ?_
            refine TrL.cons_no rfl rfl rfl (gn_t rfl) rfl (bl rfl) ?_
            refine TrL.v (v_pick_f rfl rfl rfl rfl) rfl rfl (bl rfl) ?_
            refine TrL.v (v_assign rfl rfl) rfl rfl (bl rfl) ?_
            refine TrL.nil (qthen_n ?_)
            have hz := Option.some.inj H
            subst hz
            refine Tr.ret (ret_r ⟨[(6, .bool false)], [], [], []⟩ [.bool false] [] [] (Imp.re _ [] [] (sc rfl sn) (by decide) rfl rfl rfl) rfl rfl ⟨rfl, rfl, rfl⟩ (.cons (resv_tmp rfl) .nil))
        · refine TrL.cons_no rfl rfl rfl (gn_t (bf_b h20)) rfl (bl rfl) ?_
          refine TrL.cons_no rfl rfl rfl (gn_t (bf_b h20)) rfl (bl rfl) ?_
          refine TrL.cons_no rfl rfl rfl (gn_t (bf_b h20)) rfl (bl rfl) ?_
          refine TrL.v (v_pick_f rfl rfl (bf_b h20) rfl) rfl rfl (bl rfl) ?_
          refine TrL.v (v_move rfl rfl) rfl rfl (bl rfl) ?_
          refine TrL.cons_no rfl rfl rfl (gn_t rfl) rfl (bl rfl) ?_
          refine TrL.cons_no rfl rfl rfl (gn_t rfl) rfl (bl rfl) ?_
          refine TrL.cons_no rfl rfl rfl (gn_t rfl) rfl (bl rfl) ?_
          refine TrL.cons_no rfl rfl rfl (gn_t rfl) rfl (bl rfl) ?_
          refine TrL.cons_no rfl rfl rfl (gn_t rfl) rfl (bl rfl) ?_
          refine TrL.cons_no rfl rfl rfl (gn_t rfl) rfl (bl rfl) ?_
          refine TrL.cons_no rfl rfl rfl (gn_t rfl) rfl (bl rfl) ?_
          refine TrL.v (v_pick_f rfl rfl rfl rfl) rfl rfl (bl rfl) ?_
          refine TrL.v (v_move rfl rfl) rfl rfl (bl rfl) ?_
          refine TrL.cons_no rfl rfl rfl (gn_t rfl) rfl (bl rfl) ?_
          refine TrL.cons_no rfl rfl rfl (gn_t rfl) rfl (bl rfl) ?_
          refine TrL.cons_no rfl rfl rfl (gn_t rfl) rfl (bl rfl) ?_
          refine TrL.cons_no rfl rfl rfl (gn_t rfl) rfl (bl rfl) ?_
          refine TrL.cons_no rfl rfl rfl (gn_t rfl) rfl (bl rfl) ?_
          refine TrL.cons_no rfl rfl rfl (gn_t rfl) rfl (bl rfl) ?_
          refine TrL.cons_no rfl rfl rfl (gn_t rfl) rfl (bl rfl) ?_
          refine TrL.v (v_pick_f rfl rfl rfl rfl) rfl rfl (bl rfl) ?_
          refine TrL.v (v_assign rfl rfl) rfl rfl (bl rfl) ?_
          refine TrL.nil (qthen_n ?_)
          have hz := Option.some.inj H
          subst hz
          refine Tr.ret (ret_r ⟨[(6, .bool false)], [], [], []⟩ [.bool false] [] [] (Imp.re _ [] [] (sc rfl sn) (by decide) rfl rfl rfl) rfl rfl ⟨rfl, rfl, rfl⟩ (.cons (resv_tmp rfl) .nil))
      · refine TrL.cons_no rfl rfl rfl (gn_t (bf_b h19)) rfl (bl rfl) ?_
        refine TrL.cons_no rfl rfl rfl (gn_t (bf_b h19)) rfl (bl rfl) ?_
        refine TrL.cons_no rfl rfl rfl (gn_t (bf_b h19)) rfl (bl rfl) ?_
        refine TrL.v (v_pick_f rfl rfl (bf_b h19) rfl) rfl rfl (bl rfl) ?_
        refine TrL.v (v_move rfl rfl) rfl rfl (bl rfl) ?_
        refine TrL.cons_no rfl rfl rfl (gn_t rfl) rfl (bl rfl) ?_
        refine TrL.cons_no rfl rfl rfl (gn_t rfl) rfl (bl rfl) ?_
        refine TrL.cons_no rfl rfl rfl (gn_t rfl) rfl (bl rfl) ?_
        refine TrL.v (v_pick_f rfl rfl rfl rfl) rfl rfl (bl rfl) ?_
        refine TrL.v (v_move rfl rfl) rfl rfl (bl rfl) ?_
        refine TrL.cons_no rfl rfl rfl (gn_t rfl) rfl (bl rfl) ?_
        refine TrL.cons_no rfl rfl rfl (gn_t rfl) rfl (bl rfl) ?_
        refine TrL.cons_no rfl rfl rfl (gn_t rfl) rfl (bl rfl) ?_
        refine TrL.cons_no rfl rfl rfl (gn_t rfl) rfl (bl rfl) ?_
        refine TrL.cons_no rfl rfl rfl (gn_t rfl) rfl (bl rfl) ?_
        refine TrL.cons_no rfl rfl rfl (gn_t rfl) rfl (bl rfl) ?_
        refine TrL.cons_no rfl rfl rfl (gn_t rfl) rfl (bl rfl) ?_
        refine TrL.v (v_pick_f rfl rfl rfl rfl) rfl rfl (bl rfl) ?_
        refine TrL.v (v_move rfl rfl) rfl rfl (bl rfl) ?_
        refine TrL.cons_no rfl rfl rfl (gn_t rfl) rfl (bl rfl) ?_
        refine TrL.cons_no rfl rfl rfl (gn_t rfl) rfl (bl rfl) ?_
        refine TrL.cons_no rfl rfl rfl (gn_t rfl) rfl (bl rfl) ?_
        refine TrL.cons_no rfl rfl rfl (gn_t rfl) rfl (bl rfl) ?_
        refine TrL.cons_no rfl rfl rfl (gn_t rfl) rfl (bl rfl) ?_
        refine TrL.cons_no rfl rfl rfl (gn_t rfl) rfl (bl rfl) ?_
        refine TrL.cons_no rfl rfl rfl (gn_t rfl) rfl (bl rfl) ?_
        refine TrL.v (v_pick_f rfl rfl rfl rfl) rfl rfl (bl rfl) ?_
        refine TrL.v (v_assign rfl rfl) rfl rfl (bl rfl) ?_
        refine TrL.nil (qthen_n ?_)
        have hz := Option.some.inj H
        subst hz
        refine Tr.ret (ret_r ⟨[(6, .bool false)], [], [], []⟩ [.bool false] [] [] (Imp.re _ [] [] (sc rfl sn) (by decide) rfl rfl rfl) rfl rfl ⟨rfl, rfl, rfl⟩ (.cons (resv_tmp rfl) .nil))
    · refine TrL.cons_no rfl rfl rfl (gn_t (bf_b h18)) rfl (bl rfl) ?_
      refine TrL.cons_no rfl rfl rfl (gn_t (bf_b h18)) rfl (bl rfl) ?_
      refine TrL.cons_no rfl rfl rfl (gn_t (bf_b h18)) rfl (bl rfl) ?_
      refine TrL.v (v_pick_f rfl rfl (bf_b h18) rfl) rfl rfl (bl rfl) ?_
      refine TrL.v (v_move rfl rfl) rfl rfl (bl rfl) ?_
      refine TrL.cons_no rfl rfl rfl (gn_t rfl) rfl (bl rfl) ?_
      refine TrL.cons_no rfl rfl rfl (gn_t rfl) rfl (bl rfl) ?_
      refine TrL.cons_no rfl rfl rfl (gn_t rfl) rfl (bl rfl) ?_
      refine TrL.v (v_pick_f rfl rfl rfl rfl) rfl rfl (bl rfl) ?_
      refine TrL.v (v_move rfl rfl) rfl rfl (bl rfl) ?_
      refine TrL.cons_no rfl rfl rfl (gn_t rfl) rfl (bl rfl) ?_
      refine TrL.cons_no rfl rfl rfl (gn_t rfl) rfl (bl rfl) ?_
      refine TrL.cons_no rfl rfl rfl (gn_t rfl) rfl (bl rfl) ?_
      refine TrL.v (v_pick_f rfl rfl rfl rfl) rfl rfl (bl rfl) ?_
      refine TrL.v (v_move rfl rfl) rfl rfl (bl rfl) ?_
      refine TrL.cons_no rfl rfl rfl (gn_t rfl) rfl (bl rfl) ?_
      refine TrL.cons_no rfl rfl rfl (gn_t rfl) rfl (bl rfl) ?_
      refine TrL.cons_no rfl rfl rfl (gn_t rfl) rfl (bl rfl) ?_
      refine TrL.cons_no rfl rfl rfl (gn_t rfl) rfl (bl rfl) ?_
      refine TrL.cons_no rfl rfl rfl (gn_t rfl) rfl (bl rfl) ?_
      refine TrL.cons_no rfl rfl rfl (gn_t rfl) rfl (bl rfl) ?_
      refine TrL.cons_no rfl rfl rfl (gn_t rfl) rfl (bl rfl) ?_
      refine TrL.v (v_pick_f rfl rfl rfl rfl) rfl rfl (bl rfl) ?_
      refine TrL.v (v_move rfl rfl) rfl rfl (bl rfl) ?_
      refine TrL.cons_no rfl rfl rfl (gn_t rfl) rfl (bl rfl) ?_
      refine TrL.cons_no rfl rfl rfl (gn_t rfl) rfl (bl rfl) ?_
      refine TrL.cons_no rfl rfl rfl (gn_t rfl) rfl (bl rfl) ?_
      refine TrL.cons_no rfl rfl rfl (gn_t rfl) rfl (bl rfl) ?_
      refine TrL.cons_no rfl rfl rfl (gn_t rfl) rfl (bl rfl) ?_
      refine TrL.cons_no rfl rfl rfl (gn_t rfl) rfl (bl rfl) ?_
      refine TrL.cons_no rfl rfl rfl (gn_t rfl) rfl (bl rfl) ?_
      refine TrL.v (v_pick_f rfl rfl rfl rfl) rfl rfl (bl rfl) ?_
      refine TrL.v (v_assign rfl rfl) rfl rfl (bl rfl) ?_
      refine TrL.nil (qthen_n ?_)
      have hz := Option.some.inj H
      subst hz
      refine Tr.ret (ret_r ⟨[(6, .bool false)], [], [], []⟩ [.bool false] [] [] (Imp.re _ [] [] (sc rfl sn) (by decide) rfl rfl rfl) rfl rfl ⟨rfl, rfl, rfl⟩ (.cons (resv_tmp rfl) .nil))
end Go.Proofs.Ytbnjjpmlaknaoaa.W
