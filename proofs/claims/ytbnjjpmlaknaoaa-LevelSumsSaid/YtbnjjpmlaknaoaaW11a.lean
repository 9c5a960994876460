/- The contracts of the walked functions: the printed walks. -/
import Derived.Test.YtbnjjpmlaknaoaaKa
import Derived.Test.YtbnjjpmlaknaoaaQa
import Derived.Test.YtbnjjpmlaknaoaaWlaw05aa
import Derived.Test.YtbnjjpmlaknaoaaWlevelaa
namespace Go.Proofs.Ytbnjjpmlaknaoaa.W
open Go Go.Proofs Go.Proofs.Ytbnjjpmlaknaoaa.L Go.Proofs.Ytbnjjpmlaknaoaa.Pu
set_option linter.unusedVariables false
set_option maxHeartbeats 4000000

theorem c_law05_LevelSums (p1 : List (Int × Int)) (p2 : List (Int × Int)) (p3 : Int × Int × Int) (A1 : Option Addr) (c1 : Nat) (A2 : Option Addr) (c2 : Nat) (r : Bool) (H : law05_LevelSums p1 p2 p3 = some r) :
    Ctr Try.prog 11 [.slice A1 p1.length c1, .slice A2 p2.length c2, .agg #[.int .u64 p3.1, .int .u64 p3.2.1, .int .u64 p3.2.2]] [] [slF rp_u64_u64 A1 c1 p1, slF rp_u64_u64 A2 c2 p2] (fun ret M' F' => ret = .bool r ∧ M' = [] ∧ F' = []) := by
  unfold law05_LevelSums at H
  refine ctr_ofI (N := 85) Try.func11 rfl Try.ntmps11 rfl (Nat.le_of_ble_eq_true rfl) (fun γ0 w0 => ?_)
  refine Tr.seq ?_
  refine Tr.region ?_
  refine TrL.cons rfl (op_box' rfl (bl rfl) rfl rfl rfl (fun b2 => ?_))
  refine TrL.v (v_assign rfl rfl) rfl rfl (bl rfl) ?_
  refine TrL.nil (qthen_n ?_)
  refine Tr.seq ?_
  refine Tr.region ?_
  obtain ⟨r5, hr5, H⟩ := bnd H
  refine TrL.cons rfl (op_call0' (vs := []) (cap := []) [] rfl rfl (bl rfl) rfl rfl en46 (c_law05_awake r5 hr5) rfl (fun ret M' F' hR5 => ?_))
  obtain ⟨rfl, rfl, rfl⟩ := hR5
  refine TrL.v (v_assign rfl rfl) rfl rfl (bl rfl) ?_
  refine TrL.nil (qthen_n ?_)
  refine Tr.seq ?_
  refine Tr.region ?_
  refine TrL.v (v_indexArr rfl ar24 ty23 rfl rfl (by decide) (by decide) rfl) rfl rfl (bl rfl) ?_
  refine TrL.v (v_load (k := 0) rfl rfl rfl ty23 (fun _ => rfl) rfl rfl) rfl rfl (bl rfl) ?_
  refine TrL.v (v_rem rfl rfl rfl (by decide)) rfl rfl (bl rfl) ?_
  refine TrL.v (v_conv' rfl ⟨_, Try.underlying23⟩ Try.underlying3 rfl wrap_i64') rfl rfl (bl rfl) ?_
  refine TrL.v (v_arith rfl rfl rfl ar_add_i64) rfl rfl (bl rfl) ?_
  refine TrL.v (v_assign rfl rfl) rfl rfl (bl rfl) ?_
  refine TrL.nil (qthen_n ?_)
  refine Tr.seq ?_
  refine Tr.seq ?_
  refine Tr.region ?_
  refine TrL.v (v_move rfl rfl) rfl rfl (bl rfl) ?_
  refine TrL.v (v_move rfl rfl) rfl rfl (bl rfl) ?_
  obtain ⟨r7, hr7, H⟩ := bnd H
  refine TrL.cons rfl (op_call0' (vs := [.slice A1 p1.length c1, .slice A2 p2.length c2]) (cap := []) [0, 1] rfl rfl (bl rfl) rfl rfl en47 (c_law05_come p1 p2 A1 c1 A2 c2 r7 hr7) rfl (fun ret M' F' hR7 => ?_))
  obtain ⟨rfl, rfl, rfl⟩ := hR7
  refine TrL.v (v_notd rfl (bdec rfl)) rfl rfl (bl rfl) ?_
  refine TrL.v (v_move rfl rfl) rfl rfl (bl rfl) ?_
  rcases ifc H with ⟨h13, H⟩ | ⟨h13, H⟩
  · refine TrL.cons_no rfl rfl rfl (gn_f (bt_dec h13)) rfl (bl rfl) ?_
    refine TrL.cons_no rfl rfl rfl (gn_f (bt_dec h13)) rfl (bl rfl) ?_
    refine TrL.cons_no rfl rfl rfl (gn_f (bt_dec h13)) rfl (bl rfl) ?_
    refine TrL.cons_no rfl rfl rfl (gn_f (bt_dec h13)) rfl (bl rfl) ?_
    refine TrL.v (v_pick_t rfl rfl (bt_dec h13) rfl) rfl rfl (bl rfl) ?_
    refine TrL.nil (qthen_n ?_)
    refine Tr.cond_t rfl rfl ?_
    refine Tr.seq ?_
    refine Tr.region ?_
    refine TrL.v (v_move rfl rfl) rfl rfl (bl rfl) ?_
    refine TrL.v (v_assign rfl rfl) rfl rfl (bl rfl) ?_
    refine TrL.nil (qthen_n ?_)
    have hz := Option.some.inj H
    subst hz
    refine Tr.ret (qthen_r (ret_r ⟨[(6, .bool r5)], [], [], []⟩ [.bool r5] [] [] (Imp.re _ [] [] (sc rfl sn) (by decide) rfl rfl rfl) rfl rfl ⟨rfl, rfl, rfl⟩ (.cons (resv_tmp rfl) .nil)))
  · refine TrL.cons_yes rfl rfl rfl (bf_dec h13) (OpTr.v (v_move rfl rfl) rfl (bl rfl) ?_)
    refine TrL.cons_yes rfl rfl rfl (bf_dec h13) (OpTr.v (v_len rfl sl38 rfl) rfl (bl rfl) ?_)
    refine TrL.cons_yes rfl rfl rfl (bf_dec h13) (OpTr.v (v_move rfl rfl) rfl (bl rfl) ?_)
    refine TrL.cons_yes rfl rfl rfl (bf_dec h13) (OpTr.v (v_arith rfl rfl rfl ar_gtr) rfl (bl rfl) ?_)
    refine TrL.v (v_pick_f rfl rfl (bf_dec h13) rfl) rfl rfl (bl rfl) ?_
    refine TrL.nil (qthen_n ?_)
    rcases ifc H with ⟨h14, H⟩ | ⟨h14, H⟩
    · refine Tr.cond_t rfl (bt_dec h14) ?_
      refine Tr.seq ?_
      refine Tr.region ?_
      refine TrL.v (v_move rfl rfl) rfl rfl (bl rfl) ?_
      refine TrL.v (v_assign rfl rfl) rfl rfl (bl rfl) ?_
      refine TrL.nil (qthen_n ?_)
      have hz := Option.some.inj H
      subst hz
      refine Tr.ret (qthen_r (ret_r ⟨[(6, .bool r5)], [], [], []⟩ [.bool r5] [] [] (Imp.re _ [] [] (sc rfl sn) (by decide) rfl rfl rfl) rfl rfl ⟨rfl, rfl, rfl⟩ (.cons (resv_tmp rfl) .nil)))
    · refine Tr.cond_f rfl (bf_dec h14) ?_
      refine Tr.skip (qthen_n ?_)
      refine Tr.seq ?_
      refine Tr.region ?_
      refine TrL.v (v_indexArr rfl ar24 ty23 rfl rfl (by decide) (by decide) rfl) rfl rfl (bl rfl) ?_
      refine TrL.v (v_load (k := 0) rfl rfl rfl ty23 (fun _ => rfl) rfl rfl) rfl rfl (bl rfl) ?_
      refine TrL.v (v_rem rfl rfl rfl (by decide)) rfl rfl (bl rfl) ?_
      refine TrL.v (v_assign rfl rfl) rfl rfl (bl rfl) ?_
      refine TrL.nil (qthen_n ?_)
      refine Tr.seq ?_
      refine Tr.region ?_
      refine TrL.v (v_move rfl rfl) rfl rfl (bl rfl) ?_
      refine TrL.v (v_move rfl rfl) rfl rfl (bl rfl) ?_
      refine TrL.v (v_move rfl rfl) rfl rfl (bl rfl) ?_
      refine TrL.v (v_move rfl rfl) rfl rfl (bl rfl) ?_
      refine TrL.v (v_indexArr rfl ar24 ty23 rfl rfl (by decide) (by decide) rfl) rfl rfl (bl rfl) ?_
      refine TrL.v (v_load (k := 0) rfl rfl rfl ty23 (fun _ => rfl) rfl rfl) rfl rfl (bl rfl) ?_
      obtain ⟨r8, hr8, H⟩ := bnd H
      refine TrL.cons rfl (op_call0' (vs := [.slice A1 p1.length c1, .int .i64 (wi64 (1 + (wi64 (p3.1.tmod 100)))), .slice A2 p2.length c2, .int .u64 (p3.2.1.tmod 9007199254740992), .int .u64 p3.2.2]) (cap := []) [0, 1] rfl rfl (bl rfl) rfl rfl en48 (c_level_Push p1 (wi64 (1 + (wi64 (p3.1.tmod 100)))) p2 (p3.2.1.tmod 9007199254740992) p3.2.2 A1 c1 A2 c2 r8 hr8) rfl (fun ret M' F' hR8 => ?_))
      obtain ⟨m8, rfl, rfl, rfl⟩ := hR8
      refine TrL.v (v_move rfl rfl) rfl rfl (bl rfl) ?_
      refine TrL.v (v_extract rfl rfl rfl) rfl rfl (bl rfl) ?_
      refine TrL.v (v_extract rfl rfl rfl) rfl rfl (bl rfl) ?_
      refine TrL.v (v_extract rfl rfl rfl) rfl rfl (bl rfl) ?_
      refine TrL.v (v_assign rfl rfl) rfl rfl (bl rfl) ?_
      refine TrL.v (v_assign rfl rfl) rfl rfl (bl rfl) ?_
      refine TrL.v (v_assign rfl rfl) rfl rfl (bl rfl) ?_
      refine TrL.nil (qthen_n ?_)
      refine Tr.seq ?_
      refine Tr.region ?_
      refine TrL.v (v_move rfl rfl) rfl rfl (bl rfl) ?_
      refine TrL.v (v_len rfl sl38 rfl) rfl rfl (bl rfl) ?_
      refine TrL.v (v_conv' rfl ⟨_, Try.underlying3⟩ Try.underlying23 rfl wrap_u64') rfl rfl (bl rfl) ?_
      refine TrL.v (v_move rfl rfl) rfl rfl (bl rfl) ?_
      refine TrL.v (v_arith rfl rfl rfl ar_add_u64) rfl rfl (bl rfl) ?_
      refine TrL.v (v_assign rfl rfl) rfl rfl (bl rfl) ?_
      refine TrL.nil (qthen_n ?_)
      refine Tr.seq ?_
      refine Tr.region ?_
      refine TrL.v (v_move rfl rfl) rfl rfl (bl rfl) ?_
      refine TrL.v (v_move rfl rfl) rfl rfl (bl rfl) ?_
      rcases ifc H with ⟨h19, H⟩ | ⟨h19, H⟩
      · refine TrL.cons_yes rfl rfl rfl h19 (OpTr.v (v_move rfl rfl) rfl (bl rfl) ?_)
        refine TrL.cons_yes rfl rfl rfl h19 (OpTr.v (v_arith rfl rfl rfl ar_mul_u64) rfl (bl rfl) ?_)
        refine TrL.cons_yes rfl rfl rfl h19 (OpTr.v (v_move rfl rfl) rfl (bl rfl) ?_)
        refine TrL.cons_yes rfl rfl rfl h19 (OpTr.v (v_len rfl sl38 rfl) rfl (bl rfl) ?_)
        refine TrL.cons_yes rfl rfl rfl h19 (OpTr.v (v_conv' rfl ⟨_, Try.underlying3⟩ Try.underlying23 rfl wrap_u64') rfl (bl rfl) ?_)
        refine TrL.cons_yes rfl rfl rfl h19 (OpTr.v (v_arith rfl rfl rfl ar_add_u64) rfl (bl rfl) ?_)
        refine TrL.cons_yes rfl rfl rfl h19 (OpTr.v (v_move rfl rfl) rfl (bl rfl) ?_)
        refine TrL.cons_yes rfl rfl rfl h19 (OpTr.v (v_len rfl sl38 rfl) rfl (bl rfl) ?_)
        refine TrL.cons_yes rfl rfl rfl h19 (OpTr.v (v_move rfl rfl) rfl (bl rfl) ?_)
        refine TrL.cons_yes rfl rfl rfl h19 (OpTr.v (v_len rfl sl38 rfl) rfl (bl rfl) ?_)
        refine TrL.cons_yes rfl rfl rfl h19 (OpTr.v (v_arith rfl rfl rfl ar_add_i64) rfl (bl rfl) ?_)
        refine TrL.cons_yes rfl rfl rfl h19 (OpTr.v (v_conv' rfl ⟨_, Try.underlying3⟩ Try.underlying23 rfl wrap_u64') rfl (bl rfl) ?_)
        refine TrL.cons_yes rfl rfl rfl h19 (OpTr.v (v_move rfl rfl) rfl (bl rfl) ?_)
        refine TrL.cons_yes rfl rfl rfl h19 (OpTr.v (v_arith rfl rfl rfl ar_add_u64) rfl (bl rfl) ?_)
        refine TrL.cons_yes rfl rfl rfl h19 (OpTr.v (v_arith rfl rfl rfl ar_eql) rfl (bl rfl) ?_)
        refine TrL.v (v_pick_t rfl rfl h19 rfl) rfl rfl (bl rfl) ?_
        refine TrL.v (v_move rfl rfl) rfl rfl (bl rfl) ?_
        rcases ifc H with ⟨h20, H⟩ | ⟨h20, H⟩
        · refine TrL.cons_yes rfl rfl rfl (bt_dec h20) (OpTr.v (v_move rfl rfl) rfl (bl rfl) ?_)
          refine TrL.cons_yes rfl rfl rfl (bt_dec h20) (OpTr.v (v_len rfl sl38 rfl) rfl (bl rfl) ?_)
          refine TrL.cons_yes rfl rfl rfl (bt_dec h20) (OpTr.v (v_move rfl rfl) rfl (bl rfl) ?_)
          refine TrL.cons_yes rfl rfl rfl (bt_dec h20) (OpTr.v (v_arith rfl rfl rfl ar_leq) rfl (bl rfl) ?_)
          refine TrL.v (v_pick_t rfl rfl (bt_dec h20) rfl) rfl rfl (bl rfl) ?_
          refine TrL.v (v_move rfl rfl) rfl rfl (bl rfl) ?_
          rcases ifc H with ⟨h21, H⟩ | ⟨h21, H⟩
          · refine TrL.cons_yes rfl rfl rfl (bt_dec h21) (OpTr.v (v_move rfl rfl) rfl (bl rfl) ?_)
            refine TrL.cons_yes rfl rfl rfl (bt_dec h21) (OpTr.v (v_arith rfl rfl rfl ar_eql) rfl (bl rfl) ?_)
            refine TrL.cons_yes rfl rfl rfl (bt_dec h21) (OpTr.v (v_move rfl rfl) rfl (bl rfl) ?_)
            rcases ifc H with ⟨h22, H⟩ | ⟨h22, H⟩
            · refine TrL.cons_no rfl rfl rfl (gn_f (bt_dec h22)) rfl (bl rfl) ?_
              refine TrL.cons_no rfl rfl rfl (gn_f (bt_dec h22)) rfl (bl rfl) ?_
              refine TrL.cons_no rfl rfl rfl (gn_f (bt_dec h22)) rfl (bl rfl) ?_
              refine TrL.cons_no rfl rfl rfl (gn_f (bt_dec h22)) rfl (bl rfl) ?_
              refine TrL.cons_no rfl rfl rfl (gn_f (bt_dec h22)) rfl (bl rfl) ?_
              refine TrL.cons_yes rfl rfl rfl (bt_dec h21) (OpTr.v (v_pick_t rfl rfl (bt_dec h22) rfl) rfl (bl rfl) ?_)
              refine TrL.v (v_pick_t rfl rfl (bt_dec h21) rfl) rfl rfl (bl rfl) ?_
              refine TrL.v (v_assign rfl rfl) rfl rfl (bl rfl) ?_
              refine TrL.nil (qthen_n ?_)
              have hz := Option.some.inj H
              subst hz
              refine Tr.ret (ret_r ⟨[(6, .bool true)], [], [], []⟩ [.bool true] [] [] (Imp.re _ [] [] (sc rfl sn) (by decide) rfl rfl rfl) rfl rfl ⟨rfl, rfl, rfl⟩ (.cons (resv_tmp rfl) .nil))
            · refine TrL.cons_yes rfl rfl rfl (bf_dec h22) (OpTr.v (v_move rfl rfl) rfl (bl rfl) ?_)
              refine TrL.cons_yes rfl rfl rfl (bf_dec h22) (OpTr.v (v_len rfl sl38 rfl) rfl (bl rfl) ?_)
              refine TrL.cons_yes rfl rfl rfl (bf_dec h22) (OpTr.v (v_move rfl rfl) rfl (bl rfl) ?_)
              refine TrL.cons_yes rfl rfl rfl (bf_dec h22) (OpTr.v (v_arith rfl rfl rfl ar_sub_i64) rfl (bl rfl) ?_)
              refine TrL.cons_yes rfl rfl rfl (bf_dec h22) (OpTr.v (v_arith rfl rfl rfl ar_geq) rfl (bl rfl) ?_)
              refine TrL.cons_yes rfl rfl rfl (bt_dec h21) (OpTr.v (v_pick_f rfl rfl (bf_dec h22) rfl) rfl (bl rfl) ?_)
              refine TrL.v (v_pick_t rfl rfl (bt_dec h21) rfl) rfl rfl (bl rfl) ?_
              refine TrL.v (v_assign rfl rfl) rfl rfl (bl rfl) ?_
              refine TrL.nil (qthen_n ?_)
              have hz := Option.some.inj H
              subst hz
              refine Tr.ret (ret_r ⟨[(6, .bool (decide ((wi64 ((wi64 (1 + (wi64 (p3.1.tmod 100)))) - 1)) ≤ ((r8.1.length : Int)))))], [], [], []⟩ [.bool (decide ((wi64 ((wi64 (1 + (wi64 (p3.1.tmod 100)))) - 1)) ≤ ((r8.1.length : Int))))] [] [] (Imp.re _ [] [] (sc rfl sn) (by decide) rfl rfl rfl) rfl rfl ⟨rfl, rfl, rfl⟩ (.cons (resv_tmp rfl) .nil))
          · refine TrL.cons_no rfl rfl rfl (gn_t (bf_dec h21)) rfl (bl rfl) ?_
            refine TrL.cons_no rfl rfl rfl (gn_t (bf_dec h21)) rfl (bl rfl) ?_
            refine TrL.cons_no rfl rfl rfl (gn_t (bf_dec h21)) rfl (bl rfl) ?_
            refine TrL.cons_un rfl rfl rfl rfl (bl rfl) ?_
            refine TrL.cons_un rfl rfl rfl rfl (bl rfl) ?_
            refine TrL.cons_un rfl rfl rfl rfl (bl rfl) ?_
            refine TrL.cons_un rfl rfl rfl rfl (bl rfl) ?_
            refine TrL.cons_un rfl rfl rfl rfl (bl rfl) ?_
            refine TrL.cons_no rfl rfl rfl (gn_t (bf_dec h21)) rfl (bl rfl) ?_
            refine TrL.v (v_pick_f rfl rfl (bf_dec h21) rfl) rfl rfl (bl rfl) ?_
            refine TrL.v (v_assign rfl rfl) rfl rfl (bl rfl) ?_
            refine TrL.nil (qthen_n ?_)
            have hz := Option.some.inj H
            subst hz
            refine Tr.ret (ret_r ⟨[(6, .bool false)], [], [], []⟩ [.bool false] [] [] (Imp.re _ [] [] (sc rfl sn) (by decide) rfl rfl rfl) rfl rfl ⟨rfl, rfl, rfl⟩ (.cons (resv_tmp rfl) .nil))
        · refine TrL.cons_no rfl rfl rfl (gn_t (bf_dec h20)) rfl (bl rfl) ?_
          refine TrL.cons_no rfl rfl rfl (gn_t (bf_dec h20)) rfl (bl rfl) ?_
          refine TrL.cons_no rfl rfl rfl (gn_t (bf_dec h20)) rfl (bl rfl) ?_
          refine TrL.cons_no rfl rfl rfl (gn_t (bf_dec h20)) rfl (bl rfl) ?_
          refine TrL.v (v_pick_f rfl rfl (bf_dec h20) rfl) rfl rfl (bl rfl) ?_
          refine TrL.v (v_move rfl rfl) rfl rfl (bl rfl) ?_
          refine TrL.cons_no rfl rfl rfl (gn_t rfl) rfl (bl rfl) ?_
          refine TrL.cons_no rfl rfl rfl (gn_t rfl) rfl (bl rfl) ?_
          refine TrL.cons_no rfl rfl rfl (gn_t rfl) rfl (bl rfl) ?_
          refine TrL.cons_un rfl rfl rfl rfl (bl rfl) ?_
          refine TrL.cons_un rfl rfl rfl rfl (bl rfl) ?_
          refine TrL.cons_un rfl rfl rfl rfl (bl rfl) ?_
          refine TrL.cons_un rfl rfl rfl rfl (bl rfl) ?_
          refine TrL.cons_un rfl rfl rfl rfl (bl rfl) ?_
          refine TrL.cons_no rfl rfl rfl (gn_t rfl) rfl (bl rfl) ?_
          refine TrL.v (v_pick_f rfl rfl rfl rfl) rfl rfl (bl rfl) ?_
          refine TrL.v (v_assign rfl rfl) rfl rfl (bl rfl) ?_
          refine TrL.nil (qthen_n ?_)
          have hz := Option.some.inj H
          subst hz
          refine Tr.ret (ret_r ⟨[(6, .bool false)], [], [], []⟩ [.bool false] [] [] (Imp.re _ [] [] (sc rfl sn) (by decide) rfl rfl rfl) rfl rfl ⟨rfl, rfl, rfl⟩ (.cons (resv_tmp rfl) .nil))
      · refine TrL.cons_no rfl rfl rfl (gn_t (bf_b h19)) rfl (bl rfl) ?_
        refine TrL.cons_no rfl rfl rfl (gn_t (bf_b h19)) rfl (bl rfl) ?_
        refine TrL.cons_no rfl rfl rfl (gn_t (bf_b h19)) rfl (bl rfl) ?_
        refine TrL.cons_no rfl rfl rfl (gn_t (bf_b h19)) rfl (bl rfl) ?_
        refine TrL.cons_no rfl rfl rfl (gn_t (bf_b h19)) rfl (bl rfl) ?_
        refine TrL.cons_no rfl rfl rfl (gn_t (bf_b h19)) rfl (bl rfl) ?_
        refine TrL.cons_no rfl rfl rfl (gn_t (bf_b h19)) rfl (bl rfl) ?_
        refine TrL.cons_no rfl rfl rfl (gn_t (bf_b h19)) rfl (bl rfl) ?_
        refine TrL.cons_no rfl rfl rfl (gn_t (bf_b h19)) rfl (bl rfl) ?_
        refine TrL.cons_no rfl rfl rfl (gn_t (bf_b h19)) rfl (bl rfl) ?_
        refine TrL.cons_no rfl rfl rfl (gn_t (bf_b h19)) rfl (bl rfl) ?_
        refine TrL.cons_no rfl rfl rfl (gn_t (bf_b h19)) rfl (bl rfl) ?_
        refine TrL.cons_no rfl rfl rfl (gn_t (bf_b h19)) rfl (bl rfl) ?_
        refine TrL.cons_no rfl rfl rfl (gn_t (bf_b h19)) rfl (bl rfl) ?_
        refine TrL.cons_no rfl rfl rfl (gn_t (bf_b h19)) rfl (bl rfl) ?_
        refine TrL.v (v_pick_f rfl rfl (bf_b h19) rfl) rfl rfl (bl rfl) ?_
        refine TrL.v (v_move rfl rfl) rfl rfl (bl rfl) ?_
        refine TrL.cons_no rfl rfl rfl (gn_t rfl) rfl (bl rfl) ?_
        refine TrL.cons_no rfl rfl rfl (gn_t rfl) rfl (bl rfl) ?_
        refine TrL.cons_no rfl rfl rfl (gn_t rfl) rfl (bl rfl) ?_
        refine TrL.cons_no rfl rfl rfl (gn_t rfl) rfl (bl rfl) ?_
        refine TrL.v (v_pick_f rfl rfl rfl rfl) rfl rfl (bl rfl) ?_
        refine TrL.v (v_move rfl rfl) rfl rfl (bl rfl) ?_
        refine TrL.cons_no rfl rfl rfl (gn_t rfl) rfl (bl rfl) ?_
        refine TrL.cons_no rfl rfl rfl (gn_t rfl) rfl (bl rfl) ?_
        refine TrL.cons_no rfl rfl rfl (gn_t rfl) rfl (bl rfl) ?_
        refine TrL.cons_un rfl rfl rfl rfl (bl rfl) ?_
        refine TrL.cons_un rfl rfl rfl rfl (bl rfl) ?_
        refine TrL.cons_un rfl rfl rfl rfl (bl rfl) ?_
        refine TrL.cons_un rfl rfl rfl rfl (bl rfl) ?_
        refine TrL.cons_un rfl rfl rfl rfl (bl rfl) ?_
        refine TrL.cons_no rfl rfl rfl (gn_t rfl) rfl (bl rfl) ?_
        refine TrL.v (v_pick_f rfl rfl rfl rfl) rfl rfl (bl rfl) ?_
        refine TrL.v (v_assign rfl rfl) rfl rfl (bl rfl) ?_
        refine TrL.nil (qthen_n ?_)
        have hz := Option.some.inj H
        subst hz
        refine Tr.ret (ret_r ⟨[(6, .bool false)], [], [], []⟩ [.bool false] [] [] (Imp.re _ [] [] (sc rfl sn) (by decide) rfl rfl rfl) rfl rfl ⟨rfl, rfl, rfl⟩ (.cons (resv_tmp rfl) .nil))
end Go.Proofs.Ytbnjjpmlaknaoaa.W
