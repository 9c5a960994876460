/- The contracts of the walked functions: the printed walks. -/
import Derived.Test.YtbnjjpmlaknaoaaKa
import Derived.Test.YtbnjjpmlaknaoaaQa
import Derived.Test.YtbnjjpmlaknaoaaWlaw05aa
import Derived.Test.YtbnjjpmlaknaoaaWlevelaa
import Derived.Test.YtbnjjpmlaknaoaaWref05aa
namespace Go.Proofs.Ytbnjjpmlaknaoaa.W
open Go Go.Proofs Go.Proofs.Ytbnjjpmlaknaoaa.L Go.Proofs.Ytbnjjpmlaknaoaa.Pu
set_option linter.unusedVariables false
set_option maxHeartbeats 4000000

theorem c_law05_LevelTwice (p1 : List (Int × Int)) (p2 : List (Int × Int)) (p3 : Int × Int × Int × Int) (A1 : Option Addr) (c1 : Nat) (A2 : Option Addr) (c2 : Nat) (r : Bool) (H : law05_LevelTwice p1 p2 p3 = some r) :
    Ctr Try.prog 12 [.slice A1 p1.length c1, .slice A2 p2.length c2, .agg #[.int .u64 p3.1, .int .u64 p3.2.1, .int .u64 p3.2.2.1, .int .u64 p3.2.2.2]] [] [slF rp_u64_u64 A1 c1 p1, slF rp_u64_u64 A2 c2 p2] (fun ret M' F' => ret = .bool r ∧ M' = [] ∧ F' = []) := by
  unfold law05_LevelTwice at H
  refine ctr_ofI (N := 106) Try.func12 rfl Try.ntmps12 rfl (Nat.le_of_ble_eq_true rfl) (fun γ0 w0 => ?_)
  refine Tr.seq ?_
  refine Tr.region ?_
  refine TrL.cons rfl (op_box' rfl (bl rfl) rfl rfl rfl (fun b2 => ?_))
  refine TrL.v (v_assign rfl rfl) rfl rfl (bl rfl) ?_
  refine TrL.nil (qthen_n ?_)
  refine Tr.seq ?_
  refine Tr.region ?_
  obtain ⟨r16, hr16, H⟩ := bnd H
  refine TrL.cons rfl (op_call0' (vs := []) (cap := []) [] rfl rfl (bl rfl) rfl rfl en46 (c_law05_awake r16 hr16) rfl (fun ret M' F' hR16 => ?_))
  obtain ⟨rfl, rfl, rfl⟩ := hR16
  refine TrL.v (v_assign rfl rfl) rfl rfl (bl rfl) ?_
  refine TrL.nil (qthen_n ?_)
  refine Tr.seq ?_
  refine Tr.region ?_
  refine TrL.v (v_indexArr rfl ar49 ty23 rfl rfl (by decide) (by decide) rfl) rfl rfl (bl rfl) ?_
  refine TrL.v (v_load (k := 0) rfl rfl rfl ty23 (fun _ => rfl) rfl rfl) rfl rfl (bl rfl) ?_
  refine TrL.v (v_rem rfl rfl rfl (by decide)) rfl rfl (bl rfl) ?_
  refine TrL.v (v_conv' rfl ⟨_, Try.underlying23⟩ Try.underlying3 rfl wrap_i64') rfl rfl (bl rfl) ?_
  refine TrL.v (v_arith rfl rfl rfl ar_add_i64) rfl rfl (bl rfl) ?_
  refine TrL.v (v_assign rfl rfl) rfl rfl (bl rfl) ?_
  refine TrL.nil (qthen_n ?_)
  refine Tr.seq ?_
  refine Tr.seq ?_
  refine Tr.region ?_
  refine TrL.v (v_move rfl rfl) rfl rfl (bl rfl) ?_
  refine TrL.v (v_move rfl rfl) rfl rfl (bl rfl) ?_
  obtain ⟨r18, hr18, H⟩ := bnd H
  refine TrL.cons rfl (op_call0' (vs := [.slice A1 p1.length c1, .slice A2 p2.length c2]) (cap := []) [0, 1] rfl rfl (bl rfl) rfl rfl en47 (c_law05_come p1 p2 A1 c1 A2 c2 r18 hr18) rfl (fun ret M' F' hR18 => ?_))
  obtain ⟨rfl, rfl, rfl⟩ := hR18
  refine TrL.v (v_notd rfl (bdec rfl)) rfl rfl (bl rfl) ?_
  refine TrL.v (v_move rfl rfl) rfl rfl (bl rfl) ?_
  rcases ifc H with ⟨h11, H⟩ | ⟨h11, H⟩
  · refine TrL.cons_no rfl rfl rfl (gn_f (bt_dec h11)) rfl (bl rfl) ?_
    refine TrL.cons_no rfl rfl rfl (gn_f (bt_dec h11)) rfl (bl rfl) ?_
    refine TrL.cons_no rfl rfl rfl (gn_f (bt_dec h11)) rfl (bl rfl) ?_
    refine TrL.cons_no rfl rfl rfl (gn_f (bt_dec h11)) rfl (bl rfl) ?_
    refine TrL.v (v_pick_t rfl rfl (bt_dec h11) rfl) rfl rfl (bl rfl) ?_
    refine TrL.nil (qthen_n ?_)
    refine Tr.cond_t rfl rfl ?_
    refine Tr.seq ?_
    refine Tr.region ?_
    refine TrL.v (v_move rfl rfl) rfl rfl (bl rfl) ?_
    refine TrL.v (v_assign rfl rfl) rfl rfl (bl rfl) ?_
    refine TrL.nil (qthen_n ?_)
    have hz := Option.some.inj H
    subst hz
    refine Tr.ret (qthen_r (ret_r ⟨[(6, .bool r16)], [], [], []⟩ [.bool r16] [] [] (Imp.re _ [] [] (sc rfl sn) (by decide) rfl rfl rfl) rfl rfl ⟨rfl, rfl, rfl⟩ (.cons (resv_tmp rfl) .nil)))
  · refine TrL.cons_yes rfl rfl rfl (bf_dec h11) (OpTr.v (v_move rfl rfl) rfl (bl rfl) ?_)
    refine TrL.cons_yes rfl rfl rfl (bf_dec h11) (OpTr.v (v_len rfl sl38 rfl) rfl (bl rfl) ?_)
    refine TrL.cons_yes rfl rfl rfl (bf_dec h11) (OpTr.v (v_move rfl rfl) rfl (bl rfl) ?_)
    refine TrL.cons_yes rfl rfl rfl (bf_dec h11) (OpTr.v (v_arith rfl rfl rfl ar_gtr) rfl (bl rfl) ?_)
    refine TrL.v (v_pick_f rfl rfl (bf_dec h11) rfl) rfl rfl (bl rfl) ?_
    refine TrL.nil (qthen_n ?_)
    rcases ifc H with ⟨h12, H⟩ | ⟨h12, H⟩
    · refine Tr.cond_t rfl (bt_dec h12) ?_
      refine Tr.seq ?_
      refine Tr.region ?_
      refine TrL.v (v_move rfl rfl) rfl rfl (bl rfl) ?_
      refine TrL.v (v_assign rfl rfl) rfl rfl (bl rfl) ?_
      refine TrL.nil (qthen_n ?_)
      have hz := Option.some.inj H
      subst hz
      refine Tr.ret (qthen_r (ret_r ⟨[(6, .bool r16)], [], [], []⟩ [.bool r16] [] [] (Imp.re _ [] [] (sc rfl sn) (by decide) rfl rfl rfl) rfl rfl ⟨rfl, rfl, rfl⟩ (.cons (resv_tmp rfl) .nil)))
    · refine Tr.cond_f rfl (bf_dec h12) ?_
      refine Tr.skip (qthen_n ?_)
      refine Tr.seq ?_
      refine Tr.region ?_
      refine TrL.v (v_indexArr rfl ar49 ty23 rfl rfl (by decide) (by decide) rfl) rfl rfl (bl rfl) ?_
      refine TrL.v (v_load (k := 0) rfl rfl rfl ty23 (fun _ => rfl) rfl rfl) rfl rfl (bl rfl) ?_
      refine TrL.v (v_rem rfl rfl rfl (by decide)) rfl rfl (bl rfl) ?_
      refine TrL.v (v_assign rfl rfl) rfl rfl (bl rfl) ?_
      refine TrL.nil (qthen_n ?_)
      refine Tr.seq ?_
      refine Tr.region ?_
      refine TrL.v (v_indexArr rfl ar49 ty23 rfl rfl (by decide) (by decide) rfl) rfl rfl (bl rfl) ?_
      refine TrL.v (v_load (k := 0) rfl rfl rfl ty23 (fun _ => rfl) rfl rfl) rfl rfl (bl rfl) ?_
      refine TrL.v (v_rem rfl rfl rfl (by decide)) rfl rfl (bl rfl) ?_
      refine TrL.v (v_assign rfl rfl) rfl rfl (bl rfl) ?_
      refine TrL.nil (qthen_n ?_)
      refine Tr.seq ?_
      refine Tr.region ?_
      refine TrL.v (v_move rfl rfl) rfl rfl (bl rfl) ?_
      refine TrL.v (v_move rfl rfl) rfl rfl (bl rfl) ?_
      refine TrL.v (v_move rfl rfl) rfl rfl (bl rfl) ?_
      refine TrL.v (v_move rfl rfl) rfl rfl (bl rfl) ?_
      refine TrL.v (v_move rfl rfl) rfl rfl (bl rfl) ?_
      refine TrL.v (v_arith rfl rfl rfl ar_add_u64) rfl rfl (bl rfl) ?_
      refine TrL.v (v_indexArr rfl ar49 ty23 rfl rfl (by decide) (by decide) rfl) rfl rfl (bl rfl) ?_
      refine TrL.v (v_load (k := 0) rfl rfl rfl ty23 (fun _ => rfl) rfl rfl) rfl rfl (bl rfl) ?_
      obtain ⟨r19, hr19, H⟩ := bnd H
      refine TrL.cons rfl (op_call0' (vs := [.slice A1 p1.length c1, .int .i64 (wi64 (1 + (wi64 (p3.1.tmod 20)))), .slice A2 p2.length c2, .int .u64 (wu64 ((p3.2.1.tmod 40) + (p3.2.2.1.tmod 40))), .int .u64 p3.2.2.2]) (cap := []) [0, 1] rfl rfl (bl rfl) rfl rfl en48 (c_level_Push p1 (wi64 (1 + (wi64 (p3.1.tmod 20)))) p2 (wu64 ((p3.2.1.tmod 40) + (p3.2.2.1.tmod 40))) p3.2.2.2 A1 c1 A2 c2 r19 hr19) rfl (fun ret M' F' hR19 => ?_))
      obtain ⟨m19, rfl, rfl, rfl⟩ := hR19
      refine TrL.v (v_move rfl rfl) rfl rfl (bl rfl) ?_
      refine TrL.v (v_extract rfl rfl rfl) rfl rfl (bl rfl) ?_
      refine TrL.v (v_extract rfl rfl rfl) rfl rfl (bl rfl) ?_
      refine TrL.v (v_extract rfl rfl rfl) rfl rfl (bl rfl) ?_
      refine TrL.v (v_assign rfl rfl) rfl rfl (bl rfl) ?_
      refine TrL.v (v_assign rfl rfl) rfl rfl (bl rfl) ?_
      refine TrL.v (v_assign rfl rfl) rfl rfl (bl rfl) ?_
      refine TrL.nil (qthen_n ?_)
      refine Tr.seq ?_
      refine Tr.region ?_
      refine TrL.v (v_move rfl rfl) rfl rfl (bl rfl) ?_
      refine TrL.v (v_move rfl rfl) rfl rfl (bl rfl) ?_
      refine TrL.v (v_move rfl rfl) rfl rfl (bl rfl) ?_
      refine TrL.v (v_move rfl rfl) rfl rfl (bl rfl) ?_
      refine TrL.v (v_indexArr rfl ar49 ty23 rfl rfl (by decide) (by decide) rfl) rfl rfl (bl rfl) ?_
      refine TrL.v (v_load (k := 2) rfl rfl rfl ty23 (fun _ => rfl) rfl rfl) rfl rfl (bl rfl) ?_
      obtain ⟨r20, hr20, H⟩ := bnd H
      refine TrL.cons rfl (op_call0' (vs := [.slice A1 p1.length c1, .int .i64 (wi64 (1 + (wi64 (p3.1.tmod 20)))), .slice A2 p2.length c2, .int .u64 (p3.2.1.tmod 40), .int .u64 p3.2.2.2]) (cap := []) [0, 1] rfl rfl (bl rfl) rfl rfl en48 (c_level_Push p1 (wi64 (1 + (wi64 (p3.1.tmod 20)))) p2 (p3.2.1.tmod 40) p3.2.2.2 A1 c1 A2 c2 r20 hr20) rfl (fun ret M' F' hR20 => ?_))
      obtain ⟨m20, rfl, rfl, rfl⟩ := hR20
      refine TrL.v (v_move rfl rfl) rfl rfl (bl rfl) ?_
      refine TrL.v (v_extract rfl rfl rfl) rfl rfl (bl rfl) ?_
      refine TrL.v (v_extract rfl rfl rfl) rfl rfl (bl rfl) ?_
      refine TrL.v (v_extract rfl rfl rfl) rfl rfl (bl rfl) ?_
      refine TrL.v (v_assign rfl rfl) rfl rfl (bl rfl) ?_
      refine TrL.v (v_assign rfl rfl) rfl rfl (bl rfl) ?_
      refine TrL.v (v_assign rfl rfl) rfl rfl (bl rfl) ?_
      refine TrL.nil (qthen_n ?_)
      refine Tr.seq ?_
      refine Tr.region ?_
      refine TrL.v (v_move rfl rfl) rfl rfl (bl rfl) ?_
      refine TrL.v (v_move rfl rfl) rfl rfl (bl rfl) ?_
      refine TrL.v (v_move rfl rfl) rfl rfl (bl rfl) ?_
      refine TrL.v (v_indexArr rfl ar49 ty23 rfl rfl (by decide) (by decide) rfl) rfl rfl (bl rfl) ?_
      refine TrL.v (v_load (k := 4) rfl rfl rfl ty23 (fun _ => rfl) rfl rfl) rfl rfl (bl rfl) ?_
      refine TrL.addF' (slF rp_u64_u64 none 0 []) (nilF rp_u64_u64) ?_
      obtain ⟨r21, hr21, H⟩ := bnd H
      refine TrL.cons rfl (op_call0' (vs := [.slice m20.1 r20.1.length m20.2.1, .int .i64 (wi64 (1 + (wi64 (p3.1.tmod 20)))), .slice none 0 0, .int .u64 (p3.2.2.1.tmod 40), .int .u64 p3.2.2.2]) (cap := []) [4, 6] rfl rfl (bl rfl) rfl rfl en48 (c_level_Push r20.1 (wi64 (1 + (wi64 (p3.1.tmod 20)))) (([] : List (Int × Int))) (p3.2.2.1.tmod 40) p3.2.2.2 m20.1 m20.2.1 none 0 r21 hr21) rfl (fun ret M' F' hR21 => ?_))
      obtain ⟨m21, rfl, rfl, rfl⟩ := hR21
      refine TrL.v (v_move rfl rfl) rfl rfl (bl rfl) ?_
      refine TrL.v (v_extract rfl rfl rfl) rfl rfl (bl rfl) ?_
      refine TrL.v (v_extract rfl rfl rfl) rfl rfl (bl rfl) ?_
      refine TrL.v (v_extract rfl rfl rfl) rfl rfl (bl rfl) ?_
      refine TrL.v (v_assign rfl rfl) rfl rfl (bl rfl) ?_
      refine TrL.v (v_assign rfl rfl) rfl rfl (bl rfl) ?_
      refine TrL.v (v_assign rfl rfl) rfl rfl (bl rfl) ?_
      refine TrL.nil (qthen_n ?_)
      refine Tr.seq ?_
      refine Tr.region ?_
      refine TrL.v (v_move rfl rfl) rfl rfl (bl rfl) ?_
      refine TrL.v (v_move rfl rfl) rfl rfl (bl rfl) ?_
      refine TrL.v (v_indexArr rfl ar49 ty23 rfl rfl (by decide) (by decide) rfl) rfl rfl (bl rfl) ?_
      refine TrL.v (v_load (k := 6) rfl rfl rfl ty23 (fun _ => rfl) rfl rfl) rfl rfl (bl rfl) ?_
      obtain ⟨r22, hr22, H⟩ := bnd H
      refine TrL.cons rfl (op_call0' (vs := [.slice m19.2.2.1 r19.2.1.length m19.2.2.2.1, .int .u64 r19.2.2, .int .u64 p3.2.2.2]) (cap := []) [3] rfl rfl (bl rfl) rfl rfl en55 (c_law05_ones r19.2.1 r19.2.2 p3.2.2.2 m19.2.2.1 m19.2.2.2.1 r22 hr22) rfl (fun ret M' F' hR22 => ?_))
      obtain ⟨m22, rfl, rfl, rfl⟩ := hR22
      refine TrL.v (v_assign rfl rfl) rfl rfl (bl rfl) ?_
      refine TrL.nil (qthen_n ?_)
      refine Tr.seq ?_
      refine Tr.regionD drawn (fun hok => ?_)
      refine TrAny.prom (i := 0) (d := 84) hok (OpVal.plain rfl rfl (v_move rfl rfl)) (by kernel_rfl) rfl (bl rfl) ?_
      clear hok
      intro hok
      refine TrAny.prom (i := 1) (d := 85) hok (OpVal.plain rfl rfl (v_move rfl rfl)) (by kernel_rfl) rfl (bl rfl) ?_
      clear hok
      intro hok
      refine TrAny.prom (i := 2) (d := 86) hok (OpVal.plain rfl rfl (v_indexArr rfl ar49 ty23 rfl rfl (by decide) (by decide) rfl)) (by kernel_rfl) rfl (bl rfl) ?_
      clear hok
      intro hok
      refine TrAny.prom (i := 3) (d := 87) hok (OpVal.plain rfl rfl (v_load (k := 7) rfl rfl rfl ty23 (fun _ => rfl) rfl rfl)) (by kernel_rfl) rfl (bl rfl) ?_
      clear hok
      intro hok
      refine TrAny.prom (i := 5) (d := 89) hok (OpVal.plain rfl rfl (v_move rfl rfl)) (by kernel_rfl) rfl (bl rfl) ?_
      clear hok
      intro hok
      refine TrAny.prom (i := 6) (d := 90) hok (OpVal.plain rfl rfl (v_move rfl rfl)) (by kernel_rfl) rfl (bl rfl) ?_
      clear hok
      intro hok
      refine TrAny.prom (i := 7) (d := 91) hok (OpVal.plain rfl rfl (v_indexArr rfl ar49 ty23 rfl rfl (by decide) (by decide) rfl)) (by kernel_rfl) rfl (bl rfl) ?_
      clear hok
      intro hok
      refine TrAny.prom (i := 8) (d := 92) hok (OpVal.plain rfl rfl (v_load (k := 7) rfl rfl rfl ty23 (fun _ => rfl) rfl rfl)) (by kernel_rfl) rfl (bl rfl) ?_
      clear hok
      intro hok
      obtain ⟨r25, hr25, H⟩ := bnd H
      refine TrAny.next (j := 4) (by kernel_rfl) hok rfl (by kernel_rfl) (op_call0' (vs := [.slice m20.2.2.1 r20.2.1.length m20.2.2.2.1, .int .u64 r20.2.2, .int .u64 p3.2.2.2]) (cap := []) [5] rfl rfl (bl rfl) rfl rfl en55 (c_law05_ones r20.2.1 r20.2.2 p3.2.2.2 m20.2.2.1 m20.2.2.2.1 r25 hr25) rfl (fun ret M' F' hR25 => ?_))
      obtain ⟨m25, rfl, rfl, rfl⟩ := hR25
      refine nxp hok (kp_imp (kp_c0 rfl)) rfl (by kernel_rfl) ?_
      clear hok
      intro hok
      obtain ⟨r26, hr26, H⟩ := bnd H
      refine TrAny.next (j := 9) (by kernel_rfl) hok rfl (by kernel_rfl) (op_call0' (vs := [.slice m21.2.2.1 r21.2.1.length m21.2.2.2.1, .int .u64 r21.2.2, .int .u64 p3.2.2.2]) (cap := []) [8] rfl rfl (bl rfl) rfl rfl en55 (c_law05_ones r21.2.1 r21.2.2 p3.2.2.2 m21.2.2.1 m21.2.2.2.1 r26 hr26) rfl (fun ret M' F' hR26 => ?_))
      obtain ⟨m26, rfl, rfl, rfl⟩ := hR26
      refine nxp hok (kp_imp (kp_c0 rfl)) rfl (by kernel_rfl) ?_
      clear hok
      intro hok
      obtain ⟨h14, H⟩ := rom H
      refine TrAny.next (j := 10) (by kernel_rfl) hok rfl (by kernel_rfl) (op_append' (rp := rp_u64_u64) (xs := r25) (ys := r26) (k := 1) (kx := 10) (ky := 11) rfl (bl rfl) rfl sl38 ty41 ze41 rfl by41 rfl rfl rfl rfl rfl rfl rfl h14.1 h14.2 (fun A6 c6 o4 => ?_))
      refine nxp hok (kp_all (ac (.inr (OpVal.plain rfl rfl (v_move rfl rfl))) (ac (.inr (OpVal.plain rfl rfl (v_move rfl rfl))) (ac (.inr (OpVal.plain rfl rfl (v_indexArr rfl ar49 ty23 rfl rfl (by decide) (by decide) rfl))) (ac (.inr (OpVal.plain rfl rfl (v_load (k := 9) rfl rfl rfl ty23 (fun _ => rfl) rfl rfl))) (ac (.inr (OpVal.plain rfl rfl (v_move rfl rfl))) (ac (.inr (OpVal.plain rfl rfl (v_move rfl rfl))) (ac (.inr (OpVal.plain rfl rfl (v_indexArr rfl ar49 ty23 rfl rfl (by decide) (by decide) rfl))) (ac (.inr (OpVal.plain rfl rfl (v_load (k := 9) rfl rfl rfl ty23 (fun _ => rfl) rfl rfl))) an))))))))) rfl (by kernel_rfl) ?_
      clear hok
      intro hok
      refine TrAny.prom (i := 11) (d := 21) hok (OpVal.plain rfl rfl (v_assign rfl rfl)) (by kernel_rfl) rfl (bl rfl) ?_
      clear hok
      intro hok
      refine TrAny.done (by kernel_rfl) (by kernel_rfl) hok (by kernel_rfl) (qthen_n ?_)
      refine Tr.seq ?_
      refine Tr.region ?_
      refine TrL.v (v_move rfl rfl) rfl rfl (bl rfl) ?_
      refine TrL.v (v_move rfl rfl) rfl rfl (bl rfl) ?_
      rcases ifc H with ⟨h17, H⟩ | ⟨h17, H⟩
      · refine TrL.cons_yes rfl rfl rfl h17 (OpTr.v (v_move rfl rfl) rfl (bl rfl) ?_)
        refine TrL.cons_yes rfl rfl rfl h17 (OpTr.v (v_move rfl rfl) rfl (bl rfl) ?_)
        obtain ⟨r29, hr29, H⟩ := bnd H
        refine TrL.cons_yes rfl rfl rfl h17 (op_call0' (vs := [.slice m19.1 r19.1.length m19.2.1, .slice m21.1 r21.1.length m21.2.1]) (cap := []) [2, 7] rfl rfl (bl rfl) rfl rfl en37 (c_ref05_Same r19.1 r21.1 m19.1 m19.2.1 m21.1 m21.2.1 r29 hr29) rfl (fun ret M' F' hR29 => ?_))
        obtain ⟨rfl, rfl, rfl⟩ := hR29
        refine TrL.v (v_pick_t rfl rfl h17 rfl) rfl rfl (bl rfl) ?_
        refine TrL.v (v_move rfl rfl) rfl rfl (bl rfl) ?_
        rcases ifc H with ⟨h18, H⟩ | ⟨h18, H⟩
        · refine TrL.cons_yes rfl rfl rfl h18 (OpTr.v (v_move rfl rfl) rfl (bl rfl) ?_)
          refine TrL.cons_yes rfl rfl rfl h18 (OpTr.v (v_move rfl rfl) rfl (bl rfl) ?_)
          obtain ⟨r30, hr30, H⟩ := bnd H
          refine TrL.cons_yes rfl rfl rfl h18 (op_call0' (vs := [.slice m22.1 r22.length m22.2.1, .slice A6 ((r25 ++ r26).length) c6]) (cap := []) [9, 12] rfl rfl (bl rfl) rfl rfl en37 (c_ref05_Same r22 (r25 ++ r26) m22.1 m22.2.1 A6 c6 r30 hr30) rfl (fun ret M' F' hR30 => ?_))
          obtain ⟨rfl, rfl, rfl⟩ := hR30
          refine TrL.v (v_pick_t rfl rfl h18 rfl) rfl rfl (bl rfl) ?_
          refine TrL.v (v_assign rfl rfl) rfl rfl (bl rfl) ?_
          refine TrL.nil (qthen_n ?_)
          have hz := Option.some.inj H
          subst hz
          refine Tr.ret (ret_r ⟨[(6, .bool r30)], [], [], []⟩ [.bool r30] [] [] (Imp.re _ [] [] (sc rfl sn) (by decide) rfl rfl rfl) rfl rfl ⟨rfl, rfl, rfl⟩ (.cons (resv_tmp rfl) .nil))
        · refine TrL.cons_no rfl rfl rfl (gn_t (bf_b h18)) rfl (bl rfl) ?_
          refine TrL.cons_no rfl rfl rfl (gn_t (bf_b h18)) rfl (bl rfl) ?_
          refine TrL.cons_no rfl rfl rfl (gn_t (bf_b h18)) rfl (bl rfl) ?_
          refine TrL.v (v_pick_f rfl rfl (bf_b h18) rfl) rfl rfl (bl rfl) ?_
          refine TrL.v (v_assign rfl rfl) rfl rfl (bl rfl) ?_
          refine TrL.nil (qthen_n ?_)
          have hz := Option.some.inj H
          subst hz
          refine Tr.ret (ret_r ⟨[(6, .bool false)], [], [], []⟩ [.bool false] [] [] (Imp.re _ [] [] (sc rfl sn) (by decide) rfl rfl rfl) rfl rfl ⟨rfl, rfl, rfl⟩ (.cons (resv_tmp rfl) .nil))
      · refine TrL.cons_no rfl rfl rfl (gn_t (bf_b h17)) rfl (bl rfl) ?_
        refine TrL.cons_no rfl rfl rfl (gn_t (bf_b h17)) rfl (bl rfl) ?_
        refine TrL.cons_no rfl rfl rfl (gn_t (bf_b h17)) rfl (bl rfl) ?_
        refine TrL.v (v_pick_f rfl rfl (bf_b h17) rfl) rfl rfl (bl rfl) ?_
        refine TrL.v (v_move rfl rfl) rfl rfl (bl rfl) ?_
        refine TrL.cons_no rfl rfl rfl (gn_t rfl) rfl (bl rfl) ?_
        refine TrL.cons_no rfl rfl rfl (gn_t rfl) rfl (bl rfl) ?_
        refine TrL.cons_no rfl rfl rfl (gn_t rfl) rfl (bl rfl) ?_
        refine TrL.v (v_pick_f rfl rfl rfl rfl) rfl rfl (bl rfl) ?_
        refine TrL.v (v_assign rfl rfl) rfl rfl (bl rfl) ?_
        refine TrL.nil (qthen_n ?_)
        have hz := Option.some.inj H
        subst hz
        refine Tr.ret (ret_r ⟨[(6, .bool false)], [], [], []⟩ [.bool false] [] [] (Imp.re _ [] [] (sc rfl sn) (by decide) rfl rfl rfl) rfl rfl ⟨rfl, rfl, rfl⟩ (.cons (resv_tmp rfl) .nil))
end Go.Proofs.Ytbnjjpmlaknaoaa.W
