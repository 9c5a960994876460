/- A histogram copied, its copy's rows owned. (The printed walk of law09.copied, turned by hand.) -/
import Derived.Test.YtbeknohemgjfbaaL23
import Derived.Test.YtbeknohemgjfbaaKc
import Derived.Test.YtbeknohemgjfbaaQc
namespace Go.Proofs.Ytbeknohemgjfbaa.W
open Go Go.Proofs Go.Proofs.Ytbeknohemgjfbaa.L Go.Proofs.Ytbeknohemgjfbaa.Pu
set_option linter.unusedVariables false
set_option maxHeartbeats 4000000

theorem c_law09_copiedO (p1 : Int × Int × List (List (Int × Int))) (A1 : Option Addr) (c1 : Nat) (r : List (List (Int × Int))) (H : law09_copied p1 = some r) :
    Ctr Try.prog 17 [.agg #[.int .i64 p1.1, .int .i64 p1.2.1, .slice A1 p1.2.2.length c1]] [] [slF (rSl rp_u64_u64) A1 c1 p1.2.2] (fun ret M' F' => ∃ m : Option Addr × Nat × List (RowT (Int × Int)), ret = .agg #[.int .i64 p1.1, .int .i64 p1.2.1, .slice m.1 r.length m.2.1] ∧ M' = [arr rRaw 31 m.1 r.length m.2.1 (m.2.2.map raw), rowsC rp_u64_u64 30 m.2.2] ∧ F' = [] ∧ m.2.2.map (·.2.2) = r) := by
  unfold law09_copied at H
  refine ctr_ofI (N := 30) Try.func17 rfl Try.ntmps17 rfl (Nat.le_of_ble_eq_true rfl) (fun γ0 w0 => ?_)
  refine Tr.seq ?_
  refine Tr.region ?_
  refine TrL.cons rfl (op_box' rfl (bl rfl) rfl rfl rfl (fun b4 => ?_))
  refine TrL.cons rfl (op_alloc' rfl (bl rfl) rfl ze26 (fun b5 => ?_))
  refine TrL.nil (qthen_n ?_)
  refine Tr.seq ?_
  refine Tr.region ?_
  refine TrL.v (v_fieldAddr' rfl fo26_0 rfl rfl) rfl rfl (bl rfl) ?_
  refine TrL.v (v_load (k := 1) rfl rfl rfl ty3 (fun _ => rfl) rfl rfl) rfl rfl (bl rfl) ?_
  refine TrL.v (v_fieldAddr' rfl fo26_1 rfl rfl) rfl rfl (bl rfl) ?_
  refine TrL.v (v_load (k := 1) rfl rfl rfl ty3 (fun _ => rfl) rfl rfl) rfl rfl (bl rfl) ?_
  refine TrL.v (v_build (vs := [.int .i64 p1.1, .int .i64 p1.2.1]) (out := [.int .i64 p1.1, .int .i64 p1.2.1, .slice none 0 0]) rfl pl26 ze26 rfl rfl) rfl rfl (bl rfl) ?_
  refine TrL.cons rfl (op_alloc' rfl (bl rfl) rfl ze26 (fun b6 => ?_))
  refine TrL.cons rfl (op_store' (k := 0) (c' := [.int .i64 p1.1, .int .i64 p1.2.1, .slice none 0 0]) rfl rfl rfl rfl rfl ty26 rfl (Nat.le_of_ble_eq_true rfl) (ones (oc rfl (oc rfl (oc rfl on)))) rfl ?_)
  refine TrL.nil (qthen_n ?_)
  refine Tr.seq ?_
  refine Tr.seq ?_
  refine Tr.region ?_
  refine TrL.v (v_assign rfl rfl) rfl rfl (bl rfl) ?_
  refine TrL.nil (qthen_n ?_)
  obtain ⟨x2, hx3, H⟩ := bnd H
  refine Tr.cutE (D := List (List (Int × Int))) (M := Option Addr × Nat × List (RowT (Int × Int))) .normal (fun _d => x2 = _d) (fun x2 m8 => ⟨[(2, .pointer (some ⟨b5, 0, none⟩)), (3, .pointer (some ⟨b6, 0, none⟩))], [cells b5 [.int .i64 0, .int .i64 0, .slice none 0 0] 26, cells b6 [.int .i64 p1.1, .int .i64 p1.2.1, .slice m8.1 x2.length m8.2.1] 26, arr rRaw 31 m8.1 x2.length m8.2.1 (m8.2.2.map raw), rowsC rp_u64_u64 30 m8.2.2], [pureF (m8.2.2.map (·.2.2) = x2)], []⟩) ?_ (fun x2 m8 hd2 => ?_)
  · refine Tr.block (Tr.loopI (ι := Option Addr × Nat × List (RowT (Int × Int))) (step := law09_copied_s0 p1) (fun s5 m6 => ⟨[(1, .pointer (some ⟨b4, 0, none⟩)), (2, .pointer (some ⟨b5, 0, none⟩)), (3, .pointer (some ⟨b6, 0, none⟩)), (4, .int .i64 s5.1)], [cells b4 [.int .i64 p1.1, .int .i64 p1.2.1, .slice A1 p1.2.2.length c1] 26, cells b5 [.int .i64 0, .int .i64 0, .slice none 0 0] 26, cells b6 [.int .i64 p1.1, .int .i64 p1.2.1, .slice m6.1 s5.2.length m6.2.1] 26, arr rRaw 31 m6.1 s5.2.length m6.2.1 (m6.2.2.map raw), rowsC rp_u64_u64 30 m6.2.2], [slF (rSl rp_u64_u64) A1 c1 p1.2.2, pureF (m6.2.2.map (·.2.2) = s5.2)], []⟩) ((none, 0, [])) hx3 (Imp.arrNil rRaw 31 (Imp.rowsNil rp_u64_u64 30 (Imp.addF (pureF ((([] : List (RowT (Int × Int))).map (·.2.2)) = ([] : List (List (Int × Int))))) (fun γ w _ _ => rfl) (Imp.re _ [4, 3, 2, 1, 0] [0, 1] (sc rfl (sc rfl (sc rfl (sc rfl sn)))) (by decide) rfl rfl rfl)))) (fun s5 m6 y2 hy2 hx4 => ?_))
    refine Tr.pure (pure_pre (k := 1) (φ := m6.2.2.map (·.2.2) = s5.2) rfl) (fun hm => ?_)
    have hlm : (m6.2.2.map raw).length = s5.2.length := by rw [map_raw_len, hm]
    unfold law09_copied_s0 at hy2
    refine Tr.seq ?_
    refine Tr.seq ?_
    refine Tr.region ?_
    refine TrL.v (v_move rfl rfl) rfl rfl (bl rfl) ?_
    refine TrL.v (v_fieldAddr' rfl fo26_2 rfl rfl) rfl rfl (bl rfl) ?_
    refine TrL.v (v_load (k := 0) rfl rfl rfl ty24 (fun _ => rfl) rfl rfl) rfl rfl (bl rfl) ?_
    refine TrL.v (v_len rfl sl24 rfl) rfl rfl (bl rfl) ?_
    refine TrL.v (v_arith rfl rfl rfl ar_lss) rfl rfl (bl rfl) ?_
    refine TrL.nil (qthen_n ?_)
    rcases ifc hy2 with ⟨h26, hy2⟩ | ⟨h26, hy2⟩
    · refine Tr.cond_t rfl (bt_dec h26) ?_
      refine Tr.skip (qthen_n ?_)
      refine Tr.seq ?_
      refine Tr.block ?_
      refine Tr.regionD drawn (fun hok => ?_)
      refine TrAny.prom (i := 0) (d := 17) hok (OpVal.plain rfl rfl (v_fieldAddr' rfl fo26_2 rfl rfl)) (by kernel_rfl) rfl (bl rfl) ?_
      clear hok
      intro hok
      refine TrAny.prom (i := 1) (d := 18) hok (OpVal.plain rfl rfl (v_load (k := 2) rfl rfl rfl ty24 (fun _ => rfl) rfl rfl)) (by kernel_rfl) rfl (bl rfl) ?_
      clear hok
      intro hok
      refine TrAny.prom (i := 3) (d := 20) hok (OpVal.plain rfl rfl (v_fieldAddr' rfl fo26_2 rfl rfl)) (by kernel_rfl) rfl (bl rfl) ?_
      clear hok
      intro hok
      refine TrAny.prom (i := 4) (d := 21) hok (OpVal.plain rfl rfl (v_load (k := 0) rfl rfl rfl ty24 (fun _ => rfl) rfl rfl)) (by kernel_rfl) rfl (bl rfl) ?_
      clear hok
      intro hok
      refine TrAny.prom (i := 5) (d := 22) hok (OpVal.plain rfl rfl (v_move rfl rfl)) (by kernel_rfl) rfl (bl rfl) ?_
      clear hok
      intro hok
      obtain ⟨z12, hz12, hy2⟩ := bnd hy2
      refine TrAny.prom (i := 6) (d := 23) hok (OpVal.plain rfl rfl (v_indexAddr (k := 0) rfl sl24 ty31 rfl rfl rfl rfl hz12)) (by kernel_rfl) rfl (bl rfl) ?_
      clear hok
      intro hok
      refine TrAny.openS' (k := 0) rfl hz12 hok (fun A57 c35 hok => ?_)
      refine TrAny.prom (i := 7) (d := 24) hok (OpVal.plain rfl rfl (v_loadF (k := 3) rfl ty31 rfl rfl)) (by kernel_rfl) rfl (bl rfl) ?_
      clear hok
      intro hok
      refine TrAny.prom (i := 11) (d := 28) hok (OpVal.plain rfl rfl (v_fieldAddr' rfl fo26_2 rfl rfl)) (by kernel_rfl) rfl (bl rfl) ?_
      clear hok
      intro hok
      refine TrAny.next (j := 2) (by kernel_rfl) hok rfl (by kernel_rfl) (op_buildSliceA (rp := rp_u64_u64) (ys := []) (vs := []) (out := []) rfl (bl rfl) rfl sl31 ty30 ze30 rfl rfl (by decide) (by decide) rfl (fun γ w => rown) (fun A58 => ?_))
      refine nxp hok (kp_imp (kp_cm rfl)) rfl (by kernel_rfl) ?_
      clear hok
      intro hok
      obtain ⟨h29, hy2⟩ := rom hy2
      refine TrAny.next (j := 8) (by kernel_rfl) hok rfl (by kernel_rfl) (op_appendAS (rp := rp_u64_u64) (xs := ([] : List (Int × Int))) (ys := z12) (k := 0) (ky := 2) rfl (bl rfl) rfl sl31 ty30 ze30 rfl by30 rfl rfl rfl rfl rfl h29 (fun A59 c36 => ?_))
      refine nxp hok (kp_all (ac (.inr (OpVal.plain rfl rfl (v_fieldAddr' rfl fo26_2 rfl rfl))) (ac (.inr (OpVal.plain rfl rfl (v_load (k := 3) rfl rfl rfl ty24 (fun _ => rfl) rfl rfl))) (ac (.inr (OpVal.plain rfl rfl (v_fieldAddr' rfl fo26_2 rfl rfl))) (ac (.inr (OpVal.plain rfl rfl (v_load (k := 1) rfl rfl rfl ty24 (fun _ => rfl) rfl rfl))) (ac (.inr (OpVal.plain rfl rfl (v_move rfl rfl))) (ac (.inr (OpVal.plain rfl rfl (v_indexAddr (k := 0) rfl sl24 ty31 rfl rfl rfl rfl hz12))) (ac (.inl (by kernel_rfl)) (ac (.inr (OpVal.plain rfl rfl (v_fieldAddr' rfl fo26_2 rfl rfl))) an))))))))) rfl (by kernel_rfl) ?_
      clear hok
      intro hok
      refine TrAny.next (j := 9) (by kernel_rfl) hok rfl (by kernel_rfl) (op_buildSlice' (rp := rRaw) (xs := [(A59, z12.length, c36)]) (vs := [.slice A59 z12.length c36]) (out := [.slice A59 z12.length c36]) rfl (bl rfl) rfl sl24 ty31 ze31 rfl rfl (by decide) (by decide) rfl (fun γ w hF => (rowc rfl rown rfl)) (fun A60 => ?_))
      refine nxp hok (kp_imp (kp_cf rfl)) rfl (by kernel_rfl) ?_
      clear hok
      intro hok
      obtain ⟨h30, hy2⟩ := rom hy2
      refine TrAny.next (j := 10) (by kernel_rfl) hok rfl (by kernel_rfl) (op_appendAS (rp := rRaw) (xs := m6.2.2.map raw) (ys := [(A59, z12.length, c36)]) (k := 4) (ky := 4) rfl (bl rfl) rfl sl24 ty31 ze31 rfl by31 rfl rfl rfl rfl rfl (by rw [hlm]; exact h30) (fun A61 c37 => ?_))
      refine nxp hok (kp_all (ac (.inr (OpVal.plain rfl rfl (v_fieldAddr' rfl fo26_2 rfl rfl))) (ac (.inl (by kernel_rfl)) (ac (.inr (OpVal.plain rfl rfl (v_fieldAddr' rfl fo26_2 rfl rfl))) (ac (.inr (OpVal.plain rfl rfl (v_load (k := 1) rfl rfl rfl ty24 (fun _ => rfl) rfl rfl))) (ac (.inr (OpVal.plain rfl rfl (v_move rfl rfl))) (ac (.inr (OpVal.plain rfl rfl (v_indexAddr (k := 0) rfl sl24 ty31 rfl rfl rfl rfl hz12))) (ac (.inr (OpVal.plain rfl rfl (v_loadF (k := 3) rfl ty31 rfl rfl))) (ac (.inr (OpVal.plain rfl rfl (v_fieldAddr' rfl fo26_2 rfl rfl))) an))))))))) rfl (by kernel_rfl) ?_
      clear hok
      intro hok
      refine TrAny.next (j := 12) (by kernel_rfl) hok rfl (by kernel_rfl) (op_store' (k := 3) (c' := [.int .i64 p1.1, .int .i64 p1.2.1, .slice A61 ((m6.2.2.map raw ++ [(A59, z12.length, c36)]).length) c37]) rfl rfl rfl rfl rfl ty24 rfl (Nat.le_of_ble_eq_true rfl) (ones (oc rfl on)) rfl ?_)
      refine nxs hok (kp_aw (by kernel_rfl)) rfl ?_
      clear hok
      intro hok
      refine TrAny.done (by kernel_rfl) (by kernel_rfl) hok (by kernel_rfl) (qblock_n (qthen_n ?_))
      refine Tr.region ?_
      refine TrL.v (v_move rfl rfl) rfl rfl (bl rfl) ?_
      refine TrL.v (v_arith rfl rfl rfl ar_add_i64) rfl rfl (bl rfl) ?_
      refine TrL.v (v_assign rfl rfl) rfl rfl (bl rfl) ?_
      have hz := Option.some.inj hy2
      subst hz
      have hlen : (m6.2.2.map raw ++ [(A59, z12.length, c36)]).length = (s5.2 ++ ([z12])).length := by rw [List.length_append, List.length_append, hlm]; rfl
      have hmap : m6.2.2.map raw ++ [(A59, z12.length, c36)] = (m6.2.2 ++ [((A59, c36, z12) : RowT (Int × Int))]).map raw := by rw [List.map_append]; rfl
      refine TrL.nil (qloop_n ((A61, c37, m6.2.2 ++ [((A59, c36, z12) : RowT (Int × Int))])) ?_)
      refine Imp.trans (Imp.re ⟨[(1, .pointer (some ⟨b4, 0, none⟩)), (2, .pointer (some ⟨b5, 0, none⟩)), (3, .pointer (some ⟨b6, 0, none⟩)), (4, .int .i64 (wi64 (s5.1 + 1)))], [rowsC rp_u64_u64 30 m6.2.2, rowC rp_u64_u64 30 (A59, c36, z12), cells b4 [.int .i64 p1.1, .int .i64 p1.2.1, .slice A1 p1.2.2.length c1] 26, cells b5 [.int .i64 0, .int .i64 0, .slice none 0 0] 26, cells b6 [.int .i64 p1.1, .int .i64 p1.2.1, .slice A61 ((m6.2.2.map raw ++ [(A59, z12.length, c36)]).length) c37] 26, arr rRaw 31 A61 ((m6.2.2.map raw ++ [(A59, z12.length, c36)]).length) c37 (m6.2.2.map raw ++ [(A59, z12.length, c36)])], [slF (rSl rp_u64_u64) A1 c1 p1.2.2], []⟩ [5, 0, 1, 2, 3, 4] [0] (sc rfl (sc rfl (sc rfl (sc rfl sn)))) (by decide) rfl rfl rfl) ?_
      rw [hlen, hmap]
      intro γ a w hh
      have h1 := rows_snoc (x := (A59, c36, z12)) rfl hh
      have h2 := h1.addF (f := pureF ((m6.2.2 ++ [((A59, c36, z12) : RowT (Int × Int))]).map (·.2.2) = s5.2 ++ [z12])) (by show _ = _; rw [List.map_append, hm]; rfl)
      refine (?_ : Imp _ _ _) γ a w h2
      exact Imp.re _ [1, 2, 3, 4, 0] [0, 1] (sc rfl (sc rfl (sc rfl (sc rfl sn)))) (by decide) rfl rfl rfl
    · refine Tr.cond_f rfl (bf_dec h26) ?_
      have hz := Option.some.inj hy2
      subst hz
      refine Tr.exit (qthen_x (qloop_x (qblock_hit (qcut_hit s5.2 ((m6.1, m6.2.1, m6.2.2)) (hx4 _ rfl).symm (Imp.re _ [1, 2, 3, 4] [1] (sc rfl (sc rfl sn)) (by decide) rfl rfl rfl)))))
  · subst hd2
    refine (qthen_n ?_)
    refine Tr.pure (pure_pre (k := 0) (φ := m8.2.2.map (·.2.2) = x2) rfl) (fun hm8 => ?_)
    refine Tr.seq ?_
    refine Tr.region ?_
    refine TrL.v (v_load (k := 1) rfl rfl rfl ty26 nofun rfl rfl) rfl rfl (bl rfl) ?_
    refine TrL.cons rfl (op_store' (k := 0) (c' := [.int .i64 p1.1, .int .i64 p1.2.1, .slice m8.1 x2.length m8.2.1]) rfl rfl rfl rfl rfl ty26 rfl (Nat.le_of_ble_eq_true rfl) (ones (oc rfl (oc rfl (oc rfl on)))) rfl ?_)
    refine TrL.nil (qthen_n ?_)
    have hz := Option.some.inj H
    subst hz
    refine Tr.ret (ret_r ⟨[(2, .pointer (some ⟨b5, 0, none⟩))], [arr rRaw 31 m8.1 x2.length m8.2.1 (m8.2.2.map raw), rowsC rp_u64_u64 30 m8.2.2, cells b5 [.int .i64 p1.1, .int .i64 p1.2.1, .slice m8.1 x2.length m8.2.1] 26], [], []⟩ [.agg #[.int .i64 p1.1, .int .i64 p1.2.1, .slice m8.1 x2.length m8.2.1]] [arr rRaw 31 m8.1 x2.length m8.2.1 (m8.2.2.map raw), rowsC rp_u64_u64 30 m8.2.2] [cells b5 [.int .i64 p1.1, .int .i64 p1.2.1, .slice m8.1 x2.length m8.2.1] 26] (Imp.re _ [2, 3, 0] [] (sc rfl sn) (by decide) rfl rfl rfl) rfl rfl ⟨((m8.1, m8.2.1, m8.2.2)), rfl, rfl, rfl, hm8⟩ (.cons (resv_cell (k := 2) rfl rfl ty26 nofun rfl rfl) .nil))
end Go.Proofs.Ytbeknohemgjfbaa.W
