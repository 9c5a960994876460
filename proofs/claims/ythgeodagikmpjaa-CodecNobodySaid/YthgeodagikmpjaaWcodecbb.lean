/- The contracts of the walked functions: the printed walks. -/
import Derived.Test.YthgeodagikmpjaaKb
import Derived.Test.YthgeodagikmpjaaQb
import Derived.Test.YthgeodagikmpjaaWcodecab
namespace Go.Proofs.Ythgeodagikmpjaa.W
open Go Go.Proofs Go.Proofs.Ythgeodagikmpjaa.L Go.Proofs.Ythgeodagikmpjaa.Pu
set_option linter.unusedVariables false
set_option maxHeartbeats 4000000

theorem c_codec_Reader_Fail_v1 (p1 : Int) (r : Unit) (H : codec_Reader_Fail_v1 p1 = some r) :
    Ctr Try.prog 48 [.pointer none, .int .i64 p1] [] [] (fun ret M' F' => ret = ret1 [] ∧ M' = [] ∧ F' = []) := by
  unfold codec_Reader_Fail_v1 at H
  refine ctr_ofI (N := 10) Try.func48 rfl Try.ntmps48 rfl (Nat.le_of_ble_eq_true rfl) (fun γ0 w0 => ?_)
  refine Tr.seq ?_
  refine Tr.region ?_
  refine TrL.v (v_move rfl rfl) rfl rfl (bl rfl) ?_
  obtain ⟨r2, hr2, H⟩ := bnd H
  refine TrL.cons rfl (op_call0' (vs := [.pointer none]) (cap := []) [] rfl rfl (bl rfl) rfl rfl en64 (c_codec_Reader_on_v1 r2 hr2) rfl (fun ret M' F' hR2 => ?_))
  obtain ⟨rfl, rfl, rfl⟩ := hR2
  refine TrL.nil (qthen_n ?_)
  refine Tr.cond_f rfl rfl ?_
  have hz := Option.some.inj H
  subst hz
  refine Tr.skip (ret_n ⟨[], [], [], []⟩ [] [] [] (Imp.re _ [] [] sn (by decide) rfl rfl rfl) rfl rfl ⟨rfl, rfl, rfl⟩ .nil)

theorem c_codec_Reader_Num_v1 (p1 : Int) (r : Unit) (H : codec_Reader_Num_v1 p1 = some r) :
    Ctr Try.prog 32 [.pointer none, .int .u64 p1] [] [] (fun ret M' F' => ret = .int .u64 0 ∧ M' = [] ∧ F' = []) := by
  unfold codec_Reader_Num_v1 at H
  refine ctr_ofI (N := 26) Try.func32 rfl Try.ntmps32 rfl (Nat.le_of_ble_eq_true rfl) (fun γ0 w0 => ?_)
  refine Tr.seq ?_
  refine Tr.region ?_
  refine TrL.v (v_assign rfl rfl) rfl rfl (bl rfl) ?_
  refine TrL.nil (qthen_n ?_)
  refine Tr.seq ?_
  refine Tr.seq ?_
  refine Tr.region ?_
  refine TrL.v (v_move rfl rfl) rfl rfl (bl rfl) ?_
  obtain ⟨r2, hr2, H⟩ := bnd H
  refine TrL.cons rfl (op_call0' (vs := [.pointer none]) (cap := []) [] rfl rfl (bl rfl) rfl rfl en64 (c_codec_Reader_on_v1 r2 hr2) rfl (fun ret M' F' hR2 => ?_))
  obtain ⟨rfl, rfl, rfl⟩ := hR2
  refine TrL.v (v_not rfl rfl) rfl rfl (bl rfl) ?_
  refine TrL.nil (qthen_n ?_)
  refine Tr.cond_t rfl rfl ?_
  refine Tr.seq ?_
  refine Tr.region ?_
  refine TrL.v (v_assign rfl rfl) rfl rfl (bl rfl) ?_
  refine TrL.nil (qthen_n ?_)
  have hz := Option.some.inj H
  subst hz
  refine Tr.ret (qthen_r (ret_r ⟨[(4, .int .u64 0)], [], [], []⟩ [.int .u64 0] [] [] (Imp.re _ [] [] (sc rfl sn) (by decide) rfl rfl rfl) rfl rfl ⟨rfl, rfl, rfl⟩ (.cons (resv_tmp rfl) .nil)))

theorem c_codec_Reader_Fixed_v1 (r : Unit) (H : codec_Reader_Fixed_v1 = some r) :
    Ctr Try.prog 36 [.pointer none] [] [] (fun ret M' F' => ret = .int .u64 0 ∧ M' = [] ∧ F' = []) := by
  unfold codec_Reader_Fixed_v1 at H
  refine ctr_ofI (N := 43) Try.func36 rfl Try.ntmps36 rfl (Nat.le_of_ble_eq_true rfl) (fun γ0 w0 => ?_)
  refine Tr.seq ?_
  refine Tr.region ?_
  refine TrL.v (v_assign rfl rfl) rfl rfl (bl rfl) ?_
  refine TrL.nil (qthen_n ?_)
  refine Tr.seq ?_
  refine Tr.seq ?_
  refine Tr.region ?_
  refine TrL.v (v_move rfl rfl) rfl rfl (bl rfl) ?_
  obtain ⟨r2, hr2, H⟩ := bnd H
  refine TrL.cons rfl (op_call0' (vs := [.pointer none]) (cap := []) [] rfl rfl (bl rfl) rfl rfl en64 (c_codec_Reader_on_v1 r2 hr2) rfl (fun ret M' F' hR2 => ?_))
  obtain ⟨rfl, rfl, rfl⟩ := hR2
  refine TrL.v (v_not rfl rfl) rfl rfl (bl rfl) ?_
  refine TrL.nil (qthen_n ?_)
  refine Tr.cond_t rfl rfl ?_
  refine Tr.seq ?_
  refine Tr.region ?_
  refine TrL.v (v_assign rfl rfl) rfl rfl (bl rfl) ?_
  refine TrL.nil (qthen_n ?_)
  have hz := Option.some.inj H
  subst hz
  refine Tr.ret (qthen_r (ret_r ⟨[(2, .int .u64 0)], [], [], []⟩ [.int .u64 0] [] [] (Imp.re _ [] [] (sc rfl sn) (by decide) rfl rfl rfl) rfl rfl ⟨rfl, rfl, rfl⟩ (.cons (resv_tmp rfl) .nil)))

theorem c_codec_Reader_Text_v1 (p1 : Int) (r : Unit) (H : codec_Reader_Text_v1 p1 = some r) :
    Ctr Try.prog 35 [.pointer none, .int .i64 p1] [] [] (fun ret M' F' => ret = .slice none 0 0 ∧ M' = [] ∧ F' = [slF (rInt .u8) none 0 (([] : List Int))]) := by
  unfold codec_Reader_Text_v1 at H
  refine ctr_ofI (N := 60) Try.func35 rfl Try.ntmps35 rfl (Nat.le_of_ble_eq_true rfl) (fun γ0 w0 => ?_)
  refine Tr.seq ?_
  refine Tr.region ?_
  refine TrL.v (v_assign rfl rfl) rfl rfl (bl rfl) ?_
  refine TrL.nil (qthen_n ?_)
  refine Tr.seq ?_
  refine Tr.seq ?_
  refine Tr.region ?_
  refine TrL.v (v_move rfl rfl) rfl rfl (bl rfl) ?_
  obtain ⟨r2, hr2, H⟩ := bnd H
  refine TrL.cons rfl (op_call0' (vs := [.pointer none]) (cap := []) [] rfl rfl (bl rfl) rfl rfl en64 (c_codec_Reader_on_v1 r2 hr2) rfl (fun ret M' F' hR2 => ?_))
  obtain ⟨rfl, rfl, rfl⟩ := hR2
  refine TrL.v (v_not rfl rfl) rfl rfl (bl rfl) ?_
  refine TrL.nil (qthen_n ?_)
  refine Tr.cond_t rfl rfl ?_
  refine Tr.seq ?_
  refine Tr.region ?_
  refine TrL.v (v_assign rfl rfl) rfl rfl (bl rfl) ?_
  refine TrL.nil (qthen_n ?_)
  have hz := Option.some.inj H
  subst hz
  refine Tr.ret (qthen_r (ret_r ⟨[(4, .slice none 0 0)], [], [slF (rInt .u8) none 0 (([] : List Int))], []⟩ [.slice none 0 0] [] [] (Imp.addF' _ (nilF (rInt .u8)) (Imp.re _ [] [0] (sc rfl sn) (by decide) rfl rfl rfl)) rfl rfl ⟨rfl, rfl, rfl⟩ (.cons (resv_tmp rfl) .nil)))

theorem c_codec_Reader_Left_v1 (r : Unit) (H : codec_Reader_Left_v1 = some r) :
    Ctr Try.prog 34 [.pointer none] [] [] (fun ret M' F' => ret = .int .i64 0 ∧ M' = [] ∧ F' = []) := by
  unfold codec_Reader_Left_v1 at H
  refine ctr_ofI (N := 10) Try.func34 rfl Try.ntmps34 rfl (Nat.le_of_ble_eq_true rfl) (fun γ0 w0 => ?_)
  refine Tr.seq ?_
  refine Tr.region ?_
  refine TrL.v (v_assign rfl rfl) rfl rfl (bl rfl) ?_
  refine TrL.nil (qthen_n ?_)
  refine Tr.seq ?_
  refine Tr.seq ?_
  refine Tr.region ?_
  refine TrL.v (v_move rfl rfl) rfl rfl (bl rfl) ?_
  refine TrL.v (v_pnil (b := true) rfl Try.underlying37 rfl rfl rfl) rfl rfl (bl rfl) ?_
  refine TrL.nil (qthen_n ?_)
  refine Tr.cond_t rfl rfl ?_
  refine Tr.seq ?_
  refine Tr.region ?_
  refine TrL.v (v_assign rfl rfl) rfl rfl (bl rfl) ?_
  refine TrL.nil (qthen_n ?_)
  have hz := Option.some.inj H
  subst hz
  refine Tr.ret (qthen_r (ret_r ⟨[(2, .int .i64 0)], [], [], []⟩ [.int .i64 0] [] [] (Imp.re _ [] [] (sc rfl sn) (by decide) rfl rfl rfl) rfl rfl ⟨rfl, rfl, rfl⟩ (.cons (resv_tmp rfl) .nil)))

theorem c_codec_Reader_Err_v1 (r : Unit) (H : codec_Reader_Err_v1 = some r) :
    Ctr Try.prog 33 [.pointer none] [] [] (fun ret M' F' => ret = .int .i64 1 ∧ M' = [] ∧ F' = []) := by
  unfold codec_Reader_Err_v1 at H
  refine ctr_ofI (N := 9) Try.func33 rfl Try.ntmps33 rfl (Nat.le_of_ble_eq_true rfl) (fun γ0 w0 => ?_)
  refine Tr.seq ?_
  refine Tr.region ?_
  refine TrL.v (v_assign rfl rfl) rfl rfl (bl rfl) ?_
  refine TrL.nil (qthen_n ?_)
  refine Tr.seq ?_
  refine Tr.seq ?_
  refine Tr.region ?_
  refine TrL.v (v_move rfl rfl) rfl rfl (bl rfl) ?_
  refine TrL.v (v_pnil (b := true) rfl Try.underlying37 rfl rfl rfl) rfl rfl (bl rfl) ?_
  refine TrL.nil (qthen_n ?_)
  refine Tr.cond_t rfl rfl ?_
  refine Tr.seq ?_
  refine Tr.region ?_
  refine TrL.v (v_assign rfl rfl) rfl rfl (bl rfl) ?_
  refine TrL.nil (qthen_n ?_)
  have hz := Option.some.inj H
  subst hz
  refine Tr.ret (qthen_r (ret_r ⟨[(2, .int .i64 1)], [], [], []⟩ [.int .i64 1] [] [] (Imp.re _ [] [] (sc rfl sn) (by decide) rfl rfl rfl) rfl rfl ⟨rfl, rfl, rfl⟩ (.cons (resv_tmp rfl) .nil)))

theorem c_codec_Reader_End_v1 (r : Unit) (H : codec_Reader_End_v1 = some r) :
    Ctr Try.prog 37 [.pointer none] [] [] (fun ret M' F' => ret = .int .i64 1 ∧ M' = [] ∧ F' = []) := by
  unfold codec_Reader_End_v1 at H
  refine ctr_ofI (N := 12) Try.func37 rfl Try.ntmps37 rfl (Nat.le_of_ble_eq_true rfl) (fun γ0 w0 => ?_)
  refine Tr.seq ?_
  refine Tr.region ?_
  refine TrL.v (v_assign rfl rfl) rfl rfl (bl rfl) ?_
  refine TrL.nil (qthen_n ?_)
  refine Tr.seq ?_
  refine Tr.seq ?_
  refine Tr.region ?_
  refine TrL.v (v_move rfl rfl) rfl rfl (bl rfl) ?_
  obtain ⟨r2, hr2, H⟩ := bnd H
  refine TrL.cons rfl (op_call0' (vs := [.pointer none]) (cap := []) [] rfl rfl (bl rfl) rfl rfl en33 (c_codec_Reader_Err_v1 r2 hr2) rfl (fun ret M' F' hR2 => ?_))
  obtain ⟨rfl, rfl, rfl⟩ := hR2
  refine TrL.v (v_assign rfl rfl) rfl rfl (bl rfl) ?_
  refine TrL.nil (qthen_n ?_)
  refine Tr.seq ?_
  refine Tr.region ?_
  refine TrL.v (v_move rfl rfl) rfl rfl (bl rfl) ?_
  refine TrL.v (v_arith (v := .bool true) rfl rfl rfl rfl) rfl rfl (bl rfl) ?_
  refine TrL.nil (qthen_n ?_)
  refine Tr.cond_t rfl rfl ?_
  refine Tr.seq ?_
  refine Tr.region ?_
  refine TrL.v (v_move rfl rfl) rfl rfl (bl rfl) ?_
  refine TrL.v (v_assign rfl rfl) rfl rfl (bl rfl) ?_
  refine TrL.nil (qthen_n ?_)
  have hz := Option.some.inj H
  subst hz
  refine Tr.ret (qthen_r (ret_r ⟨[(2, .int .i64 1)], [], [], []⟩ [.int .i64 1] [] [] (Imp.re _ [] [] (sc rfl sn) (by decide) rfl rfl rfl) rfl rfl ⟨rfl, rfl, rfl⟩ (.cons (resv_tmp rfl) .nil)))
end Go.Proofs.Ythgeodagikmpjaa.W
