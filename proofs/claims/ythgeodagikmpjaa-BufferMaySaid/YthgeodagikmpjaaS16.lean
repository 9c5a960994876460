/- The law BufferMay: the call returns true for every input, and leaves its arguments as they read. Nothing is assumed of the input. -/
import Derived.Test.YthgeodagikmpjaaRows
import Derived.Test.YthgeodagikmpjaaS0
import Derived.Test.YthgeodagikmpjaaR1
import Derived.Test.YthgeodagikmpjaaW16b
import Derived.Test.YthgeodagikmpjaaT12c
namespace Go.Proofs.Ythgeodagikmpjaa.S16
open Go Go.ChangeShapes Go.WideShapes Go.ChangeAt Go.RowKit Go.Proofs.Ythgeodagikmpjaa.L Go.Proofs.Ythgeodagikmpjaa.Pu Go.Proofs.Ythgeodagikmpjaa.W Go.Proofs.Ythgeodagikmpjaa.S
set_option linter.unusedVariables false

theorem small : ∀ t ∈ Try.f16.params.toList, t < Try.prog.types.size := by
  have h : (Try.f16.params.toList.all fun t => decide (t < Try.prog.types.size)) = true := by kernel_rfl
  exact fun t ht => of_decide_eq_true (List.all_eq_true.1 h t ht)
theorem rd55 : Rd Try.prog 55 rp_u64_u64_u64 (fun x => wfI .u64 x.1 ∧ wfI .u64 x.2.1 ∧ wfI .u64 x.2.2) := rd_three Try.underlying55 (by kernel_rfl) rfl rfl rfl (by kernel_rfl) (by kernel_rfl) (by kernel_rfl) Try.underlying22 Try.underlying22 Try.underlying22 rfl (fun _ _ _ => rfl)
theorem rd46 : Rd Try.prog 46 (rSl rp_u64_u64_u64) (fun x => (x.length ≤ top ∧ ∀ y ∈ x, wfI .u64 y.1 ∧ wfI .u64 y.2.1 ∧ wfI .u64 y.2.2)) := rd_slice Try.underlying46 (by kernel_rfl) (by decide) rd55

set_option maxRecDepth 100000 in
theorem walked (hp : ∀ (p1 : Int × Int × Int × Int × List (Int × Int × Int)) (p2 : Int × Int × Int × Int × List (Int × Int × Int)), (wfI .u64 p1.1 ∧ wfI .i64 p1.2.1 ∧ wfI .u64 p1.2.2.1 ∧ wfI .u64 p1.2.2.2.1 ∧ (p1.2.2.2.2.length ≤ top ∧ ∀ y ∈ p1.2.2.2.2, wfI .u64 y.1 ∧ wfI .u64 y.2.1 ∧ wfI .u64 y.2.2)) → (wfI .u64 p2.1 ∧ wfI .i64 p2.2.1 ∧ wfI .u64 p2.2.2.1 ∧ wfI .u64 p2.2.2.2.1 ∧ (p2.2.2.2.2.length ≤ top ∧ ∀ y ∈ p2.2.2.2.2, wfI .u64 y.1 ∧ wfI .u64 y.2.1 ∧ wfI .u64 y.2.2)) → law12_BufferMay p1 p2 = some true)
    (H : Type) (enc : TypeId × Value → H) (W : World) (base : Nat) (args : Array Value) (ds gs : List (DataW H)) (before : List MemPlace)
    (hval : ∀ (j : Nat) t v, Try.f16.params[j]? = some t → args[j]? = some v → Value.okWide Try.prog W .any base t v)
    (hW : DataW.Whole enc Try.prog Try.f16.params.toList Rows.bufferMaySpec.vars false W args.toList ds gs before) :
    Calls Try.prog 16 args W fun e W' => ∃ v, e = .returned v ∧ Rows.bufferMaySpec.post enc Try.prog Try.f16 false true false false W args v W' := by
  have hW' := hW
  obtain ⟨p, q, hA0, hV, rfl, hfz, hnd⟩ := hW
  have hA : DataW.TrodAll enc Try.prog W 0 (fun _ => true) true Try.f16.params.toList args.toList ds p := hA0
  rw [Try.params16] at hA hval
  obtain ⟨v0, vs0, d0, ds0, p0, q0, hargs, rfl, rfl, h0, r0⟩ := trodAll_cons hA
  obtain ⟨v1, vs1, d1, ds1, p1, q1, rfl, rfl, rfl, h1, r1⟩ := trodAll_cons r0
  obtain ⟨rfl, rfl, rfl⟩ := trodAll_nil r1
  obtain rfl : args = #[v0, v1] := by cases args; simp_all
  obtain ⟨rfl, rfl⟩ := trodVars_none hV
  obtain ⟨a0, b0, e0, f0, A0, c0, x0, rfl, w0, z0, u0, t0, s0, y0⟩ := arg_iiiis Try.underlying58 (by kernel_rfl) rfl rfl rfl rfl rfl (by kernel_rfl) (by kernel_rfl) (by kernel_rfl) (by kernel_rfl) (by kernel_rfl) Try.underlying22 Try.underlying3 Try.underlying22 Try.underlying22 rd46 (hval 0 58 v0 rfl rfl) h0
  obtain ⟨a1, b1, e1, f1, A1, c1, x1, rfl, w1, z1, u1, t1, s1, y1⟩ := arg_iiiis Try.underlying58 (by kernel_rfl) rfl rfl rfl rfl rfl (by kernel_rfl) (by kernel_rfl) (by kernel_rfl) (by kernel_rfl) (by kernel_rfl) Try.underlying22 Try.underlying3 Try.underlying22 Try.underlying22 rd46 (hval 1 58 v1 rfl rfl) h1
  refine (law_calls (c_law12_BufferMay (a0, b0, e0, f0, x0) (a1, b1, e1, f1, x1) A0 c0 A1 c1 true (hp _ _ ⟨w0, z0, u0, t0, y0⟩ ⟨w1, z1, u1, t1, y1⟩)) (W := W) (fun g hg => by simp only [List.mem_cons, List.not_mem_nil, or_false] at hg; rcases hg with rfl | rfl <;> assumption) (fun ret M' F' h => h.1)).mono ?_
  rintro e W' ⟨rfl, γ', fr⟩
  exact ⟨_, rfl, law_post laidOut rowed slices small hW' rfl rfl (by kernel_rfl) Try.underlying4 fr fpM_nil⟩

set_option maxRecDepth 100000 in
theorem joined : joinedFacts Try.prog 16 Try.f16 Rows.bufferMaySpec Rows.bufferMayRow = true := by
  unfold joinedFacts
  simp only [Bool.and_eq_true]
  repeat' apply And.intro
  · kernel_rfl
  · kernel_rfl
  · kernel_rfl
  · kernel_rfl
  · kernel_rfl
  · kernel_rfl
  · kernel_rfl
  · kernel_rfl
  · kernel_rfl
  · kernel_rfl
  · kernel_rfl
  · kernel_rfl
  · kernel_rfl
  · kernel_rfl
  · kernel_rfl
  · kernel_rfl
  · kernel_rfl
  · kernel_rfl
  · kernel_rfl
  · kernel_rfl
  · kernel_rfl
  · kernel_rfl
  · kernel_rfl
  · kernel_rfl
  · kernel_rfl
  · exact heads.1
  · rw [heads.2.2]; rfl
  · rw [heads.2.1]; rfl
  · kernel_rfl
  · kernel_rfl
  · kernel_rfl
  · kernel_rfl
set_option maxRecDepth 100000 in
theorem lifted (hp : ∀ (p1 : Int × Int × Int × Int × List (Int × Int × Int)) (p2 : Int × Int × Int × Int × List (Int × Int × Int)), (wfI .u64 p1.1 ∧ wfI .i64 p1.2.1 ∧ wfI .u64 p1.2.2.1 ∧ wfI .u64 p1.2.2.2.1 ∧ (p1.2.2.2.2.length ≤ top ∧ ∀ y ∈ p1.2.2.2.2, wfI .u64 y.1 ∧ wfI .u64 y.2.1 ∧ wfI .u64 y.2.2)) → (wfI .u64 p2.1 ∧ wfI .i64 p2.2.1 ∧ wfI .u64 p2.2.2.1 ∧ wfI .u64 p2.2.2.2.1 ∧ (p2.2.2.2.2.length ≤ top ∧ ∀ y ∈ p2.2.2.2.2, wfI .u64 y.1 ∧ wfI .u64 y.2.1 ∧ wfI .u64 y.2.2)) → law12_BufferMay p1 p2 = some true)
    (os : Os) (started : os.Started) (H : Type) (enc : TypeId × Value → H) :
    ReturnsInHanded {} Try.checked os 16 .any (Rows.bufferMaySpec.pre6 enc Try.prog Try.f16 Rows.bufferMayRow.domain false) (Rows.bufferMaySpec.post enc Try.prog Try.f16 false true false false) := by
  refine returnsInHanded_of_change (C := Try.checked) own started (by kernel_rfl) Try.func16
    (ChangeSpec.witness6 (enc := enc) (C := Try.checked) false ⟨#[], #[.agg #[.int .u64 0, .int .i64 0, .int .u64 0, .int .u64 0, .slice none 0 0], .agg #[.int .u64 0, .int .i64 0, .int .u64 0, .int .u64 0, .slice none 0 0]], []⟩ 8 (by kernel_rfl) (by kernel_rfl) (by kernel_rfl) (by kernel_rfl)) ?_
  intro W base args ds gs before hval hW _ _
  exact walked hp H enc W base args ds gs before hval hW
theorem said (hp : ∀ (p1 : Int × Int × Int × Int × List (Int × Int × Int)) (p2 : Int × Int × Int × Int × List (Int × Int × Int)), (wfI .u64 p1.1 ∧ wfI .i64 p1.2.1 ∧ wfI .u64 p1.2.2.1 ∧ wfI .u64 p1.2.2.2.1 ∧ (p1.2.2.2.2.length ≤ top ∧ ∀ y ∈ p1.2.2.2.2, wfI .u64 y.1 ∧ wfI .u64 y.2.1 ∧ wfI .u64 y.2.2)) → (wfI .u64 p2.1 ∧ wfI .i64 p2.2.1 ∧ wfI .u64 p2.2.2.1 ∧ wfI .u64 p2.2.2.2.1 ∧ (p2.2.2.2.2.length ≤ top ∧ ∀ y ∈ p2.2.2.2.2, wfI .u64 y.1 ∧ wfI .u64 y.2.1 ∧ wfI .u64 y.2.2)) → law12_BufferMay p1 p2 = some true) : Rows.BufferMaySaid :=
  OpenClaim.holds_of_wide 16 Try.f16 rfl rfl rfl rfl rfl rfl rfl ⟨rfl, rfl, rfl, rfl, rfl⟩ rfl rfl rfl rfl rfl (by kernel_rfl) Try.func16 joined
    (of_decide_eq_true (by kernel_rfl)) (by unfold Func.isWrapper; first | (rw [if_pos (by decide +kernel)]; kernel_rfl) | (rw [if_neg (by decide +kernel)]; exact ⟨rfl, rfl⟩))
    (fun os started H enc _ => lifted hp os started H enc)
end Go.Proofs.Ythgeodagikmpjaa.S16
namespace Go.Proofs.Ythgeodagikmpjaa
open Go.Proofs.Ythgeodagikmpjaa.L Go.Proofs.Ythgeodagikmpjaa.Pu
/-- BufferMay -/
theorem bufferMay_said : Rows.BufferMaySaid := S16.said fun p1 p2 w0 w1 => law12_BufferMay_true p1 p2 ⟨wf_u64 w0.1, wf_i64 w0.2.1, wf_u64 w0.2.2.1, wf_u64 w0.2.2.2.1, ⟨w0.2.2.2.2.1, fun y hy => ⟨wf_u64 (w0.2.2.2.2.2 y hy).1, wf_u64 (w0.2.2.2.2.2 y hy).2.1, wf_u64 (w0.2.2.2.2.2 y hy).2.2⟩⟩⟩ ⟨wf_u64 w1.1, wf_i64 w1.2.1, wf_u64 w1.2.2.1, wf_u64 w1.2.2.2.1, ⟨w1.2.2.2.2.1, fun y hy => ⟨wf_u64 (w1.2.2.2.2.2 y hy).1, wf_u64 (w1.2.2.2.2.2 y hy).2.1, wf_u64 (w1.2.2.2.2.2 y hy).2.2⟩⟩⟩
end Go.Proofs.Ythgeodagikmpjaa

