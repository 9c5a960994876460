/- The law CodecReads: the call returns true for every input, and leaves its arguments as they read. Nothing is assumed of the input. -/
import Derived.Test.YthgeodagikmpjaaRows
import Derived.Test.YthgeodagikmpjaaS0
import Derived.Test.YthgeodagikmpjaaR1
import Derived.Test.YthgeodagikmpjaaW13b
import Derived.Test.YthgeodagikmpjaaT02b
namespace Go.Proofs.Ythgeodagikmpjaa.S13
open Go Go.ChangeShapes Go.WideShapes Go.ChangeAt Go.RowKit Go.Proofs.Ythgeodagikmpjaa.L Go.Proofs.Ythgeodagikmpjaa.Pu Go.Proofs.Ythgeodagikmpjaa.W Go.Proofs.Ythgeodagikmpjaa.S
set_option linter.unusedVariables false

theorem small : ∀ t ∈ Try.f13.params.toList, t < Try.prog.types.size := by
  have h : (Try.f13.params.toList.all fun t => decide (t < Try.prog.types.size)) = true := by kernel_rfl
  exact fun t ht => of_decide_eq_true (List.all_eq_true.1 h t ht)
theorem rd5 : Rd Try.prog 5 (rInt .u8) (wfI .u8) := rd_int Try.underlying5 (by kernel_rfl)
theorem rd23 : Rd Try.prog 23 (rSl (rInt .u8)) (fun x => (x.length ≤ top ∧ ∀ y ∈ x, wfI .u8 y)) := rd_slice Try.underlying23 (by kernel_rfl) (by decide) rd5
theorem rd69 : Rd Try.prog 69 rp_u8_i64 (fun x => wfI .u8 x.1 ∧ wfI .i64 x.2) := rd_two Try.underlying69 (by kernel_rfl) rfl rfl (by kernel_rfl) (by kernel_rfl) Try.underlying5 Try.underlying3 rfl (fun _ _ _ => rfl)
theorem rd65 : Rd Try.prog 65 (rSl rp_u8_i64) (fun x => (x.length ≤ top ∧ ∀ y ∈ x, wfI .u8 y.1 ∧ wfI .i64 y.2)) := rd_slice Try.underlying65 (by kernel_rfl) (by decide) rd69

set_option maxRecDepth 100000 in
theorem walked (hp : ∀ (p1 : List Int) (p2 : List (Int × Int)), (p1.length ≤ top ∧ ∀ y ∈ p1, wfI .u8 y) → (p2.length ≤ top ∧ ∀ y ∈ p2, wfI .u8 y.1 ∧ wfI .i64 y.2) → law02_CodecReads p1 p2 = some true)
    (H : Type) (enc : TypeId × Value → H) (W : World) (base : Nat) (args : Array Value) (ds gs : List (DataW H)) (before : List MemPlace)
    (hval : ∀ (j : Nat) t v, Try.f13.params[j]? = some t → args[j]? = some v → Value.okWide Try.prog W .any base t v)
    (hW : DataW.Whole enc Try.prog Try.f13.params.toList Rows.codecReadsSpec.vars false W args.toList ds gs before) :
    Calls Try.prog 13 args W fun e W' => ∃ v, e = .returned v ∧ Rows.codecReadsSpec.post enc Try.prog Try.f13 false true false false W args v W' := by
  have hW' := hW
  obtain ⟨p, q, hA0, hV, rfl, hfz, hnd⟩ := hW
  have hA : DataW.TrodAll enc Try.prog W 0 (fun _ => true) true Try.f13.params.toList args.toList ds p := hA0
  rw [Try.params13] at hA hval
  obtain ⟨v0, vs0, d0, ds0, p0, q0, hargs, rfl, rfl, h0, r0⟩ := trodAll_cons hA
  obtain ⟨v1, vs1, d1, ds1, p1, q1, rfl, rfl, rfl, h1, r1⟩ := trodAll_cons r0
  obtain ⟨rfl, rfl, rfl⟩ := trodAll_nil r1
  obtain rfl : args = #[v0, v1] := by cases args; simp_all
  obtain ⟨rfl, rfl⟩ := trodVars_none hV
  obtain ⟨A0, c0, a0, rfl, s0, w0⟩ := arg_slice Try.underlying23 rd23 (hval 0 23 v0 rfl rfl) h0
  obtain ⟨A1, c1, a1, rfl, s1, w1⟩ := arg_slice Try.underlying65 rd65 (hval 1 65 v1 rfl rfl) h1
  refine (law_calls (c_law02_CodecReads a0 a1 A0 c0 A1 c1 true (hp _ _ w0 w1)) (W := W) (fun g hg => by simp only [List.mem_cons, List.not_mem_nil, or_false] at hg; rcases hg with rfl | rfl <;> assumption) (fun ret M' F' h => h.1)).mono ?_
  rintro e W' ⟨rfl, γ', fr⟩
  exact ⟨_, rfl, law_post laidOut rowed slices small hW' rfl rfl (by kernel_rfl) Try.underlying4 fr fpM_nil⟩

set_option maxRecDepth 100000 in
theorem joined : joinedFacts Try.prog 13 Try.f13 Rows.codecReadsSpec Rows.codecReadsRow = true := by
  unfold joinedFacts
  simp only [Bool.and_eq_true]
  repeat' apply And.intro
  · kernel_rfl
  · kernel_rfl
  · kernel_rfl
  · kernel_rfl
  · kernel_rfl
  · kernel_rfl
  · kernel_rfl
  · kernel_rfl
  · kernel_rfl
  · kernel_rfl
  · kernel_rfl
  · kernel_rfl
  · kernel_rfl
  · kernel_rfl
  · kernel_rfl
  · kernel_rfl
  · kernel_rfl
  · kernel_rfl
  · kernel_rfl
  · kernel_rfl
  · kernel_rfl
  · kernel_rfl
  · kernel_rfl
  · kernel_rfl
  · kernel_rfl
  · exact heads.1
  · rw [heads.2.2]; rfl
  · rw [heads.2.1]; rfl
  · kernel_rfl
  · kernel_rfl
  · kernel_rfl
  · kernel_rfl
set_option maxRecDepth 100000 in
theorem lifted (hp : ∀ (p1 : List Int) (p2 : List (Int × Int)), (p1.length ≤ top ∧ ∀ y ∈ p1, wfI .u8 y) → (p2.length ≤ top ∧ ∀ y ∈ p2, wfI .u8 y.1 ∧ wfI .i64 y.2) → law02_CodecReads p1 p2 = some true)
    (os : Os) (started : os.Started) (H : Type) (enc : TypeId × Value → H) :
    ReturnsInHanded {} Try.checked os 13 .any (Rows.codecReadsSpec.pre6 enc Try.prog Try.f13 Rows.codecReadsRow.domain false) (Rows.codecReadsSpec.post enc Try.prog Try.f13 false true false false) := by
  refine returnsInHanded_of_change (C := Try.checked) own started (by kernel_rfl) Try.func13
    (ChangeSpec.witness6 (enc := enc) (C := Try.checked) false ⟨#[], #[.slice none 0 0, .slice none 0 0], []⟩ 8 (by kernel_rfl) (by kernel_rfl) (by kernel_rfl) (by kernel_rfl)) ?_
  intro W base args ds gs before hval hW _ _
  exact walked hp H enc W base args ds gs before hval hW
theorem said (hp : ∀ (p1 : List Int) (p2 : List (Int × Int)), (p1.length ≤ top ∧ ∀ y ∈ p1, wfI .u8 y) → (p2.length ≤ top ∧ ∀ y ∈ p2, wfI .u8 y.1 ∧ wfI .i64 y.2) → law02_CodecReads p1 p2 = some true) : Rows.CodecReadsSaid :=
  OpenClaim.holds_of_wide 13 Try.f13 rfl rfl rfl rfl rfl rfl rfl ⟨rfl, rfl, rfl, rfl, rfl⟩ rfl rfl rfl rfl rfl (by kernel_rfl) Try.func13 joined
    (of_decide_eq_true (by kernel_rfl)) (by unfold Func.isWrapper; first | (rw [if_pos (by decide +kernel)]; kernel_rfl) | (rw [if_neg (by decide +kernel)]; exact ⟨rfl, rfl⟩))
    (fun os started H enc _ => lifted hp os started H enc)
end Go.Proofs.Ythgeodagikmpjaa.S13
namespace Go.Proofs.Ythgeodagikmpjaa
open Go.Proofs.Ythgeodagikmpjaa.L Go.Proofs.Ythgeodagikmpjaa.Pu
/-- CodecReads -/
theorem codecReads_said : Rows.CodecReadsSaid := S13.said fun p1 p2 w0 w1 => law02_CodecReads_true p1 p2 ⟨w0.1, fun y hy => (wf_u8 (w0.2 y hy))⟩ ⟨w1.1, fun y hy => ⟨wf_u8 (w1.2 y hy).1, wf_i64 (w1.2 y hy).2⟩⟩
end Go.Proofs.Ythgeodagikmpjaa

