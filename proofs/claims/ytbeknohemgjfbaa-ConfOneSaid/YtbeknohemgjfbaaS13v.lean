import Derived.Test.YtbeknohemgjfbaaRows
import Derived.Test.YtbeknohemgjfbaaS0v
import Derived.Test.YtbeknohemgjfbaaR1v
import Derived.Test.YtbeknohemgjfbaaW13cv
import Derived.Test.YtbeknohemgjfbaaT21v
namespace Go.Proofs.Ytbeknohemgjfbaa.S13
open Go Go.ChangeShapes Go.WideShapes Go.ChangeAt Go.RowKit Go.Proofs.Ytbeknohemgjfbaa.L Go.Proofs.Ytbeknohemgjfbaa.Pu Go.Proofs.Ytbeknohemgjfbaa.W Go.Proofs.Ytbeknohemgjfbaa.S
set_option linter.unusedVariables false

theorem small : ∀ t ∈ Try.f13.params.toList, t < Try.prog.types.size := by
  have h : (Try.f13.params.toList.all fun t => decide (t < Try.prog.types.size)) = true := by kernel_rfl
  exact fun t ht => of_decide_eq_true (List.all_eq_true.1 h t ht)
theorem rd5 : Rd Try.prog 5 (rInt .u8) (wfI .u8) := rd_int Try.underlying5 (by kernel_rfl)
theorem rd40 : Rd Try.prog 40 (rSl (rInt .u8)) (fun x => (x.length ≤ top ∧ ∀ y ∈ x, wfI .u8 y)) := rd_slice Try.underlying40 (by kernel_rfl) (by decide) rd5

set_option maxRecDepth 100000 in
theorem walked (hp : ∀ (p1 : List Int), (p1.length ≤ top ∧ ∀ y ∈ p1, wfI .u8 y) → law21_ConfOne p1 = some true)
    (H : Type) (enc : TypeId × Value → H) (W : World) (base : Nat) (args : Array Value) (ds gs : List (DataW H)) (before : List MemPlace)
    (hval : ∀ (j : Nat) t v, Try.f13.params[j]? = some t → args[j]? = some v → Value.okWide Try.prog W .any base t v)
    (hW : DataW.Whole enc Try.prog Try.f13.params.toList Rows.confOneSpec.vars false W args.toList ds gs before) :
    Calls Try.prog 13 args W fun e W' => ∃ v, e = .returned v ∧ Rows.confOneSpec.post enc Try.prog Try.f13 false true false false W args v W' := by
  have hW' := hW
  obtain ⟨p, q, hA0, hV, rfl, hfz, hnd⟩ := hW
  have hA : DataW.TrodAll enc Try.prog W 0 (fun _ => true) true Try.f13.params.toList args.toList ds p := hA0
  rw [Try.params13] at hA hval
  obtain ⟨v0, vs0, d0, ds0, p0, q0, hargs, rfl, rfl, h0, r0⟩ := trodAll_cons hA
  obtain ⟨rfl, rfl, rfl⟩ := trodAll_nil r0
  obtain rfl : args = #[v0] := by cases args; simp_all
  obtain ⟨rfl, rfl⟩ := trodVars_none hV
  obtain ⟨A0, c0, a0, rfl, s0, w0⟩ := arg_slice Try.underlying40 rd40 (hval 0 40 v0 rfl rfl) h0
  refine (law_calls (c_law21_ConfOne a0 A0 c0 true (hp _ w0)) (W := W) (fun g hg => by simp at hg; subst hg; assumption) (fun ret M' F' h => h.1)).mono ?_
  rintro e W' ⟨rfl, γ', fr⟩
  exact ⟨_, rfl, law_post laidOut rowed slices small hW' rfl rfl (by kernel_rfl) Try.underlying4 fr fpM_nil⟩

set_option maxRecDepth 100000 in
theorem joined : joinedFacts Try.prog 13 Try.f13 Rows.confOneSpec Rows.confOneRow = true := by
  unfold joinedFacts
  simp only [Bool.and_eq_true]
  repeat' apply And.intro
  · kernel_rfl
  · kernel_rfl
  · kernel_rfl
  · kernel_rfl
  · kernel_rfl
  · kernel_rfl
  · kernel_rfl
  · kernel_rfl
  · kernel_rfl
  · kernel_rfl
  · kernel_rfl
  · kernel_rfl
  · kernel_rfl
  · kernel_rfl
  · kernel_rfl
  · kernel_rfl
  · kernel_rfl
  · kernel_rfl
  · kernel_rfl
  · kernel_rfl
  · kernel_rfl
  · kernel_rfl
  · kernel_rfl
  · kernel_rfl
  · kernel_rfl
  · exact heads.1
  · rw [heads.2.2]; rfl
  · rw [heads.2.1]; rfl
  · kernel_rfl
  · kernel_rfl
  · kernel_rfl
  · kernel_rfl
set_option maxRecDepth 100000 in
theorem lifted (hp : ∀ (p1 : List Int), (p1.length ≤ top ∧ ∀ y ∈ p1, wfI .u8 y) → law21_ConfOne p1 = some true)
    (os : Os) (started : os.Started) (H : Type) (enc : TypeId × Value → H) :
    ReturnsInHanded {} Try.checked os 13 .any (Rows.confOneSpec.pre6 enc Try.prog Try.f13 Rows.confOneRow.domain false) (Rows.confOneSpec.post enc Try.prog Try.f13 false true false false) := by
  refine returnsInHanded_of_change (C := Try.checked) own started (by kernel_rfl) Try.func13
    (ChangeSpec.witness6 (enc := enc) (C := Try.checked) false ⟨#[], #[.slice none 0 0], []⟩ 8 (by kernel_rfl) (by kernel_rfl) (by kernel_rfl) (by kernel_rfl)) ?_
  intro W base args ds gs before hval hW _ _
  exact walked hp H enc W base args ds gs before hval hW
theorem said (hp : ∀ (p1 : List Int), (p1.length ≤ top ∧ ∀ y ∈ p1, wfI .u8 y) → law21_ConfOne p1 = some true) : Rows.ConfOneSaid :=
  OpenClaim.holds_of_wide 13 Try.f13 rfl rfl rfl rfl rfl rfl rfl ⟨rfl, rfl, rfl, rfl, rfl⟩ rfl rfl rfl rfl rfl (by kernel_rfl) Try.func13 joined
    (of_decide_eq_true (by kernel_rfl)) (by unfold Func.isWrapper; first | (rw [if_pos (by decide +kernel)]; kernel_rfl) | (rw [if_neg (by decide +kernel)]; exact ⟨rfl, rfl⟩))
    (fun os started H enc _ => lifted hp os started H enc)
end Go.Proofs.Ytbeknohemgjfbaa.S13
namespace Go.Proofs.Ytbeknohemgjfbaa
open Go.Proofs.Ytbeknohemgjfbaa.L Go.Proofs.Ytbeknohemgjfbaa.Pu
theorem confOne_said : Rows.ConfOneSaid := S13.said fun p1 w0 => law21_ConfOne_true p1 ⟨w0.1, fun y hy => (wf_u8 (w0.2 y hy))⟩
end Go.Proofs.Ytbeknohemgjfbaa
