/- The law CheckOdd: the call returns true for every input, and leaves its arguments as they read. Nothing is assumed of the input. -/
import Derived.Test.YtbeknohemgjfbaaRows
import Derived.Test.YtbeknohemgjfbaaS0
import Derived.Test.YtbeknohemgjfbaaR1
import Derived.Test.YtbeknohemgjfbaaW3c
import Derived.Test.YtbeknohemgjfbaaT09o
namespace Go.Proofs.Ytbeknohemgjfbaa.S3
open Go Go.ChangeShapes Go.WideShapes Go.ChangeAt Go.RowKit Go.Proofs.Ytbeknohemgjfbaa.L Go.Proofs.Ytbeknohemgjfbaa.Pu Go.Proofs.Ytbeknohemgjfbaa.W Go.Proofs.Ytbeknohemgjfbaa.S
set_option linter.unusedVariables false

theorem small : ∀ t ∈ Try.f3.params.toList, t < Try.prog.types.size := by
  have h : (Try.f3.params.toList.all fun t => decide (t < Try.prog.types.size)) = true := by kernel_rfl
  exact fun t ht => of_decide_eq_true (List.all_eq_true.1 h t ht)
theorem rd103 : Rd Try.prog 103 rp_u64_u64 (fun x => wfI .u64 x.1 ∧ wfI .u64 x.2) := rd_two Try.underlying103 (by kernel_rfl) rfl rfl (by kernel_rfl) (by kernel_rfl) Try.underlying28 Try.underlying28 rfl (fun _ _ _ => rfl)
theorem rd22 : Rd Try.prog 22 (rSl rp_u64_u64) (fun x => (x.length ≤ top ∧ ∀ y ∈ x, wfI .u64 y.1 ∧ wfI .u64 y.2)) := rd_slice Try.underlying22 (by kernel_rfl) (by decide) rd103

set_option maxRecDepth 100000 in
theorem walked (hp : ∀ (p1 : Int) (p2 : List (Int × Int)) (p3 : Int), wfI .i64 p1 → (p2.length ≤ top ∧ ∀ y ∈ p2, wfI .u64 y.1 ∧ wfI .u64 y.2) → wfI .u8 p3 → law09_CheckOdd p1 p2 p3 = some true)
    (H : Type) (enc : TypeId × Value → H) (W : World) (base : Nat) (args : Array Value) (ds gs : List (DataW H)) (before : List MemPlace)
    (hval : ∀ (j : Nat) t v, Try.f3.params[j]? = some t → args[j]? = some v → Value.okWide Try.prog W .any base t v)
    (hW : DataW.Whole enc Try.prog Try.f3.params.toList Rows.checkOddSpec.vars false W args.toList ds gs before) :
    Calls Try.prog 3 args W fun e W' => ∃ v, e = .returned v ∧ Rows.checkOddSpec.post enc Try.prog Try.f3 false true false false W args v W' := by
  have hW' := hW
  obtain ⟨p, q, hA0, hV, rfl, hfz, hnd⟩ := hW
  have hA : DataW.TrodAll enc Try.prog W 0 (fun _ => true) true Try.f3.params.toList args.toList ds p := hA0
  rw [Try.params3] at hA hval
  obtain ⟨v0, vs0, d0, ds0, p0, q0, hargs, rfl, rfl, h0, r0⟩ := trodAll_cons hA
  obtain ⟨v1, vs1, d1, ds1, p1, q1, rfl, rfl, rfl, h1, r1⟩ := trodAll_cons r0
  obtain ⟨v2, vs2, d2, ds2, p2, q2, rfl, rfl, rfl, h2, r2⟩ := trodAll_cons r1
  obtain ⟨rfl, rfl, rfl⟩ := trodAll_nil r2
  obtain rfl : args = #[v0, v1, v2] := by cases args; simp_all
  obtain ⟨rfl, rfl⟩ := trodVars_none hV
  obtain ⟨a0, rfl, rfl, rfl, w0⟩ := open_int Try.underlying3 (hval 0 3 v0 rfl rfl) h0
  obtain ⟨A1, c1, a1, rfl, s1, w1⟩ := arg_slice Try.underlying22 rd22 (hval 1 22 v1 rfl rfl) h1
  obtain ⟨a2, rfl, rfl, rfl, w2⟩ := open_int Try.underlying5 (hval 2 5 v2 rfl rfl) h2
  refine (law_calls (c_law09_CheckOdd a0 a1 a2 A1 c1 true (hp _ _ _ w0 w1 w2)) (W := W) (fun g hg => by simp at hg; subst hg; assumption) (fun ret M' F' h => h.1)).mono ?_
  rintro e W' ⟨rfl, γ', fr⟩
  exact ⟨_, rfl, law_post laidOut rowed slices small hW' rfl rfl (by kernel_rfl) Try.underlying4 fr fpM_nil⟩

set_option maxRecDepth 100000 in
theorem joined : joinedFacts Try.prog 3 Try.f3 Rows.checkOddSpec Rows.checkOddRow = true := by
  unfold joinedFacts
  simp only [Bool.and_eq_true]
  repeat' apply And.intro
  · kernel_rfl
  · kernel_rfl
  · kernel_rfl
  · kernel_rfl
  · kernel_rfl
  · kernel_rfl
  · kernel_rfl
  · kernel_rfl
  · kernel_rfl
  · kernel_rfl
  · kernel_rfl
  · kernel_rfl
  · kernel_rfl
  · kernel_rfl
  · kernel_rfl
  · kernel_rfl
  · kernel_rfl
  · kernel_rfl
  · kernel_rfl
  · kernel_rfl
  · kernel_rfl
  · kernel_rfl
  · kernel_rfl
  · kernel_rfl
  · kernel_rfl
  · exact heads.1
  · rw [heads.2.2]; rfl
  · rw [heads.2.1]; rfl
  · kernel_rfl
  · kernel_rfl
  · kernel_rfl
  · kernel_rfl
set_option maxRecDepth 100000 in
theorem lifted (hp : ∀ (p1 : Int) (p2 : List (Int × Int)) (p3 : Int), wfI .i64 p1 → (p2.length ≤ top ∧ ∀ y ∈ p2, wfI .u64 y.1 ∧ wfI .u64 y.2) → wfI .u8 p3 → law09_CheckOdd p1 p2 p3 = some true)
    (os : Os) (started : os.Started) (H : Type) (enc : TypeId × Value → H) :
    ReturnsInHanded {} Try.checked os 3 .any (Rows.checkOddSpec.pre6 enc Try.prog Try.f3 Rows.checkOddRow.domain false) (Rows.checkOddSpec.post enc Try.prog Try.f3 false true false false) := by
  refine returnsInHanded_of_change (C := Try.checked) own started (by kernel_rfl) Try.func3
    (ChangeSpec.witness6 (enc := enc) (C := Try.checked) false ⟨#[], #[.int .i64 0, .slice none 0 0, .int .u8 0], []⟩ 8 (by kernel_rfl) (by kernel_rfl) (by kernel_rfl) (by kernel_rfl)) ?_
  intro W base args ds gs before hval hW _ _
  exact walked hp H enc W base args ds gs before hval hW
theorem said (hp : ∀ (p1 : Int) (p2 : List (Int × Int)) (p3 : Int), wfI .i64 p1 → (p2.length ≤ top ∧ ∀ y ∈ p2, wfI .u64 y.1 ∧ wfI .u64 y.2) → wfI .u8 p3 → law09_CheckOdd p1 p2 p3 = some true) : Rows.CheckOddSaid :=
  OpenClaim.holds_of_wide 3 Try.f3 rfl rfl rfl rfl rfl rfl rfl ⟨rfl, rfl, rfl, rfl, rfl⟩ rfl rfl rfl rfl rfl (by kernel_rfl) Try.func3 joined
    (of_decide_eq_true (by kernel_rfl)) (by unfold Func.isWrapper; first | (rw [if_pos (by decide +kernel)]; kernel_rfl) | (rw [if_neg (by decide +kernel)]; exact ⟨rfl, rfl⟩))
    (fun os started H enc _ => lifted hp os started H enc)
end Go.Proofs.Ytbeknohemgjfbaa.S3
namespace Go.Proofs.Ytbeknohemgjfbaa
open Go.Proofs.Ytbeknohemgjfbaa.L Go.Proofs.Ytbeknohemgjfbaa.Pu
/-- CheckOdd -/
theorem checkOdd_said : Rows.CheckOddSaid := S3.said fun p1 p2 p3 w0 w1 w2 => law09_CheckOdd_true p1 p2 p3 (wf_i64 w0) ⟨w1.1, fun y hy => ⟨(wf_u64 (w1.2 y hy).1), (wf_u64 (w1.2 y hy).2)⟩⟩ (wf_u8 w2)
end Go.Proofs.Ytbeknohemgjfbaa

