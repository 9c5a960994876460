/- The law CheckTells: the call returns true for every input, and leaves its arguments as they read. Nothing is assumed of the input. -/
import Derived.Test.YtbnjjpmlaknaoaaRows
import Derived.Test.YtbnjjpmlaknaoaaS0
import Derived.Test.YtbnjjpmlaknaoaaR1
import Derived.Test.YtbnjjpmlaknaoaaW17a
import Derived.Test.YtbnjjpmlaknaoaaU09
namespace Go.Proofs.Ytbnjjpmlaknaoaa.S17
open Go Go.ChangeShapes Go.WideShapes Go.ChangeAt Go.RowKit Go.Proofs.Ytbnjjpmlaknaoaa.L Go.Proofs.Ytbnjjpmlaknaoaa.Pu Go.Proofs.Ytbnjjpmlaknaoaa.W Go.Proofs.Ytbnjjpmlaknaoaa.S
set_option linter.unusedVariables false

theorem small : ∀ t ∈ Try.f17.params.toList, t < Try.prog.types.size := by
  have h : (Try.f17.params.toList.all fun t => decide (t < Try.prog.types.size)) = true := by kernel_rfl
  exact fun t ht => of_decide_eq_true (List.all_eq_true.1 h t ht)
theorem rd41 : Rd Try.prog 41 rp_u64_u64 (fun x => wfI .u64 x.1 ∧ wfI .u64 x.2) := rd_two Try.underlying41 (by kernel_rfl) rfl rfl (by kernel_rfl) (by kernel_rfl) Try.underlying23 Try.underlying23 rfl (fun _ _ _ => rfl)
theorem rd38 : Rd Try.prog 38 (rSl rp_u64_u64) (fun x => (x.length ≤ top ∧ ∀ y ∈ x, wfI .u64 y.1 ∧ wfI .u64 y.2)) := rd_slice Try.underlying38 (by kernel_rfl) (by decide) rd41
theorem rd26 : Rd Try.prog 26 (rSl (rSl rp_u64_u64)) (fun x => (x.length ≤ top ∧ ∀ y ∈ x, (y.length ≤ top ∧ ∀ y' ∈ y, wfI .u64 y'.1 ∧ wfI .u64 y'.2))) := rd_slice Try.underlying26 (by kernel_rfl) (by decide) rd38

set_option maxRecDepth 100000 in
theorem walked (hp : ∀ (p1 : Int × Int × List (List (Int × Int))) (p2 : Int × Int) (p3 : Int), (wfI .i64 p1.1 ∧ wfI .i64 p1.2.1 ∧ (p1.2.2.length ≤ top ∧ ∀ y ∈ p1.2.2, (y.length ≤ top ∧ ∀ y' ∈ y, wfI .u64 y'.1 ∧ wfI .u64 y'.2))) → (wfI .i64 p2.1 ∧ wfI .i64 p2.2) → wfI .u64 p3 → law09_CheckTells p1 p2 p3 = some true)
    (H : Type) (enc : TypeId × Value → H) (W : World) (base : Nat) (args : Array Value) (ds gs : List (DataW H)) (before : List MemPlace)
    (hval : ∀ (j : Nat) t v, Try.f17.params[j]? = some t → args[j]? = some v → Value.okWide Try.prog W .any base t v)
    (hW : DataW.Whole enc Try.prog Try.f17.params.toList Rows.checkTellsSpec.vars false W args.toList ds gs before) :
    Calls Try.prog 17 args W fun e W' => ∃ v, e = .returned v ∧ Rows.checkTellsSpec.post enc Try.prog Try.f17 false true false false W args v W' := by
  have hW' := hW
  obtain ⟨p, q, hA0, hV, rfl, hfz, hnd⟩ := hW
  have hA : DataW.TrodAll enc Try.prog W 0 (fun _ => true) true Try.f17.params.toList args.toList ds p := hA0
  rw [Try.params17] at hA hval
  obtain ⟨v0, vs0, d0, ds0, p0, q0, hargs, rfl, rfl, h0, r0⟩ := trodAll_cons hA
  obtain ⟨v1, vs1, d1, ds1, p1, q1, rfl, rfl, rfl, h1, r1⟩ := trodAll_cons r0
  obtain ⟨v2, vs2, d2, ds2, p2, q2, rfl, rfl, rfl, h2, r2⟩ := trodAll_cons r1
  obtain ⟨rfl, rfl, rfl⟩ := trodAll_nil r2
  obtain rfl : args = #[v0, v1, v2] := by cases args; simp_all
  obtain ⟨rfl, rfl⟩ := trodVars_none hV
  obtain ⟨a0, b0, A0, c0, x0, rfl, w0, z0, s0, y0⟩ := arg_iis Try.underlying67 (by kernel_rfl) rfl rfl rfl (by kernel_rfl) (by kernel_rfl) (by kernel_rfl) Try.underlying3 Try.underlying3 rd26 (hval 0 67 v0 rfl rfl) h0
  obtain ⟨l1, rfl, n1, w1⟩ := arg_ints Try.underlying68 Try.underlying3 (by kernel_rfl) (by kernel_rfl) (hval 1 68 v1 rfl rfl) h1
  match l1, n1 with
  | [x1_0, x1_1], _ =>
  obtain ⟨a2, rfl, rfl, rfl, w2⟩ := open_int Try.underlying23 (hval 2 23 v2 rfl rfl) h2
  refine (law_calls (c_law09_CheckTells (a0, b0, x0) (x1_0, x1_1) a2 A0 c0 true (hp _ _ _ ⟨w0, z0, y0⟩ ⟨w1 _ (by simp), w1 _ (by simp)⟩ w2)) (W := W) (fun g hg => by simp at hg; subst hg; assumption) (fun ret M' F' h => h.1)).mono ?_
  rintro e W' ⟨rfl, γ', fr⟩
  exact ⟨_, rfl, law_post laidOut rowed slices small hW' rfl rfl (by kernel_rfl) Try.underlying4 fr fpM_nil⟩

set_option maxRecDepth 100000 in
theorem joined : joinedFacts Try.prog 17 Try.f17 Rows.checkTellsSpec Rows.checkTellsRow = true := by
  unfold joinedFacts
  simp only [Bool.and_eq_true]
  repeat' apply And.intro
  · kernel_rfl
  · kernel_rfl
  · kernel_rfl
  · kernel_rfl
  · kernel_rfl
  · kernel_rfl
  · kernel_rfl
  · kernel_rfl
  · kernel_rfl
  · kernel_rfl
  · kernel_rfl
  · kernel_rfl
  · kernel_rfl
  · kernel_rfl
  · kernel_rfl
  · kernel_rfl
  · kernel_rfl
  · kernel_rfl
  · kernel_rfl
  · kernel_rfl
  · kernel_rfl
  · kernel_rfl
  · kernel_rfl
  · kernel_rfl
  · kernel_rfl
  · exact heads.1
  · rw [heads.2.2]; rfl
  · rw [heads.2.1]; rfl
  · kernel_rfl
  · kernel_rfl
  · kernel_rfl
  · kernel_rfl
set_option maxRecDepth 100000 in
theorem lifted (hp : ∀ (p1 : Int × Int × List (List (Int × Int))) (p2 : Int × Int) (p3 : Int), (wfI .i64 p1.1 ∧ wfI .i64 p1.2.1 ∧ (p1.2.2.length ≤ top ∧ ∀ y ∈ p1.2.2, (y.length ≤ top ∧ ∀ y' ∈ y, wfI .u64 y'.1 ∧ wfI .u64 y'.2))) → (wfI .i64 p2.1 ∧ wfI .i64 p2.2) → wfI .u64 p3 → law09_CheckTells p1 p2 p3 = some true)
    (os : Os) (started : os.Started) (H : Type) (enc : TypeId × Value → H) :
    ReturnsInHanded {} Try.checked os 17 .any (Rows.checkTellsSpec.pre6 enc Try.prog Try.f17 Rows.checkTellsRow.domain false) (Rows.checkTellsSpec.post enc Try.prog Try.f17 false true false false) := by
  refine returnsInHanded_of_change (C := Try.checked) own started (by kernel_rfl) Try.func17
    (ChangeSpec.witness6 (enc := enc) (C := Try.checked) false ⟨#[], #[.agg #[.int .i64 0, .int .i64 0, .slice none 0 0], .agg #[.int .i64 0, .int .i64 0], .int .u64 0], []⟩ 8 (by kernel_rfl) (by kernel_rfl) (by kernel_rfl) (by kernel_rfl)) ?_
  intro W base args ds gs before hval hW _ _
  exact walked hp H enc W base args ds gs before hval hW
theorem said (hp : ∀ (p1 : Int × Int × List (List (Int × Int))) (p2 : Int × Int) (p3 : Int), (wfI .i64 p1.1 ∧ wfI .i64 p1.2.1 ∧ (p1.2.2.length ≤ top ∧ ∀ y ∈ p1.2.2, (y.length ≤ top ∧ ∀ y' ∈ y, wfI .u64 y'.1 ∧ wfI .u64 y'.2))) → (wfI .i64 p2.1 ∧ wfI .i64 p2.2) → wfI .u64 p3 → law09_CheckTells p1 p2 p3 = some true) : Rows.CheckTellsSaid :=
  OpenClaim.holds_of_wide 17 Try.f17 rfl rfl rfl rfl rfl rfl rfl ⟨rfl, rfl, rfl, rfl, rfl⟩ rfl rfl rfl rfl rfl (by kernel_rfl) Try.func17 joined
    (of_decide_eq_true (by kernel_rfl)) (by unfold Func.isWrapper; first | (rw [if_pos (by decide +kernel)]; kernel_rfl) | (rw [if_neg (by decide +kernel)]; exact ⟨rfl, rfl⟩))
    (fun os started H enc _ => lifted hp os started H enc)
end Go.Proofs.Ytbnjjpmlaknaoaa.S17
namespace Go.Proofs.Ytbnjjpmlaknaoaa
open Go.Proofs.Ytbnjjpmlaknaoaa.L Go.Proofs.Ytbnjjpmlaknaoaa.Pu
/-- CheckTells -/
theorem checkTells_said : Rows.CheckTellsSaid := S17.said fun p1 p2 p3 w0 w1 w2 => law09_CheckTells_true p1 p2 p3 ⟨wf_i64 w0.1, wf_i64 w0.2.1, ⟨w0.2.2.1, fun y hy => ⟨(w0.2.2.2 y hy).1, fun y' hy' => ⟨wf_u64 ((w0.2.2.2 y hy).2 y' hy').1, wf_u64 ((w0.2.2.2 y hy).2 y' hy').2⟩⟩⟩⟩ ⟨wf_i64 w1.1, wf_i64 w1.2⟩ (wf_u64 w2)
end Go.Proofs.Ytbnjjpmlaknaoaa

