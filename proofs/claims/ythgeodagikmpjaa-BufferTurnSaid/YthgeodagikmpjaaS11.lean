/- The law BufferTurn: the call returns true for every input, and leaves its arguments as they read. Nothing is assumed of the input. -/
import Derived.Test.YthgeodagikmpjaaRows
import Derived.Test.YthgeodagikmpjaaS0
import Derived.Test.YthgeodagikmpjaaR1
import Derived.Test.YthgeodagikmpjaaW11b
import Derived.Test.YthgeodagikmpjaaT12d
namespace Go.Proofs.Ythgeodagikmpjaa.S11
open Go Go.ChangeShapes Go.WideShapes Go.ChangeAt Go.RowKit Go.Proofs.Ythgeodagikmpjaa.L Go.Proofs.Ythgeodagikmpjaa.Pu Go.Proofs.Ythgeodagikmpjaa.W Go.Proofs.Ythgeodagikmpjaa.S
set_option linter.unusedVariables false

theorem small : ∀ t ∈ Try.f11.params.toList, t < Try.prog.types.size := by
  have h : (Try.f11.params.toList.all fun t => decide (t < Try.prog.types.size)) = true := by kernel_rfl
  exact fun t ht => of_decide_eq_true (List.all_eq_true.1 h t ht)
theorem rd53 : Rd Try.prog 53 (rInt .u16) (wfI .u16) := rd_int Try.underlying53 (by kernel_rfl)
theorem rd45 : Rd Try.prog 45 (rSl (rInt .u16)) (fun x => (x.length ≤ top ∧ ∀ y ∈ x, wfI .u16 y)) := rd_slice Try.underlying45 (by kernel_rfl) (by decide) rd53

set_option maxRecDepth 100000 in
theorem walked (hp : ∀ (p1 : Int) (p2 : Int) (p3 : List Int), wfI .u64 p1 → wfI .i64 p2 → (p3.length ≤ top ∧ ∀ y ∈ p3, wfI .u16 y) → law12_BufferTurn p1 p2 p3 = some true)
    (H : Type) (enc : TypeId × Value → H) (W : World) (base : Nat) (args : Array Value) (ds gs : List (DataW H)) (before : List MemPlace)
    (hval : ∀ (j : Nat) t v, Try.f11.params[j]? = some t → args[j]? = some v → Value.okWide Try.prog W .any base t v)
    (hW : DataW.Whole enc Try.prog Try.f11.params.toList Rows.bufferTurnSpec.vars false W args.toList ds gs before) :
    Calls Try.prog 11 args W fun e W' => ∃ v, e = .returned v ∧ Rows.bufferTurnSpec.post enc Try.prog Try.f11 false true false false W args v W' := by
  have hW' := hW
  obtain ⟨p, q, hA0, hV, rfl, hfz, hnd⟩ := hW
  have hA : DataW.TrodAll enc Try.prog W 0 (fun _ => true) true Try.f11.params.toList args.toList ds p := hA0
  rw [Try.params11] at hA hval
  obtain ⟨v0, vs0, d0, ds0, p0, q0, hargs, rfl, rfl, h0, r0⟩ := trodAll_cons hA
  obtain ⟨v1, vs1, d1, ds1, p1, q1, rfl, rfl, rfl, h1, r1⟩ := trodAll_cons r0
  obtain ⟨v2, vs2, d2, ds2, p2, q2, rfl, rfl, rfl, h2, r2⟩ := trodAll_cons r1
  obtain ⟨rfl, rfl, rfl⟩ := trodAll_nil r2
  obtain rfl : args = #[v0, v1, v2] := by cases args; simp_all
  obtain ⟨rfl, rfl⟩ := trodVars_none hV
  obtain ⟨a0, rfl, rfl, rfl, w0⟩ := open_int Try.underlying22 (hval 0 22 v0 rfl rfl) h0
  obtain ⟨a1, rfl, rfl, rfl, w1⟩ := open_int Try.underlying3 (hval 1 3 v1 rfl rfl) h1
  obtain ⟨A2, c2, a2, rfl, s2, w2⟩ := arg_slice Try.underlying45 rd45 (hval 2 45 v2 rfl rfl) h2
  refine (law_calls (c_law12_BufferTurn a0 a1 a2 A2 c2 true (hp _ _ _ w0 w1 w2)) (W := W) (fun g hg => by simp at hg; subst hg; assumption) (fun ret M' F' h => h.1)).mono ?_
  rintro e W' ⟨rfl, γ', fr⟩
  exact ⟨_, rfl, law_post laidOut rowed slices small hW' rfl rfl (by kernel_rfl) Try.underlying4 fr fpM_nil⟩

set_option maxRecDepth 100000 in
theorem joined : joinedFacts Try.prog 11 Try.f11 Rows.bufferTurnSpec Rows.bufferTurnRow = true := by
  unfold joinedFacts
  simp only [Bool.and_eq_true]
  repeat' apply And.intro
  · kernel_rfl
  · kernel_rfl
  · kernel_rfl
  · kernel_rfl
  · kernel_rfl
  · kernel_rfl
  · kernel_rfl
  · kernel_rfl
  · kernel_rfl
  · kernel_rfl
  · kernel_rfl
  · kernel_rfl
  · kernel_rfl
  · kernel_rfl
  · kernel_rfl
  · kernel_rfl
  · kernel_rfl
  · kernel_rfl
  · kernel_rfl
  · kernel_rfl
  · kernel_rfl
  · kernel_rfl
  · kernel_rfl
  · kernel_rfl
  · kernel_rfl
  · exact heads.1
  · rw [heads.2.2]; rfl
  · rw [heads.2.1]; rfl
  · kernel_rfl
  · kernel_rfl
  · kernel_rfl
  · kernel_rfl
set_option maxRecDepth 100000 in
theorem lifted (hp : ∀ (p1 : Int) (p2 : Int) (p3 : List Int), wfI .u64 p1 → wfI .i64 p2 → (p3.length ≤ top ∧ ∀ y ∈ p3, wfI .u16 y) → law12_BufferTurn p1 p2 p3 = some true)
    (os : Os) (started : os.Started) (H : Type) (enc : TypeId × Value → H) :
    ReturnsInHanded {} Try.checked os 11 .any (Rows.bufferTurnSpec.pre6 enc Try.prog Try.f11 Rows.bufferTurnRow.domain false) (Rows.bufferTurnSpec.post enc Try.prog Try.f11 false true false false) := by
  refine returnsInHanded_of_change (C := Try.checked) own started (by kernel_rfl) Try.func11
    (ChangeSpec.witness6 (enc := enc) (C := Try.checked) false ⟨#[], #[.int .u64 0, .int .i64 0, .slice none 0 0], []⟩ 8 (by kernel_rfl) (by kernel_rfl) (by kernel_rfl) (by kernel_rfl)) ?_
  intro W base args ds gs before hval hW _ _
  exact walked hp H enc W base args ds gs before hval hW
theorem said (hp : ∀ (p1 : Int) (p2 : Int) (p3 : List Int), wfI .u64 p1 → wfI .i64 p2 → (p3.length ≤ top ∧ ∀ y ∈ p3, wfI .u16 y) → law12_BufferTurn p1 p2 p3 = some true) : Rows.BufferTurnSaid :=
  OpenClaim.holds_of_wide 11 Try.f11 rfl rfl rfl rfl rfl rfl rfl ⟨rfl, rfl, rfl, rfl, rfl⟩ rfl rfl rfl rfl rfl (by kernel_rfl) Try.func11 joined
    (of_decide_eq_true (by kernel_rfl)) (by unfold Func.isWrapper; first | (rw [if_pos (by decide +kernel)]; kernel_rfl) | (rw [if_neg (by decide +kernel)]; exact ⟨rfl, rfl⟩))
    (fun os started H enc _ => lifted hp os started H enc)
end Go.Proofs.Ythgeodagikmpjaa.S11
namespace Go.Proofs.Ythgeodagikmpjaa
open Go.Proofs.Ythgeodagikmpjaa.L Go.Proofs.Ythgeodagikmpjaa.Pu
/-- BufferTurn -/
theorem bufferTurn_said : Rows.BufferTurnSaid := S11.said fun p1 p2 p3 w0 w1 w2 => law12_BufferTurn_true p1 p2 p3 (wf_u64 w0) (wf_i64 w1) ⟨w2.1, fun y hy => (wf_u16 (w2.2 y hy))⟩
end Go.Proofs.Ythgeodagikmpjaa

