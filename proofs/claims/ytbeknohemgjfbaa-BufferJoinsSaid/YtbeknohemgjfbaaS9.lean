/- The law BufferJoins: the call returns true for every input, and leaves its arguments as they read. Nothing is assumed of the input. -/
import Derived.Test.YtbeknohemgjfbaaRows
import Derived.Test.YtbeknohemgjfbaaS0
import Derived.Test.YtbeknohemgjfbaaR1
import Derived.Test.YtbeknohemgjfbaaW9c
import Derived.Test.YtbeknohemgjfbaaT12j
namespace Go.Proofs.Ytbeknohemgjfbaa.S9
open Go Go.ChangeShapes Go.WideShapes Go.ChangeAt Go.RowKit Go.Proofs.Ytbeknohemgjfbaa.L Go.Proofs.Ytbeknohemgjfbaa.Pu Go.Proofs.Ytbeknohemgjfbaa.W Go.Proofs.Ytbeknohemgjfbaa.S
set_option linter.unusedVariables false

theorem small : ∀ t ∈ Try.f9.params.toList, t < Try.prog.types.size := by
  have h : (Try.f9.params.toList.all fun t => decide (t < Try.prog.types.size)) = true := by kernel_rfl
  exact fun t ht => of_decide_eq_true (List.all_eq_true.1 h t ht)
theorem ce144 : Try.prog.cellsOf 144 = 3 := by kernel_rfl
theorem ce85 : Try.prog.cellsOf 85 = 3 := by kernel_rfl
theorem ce28 : Try.prog.cellsOf 28 = 1 := by kernel_rfl
set_option maxRecDepth 100000 in
theorem rd144 : Rd Try.prog 144 rp_u64_u64_u64 (fun x => wfI .u64 x.1 ∧ wfI .u64 x.2.1 ∧ wfI .u64 x.2.2) :=
  ⟨ce144, fun {H enc W base spare held n l x} h => by
    obtain ⟨xs1, k2, _, _, hl3, hxl4, hf5⟩ := DataW.trod_struct Try.underlying144 h
    rw [ce144] at hl3
    obtain ⟨v6, v7, v8, rfl⟩ : ∃ v6 v7 v8, l = [v6, v7, v8] := by match l, hl3 with | [v6, v7, v8], _ => exact ⟨_, _, _, rfl⟩
    have g10 := hf5 0 _ rfl
    obtain ⟨y9, rfl⟩ : ∃ y9, xs1 = [y9] := by match xs1, hxl4 with | [y9], _ => exact ⟨_, rfl⟩
    simp [ce85] at g10
    obtain ⟨xs11, k12, _, _, hl13, hxl14, hf15⟩ := DataW.trod_struct Try.underlying85 g10
    have g19 := hf15 0 _ rfl
    have g20 := hf15 1 _ rfl
    have g21 := hf15 2 _ rfl
    obtain ⟨y16, y17, y18, rfl⟩ : ∃ y16 y17 y18, xs11 = [y16, y17, y18] := by match xs11, hxl14 with | [y16, y17, y18], _ => exact ⟨_, _, _, rfl⟩
    simp [ce28] at g19 g20 g21
    obtain ⟨a22, ha23, _, w24⟩ := DataW.trod_int Try.underlying28 g19
    simp at ha23
    subst ha23
    obtain ⟨a25, ha26, _, w27⟩ := DataW.trod_int Try.underlying28 g20
    simp at ha26
    subst ha26
    obtain ⟨a28, ha29, _, w30⟩ := DataW.trod_int Try.underlying28 g21
    simp at ha29
    subst ha29
    exact ⟨(a22, a25, a28), rfl, w24, w27, w30⟩⟩
theorem rd76 : Rd Try.prog 76 (rSl rp_u64_u64_u64) (fun x => (x.length ≤ top ∧ ∀ y ∈ x, wfI .u64 y.1 ∧ wfI .u64 y.2.1 ∧ wfI .u64 y.2.2)) := rd_slice Try.underlying76 (by kernel_rfl) (by decide) rd144
theorem rd68 : Rd Try.prog 68 (rSl (rSl rp_u64_u64_u64)) (fun x => (x.length ≤ top ∧ ∀ y ∈ x, (y.length ≤ top ∧ ∀ y' ∈ y, wfI .u64 y'.1 ∧ wfI .u64 y'.2.1 ∧ wfI .u64 y'.2.2))) := rd_slice Try.underlying68 (by kernel_rfl) (by decide) rd76

set_option maxRecDepth 100000 in
theorem walked (hp : ∀ (p1 : Int) (p2 : List (List (Int × Int × Int))), wfI .u64 p1 → (p2.length ≤ top ∧ ∀ y ∈ p2, (y.length ≤ top ∧ ∀ y' ∈ y, wfI .u64 y'.1 ∧ wfI .u64 y'.2.1 ∧ wfI .u64 y'.2.2)) → law12_BufferJoins p1 p2 = some true)
    (H : Type) (enc : TypeId × Value → H) (W : World) (base : Nat) (args : Array Value) (ds gs : List (DataW H)) (before : List MemPlace)
    (hval : ∀ (j : Nat) t v, Try.f9.params[j]? = some t → args[j]? = some v → Value.okWide Try.prog W .any base t v)
    (hW : DataW.Whole enc Try.prog Try.f9.params.toList Rows.bufferJoinsSpec.vars false W args.toList ds gs before) :
    Calls Try.prog 9 args W fun e W' => ∃ v, e = .returned v ∧ Rows.bufferJoinsSpec.post enc Try.prog Try.f9 false true false false W args v W' := by
  have hW' := hW
  obtain ⟨p, q, hA0, hV, rfl, hfz, hnd⟩ := hW
  have hA : DataW.TrodAll enc Try.prog W 0 (fun _ => true) true Try.f9.params.toList args.toList ds p := hA0
  rw [Try.params9] at hA hval
  obtain ⟨v0, vs0, d0, ds0, p0, q0, hargs, rfl, rfl, h0, r0⟩ := trodAll_cons hA
  obtain ⟨v1, vs1, d1, ds1, p1, q1, rfl, rfl, rfl, h1, r1⟩ := trodAll_cons r0
  obtain ⟨rfl, rfl, rfl⟩ := trodAll_nil r1
  obtain rfl : args = #[v0, v1] := by cases args; simp_all
  obtain ⟨rfl, rfl⟩ := trodVars_none hV
  obtain ⟨a0, rfl, rfl, rfl, w0⟩ := open_int Try.underlying28 (hval 0 28 v0 rfl rfl) h0
  obtain ⟨A1, c1, a1, rfl, s1, w1⟩ := arg_slice Try.underlying68 rd68 (hval 1 68 v1 rfl rfl) h1
  refine (law_calls (c_law12_BufferJoins a0 a1 A1 c1 true (hp _ _ w0 w1)) (W := W) (fun g hg => by simp at hg; subst hg; assumption) (fun ret M' F' h => h.1)).mono ?_
  rintro e W' ⟨rfl, γ', fr⟩
  exact ⟨_, rfl, law_post laidOut rowed slices small hW' rfl rfl (by kernel_rfl) Try.underlying4 fr fpM_nil⟩

set_option maxRecDepth 100000 in
theorem joined : joinedFacts Try.prog 9 Try.f9 Rows.bufferJoinsSpec Rows.bufferJoinsRow = true := by
  unfold joinedFacts
  simp only [Bool.and_eq_true]
  repeat' apply And.intro
  · kernel_rfl
  · kernel_rfl
  · kernel_rfl
  · kernel_rfl
  · kernel_rfl
  · kernel_rfl
  · kernel_rfl
  · kernel_rfl
  · kernel_rfl
  · kernel_rfl
  · kernel_rfl
  · kernel_rfl
  · kernel_rfl
  · kernel_rfl
  · kernel_rfl
  · kernel_rfl
  · kernel_rfl
  · kernel_rfl
  · kernel_rfl
  · kernel_rfl
  · kernel_rfl
  · kernel_rfl
  · kernel_rfl
  · kernel_rfl
  · kernel_rfl
  · exact heads.1
  · rw [heads.2.2]; rfl
  · rw [heads.2.1]; rfl
  · kernel_rfl
  · kernel_rfl
  · kernel_rfl
  · kernel_rfl
set_option maxRecDepth 100000 in
theorem lifted (hp : ∀ (p1 : Int) (p2 : List (List (Int × Int × Int))), wfI .u64 p1 → (p2.length ≤ top ∧ ∀ y ∈ p2, (y.length ≤ top ∧ ∀ y' ∈ y, wfI .u64 y'.1 ∧ wfI .u64 y'.2.1 ∧ wfI .u64 y'.2.2)) → law12_BufferJoins p1 p2 = some true)
    (os : Os) (started : os.Started) (H : Type) (enc : TypeId × Value → H) :
    ReturnsInHanded {} Try.checked os 9 .any (Rows.bufferJoinsSpec.pre6 enc Try.prog Try.f9 Rows.bufferJoinsRow.domain false) (Rows.bufferJoinsSpec.post enc Try.prog Try.f9 false true false false) := by
  refine returnsInHanded_of_change (C := Try.checked) own started (by kernel_rfl) Try.func9
    (ChangeSpec.witness6 (enc := enc) (C := Try.checked) false ⟨#[], #[.int .u64 0, .slice none 0 0], []⟩ 8 (by kernel_rfl) (by kernel_rfl) (by kernel_rfl) (by kernel_rfl)) ?_
  intro W base args ds gs before hval hW _ _
  exact walked hp H enc W base args ds gs before hval hW
theorem said (hp : ∀ (p1 : Int) (p2 : List (List (Int × Int × Int))), wfI .u64 p1 → (p2.length ≤ top ∧ ∀ y ∈ p2, (y.length ≤ top ∧ ∀ y' ∈ y, wfI .u64 y'.1 ∧ wfI .u64 y'.2.1 ∧ wfI .u64 y'.2.2)) → law12_BufferJoins p1 p2 = some true) : Rows.BufferJoinsSaid :=
  OpenClaim.holds_of_wide 9 Try.f9 rfl rfl rfl rfl rfl rfl rfl ⟨rfl, rfl, rfl, rfl, rfl⟩ rfl rfl rfl rfl rfl (by kernel_rfl) Try.func9 joined
    (of_decide_eq_true (by kernel_rfl)) (by unfold Func.isWrapper; first | (rw [if_pos (by decide +kernel)]; kernel_rfl) | (rw [if_neg (by decide +kernel)]; exact ⟨rfl, rfl⟩))
    (fun os started H enc _ => lifted hp os started H enc)
end Go.Proofs.Ytbeknohemgjfbaa.S9
namespace Go.Proofs.Ytbeknohemgjfbaa
open Go.Proofs.Ytbeknohemgjfbaa.L Go.Proofs.Ytbeknohemgjfbaa.Pu
/-- BufferJoins -/
theorem bufferJoins_said : Rows.BufferJoinsSaid := S9.said fun p1 p2 w0 w1 => law12_BufferJoins_true p1 p2 (wf_u64 w0) ⟨w1.1, fun y hy => ⟨(w1.2 y hy).1, fun y' hy' => ⟨(wf_u64 ((w1.2 y hy).2 y' hy').1), (wf_u64 ((w1.2 y hy).2 y' hy').2.1), (wf_u64 ((w1.2 y hy).2 y' hy').2.2)⟩⟩⟩
end Go.Proofs.Ytbeknohemgjfbaa

