import Derived.Test.YtbeknohemgjfbaaRows
import Derived.Test.YtbeknohemgjfbaaS0v
import Derived.Test.YtbeknohemgjfbaaR1v
import Derived.Test.YtbeknohemgjfbaaW14cv
import Derived.Test.YtbeknohemgjfbaaT21v
namespace Go.Proofs.Ytbeknohemgjfbaa.S14
open Go Go.ChangeShapes Go.WideShapes Go.ChangeAt Go.RowKit Go.Proofs.Ytbeknohemgjfbaa.L Go.Proofs.Ytbeknohemgjfbaa.Pu Go.Proofs.Ytbeknohemgjfbaa.W Go.Proofs.Ytbeknohemgjfbaa.S
set_option linter.unusedVariables false

theorem small : ∀ t ∈ Try.f14.params.toList, t < Try.prog.types.size := by
  have h : (Try.f14.params.toList.all fun t => decide (t < Try.prog.types.size)) = true := by kernel_rfl
  exact fun t ht => of_decide_eq_true (List.all_eq_true.1 h t ht)
theorem ce91 : Try.prog.cellsOf 91 = 9 := by kernel_rfl
theorem ce3 : Try.prog.cellsOf 3 = 1 := by kernel_rfl
theorem ce28 : Try.prog.cellsOf 28 = 1 := by kernel_rfl
theorem ce89 : Try.prog.cellsOf 89 = 1 := by kernel_rfl
theorem rd184 : Rd Try.prog 184 rp_u64_u64 (fun x => wfI .u64 x.1 ∧ wfI .u64 x.2) := rd_two Try.underlying184 (by kernel_rfl) rfl rfl (by kernel_rfl) (by kernel_rfl) Try.underlying28 Try.underlying28 rfl (fun _ _ _ => rfl)
theorem rd89 : Rd Try.prog 89 (rSl rp_u64_u64) (fun x => (x.length ≤ top ∧ ∀ y ∈ x, wfI .u64 y.1 ∧ wfI .u64 y.2)) := rd_slice Try.underlying89 (by kernel_rfl) (by decide) rd184
set_option maxRecDepth 100000 in
theorem arg91 {H : Type} {enc : TypeId × Value → H} {W : World} {base : Nat} {sp : Nat → Bool} {held : Bool} {r : Reach} {b0 : Nat} {v : Value} {d : DataW H} {p : List MemPlace} (hval : Value.okWide Try.prog W r b0 91 v) (h : DataW.Trod enc Try.prog W base sp held 91 v d p) :
    ∃ (a33 : Int) (a36 : Int) (a39 : Int) (a42 : Int) (a45 : Int) (a48 : Int) (z51 : List (Int × Int)) (B52 : Option Addr) (c53 : Nat) (a57 : Int) (a60 : Int), v = .agg #[.int .i64 a33, .int .i64 a36, .int .u64 a39, .int .u64 a42, .int .i64 a45, .int .i64 a48, .slice B52 z51.length c53, .int .i64 a57, .int .i64 a60] ∧ wfI .i64 a33 ∧ wfI .i64 a36 ∧ wfI .u64 a39 ∧ wfI .u64 a42 ∧ wfI .i64 a45 ∧ wfI .i64 a48 ∧ (SlP rp_u64_u64 (gam W) W B52 c53 z51 ∧ (z51.length ≤ top ∧ ∀ y ∈ z51, wfI .u64 y.1 ∧ wfI .u64 y.2)) ∧ wfI .i64 a57 ∧ wfI .i64 a60 := by
  obtain ⟨cs, rfl⟩ := okW_struct Try.underlying91 hval
  clear hval
  obtain ⟨fuel, h⟩ := h
  obtain ⟨l⟩ := cs
  simp only [Value.cells] at h
  obtain ⟨xs1, k2, _, _, hl3, hxl4, hf5⟩ := DataW.trod_struct Try.underlying91 h
  rw [ce91] at hl3
  obtain ⟨v6, v7, v8, v9, v10, v11, v12, v13, v14, rfl⟩ : ∃ v6 v7 v8 v9 v10 v11 v12 v13 v14, l = [v6, v7, v8, v9, v10, v11, v12, v13, v14] := by match l, hl3 with | [v6, v7, v8, v9, v10, v11, v12, v13, v14], _ => exact ⟨_, _, _, _, _, _, _, _, _, rfl⟩
  have g24 := hf5 0 _ rfl
  have g25 := hf5 1 _ rfl
  have g26 := hf5 2 _ rfl
  have g27 := hf5 3 _ rfl
  have g28 := hf5 4 _ rfl
  have g29 := hf5 5 _ rfl
  have g30 := hf5 6 _ rfl
  have g31 := hf5 7 _ rfl
  have g32 := hf5 8 _ rfl
  obtain ⟨y15, y16, y17, y18, y19, y20, y21, y22, y23, rfl⟩ : ∃ y15 y16 y17 y18 y19 y20 y21 y22 y23, xs1 = [y15, y16, y17, y18, y19, y20, y21, y22, y23] := by match xs1, hxl4 with | [y15, y16, y17, y18, y19, y20, y21, y22, y23], _ => exact ⟨_, _, _, _, _, _, _, _, _, rfl⟩
  simp [ce28, ce3, ce89] at g24 g25 g26 g27 g28 g29 g30 g31 g32
  obtain ⟨a33, ha34, _, w35⟩ := DataW.trod_int Try.underlying3 g24
  simp at ha34
  subst ha34
  obtain ⟨a36, ha37, _, w38⟩ := DataW.trod_int Try.underlying3 g25
  simp at ha37
  subst ha37
  obtain ⟨a39, ha40, _, w41⟩ := DataW.trod_int Try.underlying28 g26
  simp at ha40
  subst ha40
  obtain ⟨a42, ha43, _, w44⟩ := DataW.trod_int Try.underlying28 g27
  simp at ha43
  subst ha43
  obtain ⟨a45, ha46, _, w47⟩ := DataW.trod_int Try.underlying3 g28
  simp at ha46
  subst ha46
  obtain ⟨a48, ha49, _, w50⟩ := DataW.trod_int Try.underlying3 g29
  simp at ha49
  subst ha49
  obtain ⟨z51, ⟨B52, c53, e54, e55⟩, e56⟩ := rd89.go g30
  simp at e54
  subst e54
  obtain ⟨a57, ha58, _, w59⟩ := DataW.trod_int Try.underlying3 g31
  simp at ha58
  subst ha58
  obtain ⟨a60, ha61, _, w62⟩ := DataW.trod_int Try.underlying3 g32
  simp at ha61
  subst ha61
  exact ⟨a33, a36, a39, a42, a45, a48, z51, B52, c53, a57, a60, rfl, w35, w38, w41, w44, w47, w50, ⟨e55, e56⟩, w59, w62⟩

set_option maxRecDepth 100000 in
theorem walked (hp : ∀ (p1 : Int × Int × Int × Int × Int × Int × (List (Int × Int)) × Int × Int) (p2 : Int × Int × Int × Int × Int × Int × (List (Int × Int)) × Int × Int), (wfI .i64 p1.1 ∧ wfI .i64 p1.2.1 ∧ wfI .u64 p1.2.2.1 ∧ wfI .u64 p1.2.2.2.1 ∧ wfI .i64 p1.2.2.2.2.1 ∧ wfI .i64 p1.2.2.2.2.2.1 ∧ (p1.2.2.2.2.2.2.1.length ≤ top ∧ ∀ y ∈ p1.2.2.2.2.2.2.1, wfI .u64 y.1 ∧ wfI .u64 y.2) ∧ wfI .i64 p1.2.2.2.2.2.2.2.1 ∧ wfI .i64 p1.2.2.2.2.2.2.2.2) → (wfI .i64 p2.1 ∧ wfI .i64 p2.2.1 ∧ wfI .u64 p2.2.2.1 ∧ wfI .u64 p2.2.2.2.1 ∧ wfI .i64 p2.2.2.2.2.1 ∧ wfI .i64 p2.2.2.2.2.2.1 ∧ (p2.2.2.2.2.2.2.1.length ≤ top ∧ ∀ y ∈ p2.2.2.2.2.2.2.1, wfI .u64 y.1 ∧ wfI .u64 y.2) ∧ wfI .i64 p2.2.2.2.2.2.2.2.1 ∧ wfI .i64 p2.2.2.2.2.2.2.2.2) → law21_ConfSame p1 p2 = some true)
    (H : Type) (enc : TypeId × Value → H) (W : World) (base : Nat) (args : Array Value) (ds gs : List (DataW H)) (before : List MemPlace)
    (hval : ∀ (j : Nat) t v, Try.f14.params[j]? = some t → args[j]? = some v → Value.okWide Try.prog W .any base t v)
    (hW : DataW.Whole enc Try.prog Try.f14.params.toList Rows.confSameSpec.vars false W args.toList ds gs before) :
    Calls Try.prog 14 args W fun e W' => ∃ v, e = .returned v ∧ Rows.confSameSpec.post enc Try.prog Try.f14 false true false false W args v W' := by
  have hW' := hW
  obtain ⟨p, q, hA0, hV, rfl, hfz, hnd⟩ := hW
  have hA : DataW.TrodAll enc Try.prog W 0 (fun _ => true) true Try.f14.params.toList args.toList ds p := hA0
  rw [Try.params14] at hA hval
  obtain ⟨v0, vs0, d0, ds0, p0, q0, hargs, rfl, rfl, h0, r0⟩ := trodAll_cons hA
  obtain ⟨v1, vs1, d1, ds1, p1, q1, rfl, rfl, rfl, h1, r1⟩ := trodAll_cons r0
  obtain ⟨rfl, rfl, rfl⟩ := trodAll_nil r1
  obtain rfl : args = #[v0, v1] := by cases args; simp_all
  obtain ⟨rfl, rfl⟩ := trodVars_none hV
  obtain ⟨x0_0, x0_1, x0_2, x0_3, x0_4, x0_5, x0_6, A0_6, c0_6, x0_7, x0_8, rfl, w0_0, w0_1, w0_2, w0_3, w0_4, w0_5, ⟨s0_6, w0_6⟩, w0_7, w0_8⟩ := arg91 (hval 0 91 v0 rfl rfl) h0
  obtain ⟨x1_0, x1_1, x1_2, x1_3, x1_4, x1_5, x1_6, A1_6, c1_6, x1_7, x1_8, rfl, w1_0, w1_1, w1_2, w1_3, w1_4, w1_5, ⟨s1_6, w1_6⟩, w1_7, w1_8⟩ := arg91 (hval 1 91 v1 rfl rfl) h1
  refine (law_calls (c_law21_ConfSame (x0_0, x0_1, x0_2, x0_3, x0_4, x0_5, x0_6, x0_7, x0_8) (x1_0, x1_1, x1_2, x1_3, x1_4, x1_5, x1_6, x1_7, x1_8) A0_6 c0_6 A1_6 c1_6 true (hp _ _ ⟨w0_0, w0_1, w0_2, w0_3, w0_4, w0_5, w0_6, w0_7, w0_8⟩ ⟨w1_0, w1_1, w1_2, w1_3, w1_4, w1_5, w1_6, w1_7, w1_8⟩)) (W := W) (fun g hg => by simp only [List.mem_cons, List.not_mem_nil, or_false] at hg; rcases hg with rfl | rfl <;> assumption) (fun ret M' F' h => h.1)).mono ?_
  rintro e W' ⟨rfl, γ', fr⟩
  exact ⟨_, rfl, law_post laidOut rowed slices small hW' rfl rfl (by kernel_rfl) Try.underlying4 fr fpM_nil⟩

set_option maxRecDepth 100000 in
theorem joined : joinedFacts Try.prog 14 Try.f14 Rows.confSameSpec Rows.confSameRow = true := by
  unfold joinedFacts
  simp only [Bool.and_eq_true]
  repeat' apply And.intro
  · kernel_rfl
  · kernel_rfl
  · kernel_rfl
  · kernel_rfl
  · kernel_rfl
  · kernel_rfl
  · kernel_rfl
  · kernel_rfl
  · kernel_rfl
  · kernel_rfl
  · kernel_rfl
  · kernel_rfl
  · kernel_rfl
  · kernel_rfl
  · kernel_rfl
  · kernel_rfl
  · kernel_rfl
  · kernel_rfl
  · kernel_rfl
  · kernel_rfl
  · kernel_rfl
  · kernel_rfl
  · kernel_rfl
  · kernel_rfl
  · kernel_rfl
  · exact heads.1
  · rw [heads.2.2]; rfl
  · rw [heads.2.1]; rfl
  · kernel_rfl
  · kernel_rfl
  · kernel_rfl
  · kernel_rfl
set_option maxRecDepth 100000 in
theorem lifted (hp : ∀ (p1 : Int × Int × Int × Int × Int × Int × (List (Int × Int)) × Int × Int) (p2 : Int × Int × Int × Int × Int × Int × (List (Int × Int)) × Int × Int), (wfI .i64 p1.1 ∧ wfI .i64 p1.2.1 ∧ wfI .u64 p1.2.2.1 ∧ wfI .u64 p1.2.2.2.1 ∧ wfI .i64 p1.2.2.2.2.1 ∧ wfI .i64 p1.2.2.2.2.2.1 ∧ (p1.2.2.2.2.2.2.1.length ≤ top ∧ ∀ y ∈ p1.2.2.2.2.2.2.1, wfI .u64 y.1 ∧ wfI .u64 y.2) ∧ wfI .i64 p1.2.2.2.2.2.2.2.1 ∧ wfI .i64 p1.2.2.2.2.2.2.2.2) → (wfI .i64 p2.1 ∧ wfI .i64 p2.2.1 ∧ wfI .u64 p2.2.2.1 ∧ wfI .u64 p2.2.2.2.1 ∧ wfI .i64 p2.2.2.2.2.1 ∧ wfI .i64 p2.2.2.2.2.2.1 ∧ (p2.2.2.2.2.2.2.1.length ≤ top ∧ ∀ y ∈ p2.2.2.2.2.2.2.1, wfI .u64 y.1 ∧ wfI .u64 y.2) ∧ wfI .i64 p2.2.2.2.2.2.2.2.1 ∧ wfI .i64 p2.2.2.2.2.2.2.2.2) → law21_ConfSame p1 p2 = some true)
    (os : Os) (started : os.Started) (H : Type) (enc : TypeId × Value → H) :
    ReturnsInHanded {} Try.checked os 14 .any (Rows.confSameSpec.pre6 enc Try.prog Try.f14 Rows.confSameRow.domain false) (Rows.confSameSpec.post enc Try.prog Try.f14 false true false false) := by
  refine returnsInHanded_of_change (C := Try.checked) own started (by kernel_rfl) Try.func14
    (ChangeSpec.witness6 (enc := enc) (C := Try.checked) false ⟨#[], #[.agg #[.int .i64 0, .int .i64 0, .int .u64 0, .int .u64 0, .int .i64 0, .int .i64 0, .slice none 0 0, .int .i64 0, .int .i64 0], .agg #[.int .i64 0, .int .i64 0, .int .u64 0, .int .u64 0, .int .i64 0, .int .i64 0, .slice none 0 0, .int .i64 0, .int .i64 0]], []⟩ 8 (by kernel_rfl) (by kernel_rfl) (by kernel_rfl) (by kernel_rfl)) ?_
  intro W base args ds gs before hval hW _ _
  exact walked hp H enc W base args ds gs before hval hW
theorem said (hp : ∀ (p1 : Int × Int × Int × Int × Int × Int × (List (Int × Int)) × Int × Int) (p2 : Int × Int × Int × Int × Int × Int × (List (Int × Int)) × Int × Int), (wfI .i64 p1.1 ∧ wfI .i64 p1.2.1 ∧ wfI .u64 p1.2.2.1 ∧ wfI .u64 p1.2.2.2.1 ∧ wfI .i64 p1.2.2.2.2.1 ∧ wfI .i64 p1.2.2.2.2.2.1 ∧ (p1.2.2.2.2.2.2.1.length ≤ top ∧ ∀ y ∈ p1.2.2.2.2.2.2.1, wfI .u64 y.1 ∧ wfI .u64 y.2) ∧ wfI .i64 p1.2.2.2.2.2.2.2.1 ∧ wfI .i64 p1.2.2.2.2.2.2.2.2) → (wfI .i64 p2.1 ∧ wfI .i64 p2.2.1 ∧ wfI .u64 p2.2.2.1 ∧ wfI .u64 p2.2.2.2.1 ∧ wfI .i64 p2.2.2.2.2.1 ∧ wfI .i64 p2.2.2.2.2.2.1 ∧ (p2.2.2.2.2.2.2.1.length ≤ top ∧ ∀ y ∈ p2.2.2.2.2.2.2.1, wfI .u64 y.1 ∧ wfI .u64 y.2) ∧ wfI .i64 p2.2.2.2.2.2.2.2.1 ∧ wfI .i64 p2.2.2.2.2.2.2.2.2) → law21_ConfSame p1 p2 = some true) : Rows.ConfSameSaid :=
  OpenClaim.holds_of_wide 14 Try.f14 rfl rfl rfl rfl rfl rfl rfl ⟨rfl, rfl, rfl, rfl, rfl⟩ rfl rfl rfl rfl rfl (by kernel_rfl) Try.func14 joined
    (of_decide_eq_true (by kernel_rfl)) (by unfold Func.isWrapper; first | (rw [if_pos (by decide +kernel)]; kernel_rfl) | (rw [if_neg (by decide +kernel)]; exact ⟨rfl, rfl⟩))
    (fun os started H enc _ => lifted hp os started H enc)
end Go.Proofs.Ytbeknohemgjfbaa.S14
namespace Go.Proofs.Ytbeknohemgjfbaa
open Go.Proofs.Ytbeknohemgjfbaa.L Go.Proofs.Ytbeknohemgjfbaa.Pu
theorem confSame_said : Rows.ConfSameSaid := S14.said fun p1 p2 w0 w1 => law21_ConfSame_true p1 p2 ⟨(wf_i64 w0.1), (wf_i64 w0.2.1), (wf_u64 w0.2.2.1), (wf_u64 w0.2.2.2.1), (wf_i64 w0.2.2.2.2.1), (wf_i64 w0.2.2.2.2.2.1), ⟨w0.2.2.2.2.2.2.1.1, fun y hy => ⟨(wf_u64 (w0.2.2.2.2.2.2.1.2 y hy).1), (wf_u64 (w0.2.2.2.2.2.2.1.2 y hy).2)⟩⟩, (wf_i64 w0.2.2.2.2.2.2.2.1), (wf_i64 w0.2.2.2.2.2.2.2.2)⟩ ⟨(wf_i64 w1.1), (wf_i64 w1.2.1), (wf_u64 w1.2.2.1), (wf_u64 w1.2.2.2.1), (wf_i64 w1.2.2.2.2.1), (wf_i64 w1.2.2.2.2.2.1), ⟨w1.2.2.2.2.2.2.1.1, fun y hy => ⟨(wf_u64 (w1.2.2.2.2.2.2.1.2 y hy).1), (wf_u64 (w1.2.2.2.2.2.2.1.2 y hy).2)⟩⟩, (wf_i64 w1.2.2.2.2.2.2.2.1), (wf_i64 w1.2.2.2.2.2.2.2.2)⟩
end Go.Proofs.Ytbeknohemgjfbaa
