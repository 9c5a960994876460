/- The law RecordBack: the call returns true for every input, and leaves its arguments as they read. Nothing is assumed of the input. -/
import Derived.Test.YtbeknohemgjfbaaRows
import Derived.Test.YtbeknohemgjfbaaS0
import Derived.Test.YtbeknohemgjfbaaR1
import Derived.Test.YtbeknohemgjfbaaW6c
import Derived.Test.YtbeknohemgjfbaaT11b
namespace Go.Proofs.Ytbeknohemgjfbaa.S6
open Go Go.ChangeShapes Go.WideShapes Go.ChangeAt Go.RowKit Go.Proofs.Ytbeknohemgjfbaa.L Go.Proofs.Ytbeknohemgjfbaa.Pu Go.Proofs.Ytbeknohemgjfbaa.W Go.Proofs.Ytbeknohemgjfbaa.S
set_option linter.unusedVariables false

theorem small : ∀ t ∈ Try.f6.params.toList, t < Try.prog.types.size := by
  have h : (Try.f6.params.toList.all fun t => decide (t < Try.prog.types.size)) = true := by kernel_rfl
  exact fun t ht => of_decide_eq_true (List.all_eq_true.1 h t ht)
theorem ce60 : Try.prog.cellsOf 60 = 6 := by kernel_rfl
theorem ce3 : Try.prog.cellsOf 3 = 1 := by kernel_rfl
theorem ce58 : Try.prog.cellsOf 58 = 4 := by kernel_rfl
theorem ce5 : Try.prog.cellsOf 5 = 1 := by kernel_rfl
theorem ce22 : Try.prog.cellsOf 22 = 1 := by kernel_rfl
theorem rd103 : Rd Try.prog 103 rp_u64_u64 (fun x => wfI .u64 x.1 ∧ wfI .u64 x.2) := rd_two Try.underlying103 (by kernel_rfl) rfl rfl (by kernel_rfl) (by kernel_rfl) Try.underlying28 Try.underlying28 rfl (fun _ _ _ => rfl)
theorem rd22 : Rd Try.prog 22 (rSl rp_u64_u64) (fun x => (x.length ≤ top ∧ ∀ y ∈ x, wfI .u64 y.1 ∧ wfI .u64 y.2)) := rd_slice Try.underlying22 (by kernel_rfl) (by decide) rd103
set_option maxRecDepth 100000 in
theorem arg60 {H : Type} {enc : TypeId × Value → H} {W : World} {base : Nat} {sp : Nat → Bool} {held : Bool} {r : Reach} {b0 : Nat} {v : Value} {d : DataW H} {p : List MemPlace} (hval : Value.okWide Try.prog W r b0 60 v) (h : DataW.Trod enc Try.prog W base sp held 60 v d p) :
    ∃ (a18 : Int) (z34 : List (Int × Int)) (B35 : Option Addr) (c36 : Nat) (z40 : List (Int × Int)) (B41 : Option Addr) (c42 : Nat) (z46 : List (Int × Int)) (B47 : Option Addr) (c48 : Nat) (z52 : List (Int × Int)) (B53 : Option Addr) (c54 : Nat) (a58 : Int), v = .agg #[.int .i64 a18, .slice B35 z34.length c36, .slice B41 z40.length c42, .slice B47 z46.length c48, .slice B53 z52.length c54, .int .u8 a58] ∧ wfI .i64 a18 ∧ (SlP rp_u64_u64 (gam W) W B35 c36 z34 ∧ (z34.length ≤ top ∧ ∀ y ∈ z34, wfI .u64 y.1 ∧ wfI .u64 y.2)) ∧ (SlP rp_u64_u64 (gam W) W B41 c42 z40 ∧ (z40.length ≤ top ∧ ∀ y ∈ z40, wfI .u64 y.1 ∧ wfI .u64 y.2)) ∧ (SlP rp_u64_u64 (gam W) W B47 c48 z46 ∧ (z46.length ≤ top ∧ ∀ y ∈ z46, wfI .u64 y.1 ∧ wfI .u64 y.2)) ∧ (SlP rp_u64_u64 (gam W) W B53 c54 z52 ∧ (z52.length ≤ top ∧ ∀ y ∈ z52, wfI .u64 y.1 ∧ wfI .u64 y.2)) ∧ wfI .u8 a58 := by
  obtain ⟨cs, rfl⟩ := okW_struct Try.underlying60 hval
  clear hval
  obtain ⟨fuel, h⟩ := h
  obtain ⟨l⟩ := cs
  simp only [Value.cells] at h
  obtain ⟨xs1, k2, _, _, hl3, hxl4, hf5⟩ := DataW.trod_struct Try.underlying60 h
  rw [ce60] at hl3
  obtain ⟨v6, v7, v8, v9, v10, v11, rfl⟩ : ∃ v6 v7 v8 v9 v10 v11, l = [v6, v7, v8, v9, v10, v11] := by match l, hl3 with | [v6, v7, v8, v9, v10, v11], _ => exact ⟨_, _, _, _, _, _, rfl⟩
  have g15 := hf5 0 _ rfl
  have g16 := hf5 1 _ rfl
  have g17 := hf5 2 _ rfl
  obtain ⟨y12, y13, y14, rfl⟩ : ∃ y12 y13 y14, xs1 = [y12, y13, y14] := by match xs1, hxl4 with | [y12, y13, y14], _ => exact ⟨_, _, _, rfl⟩
  simp [ce3, ce5, ce58] at g15 g16 g17
  obtain ⟨a18, ha19, _, w20⟩ := DataW.trod_int Try.underlying3 g15
  simp at ha19
  subst ha19
  obtain ⟨xs21, k22, _, _, hl23, hxl24, hf25⟩ := DataW.trod_array Try.underlying58 g16
  have g30 := hf25 0 (by decide)
  have g31 := hf25 1 (by decide)
  have g32 := hf25 2 (by decide)
  have g33 := hf25 3 (by decide)
  obtain ⟨y26, y27, y28, y29, rfl⟩ : ∃ y26 y27 y28 y29, xs21 = [y26, y27, y28, y29] := by match xs21, hxl24 with | [y26, y27, y28, y29], _ => exact ⟨_, _, _, _, rfl⟩
  simp [ce22] at g30 g31 g32 g33
  obtain ⟨z34, ⟨B35, c36, e37, e38⟩, e39⟩ := rd22.go g30
  simp at e37
  subst e37
  obtain ⟨z40, ⟨B41, c42, e43, e44⟩, e45⟩ := rd22.go g31
  simp at e43
  subst e43
  obtain ⟨z46, ⟨B47, c48, e49, e50⟩, e51⟩ := rd22.go g32
  simp at e49
  subst e49
  obtain ⟨z52, ⟨B53, c54, e55, e56⟩, e57⟩ := rd22.go g33
  simp at e55
  subst e55
  obtain ⟨a58, ha59, _, w60⟩ := DataW.trod_int Try.underlying5 g17
  simp at ha59
  subst ha59
  exact ⟨a18, z34, B35, c36, z40, B41, c42, z46, B47, c48, z52, B53, c54, a58, rfl, w20, ⟨e38, e39⟩, ⟨e44, e45⟩, ⟨e50, e51⟩, ⟨e56, e57⟩, w60⟩

set_option maxRecDepth 100000 in
theorem walked (hp : ∀ (p1 : Int × (List (Int × Int)) × (List (Int × Int)) × (List (Int × Int)) × (List (Int × Int)) × Int) (p2 : Int) (p3 : Int), (wfI .i64 p1.1 ∧ (p1.2.1.length ≤ top ∧ ∀ y ∈ p1.2.1, wfI .u64 y.1 ∧ wfI .u64 y.2) ∧ (p1.2.2.1.length ≤ top ∧ ∀ y ∈ p1.2.2.1, wfI .u64 y.1 ∧ wfI .u64 y.2) ∧ (p1.2.2.2.1.length ≤ top ∧ ∀ y ∈ p1.2.2.2.1, wfI .u64 y.1 ∧ wfI .u64 y.2) ∧ (p1.2.2.2.2.1.length ≤ top ∧ ∀ y ∈ p1.2.2.2.2.1, wfI .u64 y.1 ∧ wfI .u64 y.2) ∧ wfI .u8 p1.2.2.2.2.2) → wfI .u8 p2 → wfI .u16 p3 → law11_RecordBack p1 p2 p3 = some true)
    (H : Type) (enc : TypeId × Value → H) (W : World) (base : Nat) (args : Array Value) (ds gs : List (DataW H)) (before : List MemPlace)
    (hval : ∀ (j : Nat) t v, Try.f6.params[j]? = some t → args[j]? = some v → Value.okWide Try.prog W .any base t v)
    (hW : DataW.Whole enc Try.prog Try.f6.params.toList Rows.recordBackSpec.vars false W args.toList ds gs before) :
    Calls Try.prog 6 args W fun e W' => ∃ v, e = .returned v ∧ Rows.recordBackSpec.post enc Try.prog Try.f6 false true false false W args v W' := by
  have hW' := hW
  obtain ⟨p, q, hA0, hV, rfl, hfz, hnd⟩ := hW
  have hA : DataW.TrodAll enc Try.prog W 0 (fun _ => true) true Try.f6.params.toList args.toList ds p := hA0
  rw [Try.params6] at hA hval
  obtain ⟨v0, vs0, d0, ds0, p0, q0, hargs, rfl, rfl, h0, r0⟩ := trodAll_cons hA
  obtain ⟨v1, vs1, d1, ds1, p1, q1, rfl, rfl, rfl, h1, r1⟩ := trodAll_cons r0
  obtain ⟨v2, vs2, d2, ds2, p2, q2, rfl, rfl, rfl, h2, r2⟩ := trodAll_cons r1
  obtain ⟨rfl, rfl, rfl⟩ := trodAll_nil r2
  obtain rfl : args = #[v0, v1, v2] := by cases args; simp_all
  obtain ⟨rfl, rfl⟩ := trodVars_none hV
  obtain ⟨x0_0, x0_1, A0_1, c0_1, x0_2, A0_2, c0_2, x0_3, A0_3, c0_3, x0_4, A0_4, c0_4, x0_5, rfl, w0_0, ⟨s0_1, w0_1⟩, ⟨s0_2, w0_2⟩, ⟨s0_3, w0_3⟩, ⟨s0_4, w0_4⟩, w0_5⟩ := arg60 (hval 0 60 v0 rfl rfl) h0
  obtain ⟨a1, rfl, rfl, rfl, w1⟩ := open_int Try.underlying5 (hval 1 5 v1 rfl rfl) h1
  obtain ⟨a2, rfl, rfl, rfl, w2⟩ := open_int Try.underlying61 (hval 2 61 v2 rfl rfl) h2
  refine (law_calls (c_law11_RecordBack (x0_0, x0_1, x0_2, x0_3, x0_4, x0_5) a1 a2 A0_1 c0_1 A0_2 c0_2 A0_3 c0_3 A0_4 c0_4 true (hp _ _ _ ⟨w0_0, w0_1, w0_2, w0_3, w0_4, w0_5⟩ w1 w2)) (W := W) (fun g hg => by simp only [List.mem_cons, List.not_mem_nil, or_false] at hg; rcases hg with rfl | rfl | rfl | rfl <;> assumption) (fun ret M' F' h => h.1)).mono ?_
  rintro e W' ⟨rfl, γ', fr⟩
  exact ⟨_, rfl, law_post laidOut rowed slices small hW' rfl rfl (by kernel_rfl) Try.underlying4 fr fpM_nil⟩

set_option maxRecDepth 100000 in
theorem joined : joinedFacts Try.prog 6 Try.f6 Rows.recordBackSpec Rows.recordBackRow = true := by
  unfold joinedFacts
  simp only [Bool.and_eq_true]
  repeat' apply And.intro
  · kernel_rfl
  · kernel_rfl
  · kernel_rfl
  · kernel_rfl
  · kernel_rfl
  · kernel_rfl
  · kernel_rfl
  · kernel_rfl
  · kernel_rfl
  · kernel_rfl
  · kernel_rfl
  · kernel_rfl
  · kernel_rfl
  · kernel_rfl
  · kernel_rfl
  · kernel_rfl
  · kernel_rfl
  · kernel_rfl
  · kernel_rfl
  · kernel_rfl
  · kernel_rfl
  · kernel_rfl
  · kernel_rfl
  · kernel_rfl
  · kernel_rfl
  · exact heads.1
  · rw [heads.2.2]; rfl
  · rw [heads.2.1]; rfl
  · kernel_rfl
  · kernel_rfl
  · kernel_rfl
  · kernel_rfl
set_option maxRecDepth 100000 in
theorem lifted (hp : ∀ (p1 : Int × (List (Int × Int)) × (List (Int × Int)) × (List (Int × Int)) × (List (Int × Int)) × Int) (p2 : Int) (p3 : Int), (wfI .i64 p1.1 ∧ (p1.2.1.length ≤ top ∧ ∀ y ∈ p1.2.1, wfI .u64 y.1 ∧ wfI .u64 y.2) ∧ (p1.2.2.1.length ≤ top ∧ ∀ y ∈ p1.2.2.1, wfI .u64 y.1 ∧ wfI .u64 y.2) ∧ (p1.2.2.2.1.length ≤ top ∧ ∀ y ∈ p1.2.2.2.1, wfI .u64 y.1 ∧ wfI .u64 y.2) ∧ (p1.2.2.2.2.1.length ≤ top ∧ ∀ y ∈ p1.2.2.2.2.1, wfI .u64 y.1 ∧ wfI .u64 y.2) ∧ wfI .u8 p1.2.2.2.2.2) → wfI .u8 p2 → wfI .u16 p3 → law11_RecordBack p1 p2 p3 = some true)
    (os : Os) (started : os.Started) (H : Type) (enc : TypeId × Value → H) :
    ReturnsInHanded {} Try.checked os 6 .any (Rows.recordBackSpec.pre6 enc Try.prog Try.f6 Rows.recordBackRow.domain false) (Rows.recordBackSpec.post enc Try.prog Try.f6 false true false false) := by
  refine returnsInHanded_of_change (C := Try.checked) own started (by kernel_rfl) Try.func6
    (ChangeSpec.witness6 (enc := enc) (C := Try.checked) false ⟨#[], #[.agg #[.int .i64 0, .slice none 0 0, .slice none 0 0, .slice none 0 0, .slice none 0 0, .int .u8 0], .int .u8 0, .int .u16 0], []⟩ 8 (by kernel_rfl) (by kernel_rfl) (by kernel_rfl) (by kernel_rfl)) ?_
  intro W base args ds gs before hval hW _ _
  exact walked hp H enc W base args ds gs before hval hW
theorem said (hp : ∀ (p1 : Int × (List (Int × Int)) × (List (Int × Int)) × (List (Int × Int)) × (List (Int × Int)) × Int) (p2 : Int) (p3 : Int), (wfI .i64 p1.1 ∧ (p1.2.1.length ≤ top ∧ ∀ y ∈ p1.2.1, wfI .u64 y.1 ∧ wfI .u64 y.2) ∧ (p1.2.2.1.length ≤ top ∧ ∀ y ∈ p1.2.2.1, wfI .u64 y.1 ∧ wfI .u64 y.2) ∧ (p1.2.2.2.1.length ≤ top ∧ ∀ y ∈ p1.2.2.2.1, wfI .u64 y.1 ∧ wfI .u64 y.2) ∧ (p1.2.2.2.2.1.length ≤ top ∧ ∀ y ∈ p1.2.2.2.2.1, wfI .u64 y.1 ∧ wfI .u64 y.2) ∧ wfI .u8 p1.2.2.2.2.2) → wfI .u8 p2 → wfI .u16 p3 → law11_RecordBack p1 p2 p3 = some true) : Rows.RecordBackSaid :=
  OpenClaim.holds_of_wide 6 Try.f6 rfl rfl rfl rfl rfl rfl rfl ⟨rfl, rfl, rfl, rfl, rfl⟩ rfl rfl rfl rfl rfl (by kernel_rfl) Try.func6 joined
    (of_decide_eq_true (by kernel_rfl)) (by unfold Func.isWrapper; first | (rw [if_pos (by decide +kernel)]; kernel_rfl) | (rw [if_neg (by decide +kernel)]; exact ⟨rfl, rfl⟩))
    (fun os started H enc _ => lifted hp os started H enc)
end Go.Proofs.Ytbeknohemgjfbaa.S6
namespace Go.Proofs.Ytbeknohemgjfbaa
open Go.Proofs.Ytbeknohemgjfbaa.L Go.Proofs.Ytbeknohemgjfbaa.Pu
/-- RecordBack -/
theorem recordBack_said : Rows.RecordBackSaid := S6.said fun p1 p2 p3 w0 w1 w2 => law11_RecordBack_true p1 p2 p3 ⟨(wf_i64 w0.1), ⟨w0.2.1.1, fun y hy => ⟨(wf_u64 (w0.2.1.2 y hy).1), (wf_u64 (w0.2.1.2 y hy).2)⟩⟩, ⟨w0.2.2.1.1, fun y hy => ⟨(wf_u64 (w0.2.2.1.2 y hy).1), (wf_u64 (w0.2.2.1.2 y hy).2)⟩⟩, ⟨w0.2.2.2.1.1, fun y hy => ⟨(wf_u64 (w0.2.2.2.1.2 y hy).1), (wf_u64 (w0.2.2.2.1.2 y hy).2)⟩⟩, ⟨w0.2.2.2.2.1.1, fun y hy => ⟨(wf_u64 (w0.2.2.2.2.1.2 y hy).1), (wf_u64 (w0.2.2.2.2.1.2 y hy).2)⟩⟩, (wf_u8 w0.2.2.2.2.2)⟩ (wf_u8 w1) (wf_u16 w2)
end Go.Proofs.Ytbeknohemgjfbaa

