/- More readings of arguments: structs; and the numbers' bounds in plain words. -/
import Derived.Test.YtbeknohemgjfbaaR0
import Derived.Test.YtbeknohemgjfbaaP1
namespace Go.Proofs.Ytbeknohemgjfbaa.L
open Go Go.ChangeShapes Go.WideShapes Go.Proofs.Ytbeknohemgjfbaa.Pu
set_option linter.unusedVariables false

section
variable {P : Program} {t e : TypeId} {H : Type} {enc : TypeId × Value → H} {W W' : World} {base : Nat} {sp : Nat → Bool} {held : Bool}
theorem okW_struct {fs : Array Field} {r : Reach} {b0 : Nat} {v : Value} (ht : P.underlying t = some (.struct fs)) (hval : Value.okWide P W r b0 t v) : ∃ cs, v = .agg cs := by
  unfold Value.okWide at hval
  rw [ht] at hval
  obtain ⟨cs, rfl, _, _⟩ := hval
  exact ⟨cs, rfl⟩
/-- An argument that is a struct of two numbers. -/
theorem arg_two {k0 k1 : IntKind} {f0 f1 : Field} {r : Reach} {b0 : Nat} {v : Value} {d : DataW H} {p : List MemPlace} (ht : P.underlying t = some (.struct #[f0, f1])) (hc : P.cellsOf t = 2) (o0 : f0.offset = 0) (o1 : f1.offset = 1) (c0 : P.cellsOf f0.type = 1) (c1 : P.cellsOf f1.type = 1)
    (t0 : P.underlying f0.type = some (.int k0)) (t1 : P.underlying f1.type = some (.int k1)) (hval : Value.okWide P W r b0 t v) (h : DataW.Trod enc P W base sp held t v d p) :
    ∃ a b, v = .agg #[.int k0 a, .int k1 b] ∧ wfI k0 a ∧ wfI k1 b := by
  unfold Value.okWide at hval
  rw [ht] at hval
  obtain ⟨cs, rfl, hsz, _⟩ := hval
  obtain ⟨fuel, h⟩ := h
  obtain ⟨xs, k, _, _, hl, hxl, hf⟩ := DataW.trod_struct ht h
  simp only [Value.cells] at hl hf
  rw [hc] at hl
  obtain ⟨l⟩ := cs
  simp only at hl hf
  match l, hl with
  | [v0, v1], _ =>
    have g0 := hf 0 f0 rfl
    have g1 := hf 1 f1 rfl
    simp [o0, o1, c0, c1] at g0 g1
    match xs, hxl with
    | [y0, y1], _ =>
      obtain ⟨a, ha, _, wa⟩ := DataW.trod_int t0 g0
      obtain ⟨b, hb, _, wb⟩ := DataW.trod_int t1 g1
      simp at ha hb
      subst ha hb
      exact ⟨a, b, rfl, wa, wb⟩
/-- An argument that is a struct of two numbers and a slice. -/
theorem arg_iis {α : Type} {rp : Rep α} {ok : List α → Prop} {k0 k1 : IntKind} {f0 f1 f2 : Field} {r : Reach} {b0 : Nat} {v : Value} {d : DataW H} {p : List MemPlace} (ht : P.underlying t = some (.struct #[f0, f1, f2])) (hc : P.cellsOf t = 3) (o0 : f0.offset = 0) (o1 : f1.offset = 1) (o2 : f2.offset = 2) (c0 : P.cellsOf f0.type = 1) (c1 : P.cellsOf f1.type = 1) (c2 : P.cellsOf f2.type = 1)
    (t0 : P.underlying f0.type = some (.int k0)) (t1 : P.underlying f1.type = some (.int k1)) (R : Rd P f2.type (rSl rp) ok) (hval : Value.okWide P W r b0 t v) (h : DataW.Trod enc P W base sp held t v d p) :
    ∃ a b A c xs, v = .agg #[.int k0 a, .int k1 b, .slice A xs.length c] ∧ wfI k0 a ∧ wfI k1 b ∧ SlP rp (gam W) W A c xs ∧ ok xs := by
  unfold Value.okWide at hval
  rw [ht] at hval
  obtain ⟨cs, rfl, hsz, _⟩ := hval
  obtain ⟨fuel, h⟩ := h
  obtain ⟨xs, k, _, _, hl, hxl, hf⟩ := DataW.trod_struct ht h
  simp only [Value.cells] at hl hf
  rw [hc] at hl
  obtain ⟨l⟩ := cs
  simp only at hl hf
  match l, hl with
  | [v0, v1, v2], _ =>
    have g0 := hf 0 f0 rfl
    have g1 := hf 1 f1 rfl
    have g2 := hf 2 f2 rfl
    simp [o0, o1, o2, c0, c1, c2] at g0 g1 g2
    match xs, hxl with
    | [y0, y1, y2], _ =>
      obtain ⟨a, ha, _, wa⟩ := DataW.trod_int t0 g0
      obtain ⟨b, hb, _, wb⟩ := DataW.trod_int t1 g1
      obtain ⟨zs, ⟨A, c, h1, h2⟩, h3⟩ := R.go g2
      simp at ha hb h1
      subst ha hb h1
      exact ⟨a, b, A, c, zs, rfl, wa, wb, h2, h3⟩
/-- A struct of three numbers. -/
theorem rd_three {rp : Rep (Int × Int × Int)} {k0 k1 k2 : IntKind} {f0 f1 f2 : Field} (ht : P.underlying t = some (.struct #[f0, f1, f2])) (hc : P.cellsOf t = 3) (o0 : f0.offset = 0) (o1 : f1.offset = 1) (o2 : f2.offset = 2) (c0 : P.cellsOf f0.type = 1) (c1 : P.cellsOf f1.type = 1) (c2 : P.cellsOf f2.type = 1)
    (t0 : P.underlying f0.type = some (.int k0)) (t1 : P.underlying f1.type = some (.int k1)) (t2 : P.underlying f2.type = some (.int k2)) (hs : rp.sz = 3) (hR : ∀ γ w (x : Int × Int × Int), rp.R γ w x [.int k0 x.1, .int k1 x.2.1, .int k2 x.2.2]) : Rd P t rp (fun x => wfI k0 x.1 ∧ wfI k1 x.2.1 ∧ wfI k2 x.2.2) :=
  ⟨hc.trans hs.symm, fun {H enc W base spare held n cs x} h => by
    obtain ⟨xs, k, _, _, hl, hxl, hf⟩ := DataW.trod_struct ht h
    rw [hc] at hl
    match cs, hl with
    | [v0, v1, v2], _ =>
      have g0 := hf 0 f0 rfl
      have g1 := hf 1 f1 rfl
      have g2 := hf 2 f2 rfl
      simp [o0, o1, o2, c0, c1, c2] at g0 g1 g2
      match xs, hxl with
      | [y0, y1, y2], _ =>
        obtain ⟨a, ha, _, wa⟩ := DataW.trod_int t0 g0
        obtain ⟨b, hb, _, wb⟩ := DataW.trod_int t1 g1
        obtain ⟨c, hc', _, wc⟩ := DataW.trod_int t2 g2
        simp at ha hb hc'
        subst ha hb hc'
        exact ⟨(a, b, c), hR _ _ _, wa, wb, wc⟩⟩
/-- A struct of one field reads as that. -/
theorem rd_one {α : Type} {rp : Rep α} {ok : α → Prop} {f0 : Field} (ht : P.underlying t = some (.struct #[f0])) (hc : P.cellsOf t = P.cellsOf f0.type) (o0 : f0.offset = 0) (R : Rd P f0.type rp ok) : Rd P t rp ok :=
  ⟨hc.trans R.sz, fun {H enc W base spare held n cs x} h => by
    obtain ⟨xs, k, _, _, hl, hxl, hf⟩ := DataW.trod_struct ht h
    have g0 := hf 0 f0 rfl
    rw [o0, List.drop_zero, ← hc, ← hl, List.take_length] at g0
    match xs, hxl with
    | [y0], _ => exact R.go g0⟩
/-- An argument that is a struct of four numbers and a slice. -/
theorem arg_iiiis {α : Type} {rp : Rep α} {ok : List α → Prop} {k0 k1 k2 k3 : IntKind} {f0 f1 f2 f3 f4 : Field} {r : Reach} {b0 : Nat} {v : Value} {d : DataW H} {p : List MemPlace} (ht : P.underlying t = some (.struct #[f0, f1, f2, f3, f4])) (hc : P.cellsOf t = 5) (o0 : f0.offset = 0) (o1 : f1.offset = 1) (o2 : f2.offset = 2) (o3 : f3.offset = 3) (o4 : f4.offset = 4)
    (c0 : P.cellsOf f0.type = 1) (c1 : P.cellsOf f1.type = 1) (c2 : P.cellsOf f2.type = 1) (c3 : P.cellsOf f3.type = 1) (c4 : P.cellsOf f4.type = 1) (t0 : P.underlying f0.type = some (.int k0)) (t1 : P.underlying f1.type = some (.int k1)) (t2 : P.underlying f2.type = some (.int k2)) (t3 : P.underlying f3.type = some (.int k3))
    (R : Rd P f4.type (rSl rp) ok) (hval : Value.okWide P W r b0 t v) (h : DataW.Trod enc P W base sp held t v d p) :
    ∃ a b a2 b2 A c xs, v = .agg #[.int k0 a, .int k1 b, .int k2 a2, .int k3 b2, .slice A xs.length c] ∧ wfI k0 a ∧ wfI k1 b ∧ wfI k2 a2 ∧ wfI k3 b2 ∧ SlP rp (gam W) W A c xs ∧ ok xs := by
  unfold Value.okWide at hval
  rw [ht] at hval
  obtain ⟨cs, rfl, hsz, _⟩ := hval
  obtain ⟨fuel, h⟩ := h
  obtain ⟨xs, k, _, _, hl, hxl, hf⟩ := DataW.trod_struct ht h
  simp only [Value.cells] at hl hf
  rw [hc] at hl
  obtain ⟨l⟩ := cs
  simp only at hl hf
  match l, hl with
  | [v0, v1, v2, v3, v4], _ =>
    have g0 := hf 0 f0 rfl
    have g1 := hf 1 f1 rfl
    have g2 := hf 2 f2 rfl
    have g3 := hf 3 f3 rfl
    have g4 := hf 4 f4 rfl
    simp [o0, o1, o2, o3, o4, c0, c1, c2, c3, c4] at g0 g1 g2 g3 g4
    match xs, hxl with
    | [y0, y1, y2, y3, y4], _ =>
      obtain ⟨a, ha, _, wa⟩ := DataW.trod_int t0 g0
      obtain ⟨b, hb, _, wb⟩ := DataW.trod_int t1 g1
      obtain ⟨a2, ha2, _, wa2⟩ := DataW.trod_int t2 g2
      obtain ⟨b2, hb2, _, wb2⟩ := DataW.trod_int t3 g3
      obtain ⟨zs, ⟨A, c, q1, q2⟩, q3⟩ := R.go g4
      simp at ha hb ha2 hb2 q1
      subst ha hb ha2 hb2 q1
      exact ⟨a, b, a2, b2, A, c, zs, rfl, wa, wb, wa2, wb2, q2, q3⟩
end

/-! ### The numbers' bounds -/
theorem wf_i64 {x : Int} (h : wfI .i64 x) : -9223372036854775808 ≤ x ∧ x < 9223372036854775808 := by
  simp [wfI, Lit.wf, IntKind.min, IntKind.max, IntKind.bits, IntKind.signed] at h
  omega
theorem wf_u64 {x : Int} (h : wfI .u64 x) : 0 ≤ x ∧ x < 18446744073709551616 := by
  simp [wfI, Lit.wf, IntKind.min, IntKind.max, IntKind.bits, IntKind.signed] at h
  omega
theorem wf_u16 {x : Int} (h : wfI .u16 x) : 0 ≤ x ∧ x < 65536 := by
  simp [wfI, Lit.wf, IntKind.min, IntKind.max, IntKind.bits, IntKind.signed] at h
  omega
theorem wf_u8 {x : Int} (h : wfI .u8 x) : 0 ≤ x ∧ x < 256 := by
  simp [wfI, Lit.wf, IntKind.min, IntKind.max, IntKind.bits, IntKind.signed] at h
  omega
end Go.Proofs.Ytbeknohemgjfbaa.L
