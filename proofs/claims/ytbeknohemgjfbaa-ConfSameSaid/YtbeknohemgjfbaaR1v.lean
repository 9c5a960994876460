import Derived.Test.YtbeknohemgjfbaaR0v
import Derived.Test.YtbeknohemgjfbaaP1v
namespace Go.Proofs.Ytbeknohemgjfbaa.L
open Go Go.ChangeShapes Go.WideShapes Go.Proofs.Ytbeknohemgjfbaa.Pu
set_option linter.unusedVariables false

section
variable {P : Program} {t e : TypeId} {H : Type} {enc : TypeId × Value → H} {W W' : World} {base : Nat} {sp : Nat → Bool} {held : Bool}
theorem okW_struct {fs : Array Field} {r : Reach} {b0 : Nat} {v : Value} (ht : P.underlying t = some (.struct fs)) (hval : Value.okWide P W r b0 t v) : ∃ cs, v = .agg cs := by
  unfold Value.okWide at hval
  rw [ht] at hval
  obtain ⟨cs, rfl, _, _⟩ := hval
  exact ⟨cs, rfl⟩
end

theorem wf_i64 {x : Int} (h : wfI .i64 x) : -9223372036854775808 ≤ x ∧ x < 9223372036854775808 := by
  simp [wfI, Lit.wf, IntKind.min, IntKind.max, IntKind.bits, IntKind.signed] at h
  omega
theorem wf_u64 {x : Int} (h : wfI .u64 x) : 0 ≤ x ∧ x < 18446744073709551616 := by
  simp [wfI, Lit.wf, IntKind.min, IntKind.max, IntKind.bits, IntKind.signed] at h
  omega
theorem wf_u16 {x : Int} (h : wfI .u16 x) : 0 ≤ x ∧ x < 65536 := by
  simp [wfI, Lit.wf, IntKind.min, IntKind.max, IntKind.bits, IntKind.signed] at h
  omega
theorem wf_u8 {x : Int} (h : wfI .u8 x) : 0 ≤ x ∧ x < 256 := by
  simp [wfI, Lit.wf, IntKind.min, IntKind.max, IntKind.bits, IntKind.signed] at h
  omega
end Go.Proofs.Ytbeknohemgjfbaa.L
