/- Closed facts of the seat, for all rows. -/
import Derived.Test.YtbeknohemgjfbaaRows
import Derived.Test.YtbeknohemgjfbaaR0
namespace Go.Proofs.Ytbeknohemgjfbaa.S
open Go Go.ChangeShapes Go.WideShapes Go.ChangeAt Go.RowKit Go.Proofs.Ytbeknohemgjfbaa.L
theorem own : ownKnob Try.prog.godebug = none := by kernel_rfl
theorem laidOut : laidOutB Try.prog = true := by kernel_rfl
theorem rowed : mapsRowed Try.prog = true := by kernel_rfl
theorem slices : slOk Try.prog = true := by kernel_rfl
set_option maxRecDepth 100000 in
theorem words : ∃ s r, wordsSigns Try.prog.initOrder.toList = [(Char.ofNat 104), (Char.ofNat 97), (Char.ofNat 114), (Char.ofNat 110), (Char.ofNat 101), (Char.ofNat 115), (Char.ofNat 115)] :: s :: [(Char.ofNat 99), (Char.ofNat 117), (Char.ofNat 116)] :: r ∧ isSumSigns s = true := words_of rfl (by kernel_rfl)
theorem heads : Try.prog.mayEnter = true ∧ Try.prog.make = some .cut ∧ Try.prog.liftsFinal = false := by
  obtain ⟨s, r, h, hs⟩ := words
  have hb := behind_of h hs
  exact ⟨enter_of hb (by kernel_rfl) (by kernel_rfl) (by kernel_rfl), make_of hb, lifts_of hb⟩
end Go.Proofs.Ytbeknohemgjfbaa.S
