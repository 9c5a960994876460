/- Facts on the program's types, each a closed reckoning. Printed by gen.py. -/
import Derived.Test.YthgeodagikmpjaaProg
import Derived.Test.YthgeodagikmpjaaL16
namespace Go.Proofs.Ythgeodagikmpjaa.W
open Go Go.Proofs Go.Proofs.Ythgeodagikmpjaa.L Go.Proofs.Ythgeodagikmpjaa.Pu
set_option linter.unusedVariables false

theorem ty5 : tyOf Try.prog 5 = some (false, 1) := by kernel_rfl
theorem ty22 : tyOf Try.prog 22 = some (false, 1) := by kernel_rfl
theorem ty23 : tyOf Try.prog 23 = some (false, 1) := by kernel_rfl
theorem sl23 : sliceOf Try.prog 23 = some 5 := by kernel_rfl
theorem ze5 : zeroOf Try.prog 5 = some [.int .u8 0] := by kernel_rfl
theorem ze23 : zeroOf Try.prog 23 = some [.slice none 0 0] := by kernel_rfl
theorem by5 : bytesOf Try.prog 5 = some 1 := by kernel_rfl
theorem en19 : entersOf Try.prog 19 = true := by kernel_rfl
theorem en20 : entersOf Try.prog 20 = true := by kernel_rfl
theorem en21 : entersOf Try.prog 21 = true := by kernel_rfl
theorem en22 : entersOf Try.prog 22 = true := by kernel_rfl
theorem en23 : entersOf Try.prog 23 = true := by kernel_rfl
theorem en62 : entersOf Try.prog 62 = true := by kernel_rfl
theorem en63 : entersOf Try.prog 63 = true := by kernel_rfl
theorem en82 : entersOf Try.prog 82 = true := by kernel_rfl
theorem drawn : Try.prog.follows .mixedOrders = true := by kernel_rfl
end Go.Proofs.Ythgeodagikmpjaa.W
