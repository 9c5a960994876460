/- Facts on the program's types, each a closed reckoning. Printed by gen.py. -/
import Derived.Test.YthgeodagikmpjaaProg
import Derived.Test.YthgeodagikmpjaaL19
namespace Go.Proofs.Ythgeodagikmpjaa.W
open Go Go.Proofs Go.Proofs.Ythgeodagikmpjaa.L Go.Proofs.Ythgeodagikmpjaa.Pu
set_option linter.unusedVariables false

def rp_u8_i64 : Rep (Int × Int) := ground 2 (fun x => [.int .u8 x.1, .int .i64 x.2]) (fun _ => rfl) (fun x v hv => by simp at hv; rcases hv with rfl | rfl <;> rfl)
theorem ty3 : tyOf Try.prog 3 = some (false, 1) := by kernel_rfl
theorem ty5 : tyOf Try.prog 5 = some (false, 1) := by kernel_rfl
theorem ty22 : tyOf Try.prog 22 = some (false, 1) := by kernel_rfl
theorem ty23 : tyOf Try.prog 23 = some (false, 1) := by kernel_rfl
theorem ty25 : tyOf Try.prog 25 = some (false, 1) := by kernel_rfl
theorem ty67 : tyOf Try.prog 67 = some (true, 2) := by kernel_rfl
theorem ty69 : tyOf Try.prog 69 = some (true, 2) := by kernel_rfl
theorem sl23 : sliceOf Try.prog 23 = some 5 := by kernel_rfl
theorem sl65 : sliceOf Try.prog 65 = some 69 := by kernel_rfl
theorem ar78 : arrayOf Try.prog 78 = some (2, 5) := by kernel_rfl
theorem ze5 : zeroOf Try.prog 5 = some [.int .u8 0] := by kernel_rfl
theorem ze23 : zeroOf Try.prog 23 = some [.slice none 0 0] := by kernel_rfl
theorem ze67 : zeroOf Try.prog 67 = some [.slice none 0 0, .int .i64 0] := by kernel_rfl
theorem ze108 : zeroOf Try.prog 108 = some [.slice none 0 0, .int .i64 0] := by kernel_rfl
theorem fo67_0 : fieldOff Try.prog 67 0 = some 0 := by kernel_rfl
theorem fo67_1 : fieldOff Try.prog 67 1 = some 1 := by kernel_rfl
theorem fo69_0 : fieldOff Try.prog 69 0 = some 0 := by kernel_rfl
theorem fo69_1 : fieldOff Try.prog 69 1 = some 1 := by kernel_rfl
theorem fo108_0 : fieldOff Try.prog 108 0 = some 0 := by kernel_rfl
theorem fo108_1 : fieldOff Try.prog 108 1 = some 1 := by kernel_rfl
theorem pl67 : placesOf Try.prog 67 = some [(0, 1), (1, 1)] := by kernel_rfl
theorem pl108 : placesOf Try.prog 108 = some [(0, 1), (1, 1)] := by kernel_rfl
theorem by5 : bytesOf Try.prog 5 = some 1 := by kernel_rfl
theorem en19 : entersOf Try.prog 19 = true := by kernel_rfl
theorem en20 : entersOf Try.prog 20 = true := by kernel_rfl
theorem en21 : entersOf Try.prog 21 = true := by kernel_rfl
theorem en22 : entersOf Try.prog 22 = true := by kernel_rfl
theorem en23 : entersOf Try.prog 23 = true := by kernel_rfl
theorem en24 : entersOf Try.prog 24 = true := by kernel_rfl
theorem en25 : entersOf Try.prog 25 = true := by kernel_rfl
theorem en26 : entersOf Try.prog 26 = true := by kernel_rfl
theorem en27 : entersOf Try.prog 27 = true := by kernel_rfl
theorem en28 : entersOf Try.prog 28 = true := by kernel_rfl
theorem en29 : entersOf Try.prog 29 = true := by kernel_rfl
theorem en30 : entersOf Try.prog 30 = true := by kernel_rfl
theorem en31 : entersOf Try.prog 31 = true := by kernel_rfl
theorem en32 : entersOf Try.prog 32 = true := by kernel_rfl
theorem en33 : entersOf Try.prog 33 = true := by kernel_rfl
theorem en34 : entersOf Try.prog 34 = true := by kernel_rfl
theorem en35 : entersOf Try.prog 35 = true := by kernel_rfl
theorem en36 : entersOf Try.prog 36 = true := by kernel_rfl
theorem en37 : entersOf Try.prog 37 = true := by kernel_rfl
theorem en45 : entersOf Try.prog 45 = true := by kernel_rfl
theorem en46 : entersOf Try.prog 46 = true := by kernel_rfl
theorem en47 : entersOf Try.prog 47 = true := by kernel_rfl
theorem en48 : entersOf Try.prog 48 = true := by kernel_rfl
theorem en49 : entersOf Try.prog 49 = true := by kernel_rfl
theorem en62 : entersOf Try.prog 62 = true := by kernel_rfl
theorem en63 : entersOf Try.prog 63 = true := by kernel_rfl
theorem en64 : entersOf Try.prog 64 = true := by kernel_rfl
theorem en65 : entersOf Try.prog 65 = true := by kernel_rfl
theorem en73 : entersOf Try.prog 73 = true := by kernel_rfl
theorem en82 : entersOf Try.prog 82 = true := by kernel_rfl
theorem drawn : Try.prog.follows .mixedOrders = true := by kernel_rfl
end Go.Proofs.Ythgeodagikmpjaa.W
