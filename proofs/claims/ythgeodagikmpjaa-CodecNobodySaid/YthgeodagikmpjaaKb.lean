/- Facts on the program's types, each a closed reckoning. Printed by gen.py. -/
import Derived.Test.YthgeodagikmpjaaProg
import Derived.Test.YthgeodagikmpjaaL19
namespace Go.Proofs.Ythgeodagikmpjaa.W
open Go Go.Proofs Go.Proofs.Ythgeodagikmpjaa.L Go.Proofs.Ythgeodagikmpjaa.Pu
set_option linter.unusedVariables false

def rp_u64_u64_u64 : Rep (Int × Int × Int) := ground 3 (fun x => [.int .u64 x.1, .int .u64 x.2.1, .int .u64 x.2.2]) (fun _ => rfl) (fun x v hv => by simp at hv; rcases hv with rfl | rfl | rfl <;> rfl)
def rp_u8_i64 : Rep (Int × Int) := ground 2 (fun x => [.int .u8 x.1, .int .i64 x.2]) (fun _ => rfl) (fun x v hv => by simp at hv; rcases hv with rfl | rfl <;> rfl)
theorem ty3 : tyOf Try.prog 3 = some (false, 1) := by kernel_rfl
theorem ty5 : tyOf Try.prog 5 = some (false, 1) := by kernel_rfl
theorem ty22 : tyOf Try.prog 22 = some (false, 1) := by kernel_rfl
theorem ty23 : tyOf Try.prog 23 = some (false, 1) := by kernel_rfl
theorem ty25 : tyOf Try.prog 25 = some (false, 1) := by kernel_rfl
theorem ty46 : tyOf Try.prog 46 = some (false, 1) := by kernel_rfl
theorem ty48 : tyOf Try.prog 48 = some (true, 5) := by kernel_rfl
theorem ty53 : tyOf Try.prog 53 = some (false, 1) := by kernel_rfl
theorem ty55 : tyOf Try.prog 55 = some (true, 3) := by kernel_rfl
theorem ty58 : tyOf Try.prog 58 = some (true, 5) := by kernel_rfl
theorem ty67 : tyOf Try.prog 67 = some (true, 2) := by kernel_rfl
theorem ty69 : tyOf Try.prog 69 = some (true, 2) := by kernel_rfl
theorem ty81 : tyOf Try.prog 81 = some (true, 3) := by kernel_rfl
theorem sl23 : sliceOf Try.prog 23 = some 5 := by kernel_rfl
theorem sl45 : sliceOf Try.prog 45 = some 53 := by kernel_rfl
theorem sl46 : sliceOf Try.prog 46 = some 55 := by kernel_rfl
theorem sl57 : sliceOf Try.prog 57 = some 81 := by kernel_rfl
theorem sl65 : sliceOf Try.prog 65 = some 69 := by kernel_rfl
theorem sl129 : sliceOf Try.prog 129 = some 22 := by kernel_rfl
theorem sl131 : sliceOf Try.prog 131 = some 46 := by kernel_rfl
theorem ar78 : arrayOf Try.prog 78 = some (2, 5) := by kernel_rfl
theorem ar94 : arrayOf Try.prog 94 = some (2, 22) := by kernel_rfl
theorem ze5 : zeroOf Try.prog 5 = some [.int .u8 0] := by kernel_rfl
theorem ze22 : zeroOf Try.prog 22 = some [.int .u64 0] := by kernel_rfl
theorem ze23 : zeroOf Try.prog 23 = some [.slice none 0 0] := by kernel_rfl
theorem ze46 : zeroOf Try.prog 46 = some [.slice none 0 0] := by kernel_rfl
theorem ze48 : zeroOf Try.prog 48 = some [.int .u64 0, .int .i64 0, .int .u64 0, .int .u64 0, .slice none 0 0] := by kernel_rfl
theorem ze55 : zeroOf Try.prog 55 = some [.int .u64 0, .int .u64 0, .int .u64 0] := by kernel_rfl
theorem ze58 : zeroOf Try.prog 58 = some [.int .u64 0, .int .i64 0, .int .u64 0, .int .u64 0, .slice none 0 0] := by kernel_rfl
theorem ze67 : zeroOf Try.prog 67 = some [.slice none 0 0, .int .i64 0] := by kernel_rfl
theorem ze108 : zeroOf Try.prog 108 = some [.slice none 0 0, .int .i64 0] := by kernel_rfl
theorem fo48_0 : fieldOff Try.prog 48 0 = some 0 := by kernel_rfl
theorem fo48_1 : fieldOff Try.prog 48 1 = some 1 := by kernel_rfl
theorem fo48_2 : fieldOff Try.prog 48 2 = some 2 := by kernel_rfl
theorem fo48_3 : fieldOff Try.prog 48 3 = some 3 := by kernel_rfl
theorem fo48_4 : fieldOff Try.prog 48 4 = some 4 := by kernel_rfl
theorem fo55_0 : fieldOff Try.prog 55 0 = some 0 := by kernel_rfl
theorem fo55_1 : fieldOff Try.prog 55 1 = some 1 := by kernel_rfl
theorem fo55_2 : fieldOff Try.prog 55 2 = some 2 := by kernel_rfl
theorem fo58_0 : fieldOff Try.prog 58 0 = some 0 := by kernel_rfl
theorem fo58_1 : fieldOff Try.prog 58 1 = some 1 := by kernel_rfl
theorem fo58_2 : fieldOff Try.prog 58 2 = some 2 := by kernel_rfl
theorem fo58_3 : fieldOff Try.prog 58 3 = some 3 := by kernel_rfl
theorem fo58_4 : fieldOff Try.prog 58 4 = some 4 := by kernel_rfl
theorem fo67_0 : fieldOff Try.prog 67 0 = some 0 := by kernel_rfl
theorem fo67_1 : fieldOff Try.prog 67 1 = some 1 := by kernel_rfl
theorem fo69_0 : fieldOff Try.prog 69 0 = some 0 := by kernel_rfl
theorem fo69_1 : fieldOff Try.prog 69 1 = some 1 := by kernel_rfl
theorem fo81_0 : fieldOff Try.prog 81 0 = some 0 := by kernel_rfl
theorem fo108_0 : fieldOff Try.prog 108 0 = some 0 := by kernel_rfl
theorem fo108_1 : fieldOff Try.prog 108 1 = some 1 := by kernel_rfl
theorem pl48 : placesOf Try.prog 48 = some [(0, 1), (1, 1), (2, 1), (3, 1), (4, 1)] := by kernel_rfl
theorem pl55 : placesOf Try.prog 55 = some [(0, 1), (1, 1), (2, 1)] := by kernel_rfl
theorem pl58 : placesOf Try.prog 58 = some [(0, 1), (1, 1), (2, 1), (3, 1), (4, 1)] := by kernel_rfl
theorem pl67 : placesOf Try.prog 67 = some [(0, 1), (1, 1)] := by kernel_rfl
theorem pl108 : placesOf Try.prog 108 = some [(0, 1), (1, 1)] := by kernel_rfl
theorem by5 : bytesOf Try.prog 5 = some 1 := by kernel_rfl
theorem by55 : bytesOf Try.prog 55 = some 24 := by kernel_rfl
theorem if55 : intFields Try.prog 55 = some [0, 1, 2] := by kernel_rfl
theorem eg55 : Try.prog.eqGuardType Try.prog.depth 55 = false := by kernel_rfl
theorem en19 : entersOf Try.prog 19 = true := by kernel_rfl
theorem en20 : entersOf Try.prog 20 = true := by kernel_rfl
theorem en21 : entersOf Try.prog 21 = true := by kernel_rfl
theorem en22 : entersOf Try.prog 22 = true := by kernel_rfl
theorem en23 : entersOf Try.prog 23 = true := by kernel_rfl
theorem en24 : entersOf Try.prog 24 = true := by kernel_rfl
theorem en25 : entersOf Try.prog 25 = true := by kernel_rfl
theorem en26 : entersOf Try.prog 26 = true := by kernel_rfl
theorem en27 : entersOf Try.prog 27 = true := by kernel_rfl
theorem en28 : entersOf Try.prog 28 = true := by kernel_rfl
theorem en29 : entersOf Try.prog 29 = true := by kernel_rfl
theorem en30 : entersOf Try.prog 30 = true := by kernel_rfl
theorem en31 : entersOf Try.prog 31 = true := by kernel_rfl
theorem en32 : entersOf Try.prog 32 = true := by kernel_rfl
theorem en33 : entersOf Try.prog 33 = true := by kernel_rfl
theorem en34 : entersOf Try.prog 34 = true := by kernel_rfl
theorem en35 : entersOf Try.prog 35 = true := by kernel_rfl
theorem en36 : entersOf Try.prog 36 = true := by kernel_rfl
theorem en37 : entersOf Try.prog 37 = true := by kernel_rfl
theorem en38 : entersOf Try.prog 38 = true := by kernel_rfl
theorem en39 : entersOf Try.prog 39 = true := by kernel_rfl
theorem en40 : entersOf Try.prog 40 = true := by kernel_rfl
theorem en41 : entersOf Try.prog 41 = true := by kernel_rfl
theorem en42 : entersOf Try.prog 42 = true := by kernel_rfl
theorem en43 : entersOf Try.prog 43 = true := by kernel_rfl
theorem en44 : entersOf Try.prog 44 = true := by kernel_rfl
theorem en45 : entersOf Try.prog 45 = true := by kernel_rfl
theorem en46 : entersOf Try.prog 46 = true := by kernel_rfl
theorem en47 : entersOf Try.prog 47 = true := by kernel_rfl
theorem en48 : entersOf Try.prog 48 = true := by kernel_rfl
theorem en49 : entersOf Try.prog 49 = true := by kernel_rfl
theorem en50 : entersOf Try.prog 50 = true := by kernel_rfl
theorem en51 : entersOf Try.prog 51 = true := by kernel_rfl
theorem en52 : entersOf Try.prog 52 = true := by kernel_rfl
theorem en53 : entersOf Try.prog 53 = true := by kernel_rfl
theorem en54 : entersOf Try.prog 54 = true := by kernel_rfl
theorem en55 : entersOf Try.prog 55 = true := by kernel_rfl
theorem en56 : entersOf Try.prog 56 = true := by kernel_rfl
theorem en57 : entersOf Try.prog 57 = true := by kernel_rfl
theorem en58 : entersOf Try.prog 58 = true := by kernel_rfl
theorem en59 : entersOf Try.prog 59 = true := by kernel_rfl
theorem en62 : entersOf Try.prog 62 = true := by kernel_rfl
theorem en63 : entersOf Try.prog 63 = true := by kernel_rfl
theorem en64 : entersOf Try.prog 64 = true := by kernel_rfl
theorem en65 : entersOf Try.prog 65 = true := by kernel_rfl
theorem en66 : entersOf Try.prog 66 = true := by kernel_rfl
theorem en67 : entersOf Try.prog 67 = true := by kernel_rfl
theorem en68 : entersOf Try.prog 68 = true := by kernel_rfl
theorem en69 : entersOf Try.prog 69 = true := by kernel_rfl
theorem en70 : entersOf Try.prog 70 = true := by kernel_rfl
theorem en71 : entersOf Try.prog 71 = true := by kernel_rfl
theorem en72 : entersOf Try.prog 72 = true := by kernel_rfl
theorem en73 : entersOf Try.prog 73 = true := by kernel_rfl
theorem en74 : entersOf Try.prog 74 = true := by kernel_rfl
theorem en75 : entersOf Try.prog 75 = true := by kernel_rfl
theorem en76 : entersOf Try.prog 76 = true := by kernel_rfl
theorem en77 : entersOf Try.prog 77 = true := by kernel_rfl
theorem en82 : entersOf Try.prog 82 = true := by kernel_rfl
theorem en83 : entersOf Try.prog 83 = true := by kernel_rfl
theorem en84 : entersOf Try.prog 84 = true := by kernel_rfl
theorem en85 : entersOf Try.prog 85 = true := by kernel_rfl
theorem en86 : entersOf Try.prog 86 = true := by kernel_rfl
theorem drawn : Try.prog.follows .mixedOrders = true := by kernel_rfl
end Go.Proofs.Ythgeodagikmpjaa.W
