/- Facts on the program's types, each a closed reckoning. Printed by gen.py. -/
import Derived.Test.YtbnjjpmlaknaoaaProg
import Derived.Test.YtbnjjpmlaknaoaaL15
namespace Go.Proofs.Ytbnjjpmlaknaoaa.W
open Go Go.Proofs Go.Proofs.Ytbnjjpmlaknaoaa.L Go.Proofs.Ytbnjjpmlaknaoaa.Pu
set_option linter.unusedVariables false

def rp_u64_u64 : Rep (Int × Int) := ground 2 (fun x => [.int .u64 x.1, .int .u64 x.2]) (fun _ => rfl) (fun x v hv => by simp at hv; rcases hv with rfl | rfl <;> rfl)
theorem ty3 : tyOf Try.prog 3 = some (false, 1) := by kernel_rfl
theorem ty4 : tyOf Try.prog 4 = some (false, 1) := by kernel_rfl
theorem ty5 : tyOf Try.prog 5 = some (false, 1) := by kernel_rfl
theorem ty23 : tyOf Try.prog 23 = some (false, 1) := by kernel_rfl
theorem ty26 : tyOf Try.prog 26 = some (false, 1) := by kernel_rfl
theorem ty28 : tyOf Try.prog 28 = some (true, 3) := by kernel_rfl
theorem ty31 : tyOf Try.prog 31 = some (true, 3) := by kernel_rfl
theorem ty38 : tyOf Try.prog 38 = some (false, 1) := by kernel_rfl
theorem ty41 : tyOf Try.prog 41 = some (true, 2) := by kernel_rfl
theorem ty67 : tyOf Try.prog 67 = some (true, 3) := by kernel_rfl
theorem ty80 : tyOf Try.prog 80 = some (true, 2) := by kernel_rfl
theorem ty99 : tyOf Try.prog 99 = some (false, 1) := by kernel_rfl
theorem ty104 : tyOf Try.prog 104 = some (false, 1) := by kernel_rfl
theorem ty114 : tyOf Try.prog 114 = some (false, 1) := by kernel_rfl
theorem ty125 : tyOf Try.prog 125 = some (true, 2) := by kernel_rfl
theorem sl22 : sliceOf Try.prog 22 = some 80 := by kernel_rfl
theorem sl26 : sliceOf Try.prog 26 = some 38 := by kernel_rfl
theorem sl38 : sliceOf Try.prog 38 = some 41 := by kernel_rfl
theorem sl64 : sliceOf Try.prog 64 = some 5 := by kernel_rfl
theorem ar24 : arrayOf Try.prog 24 = some (3, 23) := by kernel_rfl
theorem ar37 : arrayOf Try.prog 37 = some (2, 23) := by kernel_rfl
theorem ar49 : arrayOf Try.prog 49 = some (4, 23) := by kernel_rfl
theorem ar52 : arrayOf Try.prog 52 = some (5, 23) := by kernel_rfl
theorem ar57 : arrayOf Try.prog 57 = some (3, 5) := by kernel_rfl
theorem ar68 : arrayOf Try.prog 68 = some (2, 3) := by kernel_rfl
theorem ar107 : arrayOf Try.prog 107 = some (2, 38) := by kernel_rfl
theorem ar115 : arrayOf Try.prog 115 = some (3, 114) := by kernel_rfl
theorem ze23 : zeroOf Try.prog 23 = some [.int .u64 0] := by kernel_rfl
theorem ze28 : zeroOf Try.prog 28 = some [.int .i64 0, .int .i64 0, .slice none 0 0] := by kernel_rfl
theorem ze31 : zeroOf Try.prog 31 = some [.int .i64 0, .int .i64 0, .slice none 0 0] := by kernel_rfl
theorem ze38 : zeroOf Try.prog 38 = some [.slice none 0 0] := by kernel_rfl
theorem ze41 : zeroOf Try.prog 41 = some [.int .u64 0, .int .u64 0] := by kernel_rfl
theorem ze80 : zeroOf Try.prog 80 = some [.int .u64 0, .int .u64 0] := by kernel_rfl
theorem ze99 : zeroOf Try.prog 99 = some [.nilFunc] := by kernel_rfl
theorem ze104 : zeroOf Try.prog 104 = some [.pointer none] := by kernel_rfl
theorem ze106 : zeroOf Try.prog 106 = some [.slice none 0 0, .int .u64 0, .int .u64 0] := by kernel_rfl
theorem ze107 : zeroOf Try.prog 107 = some [.slice none 0 0, .slice none 0 0] := by kernel_rfl
theorem ze115 : zeroOf Try.prog 115 = some [.nilFunc, .nilFunc, .nilFunc] := by kernel_rfl
theorem ze125 : zeroOf Try.prog 125 = some [.int .u64 0, .bool false] := by kernel_rfl
theorem fo28_0 : fieldOff Try.prog 28 0 = some 0 := by kernel_rfl
theorem fo28_1 : fieldOff Try.prog 28 1 = some 1 := by kernel_rfl
theorem fo28_2 : fieldOff Try.prog 28 2 = some 2 := by kernel_rfl
theorem fo31_0 : fieldOff Try.prog 31 0 = some 0 := by kernel_rfl
theorem fo31_1 : fieldOff Try.prog 31 1 = some 1 := by kernel_rfl
theorem fo31_2 : fieldOff Try.prog 31 2 = some 2 := by kernel_rfl
theorem fo41_0 : fieldOff Try.prog 41 0 = some 0 := by kernel_rfl
theorem fo41_1 : fieldOff Try.prog 41 1 = some 1 := by kernel_rfl
theorem fo67_0 : fieldOff Try.prog 67 0 = some 0 := by kernel_rfl
theorem fo67_1 : fieldOff Try.prog 67 1 = some 1 := by kernel_rfl
theorem fo67_2 : fieldOff Try.prog 67 2 = some 2 := by kernel_rfl
theorem fo80_0 : fieldOff Try.prog 80 0 = some 0 := by kernel_rfl
theorem fo80_1 : fieldOff Try.prog 80 1 = some 1 := by kernel_rfl
theorem fo106_0 : fieldOff Try.prog 106 0 = some 0 := by kernel_rfl
theorem fo106_1 : fieldOff Try.prog 106 1 = some 1 := by kernel_rfl
theorem fo106_2 : fieldOff Try.prog 106 2 = some 2 := by kernel_rfl
theorem fo125_0 : fieldOff Try.prog 125 0 = some 0 := by kernel_rfl
theorem fo125_1 : fieldOff Try.prog 125 1 = some 1 := by kernel_rfl
theorem ft31_2 : fieldTy Try.prog 31 2 = some (2, 26) := by kernel_rfl
theorem pl28 : placesOf Try.prog 28 = some [(0, 1), (1, 1), (2, 1)] := by kernel_rfl
theorem pl31 : placesOf Try.prog 31 = some [(0, 1), (1, 1), (2, 1)] := by kernel_rfl
theorem pl41 : placesOf Try.prog 41 = some [(0, 1), (1, 1)] := by kernel_rfl
theorem pl80 : placesOf Try.prog 80 = some [(0, 1), (1, 1)] := by kernel_rfl
theorem pl106 : placesOf Try.prog 106 = some [(0, 1), (1, 1), (2, 1)] := by kernel_rfl
theorem pl125 : placesOf Try.prog 125 = some [(0, 1), (1, 1)] := by kernel_rfl
theorem by38 : bytesOf Try.prog 38 = some 24 := by kernel_rfl
theorem by41 : bytesOf Try.prog 41 = some 16 := by kernel_rfl
theorem if41 : intFields Try.prog 41 = some [0, 1] := by kernel_rfl
theorem eg41 : Try.prog.eqGuardType Try.prog.depth 41 = false := by kernel_rfl
theorem en29 : entersOf Try.prog 29 = true := by kernel_rfl
theorem en30 : entersOf Try.prog 30 = true := by kernel_rfl
theorem en31 : entersOf Try.prog 31 = true := by kernel_rfl
theorem en32 : entersOf Try.prog 32 = true := by kernel_rfl
theorem en33 : entersOf Try.prog 33 = true := by kernel_rfl
theorem en34 : entersOf Try.prog 34 = true := by kernel_rfl
theorem en35 : entersOf Try.prog 35 = true := by kernel_rfl
theorem en36 : entersOf Try.prog 36 = true := by kernel_rfl
theorem en37 : entersOf Try.prog 37 = true := by kernel_rfl
theorem en38 : entersOf Try.prog 38 = true := by kernel_rfl
theorem en39 : entersOf Try.prog 39 = true := by kernel_rfl
theorem en40 : entersOf Try.prog 40 = true := by kernel_rfl
theorem en41 : entersOf Try.prog 41 = true := by kernel_rfl
theorem en42 : entersOf Try.prog 42 = true := by kernel_rfl
theorem en43 : entersOf Try.prog 43 = true := by kernel_rfl
theorem en44 : entersOf Try.prog 44 = true := by kernel_rfl
theorem en45 : entersOf Try.prog 45 = true := by kernel_rfl
theorem en46 : entersOf Try.prog 46 = true := by kernel_rfl
theorem en47 : entersOf Try.prog 47 = true := by kernel_rfl
theorem en48 : entersOf Try.prog 48 = true := by kernel_rfl
theorem en49 : entersOf Try.prog 49 = true := by kernel_rfl
theorem en50 : entersOf Try.prog 50 = true := by kernel_rfl
theorem en51 : entersOf Try.prog 51 = true := by kernel_rfl
theorem en52 : entersOf Try.prog 52 = true := by kernel_rfl
theorem en53 : entersOf Try.prog 53 = true := by kernel_rfl
theorem en54 : entersOf Try.prog 54 = true := by kernel_rfl
theorem en55 : entersOf Try.prog 55 = true := by kernel_rfl
theorem en56 : entersOf Try.prog 56 = true := by kernel_rfl
theorem en57 : entersOf Try.prog 57 = true := by kernel_rfl
theorem en58 : entersOf Try.prog 58 = true := by kernel_rfl
theorem en59 : entersOf Try.prog 59 = true := by kernel_rfl
theorem en60 : entersOf Try.prog 60 = true := by kernel_rfl
theorem en61 : entersOf Try.prog 61 = true := by kernel_rfl
theorem en62 : entersOf Try.prog 62 = true := by kernel_rfl
theorem en63 : entersOf Try.prog 63 = true := by kernel_rfl
theorem en64 : entersOf Try.prog 64 = true := by kernel_rfl
theorem en65 : entersOf Try.prog 65 = true := by kernel_rfl
theorem en67 : entersOf Try.prog 67 = true := by kernel_rfl
theorem en68 : entersOf Try.prog 68 = true := by kernel_rfl
theorem en69 : entersOf Try.prog 69 = true := by kernel_rfl
theorem en70 : entersOf Try.prog 70 = true := by kernel_rfl
theorem en71 : entersOf Try.prog 71 = true := by kernel_rfl
theorem en72 : entersOf Try.prog 72 = true := by kernel_rfl
theorem en73 : entersOf Try.prog 73 = true := by kernel_rfl
theorem en74 : entersOf Try.prog 74 = true := by kernel_rfl
theorem en75 : entersOf Try.prog 75 = true := by kernel_rfl
theorem en76 : entersOf Try.prog 76 = true := by kernel_rfl
theorem en77 : entersOf Try.prog 77 = true := by kernel_rfl
theorem en78 : entersOf Try.prog 78 = true := by kernel_rfl
theorem en79 : entersOf Try.prog 79 = true := by kernel_rfl
theorem en80 : entersOf Try.prog 80 = true := by kernel_rfl
theorem en81 : entersOf Try.prog 81 = true := by kernel_rfl
theorem en82 : entersOf Try.prog 82 = true := by kernel_rfl
theorem en83 : entersOf Try.prog 83 = true := by kernel_rfl
theorem en84 : entersOf Try.prog 84 = true := by kernel_rfl
theorem en85 : entersOf Try.prog 85 = true := by kernel_rfl
theorem en86 : entersOf Try.prog 86 = true := by kernel_rfl
theorem en87 : entersOf Try.prog 87 = true := by kernel_rfl
theorem en88 : entersOf Try.prog 88 = true := by kernel_rfl
theorem en89 : entersOf Try.prog 89 = true := by kernel_rfl
theorem en90 : entersOf Try.prog 90 = true := by kernel_rfl
theorem en91 : entersOf Try.prog 91 = true := by kernel_rfl
theorem en92 : entersOf Try.prog 92 = true := by kernel_rfl
theorem en93 : entersOf Try.prog 93 = true := by kernel_rfl
theorem en94 : entersOf Try.prog 94 = true := by kernel_rfl
theorem en95 : entersOf Try.prog 95 = true := by kernel_rfl
theorem en96 : entersOf Try.prog 96 = true := by kernel_rfl
theorem en97 : entersOf Try.prog 97 = true := by kernel_rfl
theorem en98 : entersOf Try.prog 98 = true := by kernel_rfl
theorem en99 : entersOf Try.prog 99 = true := by kernel_rfl
theorem en100 : entersOf Try.prog 100 = true := by kernel_rfl
theorem en101 : entersOf Try.prog 101 = true := by kernel_rfl
theorem en102 : entersOf Try.prog 102 = true := by kernel_rfl
theorem en103 : entersOf Try.prog 103 = true := by kernel_rfl
theorem en104 : entersOf Try.prog 104 = true := by kernel_rfl
theorem en105 : entersOf Try.prog 105 = true := by kernel_rfl
theorem drawn : Try.prog.follows .mixedOrders = true := by kernel_rfl
end Go.Proofs.Ytbnjjpmlaknaoaa.W
