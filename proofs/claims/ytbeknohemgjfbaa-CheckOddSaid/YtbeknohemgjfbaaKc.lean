/- Facts on the program's types, each a closed reckoning. Printed by gen.py. -/
import Derived.Test.YtbeknohemgjfbaaProg
import Derived.Test.YtbeknohemgjfbaaL22
namespace Go.Proofs.Ytbeknohemgjfbaa.W
open Go Go.Proofs Go.Proofs.Ytbeknohemgjfbaa.L Go.Proofs.Ytbeknohemgjfbaa.Pu
set_option linter.unusedVariables false

def rp_u64_u64 : Rep (Int × Int) := ground 2 (fun x => [.int .u64 x.1, .int .u64 x.2]) (fun _ => rfl) (fun x v hv => by simp at hv; rcases hv with rfl | rfl <;> rfl)
def rp_u64_u64_u64 : Rep (Int × Int × Int) := ground 3 (fun x => [.int .u64 x.1, .int .u64 x.2.1, .int .u64 x.2.2]) (fun _ => rfl) (fun x v hv => by simp at hv; rcases hv with rfl | rfl | rfl <;> rfl)
def rp_i64_i64_LLOu64_u64_C : Rep (Int × Int × List (List (Int × Int))) := opn (ι := Option Addr × Nat) 3 (fun x m => [.int .i64 x.1, .int .i64 x.2.1, .slice m.1 x.2.2.length m.2]) (fun x m => [slF (rSl rp_u64_u64) m.1 m.2 x.2.2]) (fun _ _ => rfl) (fun x m v hv => by simp only [List.mem_cons, List.not_mem_nil, or_false] at hv; rcases hv with rfl | rfl | rfl <;> rfl)
def rp_u64_i64_u64_u64_LOu64_u64_u64_C : Rep (Int × Int × Int × Int × List (Int × Int × Int)) := opn (ι := Option Addr × Nat) 5 (fun x m => [.int .u64 x.1, .int .i64 x.2.1, .int .u64 x.2.2.1, .int .u64 x.2.2.2.1, .slice m.1 x.2.2.2.2.length m.2]) (fun x m => [slF rp_u64_u64_u64 m.1 m.2 x.2.2.2.2]) (fun _ _ => rfl) (fun x m v hv => by simp only [List.mem_cons, List.not_mem_nil, or_false] at hv; rcases hv with rfl | rfl | rfl | rfl | rfl <;> rfl)
def rp_u64_i64_u64_LOu64_u64_C : Rep (Int × Int × Int × List (Int × Int)) := opn (ι := Option Addr × Nat) 4 (fun x m => [.int .u64 x.1, .int .i64 x.2.1, .int .u64 x.2.2.1, .slice m.1 x.2.2.2.length m.2]) (fun x m => [slF rp_u64_u64 m.1 m.2 x.2.2.2]) (fun _ _ => rfl) (fun x m v hv => by simp only [List.mem_cons, List.not_mem_nil, or_false] at hv; rcases hv with rfl | rfl | rfl | rfl <;> rfl)
theorem ty3 : tyOf Try.prog 3 = some (false, 1) := by kernel_rfl
theorem ty4 : tyOf Try.prog 4 = some (false, 1) := by kernel_rfl
theorem ty5 : tyOf Try.prog 5 = some (false, 1) := by kernel_rfl
theorem ty22 : tyOf Try.prog 22 = some (false, 1) := by kernel_rfl
theorem ty24 : tyOf Try.prog 24 = some (false, 1) := by kernel_rfl
theorem ty26 : tyOf Try.prog 26 = some (true, 3) := by kernel_rfl
theorem ty28 : tyOf Try.prog 28 = some (false, 1) := by kernel_rfl
theorem ty30 : tyOf Try.prog 30 = some (true, 2) := by kernel_rfl
theorem ty31 : tyOf Try.prog 31 = some (false, 1) := by kernel_rfl
theorem ty33 : tyOf Try.prog 33 = some (false, 1) := by kernel_rfl
theorem ty35 : tyOf Try.prog 35 = some (true, 3) := by kernel_rfl
theorem ty38 : tyOf Try.prog 38 = some (true, 3) := by kernel_rfl
theorem ty40 : tyOf Try.prog 40 = some (false, 1) := by kernel_rfl
theorem ty47 : tyOf Try.prog 47 = some (false, 1) := by kernel_rfl
theorem ty51 : tyOf Try.prog 51 = some (true, 2) := by kernel_rfl
theorem ty60 : tyOf Try.prog 60 = some (true, 6) := by kernel_rfl
theorem ty71 : tyOf Try.prog 71 = some (false, 1) := by kernel_rfl
theorem ty73 : tyOf Try.prog 73 = some (true, 5) := by kernel_rfl
theorem ty76 : tyOf Try.prog 76 = some (false, 1) := by kernel_rfl
theorem ty77 : tyOf Try.prog 77 = some (true, 5) := by kernel_rfl
theorem ty85 : tyOf Try.prog 85 = some (true, 3) := by kernel_rfl
theorem ty89 : tyOf Try.prog 89 = some (false, 1) := by kernel_rfl
theorem ty91 : tyOf Try.prog 91 = some (true, 9) := by kernel_rfl
theorem ty103 : tyOf Try.prog 103 = some (true, 2) := by kernel_rfl
theorem ty108 : tyOf Try.prog 108 = some (false, 1) := by kernel_rfl
theorem ty132 : tyOf Try.prog 132 = some (false, 1) := by kernel_rfl
theorem ty144 : tyOf Try.prog 144 = some (true, 3) := by kernel_rfl
theorem ty157 : tyOf Try.prog 157 = some (true, 9) := by kernel_rfl
theorem ty160 : tyOf Try.prog 160 = some (false, 1) := by kernel_rfl
theorem ty162 : tyOf Try.prog 162 = some (true, 6) := by kernel_rfl
theorem ty164 : tyOf Try.prog 164 = some (true, 12) := by kernel_rfl
theorem ty169 : tyOf Try.prog 169 = some (true, 4) := by kernel_rfl
theorem ty171 : tyOf Try.prog 171 = some (true, 9) := by kernel_rfl
theorem ty184 : tyOf Try.prog 184 = some (true, 2) := by kernel_rfl
theorem ty198 : tyOf Try.prog 198 = some (true, 2) := by kernel_rfl
theorem ty233 : tyOf Try.prog 233 = some (false, 1) := by kernel_rfl
theorem ty235 : tyOf Try.prog 235 = some (true, 6) := by kernel_rfl
theorem ty241 : tyOf Try.prog 241 = some (true, 4) := by kernel_rfl
theorem ty255 : tyOf Try.prog 255 = some (true, 2) := by kernel_rfl
theorem ty266 : tyOf Try.prog 266 = some (false, 1) := by kernel_rfl
theorem ty270 : tyOf Try.prog 270 = some (true, 3) := by kernel_rfl
theorem sl22 : sliceOf Try.prog 22 = some 103 := by kernel_rfl
theorem sl24 : sliceOf Try.prog 24 = some 31 := by kernel_rfl
theorem sl31 : sliceOf Try.prog 31 = some 30 := by kernel_rfl
theorem sl40 : sliceOf Try.prog 40 = some 5 := by kernel_rfl
theorem sl66 : sliceOf Try.prog 66 = some 22 := by kernel_rfl
theorem sl68 : sliceOf Try.prog 68 = some 76 := by kernel_rfl
theorem sl69 : sliceOf Try.prog 69 = some 73 := by kernel_rfl
theorem sl70 : sliceOf Try.prog 70 = some 77 := by kernel_rfl
theorem sl71 : sliceOf Try.prog 71 = some 85 := by kernel_rfl
theorem sl76 : sliceOf Try.prog 76 = some 144 := by kernel_rfl
theorem sl89 : sliceOf Try.prog 89 = some 184 := by kernel_rfl
theorem sl132 : sliceOf Try.prog 132 = some 26 := by kernel_rfl
theorem sl160 : sliceOf Try.prog 160 = some 266 := by kernel_rfl
theorem sl182 : sliceOf Try.prog 182 = some 28 := by kernel_rfl
theorem sl202 : sliceOf Try.prog 202 = some 40 := by kernel_rfl
theorem sl216 : sliceOf Try.prog 216 = some 71 := by kernel_rfl
theorem sl221 : sliceOf Try.prog 221 = some 3 := by kernel_rfl
theorem sl233 : sliceOf Try.prog 233 = some 132 := by kernel_rfl
theorem sl252 : sliceOf Try.prog 252 = some 255 := by kernel_rfl
theorem sl256 : sliceOf Try.prog 256 = some 4 := by kernel_rfl
theorem sl266 : sliceOf Try.prog 266 = some 35 := by kernel_rfl
theorem ar58 : arrayOf Try.prog 58 = some (4, 22) := by kernel_rfl
theorem ar109 : arrayOf Try.prog 109 = some (3, 108) := by kernel_rfl
theorem ar130 : arrayOf Try.prog 130 = some (4, 26) := by kernel_rfl
theorem ze3 : zeroOf Try.prog 3 = some [.int .i64 0] := by kernel_rfl
theorem ze4 : zeroOf Try.prog 4 = some [.bool false] := by kernel_rfl
theorem ze5 : zeroOf Try.prog 5 = some [.int .u8 0] := by kernel_rfl
theorem ze26 : zeroOf Try.prog 26 = some [.int .i64 0, .int .i64 0, .slice none 0 0] := by kernel_rfl
theorem ze28 : zeroOf Try.prog 28 = some [.int .u64 0] := by kernel_rfl
theorem ze30 : zeroOf Try.prog 30 = some [.int .u64 0, .int .u64 0] := by kernel_rfl
theorem ze31 : zeroOf Try.prog 31 = some [.slice none 0 0] := by kernel_rfl
theorem ze35 : zeroOf Try.prog 35 = some [.int .i64 0, .int .i64 0, .slice none 0 0] := by kernel_rfl
theorem ze40 : zeroOf Try.prog 40 = some [.slice none 0 0] := by kernel_rfl
theorem ze51 : zeroOf Try.prog 51 = some [.slice none 0 0, .int .i64 0] := by kernel_rfl
theorem ze71 : zeroOf Try.prog 71 = some [.slice none 0 0] := by kernel_rfl
theorem ze73 : zeroOf Try.prog 73 = some [.int .u64 0, .int .i64 0, .int .u64 0, .int .u64 0, .slice none 0 0] := by kernel_rfl
theorem ze77 : zeroOf Try.prog 77 = some [.int .u64 0, .int .i64 0, .int .u64 0, .int .u64 0, .slice none 0 0] := by kernel_rfl
theorem ze85 : zeroOf Try.prog 85 = some [.int .u64 0, .int .u64 0, .int .u64 0] := by kernel_rfl
theorem ze91 : zeroOf Try.prog 91 = some [.int .i64 0, .int .i64 0, .int .u64 0, .int .u64 0, .int .i64 0, .int .i64 0, .slice none 0 0, .int .i64 0, .int .i64 0] := by kernel_rfl
theorem ze103 : zeroOf Try.prog 103 = some [.int .u64 0, .int .u64 0] := by kernel_rfl
theorem ze109 : zeroOf Try.prog 109 = some [.nilFunc, .nilFunc, .nilFunc] := by kernel_rfl
theorem ze116 : zeroOf Try.prog 116 = some [.slice none 0 0, .int .i64 0] := by kernel_rfl
theorem ze120 : zeroOf Try.prog 120 = some [.pointer none, .int .u64 0] := by kernel_rfl
theorem ze130 : zeroOf Try.prog 130 = some [.int .i64 0, .int .i64 0, .slice none 0 0, .int .i64 0, .int .i64 0, .slice none 0 0, .int .i64 0, .int .i64 0, .slice none 0 0, .int .i64 0, .int .i64 0, .slice none 0 0] := by kernel_rfl
theorem ze132 : zeroOf Try.prog 132 = some [.slice none 0 0] := by kernel_rfl
theorem ze157 : zeroOf Try.prog 157 = some [.int .u64 0, .int .u64 0, .int .i64 0, .int .u64 0, .int .u64 0, .slice none 0 0, .int .i64 0, .int .i64 0, .slice none 0 0] := by kernel_rfl
theorem ze162 : zeroOf Try.prog 162 = some [.int .i64 0, .slice none 0 0, .slice none 0 0, .int .i64 0, .int .i64 0, .slice none 0 0] := by kernel_rfl
theorem ze164 : zeroOf Try.prog 164 = some [.int .u64 0, .int .u64 0, .int .i64 0, .int .u64 0, .int .u64 0, .slice none 0 0, .int .i64 0, .slice none 0 0, .slice none 0 0, .int .i64 0, .int .i64 0, .slice none 0 0] := by kernel_rfl
theorem ze169 : zeroOf Try.prog 169 = some [.int .i64 0, .int .i64 0, .int .u64 0, .slice none 0 0] := by kernel_rfl
theorem ze171 : zeroOf Try.prog 171 = some [.int .u64 0, .int .i64 0, .int .u64 0, .int .u64 0, .slice none 0 0, .int .i64 0, .int .i64 0, .int .u64 0, .slice none 0 0] := by kernel_rfl
theorem ze184 : zeroOf Try.prog 184 = some [.int .u64 0, .int .u64 0] := by kernel_rfl
theorem ze198 : zeroOf Try.prog 198 = some [.int .u64 0, .bool false] := by kernel_rfl
theorem ze235 : zeroOf Try.prog 235 = some [.int .i64 0, .slice none 0 0, .slice none 0 0, .int .i64 0, .int .i64 0, .slice none 0 0] := by kernel_rfl
theorem ze238 : zeroOf Try.prog 238 = some [.int .i64 0, .int .i64 0, .slice none 0 0] := by kernel_rfl
theorem ze241 : zeroOf Try.prog 241 = some [.int .i64 0, .int .i64 0, .int .u64 0, .slice none 0 0] := by kernel_rfl
theorem ze255 : zeroOf Try.prog 255 = some [.int .u64 0, .int .u64 0] := by kernel_rfl
theorem ze266 : zeroOf Try.prog 266 = some [.slice none 0 0] := by kernel_rfl
theorem ze270 : zeroOf Try.prog 270 = some [.int .i64 0, .int .u64 0, .slice none 0 0] := by kernel_rfl
theorem fo26_0 : fieldOff Try.prog 26 0 = some 0 := by kernel_rfl
theorem fo26_1 : fieldOff Try.prog 26 1 = some 1 := by kernel_rfl
theorem fo26_2 : fieldOff Try.prog 26 2 = some 2 := by kernel_rfl
theorem fo30_0 : fieldOff Try.prog 30 0 = some 0 := by kernel_rfl
theorem fo30_1 : fieldOff Try.prog 30 1 = some 1 := by kernel_rfl
theorem fo35_0 : fieldOff Try.prog 35 0 = some 0 := by kernel_rfl
theorem fo35_1 : fieldOff Try.prog 35 1 = some 1 := by kernel_rfl
theorem fo35_2 : fieldOff Try.prog 35 2 = some 2 := by kernel_rfl
theorem fo38_0 : fieldOff Try.prog 38 0 = some 0 := by kernel_rfl
theorem fo38_1 : fieldOff Try.prog 38 1 = some 1 := by kernel_rfl
theorem fo38_2 : fieldOff Try.prog 38 2 = some 2 := by kernel_rfl
theorem fo51_0 : fieldOff Try.prog 51 0 = some 0 := by kernel_rfl
theorem fo51_1 : fieldOff Try.prog 51 1 = some 1 := by kernel_rfl
theorem fo60_0 : fieldOff Try.prog 60 0 = some 0 := by kernel_rfl
theorem fo60_1 : fieldOff Try.prog 60 1 = some 1 := by kernel_rfl
theorem fo60_2 : fieldOff Try.prog 60 2 = some 5 := by kernel_rfl
theorem fo73_0 : fieldOff Try.prog 73 0 = some 0 := by kernel_rfl
theorem fo73_1 : fieldOff Try.prog 73 1 = some 1 := by kernel_rfl
theorem fo73_2 : fieldOff Try.prog 73 2 = some 2 := by kernel_rfl
theorem fo73_3 : fieldOff Try.prog 73 3 = some 3 := by kernel_rfl
theorem fo73_4 : fieldOff Try.prog 73 4 = some 4 := by kernel_rfl
theorem fo77_0 : fieldOff Try.prog 77 0 = some 0 := by kernel_rfl
theorem fo77_1 : fieldOff Try.prog 77 1 = some 1 := by kernel_rfl
theorem fo77_2 : fieldOff Try.prog 77 2 = some 2 := by kernel_rfl
theorem fo77_3 : fieldOff Try.prog 77 3 = some 3 := by kernel_rfl
theorem fo77_4 : fieldOff Try.prog 77 4 = some 4 := by kernel_rfl
theorem fo85_0 : fieldOff Try.prog 85 0 = some 0 := by kernel_rfl
theorem fo85_2 : fieldOff Try.prog 85 2 = some 2 := by kernel_rfl
theorem fo91_0 : fieldOff Try.prog 91 0 = some 0 := by kernel_rfl
theorem fo91_1 : fieldOff Try.prog 91 1 = some 1 := by kernel_rfl
theorem fo91_2 : fieldOff Try.prog 91 2 = some 2 := by kernel_rfl
theorem fo91_3 : fieldOff Try.prog 91 3 = some 3 := by kernel_rfl
theorem fo91_4 : fieldOff Try.prog 91 4 = some 4 := by kernel_rfl
theorem fo91_5 : fieldOff Try.prog 91 5 = some 5 := by kernel_rfl
theorem fo91_6 : fieldOff Try.prog 91 6 = some 6 := by kernel_rfl
theorem fo91_7 : fieldOff Try.prog 91 7 = some 7 := by kernel_rfl
theorem fo91_8 : fieldOff Try.prog 91 8 = some 8 := by kernel_rfl
theorem fo103_0 : fieldOff Try.prog 103 0 = some 0 := by kernel_rfl
theorem fo103_1 : fieldOff Try.prog 103 1 = some 1 := by kernel_rfl
theorem fo116_0 : fieldOff Try.prog 116 0 = some 0 := by kernel_rfl
theorem fo116_1 : fieldOff Try.prog 116 1 = some 1 := by kernel_rfl
theorem fo120_0 : fieldOff Try.prog 120 0 = some 0 := by kernel_rfl
theorem fo120_1 : fieldOff Try.prog 120 1 = some 1 := by kernel_rfl
theorem fo144_0 : fieldOff Try.prog 144 0 = some 0 := by kernel_rfl
theorem fo162_2 : fieldOff Try.prog 162 2 = some 2 := by kernel_rfl
theorem fo184_0 : fieldOff Try.prog 184 0 = some 0 := by kernel_rfl
theorem fo184_1 : fieldOff Try.prog 184 1 = some 1 := by kernel_rfl
theorem fo198_0 : fieldOff Try.prog 198 0 = some 0 := by kernel_rfl
theorem fo198_1 : fieldOff Try.prog 198 1 = some 1 := by kernel_rfl
theorem fo235_0 : fieldOff Try.prog 235 0 = some 0 := by kernel_rfl
theorem fo235_1 : fieldOff Try.prog 235 1 = some 1 := by kernel_rfl
theorem fo235_2 : fieldOff Try.prog 235 2 = some 2 := by kernel_rfl
theorem fo235_3 : fieldOff Try.prog 235 3 = some 3 := by kernel_rfl
theorem fo238_0 : fieldOff Try.prog 238 0 = some 0 := by kernel_rfl
theorem fo238_1 : fieldOff Try.prog 238 1 = some 1 := by kernel_rfl
theorem fo238_2 : fieldOff Try.prog 238 2 = some 2 := by kernel_rfl
theorem fo241_0 : fieldOff Try.prog 241 0 = some 0 := by kernel_rfl
theorem fo241_1 : fieldOff Try.prog 241 1 = some 1 := by kernel_rfl
theorem fo241_2 : fieldOff Try.prog 241 2 = some 2 := by kernel_rfl
theorem fo255_0 : fieldOff Try.prog 255 0 = some 0 := by kernel_rfl
theorem fo255_1 : fieldOff Try.prog 255 1 = some 1 := by kernel_rfl
theorem pl26 : placesOf Try.prog 26 = some [(0, 1), (1, 1), (2, 1)] := by kernel_rfl
theorem pl30 : placesOf Try.prog 30 = some [(0, 1), (1, 1)] := by kernel_rfl
theorem pl35 : placesOf Try.prog 35 = some [(0, 1), (1, 1), (2, 1)] := by kernel_rfl
theorem pl51 : placesOf Try.prog 51 = some [(0, 1), (1, 1)] := by kernel_rfl
theorem pl73 : placesOf Try.prog 73 = some [(0, 1), (1, 1), (2, 1), (3, 1), (4, 1)] := by kernel_rfl
theorem pl77 : placesOf Try.prog 77 = some [(0, 1), (1, 1), (2, 1), (3, 1), (4, 1)] := by kernel_rfl
theorem pl85 : placesOf Try.prog 85 = some [(0, 1), (1, 1), (2, 1)] := by kernel_rfl
theorem pl91 : placesOf Try.prog 91 = some [(0, 1), (1, 1), (2, 1), (3, 1), (4, 1), (5, 1), (6, 1), (7, 1), (8, 1)] := by kernel_rfl
theorem pl103 : placesOf Try.prog 103 = some [(0, 1), (1, 1)] := by kernel_rfl
theorem pl116 : placesOf Try.prog 116 = some [(0, 1), (1, 1)] := by kernel_rfl
theorem pl120 : placesOf Try.prog 120 = some [(0, 1), (1, 1)] := by kernel_rfl
theorem pl157 : placesOf Try.prog 157 = some [(0, 1), (1, 5), (6, 3)] := by kernel_rfl
theorem pl162 : placesOf Try.prog 162 = some [(0, 1), (1, 1), (2, 1), (3, 3)] := by kernel_rfl
theorem pl164 : placesOf Try.prog 164 = some [(0, 1), (1, 5), (6, 6)] := by kernel_rfl
theorem pl169 : placesOf Try.prog 169 = some [(0, 1), (1, 1), (2, 1), (3, 1)] := by kernel_rfl
theorem pl171 : placesOf Try.prog 171 = some [(0, 5), (5, 4)] := by kernel_rfl
theorem pl184 : placesOf Try.prog 184 = some [(0, 1), (1, 1)] := by kernel_rfl
theorem pl198 : placesOf Try.prog 198 = some [(0, 1), (1, 1)] := by kernel_rfl
theorem pl235 : placesOf Try.prog 235 = some [(0, 1), (1, 1), (2, 1), (3, 3)] := by kernel_rfl
theorem pl238 : placesOf Try.prog 238 = some [(0, 1), (1, 1), (2, 1)] := by kernel_rfl
theorem pl241 : placesOf Try.prog 241 = some [(0, 1), (1, 1), (2, 1), (3, 1)] := by kernel_rfl
theorem pl255 : placesOf Try.prog 255 = some [(0, 1), (1, 1)] := by kernel_rfl
theorem pl270 : placesOf Try.prog 270 = some [(0, 1), (1, 1), (2, 1)] := by kernel_rfl
theorem by4 : bytesOf Try.prog 4 = some 1 := by kernel_rfl
theorem by5 : bytesOf Try.prog 5 = some 1 := by kernel_rfl
theorem by26 : bytesOf Try.prog 26 = some 40 := by kernel_rfl
theorem by28 : bytesOf Try.prog 28 = some 8 := by kernel_rfl
theorem by30 : bytesOf Try.prog 30 = some 16 := by kernel_rfl
theorem by31 : bytesOf Try.prog 31 = some 24 := by kernel_rfl
theorem by35 : bytesOf Try.prog 35 = some 40 := by kernel_rfl
theorem by73 : bytesOf Try.prog 73 = some 56 := by kernel_rfl
theorem by77 : bytesOf Try.prog 77 = some 56 := by kernel_rfl
theorem by85 : bytesOf Try.prog 85 = some 24 := by kernel_rfl
theorem by132 : bytesOf Try.prog 132 = some 24 := by kernel_rfl
theorem by184 : bytesOf Try.prog 184 = some 16 := by kernel_rfl
theorem by255 : bytesOf Try.prog 255 = some 16 := by kernel_rfl
theorem by266 : bytesOf Try.prog 266 = some 24 := by kernel_rfl
theorem mp174 : mapOf Try.prog 174 = some (3, 175) := by kernel_rfl
theorem zv175 : zvOf Try.prog 175 = some (.nilFunc) := by kernel_rfl
theorem if30 : intFields Try.prog 30 = some [0, 1] := by kernel_rfl
theorem eg30 : Try.prog.eqGuardType Try.prog.depth 30 = false := by kernel_rfl
theorem if85 : intFields Try.prog 85 = some [0, 1, 2] := by kernel_rfl
theorem eg85 : Try.prog.eqGuardType Try.prog.depth 85 = false := by kernel_rfl
theorem if184 : intFields Try.prog 184 = some [0, 1] := by kernel_rfl
theorem eg184 : Try.prog.eqGuardType Try.prog.depth 184 = false := by kernel_rfl
theorem en15 : entersOf Try.prog 15 = true := by kernel_rfl
theorem en16 : entersOf Try.prog 16 = true := by kernel_rfl
theorem en17 : entersOf Try.prog 17 = true := by kernel_rfl
theorem en18 : entersOf Try.prog 18 = true := by kernel_rfl
theorem en19 : entersOf Try.prog 19 = true := by kernel_rfl
theorem en20 : entersOf Try.prog 20 = true := by kernel_rfl
theorem en21 : entersOf Try.prog 21 = true := by kernel_rfl
theorem en22 : entersOf Try.prog 22 = true := by kernel_rfl
theorem en23 : entersOf Try.prog 23 = true := by kernel_rfl
theorem en24 : entersOf Try.prog 24 = true := by kernel_rfl
theorem en25 : entersOf Try.prog 25 = true := by kernel_rfl
theorem en26 : entersOf Try.prog 26 = true := by kernel_rfl
theorem en27 : entersOf Try.prog 27 = true := by kernel_rfl
theorem en28 : entersOf Try.prog 28 = true := by kernel_rfl
theorem en29 : entersOf Try.prog 29 = true := by kernel_rfl
theorem en30 : entersOf Try.prog 30 = true := by kernel_rfl
theorem en31 : entersOf Try.prog 31 = true := by kernel_rfl
theorem en32 : entersOf Try.prog 32 = true := by kernel_rfl
theorem en33 : entersOf Try.prog 33 = true := by kernel_rfl
theorem en34 : entersOf Try.prog 34 = true := by kernel_rfl
theorem en35 : entersOf Try.prog 35 = true := by kernel_rfl
theorem en36 : entersOf Try.prog 36 = true := by kernel_rfl
theorem en37 : entersOf Try.prog 37 = true := by kernel_rfl
theorem en38 : entersOf Try.prog 38 = true := by kernel_rfl
theorem en39 : entersOf Try.prog 39 = true := by kernel_rfl
theorem en40 : entersOf Try.prog 40 = true := by kernel_rfl
theorem en41 : entersOf Try.prog 41 = true := by kernel_rfl
theorem en42 : entersOf Try.prog 42 = true := by kernel_rfl
theorem en43 : entersOf Try.prog 43 = true := by kernel_rfl
theorem en44 : entersOf Try.prog 44 = true := by kernel_rfl
theorem en45 : entersOf Try.prog 45 = true := by kernel_rfl
theorem en46 : entersOf Try.prog 46 = true := by kernel_rfl
theorem en47 : entersOf Try.prog 47 = true := by kernel_rfl
theorem en48 : entersOf Try.prog 48 = true := by kernel_rfl
theorem en49 : entersOf Try.prog 49 = true := by kernel_rfl
theorem en50 : entersOf Try.prog 50 = true := by kernel_rfl
theorem en51 : entersOf Try.prog 51 = true := by kernel_rfl
theorem en52 : entersOf Try.prog 52 = true := by kernel_rfl
theorem en53 : entersOf Try.prog 53 = true := by kernel_rfl
theorem en54 : entersOf Try.prog 54 = true := by kernel_rfl
theorem en55 : entersOf Try.prog 55 = true := by kernel_rfl
theorem en56 : entersOf Try.prog 56 = true := by kernel_rfl
theorem en57 : entersOf Try.prog 57 = true := by kernel_rfl
theorem en58 : entersOf Try.prog 58 = true := by kernel_rfl
theorem en59 : entersOf Try.prog 59 = true := by kernel_rfl
theorem en60 : entersOf Try.prog 60 = true := by kernel_rfl
theorem en61 : entersOf Try.prog 61 = true := by kernel_rfl
theorem en62 : entersOf Try.prog 62 = true := by kernel_rfl
theorem en63 : entersOf Try.prog 63 = true := by kernel_rfl
theorem en64 : entersOf Try.prog 64 = true := by kernel_rfl
theorem en65 : entersOf Try.prog 65 = true := by kernel_rfl
theorem en66 : entersOf Try.prog 66 = true := by kernel_rfl
theorem en67 : entersOf Try.prog 67 = true := by kernel_rfl
theorem en68 : entersOf Try.prog 68 = true := by kernel_rfl
theorem en69 : entersOf Try.prog 69 = true := by kernel_rfl
theorem en70 : entersOf Try.prog 70 = true := by kernel_rfl
theorem en71 : entersOf Try.prog 71 = true := by kernel_rfl
theorem en72 : entersOf Try.prog 72 = true := by kernel_rfl
theorem en73 : entersOf Try.prog 73 = true := by kernel_rfl
theorem en74 : entersOf Try.prog 74 = true := by kernel_rfl
theorem en75 : entersOf Try.prog 75 = true := by kernel_rfl
theorem en76 : entersOf Try.prog 76 = true := by kernel_rfl
theorem en77 : entersOf Try.prog 77 = true := by kernel_rfl
theorem en78 : entersOf Try.prog 78 = true := by kernel_rfl
theorem en79 : entersOf Try.prog 79 = true := by kernel_rfl
theorem en80 : entersOf Try.prog 80 = true := by kernel_rfl
theorem en81 : entersOf Try.prog 81 = true := by kernel_rfl
theorem en82 : entersOf Try.prog 82 = true := by kernel_rfl
theorem en83 : entersOf Try.prog 83 = true := by kernel_rfl
theorem en84 : entersOf Try.prog 84 = true := by kernel_rfl
theorem en85 : entersOf Try.prog 85 = true := by kernel_rfl
theorem en86 : entersOf Try.prog 86 = true := by kernel_rfl
theorem en87 : entersOf Try.prog 87 = true := by kernel_rfl
theorem en88 : entersOf Try.prog 88 = true := by kernel_rfl
theorem en89 : entersOf Try.prog 89 = true := by kernel_rfl
theorem en90 : entersOf Try.prog 90 = true := by kernel_rfl
theorem en91 : entersOf Try.prog 91 = true := by kernel_rfl
theorem en92 : entersOf Try.prog 92 = true := by kernel_rfl
theorem en93 : entersOf Try.prog 93 = true := by kernel_rfl
theorem en94 : entersOf Try.prog 94 = true := by kernel_rfl
theorem en95 : entersOf Try.prog 95 = true := by kernel_rfl
theorem en96 : entersOf Try.prog 96 = true := by kernel_rfl
theorem en97 : entersOf Try.prog 97 = true := by kernel_rfl
theorem en98 : entersOf Try.prog 98 = true := by kernel_rfl
theorem en99 : entersOf Try.prog 99 = true := by kernel_rfl
theorem en100 : entersOf Try.prog 100 = true := by kernel_rfl
theorem en101 : entersOf Try.prog 101 = true := by kernel_rfl
theorem en102 : entersOf Try.prog 102 = true := by kernel_rfl
theorem en103 : entersOf Try.prog 103 = true := by kernel_rfl
theorem en104 : entersOf Try.prog 104 = true := by kernel_rfl
theorem en105 : entersOf Try.prog 105 = true := by kernel_rfl
theorem en106 : entersOf Try.prog 106 = true := by kernel_rfl
theorem en107 : entersOf Try.prog 107 = true := by kernel_rfl
theorem en108 : entersOf Try.prog 108 = true := by kernel_rfl
theorem en109 : entersOf Try.prog 109 = true := by kernel_rfl
theorem en110 : entersOf Try.prog 110 = true := by kernel_rfl
theorem en111 : entersOf Try.prog 111 = true := by kernel_rfl
theorem en112 : entersOf Try.prog 112 = true := by kernel_rfl
theorem en113 : entersOf Try.prog 113 = true := by kernel_rfl
theorem en114 : entersOf Try.prog 114 = true := by kernel_rfl
theorem en115 : entersOf Try.prog 115 = true := by kernel_rfl
theorem en116 : entersOf Try.prog 116 = true := by kernel_rfl
theorem en117 : entersOf Try.prog 117 = true := by kernel_rfl
theorem en118 : entersOf Try.prog 118 = true := by kernel_rfl
theorem en119 : entersOf Try.prog 119 = true := by kernel_rfl
theorem en120 : entersOf Try.prog 120 = true := by kernel_rfl
theorem en121 : entersOf Try.prog 121 = true := by kernel_rfl
theorem en122 : entersOf Try.prog 122 = true := by kernel_rfl
theorem en123 : entersOf Try.prog 123 = true := by kernel_rfl
theorem en124 : entersOf Try.prog 124 = true := by kernel_rfl
theorem en125 : entersOf Try.prog 125 = true := by kernel_rfl
theorem en126 : entersOf Try.prog 126 = true := by kernel_rfl
theorem en127 : entersOf Try.prog 127 = true := by kernel_rfl
theorem en128 : entersOf Try.prog 128 = true := by kernel_rfl
theorem en129 : entersOf Try.prog 129 = true := by kernel_rfl
theorem en130 : entersOf Try.prog 130 = true := by kernel_rfl
theorem en131 : entersOf Try.prog 131 = true := by kernel_rfl
theorem en132 : entersOf Try.prog 132 = true := by kernel_rfl
theorem en133 : entersOf Try.prog 133 = true := by kernel_rfl
theorem en134 : entersOf Try.prog 134 = true := by kernel_rfl
theorem en135 : entersOf Try.prog 135 = true := by kernel_rfl
theorem en136 : entersOf Try.prog 136 = true := by kernel_rfl
theorem en137 : entersOf Try.prog 137 = true := by kernel_rfl
theorem en138 : entersOf Try.prog 138 = true := by kernel_rfl
theorem en139 : entersOf Try.prog 139 = true := by kernel_rfl
theorem en140 : entersOf Try.prog 140 = true := by kernel_rfl
theorem en141 : entersOf Try.prog 141 = true := by kernel_rfl
theorem en142 : entersOf Try.prog 142 = true := by kernel_rfl
theorem en143 : entersOf Try.prog 143 = true := by kernel_rfl
theorem en144 : entersOf Try.prog 144 = true := by kernel_rfl
theorem en145 : entersOf Try.prog 145 = true := by kernel_rfl
theorem en146 : entersOf Try.prog 146 = true := by kernel_rfl
theorem en147 : entersOf Try.prog 147 = true := by kernel_rfl
theorem en148 : entersOf Try.prog 148 = true := by kernel_rfl
theorem en149 : entersOf Try.prog 149 = true := by kernel_rfl
theorem en150 : entersOf Try.prog 150 = true := by kernel_rfl
theorem en151 : entersOf Try.prog 151 = true := by kernel_rfl
theorem en152 : entersOf Try.prog 152 = true := by kernel_rfl
theorem en153 : entersOf Try.prog 153 = true := by kernel_rfl
theorem en154 : entersOf Try.prog 154 = true := by kernel_rfl
theorem en155 : entersOf Try.prog 155 = true := by kernel_rfl
theorem en156 : entersOf Try.prog 156 = true := by kernel_rfl
theorem en157 : entersOf Try.prog 157 = true := by kernel_rfl
theorem en158 : entersOf Try.prog 158 = true := by kernel_rfl
theorem en159 : entersOf Try.prog 159 = true := by kernel_rfl
theorem en160 : entersOf Try.prog 160 = true := by kernel_rfl
theorem en161 : entersOf Try.prog 161 = true := by kernel_rfl
theorem en162 : entersOf Try.prog 162 = true := by kernel_rfl
theorem en163 : entersOf Try.prog 163 = true := by kernel_rfl
theorem en164 : entersOf Try.prog 164 = true := by kernel_rfl
theorem en165 : entersOf Try.prog 165 = true := by kernel_rfl
theorem en166 : entersOf Try.prog 166 = true := by kernel_rfl
theorem en167 : entersOf Try.prog 167 = true := by kernel_rfl
theorem en168 : entersOf Try.prog 168 = true := by kernel_rfl
theorem en169 : entersOf Try.prog 169 = true := by kernel_rfl
theorem en170 : entersOf Try.prog 170 = true := by kernel_rfl
theorem en171 : entersOf Try.prog 171 = true := by kernel_rfl
theorem en172 : entersOf Try.prog 172 = true := by kernel_rfl
theorem en173 : entersOf Try.prog 173 = true := by kernel_rfl
theorem en174 : entersOf Try.prog 174 = true := by kernel_rfl
theorem en175 : entersOf Try.prog 175 = true := by kernel_rfl
theorem en176 : entersOf Try.prog 176 = true := by kernel_rfl
theorem en177 : entersOf Try.prog 177 = true := by kernel_rfl
theorem en178 : entersOf Try.prog 178 = true := by kernel_rfl
theorem en179 : entersOf Try.prog 179 = true := by kernel_rfl
theorem en180 : entersOf Try.prog 180 = true := by kernel_rfl
theorem en181 : entersOf Try.prog 181 = true := by kernel_rfl
theorem en182 : entersOf Try.prog 182 = true := by kernel_rfl
theorem en183 : entersOf Try.prog 183 = true := by kernel_rfl
theorem en184 : entersOf Try.prog 184 = true := by kernel_rfl
theorem en185 : entersOf Try.prog 185 = true := by kernel_rfl
theorem en186 : entersOf Try.prog 186 = true := by kernel_rfl
theorem en187 : entersOf Try.prog 187 = true := by kernel_rfl
theorem en188 : entersOf Try.prog 188 = true := by kernel_rfl
theorem en190 : entersOf Try.prog 190 = true := by kernel_rfl
theorem drawn : Try.prog.follows .mixedOrders = true := by kernel_rfl
end Go.Proofs.Ytbeknohemgjfbaa.W
