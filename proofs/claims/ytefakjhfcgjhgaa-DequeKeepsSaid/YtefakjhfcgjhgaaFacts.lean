/-
  Closed facts on the types and the functions of this translation: sizes, offsets, zero values; each proved by the kernel.
-/
import Derived.Test.YtefakjhfcgjhgaaRows
import Derived.Test.YtefakjhfcgjhgaaCore
import Derived.KernelRfl
set_option linter.unusedVariables false
namespace Go.Proofs.Ytefakjhfcgjhgaa
open Go

theorem mxo : Try.prog.follows .mixedOrders = true := by kernel_rfl
theorem sh1 : XL.shapeOf Try.prog 1 = some (false, 1) := by kernel_rfl
theorem ze1 : XL.zeroOf Try.prog 1 = some (.nilFunc) := by kernel_rfl
theorem sh2 : XL.shapeOf Try.prog 2 = some (false, 1) := by kernel_rfl
theorem i2 : XL.intOf? Try.prog 2 = some .i64 := by kernel_rfl
theorem ze2 : XL.zeroOf Try.prog 2 = some (.int .i64 0) := by kernel_rfl
theorem sh3 : XL.shapeOf Try.prog 3 = some (false, 1) := by kernel_rfl
theorem i3 : XL.intOf? Try.prog 3 = some .i64 := by kernel_rfl
theorem ze3 : XL.zeroOf Try.prog 3 = some (.int .i64 0) := by kernel_rfl
theorem sh4 : XL.shapeOf Try.prog 4 = some (false, 1) := by kernel_rfl
theorem bo4 : Try.prog.underlying 4 = some .bool := by kernel_rfl
theorem ze4 : XL.zeroOf Try.prog 4 = some (.bool false) := by kernel_rfl
theorem sh5 : XL.shapeOf Try.prog 5 = some (false, 1) := by kernel_rfl
theorem i5 : XL.intOf? Try.prog 5 = some .u8 := by kernel_rfl
theorem ze5 : XL.zeroOf Try.prog 5 = some (.int .u8 0) := by kernel_rfl
theorem sh12 : XL.shapeOf Try.prog 12 = some (false, 1) := by kernel_rfl
theorem i12 : XL.intOf? Try.prog 12 = some .u64 := by kernel_rfl
theorem ze12 : XL.zeroOf Try.prog 12 = some (.int .u64 0) := by kernel_rfl
theorem sh13 : XL.shapeOf Try.prog 13 = some (true, 2) := by kernel_rfl
theorem fo13_0 : XL.fieldOff Try.prog 13 0 = some 0 := by kernel_rfl
theorem fo13_1 : XL.fieldOff Try.prog 13 1 = some 1 := by kernel_rfl
theorem pl13 : XL.placesOf Try.prog 13 = some [(0, 1), (1, 1)] := by kernel_rfl
theorem sh21 : XL.shapeOf Try.prog 21 = some (false, 1) := by kernel_rfl
theorem i21 : XL.intOf? Try.prog 21 = some .i32 := by kernel_rfl
theorem ze21 : XL.zeroOf Try.prog 21 = some (.int .i32 0) := by kernel_rfl
theorem sh22 : XL.shapeOf Try.prog 22 = some (false, 1) := by kernel_rfl
theorem sl22 : XL.sliceOf Try.prog 22 = some (2, 1, 8) := by kernel_rfl
theorem ze22 : XL.zeroOf Try.prog 22 = some (.slice none 0 0) := by kernel_rfl
theorem sh23 : XL.shapeOf Try.prog 23 = some (false, 1) := by kernel_rfl
theorem sl23 : XL.sliceOf Try.prog 23 = some (73, 16, 128) := by kernel_rfl
theorem ze23 : XL.zeroOf Try.prog 23 = some (.slice none 0 0) := by kernel_rfl
theorem sh24 : XL.shapeOf Try.prog 24 = some (false, 1) := by kernel_rfl
theorem sl24 : XL.sliceOf Try.prog 24 = some (3, 1, 8) := by kernel_rfl
theorem ze24 : XL.zeroOf Try.prog 24 = some (.slice none 0 0) := by kernel_rfl
theorem sh25 : XL.shapeOf Try.prog 25 = some (true, 2) := by kernel_rfl
theorem fo25_0 : XL.fieldOff Try.prog 25 0 = some 0 := by kernel_rfl
theorem fo25_1 : XL.fieldOff Try.prog 25 1 = some 1 := by kernel_rfl
theorem pl25 : XL.placesOf Try.prog 25 = some [(0, 1), (1, 1)] := by kernel_rfl
theorem ze25 : XL.zeroOf Try.prog 25 = some (.agg #[.slice none 0 0, .slice none 0 0]) := by kernel_rfl
theorem sh26 : XL.shapeOf Try.prog 26 = some (true, 2) := by kernel_rfl
theorem fo26_0 : XL.fieldOff Try.prog 26 0 = some 0 := by kernel_rfl
theorem fo26_1 : XL.fieldOff Try.prog 26 1 = some 1 := by kernel_rfl
theorem pl26 : XL.placesOf Try.prog 26 = some [(0, 1), (1, 1)] := by kernel_rfl
theorem ze26 : XL.zeroOf Try.prog 26 = some (.agg #[.slice none 0 0, .slice none 0 0]) := by kernel_rfl
theorem sh27 : XL.shapeOf Try.prog 27 = some (false, 1) := by kernel_rfl
theorem i27 : XL.intOf? Try.prog 27 = some .u64 := by kernel_rfl
theorem ze27 : XL.zeroOf Try.prog 27 = some (.int .u64 0) := by kernel_rfl
theorem sh28 : XL.shapeOf Try.prog 28 = some (false, 1) := by kernel_rfl
theorem i28 : XL.intOf? Try.prog 28 = some .u64 := by kernel_rfl
theorem ze28 : XL.zeroOf Try.prog 28 = some (.int .u64 0) := by kernel_rfl
theorem sh30 : XL.shapeOf Try.prog 30 = some (false, 1) := by kernel_rfl
theorem ze30 : XL.zeroOf Try.prog 30 = some (.nilFunc) := by kernel_rfl
theorem sh31 : XL.shapeOf Try.prog 31 = some (false, 1) := by kernel_rfl
theorem i31 : XL.intOf? Try.prog 31 = some .i64 := by kernel_rfl
theorem ze31 : XL.zeroOf Try.prog 31 = some (.int .i64 0) := by kernel_rfl
theorem sh33 : XL.shapeOf Try.prog 33 = some (false, 1) := by kernel_rfl
theorem ze33 : XL.zeroOf Try.prog 33 = some (.nilFunc) := by kernel_rfl
theorem sh35 : XL.shapeOf Try.prog 35 = some (false, 1) := by kernel_rfl
theorem ze35 : XL.zeroOf Try.prog 35 = some (.nilFunc) := by kernel_rfl
theorem sh36 : XL.shapeOf Try.prog 36 = some (false, 1) := by kernel_rfl
theorem ze36 : XL.zeroOf Try.prog 36 = some (.nilFunc) := by kernel_rfl
theorem sh37 : XL.shapeOf Try.prog 37 = some (false, 1) := by kernel_rfl
theorem ze37 : XL.zeroOf Try.prog 37 = some (.nilFunc) := by kernel_rfl
theorem sh38 : XL.shapeOf Try.prog 38 = some (false, 1) := by kernel_rfl
theorem ze38 : XL.zeroOf Try.prog 38 = some (.nilFunc) := by kernel_rfl
theorem sh40 : XL.shapeOf Try.prog 40 = some (false, 1) := by kernel_rfl
theorem ze40 : XL.zeroOf Try.prog 40 = some (.nilFunc) := by kernel_rfl
theorem sh42 : XL.shapeOf Try.prog 42 = some (false, 1) := by kernel_rfl
theorem ze42 : XL.zeroOf Try.prog 42 = some (.nilFunc) := by kernel_rfl
theorem sh43 : XL.shapeOf Try.prog 43 = some (false, 1) := by kernel_rfl
theorem ze43 : XL.zeroOf Try.prog 43 = some (.nilFunc) := by kernel_rfl
theorem sh44 : XL.shapeOf Try.prog 44 = some (false, 1) := by kernel_rfl
theorem ze44 : XL.zeroOf Try.prog 44 = some (.nilFunc) := by kernel_rfl
theorem sh46 : XL.shapeOf Try.prog 46 = some (false, 1) := by kernel_rfl
theorem ze46 : XL.zeroOf Try.prog 46 = some (.nilFunc) := by kernel_rfl
theorem sh47 : XL.shapeOf Try.prog 47 = some (false, 1) := by kernel_rfl
theorem ze47 : XL.zeroOf Try.prog 47 = some (.nilFunc) := by kernel_rfl
theorem sh49 : XL.shapeOf Try.prog 49 = some (false, 1) := by kernel_rfl
theorem ze49 : XL.zeroOf Try.prog 49 = some (.nilFunc) := by kernel_rfl
theorem sh51 : XL.shapeOf Try.prog 51 = some (false, 1) := by kernel_rfl
theorem ze51 : XL.zeroOf Try.prog 51 = some (.nilFunc) := by kernel_rfl
theorem sh52 : XL.shapeOf Try.prog 52 = some (false, 1) := by kernel_rfl
theorem ze52 : XL.zeroOf Try.prog 52 = some (.nilFunc) := by kernel_rfl
theorem sh53 : XL.shapeOf Try.prog 53 = some (false, 1) := by kernel_rfl
theorem ze53 : XL.zeroOf Try.prog 53 = some (.nilFunc) := by kernel_rfl
theorem sh55 : XL.shapeOf Try.prog 55 = some (false, 1) := by kernel_rfl
theorem ze55 : XL.zeroOf Try.prog 55 = some (.nilFunc) := by kernel_rfl
theorem sh56 : XL.shapeOf Try.prog 56 = some (false, 1) := by kernel_rfl
theorem ze56 : XL.zeroOf Try.prog 56 = some (.nilFunc) := by kernel_rfl
theorem sh57 : XL.shapeOf Try.prog 57 = some (false, 1) := by kernel_rfl
theorem ze57 : XL.zeroOf Try.prog 57 = some (.nilFunc) := by kernel_rfl
theorem sh58 : XL.shapeOf Try.prog 58 = some (false, 1) := by kernel_rfl
theorem ze58 : XL.zeroOf Try.prog 58 = some (.nilFunc) := by kernel_rfl
theorem sh59 : XL.shapeOf Try.prog 59 = some (false, 1) := by kernel_rfl
theorem ze59 : XL.zeroOf Try.prog 59 = some (.nilFunc) := by kernel_rfl
theorem sh60 : XL.shapeOf Try.prog 60 = some (false, 1) := by kernel_rfl
theorem sl60 : XL.sliceOf Try.prog 60 = some (64, 3, 16) := by kernel_rfl
theorem ze60 : XL.zeroOf Try.prog 60 = some (.slice none 0 0) := by kernel_rfl
theorem sh61 : XL.shapeOf Try.prog 61 = some (false, 1) := by kernel_rfl
theorem sl61 : XL.sliceOf Try.prog 61 = some (28, 1, 8) := by kernel_rfl
theorem ze61 : XL.zeroOf Try.prog 61 = some (.slice none 0 0) := by kernel_rfl
theorem sh62 : XL.shapeOf Try.prog 62 = some (false, 1) := by kernel_rfl
theorem sl62 : XL.sliceOf Try.prog 62 = some (22, 1, 24) := by kernel_rfl
theorem ze62 : XL.zeroOf Try.prog 62 = some (.slice none 0 0) := by kernel_rfl
theorem sh63 : XL.shapeOf Try.prog 63 = some (true, 3) := by kernel_rfl
theorem fo63_0 : XL.fieldOff Try.prog 63 0 = some 0 := by kernel_rfl
theorem fo63_1 : XL.fieldOff Try.prog 63 1 = some 1 := by kernel_rfl
theorem fo63_2 : XL.fieldOff Try.prog 63 2 = some 2 := by kernel_rfl
theorem pl63 : XL.placesOf Try.prog 63 = some [(0, 1), (1, 1), (2, 1)] := by kernel_rfl
theorem fk63 : XL.flatK Try.prog 6 63 = some [none, none, some .i64] := by kernel_rfl
theorem eg63 : Try.prog.eqGuardType Try.prog.depth 63 = false := by kernel_rfl
theorem ze63 : XL.zeroOf Try.prog 63 = some (.agg #[.bool false, .bool false, .int .i64 0]) := by kernel_rfl
theorem sh64 : XL.shapeOf Try.prog 64 = some (true, 3) := by kernel_rfl
theorem fo64_0 : XL.fieldOff Try.prog 64 0 = some 0 := by kernel_rfl
theorem fo64_1 : XL.fieldOff Try.prog 64 1 = some 1 := by kernel_rfl
theorem fo64_2 : XL.fieldOff Try.prog 64 2 = some 2 := by kernel_rfl
theorem pl64 : XL.placesOf Try.prog 64 = some [(0, 1), (1, 1), (2, 1)] := by kernel_rfl
theorem fk64 : XL.flatK Try.prog 6 64 = some [none, none, some .i64] := by kernel_rfl
theorem eg64 : Try.prog.eqGuardType Try.prog.depth 64 = false := by kernel_rfl
theorem ze64 : XL.zeroOf Try.prog 64 = some (.agg #[.bool false, .bool false, .int .i64 0]) := by kernel_rfl
theorem sh65 : XL.shapeOf Try.prog 65 = some (false, 1) := by kernel_rfl
theorem ze65 : XL.zeroOf Try.prog 65 = some (.nilFunc) := by kernel_rfl
theorem sh66 : XL.shapeOf Try.prog 66 = some (false, 1) := by kernel_rfl
theorem ze66 : XL.zeroOf Try.prog 66 = some (.nilFunc) := by kernel_rfl
theorem sh67 : XL.shapeOf Try.prog 67 = some (false, 1) := by kernel_rfl
theorem ze67 : XL.zeroOf Try.prog 67 = some (.nilFunc) := by kernel_rfl
theorem sh68 : XL.shapeOf Try.prog 68 = some (false, 1) := by kernel_rfl
theorem ze68 : XL.zeroOf Try.prog 68 = some (.nilFunc) := by kernel_rfl
theorem sh69 : XL.shapeOf Try.prog 69 = some (false, 1) := by kernel_rfl
theorem ze69 : XL.zeroOf Try.prog 69 = some (.nilFunc) := by kernel_rfl
theorem sh70 : XL.shapeOf Try.prog 70 = some (false, 1) := by kernel_rfl
theorem ze70 : XL.zeroOf Try.prog 70 = some (.pointer none) := by kernel_rfl
theorem sh71 : XL.shapeOf Try.prog 71 = some (true, 9) := by kernel_rfl
theorem ar71 : XL.arrOf Try.prog 71 = some (9, 28, 1) := by kernel_rfl
theorem fk71 : XL.flatK Try.prog 6 71 = some [some .u64, some .u64, some .u64, some .u64, some .u64, some .u64, some .u64, some .u64, some .u64] := by kernel_rfl
theorem eg71 : Try.prog.eqGuardType Try.prog.depth 71 = false := by kernel_rfl
theorem ze71 : XL.zeroOf Try.prog 71 = some (.agg #[.int .u64 0, .int .u64 0, .int .u64 0, .int .u64 0, .int .u64 0, .int .u64 0, .int .u64 0, .int .u64 0, .int .u64 0]) := by kernel_rfl
theorem sh72 : XL.shapeOf Try.prog 72 = some (true, 16) := by kernel_rfl
theorem fo72_0 : XL.fieldOff Try.prog 72 0 = some 0 := by kernel_rfl
theorem fo72_1 : XL.fieldOff Try.prog 72 1 = some 1 := by kernel_rfl
theorem fo72_2 : XL.fieldOff Try.prog 72 2 = some 2 := by kernel_rfl
theorem fo72_3 : XL.fieldOff Try.prog 72 3 = some 3 := by kernel_rfl
theorem fo72_4 : XL.fieldOff Try.prog 72 4 = some 4 := by kernel_rfl
theorem fo72_5 : XL.fieldOff Try.prog 72 5 = some 5 := by kernel_rfl
theorem fo72_6 : XL.fieldOff Try.prog 72 6 = some 14 := by kernel_rfl
theorem fo72_7 : XL.fieldOff Try.prog 72 7 = some 15 := by kernel_rfl
theorem pl72 : XL.placesOf Try.prog 72 = some [(0, 1), (1, 1), (2, 1), (3, 1), (4, 1), (5, 9), (14, 1), (15, 1)] := by kernel_rfl
theorem fk72 : XL.flatK Try.prog 6 72 = some [some .i64, some .i64, some .i64, some .i64, some .i64, some .u64, some .u64, some .u64, some .u64, some .u64, some .u64, some .u64, some .u64, some .u64, some .i64, some .i64] := by kernel_rfl
theorem eg72 : Try.prog.eqGuardType Try.prog.depth 72 = false := by kernel_rfl
theorem ze72 : XL.zeroOf Try.prog 72 = some (.agg #[.int .i64 0, .int .i64 0, .int .i64 0, .int .i64 0, .int .i64 0, .int .u64 0, .int .u64 0, .int .u64 0, .int .u64 0, .int .u64 0, .int .u64 0, .int .u64 0, .int .u64 0, .int .u64 0, .int .i64 0, .int .i64 0]) := by kernel_rfl
theorem sh73 : XL.shapeOf Try.prog 73 = some (true, 16) := by kernel_rfl
theorem fo73_0 : XL.fieldOff Try.prog 73 0 = some 0 := by kernel_rfl
theorem fo73_1 : XL.fieldOff Try.prog 73 1 = some 1 := by kernel_rfl
theorem fo73_2 : XL.fieldOff Try.prog 73 2 = some 2 := by kernel_rfl
theorem fo73_3 : XL.fieldOff Try.prog 73 3 = some 3 := by kernel_rfl
theorem fo73_4 : XL.fieldOff Try.prog 73 4 = some 4 := by kernel_rfl
theorem fo73_5 : XL.fieldOff Try.prog 73 5 = some 5 := by kernel_rfl
theorem fo73_6 : XL.fieldOff Try.prog 73 6 = some 14 := by kernel_rfl
theorem fo73_7 : XL.fieldOff Try.prog 73 7 = some 15 := by kernel_rfl
theorem pl73 : XL.placesOf Try.prog 73 = some [(0, 1), (1, 1), (2, 1), (3, 1), (4, 1), (5, 9), (14, 1), (15, 1)] := by kernel_rfl
theorem fk73 : XL.flatK Try.prog 6 73 = some [some .i64, some .i64, some .i64, some .i64, some .i64, some .u64, some .u64, some .u64, some .u64, some .u64, some .u64, some .u64, some .u64, some .u64, some .i64, some .i64] := by kernel_rfl
theorem eg73 : Try.prog.eqGuardType Try.prog.depth 73 = false := by kernel_rfl
theorem ze73 : XL.zeroOf Try.prog 73 = some (.agg #[.int .i64 0, .int .i64 0, .int .i64 0, .int .i64 0, .int .i64 0, .int .u64 0, .int .u64 0, .int .u64 0, .int .u64 0, .int .u64 0, .int .u64 0, .int .u64 0, .int .u64 0, .int .u64 0, .int .i64 0, .int .i64 0]) := by kernel_rfl
theorem sh74 : XL.shapeOf Try.prog 74 = some (false, 1) := by kernel_rfl
theorem ze74 : XL.zeroOf Try.prog 74 = some (.nilFunc) := by kernel_rfl
theorem sh75 : XL.shapeOf Try.prog 75 = some (false, 1) := by kernel_rfl
theorem ze75 : XL.zeroOf Try.prog 75 = some (.nilFunc) := by kernel_rfl
theorem sh76 : XL.shapeOf Try.prog 76 = some (false, 1) := by kernel_rfl
theorem ze76 : XL.zeroOf Try.prog 76 = some (.nilFunc) := by kernel_rfl
theorem sh77 : XL.shapeOf Try.prog 77 = some (false, 1) := by kernel_rfl
theorem ze77 : XL.zeroOf Try.prog 77 = some (.nilFunc) := by kernel_rfl
theorem sh78 : XL.shapeOf Try.prog 78 = some (true, 3) := by kernel_rfl
theorem fo78_0 : XL.fieldOff Try.prog 78 0 = some 0 := by kernel_rfl
theorem fo78_1 : XL.fieldOff Try.prog 78 1 = some 1 := by kernel_rfl
theorem fo78_2 : XL.fieldOff Try.prog 78 2 = some 2 := by kernel_rfl
theorem pl78 : XL.placesOf Try.prog 78 = some [(0, 1), (1, 1), (2, 1)] := by kernel_rfl
theorem ze78 : XL.zeroOf Try.prog 78 = some (.agg #[.nilFunc, .nilFunc, .nilFunc]) := by kernel_rfl
theorem sh79 : XL.shapeOf Try.prog 79 = some (true, 3) := by kernel_rfl
theorem fo79_0 : XL.fieldOff Try.prog 79 0 = some 0 := by kernel_rfl
theorem fo79_1 : XL.fieldOff Try.prog 79 1 = some 1 := by kernel_rfl
theorem fo79_2 : XL.fieldOff Try.prog 79 2 = some 2 := by kernel_rfl
theorem pl79 : XL.placesOf Try.prog 79 = some [(0, 1), (1, 1), (2, 1)] := by kernel_rfl
theorem ze79 : XL.zeroOf Try.prog 79 = some (.agg #[.nilFunc, .nilFunc, .nilFunc]) := by kernel_rfl
theorem sh80 : XL.shapeOf Try.prog 80 = some (false, 1) := by kernel_rfl
theorem ze80 : XL.zeroOf Try.prog 80 = some (.nilFunc) := by kernel_rfl
theorem sh81 : XL.shapeOf Try.prog 81 = some (false, 1) := by kernel_rfl
theorem ze81 : XL.zeroOf Try.prog 81 = some (.nilFunc) := by kernel_rfl
theorem sh82 : XL.shapeOf Try.prog 82 = some (false, 1) := by kernel_rfl
theorem ze82 : XL.zeroOf Try.prog 82 = some (.nilFunc) := by kernel_rfl
theorem sh83 : XL.shapeOf Try.prog 83 = some (true, 3) := by kernel_rfl
theorem fo83_0 : XL.fieldOff Try.prog 83 0 = some 0 := by kernel_rfl
theorem fo83_1 : XL.fieldOff Try.prog 83 1 = some 2 := by kernel_rfl
theorem pl83 : XL.placesOf Try.prog 83 = some [(0, 2), (2, 1)] := by kernel_rfl
theorem ze83 : XL.zeroOf Try.prog 83 = some (.agg #[.slice none 0 0, .slice none 0 0, .int .i64 0]) := by kernel_rfl
theorem sh84 : XL.shapeOf Try.prog 84 = some (true, 3) := by kernel_rfl
theorem fo84_0 : XL.fieldOff Try.prog 84 0 = some 0 := by kernel_rfl
theorem fo84_1 : XL.fieldOff Try.prog 84 1 = some 2 := by kernel_rfl
theorem pl84 : XL.placesOf Try.prog 84 = some [(0, 2), (2, 1)] := by kernel_rfl
theorem ze84 : XL.zeroOf Try.prog 84 = some (.agg #[.slice none 0 0, .slice none 0 0, .int .i64 0]) := by kernel_rfl
theorem sh85 : XL.shapeOf Try.prog 85 = some (false, 1) := by kernel_rfl
theorem ze85 : XL.zeroOf Try.prog 85 = some (.nilFunc) := by kernel_rfl
theorem sh87 : XL.shapeOf Try.prog 87 = some (false, 1) := by kernel_rfl
theorem ze87 : XL.zeroOf Try.prog 87 = some (.nilFunc) := by kernel_rfl
theorem sh89 : XL.shapeOf Try.prog 89 = some (false, 1) := by kernel_rfl
theorem ze89 : XL.zeroOf Try.prog 89 = some (.nilFunc) := by kernel_rfl
theorem sh90 : XL.shapeOf Try.prog 90 = some (false, 1) := by kernel_rfl
theorem ze90 : XL.zeroOf Try.prog 90 = some (.nilFunc) := by kernel_rfl
theorem sh91 : XL.shapeOf Try.prog 91 = some (false, 1) := by kernel_rfl
theorem ze91 : XL.zeroOf Try.prog 91 = some (.nilFunc) := by kernel_rfl
theorem sh92 : XL.shapeOf Try.prog 92 = some (true, 3) := by kernel_rfl
theorem fo92_0 : XL.fieldOff Try.prog 92 0 = some 0 := by kernel_rfl
theorem fo92_1 : XL.fieldOff Try.prog 92 1 = some 1 := by kernel_rfl
theorem fo92_2 : XL.fieldOff Try.prog 92 2 = some 2 := by kernel_rfl
theorem pl92 : XL.placesOf Try.prog 92 = some [(0, 1), (1, 1), (2, 1)] := by kernel_rfl
theorem ze92 : XL.zeroOf Try.prog 92 = some (.agg #[.slice none 0 0, .slice none 0 0, .bool false]) := by kernel_rfl
theorem sh93 : XL.shapeOf Try.prog 93 = some (true, 3) := by kernel_rfl
theorem fo93_0 : XL.fieldOff Try.prog 93 0 = some 0 := by kernel_rfl
theorem fo93_1 : XL.fieldOff Try.prog 93 1 = some 1 := by kernel_rfl
theorem fo93_2 : XL.fieldOff Try.prog 93 2 = some 2 := by kernel_rfl
theorem pl93 : XL.placesOf Try.prog 93 = some [(0, 1), (1, 1), (2, 1)] := by kernel_rfl
theorem ze93 : XL.zeroOf Try.prog 93 = some (.agg #[.slice none 0 0, .slice none 0 0, .bool false]) := by kernel_rfl
theorem sh94 : XL.shapeOf Try.prog 94 = some (false, 1) := by kernel_rfl
theorem ze94 : XL.zeroOf Try.prog 94 = some (.nilFunc) := by kernel_rfl
theorem sh95 : XL.shapeOf Try.prog 95 = some (false, 1) := by kernel_rfl
theorem ze95 : XL.zeroOf Try.prog 95 = some (.nilFunc) := by kernel_rfl
theorem sh98 : XL.shapeOf Try.prog 98 = some (false, 1) := by kernel_rfl
theorem ze98 : XL.zeroOf Try.prog 98 = some (.nilFunc) := by kernel_rfl
theorem sh99 : XL.shapeOf Try.prog 99 = some (false, 1) := by kernel_rfl
theorem ze99 : XL.zeroOf Try.prog 99 = some (.nilFunc) := by kernel_rfl
theorem sh100 : XL.shapeOf Try.prog 100 = some (false, 1) := by kernel_rfl
theorem sl100 : XL.sliceOf Try.prog 100 = some (4, 1, 1) := by kernel_rfl
theorem ze100 : XL.zeroOf Try.prog 100 = some (.slice none 0 0) := by kernel_rfl
theorem sh101 : XL.shapeOf Try.prog 101 = some (false, 1) := by kernel_rfl
theorem ze101 : XL.zeroOf Try.prog 101 = some (.nilFunc) := by kernel_rfl
theorem sh103 : XL.shapeOf Try.prog 103 = some (false, 1) := by kernel_rfl
theorem ze103 : XL.zeroOf Try.prog 103 = some (.nilFunc) := by kernel_rfl
theorem sh104 : XL.shapeOf Try.prog 104 = some (false, 1) := by kernel_rfl
theorem ze104 : XL.zeroOf Try.prog 104 = some (.nilFunc) := by kernel_rfl
theorem sh105 : XL.shapeOf Try.prog 105 = some (false, 1) := by kernel_rfl
theorem ze105 : XL.zeroOf Try.prog 105 = some (.nilFunc) := by kernel_rfl
theorem sh106 : XL.shapeOf Try.prog 106 = some (false, 1) := by kernel_rfl
theorem ze106 : XL.zeroOf Try.prog 106 = some (.nilFunc) := by kernel_rfl
theorem sh107 : XL.shapeOf Try.prog 107 = some (false, 1) := by kernel_rfl
theorem ze107 : XL.zeroOf Try.prog 107 = some (.nilFunc) := by kernel_rfl
theorem sh108 : XL.shapeOf Try.prog 108 = some (false, 1) := by kernel_rfl
theorem ze108 : XL.zeroOf Try.prog 108 = some (.nilFunc) := by kernel_rfl
theorem sh109 : XL.shapeOf Try.prog 109 = some (false, 1) := by kernel_rfl
theorem ze109 : XL.zeroOf Try.prog 109 = some (.nilFunc) := by kernel_rfl
theorem sh110 : XL.shapeOf Try.prog 110 = some (false, 1) := by kernel_rfl
theorem ze110 : XL.zeroOf Try.prog 110 = some (.nilFunc) := by kernel_rfl
theorem sh111 : XL.shapeOf Try.prog 111 = some (false, 1) := by kernel_rfl
theorem ze111 : XL.zeroOf Try.prog 111 = some (.nilFunc) := by kernel_rfl
theorem sh112 : XL.shapeOf Try.prog 112 = some (false, 1) := by kernel_rfl
theorem ze112 : XL.zeroOf Try.prog 112 = some (.nilFunc) := by kernel_rfl
theorem sh113 : XL.shapeOf Try.prog 113 = some (false, 1) := by kernel_rfl
theorem ze113 : XL.zeroOf Try.prog 113 = some (.nilFunc) := by kernel_rfl
theorem sh114 : XL.shapeOf Try.prog 114 = some (false, 1) := by kernel_rfl
theorem i114 : XL.intOf? Try.prog 114 = some .u64 := by kernel_rfl
theorem ze114 : XL.zeroOf Try.prog 114 = some (.int .u64 0) := by kernel_rfl
theorem sh115 : XL.shapeOf Try.prog 115 = some (false, 1) := by kernel_rfl
theorem ze115 : XL.zeroOf Try.prog 115 = some (.nilFunc) := by kernel_rfl
theorem sh116 : XL.shapeOf Try.prog 116 = some (false, 1) := by kernel_rfl
theorem ze116 : XL.zeroOf Try.prog 116 = some (.nilFunc) := by kernel_rfl
theorem sh117 : XL.shapeOf Try.prog 117 = some (false, 1) := by kernel_rfl
theorem ze117 : XL.zeroOf Try.prog 117 = some (.nilFunc) := by kernel_rfl
theorem sh118 : XL.shapeOf Try.prog 118 = some (true, 2) := by kernel_rfl
theorem fo118_0 : XL.fieldOff Try.prog 118 0 = some 0 := by kernel_rfl
theorem fo118_1 : XL.fieldOff Try.prog 118 1 = some 1 := by kernel_rfl
theorem pl118 : XL.placesOf Try.prog 118 = some [(0, 1), (1, 1)] := by kernel_rfl
theorem fk118 : XL.flatK Try.prog 6 118 = some [some .i64, some .u64] := by kernel_rfl
theorem eg118 : Try.prog.eqGuardType Try.prog.depth 118 = false := by kernel_rfl
theorem ze118 : XL.zeroOf Try.prog 118 = some (.agg #[.int .i64 0, .int .u64 0]) := by kernel_rfl
theorem sh119 : XL.shapeOf Try.prog 119 = some (true, 2) := by kernel_rfl
theorem fo119_0 : XL.fieldOff Try.prog 119 0 = some 0 := by kernel_rfl
theorem fo119_1 : XL.fieldOff Try.prog 119 1 = some 1 := by kernel_rfl
theorem pl119 : XL.placesOf Try.prog 119 = some [(0, 1), (1, 1)] := by kernel_rfl
theorem fk119 : XL.flatK Try.prog 6 119 = some [some .i64, some .u64] := by kernel_rfl
theorem eg119 : Try.prog.eqGuardType Try.prog.depth 119 = false := by kernel_rfl
theorem ze119 : XL.zeroOf Try.prog 119 = some (.agg #[.int .i64 0, .int .u64 0]) := by kernel_rfl
theorem sh120 : XL.shapeOf Try.prog 120 = some (true, 6) := by kernel_rfl
theorem ar120 : XL.arrOf Try.prog 120 = some (3, 119, 2) := by kernel_rfl
theorem fk120 : XL.flatK Try.prog 6 120 = some [some .i64, some .u64, some .i64, some .u64, some .i64, some .u64] := by kernel_rfl
theorem eg120 : Try.prog.eqGuardType Try.prog.depth 120 = false := by kernel_rfl
theorem ze120 : XL.zeroOf Try.prog 120 = some (.agg #[.int .i64 0, .int .u64 0, .int .i64 0, .int .u64 0, .int .i64 0, .int .u64 0]) := by kernel_rfl
theorem sh121 : XL.shapeOf Try.prog 121 = some (false, 1) := by kernel_rfl
theorem ze121 : XL.zeroOf Try.prog 121 = some (.nilFunc) := by kernel_rfl
theorem sh122 : XL.shapeOf Try.prog 122 = some (false, 1) := by kernel_rfl
theorem ze122 : XL.zeroOf Try.prog 122 = some (.nilFunc) := by kernel_rfl
theorem sh123 : XL.shapeOf Try.prog 123 = some (false, 1) := by kernel_rfl
theorem ze123 : XL.zeroOf Try.prog 123 = some (.nilFunc) := by kernel_rfl
theorem sh129 : XL.shapeOf Try.prog 129 = some (false, 1) := by kernel_rfl
theorem i129 : XL.intOf? Try.prog 129 = some .u32 := by kernel_rfl
theorem ze129 : XL.zeroOf Try.prog 129 = some (.int .u32 0) := by kernel_rfl
theorem sh133 : XL.shapeOf Try.prog 133 = some (false, 1) := by kernel_rfl
theorem ze133 : XL.zeroOf Try.prog 133 = some (.pointer none) := by kernel_rfl
theorem ok3 : XL.calleeOK Try.prog 3 = true := by kernel_rfl
theorem ok4 : XL.calleeOK Try.prog 4 = true := by kernel_rfl
theorem ok5 : XL.calleeOK Try.prog 5 = true := by kernel_rfl
theorem ok6 : XL.calleeOK Try.prog 6 = true := by kernel_rfl
theorem ok7 : XL.calleeOK Try.prog 7 = true := by kernel_rfl
theorem ok8 : XL.calleeOK Try.prog 8 = true := by kernel_rfl
theorem ok9 : XL.calleeOK Try.prog 9 = true := by kernel_rfl
theorem ok10 : XL.calleeOK Try.prog 10 = true := by kernel_rfl
theorem ok11 : XL.calleeOK Try.prog 11 = true := by kernel_rfl
theorem ok12 : XL.calleeOK Try.prog 12 = true := by kernel_rfl
theorem ok13 : XL.calleeOK Try.prog 13 = true := by kernel_rfl
theorem ok14 : XL.calleeOK Try.prog 14 = true := by kernel_rfl
theorem ok15 : XL.calleeOK Try.prog 15 = true := by kernel_rfl
theorem ok16 : XL.calleeOK Try.prog 16 = true := by kernel_rfl
theorem ok17 : XL.calleeOK Try.prog 17 = true := by kernel_rfl
theorem ok18 : XL.calleeOK Try.prog 18 = true := by kernel_rfl
theorem ok19 : XL.calleeOK Try.prog 19 = true := by kernel_rfl
theorem ok20 : XL.calleeOK Try.prog 20 = true := by kernel_rfl
theorem ok21 : XL.calleeOK Try.prog 21 = true := by kernel_rfl
theorem ok22 : XL.calleeOK Try.prog 22 = true := by kernel_rfl
theorem ok23 : XL.calleeOK Try.prog 23 = true := by kernel_rfl
theorem ok24 : XL.calleeOK Try.prog 24 = true := by kernel_rfl
theorem ok25 : XL.calleeOK Try.prog 25 = true := by kernel_rfl
theorem ok26 : XL.calleeOK Try.prog 26 = true := by kernel_rfl
theorem ok27 : XL.calleeOK Try.prog 27 = true := by kernel_rfl
theorem ok28 : XL.calleeOK Try.prog 28 = true := by kernel_rfl
theorem ok29 : XL.calleeOK Try.prog 29 = true := by kernel_rfl
theorem ok30 : XL.calleeOK Try.prog 30 = true := by kernel_rfl
theorem ok31 : XL.calleeOK Try.prog 31 = true := by kernel_rfl
theorem ok32 : XL.calleeOK Try.prog 32 = true := by kernel_rfl
theorem ok33 : XL.calleeOK Try.prog 33 = true := by kernel_rfl
theorem ok34 : XL.calleeOK Try.prog 34 = true := by kernel_rfl
theorem ok35 : XL.calleeOK Try.prog 35 = true := by kernel_rfl
theorem ok36 : XL.calleeOK Try.prog 36 = true := by kernel_rfl
theorem ok37 : XL.calleeOK Try.prog 37 = true := by kernel_rfl
theorem ok38 : XL.calleeOK Try.prog 38 = true := by kernel_rfl
theorem ok39 : XL.calleeOK Try.prog 39 = true := by kernel_rfl
theorem ok40 : XL.calleeOK Try.prog 40 = true := by kernel_rfl
theorem ok41 : XL.calleeOK Try.prog 41 = true := by kernel_rfl
theorem ok42 : XL.calleeOK Try.prog 42 = true := by kernel_rfl
theorem ok43 : XL.calleeOK Try.prog 43 = true := by kernel_rfl
theorem ok44 : XL.calleeOK Try.prog 44 = true := by kernel_rfl
theorem ok45 : XL.calleeOK Try.prog 45 = true := by kernel_rfl
theorem ok46 : XL.calleeOK Try.prog 46 = true := by kernel_rfl
theorem ok47 : XL.calleeOK Try.prog 47 = true := by kernel_rfl
theorem ok48 : XL.calleeOK Try.prog 48 = true := by kernel_rfl
theorem ok49 : XL.calleeOK Try.prog 49 = true := by kernel_rfl
theorem ok50 : XL.calleeOK Try.prog 50 = true := by kernel_rfl
theorem ok51 : XL.calleeOK Try.prog 51 = true := by kernel_rfl
theorem ok52 : XL.calleeOK Try.prog 52 = true := by kernel_rfl
theorem ok53 : XL.calleeOK Try.prog 53 = true := by kernel_rfl
theorem ok54 : XL.calleeOK Try.prog 54 = true := by kernel_rfl
theorem ok55 : XL.calleeOK Try.prog 55 = true := by kernel_rfl
theorem ok56 : XL.calleeOK Try.prog 56 = true := by kernel_rfl
theorem ok57 : XL.calleeOK Try.prog 57 = true := by kernel_rfl
theorem ok58 : XL.calleeOK Try.prog 58 = true := by kernel_rfl
theorem ok59 : XL.calleeOK Try.prog 59 = true := by kernel_rfl
theorem ok60 : XL.calleeOK Try.prog 60 = true := by kernel_rfl
theorem ok61 : XL.calleeOK Try.prog 61 = true := by kernel_rfl
theorem ok62 : XL.calleeOK Try.prog 62 = true := by kernel_rfl
theorem ok63 : XL.calleeOK Try.prog 63 = true := by kernel_rfl
theorem ok64 : XL.calleeOK Try.prog 64 = true := by kernel_rfl
theorem ok65 : XL.calleeOK Try.prog 65 = true := by kernel_rfl
theorem ok66 : XL.calleeOK Try.prog 66 = true := by kernel_rfl
theorem ok67 : XL.calleeOK Try.prog 67 = true := by kernel_rfl
theorem ok68 : XL.calleeOK Try.prog 68 = true := by kernel_rfl
theorem ok69 : XL.calleeOK Try.prog 69 = true := by kernel_rfl
theorem ok70 : XL.calleeOK Try.prog 70 = true := by kernel_rfl
theorem ok71 : XL.calleeOK Try.prog 71 = true := by kernel_rfl
theorem ok72 : XL.calleeOK Try.prog 72 = true := by kernel_rfl
theorem ok73 : XL.calleeOK Try.prog 73 = true := by kernel_rfl

end Go.Proofs.Ytefakjhfcgjhgaa
