/-
  Closed facts on the types and the functions of this translation: sizes, offsets, zero values; each proved by the kernel.
-/
import Derived.Test.YtfcmbojlflgpmaaRows
import Derived.Test.YtfcmbojlflgpmaaCore
import Derived.KernelRfl
set_option linter.unusedVariables false
namespace Go.Proofs.Ytfcmbojlflgpmaa
open Go

theorem mxo : Try.prog.follows .mixedOrders = true := by kernel_rfl
theorem sh1 : XL.shapeOf Try.prog 1 = some (false, 1) := by kernel_rfl
theorem ze1 : XL.zeroOf Try.prog 1 = some (.nilFunc) := by kernel_rfl
theorem sh2 : XL.shapeOf Try.prog 2 = some (false, 1) := by kernel_rfl
theorem i2 : XL.intOf? Try.prog 2 = some .i64 := by kernel_rfl
theorem ze2 : XL.zeroOf Try.prog 2 = some (.int .i64 0) := by kernel_rfl
theorem sh3 : XL.shapeOf Try.prog 3 = some (false, 1) := by kernel_rfl
theorem i3 : XL.intOf? Try.prog 3 = some .i64 := by kernel_rfl
theorem ze3 : XL.zeroOf Try.prog 3 = some (.int .i64 0) := by kernel_rfl
theorem sh4 : XL.shapeOf Try.prog 4 = some (false, 1) := by kernel_rfl
theorem bo4 : Try.prog.underlying 4 = some .bool := by kernel_rfl
theorem ze4 : XL.zeroOf Try.prog 4 = some (.bool false) := by kernel_rfl
theorem sh5 : XL.shapeOf Try.prog 5 = some (false, 1) := by kernel_rfl
theorem i5 : XL.intOf? Try.prog 5 = some .u8 := by kernel_rfl
theorem ze5 : XL.zeroOf Try.prog 5 = some (.int .u8 0) := by kernel_rfl
theorem sh12 : XL.shapeOf Try.prog 12 = some (false, 1) := by kernel_rfl
theorem i12 : XL.intOf? Try.prog 12 = some .u64 := by kernel_rfl
theorem ze12 : XL.zeroOf Try.prog 12 = some (.int .u64 0) := by kernel_rfl
theorem sh13 : XL.shapeOf Try.prog 13 = some (true, 2) := by kernel_rfl
theorem fo13_0 : XL.fieldOff Try.prog 13 0 = some 0 := by kernel_rfl
theorem fo13_1 : XL.fieldOff Try.prog 13 1 = some 1 := by kernel_rfl
theorem pl13 : XL.placesOf Try.prog 13 = some [(0, 1), (1, 1)] := by kernel_rfl
theorem sh21 : XL.shapeOf Try.prog 21 = some (false, 1) := by kernel_rfl
theorem i21 : XL.intOf? Try.prog 21 = some .i32 := by kernel_rfl
theorem ze21 : XL.zeroOf Try.prog 21 = some (.int .i32 0) := by kernel_rfl
theorem sh22 : XL.shapeOf Try.prog 22 = some (false, 1) := by kernel_rfl
theorem sl22 : XL.sliceOf Try.prog 22 = some (35, 16, 128) := by kernel_rfl
theorem ze22 : XL.zeroOf Try.prog 22 = some (.slice none 0 0) := by kernel_rfl
theorem sh23 : XL.shapeOf Try.prog 23 = some (false, 1) := by kernel_rfl
theorem sl23 : XL.sliceOf Try.prog 23 = some (3, 1, 8) := by kernel_rfl
theorem ze23 : XL.zeroOf Try.prog 23 = some (.slice none 0 0) := by kernel_rfl
theorem sh24 : XL.shapeOf Try.prog 24 = some (true, 2) := by kernel_rfl
theorem fo24_0 : XL.fieldOff Try.prog 24 0 = some 0 := by kernel_rfl
theorem fo24_1 : XL.fieldOff Try.prog 24 1 = some 1 := by kernel_rfl
theorem pl24 : XL.placesOf Try.prog 24 = some [(0, 1), (1, 1)] := by kernel_rfl
theorem ze24 : XL.zeroOf Try.prog 24 = some (.agg #[.slice none 0 0, .slice none 0 0]) := by kernel_rfl
theorem sh25 : XL.shapeOf Try.prog 25 = some (true, 2) := by kernel_rfl
theorem fo25_0 : XL.fieldOff Try.prog 25 0 = some 0 := by kernel_rfl
theorem fo25_1 : XL.fieldOff Try.prog 25 1 = some 1 := by kernel_rfl
theorem pl25 : XL.placesOf Try.prog 25 = some [(0, 1), (1, 1)] := by kernel_rfl
theorem ze25 : XL.zeroOf Try.prog 25 = some (.agg #[.slice none 0 0, .slice none 0 0]) := by kernel_rfl
theorem sh26 : XL.shapeOf Try.prog 26 = some (false, 1) := by kernel_rfl
theorem ze26 : XL.zeroOf Try.prog 26 = some (.nilFunc) := by kernel_rfl
theorem sh27 : XL.shapeOf Try.prog 27 = some (false, 1) := by kernel_rfl
theorem i27 : XL.intOf? Try.prog 27 = some .i64 := by kernel_rfl
theorem ze27 : XL.zeroOf Try.prog 27 = some (.int .i64 0) := by kernel_rfl
theorem sh29 : XL.shapeOf Try.prog 29 = some (false, 1) := by kernel_rfl
theorem ze29 : XL.zeroOf Try.prog 29 = some (.nilFunc) := by kernel_rfl
theorem sh30 : XL.shapeOf Try.prog 30 = some (false, 1) := by kernel_rfl
theorem ze30 : XL.zeroOf Try.prog 30 = some (.nilFunc) := by kernel_rfl
theorem sh31 : XL.shapeOf Try.prog 31 = some (false, 1) := by kernel_rfl
theorem i31 : XL.intOf? Try.prog 31 = some .u64 := by kernel_rfl
theorem ze31 : XL.zeroOf Try.prog 31 = some (.int .u64 0) := by kernel_rfl
theorem sh32 : XL.shapeOf Try.prog 32 = some (false, 1) := by kernel_rfl
theorem i32 : XL.intOf? Try.prog 32 = some .u64 := by kernel_rfl
theorem ze32 : XL.zeroOf Try.prog 32 = some (.int .u64 0) := by kernel_rfl
theorem sh33 : XL.shapeOf Try.prog 33 = some (true, 9) := by kernel_rfl
theorem ar33 : XL.arrOf Try.prog 33 = some (9, 32, 1) := by kernel_rfl
theorem fk33 : XL.flatK Try.prog 6 33 = some [some .u64, some .u64, some .u64, some .u64, some .u64, some .u64, some .u64, some .u64, some .u64] := by kernel_rfl
theorem eg33 : Try.prog.eqGuardType Try.prog.depth 33 = false := by kernel_rfl
theorem ze33 : XL.zeroOf Try.prog 33 = some (.agg #[.int .u64 0, .int .u64 0, .int .u64 0, .int .u64 0, .int .u64 0, .int .u64 0, .int .u64 0, .int .u64 0, .int .u64 0]) := by kernel_rfl
theorem sh34 : XL.shapeOf Try.prog 34 = some (true, 16) := by kernel_rfl
theorem fo34_0 : XL.fieldOff Try.prog 34 0 = some 0 := by kernel_rfl
theorem fo34_1 : XL.fieldOff Try.prog 34 1 = some 1 := by kernel_rfl
theorem fo34_2 : XL.fieldOff Try.prog 34 2 = some 2 := by kernel_rfl
theorem fo34_3 : XL.fieldOff Try.prog 34 3 = some 3 := by kernel_rfl
theorem fo34_4 : XL.fieldOff Try.prog 34 4 = some 4 := by kernel_rfl
theorem fo34_5 : XL.fieldOff Try.prog 34 5 = some 5 := by kernel_rfl
theorem fo34_6 : XL.fieldOff Try.prog 34 6 = some 14 := by kernel_rfl
theorem fo34_7 : XL.fieldOff Try.prog 34 7 = some 15 := by kernel_rfl
theorem pl34 : XL.placesOf Try.prog 34 = some [(0, 1), (1, 1), (2, 1), (3, 1), (4, 1), (5, 9), (14, 1), (15, 1)] := by kernel_rfl
theorem fk34 : XL.flatK Try.prog 6 34 = some [some .i64, some .i64, some .i64, some .i64, some .i64, some .u64, some .u64, some .u64, some .u64, some .u64, some .u64, some .u64, some .u64, some .u64, some .i64, some .i64] := by kernel_rfl
theorem eg34 : Try.prog.eqGuardType Try.prog.depth 34 = false := by kernel_rfl
theorem ze34 : XL.zeroOf Try.prog 34 = some (.agg #[.int .i64 0, .int .i64 0, .int .i64 0, .int .i64 0, .int .i64 0, .int .u64 0, .int .u64 0, .int .u64 0, .int .u64 0, .int .u64 0, .int .u64 0, .int .u64 0, .int .u64 0, .int .u64 0, .int .i64 0, .int .i64 0]) := by kernel_rfl
theorem sh35 : XL.shapeOf Try.prog 35 = some (true, 16) := by kernel_rfl
theorem fo35_0 : XL.fieldOff Try.prog 35 0 = some 0 := by kernel_rfl
theorem fo35_1 : XL.fieldOff Try.prog 35 1 = some 1 := by kernel_rfl
theorem fo35_2 : XL.fieldOff Try.prog 35 2 = some 2 := by kernel_rfl
theorem fo35_3 : XL.fieldOff Try.prog 35 3 = some 3 := by kernel_rfl
theorem fo35_4 : XL.fieldOff Try.prog 35 4 = some 4 := by kernel_rfl
theorem fo35_5 : XL.fieldOff Try.prog 35 5 = some 5 := by kernel_rfl
theorem fo35_6 : XL.fieldOff Try.prog 35 6 = some 14 := by kernel_rfl
theorem fo35_7 : XL.fieldOff Try.prog 35 7 = some 15 := by kernel_rfl
theorem pl35 : XL.placesOf Try.prog 35 = some [(0, 1), (1, 1), (2, 1), (3, 1), (4, 1), (5, 9), (14, 1), (15, 1)] := by kernel_rfl
theorem fk35 : XL.flatK Try.prog 6 35 = some [some .i64, some .i64, some .i64, some .i64, some .i64, some .u64, some .u64, some .u64, some .u64, some .u64, some .u64, some .u64, some .u64, some .u64, some .i64, some .i64] := by kernel_rfl
theorem eg35 : Try.prog.eqGuardType Try.prog.depth 35 = false := by kernel_rfl
theorem ze35 : XL.zeroOf Try.prog 35 = some (.agg #[.int .i64 0, .int .i64 0, .int .i64 0, .int .i64 0, .int .i64 0, .int .u64 0, .int .u64 0, .int .u64 0, .int .u64 0, .int .u64 0, .int .u64 0, .int .u64 0, .int .u64 0, .int .u64 0, .int .i64 0, .int .i64 0]) := by kernel_rfl
theorem sh36 : XL.shapeOf Try.prog 36 = some (false, 1) := by kernel_rfl
theorem ze36 : XL.zeroOf Try.prog 36 = some (.nilFunc) := by kernel_rfl
theorem sh37 : XL.shapeOf Try.prog 37 = some (false, 1) := by kernel_rfl
theorem ze37 : XL.zeroOf Try.prog 37 = some (.nilFunc) := by kernel_rfl
theorem sh38 : XL.shapeOf Try.prog 38 = some (false, 1) := by kernel_rfl
theorem ze38 : XL.zeroOf Try.prog 38 = some (.nilFunc) := by kernel_rfl
theorem sh39 : XL.shapeOf Try.prog 39 = some (false, 1) := by kernel_rfl
theorem sl39 : XL.sliceOf Try.prog 39 = some (43, 3, 24) := by kernel_rfl
theorem ze39 : XL.zeroOf Try.prog 39 = some (.slice none 0 0) := by kernel_rfl
theorem sh40 : XL.shapeOf Try.prog 40 = some (false, 1) := by kernel_rfl
theorem ze40 : XL.zeroOf Try.prog 40 = some (.nilFunc) := by kernel_rfl
theorem sh41 : XL.shapeOf Try.prog 41 = some (false, 1) := by kernel_rfl
theorem sl41 : XL.sliceOf Try.prog 41 = some (32, 1, 8) := by kernel_rfl
theorem ze41 : XL.zeroOf Try.prog 41 = some (.slice none 0 0) := by kernel_rfl
theorem sh42 : XL.shapeOf Try.prog 42 = some (true, 3) := by kernel_rfl
theorem fo42_0 : XL.fieldOff Try.prog 42 0 = some 0 := by kernel_rfl
theorem fo42_1 : XL.fieldOff Try.prog 42 1 = some 1 := by kernel_rfl
theorem fo42_2 : XL.fieldOff Try.prog 42 2 = some 2 := by kernel_rfl
theorem pl42 : XL.placesOf Try.prog 42 = some [(0, 1), (1, 1), (2, 1)] := by kernel_rfl
theorem fk42 : XL.flatK Try.prog 6 42 = some [none, some .i64, some .i64] := by kernel_rfl
theorem eg42 : Try.prog.eqGuardType Try.prog.depth 42 = false := by kernel_rfl
theorem ze42 : XL.zeroOf Try.prog 42 = some (.agg #[.bool false, .int .i64 0, .int .i64 0]) := by kernel_rfl
theorem sh43 : XL.shapeOf Try.prog 43 = some (true, 3) := by kernel_rfl
theorem fo43_0 : XL.fieldOff Try.prog 43 0 = some 0 := by kernel_rfl
theorem fo43_1 : XL.fieldOff Try.prog 43 1 = some 1 := by kernel_rfl
theorem fo43_2 : XL.fieldOff Try.prog 43 2 = some 2 := by kernel_rfl
theorem pl43 : XL.placesOf Try.prog 43 = some [(0, 1), (1, 1), (2, 1)] := by kernel_rfl
theorem fk43 : XL.flatK Try.prog 6 43 = some [none, some .i64, some .i64] := by kernel_rfl
theorem eg43 : Try.prog.eqGuardType Try.prog.depth 43 = false := by kernel_rfl
theorem ze43 : XL.zeroOf Try.prog 43 = some (.agg #[.bool false, .int .i64 0, .int .i64 0]) := by kernel_rfl
theorem sh45 : XL.shapeOf Try.prog 45 = some (false, 1) := by kernel_rfl
theorem ze45 : XL.zeroOf Try.prog 45 = some (.nilFunc) := by kernel_rfl
theorem sh47 : XL.shapeOf Try.prog 47 = some (false, 1) := by kernel_rfl
theorem ze47 : XL.zeroOf Try.prog 47 = some (.nilFunc) := by kernel_rfl
theorem sh48 : XL.shapeOf Try.prog 48 = some (false, 1) := by kernel_rfl
theorem ze48 : XL.zeroOf Try.prog 48 = some (.nilFunc) := by kernel_rfl
theorem sh49 : XL.shapeOf Try.prog 49 = some (false, 1) := by kernel_rfl
theorem ze49 : XL.zeroOf Try.prog 49 = some (.map none) := by kernel_rfl
theorem sh50 : XL.shapeOf Try.prog 50 = some (false, 1) := by kernel_rfl
theorem ze50 : XL.zeroOf Try.prog 50 = some (.nilFunc) := by kernel_rfl
theorem sh51 : XL.shapeOf Try.prog 51 = some (false, 1) := by kernel_rfl
theorem ze51 : XL.zeroOf Try.prog 51 = some (.nilFunc) := by kernel_rfl
theorem sh53 : XL.shapeOf Try.prog 53 = some (false, 1) := by kernel_rfl
theorem ze53 : XL.zeroOf Try.prog 53 = some (.nilFunc) := by kernel_rfl
theorem sh54 : XL.shapeOf Try.prog 54 = some (false, 1) := by kernel_rfl
theorem ze54 : XL.zeroOf Try.prog 54 = some (.nilFunc) := by kernel_rfl
theorem sh55 : XL.shapeOf Try.prog 55 = some (false, 1) := by kernel_rfl
theorem ze55 : XL.zeroOf Try.prog 55 = some (.nilFunc) := by kernel_rfl
theorem sh56 : XL.shapeOf Try.prog 56 = some (false, 1) := by kernel_rfl
theorem ze56 : XL.zeroOf Try.prog 56 = some (.nilFunc) := by kernel_rfl
theorem sh57 : XL.shapeOf Try.prog 57 = some (false, 1) := by kernel_rfl
theorem ze57 : XL.zeroOf Try.prog 57 = some (.nilFunc) := by kernel_rfl
theorem sh58 : XL.shapeOf Try.prog 58 = some (false, 1) := by kernel_rfl
theorem ze58 : XL.zeroOf Try.prog 58 = some (.nilFunc) := by kernel_rfl
theorem sh59 : XL.shapeOf Try.prog 59 = some (false, 1) := by kernel_rfl
theorem ze59 : XL.zeroOf Try.prog 59 = some (.nilFunc) := by kernel_rfl
theorem sh60 : XL.shapeOf Try.prog 60 = some (false, 1) := by kernel_rfl
theorem ze60 : XL.zeroOf Try.prog 60 = some (.map none) := by kernel_rfl
theorem sh61 : XL.shapeOf Try.prog 61 = some (false, 1) := by kernel_rfl
theorem ze61 : XL.zeroOf Try.prog 61 = some (.nilFunc) := by kernel_rfl
theorem sh62 : XL.shapeOf Try.prog 62 = some (false, 1) := by kernel_rfl
theorem ze62 : XL.zeroOf Try.prog 62 = some (.nilFunc) := by kernel_rfl
theorem sh63 : XL.shapeOf Try.prog 63 = some (false, 1) := by kernel_rfl
theorem ze63 : XL.zeroOf Try.prog 63 = some (.nilFunc) := by kernel_rfl
theorem sh64 : XL.shapeOf Try.prog 64 = some (false, 1) := by kernel_rfl
theorem ze64 : XL.zeroOf Try.prog 64 = some (.nilFunc) := by kernel_rfl
theorem sh65 : XL.shapeOf Try.prog 65 = some (false, 1) := by kernel_rfl
theorem sl65 : XL.sliceOf Try.prog 65 = some (4, 1, 1) := by kernel_rfl
theorem ze65 : XL.zeroOf Try.prog 65 = some (.slice none 0 0) := by kernel_rfl
theorem sh66 : XL.shapeOf Try.prog 66 = some (false, 1) := by kernel_rfl
theorem ze66 : XL.zeroOf Try.prog 66 = some (.nilFunc) := by kernel_rfl
theorem sh68 : XL.shapeOf Try.prog 68 = some (false, 1) := by kernel_rfl
theorem ze68 : XL.zeroOf Try.prog 68 = some (.nilFunc) := by kernel_rfl
theorem sh69 : XL.shapeOf Try.prog 69 = some (false, 1) := by kernel_rfl
theorem ze69 : XL.zeroOf Try.prog 69 = some (.nilFunc) := by kernel_rfl
theorem sh70 : XL.shapeOf Try.prog 70 = some (false, 1) := by kernel_rfl
theorem ze70 : XL.zeroOf Try.prog 70 = some (.nilFunc) := by kernel_rfl
theorem sh71 : XL.shapeOf Try.prog 71 = some (false, 1) := by kernel_rfl
theorem ze71 : XL.zeroOf Try.prog 71 = some (.nilFunc) := by kernel_rfl
theorem sh72 : XL.shapeOf Try.prog 72 = some (false, 1) := by kernel_rfl
theorem ze72 : XL.zeroOf Try.prog 72 = some (.nilFunc) := by kernel_rfl
theorem sh73 : XL.shapeOf Try.prog 73 = some (false, 1) := by kernel_rfl
theorem ze73 : XL.zeroOf Try.prog 73 = some (.nilFunc) := by kernel_rfl
theorem sh74 : XL.shapeOf Try.prog 74 = some (false, 1) := by kernel_rfl
theorem ze74 : XL.zeroOf Try.prog 74 = some (.nilFunc) := by kernel_rfl
theorem sh75 : XL.shapeOf Try.prog 75 = some (false, 1) := by kernel_rfl
theorem i75 : XL.intOf? Try.prog 75 = some .u64 := by kernel_rfl
theorem ze75 : XL.zeroOf Try.prog 75 = some (.int .u64 0) := by kernel_rfl
theorem sh76 : XL.shapeOf Try.prog 76 = some (false, 1) := by kernel_rfl
theorem ze76 : XL.zeroOf Try.prog 76 = some (.nilFunc) := by kernel_rfl
theorem sh77 : XL.shapeOf Try.prog 77 = some (false, 1) := by kernel_rfl
theorem ze77 : XL.zeroOf Try.prog 77 = some (.nilFunc) := by kernel_rfl
theorem sh78 : XL.shapeOf Try.prog 78 = some (false, 1) := by kernel_rfl
theorem ze78 : XL.zeroOf Try.prog 78 = some (.nilFunc) := by kernel_rfl
theorem sh84 : XL.shapeOf Try.prog 84 = some (false, 1) := by kernel_rfl
theorem i84 : XL.intOf? Try.prog 84 = some .u32 := by kernel_rfl
theorem ze84 : XL.zeroOf Try.prog 84 = some (.int .u32 0) := by kernel_rfl
theorem sh88 : XL.shapeOf Try.prog 88 = some (false, 1) := by kernel_rfl
theorem ze88 : XL.zeroOf Try.prog 88 = some (.pointer none) := by kernel_rfl
theorem ok3 : XL.calleeOK Try.prog 3 = true := by kernel_rfl
theorem ok4 : XL.calleeOK Try.prog 4 = true := by kernel_rfl
theorem ok5 : XL.calleeOK Try.prog 5 = true := by kernel_rfl
theorem ok6 : XL.calleeOK Try.prog 6 = true := by kernel_rfl
theorem ok7 : XL.calleeOK Try.prog 7 = true := by kernel_rfl
theorem ok8 : XL.calleeOK Try.prog 8 = true := by kernel_rfl
theorem ok9 : XL.calleeOK Try.prog 9 = true := by kernel_rfl
theorem ok10 : XL.calleeOK Try.prog 10 = true := by kernel_rfl
theorem ok11 : XL.calleeOK Try.prog 11 = true := by kernel_rfl
theorem ok12 : XL.calleeOK Try.prog 12 = true := by kernel_rfl
theorem ok13 : XL.calleeOK Try.prog 13 = true := by kernel_rfl
theorem ok14 : XL.calleeOK Try.prog 14 = true := by kernel_rfl
theorem ok15 : XL.calleeOK Try.prog 15 = true := by kernel_rfl
theorem ok16 : XL.calleeOK Try.prog 16 = true := by kernel_rfl
theorem ok17 : XL.calleeOK Try.prog 17 = true := by kernel_rfl
theorem ok18 : XL.calleeOK Try.prog 18 = true := by kernel_rfl
theorem ok19 : XL.calleeOK Try.prog 19 = true := by kernel_rfl
theorem ok20 : XL.calleeOK Try.prog 20 = true := by kernel_rfl
theorem ok21 : XL.calleeOK Try.prog 21 = true := by kernel_rfl
theorem ok22 : XL.calleeOK Try.prog 22 = true := by kernel_rfl
theorem ok23 : XL.calleeOK Try.prog 23 = true := by kernel_rfl
theorem ok24 : XL.calleeOK Try.prog 24 = true := by kernel_rfl
theorem ok25 : XL.calleeOK Try.prog 25 = true := by kernel_rfl
theorem ok26 : XL.calleeOK Try.prog 26 = true := by kernel_rfl
theorem ok27 : XL.calleeOK Try.prog 27 = true := by kernel_rfl
theorem ok28 : XL.calleeOK Try.prog 28 = true := by kernel_rfl
theorem ok29 : XL.calleeOK Try.prog 29 = true := by kernel_rfl
theorem ok30 : XL.calleeOK Try.prog 30 = true := by kernel_rfl
theorem ok31 : XL.calleeOK Try.prog 31 = true := by kernel_rfl
theorem ok32 : XL.calleeOK Try.prog 32 = true := by kernel_rfl
theorem ok33 : XL.calleeOK Try.prog 33 = true := by kernel_rfl
theorem ok34 : XL.calleeOK Try.prog 34 = true := by kernel_rfl
theorem ok35 : XL.calleeOK Try.prog 35 = true := by kernel_rfl
theorem ok36 : XL.calleeOK Try.prog 36 = true := by kernel_rfl
theorem ok37 : XL.calleeOK Try.prog 37 = true := by kernel_rfl
theorem ok38 : XL.calleeOK Try.prog 38 = true := by kernel_rfl
theorem ok39 : XL.calleeOK Try.prog 39 = true := by kernel_rfl
theorem ok40 : XL.calleeOK Try.prog 40 = true := by kernel_rfl

end Go.Proofs.Ytfcmbojlflgpmaa
