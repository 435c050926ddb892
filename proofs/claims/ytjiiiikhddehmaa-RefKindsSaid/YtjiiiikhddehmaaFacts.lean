/-
  Closed facts on the types and the functions of this translation: sizes, offsets, zero values; each proved by the kernel.
-/
import Derived.Test.YtjiiiikhddehmaaRows
import Derived.Test.YtjiiiikhddehmaaCore
import Derived.KernelRfl
set_option linter.unusedVariables false
namespace Go.Proofs.Ytjiiiikhddehmaa
open Go

theorem mxo : Try.prog.follows .mixedOrders = true := by kernel_rfl
theorem sh1 : XL.shapeOf Try.prog 1 = some (false, 1) := by kernel_rfl
theorem ze1 : XL.zeroOf Try.prog 1 = some (.nilFunc) := by kernel_rfl
theorem sh2 : XL.shapeOf Try.prog 2 = some (false, 1) := by kernel_rfl
theorem i2 : XL.intOf? Try.prog 2 = some .i64 := by kernel_rfl
theorem ze2 : XL.zeroOf Try.prog 2 = some (.int .i64 0) := by kernel_rfl
theorem sh3 : XL.shapeOf Try.prog 3 = some (false, 1) := by kernel_rfl
theorem i3 : XL.intOf? Try.prog 3 = some .i64 := by kernel_rfl
theorem ze3 : XL.zeroOf Try.prog 3 = some (.int .i64 0) := by kernel_rfl
theorem sh4 : XL.shapeOf Try.prog 4 = some (false, 1) := by kernel_rfl
theorem bo4 : Try.prog.underlying 4 = some .bool := by kernel_rfl
theorem ze4 : XL.zeroOf Try.prog 4 = some (.bool false) := by kernel_rfl
theorem sh5 : XL.shapeOf Try.prog 5 = some (false, 1) := by kernel_rfl
theorem i5 : XL.intOf? Try.prog 5 = some .u8 := by kernel_rfl
theorem ze5 : XL.zeroOf Try.prog 5 = some (.int .u8 0) := by kernel_rfl
theorem sh12 : XL.shapeOf Try.prog 12 = some (false, 1) := by kernel_rfl
theorem i12 : XL.intOf? Try.prog 12 = some .u64 := by kernel_rfl
theorem ze12 : XL.zeroOf Try.prog 12 = some (.int .u64 0) := by kernel_rfl
theorem sh13 : XL.shapeOf Try.prog 13 = some (true, 2) := by kernel_rfl
theorem fo13_0 : XL.fieldOff Try.prog 13 0 = some 0 := by kernel_rfl
theorem fo13_1 : XL.fieldOff Try.prog 13 1 = some 1 := by kernel_rfl
theorem pl13 : XL.placesOf Try.prog 13 = some [(0, 1), (1, 1)] := by kernel_rfl
theorem sh21 : XL.shapeOf Try.prog 21 = some (false, 1) := by kernel_rfl
theorem i21 : XL.intOf? Try.prog 21 = some .i32 := by kernel_rfl
theorem ze21 : XL.zeroOf Try.prog 21 = some (.int .i32 0) := by kernel_rfl
theorem sh22 : XL.shapeOf Try.prog 22 = some (false, 1) := by kernel_rfl
theorem i22 : XL.intOf? Try.prog 22 = some .u64 := by kernel_rfl
theorem ze22 : XL.zeroOf Try.prog 22 = some (.int .u64 0) := by kernel_rfl
theorem sh23 : XL.shapeOf Try.prog 23 = some (false, 1) := by kernel_rfl
theorem ze23 : XL.zeroOf Try.prog 23 = some (.nilFunc) := by kernel_rfl
theorem sh24 : XL.shapeOf Try.prog 24 = some (false, 1) := by kernel_rfl
theorem ze24 : XL.zeroOf Try.prog 24 = some (.nilFunc) := by kernel_rfl
theorem sh25 : XL.shapeOf Try.prog 25 = some (false, 1) := by kernel_rfl
theorem ze25 : XL.zeroOf Try.prog 25 = some (.nilFunc) := by kernel_rfl
theorem sh26 : XL.shapeOf Try.prog 26 = some (false, 1) := by kernel_rfl
theorem i26 : XL.intOf? Try.prog 26 = some .i64 := by kernel_rfl
theorem ze26 : XL.zeroOf Try.prog 26 = some (.int .i64 0) := by kernel_rfl
theorem sh28 : XL.shapeOf Try.prog 28 = some (false, 1) := by kernel_rfl
theorem ze28 : XL.zeroOf Try.prog 28 = some (.nilFunc) := by kernel_rfl
theorem sh29 : XL.shapeOf Try.prog 29 = some (false, 1) := by kernel_rfl
theorem ze29 : XL.zeroOf Try.prog 29 = some (.nilFunc) := by kernel_rfl
theorem sh30 : XL.shapeOf Try.prog 30 = some (false, 1) := by kernel_rfl
theorem ze30 : XL.zeroOf Try.prog 30 = some (.nilFunc) := by kernel_rfl
theorem sh31 : XL.shapeOf Try.prog 31 = some (false, 1) := by kernel_rfl
theorem ze31 : XL.zeroOf Try.prog 31 = some (.nilFunc) := by kernel_rfl
theorem sh32 : XL.shapeOf Try.prog 32 = some (false, 1) := by kernel_rfl
theorem i32 : XL.intOf? Try.prog 32 = some .u64 := by kernel_rfl
theorem ze32 : XL.zeroOf Try.prog 32 = some (.int .u64 0) := by kernel_rfl
theorem sh33 : XL.shapeOf Try.prog 33 = some (false, 1) := by kernel_rfl
theorem ze33 : XL.zeroOf Try.prog 33 = some (.nilFunc) := by kernel_rfl
theorem sh34 : XL.shapeOf Try.prog 34 = some (false, 1) := by kernel_rfl
theorem ze34 : XL.zeroOf Try.prog 34 = some (.nilFunc) := by kernel_rfl
theorem sh35 : XL.shapeOf Try.prog 35 = some (false, 1) := by kernel_rfl
theorem i35 : XL.intOf? Try.prog 35 = some .u64 := by kernel_rfl
theorem ze35 : XL.zeroOf Try.prog 35 = some (.int .u64 0) := by kernel_rfl
theorem sh37 : XL.shapeOf Try.prog 37 = some (false, 1) := by kernel_rfl
theorem ze37 : XL.zeroOf Try.prog 37 = some (.nilFunc) := by kernel_rfl
theorem sh38 : XL.shapeOf Try.prog 38 = some (false, 1) := by kernel_rfl
theorem ze38 : XL.zeroOf Try.prog 38 = some (.nilFunc) := by kernel_rfl
theorem sh39 : XL.shapeOf Try.prog 39 = some (false, 1) := by kernel_rfl
theorem ze39 : XL.zeroOf Try.prog 39 = some (.nilFunc) := by kernel_rfl
theorem sh40 : XL.shapeOf Try.prog 40 = some (false, 1) := by kernel_rfl
theorem ze40 : XL.zeroOf Try.prog 40 = some (.nilFunc) := by kernel_rfl
theorem sh41 : XL.shapeOf Try.prog 41 = some (false, 1) := by kernel_rfl
theorem ze41 : XL.zeroOf Try.prog 41 = some (.nilFunc) := by kernel_rfl
theorem sh42 : XL.shapeOf Try.prog 42 = some (false, 1) := by kernel_rfl
theorem ze42 : XL.zeroOf Try.prog 42 = some (.nilFunc) := by kernel_rfl
theorem sh43 : XL.shapeOf Try.prog 43 = some (false, 1) := by kernel_rfl
theorem ze43 : XL.zeroOf Try.prog 43 = some (.nilFunc) := by kernel_rfl
theorem sh44 : XL.shapeOf Try.prog 44 = some (false, 1) := by kernel_rfl
theorem ze44 : XL.zeroOf Try.prog 44 = some (.nilFunc) := by kernel_rfl
theorem sh45 : XL.shapeOf Try.prog 45 = some (true, 2) := by kernel_rfl
theorem fo45_0 : XL.fieldOff Try.prog 45 0 = some 0 := by kernel_rfl
theorem fo45_1 : XL.fieldOff Try.prog 45 1 = some 1 := by kernel_rfl
theorem pl45 : XL.placesOf Try.prog 45 = some [(0, 1), (1, 1)] := by kernel_rfl
theorem ze45 : XL.zeroOf Try.prog 45 = some (.agg #[.int .i64 0, .int .u64 0]) := by kernel_rfl
theorem sh46 : XL.shapeOf Try.prog 46 = some (true, 2) := by kernel_rfl
theorem fo46_0 : XL.fieldOff Try.prog 46 0 = some 0 := by kernel_rfl
theorem fo46_1 : XL.fieldOff Try.prog 46 1 = some 1 := by kernel_rfl
theorem pl46 : XL.placesOf Try.prog 46 = some [(0, 1), (1, 1)] := by kernel_rfl
theorem ze46 : XL.zeroOf Try.prog 46 = some (.agg #[.int .i64 0, .int .u64 0]) := by kernel_rfl
theorem sh47 : XL.shapeOf Try.prog 47 = some (true, 6) := by kernel_rfl
theorem ar47 : XL.arrOf Try.prog 47 = some (3, 46, 2) := by kernel_rfl
theorem ze47 : XL.zeroOf Try.prog 47 = some (.agg #[.int .i64 0, .int .u64 0, .int .i64 0, .int .u64 0, .int .i64 0, .int .u64 0]) := by kernel_rfl
theorem sh48 : XL.shapeOf Try.prog 48 = some (false, 1) := by kernel_rfl
theorem ze48 : XL.zeroOf Try.prog 48 = some (.nilFunc) := by kernel_rfl
theorem sh49 : XL.shapeOf Try.prog 49 = some (false, 1) := by kernel_rfl
theorem ze49 : XL.zeroOf Try.prog 49 = some (.nilFunc) := by kernel_rfl
theorem sh50 : XL.shapeOf Try.prog 50 = some (false, 1) := by kernel_rfl
theorem ze50 : XL.zeroOf Try.prog 50 = some (.nilFunc) := by kernel_rfl
theorem sh51 : XL.shapeOf Try.prog 51 = some (false, 1) := by kernel_rfl
theorem i51 : XL.intOf? Try.prog 51 = some .u64 := by kernel_rfl
theorem ze51 : XL.zeroOf Try.prog 51 = some (.int .u64 0) := by kernel_rfl
theorem sh52 : XL.shapeOf Try.prog 52 = some (false, 1) := by kernel_rfl
theorem ze52 : XL.zeroOf Try.prog 52 = some (.nilFunc) := by kernel_rfl
theorem sh58 : XL.shapeOf Try.prog 58 = some (false, 1) := by kernel_rfl
theorem i58 : XL.intOf? Try.prog 58 = some .u32 := by kernel_rfl
theorem ze58 : XL.zeroOf Try.prog 58 = some (.int .u32 0) := by kernel_rfl
theorem sh62 : XL.shapeOf Try.prog 62 = some (false, 1) := by kernel_rfl
theorem ze62 : XL.zeroOf Try.prog 62 = some (.pointer none) := by kernel_rfl
theorem ok3 : XL.calleeOK Try.prog 3 = true := by kernel_rfl
theorem ok4 : XL.calleeOK Try.prog 4 = true := by kernel_rfl
theorem ok5 : XL.calleeOK Try.prog 5 = true := by kernel_rfl
theorem ok6 : XL.calleeOK Try.prog 6 = true := by kernel_rfl
theorem ok7 : XL.calleeOK Try.prog 7 = true := by kernel_rfl
theorem ok8 : XL.calleeOK Try.prog 8 = true := by kernel_rfl
theorem ok9 : XL.calleeOK Try.prog 9 = true := by kernel_rfl
theorem ok10 : XL.calleeOK Try.prog 10 = true := by kernel_rfl
theorem ok11 : XL.calleeOK Try.prog 11 = true := by kernel_rfl
theorem ok12 : XL.calleeOK Try.prog 12 = true := by kernel_rfl
theorem ok13 : XL.calleeOK Try.prog 13 = true := by kernel_rfl
theorem ok14 : XL.calleeOK Try.prog 14 = true := by kernel_rfl
theorem ok15 : XL.calleeOK Try.prog 15 = true := by kernel_rfl
theorem ok16 : XL.calleeOK Try.prog 16 = true := by kernel_rfl
theorem ok17 : XL.calleeOK Try.prog 17 = true := by kernel_rfl
theorem ok18 : XL.calleeOK Try.prog 18 = true := by kernel_rfl
theorem ok19 : XL.calleeOK Try.prog 19 = true := by kernel_rfl
theorem ok20 : XL.calleeOK Try.prog 20 = true := by kernel_rfl
theorem ok21 : XL.calleeOK Try.prog 21 = true := by kernel_rfl
theorem ok22 : XL.calleeOK Try.prog 22 = true := by kernel_rfl
theorem ok23 : XL.calleeOK Try.prog 23 = true := by kernel_rfl
theorem ok24 : XL.calleeOK Try.prog 24 = true := by kernel_rfl
theorem ok25 : XL.calleeOK Try.prog 25 = true := by kernel_rfl
theorem ok26 : XL.calleeOK Try.prog 26 = true := by kernel_rfl
theorem ok27 : XL.calleeOK Try.prog 27 = true := by kernel_rfl
theorem ok28 : XL.calleeOK Try.prog 28 = true := by kernel_rfl
theorem ok29 : XL.calleeOK Try.prog 29 = true := by kernel_rfl
theorem ok30 : XL.calleeOK Try.prog 30 = true := by kernel_rfl
theorem ok31 : XL.calleeOK Try.prog 31 = true := by kernel_rfl
theorem ok32 : XL.calleeOK Try.prog 32 = true := by kernel_rfl
theorem ok33 : XL.calleeOK Try.prog 33 = true := by kernel_rfl
theorem ok34 : XL.calleeOK Try.prog 34 = true := by kernel_rfl

end Go.Proofs.Ytjiiiikhddehmaa
