/-
  Closed facts on the types and the functions of this translation: sizes, offsets, zero values; each proved by the kernel.
-/
import Derived.Test.YtdmaogopibljoaaRows
import Derived.Test.YtdmaogopibljoaaCore
import Derived.KernelRfl
set_option linter.unusedVariables false
namespace Go.Proofs.Ytdmaogopibljoaa
open Go

theorem mxo : Try.prog.follows .mixedOrders = true := by kernel_rfl
theorem sh1 : XL.shapeOf Try.prog 1 = some (false, 1) := by kernel_rfl
theorem ze1 : XL.zeroOf Try.prog 1 = some (.nilFunc) := by kernel_rfl
theorem sh2 : XL.shapeOf Try.prog 2 = some (false, 1) := by kernel_rfl
theorem i2 : XL.intOf? Try.prog 2 = some .i64 := by kernel_rfl
theorem ze2 : XL.zeroOf Try.prog 2 = some (.int .i64 0) := by kernel_rfl
theorem sh3 : XL.shapeOf Try.prog 3 = some (false, 1) := by kernel_rfl
theorem i3 : XL.intOf? Try.prog 3 = some .i64 := by kernel_rfl
theorem ze3 : XL.zeroOf Try.prog 3 = some (.int .i64 0) := by kernel_rfl
theorem sh4 : XL.shapeOf Try.prog 4 = some (false, 1) := by kernel_rfl
theorem bo4 : Try.prog.underlying 4 = some .bool := by kernel_rfl
theorem ze4 : XL.zeroOf Try.prog 4 = some (.bool false) := by kernel_rfl
theorem sh5 : XL.shapeOf Try.prog 5 = some (false, 1) := by kernel_rfl
theorem i5 : XL.intOf? Try.prog 5 = some .u8 := by kernel_rfl
theorem ze5 : XL.zeroOf Try.prog 5 = some (.int .u8 0) := by kernel_rfl
theorem sh12 : XL.shapeOf Try.prog 12 = some (false, 1) := by kernel_rfl
theorem i12 : XL.intOf? Try.prog 12 = some .u64 := by kernel_rfl
theorem ze12 : XL.zeroOf Try.prog 12 = some (.int .u64 0) := by kernel_rfl
theorem sh13 : XL.shapeOf Try.prog 13 = some (true, 2) := by kernel_rfl
theorem fo13_0 : XL.fieldOff Try.prog 13 0 = some 0 := by kernel_rfl
theorem fo13_1 : XL.fieldOff Try.prog 13 1 = some 1 := by kernel_rfl
theorem pl13 : XL.placesOf Try.prog 13 = some [(0, 1), (1, 1)] := by kernel_rfl
theorem sh21 : XL.shapeOf Try.prog 21 = some (false, 1) := by kernel_rfl
theorem i21 : XL.intOf? Try.prog 21 = some .i32 := by kernel_rfl
theorem ze21 : XL.zeroOf Try.prog 21 = some (.int .i32 0) := by kernel_rfl
theorem sh22 : XL.shapeOf Try.prog 22 = some (false, 1) := by kernel_rfl
theorem sl22 : XL.sliceOf Try.prog 22 = some (2, 1, 8) := by kernel_rfl
theorem ze22 : XL.zeroOf Try.prog 22 = some (.slice none 0 0) := by kernel_rfl
theorem sh23 : XL.shapeOf Try.prog 23 = some (false, 1) := by kernel_rfl
theorem sl23 : XL.sliceOf Try.prog 23 = some (42, 2, 16) := by kernel_rfl
theorem ze23 : XL.zeroOf Try.prog 23 = some (.slice none 0 0) := by kernel_rfl
theorem sh24 : XL.shapeOf Try.prog 24 = some (false, 1) := by kernel_rfl
theorem ze24 : XL.zeroOf Try.prog 24 = some (.nilFunc) := by kernel_rfl
theorem sh25 : XL.shapeOf Try.prog 25 = some (false, 1) := by kernel_rfl
theorem sl25 : XL.sliceOf Try.prog 25 = some (69, 16, 128) := by kernel_rfl
theorem ze25 : XL.zeroOf Try.prog 25 = some (.slice none 0 0) := by kernel_rfl
theorem sh26 : XL.shapeOf Try.prog 26 = some (false, 1) := by kernel_rfl
theorem sl26 : XL.sliceOf Try.prog 26 = some (3, 1, 8) := by kernel_rfl
theorem ze26 : XL.zeroOf Try.prog 26 = some (.slice none 0 0) := by kernel_rfl
theorem sh27 : XL.shapeOf Try.prog 27 = some (true, 2) := by kernel_rfl
theorem fo27_0 : XL.fieldOff Try.prog 27 0 = some 0 := by kernel_rfl
theorem fo27_1 : XL.fieldOff Try.prog 27 1 = some 1 := by kernel_rfl
theorem pl27 : XL.placesOf Try.prog 27 = some [(0, 1), (1, 1)] := by kernel_rfl
theorem ze27 : XL.zeroOf Try.prog 27 = some (.agg #[.slice none 0 0, .slice none 0 0]) := by kernel_rfl
theorem sh28 : XL.shapeOf Try.prog 28 = some (true, 2) := by kernel_rfl
theorem fo28_0 : XL.fieldOff Try.prog 28 0 = some 0 := by kernel_rfl
theorem fo28_1 : XL.fieldOff Try.prog 28 1 = some 1 := by kernel_rfl
theorem pl28 : XL.placesOf Try.prog 28 = some [(0, 1), (1, 1)] := by kernel_rfl
theorem ze28 : XL.zeroOf Try.prog 28 = some (.agg #[.slice none 0 0, .slice none 0 0]) := by kernel_rfl
theorem sh29 : XL.shapeOf Try.prog 29 = some (false, 1) := by kernel_rfl
theorem i29 : XL.intOf? Try.prog 29 = some .u64 := by kernel_rfl
theorem ze29 : XL.zeroOf Try.prog 29 = some (.int .u64 0) := by kernel_rfl
theorem sh30 : XL.shapeOf Try.prog 30 = some (false, 1) := by kernel_rfl
theorem i30 : XL.intOf? Try.prog 30 = some .u64 := by kernel_rfl
theorem ze30 : XL.zeroOf Try.prog 30 = some (.int .u64 0) := by kernel_rfl
theorem sh32 : XL.shapeOf Try.prog 32 = some (false, 1) := by kernel_rfl
theorem ze32 : XL.zeroOf Try.prog 32 = some (.nilFunc) := by kernel_rfl
theorem sh33 : XL.shapeOf Try.prog 33 = some (false, 1) := by kernel_rfl
theorem i33 : XL.intOf? Try.prog 33 = some .i64 := by kernel_rfl
theorem ze33 : XL.zeroOf Try.prog 33 = some (.int .i64 0) := by kernel_rfl
theorem sh35 : XL.shapeOf Try.prog 35 = some (false, 1) := by kernel_rfl
theorem ze35 : XL.zeroOf Try.prog 35 = some (.nilFunc) := by kernel_rfl
theorem sh36 : XL.shapeOf Try.prog 36 = some (false, 1) := by kernel_rfl
theorem ze36 : XL.zeroOf Try.prog 36 = some (.nilFunc) := by kernel_rfl
theorem sh37 : XL.shapeOf Try.prog 37 = some (false, 1) := by kernel_rfl
theorem ze37 : XL.zeroOf Try.prog 37 = some (.nilFunc) := by kernel_rfl
theorem sh38 : XL.shapeOf Try.prog 38 = some (false, 1) := by kernel_rfl
theorem ze38 : XL.zeroOf Try.prog 38 = some (.nilFunc) := by kernel_rfl
theorem sh40 : XL.shapeOf Try.prog 40 = some (false, 1) := by kernel_rfl
theorem ze40 : XL.zeroOf Try.prog 40 = some (.nilFunc) := by kernel_rfl
theorem sh41 : XL.shapeOf Try.prog 41 = some (true, 2) := by kernel_rfl
theorem fo41_0 : XL.fieldOff Try.prog 41 0 = some 0 := by kernel_rfl
theorem fo41_1 : XL.fieldOff Try.prog 41 1 = some 1 := by kernel_rfl
theorem pl41 : XL.placesOf Try.prog 41 = some [(0, 1), (1, 1)] := by kernel_rfl
theorem fk41 : XL.flatK Try.prog 6 41 = some [some .i64, some .i64] := by kernel_rfl
theorem eg41 : Try.prog.eqGuardType Try.prog.depth 41 = false := by kernel_rfl
theorem ze41 : XL.zeroOf Try.prog 41 = some (.agg #[.int .i64 0, .int .i64 0]) := by kernel_rfl
theorem sh42 : XL.shapeOf Try.prog 42 = some (true, 2) := by kernel_rfl
theorem fo42_0 : XL.fieldOff Try.prog 42 0 = some 0 := by kernel_rfl
theorem fo42_1 : XL.fieldOff Try.prog 42 1 = some 1 := by kernel_rfl
theorem pl42 : XL.placesOf Try.prog 42 = some [(0, 1), (1, 1)] := by kernel_rfl
theorem fk42 : XL.flatK Try.prog 6 42 = some [some .i64, some .i64] := by kernel_rfl
theorem eg42 : Try.prog.eqGuardType Try.prog.depth 42 = false := by kernel_rfl
theorem ze42 : XL.zeroOf Try.prog 42 = some (.agg #[.int .i64 0, .int .i64 0]) := by kernel_rfl
theorem sh43 : XL.shapeOf Try.prog 43 = some (false, 1) := by kernel_rfl
theorem ze43 : XL.zeroOf Try.prog 43 = some (.nilFunc) := by kernel_rfl
theorem sh44 : XL.shapeOf Try.prog 44 = some (false, 1) := by kernel_rfl
theorem ze44 : XL.zeroOf Try.prog 44 = some (.nilFunc) := by kernel_rfl
theorem sh45 : XL.shapeOf Try.prog 45 = some (true, 4) := by kernel_rfl
theorem fo45_0 : XL.fieldOff Try.prog 45 0 = some 0 := by kernel_rfl
theorem fo45_1 : XL.fieldOff Try.prog 45 1 = some 1 := by kernel_rfl
theorem fo45_2 : XL.fieldOff Try.prog 45 2 = some 2 := by kernel_rfl
theorem fo45_3 : XL.fieldOff Try.prog 45 3 = some 3 := by kernel_rfl
theorem pl45 : XL.placesOf Try.prog 45 = some [(0, 1), (1, 1), (2, 1), (3, 1)] := by kernel_rfl
theorem fk45 : XL.flatK Try.prog 6 45 = some [some .u64, some .i64, some .i64, none] := by kernel_rfl
theorem eg45 : Try.prog.eqGuardType Try.prog.depth 45 = false := by kernel_rfl
theorem ze45 : XL.zeroOf Try.prog 45 = some (.agg #[.int .u64 0, .int .i64 0, .int .i64 0, .bool false]) := by kernel_rfl
theorem sh46 : XL.shapeOf Try.prog 46 = some (true, 4) := by kernel_rfl
theorem fo46_0 : XL.fieldOff Try.prog 46 0 = some 0 := by kernel_rfl
theorem fo46_1 : XL.fieldOff Try.prog 46 1 = some 1 := by kernel_rfl
theorem fo46_2 : XL.fieldOff Try.prog 46 2 = some 2 := by kernel_rfl
theorem fo46_3 : XL.fieldOff Try.prog 46 3 = some 3 := by kernel_rfl
theorem pl46 : XL.placesOf Try.prog 46 = some [(0, 1), (1, 1), (2, 1), (3, 1)] := by kernel_rfl
theorem fk46 : XL.flatK Try.prog 6 46 = some [some .u64, some .i64, some .i64, none] := by kernel_rfl
theorem eg46 : Try.prog.eqGuardType Try.prog.depth 46 = false := by kernel_rfl
theorem ze46 : XL.zeroOf Try.prog 46 = some (.agg #[.int .u64 0, .int .i64 0, .int .i64 0, .bool false]) := by kernel_rfl
theorem sh48 : XL.shapeOf Try.prog 48 = some (false, 1) := by kernel_rfl
theorem ze48 : XL.zeroOf Try.prog 48 = some (.nilFunc) := by kernel_rfl
theorem sh50 : XL.shapeOf Try.prog 50 = some (false, 1) := by kernel_rfl
theorem ze50 : XL.zeroOf Try.prog 50 = some (.nilFunc) := by kernel_rfl
theorem sh51 : XL.shapeOf Try.prog 51 = some (false, 1) := by kernel_rfl
theorem ze51 : XL.zeroOf Try.prog 51 = some (.nilFunc) := by kernel_rfl
theorem sh53 : XL.shapeOf Try.prog 53 = some (false, 1) := by kernel_rfl
theorem ze53 : XL.zeroOf Try.prog 53 = some (.nilFunc) := by kernel_rfl
theorem sh54 : XL.shapeOf Try.prog 54 = some (false, 1) := by kernel_rfl
theorem ze54 : XL.zeroOf Try.prog 54 = some (.nilFunc) := by kernel_rfl
theorem sh55 : XL.shapeOf Try.prog 55 = some (false, 1) := by kernel_rfl
theorem ze55 : XL.zeroOf Try.prog 55 = some (.nilFunc) := by kernel_rfl
theorem sh56 : XL.shapeOf Try.prog 56 = some (false, 1) := by kernel_rfl
theorem ze56 : XL.zeroOf Try.prog 56 = some (.nilFunc) := by kernel_rfl
theorem sh57 : XL.shapeOf Try.prog 57 = some (false, 1) := by kernel_rfl
theorem ze57 : XL.zeroOf Try.prog 57 = some (.nilFunc) := by kernel_rfl
theorem sh58 : XL.shapeOf Try.prog 58 = some (false, 1) := by kernel_rfl
theorem ze58 : XL.zeroOf Try.prog 58 = some (.nilFunc) := by kernel_rfl
theorem sh59 : XL.shapeOf Try.prog 59 = some (false, 1) := by kernel_rfl
theorem ze59 : XL.zeroOf Try.prog 59 = some (.nilFunc) := by kernel_rfl
theorem sh61 : XL.shapeOf Try.prog 61 = some (false, 1) := by kernel_rfl
theorem ze61 : XL.zeroOf Try.prog 61 = some (.nilFunc) := by kernel_rfl
theorem sh62 : XL.shapeOf Try.prog 62 = some (false, 1) := by kernel_rfl
theorem ze62 : XL.zeroOf Try.prog 62 = some (.nilFunc) := by kernel_rfl
theorem sh63 : XL.shapeOf Try.prog 63 = some (false, 1) := by kernel_rfl
theorem sl63 : XL.sliceOf Try.prog 63 = some (30, 1, 8) := by kernel_rfl
theorem ze63 : XL.zeroOf Try.prog 63 = some (.slice none 0 0) := by kernel_rfl
theorem sh64 : XL.shapeOf Try.prog 64 = some (false, 1) := by kernel_rfl
theorem ze64 : XL.zeroOf Try.prog 64 = some (.pointer none) := by kernel_rfl
theorem sh66 : XL.shapeOf Try.prog 66 = some (false, 1) := by kernel_rfl
theorem ze66 : XL.zeroOf Try.prog 66 = some (.nilFunc) := by kernel_rfl
theorem sh67 : XL.shapeOf Try.prog 67 = some (true, 9) := by kernel_rfl
theorem ar67 : XL.arrOf Try.prog 67 = some (9, 30, 1) := by kernel_rfl
theorem fk67 : XL.flatK Try.prog 6 67 = some [some .u64, some .u64, some .u64, some .u64, some .u64, some .u64, some .u64, some .u64, some .u64] := by kernel_rfl
theorem eg67 : Try.prog.eqGuardType Try.prog.depth 67 = false := by kernel_rfl
theorem ze67 : XL.zeroOf Try.prog 67 = some (.agg #[.int .u64 0, .int .u64 0, .int .u64 0, .int .u64 0, .int .u64 0, .int .u64 0, .int .u64 0, .int .u64 0, .int .u64 0]) := by kernel_rfl
theorem sh68 : XL.shapeOf Try.prog 68 = some (true, 16) := by kernel_rfl
theorem fo68_0 : XL.fieldOff Try.prog 68 0 = some 0 := by kernel_rfl
theorem fo68_1 : XL.fieldOff Try.prog 68 1 = some 1 := by kernel_rfl
theorem fo68_2 : XL.fieldOff Try.prog 68 2 = some 2 := by kernel_rfl
theorem fo68_3 : XL.fieldOff Try.prog 68 3 = some 3 := by kernel_rfl
theorem fo68_4 : XL.fieldOff Try.prog 68 4 = some 4 := by kernel_rfl
theorem fo68_5 : XL.fieldOff Try.prog 68 5 = some 5 := by kernel_rfl
theorem fo68_6 : XL.fieldOff Try.prog 68 6 = some 14 := by kernel_rfl
theorem fo68_7 : XL.fieldOff Try.prog 68 7 = some 15 := by kernel_rfl
theorem pl68 : XL.placesOf Try.prog 68 = some [(0, 1), (1, 1), (2, 1), (3, 1), (4, 1), (5, 9), (14, 1), (15, 1)] := by kernel_rfl
theorem fk68 : XL.flatK Try.prog 6 68 = some [some .i64, some .i64, some .i64, some .i64, some .i64, some .u64, some .u64, some .u64, some .u64, some .u64, some .u64, some .u64, some .u64, some .u64, some .i64, some .i64] := by kernel_rfl
theorem eg68 : Try.prog.eqGuardType Try.prog.depth 68 = false := by kernel_rfl
theorem ze68 : XL.zeroOf Try.prog 68 = some (.agg #[.int .i64 0, .int .i64 0, .int .i64 0, .int .i64 0, .int .i64 0, .int .u64 0, .int .u64 0, .int .u64 0, .int .u64 0, .int .u64 0, .int .u64 0, .int .u64 0, .int .u64 0, .int .u64 0, .int .i64 0, .int .i64 0]) := by kernel_rfl
theorem sh69 : XL.shapeOf Try.prog 69 = some (true, 16) := by kernel_rfl
theorem fo69_0 : XL.fieldOff Try.prog 69 0 = some 0 := by kernel_rfl
theorem fo69_1 : XL.fieldOff Try.prog 69 1 = some 1 := by kernel_rfl
theorem fo69_2 : XL.fieldOff Try.prog 69 2 = some 2 := by kernel_rfl
theorem fo69_3 : XL.fieldOff Try.prog 69 3 = some 3 := by kernel_rfl
theorem fo69_4 : XL.fieldOff Try.prog 69 4 = some 4 := by kernel_rfl
theorem fo69_5 : XL.fieldOff Try.prog 69 5 = some 5 := by kernel_rfl
theorem fo69_6 : XL.fieldOff Try.prog 69 6 = some 14 := by kernel_rfl
theorem fo69_7 : XL.fieldOff Try.prog 69 7 = some 15 := by kernel_rfl
theorem pl69 : XL.placesOf Try.prog 69 = some [(0, 1), (1, 1), (2, 1), (3, 1), (4, 1), (5, 9), (14, 1), (15, 1)] := by kernel_rfl
theorem fk69 : XL.flatK Try.prog 6 69 = some [some .i64, some .i64, some .i64, some .i64, some .i64, some .u64, some .u64, some .u64, some .u64, some .u64, some .u64, some .u64, some .u64, some .u64, some .i64, some .i64] := by kernel_rfl
theorem eg69 : Try.prog.eqGuardType Try.prog.depth 69 = false := by kernel_rfl
theorem ze69 : XL.zeroOf Try.prog 69 = some (.agg #[.int .i64 0, .int .i64 0, .int .i64 0, .int .i64 0, .int .i64 0, .int .u64 0, .int .u64 0, .int .u64 0, .int .u64 0, .int .u64 0, .int .u64 0, .int .u64 0, .int .u64 0, .int .u64 0, .int .i64 0, .int .i64 0]) := by kernel_rfl
theorem sh70 : XL.shapeOf Try.prog 70 = some (false, 1) := by kernel_rfl
theorem ze70 : XL.zeroOf Try.prog 70 = some (.nilFunc) := by kernel_rfl
theorem sh71 : XL.shapeOf Try.prog 71 = some (false, 1) := by kernel_rfl
theorem ze71 : XL.zeroOf Try.prog 71 = some (.nilFunc) := by kernel_rfl
theorem sh72 : XL.shapeOf Try.prog 72 = some (false, 1) := by kernel_rfl
theorem ze72 : XL.zeroOf Try.prog 72 = some (.nilFunc) := by kernel_rfl
theorem sh73 : XL.shapeOf Try.prog 73 = some (false, 1) := by kernel_rfl
theorem ze73 : XL.zeroOf Try.prog 73 = some (.nilFunc) := by kernel_rfl
theorem sh74 : XL.shapeOf Try.prog 74 = some (false, 1) := by kernel_rfl
theorem ze74 : XL.zeroOf Try.prog 74 = some (.nilFunc) := by kernel_rfl
theorem sh75 : XL.shapeOf Try.prog 75 = some (false, 1) := by kernel_rfl
theorem ze75 : XL.zeroOf Try.prog 75 = some (.nilFunc) := by kernel_rfl
theorem sh76 : XL.shapeOf Try.prog 76 = some (false, 1) := by kernel_rfl
theorem ze76 : XL.zeroOf Try.prog 76 = some (.nilFunc) := by kernel_rfl
theorem sh77 : XL.shapeOf Try.prog 77 = some (false, 1) := by kernel_rfl
theorem ze77 : XL.zeroOf Try.prog 77 = some (.nilFunc) := by kernel_rfl
theorem sh78 : XL.shapeOf Try.prog 78 = some (false, 1) := by kernel_rfl
theorem ze78 : XL.zeroOf Try.prog 78 = some (.nilFunc) := by kernel_rfl
theorem sh79 : XL.shapeOf Try.prog 79 = some (true, 3) := by kernel_rfl
theorem fo79_0 : XL.fieldOff Try.prog 79 0 = some 0 := by kernel_rfl
theorem fo79_1 : XL.fieldOff Try.prog 79 1 = some 2 := by kernel_rfl
theorem pl79 : XL.placesOf Try.prog 79 = some [(0, 2), (2, 1)] := by kernel_rfl
theorem ze79 : XL.zeroOf Try.prog 79 = some (.agg #[.slice none 0 0, .slice none 0 0, .int .i64 0]) := by kernel_rfl
theorem sh80 : XL.shapeOf Try.prog 80 = some (true, 3) := by kernel_rfl
theorem fo80_0 : XL.fieldOff Try.prog 80 0 = some 0 := by kernel_rfl
theorem fo80_1 : XL.fieldOff Try.prog 80 1 = some 2 := by kernel_rfl
theorem pl80 : XL.placesOf Try.prog 80 = some [(0, 2), (2, 1)] := by kernel_rfl
theorem ze80 : XL.zeroOf Try.prog 80 = some (.agg #[.slice none 0 0, .slice none 0 0, .int .i64 0]) := by kernel_rfl
theorem sh83 : XL.shapeOf Try.prog 83 = some (false, 1) := by kernel_rfl
theorem ze83 : XL.zeroOf Try.prog 83 = some (.nilFunc) := by kernel_rfl
theorem sh84 : XL.shapeOf Try.prog 84 = some (false, 1) := by kernel_rfl
theorem ze84 : XL.zeroOf Try.prog 84 = some (.nilFunc) := by kernel_rfl
theorem sh85 : XL.shapeOf Try.prog 85 = some (false, 1) := by kernel_rfl
theorem ze85 : XL.zeroOf Try.prog 85 = some (.nilFunc) := by kernel_rfl
theorem sh87 : XL.shapeOf Try.prog 87 = some (false, 1) := by kernel_rfl
theorem ze87 : XL.zeroOf Try.prog 87 = some (.nilFunc) := by kernel_rfl
theorem sh88 : XL.shapeOf Try.prog 88 = some (false, 1) := by kernel_rfl
theorem ze88 : XL.zeroOf Try.prog 88 = some (.nilFunc) := by kernel_rfl
theorem sh89 : XL.shapeOf Try.prog 89 = some (false, 1) := by kernel_rfl
theorem ze89 : XL.zeroOf Try.prog 89 = some (.nilFunc) := by kernel_rfl
theorem sh90 : XL.shapeOf Try.prog 90 = some (true, 6) := by kernel_rfl
theorem fo90_0 : XL.fieldOff Try.prog 90 0 = some 0 := by kernel_rfl
theorem fo90_1 : XL.fieldOff Try.prog 90 1 = some 1 := by kernel_rfl
theorem fo90_2 : XL.fieldOff Try.prog 90 2 = some 2 := by kernel_rfl
theorem fo90_3 : XL.fieldOff Try.prog 90 3 = some 3 := by kernel_rfl
theorem fo90_4 : XL.fieldOff Try.prog 90 4 = some 4 := by kernel_rfl
theorem fo90_5 : XL.fieldOff Try.prog 90 5 = some 5 := by kernel_rfl
theorem pl90 : XL.placesOf Try.prog 90 = some [(0, 1), (1, 1), (2, 1), (3, 1), (4, 1), (5, 1)] := by kernel_rfl
theorem fk90 : XL.flatK Try.prog 6 90 = some [some .i64, some .i64, none, none, some .i64, none] := by kernel_rfl
theorem eg90 : Try.prog.eqGuardType Try.prog.depth 90 = false := by kernel_rfl
theorem ze90 : XL.zeroOf Try.prog 90 = some (.agg #[.int .i64 0, .int .i64 0, .bool false, .bool false, .int .i64 0, .bool false]) := by kernel_rfl
theorem sh91 : XL.shapeOf Try.prog 91 = some (true, 6) := by kernel_rfl
theorem fo91_0 : XL.fieldOff Try.prog 91 0 = some 0 := by kernel_rfl
theorem fo91_1 : XL.fieldOff Try.prog 91 1 = some 1 := by kernel_rfl
theorem fo91_2 : XL.fieldOff Try.prog 91 2 = some 2 := by kernel_rfl
theorem fo91_3 : XL.fieldOff Try.prog 91 3 = some 3 := by kernel_rfl
theorem fo91_4 : XL.fieldOff Try.prog 91 4 = some 4 := by kernel_rfl
theorem fo91_5 : XL.fieldOff Try.prog 91 5 = some 5 := by kernel_rfl
theorem pl91 : XL.placesOf Try.prog 91 = some [(0, 1), (1, 1), (2, 1), (3, 1), (4, 1), (5, 1)] := by kernel_rfl
theorem fk91 : XL.flatK Try.prog 6 91 = some [some .i64, some .i64, none, none, some .i64, none] := by kernel_rfl
theorem eg91 : Try.prog.eqGuardType Try.prog.depth 91 = false := by kernel_rfl
theorem ze91 : XL.zeroOf Try.prog 91 = some (.agg #[.int .i64 0, .int .i64 0, .bool false, .bool false, .int .i64 0, .bool false]) := by kernel_rfl
theorem sh92 : XL.shapeOf Try.prog 92 = some (false, 1) := by kernel_rfl
theorem ze92 : XL.zeroOf Try.prog 92 = some (.nilFunc) := by kernel_rfl
theorem sh93 : XL.shapeOf Try.prog 93 = some (false, 1) := by kernel_rfl
theorem ze93 : XL.zeroOf Try.prog 93 = some (.nilFunc) := by kernel_rfl
theorem sh94 : XL.shapeOf Try.prog 94 = some (false, 1) := by kernel_rfl
theorem ze94 : XL.zeroOf Try.prog 94 = some (.nilFunc) := by kernel_rfl
theorem sh95 : XL.shapeOf Try.prog 95 = some (false, 1) := by kernel_rfl
theorem sl95 : XL.sliceOf Try.prog 95 = some (4, 1, 1) := by kernel_rfl
theorem ze95 : XL.zeroOf Try.prog 95 = some (.slice none 0 0) := by kernel_rfl
theorem sh96 : XL.shapeOf Try.prog 96 = some (false, 1) := by kernel_rfl
theorem ze96 : XL.zeroOf Try.prog 96 = some (.nilFunc) := by kernel_rfl
theorem sh97 : XL.shapeOf Try.prog 97 = some (false, 1) := by kernel_rfl
theorem ze97 : XL.zeroOf Try.prog 97 = some (.nilFunc) := by kernel_rfl
theorem sh98 : XL.shapeOf Try.prog 98 = some (false, 1) := by kernel_rfl
theorem ze98 : XL.zeroOf Try.prog 98 = some (.nilFunc) := by kernel_rfl
theorem sh99 : XL.shapeOf Try.prog 99 = some (false, 1) := by kernel_rfl
theorem ze99 : XL.zeroOf Try.prog 99 = some (.nilFunc) := by kernel_rfl
theorem sh100 : XL.shapeOf Try.prog 100 = some (false, 1) := by kernel_rfl
theorem i100 : XL.intOf? Try.prog 100 = some .u64 := by kernel_rfl
theorem ze100 : XL.zeroOf Try.prog 100 = some (.int .u64 0) := by kernel_rfl
theorem sh101 : XL.shapeOf Try.prog 101 = some (false, 1) := by kernel_rfl
theorem ze101 : XL.zeroOf Try.prog 101 = some (.nilFunc) := by kernel_rfl
theorem sh102 : XL.shapeOf Try.prog 102 = some (false, 1) := by kernel_rfl
theorem ze102 : XL.zeroOf Try.prog 102 = some (.nilFunc) := by kernel_rfl
theorem sh103 : XL.shapeOf Try.prog 103 = some (false, 1) := by kernel_rfl
theorem ze103 : XL.zeroOf Try.prog 103 = some (.nilFunc) := by kernel_rfl
theorem sh104 : XL.shapeOf Try.prog 104 = some (false, 1) := by kernel_rfl
theorem ze104 : XL.zeroOf Try.prog 104 = some (.nilFunc) := by kernel_rfl
theorem sh105 : XL.shapeOf Try.prog 105 = some (false, 1) := by kernel_rfl
theorem ze105 : XL.zeroOf Try.prog 105 = some (.nilFunc) := by kernel_rfl
theorem sh106 : XL.shapeOf Try.prog 106 = some (true, 2) := by kernel_rfl
theorem fo106_0 : XL.fieldOff Try.prog 106 0 = some 0 := by kernel_rfl
theorem fo106_1 : XL.fieldOff Try.prog 106 1 = some 1 := by kernel_rfl
theorem pl106 : XL.placesOf Try.prog 106 = some [(0, 1), (1, 1)] := by kernel_rfl
theorem fk106 : XL.flatK Try.prog 6 106 = some [some .i64, some .u64] := by kernel_rfl
theorem eg106 : Try.prog.eqGuardType Try.prog.depth 106 = false := by kernel_rfl
theorem ze106 : XL.zeroOf Try.prog 106 = some (.agg #[.int .i64 0, .int .u64 0]) := by kernel_rfl
theorem sh107 : XL.shapeOf Try.prog 107 = some (true, 2) := by kernel_rfl
theorem fo107_0 : XL.fieldOff Try.prog 107 0 = some 0 := by kernel_rfl
theorem fo107_1 : XL.fieldOff Try.prog 107 1 = some 1 := by kernel_rfl
theorem pl107 : XL.placesOf Try.prog 107 = some [(0, 1), (1, 1)] := by kernel_rfl
theorem fk107 : XL.flatK Try.prog 6 107 = some [some .i64, some .u64] := by kernel_rfl
theorem eg107 : Try.prog.eqGuardType Try.prog.depth 107 = false := by kernel_rfl
theorem ze107 : XL.zeroOf Try.prog 107 = some (.agg #[.int .i64 0, .int .u64 0]) := by kernel_rfl
theorem sh108 : XL.shapeOf Try.prog 108 = some (true, 6) := by kernel_rfl
theorem ar108 : XL.arrOf Try.prog 108 = some (3, 107, 2) := by kernel_rfl
theorem fk108 : XL.flatK Try.prog 6 108 = some [some .i64, some .u64, some .i64, some .u64, some .i64, some .u64] := by kernel_rfl
theorem eg108 : Try.prog.eqGuardType Try.prog.depth 108 = false := by kernel_rfl
theorem ze108 : XL.zeroOf Try.prog 108 = some (.agg #[.int .i64 0, .int .u64 0, .int .i64 0, .int .u64 0, .int .i64 0, .int .u64 0]) := by kernel_rfl
theorem sh109 : XL.shapeOf Try.prog 109 = some (false, 1) := by kernel_rfl
theorem ze109 : XL.zeroOf Try.prog 109 = some (.nilFunc) := by kernel_rfl
theorem sh110 : XL.shapeOf Try.prog 110 = some (false, 1) := by kernel_rfl
theorem ze110 : XL.zeroOf Try.prog 110 = some (.nilFunc) := by kernel_rfl
theorem sh111 : XL.shapeOf Try.prog 111 = some (false, 1) := by kernel_rfl
theorem ze111 : XL.zeroOf Try.prog 111 = some (.nilFunc) := by kernel_rfl
theorem sh117 : XL.shapeOf Try.prog 117 = some (false, 1) := by kernel_rfl
theorem i117 : XL.intOf? Try.prog 117 = some .u32 := by kernel_rfl
theorem ze117 : XL.zeroOf Try.prog 117 = some (.int .u32 0) := by kernel_rfl
theorem sh121 : XL.shapeOf Try.prog 121 = some (false, 1) := by kernel_rfl
theorem ze121 : XL.zeroOf Try.prog 121 = some (.pointer none) := by kernel_rfl
theorem sh126 : XL.shapeOf Try.prog 126 = some (false, 1) := by kernel_rfl
theorem ze126 : XL.zeroOf Try.prog 126 = some (.nilFunc) := by kernel_rfl
theorem ok3 : XL.calleeOK Try.prog 3 = true := by kernel_rfl
theorem ok4 : XL.calleeOK Try.prog 4 = true := by kernel_rfl
theorem ok5 : XL.calleeOK Try.prog 5 = true := by kernel_rfl
theorem ok6 : XL.calleeOK Try.prog 6 = true := by kernel_rfl
theorem ok7 : XL.calleeOK Try.prog 7 = true := by kernel_rfl
theorem ok8 : XL.calleeOK Try.prog 8 = true := by kernel_rfl
theorem ok9 : XL.calleeOK Try.prog 9 = true := by kernel_rfl
theorem ok10 : XL.calleeOK Try.prog 10 = true := by kernel_rfl
theorem ok11 : XL.calleeOK Try.prog 11 = true := by kernel_rfl
theorem ok12 : XL.calleeOK Try.prog 12 = true := by kernel_rfl
theorem ok13 : XL.calleeOK Try.prog 13 = true := by kernel_rfl
theorem ok14 : XL.calleeOK Try.prog 14 = true := by kernel_rfl
theorem ok15 : XL.calleeOK Try.prog 15 = true := by kernel_rfl
theorem ok16 : XL.calleeOK Try.prog 16 = true := by kernel_rfl
theorem ok17 : XL.calleeOK Try.prog 17 = true := by kernel_rfl
theorem ok18 : XL.calleeOK Try.prog 18 = true := by kernel_rfl
theorem ok19 : XL.calleeOK Try.prog 19 = true := by kernel_rfl
theorem ok20 : XL.calleeOK Try.prog 20 = true := by kernel_rfl
theorem ok21 : XL.calleeOK Try.prog 21 = true := by kernel_rfl
theorem ok22 : XL.calleeOK Try.prog 22 = true := by kernel_rfl
theorem ok23 : XL.calleeOK Try.prog 23 = true := by kernel_rfl
theorem ok24 : XL.calleeOK Try.prog 24 = true := by kernel_rfl
theorem ok25 : XL.calleeOK Try.prog 25 = true := by kernel_rfl
theorem ok26 : XL.calleeOK Try.prog 26 = true := by kernel_rfl
theorem ok27 : XL.calleeOK Try.prog 27 = true := by kernel_rfl
theorem ok28 : XL.calleeOK Try.prog 28 = true := by kernel_rfl
theorem ok29 : XL.calleeOK Try.prog 29 = true := by kernel_rfl
theorem ok30 : XL.calleeOK Try.prog 30 = true := by kernel_rfl
theorem ok31 : XL.calleeOK Try.prog 31 = true := by kernel_rfl
theorem ok32 : XL.calleeOK Try.prog 32 = true := by kernel_rfl
theorem ok33 : XL.calleeOK Try.prog 33 = true := by kernel_rfl
theorem ok34 : XL.calleeOK Try.prog 34 = true := by kernel_rfl
theorem ok35 : XL.calleeOK Try.prog 35 = true := by kernel_rfl
theorem ok36 : XL.calleeOK Try.prog 36 = true := by kernel_rfl
theorem ok37 : XL.calleeOK Try.prog 37 = true := by kernel_rfl
theorem ok38 : XL.calleeOK Try.prog 38 = true := by kernel_rfl
theorem ok39 : XL.calleeOK Try.prog 39 = true := by kernel_rfl
theorem ok40 : XL.calleeOK Try.prog 40 = true := by kernel_rfl
theorem ok41 : XL.calleeOK Try.prog 41 = true := by kernel_rfl
theorem ok42 : XL.calleeOK Try.prog 42 = true := by kernel_rfl
theorem ok43 : XL.calleeOK Try.prog 43 = true := by kernel_rfl
theorem ok44 : XL.calleeOK Try.prog 44 = true := by kernel_rfl
theorem ok45 : XL.calleeOK Try.prog 45 = true := by kernel_rfl
theorem ok46 : XL.calleeOK Try.prog 46 = true := by kernel_rfl
theorem ok47 : XL.calleeOK Try.prog 47 = true := by kernel_rfl
theorem ok48 : XL.calleeOK Try.prog 48 = true := by kernel_rfl
theorem ok49 : XL.calleeOK Try.prog 49 = true := by kernel_rfl
theorem ok50 : XL.calleeOK Try.prog 50 = true := by kernel_rfl
theorem ok51 : XL.calleeOK Try.prog 51 = true := by kernel_rfl
theorem ok52 : XL.calleeOK Try.prog 52 = true := by kernel_rfl
theorem ok53 : XL.calleeOK Try.prog 53 = true := by kernel_rfl
theorem ok54 : XL.calleeOK Try.prog 54 = true := by kernel_rfl
theorem ok55 : XL.calleeOK Try.prog 55 = true := by kernel_rfl
theorem ok56 : XL.calleeOK Try.prog 56 = true := by kernel_rfl
theorem ok57 : XL.calleeOK Try.prog 57 = true := by kernel_rfl
theorem ok58 : XL.calleeOK Try.prog 58 = true := by kernel_rfl

end Go.Proofs.Ytdmaogopibljoaa
