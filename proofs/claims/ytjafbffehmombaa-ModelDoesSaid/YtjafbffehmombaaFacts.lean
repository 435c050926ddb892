/-
  Closed facts on the types and the functions of this translation: sizes, offsets, zero values; each proved by the kernel.
-/
import Derived.Test.YtjafbffehmombaaRows
import Derived.Test.YtjafbffehmombaaCore
import Derived.KernelRfl
set_option linter.unusedVariables false
namespace Go.Proofs.Ytjafbffehmombaa
open Go

theorem mxo : Try.prog.follows .mixedOrders = true := by kernel_rfl
theorem sh1 : XL.shapeOf Try.prog 1 = some (false, 1) := by kernel_rfl
theorem ze1 : XL.zeroOf Try.prog 1 = some (.nilFunc) := by kernel_rfl
theorem sh2 : XL.shapeOf Try.prog 2 = some (false, 1) := by kernel_rfl
theorem i2 : XL.intOf? Try.prog 2 = some .i64 := by kernel_rfl
theorem ze2 : XL.zeroOf Try.prog 2 = some (.int .i64 0) := by kernel_rfl
theorem sh3 : XL.shapeOf Try.prog 3 = some (false, 1) := by kernel_rfl
theorem i3 : XL.intOf? Try.prog 3 = some .i64 := by kernel_rfl
theorem ze3 : XL.zeroOf Try.prog 3 = some (.int .i64 0) := by kernel_rfl
theorem sh4 : XL.shapeOf Try.prog 4 = some (false, 1) := by kernel_rfl
theorem bo4 : Try.prog.underlying 4 = some .bool := by kernel_rfl
theorem ze4 : XL.zeroOf Try.prog 4 = some (.bool false) := by kernel_rfl
theorem sh5 : XL.shapeOf Try.prog 5 = some (false, 1) := by kernel_rfl
theorem i5 : XL.intOf? Try.prog 5 = some .u8 := by kernel_rfl
theorem ze5 : XL.zeroOf Try.prog 5 = some (.int .u8 0) := by kernel_rfl
theorem sh12 : XL.shapeOf Try.prog 12 = some (false, 1) := by kernel_rfl
theorem i12 : XL.intOf? Try.prog 12 = some .u64 := by kernel_rfl
theorem ze12 : XL.zeroOf Try.prog 12 = some (.int .u64 0) := by kernel_rfl
theorem sh13 : XL.shapeOf Try.prog 13 = some (true, 2) := by kernel_rfl
theorem fo13_0 : XL.fieldOff Try.prog 13 0 = some 0 := by kernel_rfl
theorem fo13_1 : XL.fieldOff Try.prog 13 1 = some 1 := by kernel_rfl
theorem pl13 : XL.placesOf Try.prog 13 = some [(0, 1), (1, 1)] := by kernel_rfl
theorem sh21 : XL.shapeOf Try.prog 21 = some (false, 1) := by kernel_rfl
theorem i21 : XL.intOf? Try.prog 21 = some .i32 := by kernel_rfl
theorem ze21 : XL.zeroOf Try.prog 21 = some (.int .i32 0) := by kernel_rfl
theorem sh22 : XL.shapeOf Try.prog 22 = some (false, 1) := by kernel_rfl
theorem sl22 : XL.sliceOf Try.prog 22 = some (45, 2, 16) := by kernel_rfl
theorem ze22 : XL.zeroOf Try.prog 22 = some (.slice none 0 0) := by kernel_rfl
theorem sh23 : XL.shapeOf Try.prog 23 = some (false, 1) := by kernel_rfl
theorem sl23 : XL.sliceOf Try.prog 23 = some (2, 1, 8) := by kernel_rfl
theorem ze23 : XL.zeroOf Try.prog 23 = some (.slice none 0 0) := by kernel_rfl
theorem sh24 : XL.shapeOf Try.prog 24 = some (true, 4) := by kernel_rfl
theorem fo24_0 : XL.fieldOff Try.prog 24 0 = some 0 := by kernel_rfl
theorem fo24_1 : XL.fieldOff Try.prog 24 1 = some 1 := by kernel_rfl
theorem fo24_2 : XL.fieldOff Try.prog 24 2 = some 2 := by kernel_rfl
theorem fo24_3 : XL.fieldOff Try.prog 24 3 = some 3 := by kernel_rfl
theorem pl24 : XL.placesOf Try.prog 24 = some [(0, 1), (1, 1), (2, 1), (3, 1)] := by kernel_rfl
theorem ze24 : XL.zeroOf Try.prog 24 = some (.agg #[.slice none 0 0, .slice none 0 0, .slice none 0 0, .slice none 0 0]) := by kernel_rfl
theorem sh25 : XL.shapeOf Try.prog 25 = some (true, 4) := by kernel_rfl
theorem fo25_0 : XL.fieldOff Try.prog 25 0 = some 0 := by kernel_rfl
theorem fo25_1 : XL.fieldOff Try.prog 25 1 = some 1 := by kernel_rfl
theorem fo25_2 : XL.fieldOff Try.prog 25 2 = some 2 := by kernel_rfl
theorem fo25_3 : XL.fieldOff Try.prog 25 3 = some 3 := by kernel_rfl
theorem pl25 : XL.placesOf Try.prog 25 = some [(0, 1), (1, 1), (2, 1), (3, 1)] := by kernel_rfl
theorem ze25 : XL.zeroOf Try.prog 25 = some (.agg #[.slice none 0 0, .slice none 0 0, .slice none 0 0, .slice none 0 0]) := by kernel_rfl
theorem sh26 : XL.shapeOf Try.prog 26 = some (false, 1) := by kernel_rfl
theorem sl26 : XL.sliceOf Try.prog 26 = some (34, 4, 32) := by kernel_rfl
theorem ze26 : XL.zeroOf Try.prog 26 = some (.slice none 0 0) := by kernel_rfl
theorem sh27 : XL.shapeOf Try.prog 27 = some (false, 1) := by kernel_rfl
theorem ze27 : XL.zeroOf Try.prog 27 = some (.nilFunc) := by kernel_rfl
theorem sh28 : XL.shapeOf Try.prog 28 = some (false, 1) := by kernel_rfl
theorem sl28 : XL.sliceOf Try.prog 28 = some (39, 3, 24) := by kernel_rfl
theorem ze28 : XL.zeroOf Try.prog 28 = some (.slice none 0 0) := by kernel_rfl
theorem sh29 : XL.shapeOf Try.prog 29 = some (false, 1) := by kernel_rfl
theorem i29 : XL.intOf? Try.prog 29 = some .i64 := by kernel_rfl
theorem ze29 : XL.zeroOf Try.prog 29 = some (.int .i64 0) := by kernel_rfl
theorem sh31 : XL.shapeOf Try.prog 31 = some (false, 1) := by kernel_rfl
theorem ze31 : XL.zeroOf Try.prog 31 = some (.nilFunc) := by kernel_rfl
theorem sh32 : XL.shapeOf Try.prog 32 = some (false, 1) := by kernel_rfl
theorem ze32 : XL.zeroOf Try.prog 32 = some (.nilFunc) := by kernel_rfl
theorem sh33 : XL.shapeOf Try.prog 33 = some (true, 4) := by kernel_rfl
theorem fo33_0 : XL.fieldOff Try.prog 33 0 = some 0 := by kernel_rfl
theorem fo33_1 : XL.fieldOff Try.prog 33 1 = some 1 := by kernel_rfl
theorem fo33_2 : XL.fieldOff Try.prog 33 2 = some 2 := by kernel_rfl
theorem fo33_3 : XL.fieldOff Try.prog 33 3 = some 3 := by kernel_rfl
theorem pl33 : XL.placesOf Try.prog 33 = some [(0, 1), (1, 1), (2, 1), (3, 1)] := by kernel_rfl
theorem fk33 : XL.flatK Try.prog 6 33 = some [some .i64, some .i64, some .i64, some .i64] := by kernel_rfl
theorem eg33 : Try.prog.eqGuardType Try.prog.depth 33 = false := by kernel_rfl
theorem ze33 : XL.zeroOf Try.prog 33 = some (.agg #[.int .i64 0, .int .i64 0, .int .i64 0, .int .i64 0]) := by kernel_rfl
theorem sh34 : XL.shapeOf Try.prog 34 = some (true, 4) := by kernel_rfl
theorem fo34_0 : XL.fieldOff Try.prog 34 0 = some 0 := by kernel_rfl
theorem fo34_1 : XL.fieldOff Try.prog 34 1 = some 1 := by kernel_rfl
theorem fo34_2 : XL.fieldOff Try.prog 34 2 = some 2 := by kernel_rfl
theorem fo34_3 : XL.fieldOff Try.prog 34 3 = some 3 := by kernel_rfl
theorem pl34 : XL.placesOf Try.prog 34 = some [(0, 1), (1, 1), (2, 1), (3, 1)] := by kernel_rfl
theorem fk34 : XL.flatK Try.prog 6 34 = some [some .i64, some .i64, some .i64, some .i64] := by kernel_rfl
theorem eg34 : Try.prog.eqGuardType Try.prog.depth 34 = false := by kernel_rfl
theorem ze34 : XL.zeroOf Try.prog 34 = some (.agg #[.int .i64 0, .int .i64 0, .int .i64 0, .int .i64 0]) := by kernel_rfl
theorem sh35 : XL.shapeOf Try.prog 35 = some (false, 1) := by kernel_rfl
theorem ze35 : XL.zeroOf Try.prog 35 = some (.nilFunc) := by kernel_rfl
theorem sh36 : XL.shapeOf Try.prog 36 = some (false, 1) := by kernel_rfl
theorem ze36 : XL.zeroOf Try.prog 36 = some (.nilFunc) := by kernel_rfl
theorem sh37 : XL.shapeOf Try.prog 37 = some (false, 1) := by kernel_rfl
theorem ze37 : XL.zeroOf Try.prog 37 = some (.nilFunc) := by kernel_rfl
theorem sh38 : XL.shapeOf Try.prog 38 = some (true, 3) := by kernel_rfl
theorem fo38_0 : XL.fieldOff Try.prog 38 0 = some 0 := by kernel_rfl
theorem fo38_1 : XL.fieldOff Try.prog 38 1 = some 1 := by kernel_rfl
theorem fo38_2 : XL.fieldOff Try.prog 38 2 = some 2 := by kernel_rfl
theorem pl38 : XL.placesOf Try.prog 38 = some [(0, 1), (1, 1), (2, 1)] := by kernel_rfl
theorem fk38 : XL.flatK Try.prog 6 38 = some [some .i64, some .i64, some .i64] := by kernel_rfl
theorem eg38 : Try.prog.eqGuardType Try.prog.depth 38 = false := by kernel_rfl
theorem ze38 : XL.zeroOf Try.prog 38 = some (.agg #[.int .i64 0, .int .i64 0, .int .i64 0]) := by kernel_rfl
theorem sh39 : XL.shapeOf Try.prog 39 = some (true, 3) := by kernel_rfl
theorem fo39_0 : XL.fieldOff Try.prog 39 0 = some 0 := by kernel_rfl
theorem fo39_1 : XL.fieldOff Try.prog 39 1 = some 1 := by kernel_rfl
theorem fo39_2 : XL.fieldOff Try.prog 39 2 = some 2 := by kernel_rfl
theorem pl39 : XL.placesOf Try.prog 39 = some [(0, 1), (1, 1), (2, 1)] := by kernel_rfl
theorem fk39 : XL.flatK Try.prog 6 39 = some [some .i64, some .i64, some .i64] := by kernel_rfl
theorem eg39 : Try.prog.eqGuardType Try.prog.depth 39 = false := by kernel_rfl
theorem ze39 : XL.zeroOf Try.prog 39 = some (.agg #[.int .i64 0, .int .i64 0, .int .i64 0]) := by kernel_rfl
theorem sh40 : XL.shapeOf Try.prog 40 = some (true, 7) := by kernel_rfl
theorem fo40_0 : XL.fieldOff Try.prog 40 0 = some 0 := by kernel_rfl
theorem fo40_1 : XL.fieldOff Try.prog 40 1 = some 4 := by kernel_rfl
theorem pl40 : XL.placesOf Try.prog 40 = some [(0, 4), (4, 3)] := by kernel_rfl
theorem ze40 : XL.zeroOf Try.prog 40 = some (.agg #[.slice none 0 0, .slice none 0 0, .slice none 0 0, .slice none 0 0, .int .i64 0, .int .i64 0, .int .i64 0]) := by kernel_rfl
theorem sh41 : XL.shapeOf Try.prog 41 = some (true, 7) := by kernel_rfl
theorem fo41_0 : XL.fieldOff Try.prog 41 0 = some 0 := by kernel_rfl
theorem fo41_1 : XL.fieldOff Try.prog 41 1 = some 4 := by kernel_rfl
theorem pl41 : XL.placesOf Try.prog 41 = some [(0, 4), (4, 3)] := by kernel_rfl
theorem ze41 : XL.zeroOf Try.prog 41 = some (.agg #[.slice none 0 0, .slice none 0 0, .slice none 0 0, .slice none 0 0, .int .i64 0, .int .i64 0, .int .i64 0]) := by kernel_rfl
theorem sh42 : XL.shapeOf Try.prog 42 = some (false, 1) := by kernel_rfl
theorem ze42 : XL.zeroOf Try.prog 42 = some (.nilFunc) := by kernel_rfl
theorem sh43 : XL.shapeOf Try.prog 43 = some (false, 1) := by kernel_rfl
theorem ze43 : XL.zeroOf Try.prog 43 = some (.nilFunc) := by kernel_rfl
theorem sh44 : XL.shapeOf Try.prog 44 = some (true, 2) := by kernel_rfl
theorem fo44_0 : XL.fieldOff Try.prog 44 0 = some 0 := by kernel_rfl
theorem fo44_1 : XL.fieldOff Try.prog 44 1 = some 1 := by kernel_rfl
theorem pl44 : XL.placesOf Try.prog 44 = some [(0, 1), (1, 1)] := by kernel_rfl
theorem fk44 : XL.flatK Try.prog 6 44 = some [some .i64, some .i64] := by kernel_rfl
theorem eg44 : Try.prog.eqGuardType Try.prog.depth 44 = false := by kernel_rfl
theorem ze44 : XL.zeroOf Try.prog 44 = some (.agg #[.int .i64 0, .int .i64 0]) := by kernel_rfl
theorem sh45 : XL.shapeOf Try.prog 45 = some (true, 2) := by kernel_rfl
theorem fo45_0 : XL.fieldOff Try.prog 45 0 = some 0 := by kernel_rfl
theorem fo45_1 : XL.fieldOff Try.prog 45 1 = some 1 := by kernel_rfl
theorem pl45 : XL.placesOf Try.prog 45 = some [(0, 1), (1, 1)] := by kernel_rfl
theorem fk45 : XL.flatK Try.prog 6 45 = some [some .i64, some .i64] := by kernel_rfl
theorem eg45 : Try.prog.eqGuardType Try.prog.depth 45 = false := by kernel_rfl
theorem ze45 : XL.zeroOf Try.prog 45 = some (.agg #[.int .i64 0, .int .i64 0]) := by kernel_rfl
theorem sh46 : XL.shapeOf Try.prog 46 = some (false, 1) := by kernel_rfl
theorem ze46 : XL.zeroOf Try.prog 46 = some (.nilFunc) := by kernel_rfl
theorem sh47 : XL.shapeOf Try.prog 47 = some (false, 1) := by kernel_rfl
theorem ze47 : XL.zeroOf Try.prog 47 = some (.nilFunc) := by kernel_rfl
theorem sh48 : XL.shapeOf Try.prog 48 = some (false, 1) := by kernel_rfl
theorem ze48 : XL.zeroOf Try.prog 48 = some (.nilFunc) := by kernel_rfl
theorem sh49 : XL.shapeOf Try.prog 49 = some (false, 1) := by kernel_rfl
theorem ze49 : XL.zeroOf Try.prog 49 = some (.nilFunc) := by kernel_rfl
theorem sh51 : XL.shapeOf Try.prog 51 = some (false, 1) := by kernel_rfl
theorem ze51 : XL.zeroOf Try.prog 51 = some (.nilFunc) := by kernel_rfl
theorem sh52 : XL.shapeOf Try.prog 52 = some (false, 1) := by kernel_rfl
theorem ze52 : XL.zeroOf Try.prog 52 = some (.nilFunc) := by kernel_rfl
theorem sh53 : XL.shapeOf Try.prog 53 = some (false, 1) := by kernel_rfl
theorem ze53 : XL.zeroOf Try.prog 53 = some (.nilFunc) := by kernel_rfl
theorem sh54 : XL.shapeOf Try.prog 54 = some (true, 5) := by kernel_rfl
theorem ar54 : XL.arrOf Try.prog 54 = some (5, 3, 1) := by kernel_rfl
theorem fk54 : XL.flatK Try.prog 6 54 = some [some .i64, some .i64, some .i64, some .i64, some .i64] := by kernel_rfl
theorem eg54 : Try.prog.eqGuardType Try.prog.depth 54 = false := by kernel_rfl
theorem ze54 : XL.zeroOf Try.prog 54 = some (.agg #[.int .i64 0, .int .i64 0, .int .i64 0, .int .i64 0, .int .i64 0]) := by kernel_rfl
theorem sh55 : XL.shapeOf Try.prog 55 = some (false, 1) := by kernel_rfl
theorem ze55 : XL.zeroOf Try.prog 55 = some (.nilFunc) := by kernel_rfl
theorem sh56 : XL.shapeOf Try.prog 56 = some (false, 1) := by kernel_rfl
theorem ze56 : XL.zeroOf Try.prog 56 = some (.nilFunc) := by kernel_rfl
theorem sh58 : XL.shapeOf Try.prog 58 = some (false, 1) := by kernel_rfl
theorem ze58 : XL.zeroOf Try.prog 58 = some (.nilFunc) := by kernel_rfl
theorem sh59 : XL.shapeOf Try.prog 59 = some (false, 1) := by kernel_rfl
theorem ze59 : XL.zeroOf Try.prog 59 = some (.nilFunc) := by kernel_rfl
theorem sh60 : XL.shapeOf Try.prog 60 = some (false, 1) := by kernel_rfl
theorem ze60 : XL.zeroOf Try.prog 60 = some (.nilFunc) := by kernel_rfl
theorem sh61 : XL.shapeOf Try.prog 61 = some (false, 1) := by kernel_rfl
theorem ze61 : XL.zeroOf Try.prog 61 = some (.nilFunc) := by kernel_rfl
theorem sh62 : XL.shapeOf Try.prog 62 = some (false, 1) := by kernel_rfl
theorem ze62 : XL.zeroOf Try.prog 62 = some (.nilFunc) := by kernel_rfl
theorem sh63 : XL.shapeOf Try.prog 63 = some (false, 1) := by kernel_rfl
theorem ze63 : XL.zeroOf Try.prog 63 = some (.nilFunc) := by kernel_rfl
theorem sh64 : XL.shapeOf Try.prog 64 = some (true, 4) := by kernel_rfl
theorem fo64_0 : XL.fieldOff Try.prog 64 0 = some 0 := by kernel_rfl
theorem fo64_1 : XL.fieldOff Try.prog 64 1 = some 1 := by kernel_rfl
theorem pl64 : XL.placesOf Try.prog 64 = some [(0, 1), (1, 3)] := by kernel_rfl
theorem ze64 : XL.zeroOf Try.prog 64 = some (.agg #[.slice none 0 0, .int .i64 0, .int .i64 0, .int .i64 0]) := by kernel_rfl
theorem sh65 : XL.shapeOf Try.prog 65 = some (true, 4) := by kernel_rfl
theorem fo65_0 : XL.fieldOff Try.prog 65 0 = some 0 := by kernel_rfl
theorem fo65_1 : XL.fieldOff Try.prog 65 1 = some 1 := by kernel_rfl
theorem pl65 : XL.placesOf Try.prog 65 = some [(0, 1), (1, 3)] := by kernel_rfl
theorem ze65 : XL.zeroOf Try.prog 65 = some (.agg #[.slice none 0 0, .int .i64 0, .int .i64 0, .int .i64 0]) := by kernel_rfl
theorem sh66 : XL.shapeOf Try.prog 66 = some (false, 1) := by kernel_rfl
theorem ze66 : XL.zeroOf Try.prog 66 = some (.nilFunc) := by kernel_rfl
theorem sh67 : XL.shapeOf Try.prog 67 = some (true, 4) := by kernel_rfl
theorem fo67_0 : XL.fieldOff Try.prog 67 0 = some 0 := by kernel_rfl
theorem fo67_1 : XL.fieldOff Try.prog 67 1 = some 1 := by kernel_rfl
theorem pl67 : XL.placesOf Try.prog 67 = some [(0, 1), (1, 3)] := by kernel_rfl
theorem ze67 : XL.zeroOf Try.prog 67 = some (.agg #[.slice none 0 0, .int .i64 0, .int .i64 0, .int .i64 0]) := by kernel_rfl
theorem sh68 : XL.shapeOf Try.prog 68 = some (true, 4) := by kernel_rfl
theorem fo68_0 : XL.fieldOff Try.prog 68 0 = some 0 := by kernel_rfl
theorem fo68_1 : XL.fieldOff Try.prog 68 1 = some 1 := by kernel_rfl
theorem pl68 : XL.placesOf Try.prog 68 = some [(0, 1), (1, 3)] := by kernel_rfl
theorem ze68 : XL.zeroOf Try.prog 68 = some (.agg #[.slice none 0 0, .int .i64 0, .int .i64 0, .int .i64 0]) := by kernel_rfl
theorem sh69 : XL.shapeOf Try.prog 69 = some (false, 1) := by kernel_rfl
theorem ze69 : XL.zeroOf Try.prog 69 = some (.nilFunc) := by kernel_rfl
theorem sh70 : XL.shapeOf Try.prog 70 = some (false, 1) := by kernel_rfl
theorem ze70 : XL.zeroOf Try.prog 70 = some (.nilFunc) := by kernel_rfl
theorem sh71 : XL.shapeOf Try.prog 71 = some (false, 1) := by kernel_rfl
theorem ze71 : XL.zeroOf Try.prog 71 = some (.nilFunc) := by kernel_rfl
theorem sh72 : XL.shapeOf Try.prog 72 = some (false, 1) := by kernel_rfl
theorem ze72 : XL.zeroOf Try.prog 72 = some (.nilFunc) := by kernel_rfl
theorem sh73 : XL.shapeOf Try.prog 73 = some (false, 1) := by kernel_rfl
theorem ze73 : XL.zeroOf Try.prog 73 = some (.nilFunc) := by kernel_rfl
theorem sh74 : XL.shapeOf Try.prog 74 = some (false, 1) := by kernel_rfl
theorem ze74 : XL.zeroOf Try.prog 74 = some (.nilFunc) := by kernel_rfl
theorem sh76 : XL.shapeOf Try.prog 76 = some (false, 1) := by kernel_rfl
theorem ze76 : XL.zeroOf Try.prog 76 = some (.map none) := by kernel_rfl
theorem sh77 : XL.shapeOf Try.prog 77 = some (false, 1) := by kernel_rfl
theorem ze77 : XL.zeroOf Try.prog 77 = some (.nilFunc) := by kernel_rfl
theorem sh78 : XL.shapeOf Try.prog 78 = some (true, 2) := by kernel_rfl
theorem fo78_0 : XL.fieldOff Try.prog 78 0 = some 0 := by kernel_rfl
theorem fo78_1 : XL.fieldOff Try.prog 78 1 = some 1 := by kernel_rfl
theorem pl78 : XL.placesOf Try.prog 78 = some [(0, 1), (1, 1)] := by kernel_rfl
theorem fk78 : XL.flatK Try.prog 6 78 = some [some .i64, some .i64] := by kernel_rfl
theorem eg78 : Try.prog.eqGuardType Try.prog.depth 78 = false := by kernel_rfl
theorem ze78 : XL.zeroOf Try.prog 78 = some (.agg #[.int .i64 0, .int .i64 0]) := by kernel_rfl
theorem sh79 : XL.shapeOf Try.prog 79 = some (true, 2) := by kernel_rfl
theorem fo79_0 : XL.fieldOff Try.prog 79 0 = some 0 := by kernel_rfl
theorem fo79_1 : XL.fieldOff Try.prog 79 1 = some 1 := by kernel_rfl
theorem pl79 : XL.placesOf Try.prog 79 = some [(0, 1), (1, 1)] := by kernel_rfl
theorem fk79 : XL.flatK Try.prog 6 79 = some [some .i64, some .i64] := by kernel_rfl
theorem eg79 : Try.prog.eqGuardType Try.prog.depth 79 = false := by kernel_rfl
theorem ze79 : XL.zeroOf Try.prog 79 = some (.agg #[.int .i64 0, .int .i64 0]) := by kernel_rfl
theorem sh80 : XL.shapeOf Try.prog 80 = some (false, 1) := by kernel_rfl
theorem ze80 : XL.zeroOf Try.prog 80 = some (.nilFunc) := by kernel_rfl
theorem sh81 : XL.shapeOf Try.prog 81 = some (false, 1) := by kernel_rfl
theorem ze81 : XL.zeroOf Try.prog 81 = some (.nilFunc) := by kernel_rfl
theorem sh82 : XL.shapeOf Try.prog 82 = some (true, 4) := by kernel_rfl
theorem ar82 : XL.arrOf Try.prog 82 = some (4, 81, 1) := by kernel_rfl
theorem ze82 : XL.zeroOf Try.prog 82 = some (.agg #[.nilFunc, .nilFunc, .nilFunc, .nilFunc]) := by kernel_rfl
theorem sh83 : XL.shapeOf Try.prog 83 = some (false, 1) := by kernel_rfl
theorem ze83 : XL.zeroOf Try.prog 83 = some (.nilFunc) := by kernel_rfl
theorem sh84 : XL.shapeOf Try.prog 84 = some (false, 1) := by kernel_rfl
theorem ze84 : XL.zeroOf Try.prog 84 = some (.pointer none) := by kernel_rfl
theorem sh85 : XL.shapeOf Try.prog 85 = some (false, 1) := by kernel_rfl
theorem i85 : XL.intOf? Try.prog 85 = some .u64 := by kernel_rfl
theorem ze85 : XL.zeroOf Try.prog 85 = some (.int .u64 0) := by kernel_rfl
theorem sh86 : XL.shapeOf Try.prog 86 = some (false, 1) := by kernel_rfl
theorem ze86 : XL.zeroOf Try.prog 86 = some (.nilFunc) := by kernel_rfl
theorem sh87 : XL.shapeOf Try.prog 87 = some (false, 1) := by kernel_rfl
theorem ze87 : XL.zeroOf Try.prog 87 = some (.nilFunc) := by kernel_rfl
theorem sh88 : XL.shapeOf Try.prog 88 = some (false, 1) := by kernel_rfl
theorem ze88 : XL.zeroOf Try.prog 88 = some (.nilFunc) := by kernel_rfl
theorem sh89 : XL.shapeOf Try.prog 89 = some (false, 1) := by kernel_rfl
theorem ze89 : XL.zeroOf Try.prog 89 = some (.nilFunc) := by kernel_rfl
theorem sh90 : XL.shapeOf Try.prog 90 = some (false, 1) := by kernel_rfl
theorem ze90 : XL.zeroOf Try.prog 90 = some (.nilFunc) := by kernel_rfl
theorem sh91 : XL.shapeOf Try.prog 91 = some (false, 1) := by kernel_rfl
theorem ze91 : XL.zeroOf Try.prog 91 = some (.nilFunc) := by kernel_rfl
theorem sh92 : XL.shapeOf Try.prog 92 = some (false, 1) := by kernel_rfl
theorem ze92 : XL.zeroOf Try.prog 92 = some (.nilFunc) := by kernel_rfl
theorem sh93 : XL.shapeOf Try.prog 93 = some (false, 1) := by kernel_rfl
theorem ze93 : XL.zeroOf Try.prog 93 = some (.nilFunc) := by kernel_rfl
theorem sh95 : XL.shapeOf Try.prog 95 = some (false, 1) := by kernel_rfl
theorem ze95 : XL.zeroOf Try.prog 95 = some (.nilFunc) := by kernel_rfl
theorem sh97 : XL.shapeOf Try.prog 97 = some (false, 1) := by kernel_rfl
theorem ze97 : XL.zeroOf Try.prog 97 = some (.nilFunc) := by kernel_rfl
theorem sh98 : XL.shapeOf Try.prog 98 = some (false, 1) := by kernel_rfl
theorem ze98 : XL.zeroOf Try.prog 98 = some (.nilFunc) := by kernel_rfl
theorem sh99 : XL.shapeOf Try.prog 99 = some (false, 1) := by kernel_rfl
theorem sl99 : XL.sliceOf Try.prog 99 = some (3, 1, 8) := by kernel_rfl
theorem ze99 : XL.zeroOf Try.prog 99 = some (.slice none 0 0) := by kernel_rfl
theorem sh100 : XL.shapeOf Try.prog 100 = some (false, 1) := by kernel_rfl
theorem ze100 : XL.zeroOf Try.prog 100 = some (.nilFunc) := by kernel_rfl
theorem sh101 : XL.shapeOf Try.prog 101 = some (false, 1) := by kernel_rfl
theorem ze101 : XL.zeroOf Try.prog 101 = some (.nilFunc) := by kernel_rfl
theorem sh102 : XL.shapeOf Try.prog 102 = some (false, 1) := by kernel_rfl
theorem ze102 : XL.zeroOf Try.prog 102 = some (.nilFunc) := by kernel_rfl
theorem sh103 : XL.shapeOf Try.prog 103 = some (false, 1) := by kernel_rfl
theorem ze103 : XL.zeroOf Try.prog 103 = some (.nilFunc) := by kernel_rfl
theorem sh104 : XL.shapeOf Try.prog 104 = some (false, 1) := by kernel_rfl
theorem ze104 : XL.zeroOf Try.prog 104 = some (.nilFunc) := by kernel_rfl
theorem sh105 : XL.shapeOf Try.prog 105 = some (false, 1) := by kernel_rfl
theorem ze105 : XL.zeroOf Try.prog 105 = some (.nilFunc) := by kernel_rfl
theorem sh106 : XL.shapeOf Try.prog 106 = some (false, 1) := by kernel_rfl
theorem ze106 : XL.zeroOf Try.prog 106 = some (.nilFunc) := by kernel_rfl
theorem sh107 : XL.shapeOf Try.prog 107 = some (false, 1) := by kernel_rfl
theorem ze107 : XL.zeroOf Try.prog 107 = some (.nilFunc) := by kernel_rfl
theorem sh108 : XL.shapeOf Try.prog 108 = some (false, 1) := by kernel_rfl
theorem ze108 : XL.zeroOf Try.prog 108 = some (.nilFunc) := by kernel_rfl
theorem sh109 : XL.shapeOf Try.prog 109 = some (false, 1) := by kernel_rfl
theorem i109 : XL.intOf? Try.prog 109 = some .u64 := by kernel_rfl
theorem ze109 : XL.zeroOf Try.prog 109 = some (.int .u64 0) := by kernel_rfl
theorem sh110 : XL.shapeOf Try.prog 110 = some (false, 1) := by kernel_rfl
theorem ze110 : XL.zeroOf Try.prog 110 = some (.nilFunc) := by kernel_rfl
theorem sh111 : XL.shapeOf Try.prog 111 = some (true, 2) := by kernel_rfl
theorem fo111_0 : XL.fieldOff Try.prog 111 0 = some 0 := by kernel_rfl
theorem fo111_1 : XL.fieldOff Try.prog 111 1 = some 1 := by kernel_rfl
theorem pl111 : XL.placesOf Try.prog 111 = some [(0, 1), (1, 1)] := by kernel_rfl
theorem fk111 : XL.flatK Try.prog 6 111 = some [some .i64, some .u64] := by kernel_rfl
theorem eg111 : Try.prog.eqGuardType Try.prog.depth 111 = false := by kernel_rfl
theorem ze111 : XL.zeroOf Try.prog 111 = some (.agg #[.int .i64 0, .int .u64 0]) := by kernel_rfl
theorem sh112 : XL.shapeOf Try.prog 112 = some (true, 2) := by kernel_rfl
theorem fo112_0 : XL.fieldOff Try.prog 112 0 = some 0 := by kernel_rfl
theorem fo112_1 : XL.fieldOff Try.prog 112 1 = some 1 := by kernel_rfl
theorem pl112 : XL.placesOf Try.prog 112 = some [(0, 1), (1, 1)] := by kernel_rfl
theorem fk112 : XL.flatK Try.prog 6 112 = some [some .i64, some .u64] := by kernel_rfl
theorem eg112 : Try.prog.eqGuardType Try.prog.depth 112 = false := by kernel_rfl
theorem ze112 : XL.zeroOf Try.prog 112 = some (.agg #[.int .i64 0, .int .u64 0]) := by kernel_rfl
theorem sh113 : XL.shapeOf Try.prog 113 = some (true, 6) := by kernel_rfl
theorem ar113 : XL.arrOf Try.prog 113 = some (3, 112, 2) := by kernel_rfl
theorem fk113 : XL.flatK Try.prog 6 113 = some [some .i64, some .u64, some .i64, some .u64, some .i64, some .u64] := by kernel_rfl
theorem eg113 : Try.prog.eqGuardType Try.prog.depth 113 = false := by kernel_rfl
theorem ze113 : XL.zeroOf Try.prog 113 = some (.agg #[.int .i64 0, .int .u64 0, .int .i64 0, .int .u64 0, .int .i64 0, .int .u64 0]) := by kernel_rfl
theorem sh114 : XL.shapeOf Try.prog 114 = some (false, 1) := by kernel_rfl
theorem ze114 : XL.zeroOf Try.prog 114 = some (.nilFunc) := by kernel_rfl
theorem sh115 : XL.shapeOf Try.prog 115 = some (false, 1) := by kernel_rfl
theorem ze115 : XL.zeroOf Try.prog 115 = some (.nilFunc) := by kernel_rfl
theorem sh121 : XL.shapeOf Try.prog 121 = some (false, 1) := by kernel_rfl
theorem ze121 : XL.zeroOf Try.prog 121 = some (.nilFunc) := by kernel_rfl
theorem sh122 : XL.shapeOf Try.prog 122 = some (false, 1) := by kernel_rfl
theorem i122 : XL.intOf? Try.prog 122 = some .u32 := by kernel_rfl
theorem ze122 : XL.zeroOf Try.prog 122 = some (.int .u32 0) := by kernel_rfl
theorem sh126 : XL.shapeOf Try.prog 126 = some (false, 1) := by kernel_rfl
theorem ze126 : XL.zeroOf Try.prog 126 = some (.pointer none) := by kernel_rfl
theorem ok3 : XL.calleeOK Try.prog 3 = true := by kernel_rfl
theorem ok4 : XL.calleeOK Try.prog 4 = true := by kernel_rfl
theorem ok5 : XL.calleeOK Try.prog 5 = true := by kernel_rfl
theorem ok6 : XL.calleeOK Try.prog 6 = true := by kernel_rfl
theorem ok7 : XL.calleeOK Try.prog 7 = true := by kernel_rfl
theorem ok8 : XL.calleeOK Try.prog 8 = true := by kernel_rfl
theorem ok9 : XL.calleeOK Try.prog 9 = true := by kernel_rfl
theorem ok10 : XL.calleeOK Try.prog 10 = true := by kernel_rfl
theorem ok11 : XL.calleeOK Try.prog 11 = true := by kernel_rfl
theorem ok12 : XL.calleeOK Try.prog 12 = true := by kernel_rfl
theorem ok13 : XL.calleeOK Try.prog 13 = true := by kernel_rfl
theorem ok14 : XL.calleeOK Try.prog 14 = true := by kernel_rfl
theorem ok15 : XL.calleeOK Try.prog 15 = true := by kernel_rfl
theorem ok16 : XL.calleeOK Try.prog 16 = true := by kernel_rfl
theorem ok17 : XL.calleeOK Try.prog 17 = true := by kernel_rfl
theorem ok18 : XL.calleeOK Try.prog 18 = true := by kernel_rfl
theorem ok19 : XL.calleeOK Try.prog 19 = true := by kernel_rfl
theorem ok20 : XL.calleeOK Try.prog 20 = true := by kernel_rfl
theorem ok21 : XL.calleeOK Try.prog 21 = true := by kernel_rfl
theorem ok22 : XL.calleeOK Try.prog 22 = true := by kernel_rfl
theorem ok23 : XL.calleeOK Try.prog 23 = true := by kernel_rfl
theorem ok24 : XL.calleeOK Try.prog 24 = true := by kernel_rfl
theorem ok25 : XL.calleeOK Try.prog 25 = true := by kernel_rfl
theorem ok26 : XL.calleeOK Try.prog 26 = true := by kernel_rfl
theorem ok27 : XL.calleeOK Try.prog 27 = true := by kernel_rfl
theorem ok28 : XL.calleeOK Try.prog 28 = true := by kernel_rfl
theorem ok29 : XL.calleeOK Try.prog 29 = true := by kernel_rfl
theorem ok30 : XL.calleeOK Try.prog 30 = true := by kernel_rfl
theorem ok31 : XL.calleeOK Try.prog 31 = true := by kernel_rfl
theorem ok32 : XL.calleeOK Try.prog 32 = true := by kernel_rfl
theorem ok33 : XL.calleeOK Try.prog 33 = true := by kernel_rfl
theorem ok34 : XL.calleeOK Try.prog 34 = true := by kernel_rfl
theorem ok35 : XL.calleeOK Try.prog 35 = true := by kernel_rfl
theorem ok36 : XL.calleeOK Try.prog 36 = true := by kernel_rfl
theorem ok37 : XL.calleeOK Try.prog 37 = true := by kernel_rfl
theorem ok38 : XL.calleeOK Try.prog 38 = true := by kernel_rfl
theorem ok39 : XL.calleeOK Try.prog 39 = true := by kernel_rfl
theorem ok40 : XL.calleeOK Try.prog 40 = true := by kernel_rfl
theorem ok41 : XL.calleeOK Try.prog 41 = true := by kernel_rfl
theorem ok42 : XL.calleeOK Try.prog 42 = true := by kernel_rfl
theorem ok43 : XL.calleeOK Try.prog 43 = true := by kernel_rfl
theorem ok44 : XL.calleeOK Try.prog 44 = true := by kernel_rfl
theorem ok45 : XL.calleeOK Try.prog 45 = true := by kernel_rfl
theorem ok46 : XL.calleeOK Try.prog 46 = true := by kernel_rfl
theorem ok47 : XL.calleeOK Try.prog 47 = true := by kernel_rfl
theorem ok48 : XL.calleeOK Try.prog 48 = true := by kernel_rfl
theorem ok49 : XL.calleeOK Try.prog 49 = true := by kernel_rfl
theorem ok50 : XL.calleeOK Try.prog 50 = true := by kernel_rfl
theorem ok51 : XL.calleeOK Try.prog 51 = true := by kernel_rfl
theorem ok52 : XL.calleeOK Try.prog 52 = true := by kernel_rfl
theorem ok53 : XL.calleeOK Try.prog 53 = true := by kernel_rfl
theorem ok54 : XL.calleeOK Try.prog 54 = true := by kernel_rfl
theorem ok55 : XL.calleeOK Try.prog 55 = true := by kernel_rfl
theorem ok56 : XL.calleeOK Try.prog 56 = true := by kernel_rfl
theorem ok57 : XL.calleeOK Try.prog 57 = true := by kernel_rfl
theorem ok58 : XL.calleeOK Try.prog 58 = true := by kernel_rfl
theorem ok59 : XL.calleeOK Try.prog 59 = true := by kernel_rfl
theorem ok60 : XL.calleeOK Try.prog 60 = true := by kernel_rfl
theorem ok61 : XL.calleeOK Try.prog 61 = true := by kernel_rfl
theorem ok62 : XL.calleeOK Try.prog 62 = true := by kernel_rfl
theorem ok63 : XL.calleeOK Try.prog 63 = true := by kernel_rfl
theorem ok64 : XL.calleeOK Try.prog 64 = true := by kernel_rfl
theorem ok65 : XL.calleeOK Try.prog 65 = true := by kernel_rfl
theorem ok66 : XL.calleeOK Try.prog 66 = true := by kernel_rfl
theorem ok67 : XL.calleeOK Try.prog 67 = true := by kernel_rfl
theorem ok68 : XL.calleeOK Try.prog 68 = true := by kernel_rfl
theorem ok69 : XL.calleeOK Try.prog 69 = true := by kernel_rfl
theorem ok70 : XL.calleeOK Try.prog 70 = true := by kernel_rfl
theorem ok71 : XL.calleeOK Try.prog 71 = true := by kernel_rfl
theorem ok72 : XL.calleeOK Try.prog 72 = true := by kernel_rfl
theorem ok73 : XL.calleeOK Try.prog 73 = true := by kernel_rfl
theorem ok74 : XL.calleeOK Try.prog 74 = true := by kernel_rfl
theorem ok75 : XL.calleeOK Try.prog 75 = true := by kernel_rfl
theorem ok76 : XL.calleeOK Try.prog 76 = true := by kernel_rfl
theorem ok77 : XL.calleeOK Try.prog 77 = true := by kernel_rfl
theorem ok78 : XL.calleeOK Try.prog 78 = true := by kernel_rfl
theorem ok79 : XL.calleeOK Try.prog 79 = true := by kernel_rfl
theorem ok80 : XL.calleeOK Try.prog 80 = true := by kernel_rfl
theorem ok81 : XL.calleeOK Try.prog 81 = true := by kernel_rfl
theorem ok83 : XL.calleeOK Try.prog 83 = true := by kernel_rfl
theorem ok84 : XL.calleeOK Try.prog 84 = true := by kernel_rfl
theorem ok85 : XL.calleeOK Try.prog 85 = true := by kernel_rfl

end Go.Proofs.Ytjafbffehmombaa
