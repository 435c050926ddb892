/-
  No cell of these rows narrows 'for every input' (looked for: loops, veiled, ifaces, maps, wideKeys, modest, calm, conditions, laid).
  DERIVED. THE GIVEN ROWS OF THIS SEAT. 9 by the template 'for every input the law returns true; each argument reads behind the call as it read before'; 0 by the template 'total and deterministic' (their statements: YtjafbffehmombaaTotals.lean).
  GIVEN WITH THE SEED: the statements are not yours to turn. If you find one false, say at which input.
  Laid BY PROGRAM, IN A SANDBOX (cutbox-rows.mjs): the forced cells as the released guide's own fill.sh prints them over the translation a5b65e32ce42e041… (all of the seat's roots in one cut). By AI agents, Wed Nov 11 2026. No macro, syntax, notation, axiom, sorry.
-/
import Derived.Test.YtjafbffehmombaaChecked
import GoSem.Claim
import GoSem.ClaimJoined
import GoSem.ClaimMapViews
import Derived.JoinedTies
import Derived.KernelRfl
namespace Go.Proofs.Ytjafbffehmombaa
/- THE CELL 'sum', in the pinned program and in every row, IS THE sha256 OF THE DUMP (.gsa) THAT YtjafbffehmombaaProg.lean LOADS. Nothing in Lean hashes anything: it is a label: what it is worth is what the hold of that sum in a sandbox is worth. -/
noncomputable def Try.pinned : Pinned := { name := "ytjafbffehmombaa", sum := "a5b65e32ce42e041e12ecb2dc792b0c5e83e35169eedddca80ce5faf2d4bd64a", checked := Try.checked }
namespace Rows
def none {H : Type} : Left H := { results := [], args := [] }

/-- 'burgeonlaw14.ModelRuns': WHATEVER THE INPUT: true; the input reads as it did. -/
def modelRunsSpec : ChangeSpec := { name := "modelRuns", fn := fun _ => fun
  | [d1, d2] => { results := [.lit (.bool true)], args := [d1, d2] }
  | _ => none }
def modelRunsRow : OpenClaim := { program := "ytjafbffehmombaa", sum := "a5b65e32ce42e041e12ecb2dc792b0c5e83e35169eedddca80ce5faf2d4bd64a", func := "burgeon/burgeonlaw14.ModelRuns", spec := "modelRuns", inPlace := ["slices.overlaps[burgeon/api.Item]"], unfollowed := true, recurses := true, plainKeys := false, apart := false }
def ModelRunsSaid : Prop := modelRunsRow.holds Try.pinned (OpenSpec.ofChange modelRunsSpec)

/-- ITS FALSE NEIGHBOUR: 'it returns false'. Refute it at one input. -/
def modelRunsWrong : ChangeSpec := { name := "modelRuns", fn := fun _ => fun
  | [d1, d2] => { results := [.lit (.bool false)], args := [d1, d2] }
  | _ => none }
def ModelRunsWrongFalsely : Prop := modelRunsRow.holds Try.pinned (OpenSpec.ofChange modelRunsWrong)

/-- 'burgeonlaw14.ModelHeap': WHATEVER THE INPUT: true; the input reads as it did. -/
def modelHeapSpec : ChangeSpec := { name := "modelHeap", fn := fun _ => fun
  | [d] => { results := [.lit (.bool true)], args := [d] }
  | _ => none }
def modelHeapRow : OpenClaim := { program := "ytjafbffehmombaa", sum := "a5b65e32ce42e041e12ecb2dc792b0c5e83e35169eedddca80ce5faf2d4bd64a", func := "burgeon/burgeonlaw14.ModelHeap", spec := "modelHeap", inPlace := ["slices.overlaps[burgeon/api.Item]"], unfollowed := true, recurses := true, plainKeys := false, apart := false }
def ModelHeapSaid : Prop := modelHeapRow.holds Try.pinned (OpenSpec.ofChange modelHeapSpec)

/-- ITS FALSE NEIGHBOUR: 'it returns false'. Refute it at one input. -/
def modelHeapWrong : ChangeSpec := { name := "modelHeap", fn := fun _ => fun
  | [d] => { results := [.lit (.bool false)], args := [d] }
  | _ => none }
def ModelHeapWrongFalsely : Prop := modelHeapRow.holds Try.pinned (OpenSpec.ofChange modelHeapWrong)

/-- 'burgeonlaw14.ModelPairs': WHATEVER THE INPUT: true; the input reads as it did. -/
def modelPairsSpec : ChangeSpec := { name := "modelPairs", fn := fun _ => fun
  | [d1, d2, d3, d4, d5] => { results := [.lit (.bool true)], args := [d1, d2, d3, d4, d5] }
  | _ => none }
def modelPairsRow : OpenClaim := { program := "ytjafbffehmombaa", sum := "a5b65e32ce42e041e12ecb2dc792b0c5e83e35169eedddca80ce5faf2d4bd64a", func := "burgeon/burgeonlaw14.ModelPairs", spec := "modelPairs", inPlace := ["slices.overlaps[burgeon/api.Item]"], unfollowed := true, recurses := true, plainKeys := false, apart := false }
def ModelPairsSaid : Prop := modelPairsRow.holds Try.pinned (OpenSpec.ofChange modelPairsSpec)

/-- ITS FALSE NEIGHBOUR: 'it returns false'. Refute it at one input. -/
def modelPairsWrong : ChangeSpec := { name := "modelPairs", fn := fun _ => fun
  | [d1, d2, d3, d4, d5] => { results := [.lit (.bool false)], args := [d1, d2, d3, d4, d5] }
  | _ => none }
def ModelPairsWrongFalsely : Prop := modelPairsRow.holds Try.pinned (OpenSpec.ofChange modelPairsWrong)

/-- 'burgeonlaw14.ModelFloor': WHATEVER THE INPUT: true; the input reads as it did. -/
def modelFloorSpec : ChangeSpec := { name := "modelFloor", fn := fun _ => fun
  | [d1, d2] => { results := [.lit (.bool true)], args := [d1, d2] }
  | _ => none }
def modelFloorRow : OpenClaim := { program := "ytjafbffehmombaa", sum := "a5b65e32ce42e041e12ecb2dc792b0c5e83e35169eedddca80ce5faf2d4bd64a", func := "burgeon/burgeonlaw14.ModelFloor", spec := "modelFloor", inPlace := ["slices.overlaps[burgeon/api.Item]"], unfollowed := true, recurses := true, plainKeys := false, apart := false }
def ModelFloorSaid : Prop := modelFloorRow.holds Try.pinned (OpenSpec.ofChange modelFloorSpec)

/-- ITS FALSE NEIGHBOUR: 'it returns false'. Refute it at one input. -/
def modelFloorWrong : ChangeSpec := { name := "modelFloor", fn := fun _ => fun
  | [d1, d2] => { results := [.lit (.bool false)], args := [d1, d2] }
  | _ => none }
def ModelFloorWrongFalsely : Prop := modelFloorRow.holds Try.pinned (OpenSpec.ofChange modelFloorWrong)

/-- 'burgeonlaw14.ModelParts': WHATEVER THE INPUT: true; the input reads as it did. -/
def modelPartsSpec : ChangeSpec := { name := "modelParts", fn := fun _ => fun
  | [d1, d2, d3] => { results := [.lit (.bool true)], args := [d1, d2, d3] }
  | _ => none }
def modelPartsRow : OpenClaim := { program := "ytjafbffehmombaa", sum := "a5b65e32ce42e041e12ecb2dc792b0c5e83e35169eedddca80ce5faf2d4bd64a", func := "burgeon/burgeonlaw14.ModelParts", spec := "modelParts", inPlace := ["slices.overlaps[burgeon/api.Item]"], unfollowed := true, recurses := true, plainKeys := false, apart := false }
def ModelPartsSaid : Prop := modelPartsRow.holds Try.pinned (OpenSpec.ofChange modelPartsSpec)

/-- ITS FALSE NEIGHBOUR: 'it returns false'. Refute it at one input. -/
def modelPartsWrong : ChangeSpec := { name := "modelParts", fn := fun _ => fun
  | [d1, d2, d3] => { results := [.lit (.bool false)], args := [d1, d2, d3] }
  | _ => none }
def ModelPartsWrongFalsely : Prop := modelPartsRow.holds Try.pinned (OpenSpec.ofChange modelPartsWrong)

/-- 'burgeonlaw14.ModelReads': WHATEVER THE INPUT: true; the input reads as it did. -/
def modelReadsSpec : ChangeSpec := { name := "modelReads", fn := fun _ => fun
  | [d1, d2] => { results := [.lit (.bool true)], args := [d1, d2] }
  | _ => none }
def modelReadsRow : OpenClaim := { program := "ytjafbffehmombaa", sum := "a5b65e32ce42e041e12ecb2dc792b0c5e83e35169eedddca80ce5faf2d4bd64a", func := "burgeon/burgeonlaw14.ModelReads", spec := "modelReads", inPlace := ["slices.overlaps[burgeon/api.Item]"], unfollowed := true, recurses := true, plainKeys := false, apart := false }
def ModelReadsSaid : Prop := modelReadsRow.holds Try.pinned (OpenSpec.ofChange modelReadsSpec)

/-- ITS FALSE NEIGHBOUR: 'it returns false'. Refute it at one input. -/
def modelReadsWrong : ChangeSpec := { name := "modelReads", fn := fun _ => fun
  | [d1, d2] => { results := [.lit (.bool false)], args := [d1, d2] }
  | _ => none }
def ModelReadsWrongFalsely : Prop := modelReadsRow.holds Try.pinned (OpenSpec.ofChange modelReadsWrong)

/-- 'burgeonlaw14.ModelRow': WHATEVER THE INPUT: true; the input reads as it did. -/
def modelRowSpec : ChangeSpec := { name := "modelRow", fn := fun _ => fun
  | [d1, d2, d3] => { results := [.lit (.bool true)], args := [d1, d2, d3] }
  | _ => none }
def modelRowRow : OpenClaim := { program := "ytjafbffehmombaa", sum := "a5b65e32ce42e041e12ecb2dc792b0c5e83e35169eedddca80ce5faf2d4bd64a", func := "burgeon/burgeonlaw14.ModelRow", spec := "modelRow", inPlace := ["slices.overlaps[burgeon/api.Item]"], unfollowed := true, recurses := true, plainKeys := false, apart := false }
def ModelRowSaid : Prop := modelRowRow.holds Try.pinned (OpenSpec.ofChange modelRowSpec)

/-- ITS FALSE NEIGHBOUR: 'it returns false'. Refute it at one input. -/
def modelRowWrong : ChangeSpec := { name := "modelRow", fn := fun _ => fun
  | [d1, d2, d3] => { results := [.lit (.bool false)], args := [d1, d2, d3] }
  | _ => none }
def ModelRowWrongFalsely : Prop := modelRowRow.holds Try.pinned (OpenSpec.ofChange modelRowWrong)

/-- 'burgeonlaw14.ModelSizes': WHATEVER THE INPUT: true; the input reads as it did. -/
def modelSizesSpec : ChangeSpec := { name := "modelSizes", fn := fun _ => fun
  | [d1, d2] => { results := [.lit (.bool true)], args := [d1, d2] }
  | _ => none }
def modelSizesRow : OpenClaim := { program := "ytjafbffehmombaa", sum := "a5b65e32ce42e041e12ecb2dc792b0c5e83e35169eedddca80ce5faf2d4bd64a", func := "burgeon/burgeonlaw14.ModelSizes", spec := "modelSizes", inPlace := ["slices.overlaps[burgeon/api.Item]"], unfollowed := true, recurses := true, plainKeys := false, apart := false }
def ModelSizesSaid : Prop := modelSizesRow.holds Try.pinned (OpenSpec.ofChange modelSizesSpec)

/-- ITS FALSE NEIGHBOUR: 'it returns false'. Refute it at one input. -/
def modelSizesWrong : ChangeSpec := { name := "modelSizes", fn := fun _ => fun
  | [d1, d2] => { results := [.lit (.bool false)], args := [d1, d2] }
  | _ => none }
def ModelSizesWrongFalsely : Prop := modelSizesRow.holds Try.pinned (OpenSpec.ofChange modelSizesWrong)

/-- 'burgeonlaw14.ModelDoes': WHATEVER THE INPUT: true; the input reads as it did. -/
def modelDoesSpec : ChangeSpec := { name := "modelDoes", fn := fun _ => fun
  | [d1, d2, d3] => { results := [.lit (.bool true)], args := [d1, d2, d3] }
  | _ => none }
def modelDoesRow : OpenClaim := { program := "ytjafbffehmombaa", sum := "a5b65e32ce42e041e12ecb2dc792b0c5e83e35169eedddca80ce5faf2d4bd64a", func := "burgeon/burgeonlaw14.ModelDoes", spec := "modelDoes", inPlace := ["slices.overlaps[burgeon/api.Item]"], unfollowed := true, recurses := true, plainKeys := false, apart := false }
def ModelDoesSaid : Prop := modelDoesRow.holds Try.pinned (OpenSpec.ofChange modelDoesSpec)

/-- ITS FALSE NEIGHBOUR: 'it returns false'. Refute it at one input. -/
def modelDoesWrong : ChangeSpec := { name := "modelDoes", fn := fun _ => fun
  | [d1, d2, d3] => { results := [.lit (.bool false)], args := [d1, d2, d3] }
  | _ => none }
def ModelDoesWrongFalsely : Prop := modelDoesRow.holds Try.pinned (OpenSpec.ofChange modelDoesWrong)

/- THE SECOND FORM. 'bulk': how many values and letters a reading holds, each counted each time it is reached (what is shared counts as often as it is met; a slice's spare places count too). A statement '..UptoSaid' is the law's where the arguments, and the package variables that the reading takes, are together of bulk at most 1048576: NARROWER than '..Said'. Prove '..Said' where nothing that the law and all that it calls make is longer than what came in: it says more and counts as full. Else prove '..UptoSaid'. A law counts once. -/
mutual
def uptoBulk {H : Type} : DataW H → Nat
  | .lit (.string bytes) => bytes.length + 1
  | .lit _ => 1
  | .nil => 1
  | .ptr d => uptoBulk d + 1
  | .slice elems spare => uptoBulkAll elems + uptoBulkAll spare + 1
  | .agg parts => uptoBulkAll parts + 1
  | .iface _ d => uptoBulk d + 1
  | .map entries => uptoBulkEntries entries + 1
  | .held _ => 1
def uptoBulkAll {H : Type} : List (DataW H) → Nat
  | [] => 0
  | d :: r => uptoBulk d + uptoBulkAll r
def uptoBulkEntries {H : Type} : List (Lit × DataW H) → Nat
  | [] => 0
  | x :: r => uptoBulkEntry x + uptoBulkEntries r
def uptoBulkEntry {H : Type} : Lit × DataW H → Nat
  | (.string bytes, d) => bytes.length + uptoBulk d + 1
  | (_, d) => uptoBulk d + 1
 end
def uptoSmall : (H : Type) → List (DataW H) → Bool := fun _ ds => decide (uptoBulkAll ds ≤ 1048576)
def OpenSpec.upto (s : _root_.Go.ChangeSpec) : _root_.Go.OpenSpec := { _root_.Go.OpenSpec.ofChange s with cond := some uptoSmall }

/-- 'burgeonlaw14.ModelRuns', WHERE WHAT IT READS IS OF BULK AT MOST 1048576: true; the input reads as it did. -/
def modelRunsUptoRow : OpenClaim := { program := "ytjafbffehmombaa", sum := "a5b65e32ce42e041e12ecb2dc792b0c5e83e35169eedddca80ce5faf2d4bd64a", func := "burgeon/burgeonlaw14.ModelRuns", spec := "modelRuns", inPlace := ["slices.overlaps[burgeon/api.Item]"], unfollowed := true, recurses := true, plainKeys := false, apart := false, narrowed := true }
def ModelRunsUptoSaid : Prop := modelRunsUptoRow.holds Try.pinned (OpenSpec.upto modelRunsSpec)

/-- 'burgeonlaw14.ModelHeap', WHERE WHAT IT READS IS OF BULK AT MOST 1048576: true; the input reads as it did. -/
def modelHeapUptoRow : OpenClaim := { program := "ytjafbffehmombaa", sum := "a5b65e32ce42e041e12ecb2dc792b0c5e83e35169eedddca80ce5faf2d4bd64a", func := "burgeon/burgeonlaw14.ModelHeap", spec := "modelHeap", inPlace := ["slices.overlaps[burgeon/api.Item]"], unfollowed := true, recurses := true, plainKeys := false, apart := false, narrowed := true }
def ModelHeapUptoSaid : Prop := modelHeapUptoRow.holds Try.pinned (OpenSpec.upto modelHeapSpec)

/-- 'burgeonlaw14.ModelPairs', WHERE WHAT IT READS IS OF BULK AT MOST 1048576: true; the input reads as it did. -/
def modelPairsUptoRow : OpenClaim := { program := "ytjafbffehmombaa", sum := "a5b65e32ce42e041e12ecb2dc792b0c5e83e35169eedddca80ce5faf2d4bd64a", func := "burgeon/burgeonlaw14.ModelPairs", spec := "modelPairs", inPlace := ["slices.overlaps[burgeon/api.Item]"], unfollowed := true, recurses := true, plainKeys := false, apart := false, narrowed := true }
def ModelPairsUptoSaid : Prop := modelPairsUptoRow.holds Try.pinned (OpenSpec.upto modelPairsSpec)

/-- 'burgeonlaw14.ModelFloor', WHERE WHAT IT READS IS OF BULK AT MOST 1048576: true; the input reads as it did. -/
def modelFloorUptoRow : OpenClaim := { program := "ytjafbffehmombaa", sum := "a5b65e32ce42e041e12ecb2dc792b0c5e83e35169eedddca80ce5faf2d4bd64a", func := "burgeon/burgeonlaw14.ModelFloor", spec := "modelFloor", inPlace := ["slices.overlaps[burgeon/api.Item]"], unfollowed := true, recurses := true, plainKeys := false, apart := false, narrowed := true }
def ModelFloorUptoSaid : Prop := modelFloorUptoRow.holds Try.pinned (OpenSpec.upto modelFloorSpec)

/-- 'burgeonlaw14.ModelParts', WHERE WHAT IT READS IS OF BULK AT MOST 1048576: true; the input reads as it did. -/
def modelPartsUptoRow : OpenClaim := { program := "ytjafbffehmombaa", sum := "a5b65e32ce42e041e12ecb2dc792b0c5e83e35169eedddca80ce5faf2d4bd64a", func := "burgeon/burgeonlaw14.ModelParts", spec := "modelParts", inPlace := ["slices.overlaps[burgeon/api.Item]"], unfollowed := true, recurses := true, plainKeys := false, apart := false, narrowed := true }
def ModelPartsUptoSaid : Prop := modelPartsUptoRow.holds Try.pinned (OpenSpec.upto modelPartsSpec)

/-- 'burgeonlaw14.ModelReads', WHERE WHAT IT READS IS OF BULK AT MOST 1048576: true; the input reads as it did. -/
def modelReadsUptoRow : OpenClaim := { program := "ytjafbffehmombaa", sum := "a5b65e32ce42e041e12ecb2dc792b0c5e83e35169eedddca80ce5faf2d4bd64a", func := "burgeon/burgeonlaw14.ModelReads", spec := "modelReads", inPlace := ["slices.overlaps[burgeon/api.Item]"], unfollowed := true, recurses := true, plainKeys := false, apart := false, narrowed := true }
def ModelReadsUptoSaid : Prop := modelReadsUptoRow.holds Try.pinned (OpenSpec.upto modelReadsSpec)

/-- 'burgeonlaw14.ModelRow', WHERE WHAT IT READS IS OF BULK AT MOST 1048576: true; the input reads as it did. -/
def modelRowUptoRow : OpenClaim := { program := "ytjafbffehmombaa", sum := "a5b65e32ce42e041e12ecb2dc792b0c5e83e35169eedddca80ce5faf2d4bd64a", func := "burgeon/burgeonlaw14.ModelRow", spec := "modelRow", inPlace := ["slices.overlaps[burgeon/api.Item]"], unfollowed := true, recurses := true, plainKeys := false, apart := false, narrowed := true }
def ModelRowUptoSaid : Prop := modelRowUptoRow.holds Try.pinned (OpenSpec.upto modelRowSpec)

/-- 'burgeonlaw14.ModelSizes', WHERE WHAT IT READS IS OF BULK AT MOST 1048576: true; the input reads as it did. -/
def modelSizesUptoRow : OpenClaim := { program := "ytjafbffehmombaa", sum := "a5b65e32ce42e041e12ecb2dc792b0c5e83e35169eedddca80ce5faf2d4bd64a", func := "burgeon/burgeonlaw14.ModelSizes", spec := "modelSizes", inPlace := ["slices.overlaps[burgeon/api.Item]"], unfollowed := true, recurses := true, plainKeys := false, apart := false, narrowed := true }
def ModelSizesUptoSaid : Prop := modelSizesUptoRow.holds Try.pinned (OpenSpec.upto modelSizesSpec)

/-- 'burgeonlaw14.ModelDoes', WHERE WHAT IT READS IS OF BULK AT MOST 1048576: true; the input reads as it did. -/
def modelDoesUptoRow : OpenClaim := { program := "ytjafbffehmombaa", sum := "a5b65e32ce42e041e12ecb2dc792b0c5e83e35169eedddca80ce5faf2d4bd64a", func := "burgeon/burgeonlaw14.ModelDoes", spec := "modelDoes", inPlace := ["slices.overlaps[burgeon/api.Item]"], unfollowed := true, recurses := true, plainKeys := false, apart := false, narrowed := true }
def ModelDoesUptoSaid : Prop := modelDoesUptoRow.holds Try.pinned (OpenSpec.upto modelDoesSpec)

end Rows
end Go.Proofs.Ytjafbffehmombaa
