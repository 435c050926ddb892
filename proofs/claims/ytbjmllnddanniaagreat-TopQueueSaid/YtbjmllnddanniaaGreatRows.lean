/-
  No cell of these rows narrows 'for every input' (looked for: loops, veiled, ifaces, maps, wideKeys, modest, calm, conditions, laid).
  DERIVED. THE GIVEN ROWS OF THIS SEAT. 7 by the template 'for every input the law returns true; each argument reads behind the call as it read before'; 0 by the template 'total and deterministic' (their statements: YtbjmllnddanniaaGreatTotals.lean).
  GIVEN WITH THE SEED: the statements are not yours to turn. If you find one false, say at which input.
  Laid BY PROGRAM, IN A SANDBOX (cutbox-rows.mjs): the forced cells as the released guide's own fill.sh prints them over the translation 6df386dc544d8de2… (all of the seat's roots in one cut). By AI agents, Wed Nov 11 2026. No macro, syntax, notation, axiom, sorry.
-/
import Derived.Test.YtbjmllnddanniaaGreatChecked
import GoSem.Claim
import GoSem.ClaimJoined
import GoSem.ClaimMapViews
import Derived.JoinedTies
import Derived.KernelRfl
namespace Go.Proofs.YtbjmllnddanniaaGreat
/- THE CELL 'sum', in the pinned program and in every row, IS THE sha256 OF THE DUMP (.gsa) THAT YtbjmllnddanniaaGreatProg.lean LOADS. Nothing in Lean hashes anything: it is a label: what it is worth is what the hold of that sum in a sandbox is worth. -/
noncomputable def Tryz.pinned : Pinned := { name := "ytbjmllnddanniaagreat", sum := "6df386dc544d8de27bd620dcfe9895d1ce011418a8b1c12d5ff9775cb4ce0132", checked := Tryz.checked }
namespace Rows
def none {H : Type} : Left H := { results := [], args := [] }

/-- 'burgeontop.TopPairs': WHATEVER THE INPUT: true; the input reads as it did. -/
def topPairsSpec : ChangeSpec := { name := "topPairs", fn := fun _ => fun
  | [d] => { results := [.lit (.bool true)], args := [d] }
  | _ => none }
def topPairsRow : OpenClaim := { program := "ytbjmllnddanniaagreat", sum := "6df386dc544d8de27bd620dcfe9895d1ce011418a8b1c12d5ff9775cb4ce0132", func := "burgeon/burgeontop.TopPairs", spec := "topPairs", inPlace := ["slices.overlaps[burgeon/api.Ref]"], unfollowed := true, recurses := true, plainKeys := false, apart := false }
def TopPairsSaid : Prop := topPairsRow.holds Tryz.pinned (OpenSpec.ofChange topPairsSpec)

/-- ITS FALSE NEIGHBOUR: 'it returns false'. Refute it at one input. -/
def topPairsWrong : ChangeSpec := { name := "topPairs", fn := fun _ => fun
  | [d] => { results := [.lit (.bool false)], args := [d] }
  | _ => none }
def TopPairsWrongFalsely : Prop := topPairsRow.holds Tryz.pinned (OpenSpec.ofChange topPairsWrong)

/-- 'burgeontop.TopReclaims': WHATEVER THE INPUT: true; the input reads as it did. -/
def topReclaimsSpec : ChangeSpec := { name := "topReclaims", fn := fun _ => fun
  | [d1, d2, d3] => { results := [.lit (.bool true)], args := [d1, d2, d3] }
  | _ => none }
def topReclaimsRow : OpenClaim := { program := "ytbjmllnddanniaagreat", sum := "6df386dc544d8de27bd620dcfe9895d1ce011418a8b1c12d5ff9775cb4ce0132", func := "burgeon/burgeontop.TopReclaims", spec := "topReclaims", inPlace := ["slices.overlaps[burgeon/api.Ref]"], unfollowed := true, recurses := true, plainKeys := false, apart := false }
def TopReclaimsSaid : Prop := topReclaimsRow.holds Tryz.pinned (OpenSpec.ofChange topReclaimsSpec)

/-- ITS FALSE NEIGHBOUR: 'it returns false'. Refute it at one input. -/
def topReclaimsWrong : ChangeSpec := { name := "topReclaims", fn := fun _ => fun
  | [d1, d2, d3] => { results := [.lit (.bool false)], args := [d1, d2, d3] }
  | _ => none }
def TopReclaimsWrongFalsely : Prop := topReclaimsRow.holds Tryz.pinned (OpenSpec.ofChange topReclaimsWrong)

/-- 'burgeontop.TopShapes': WHATEVER THE INPUT: true; the input reads as it did. -/
def topShapesSpec : ChangeSpec := { name := "topShapes", fn := fun _ => fun
  | [d1, d2] => { results := [.lit (.bool true)], args := [d1, d2] }
  | _ => none }
def topShapesRow : OpenClaim := { program := "ytbjmllnddanniaagreat", sum := "6df386dc544d8de27bd620dcfe9895d1ce011418a8b1c12d5ff9775cb4ce0132", func := "burgeon/burgeontop.TopShapes", spec := "topShapes", inPlace := ["slices.overlaps[burgeon/api.Ref]"], unfollowed := true, recurses := true, plainKeys := false, apart := false }
def TopShapesSaid : Prop := topShapesRow.holds Tryz.pinned (OpenSpec.ofChange topShapesSpec)

/-- ITS FALSE NEIGHBOUR: 'it returns false'. Refute it at one input. -/
def topShapesWrong : ChangeSpec := { name := "topShapes", fn := fun _ => fun
  | [d1, d2] => { results := [.lit (.bool false)], args := [d1, d2] }
  | _ => none }
def TopShapesWrongFalsely : Prop := topShapesRow.holds Tryz.pinned (OpenSpec.ofChange topShapesWrong)

/-- 'burgeontop.TopSize': WHATEVER THE INPUT: true; the input reads as it did. -/
def topSizeSpec : ChangeSpec := { name := "topSize", fn := fun _ => fun
  | [d1, d2] => { results := [.lit (.bool true)], args := [d1, d2] }
  | _ => none }
def topSizeRow : OpenClaim := { program := "ytbjmllnddanniaagreat", sum := "6df386dc544d8de27bd620dcfe9895d1ce011418a8b1c12d5ff9775cb4ce0132", func := "burgeon/burgeontop.TopSize", spec := "topSize", inPlace := ["slices.overlaps[burgeon/api.Ref]"], unfollowed := true, recurses := true, plainKeys := false, apart := false }
def TopSizeSaid : Prop := topSizeRow.holds Tryz.pinned (OpenSpec.ofChange topSizeSpec)

/-- ITS FALSE NEIGHBOUR: 'it returns false'. Refute it at one input. -/
def topSizeWrong : ChangeSpec := { name := "topSize", fn := fun _ => fun
  | [d1, d2] => { results := [.lit (.bool false)], args := [d1, d2] }
  | _ => none }
def TopSizeWrongFalsely : Prop := topSizeRow.holds Tryz.pinned (OpenSpec.ofChange topSizeWrong)

/-- 'burgeontop.TopQueue': WHATEVER THE INPUT: true; the input reads as it did. -/
def topQueueSpec : ChangeSpec := { name := "topQueue", fn := fun _ => fun
  | [d] => { results := [.lit (.bool true)], args := [d] }
  | _ => none }
def topQueueRow : OpenClaim := { program := "ytbjmllnddanniaagreat", sum := "6df386dc544d8de27bd620dcfe9895d1ce011418a8b1c12d5ff9775cb4ce0132", func := "burgeon/burgeontop.TopQueue", spec := "topQueue", inPlace := ["slices.overlaps[burgeon/api.Ref]"], unfollowed := true, recurses := true, plainKeys := false, apart := false }
def TopQueueSaid : Prop := topQueueRow.holds Tryz.pinned (OpenSpec.ofChange topQueueSpec)

/-- ITS FALSE NEIGHBOUR: 'it returns false'. Refute it at one input. -/
def topQueueWrong : ChangeSpec := { name := "topQueue", fn := fun _ => fun
  | [d] => { results := [.lit (.bool false)], args := [d] }
  | _ => none }
def TopQueueWrongFalsely : Prop := topQueueRow.holds Tryz.pinned (OpenSpec.ofChange topQueueWrong)

/-- 'burgeontop.TopPins': WHATEVER THE INPUT: true; the input reads as it did. -/
def topPinsSpec : ChangeSpec := { name := "topPins", fn := fun _ => fun
  | [d1, d2] => { results := [.lit (.bool true)], args := [d1, d2] }
  | _ => none }
def topPinsRow : OpenClaim := { program := "ytbjmllnddanniaagreat", sum := "6df386dc544d8de27bd620dcfe9895d1ce011418a8b1c12d5ff9775cb4ce0132", func := "burgeon/burgeontop.TopPins", spec := "topPins", inPlace := ["slices.overlaps[burgeon/api.Ref]"], unfollowed := true, recurses := true, plainKeys := false, apart := false }
def TopPinsSaid : Prop := topPinsRow.holds Tryz.pinned (OpenSpec.ofChange topPinsSpec)

/-- ITS FALSE NEIGHBOUR: 'it returns false'. Refute it at one input. -/
def topPinsWrong : ChangeSpec := { name := "topPins", fn := fun _ => fun
  | [d1, d2] => { results := [.lit (.bool false)], args := [d1, d2] }
  | _ => none }
def TopPinsWrongFalsely : Prop := topPinsRow.holds Tryz.pinned (OpenSpec.ofChange topPinsWrong)

/-- 'burgeontop.TopRange': WHATEVER THE INPUT: true; the input reads as it did. -/
def topRangeSpec : ChangeSpec := { name := "topRange", fn := fun _ => fun
  | [d] => { results := [.lit (.bool true)], args := [d] }
  | _ => none }
def topRangeRow : OpenClaim := { program := "ytbjmllnddanniaagreat", sum := "6df386dc544d8de27bd620dcfe9895d1ce011418a8b1c12d5ff9775cb4ce0132", func := "burgeon/burgeontop.TopRange", spec := "topRange", inPlace := ["slices.overlaps[burgeon/api.Ref]"], unfollowed := true, recurses := true, plainKeys := false, apart := false }
def TopRangeSaid : Prop := topRangeRow.holds Tryz.pinned (OpenSpec.ofChange topRangeSpec)

/-- ITS FALSE NEIGHBOUR: 'it returns false'. Refute it at one input. -/
def topRangeWrong : ChangeSpec := { name := "topRange", fn := fun _ => fun
  | [d] => { results := [.lit (.bool false)], args := [d] }
  | _ => none }
def TopRangeWrongFalsely : Prop := topRangeRow.holds Tryz.pinned (OpenSpec.ofChange topRangeWrong)

/- THE SECOND FORM. 'bulk': how many values and letters a reading holds, each counted each time it is reached (what is shared counts as often as it is met; a slice's spare places count too). A statement '..UptoSaid' is the law's where the arguments, and the package variables that the reading takes, are together of bulk at most 1048576: NARROWER than '..Said'. Prove '..Said' where nothing that the law and all that it calls make is longer than what came in: it says more and counts as full. Else prove '..UptoSaid'. A law counts once. -/
mutual
def uptoBulk {H : Type} : DataW H → Nat
  | .lit (.string bytes) => bytes.length + 1
  | .lit _ => 1
  | .nil => 1
  | .ptr d => uptoBulk d + 1
  | .slice elems spare => uptoBulkAll elems + uptoBulkAll spare + 1
  | .agg parts => uptoBulkAll parts + 1
  | .iface _ d => uptoBulk d + 1
  | .map entries => uptoBulkEntries entries + 1
  | .held _ => 1
def uptoBulkAll {H : Type} : List (DataW H) → Nat
  | [] => 0
  | d :: r => uptoBulk d + uptoBulkAll r
def uptoBulkEntries {H : Type} : List (Lit × DataW H) → Nat
  | [] => 0
  | x :: r => uptoBulkEntry x + uptoBulkEntries r
def uptoBulkEntry {H : Type} : Lit × DataW H → Nat
  | (.string bytes, d) => bytes.length + uptoBulk d + 1
  | (_, d) => uptoBulk d + 1
 end
def uptoSmall : (H : Type) → List (DataW H) → Bool := fun _ ds => decide (uptoBulkAll ds ≤ 1048576)
def OpenSpec.upto (s : _root_.Go.ChangeSpec) : _root_.Go.OpenSpec := { _root_.Go.OpenSpec.ofChange s with cond := some uptoSmall }

/-- 'burgeontop.TopPairs', WHERE WHAT IT READS IS OF BULK AT MOST 1048576: true; the input reads as it did. -/
def topPairsUptoRow : OpenClaim := { program := "ytbjmllnddanniaagreat", sum := "6df386dc544d8de27bd620dcfe9895d1ce011418a8b1c12d5ff9775cb4ce0132", func := "burgeon/burgeontop.TopPairs", spec := "topPairs", inPlace := ["slices.overlaps[burgeon/api.Ref]"], unfollowed := true, recurses := true, plainKeys := false, apart := false, narrowed := true }
def TopPairsUptoSaid : Prop := topPairsUptoRow.holds Tryz.pinned (OpenSpec.upto topPairsSpec)

/-- 'burgeontop.TopReclaims', WHERE WHAT IT READS IS OF BULK AT MOST 1048576: true; the input reads as it did. -/
def topReclaimsUptoRow : OpenClaim := { program := "ytbjmllnddanniaagreat", sum := "6df386dc544d8de27bd620dcfe9895d1ce011418a8b1c12d5ff9775cb4ce0132", func := "burgeon/burgeontop.TopReclaims", spec := "topReclaims", inPlace := ["slices.overlaps[burgeon/api.Ref]"], unfollowed := true, recurses := true, plainKeys := false, apart := false, narrowed := true }
def TopReclaimsUptoSaid : Prop := topReclaimsUptoRow.holds Tryz.pinned (OpenSpec.upto topReclaimsSpec)

/-- 'burgeontop.TopShapes', WHERE WHAT IT READS IS OF BULK AT MOST 1048576: true; the input reads as it did. -/
def topShapesUptoRow : OpenClaim := { program := "ytbjmllnddanniaagreat", sum := "6df386dc544d8de27bd620dcfe9895d1ce011418a8b1c12d5ff9775cb4ce0132", func := "burgeon/burgeontop.TopShapes", spec := "topShapes", inPlace := ["slices.overlaps[burgeon/api.Ref]"], unfollowed := true, recurses := true, plainKeys := false, apart := false, narrowed := true }
def TopShapesUptoSaid : Prop := topShapesUptoRow.holds Tryz.pinned (OpenSpec.upto topShapesSpec)

/-- 'burgeontop.TopSize', WHERE WHAT IT READS IS OF BULK AT MOST 1048576: true; the input reads as it did. -/
def topSizeUptoRow : OpenClaim := { program := "ytbjmllnddanniaagreat", sum := "6df386dc544d8de27bd620dcfe9895d1ce011418a8b1c12d5ff9775cb4ce0132", func := "burgeon/burgeontop.TopSize", spec := "topSize", inPlace := ["slices.overlaps[burgeon/api.Ref]"], unfollowed := true, recurses := true, plainKeys := false, apart := false, narrowed := true }
def TopSizeUptoSaid : Prop := topSizeUptoRow.holds Tryz.pinned (OpenSpec.upto topSizeSpec)

/-- 'burgeontop.TopQueue', WHERE WHAT IT READS IS OF BULK AT MOST 1048576: true; the input reads as it did. -/
def topQueueUptoRow : OpenClaim := { program := "ytbjmllnddanniaagreat", sum := "6df386dc544d8de27bd620dcfe9895d1ce011418a8b1c12d5ff9775cb4ce0132", func := "burgeon/burgeontop.TopQueue", spec := "topQueue", inPlace := ["slices.overlaps[burgeon/api.Ref]"], unfollowed := true, recurses := true, plainKeys := false, apart := false, narrowed := true }
def TopQueueUptoSaid : Prop := topQueueUptoRow.holds Tryz.pinned (OpenSpec.upto topQueueSpec)

/-- 'burgeontop.TopPins', WHERE WHAT IT READS IS OF BULK AT MOST 1048576: true; the input reads as it did. -/
def topPinsUptoRow : OpenClaim := { program := "ytbjmllnddanniaagreat", sum := "6df386dc544d8de27bd620dcfe9895d1ce011418a8b1c12d5ff9775cb4ce0132", func := "burgeon/burgeontop.TopPins", spec := "topPins", inPlace := ["slices.overlaps[burgeon/api.Ref]"], unfollowed := true, recurses := true, plainKeys := false, apart := false, narrowed := true }
def TopPinsUptoSaid : Prop := topPinsUptoRow.holds Tryz.pinned (OpenSpec.upto topPinsSpec)

/-- 'burgeontop.TopRange', WHERE WHAT IT READS IS OF BULK AT MOST 1048576: true; the input reads as it did. -/
def topRangeUptoRow : OpenClaim := { program := "ytbjmllnddanniaagreat", sum := "6df386dc544d8de27bd620dcfe9895d1ce011418a8b1c12d5ff9775cb4ce0132", func := "burgeon/burgeontop.TopRange", spec := "topRange", inPlace := ["slices.overlaps[burgeon/api.Ref]"], unfollowed := true, recurses := true, plainKeys := false, apart := false, narrowed := true }
def TopRangeUptoSaid : Prop := topRangeUptoRow.holds Tryz.pinned (OpenSpec.upto topRangeSpec)

end Rows
end Go.Proofs.YtbjmllnddanniaaGreat
