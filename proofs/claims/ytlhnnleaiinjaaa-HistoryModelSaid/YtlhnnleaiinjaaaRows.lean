/-
  No cell of these rows narrows 'for every input' (looked for: loops, veiled, ifaces, maps, wideKeys, modest, calm, conditions, laid).
  DERIVED. THE GIVEN ROWS OF THIS SEAT. 4 by the template 'for every input the law returns true; each argument reads behind the call as it read before'; 0 by the template 'total and deterministic' (their statements: YtlhnnleaiinjaaaTotals.lean).
  GIVEN WITH THE SEED: the statements are not yours to turn. If you find one false, say at which input.
  Laid BY PROGRAM, IN A SANDBOX (cutbox-rows.mjs): the forced cells as the released guide's own fill.sh prints them over the translation b76f8fe7789de1f5… (all of the seat's roots in one cut). By AI agents, Wed Nov 11 2026. No macro, syntax, notation, axiom, sorry.
-/
import Derived.Test.YtlhnnleaiinjaaaChecked
import GoSem.Claim
import GoSem.ClaimJoined
import GoSem.ClaimMapViews
import Derived.JoinedTies
import Derived.KernelRfl
namespace Go.Proofs.Ytlhnnleaiinjaaa
/- THE CELL 'sum', in the pinned program and in every row, IS THE sha256 OF THE DUMP (.gsa) THAT YtlhnnleaiinjaaaProg.lean LOADS. Nothing in Lean hashes anything: it is a label: what it is worth is what the hold of that sum in a sandbox is worth. -/
noncomputable def Try.pinned : Pinned := { name := "ytlhnnleaiinjaaa", sum := "b76f8fe7789de1f5e738f34262755a3d674e64dcde6505e148e046b3317f96bc", checked := Try.checked }
namespace Rows
def none {H : Type} : Left H := { results := [], args := [] }

/-- 'burgeonlaw20.HistoryOrders': WHATEVER THE INPUT: true; the input reads as it did. -/
def historyOrdersSpec : ChangeSpec := { name := "historyOrders", fn := fun _ => fun
  | [d] => { results := [.lit (.bool true)], args := [d] }
  | _ => none }
def historyOrdersRow : OpenClaim := { program := "ytlhnnleaiinjaaa", sum := "b76f8fe7789de1f5e738f34262755a3d674e64dcde6505e148e046b3317f96bc", func := "burgeon/burgeonlaw20.HistoryOrders", spec := "historyOrders", inPlace := ["slices.overlaps[burgeon/api.Item]"], unfollowed := true, recurses := true, plainKeys := false, apart := false }
def HistoryOrdersSaid : Prop := historyOrdersRow.holds Try.pinned (OpenSpec.ofChange historyOrdersSpec)

/-- ITS FALSE NEIGHBOUR: 'it returns false'. Refute it at one input. -/
def historyOrdersWrong : ChangeSpec := { name := "historyOrders", fn := fun _ => fun
  | [d] => { results := [.lit (.bool false)], args := [d] }
  | _ => none }
def HistoryOrdersWrongFalsely : Prop := historyOrdersRow.holds Try.pinned (OpenSpec.ofChange historyOrdersWrong)

/-- 'burgeonlaw20.HistoryFits': WHATEVER THE INPUT: true; the input reads as it did. -/
def historyFitsSpec : ChangeSpec := { name := "historyFits", fn := fun _ => fun
  | [d1, d2] => { results := [.lit (.bool true)], args := [d1, d2] }
  | _ => none }
def historyFitsRow : OpenClaim := { program := "ytlhnnleaiinjaaa", sum := "b76f8fe7789de1f5e738f34262755a3d674e64dcde6505e148e046b3317f96bc", func := "burgeon/burgeonlaw20.HistoryFits", spec := "historyFits", inPlace := ["slices.overlaps[burgeon/api.Item]"], unfollowed := true, recurses := true, plainKeys := false, apart := false }
def HistoryFitsSaid : Prop := historyFitsRow.holds Try.pinned (OpenSpec.ofChange historyFitsSpec)

/-- ITS FALSE NEIGHBOUR: 'it returns false'. Refute it at one input. -/
def historyFitsWrong : ChangeSpec := { name := "historyFits", fn := fun _ => fun
  | [d1, d2] => { results := [.lit (.bool false)], args := [d1, d2] }
  | _ => none }
def HistoryFitsWrongFalsely : Prop := historyFitsRow.holds Try.pinned (OpenSpec.ofChange historyFitsWrong)

/-- 'burgeonlaw20.HistoryModel': WHATEVER THE INPUT: true; the input reads as it did. -/
def historyModelSpec : ChangeSpec := { name := "historyModel", fn := fun _ => fun
  | [d1, d2] => { results := [.lit (.bool true)], args := [d1, d2] }
  | _ => none }
def historyModelRow : OpenClaim := { program := "ytlhnnleaiinjaaa", sum := "b76f8fe7789de1f5e738f34262755a3d674e64dcde6505e148e046b3317f96bc", func := "burgeon/burgeonlaw20.HistoryModel", spec := "historyModel", inPlace := ["slices.overlaps[burgeon/api.Item]"], unfollowed := true, recurses := true, plainKeys := false, apart := false }
def HistoryModelSaid : Prop := historyModelRow.holds Try.pinned (OpenSpec.ofChange historyModelSpec)

/-- ITS FALSE NEIGHBOUR: 'it returns false'. Refute it at one input. -/
def historyModelWrong : ChangeSpec := { name := "historyModel", fn := fun _ => fun
  | [d1, d2] => { results := [.lit (.bool false)], args := [d1, d2] }
  | _ => none }
def HistoryModelWrongFalsely : Prop := historyModelRow.holds Try.pinned (OpenSpec.ofChange historyModelWrong)

/-- 'burgeonlaw20.HistoryOverlaps': WHATEVER THE INPUT: true; the input reads as it did. -/
def historyOverlapsSpec : ChangeSpec := { name := "historyOverlaps", fn := fun _ => fun
  | [d1, d2, d3] => { results := [.lit (.bool true)], args := [d1, d2, d3] }
  | _ => none }
def historyOverlapsRow : OpenClaim := { program := "ytlhnnleaiinjaaa", sum := "b76f8fe7789de1f5e738f34262755a3d674e64dcde6505e148e046b3317f96bc", func := "burgeon/burgeonlaw20.HistoryOverlaps", spec := "historyOverlaps", inPlace := ["slices.overlaps[burgeon/api.Item]"], unfollowed := true, recurses := true, plainKeys := false, apart := false }
def HistoryOverlapsSaid : Prop := historyOverlapsRow.holds Try.pinned (OpenSpec.ofChange historyOverlapsSpec)

/-- ITS FALSE NEIGHBOUR: 'it returns false'. Refute it at one input. -/
def historyOverlapsWrong : ChangeSpec := { name := "historyOverlaps", fn := fun _ => fun
  | [d1, d2, d3] => { results := [.lit (.bool false)], args := [d1, d2, d3] }
  | _ => none }
def HistoryOverlapsWrongFalsely : Prop := historyOverlapsRow.holds Try.pinned (OpenSpec.ofChange historyOverlapsWrong)

/- THE SECOND FORM. 'bulk': how many values and letters a reading holds, each counted each time it is reached (what is shared counts as often as it is met; a slice's spare places count too). A statement '..UptoSaid' is the law's where the arguments, and the package variables that the reading takes, are together of bulk at most 1048576: NARROWER than '..Said'. Prove '..Said' where nothing that the law and all that it calls make is longer than what came in: it says more and counts as full. Else prove '..UptoSaid'. A law counts once. -/
mutual
def uptoBulk {H : Type} : DataW H → Nat
  | .lit (.string bytes) => bytes.length + 1
  | .lit _ => 1
  | .nil => 1
  | .ptr d => uptoBulk d + 1
  | .slice elems spare => uptoBulkAll elems + uptoBulkAll spare + 1
  | .agg parts => uptoBulkAll parts + 1
  | .iface _ d => uptoBulk d + 1
  | .map entries => uptoBulkEntries entries + 1
  | .held _ => 1
def uptoBulkAll {H : Type} : List (DataW H) → Nat
  | [] => 0
  | d :: r => uptoBulk d + uptoBulkAll r
def uptoBulkEntries {H : Type} : List (Lit × DataW H) → Nat
  | [] => 0
  | x :: r => uptoBulkEntry x + uptoBulkEntries r
def uptoBulkEntry {H : Type} : Lit × DataW H → Nat
  | (.string bytes, d) => bytes.length + uptoBulk d + 1
  | (_, d) => uptoBulk d + 1
 end
def uptoSmall : (H : Type) → List (DataW H) → Bool := fun _ ds => decide (uptoBulkAll ds ≤ 1048576)
def OpenSpec.upto (s : _root_.Go.ChangeSpec) : _root_.Go.OpenSpec := { _root_.Go.OpenSpec.ofChange s with cond := some uptoSmall }

/-- 'burgeonlaw20.HistoryOrders', WHERE WHAT IT READS IS OF BULK AT MOST 1048576: true; the input reads as it did. -/
def historyOrdersUptoRow : OpenClaim := { program := "ytlhnnleaiinjaaa", sum := "b76f8fe7789de1f5e738f34262755a3d674e64dcde6505e148e046b3317f96bc", func := "burgeon/burgeonlaw20.HistoryOrders", spec := "historyOrders", inPlace := ["slices.overlaps[burgeon/api.Item]"], unfollowed := true, recurses := true, plainKeys := false, apart := false, narrowed := true }
def HistoryOrdersUptoSaid : Prop := historyOrdersUptoRow.holds Try.pinned (OpenSpec.upto historyOrdersSpec)

/-- 'burgeonlaw20.HistoryFits', WHERE WHAT IT READS IS OF BULK AT MOST 1048576: true; the input reads as it did. -/
def historyFitsUptoRow : OpenClaim := { program := "ytlhnnleaiinjaaa", sum := "b76f8fe7789de1f5e738f34262755a3d674e64dcde6505e148e046b3317f96bc", func := "burgeon/burgeonlaw20.HistoryFits", spec := "historyFits", inPlace := ["slices.overlaps[burgeon/api.Item]"], unfollowed := true, recurses := true, plainKeys := false, apart := false, narrowed := true }
def HistoryFitsUptoSaid : Prop := historyFitsUptoRow.holds Try.pinned (OpenSpec.upto historyFitsSpec)

/-- 'burgeonlaw20.HistoryModel', WHERE WHAT IT READS IS OF BULK AT MOST 1048576: true; the input reads as it did. -/
def historyModelUptoRow : OpenClaim := { program := "ytlhnnleaiinjaaa", sum := "b76f8fe7789de1f5e738f34262755a3d674e64dcde6505e148e046b3317f96bc", func := "burgeon/burgeonlaw20.HistoryModel", spec := "historyModel", inPlace := ["slices.overlaps[burgeon/api.Item]"], unfollowed := true, recurses := true, plainKeys := false, apart := false, narrowed := true }
def HistoryModelUptoSaid : Prop := historyModelUptoRow.holds Try.pinned (OpenSpec.upto historyModelSpec)

/-- 'burgeonlaw20.HistoryOverlaps', WHERE WHAT IT READS IS OF BULK AT MOST 1048576: true; the input reads as it did. -/
def historyOverlapsUptoRow : OpenClaim := { program := "ytlhnnleaiinjaaa", sum := "b76f8fe7789de1f5e738f34262755a3d674e64dcde6505e148e046b3317f96bc", func := "burgeon/burgeonlaw20.HistoryOverlaps", spec := "historyOverlaps", inPlace := ["slices.overlaps[burgeon/api.Item]"], unfollowed := true, recurses := true, plainKeys := false, apart := false, narrowed := true }
def HistoryOverlapsUptoSaid : Prop := historyOverlapsUptoRow.holds Try.pinned (OpenSpec.upto historyOverlapsSpec)

end Rows
end Go.Proofs.Ytlhnnleaiinjaaa
