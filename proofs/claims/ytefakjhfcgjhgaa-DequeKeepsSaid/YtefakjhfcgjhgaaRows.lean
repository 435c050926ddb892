/-
  No cell of these rows narrows 'for every input' (looked for: loops, veiled, ifaces, maps, wideKeys, modest, calm, conditions, laid).
  DERIVED. THE GIVEN ROWS OF THIS SEAT. 7 by the template 'for every input the law returns true; each argument reads behind the call as it read before'; 0 by the template 'total and deterministic' (their statements: YtefakjhfcgjhgaaTotals.lean).
  GIVEN WITH THE SEED: the statements are not yours to turn. If you find one false, say at which input.
  Laid BY PROGRAM, IN A SANDBOX (cutbox-rows.mjs): the forced cells as the released guide's own fill.sh prints them over the translation ac37b2d00cda5fde… (all of the seat's roots in one cut). By AI agents, Wed Nov 11 2026. No macro, syntax, notation, axiom, sorry.
-/
import Derived.Test.YtefakjhfcgjhgaaChecked
import GoSem.Claim
import GoSem.ClaimJoined
import GoSem.ClaimMapViews
import Derived.JoinedTies
import Derived.KernelRfl
namespace Go.Proofs.Ytefakjhfcgjhgaa
/- THE CELL 'sum', in the pinned program and in every row, IS THE sha256 OF THE DUMP (.gsa) THAT YtefakjhfcgjhgaaProg.lean LOADS. Nothing in Lean hashes anything: it is a label: what it is worth is what the hold of that sum in a sandbox is worth. -/
noncomputable def Try.pinned : Pinned := { name := "ytefakjhfcgjhgaa", sum := "ac37b2d00cda5fdebc7a1429c05bfa02cc864a693fe8d00b4e6b8a0c2c332f0f", checked := Try.checked }
namespace Rows
def none {H : Type} : Left H := { results := [], args := [] }

/-- 'burgeonlaw11.DequeOlder': WHATEVER THE INPUT: true; the input reads as it did. -/
def dequeOlderSpec : ChangeSpec := { name := "dequeOlder", fn := fun _ => fun
  | [d1, d2, d3] => { results := [.lit (.bool true)], args := [d1, d2, d3] }
  | _ => none }
def dequeOlderRow : OpenClaim := { program := "ytefakjhfcgjhgaa", sum := "ac37b2d00cda5fdebc7a1429c05bfa02cc864a693fe8d00b4e6b8a0c2c332f0f", func := "burgeon/burgeonlaw11.DequeOlder", spec := "dequeOlder", unfollowed := true, recurses := true, apart := false }
def DequeOlderSaid : Prop := dequeOlderRow.holds Try.pinned (OpenSpec.ofChange dequeOlderSpec)

/-- ITS FALSE NEIGHBOUR: 'it returns false'. Refute it at one input. -/
def dequeOlderWrong : ChangeSpec := { name := "dequeOlder", fn := fun _ => fun
  | [d1, d2, d3] => { results := [.lit (.bool false)], args := [d1, d2, d3] }
  | _ => none }
def DequeOlderWrongFalsely : Prop := dequeOlderRow.holds Try.pinned (OpenSpec.ofChange dequeOlderWrong)

/-- 'burgeonlaw11.DequeQueue': WHATEVER THE INPUT: true; the input reads as it did. -/
def dequeQueueSpec : ChangeSpec := { name := "dequeQueue", fn := fun _ => fun
  | [d1, d2] => { results := [.lit (.bool true)], args := [d1, d2] }
  | _ => none }
def dequeQueueRow : OpenClaim := { program := "ytefakjhfcgjhgaa", sum := "ac37b2d00cda5fdebc7a1429c05bfa02cc864a693fe8d00b4e6b8a0c2c332f0f", func := "burgeon/burgeonlaw11.DequeQueue", spec := "dequeQueue", unfollowed := true, recurses := true, apart := false }
def DequeQueueSaid : Prop := dequeQueueRow.holds Try.pinned (OpenSpec.ofChange dequeQueueSpec)

/-- ITS FALSE NEIGHBOUR: 'it returns false'. Refute it at one input. -/
def dequeQueueWrong : ChangeSpec := { name := "dequeQueue", fn := fun _ => fun
  | [d1, d2] => { results := [.lit (.bool false)], args := [d1, d2] }
  | _ => none }
def DequeQueueWrongFalsely : Prop := dequeQueueRow.holds Try.pinned (OpenSpec.ofChange dequeQueueWrong)

/-- 'burgeonlaw11.DequeJoins': WHATEVER THE INPUT: true; the input reads as it did. -/
def dequeJoinsSpec : ChangeSpec := { name := "dequeJoins", fn := fun _ => fun
  | [d1, d2, d3] => { results := [.lit (.bool true)], args := [d1, d2, d3] }
  | _ => none }
def dequeJoinsRow : OpenClaim := { program := "ytefakjhfcgjhgaa", sum := "ac37b2d00cda5fdebc7a1429c05bfa02cc864a693fe8d00b4e6b8a0c2c332f0f", func := "burgeon/burgeonlaw11.DequeJoins", spec := "dequeJoins", unfollowed := true, recurses := true, apart := false }
def DequeJoinsSaid : Prop := dequeJoinsRow.holds Try.pinned (OpenSpec.ofChange dequeJoinsSpec)

/-- ITS FALSE NEIGHBOUR: 'it returns false'. Refute it at one input. -/
def dequeJoinsWrong : ChangeSpec := { name := "dequeJoins", fn := fun _ => fun
  | [d1, d2, d3] => { results := [.lit (.bool false)], args := [d1, d2, d3] }
  | _ => none }
def DequeJoinsWrongFalsely : Prop := dequeJoinsRow.holds Try.pinned (OpenSpec.ofChange dequeJoinsWrong)

/-- 'burgeonlaw11.DequeBack': WHATEVER THE INPUT: true; the input reads as it did. -/
def dequeBackSpec : ChangeSpec := { name := "dequeBack", fn := fun _ => fun
  | [d1, d2, d3, d4] => { results := [.lit (.bool true)], args := [d1, d2, d3, d4] }
  | _ => none }
def dequeBackRow : OpenClaim := { program := "ytefakjhfcgjhgaa", sum := "ac37b2d00cda5fdebc7a1429c05bfa02cc864a693fe8d00b4e6b8a0c2c332f0f", func := "burgeon/burgeonlaw11.DequeBack", spec := "dequeBack", unfollowed := true, recurses := true, apart := false }
def DequeBackSaid : Prop := dequeBackRow.holds Try.pinned (OpenSpec.ofChange dequeBackSpec)

/-- ITS FALSE NEIGHBOUR: 'it returns false'. Refute it at one input. -/
def dequeBackWrong : ChangeSpec := { name := "dequeBack", fn := fun _ => fun
  | [d1, d2, d3, d4] => { results := [.lit (.bool false)], args := [d1, d2, d3, d4] }
  | _ => none }
def DequeBackWrongFalsely : Prop := dequeBackRow.holds Try.pinned (OpenSpec.ofChange dequeBackWrong)

/-- 'burgeonlaw11.DequeMakes': WHATEVER THE INPUT: true; the input reads as it did. -/
def dequeMakesSpec : ChangeSpec := { name := "dequeMakes", fn := fun _ => fun
  | [d1, d2, d3, d4, d5, d6] => { results := [.lit (.bool true)], args := [d1, d2, d3, d4, d5, d6] }
  | _ => none }
def dequeMakesRow : OpenClaim := { program := "ytefakjhfcgjhgaa", sum := "ac37b2d00cda5fdebc7a1429c05bfa02cc864a693fe8d00b4e6b8a0c2c332f0f", func := "burgeon/burgeonlaw11.DequeMakes", spec := "dequeMakes", unfollowed := true, recurses := true, apart := false }
def DequeMakesSaid : Prop := dequeMakesRow.holds Try.pinned (OpenSpec.ofChange dequeMakesSpec)

/-- ITS FALSE NEIGHBOUR: 'it returns false'. Refute it at one input. -/
def dequeMakesWrong : ChangeSpec := { name := "dequeMakes", fn := fun _ => fun
  | [d1, d2, d3, d4, d5, d6] => { results := [.lit (.bool false)], args := [d1, d2, d3, d4, d5, d6] }
  | _ => none }
def DequeMakesWrongFalsely : Prop := dequeMakesRow.holds Try.pinned (OpenSpec.ofChange dequeMakesWrong)

/-- 'burgeonlaw11.DequeKeeps': WHATEVER THE INPUT: true; the input reads as it did. -/
def dequeKeepsSpec : ChangeSpec := { name := "dequeKeeps", fn := fun _ => fun
  | [d1, d2] => { results := [.lit (.bool true)], args := [d1, d2] }
  | _ => none }
def dequeKeepsRow : OpenClaim := { program := "ytefakjhfcgjhgaa", sum := "ac37b2d00cda5fdebc7a1429c05bfa02cc864a693fe8d00b4e6b8a0c2c332f0f", func := "burgeon/burgeonlaw11.DequeKeeps", spec := "dequeKeeps", unfollowed := true, recurses := true, apart := false }
def DequeKeepsSaid : Prop := dequeKeepsRow.holds Try.pinned (OpenSpec.ofChange dequeKeepsSpec)

/-- ITS FALSE NEIGHBOUR: 'it returns false'. Refute it at one input. -/
def dequeKeepsWrong : ChangeSpec := { name := "dequeKeeps", fn := fun _ => fun
  | [d1, d2] => { results := [.lit (.bool false)], args := [d1, d2] }
  | _ => none }
def DequeKeepsWrongFalsely : Prop := dequeKeepsRow.holds Try.pinned (OpenSpec.ofChange dequeKeepsWrong)

/-- 'burgeonlaw11.DequeTells': WHATEVER THE INPUT: true; the input reads as it did. -/
def dequeTellsSpec : ChangeSpec := { name := "dequeTells", fn := fun _ => fun
  | [d1, d2, d3] => { results := [.lit (.bool true)], args := [d1, d2, d3] }
  | _ => none }
def dequeTellsRow : OpenClaim := { program := "ytefakjhfcgjhgaa", sum := "ac37b2d00cda5fdebc7a1429c05bfa02cc864a693fe8d00b4e6b8a0c2c332f0f", func := "burgeon/burgeonlaw11.DequeTells", spec := "dequeTells", unfollowed := true, recurses := true, apart := false }
def DequeTellsSaid : Prop := dequeTellsRow.holds Try.pinned (OpenSpec.ofChange dequeTellsSpec)

/-- ITS FALSE NEIGHBOUR: 'it returns false'. Refute it at one input. -/
def dequeTellsWrong : ChangeSpec := { name := "dequeTells", fn := fun _ => fun
  | [d1, d2, d3] => { results := [.lit (.bool false)], args := [d1, d2, d3] }
  | _ => none }
def DequeTellsWrongFalsely : Prop := dequeTellsRow.holds Try.pinned (OpenSpec.ofChange dequeTellsWrong)

/- THE SECOND FORM. 'bulk': how many values and letters a reading holds, each counted each time it is reached (what is shared counts as often as it is met; a slice's spare places count too). A statement '..UptoSaid' is the law's where the arguments, and the package variables that the reading takes, are together of bulk at most 1048576: NARROWER than '..Said'. Prove '..Said' where nothing that the law and all that it calls make is longer than what came in: it says more and counts as full. Else prove '..UptoSaid'. A law counts once. -/
mutual
def uptoBulk {H : Type} : DataW H → Nat
  | .lit (.string bytes) => bytes.length + 1
  | .lit _ => 1
  | .nil => 1
  | .ptr d => uptoBulk d + 1
  | .slice elems spare => uptoBulkAll elems + uptoBulkAll spare + 1
  | .agg parts => uptoBulkAll parts + 1
  | .iface _ d => uptoBulk d + 1
  | .map entries => uptoBulkEntries entries + 1
  | .held _ => 1
def uptoBulkAll {H : Type} : List (DataW H) → Nat
  | [] => 0
  | d :: r => uptoBulk d + uptoBulkAll r
def uptoBulkEntries {H : Type} : List (Lit × DataW H) → Nat
  | [] => 0
  | x :: r => uptoBulkEntry x + uptoBulkEntries r
def uptoBulkEntry {H : Type} : Lit × DataW H → Nat
  | (.string bytes, d) => bytes.length + uptoBulk d + 1
  | (_, d) => uptoBulk d + 1
 end
def uptoSmall : (H : Type) → List (DataW H) → Bool := fun _ ds => decide (uptoBulkAll ds ≤ 1048576)
def OpenSpec.upto (s : _root_.Go.ChangeSpec) : _root_.Go.OpenSpec := { _root_.Go.OpenSpec.ofChange s with cond := some uptoSmall }

/-- 'burgeonlaw11.DequeOlder', WHERE WHAT IT READS IS OF BULK AT MOST 1048576: true; the input reads as it did. -/
def dequeOlderUptoRow : OpenClaim := { program := "ytefakjhfcgjhgaa", sum := "ac37b2d00cda5fdebc7a1429c05bfa02cc864a693fe8d00b4e6b8a0c2c332f0f", func := "burgeon/burgeonlaw11.DequeOlder", spec := "dequeOlder", unfollowed := true, recurses := true, apart := false, narrowed := true }
def DequeOlderUptoSaid : Prop := dequeOlderUptoRow.holds Try.pinned (OpenSpec.upto dequeOlderSpec)

/-- 'burgeonlaw11.DequeQueue', WHERE WHAT IT READS IS OF BULK AT MOST 1048576: true; the input reads as it did. -/
def dequeQueueUptoRow : OpenClaim := { program := "ytefakjhfcgjhgaa", sum := "ac37b2d00cda5fdebc7a1429c05bfa02cc864a693fe8d00b4e6b8a0c2c332f0f", func := "burgeon/burgeonlaw11.DequeQueue", spec := "dequeQueue", unfollowed := true, recurses := true, apart := false, narrowed := true }
def DequeQueueUptoSaid : Prop := dequeQueueUptoRow.holds Try.pinned (OpenSpec.upto dequeQueueSpec)

/-- 'burgeonlaw11.DequeJoins', WHERE WHAT IT READS IS OF BULK AT MOST 1048576: true; the input reads as it did. -/
def dequeJoinsUptoRow : OpenClaim := { program := "ytefakjhfcgjhgaa", sum := "ac37b2d00cda5fdebc7a1429c05bfa02cc864a693fe8d00b4e6b8a0c2c332f0f", func := "burgeon/burgeonlaw11.DequeJoins", spec := "dequeJoins", unfollowed := true, recurses := true, apart := false, narrowed := true }
def DequeJoinsUptoSaid : Prop := dequeJoinsUptoRow.holds Try.pinned (OpenSpec.upto dequeJoinsSpec)

/-- 'burgeonlaw11.DequeBack', WHERE WHAT IT READS IS OF BULK AT MOST 1048576: true; the input reads as it did. -/
def dequeBackUptoRow : OpenClaim := { program := "ytefakjhfcgjhgaa", sum := "ac37b2d00cda5fdebc7a1429c05bfa02cc864a693fe8d00b4e6b8a0c2c332f0f", func := "burgeon/burgeonlaw11.DequeBack", spec := "dequeBack", unfollowed := true, recurses := true, apart := false, narrowed := true }
def DequeBackUptoSaid : Prop := dequeBackUptoRow.holds Try.pinned (OpenSpec.upto dequeBackSpec)

/-- 'burgeonlaw11.DequeMakes', WHERE WHAT IT READS IS OF BULK AT MOST 1048576: true; the input reads as it did. -/
def dequeMakesUptoRow : OpenClaim := { program := "ytefakjhfcgjhgaa", sum := "ac37b2d00cda5fdebc7a1429c05bfa02cc864a693fe8d00b4e6b8a0c2c332f0f", func := "burgeon/burgeonlaw11.DequeMakes", spec := "dequeMakes", unfollowed := true, recurses := true, apart := false, narrowed := true }
def DequeMakesUptoSaid : Prop := dequeMakesUptoRow.holds Try.pinned (OpenSpec.upto dequeMakesSpec)

/-- 'burgeonlaw11.DequeKeeps', WHERE WHAT IT READS IS OF BULK AT MOST 1048576: true; the input reads as it did. -/
def dequeKeepsUptoRow : OpenClaim := { program := "ytefakjhfcgjhgaa", sum := "ac37b2d00cda5fdebc7a1429c05bfa02cc864a693fe8d00b4e6b8a0c2c332f0f", func := "burgeon/burgeonlaw11.DequeKeeps", spec := "dequeKeeps", unfollowed := true, recurses := true, apart := false, narrowed := true }
def DequeKeepsUptoSaid : Prop := dequeKeepsUptoRow.holds Try.pinned (OpenSpec.upto dequeKeepsSpec)

/-- 'burgeonlaw11.DequeTells', WHERE WHAT IT READS IS OF BULK AT MOST 1048576: true; the input reads as it did. -/
def dequeTellsUptoRow : OpenClaim := { program := "ytefakjhfcgjhgaa", sum := "ac37b2d00cda5fdebc7a1429c05bfa02cc864a693fe8d00b4e6b8a0c2c332f0f", func := "burgeon/burgeonlaw11.DequeTells", spec := "dequeTells", unfollowed := true, recurses := true, apart := false, narrowed := true }
def DequeTellsUptoSaid : Prop := dequeTellsUptoRow.holds Try.pinned (OpenSpec.upto dequeTellsSpec)

end Rows
end Go.Proofs.Ytefakjhfcgjhgaa
