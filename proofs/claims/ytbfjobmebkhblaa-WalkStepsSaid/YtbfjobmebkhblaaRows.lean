/-
  No cell of these rows narrows 'for every input' (looked for: loops, veiled, ifaces, maps, wideKeys, modest, calm, conditions, laid).
  DERIVED. THE GIVEN ROWS OF THIS SEAT. 11 by the template 'for every input the law returns true; each argument reads behind the call as it read before'; 0 by the template 'total and deterministic' (their statements: YtbfjobmebkhblaaTotals.lean).
  GIVEN WITH THE SEED: the statements are not yours to turn. If you find one false, say at which input.
  Laid BY PROGRAM, IN A SANDBOX (cutbox-rows.mjs): the forced cells as the released guide's own fill.sh prints them over the translation aac27cceac47b9bb… (all of the seat's roots in one cut). By AI agents, Wed Nov 11 2026. No macro, syntax, notation, axiom, sorry.
-/
import Derived.Test.YtbfjobmebkhblaaChecked
import GoSem.Claim
import GoSem.ClaimJoined
import GoSem.ClaimMapViews
import Derived.JoinedTies
import Derived.KernelRfl
namespace Go.Proofs.Ytbfjobmebkhblaa
/- THE CELL 'sum', in the pinned program and in every row, IS THE sha256 OF THE DUMP (.gsa) THAT YtbfjobmebkhblaaProg.lean LOADS. Nothing in Lean hashes anything: it is a label: what it is worth is what the hold of that sum in a sandbox is worth. -/
noncomputable def Try.pinned : Pinned := { name := "ytbfjobmebkhblaa", sum := "aac27cceac47b9bb80f26f72735f997db793cd0df23e86557ce04c10aa36975c", checked := Try.checked }
namespace Rows
def none {H : Type} : Left H := { results := [], args := [] }

/-- 'burgeonlaw10.WalkOrder': WHATEVER THE INPUT: true; the input reads as it did. -/
def walkOrderSpec : ChangeSpec := { name := "walkOrder", fn := fun _ => fun
  | [d1, d2, d3] => { results := [.lit (.bool true)], args := [d1, d2, d3] }
  | _ => none }
def walkOrderRow : OpenClaim := { program := "ytbfjobmebkhblaa", sum := "aac27cceac47b9bb80f26f72735f997db793cd0df23e86557ce04c10aa36975c", func := "burgeon/burgeonlaw10.WalkOrder", spec := "walkOrder", unfollowed := true, recurses := true, apart := false }
def WalkOrderSaid : Prop := walkOrderRow.holds Try.pinned (OpenSpec.ofChange walkOrderSpec)

/-- ITS FALSE NEIGHBOUR: 'it returns false'. Refute it at one input. -/
def walkOrderWrong : ChangeSpec := { name := "walkOrder", fn := fun _ => fun
  | [d1, d2, d3] => { results := [.lit (.bool false)], args := [d1, d2, d3] }
  | _ => none }
def WalkOrderWrongFalsely : Prop := walkOrderRow.holds Try.pinned (OpenSpec.ofChange walkOrderWrong)

/-- 'burgeonlaw10.WalkNext': WHATEVER THE INPUT: true; the input reads as it did. -/
def walkNextSpec : ChangeSpec := { name := "walkNext", fn := fun _ => fun
  | [d1, d2] => { results := [.lit (.bool true)], args := [d1, d2] }
  | _ => none }
def walkNextRow : OpenClaim := { program := "ytbfjobmebkhblaa", sum := "aac27cceac47b9bb80f26f72735f997db793cd0df23e86557ce04c10aa36975c", func := "burgeon/burgeonlaw10.WalkNext", spec := "walkNext", unfollowed := true, recurses := true, apart := false }
def WalkNextSaid : Prop := walkNextRow.holds Try.pinned (OpenSpec.ofChange walkNextSpec)

/-- ITS FALSE NEIGHBOUR: 'it returns false'. Refute it at one input. -/
def walkNextWrong : ChangeSpec := { name := "walkNext", fn := fun _ => fun
  | [d1, d2] => { results := [.lit (.bool false)], args := [d1, d2] }
  | _ => none }
def WalkNextWrongFalsely : Prop := walkNextRow.holds Try.pinned (OpenSpec.ofChange walkNextWrong)

/-- 'burgeonlaw10.WalkPuts': WHATEVER THE INPUT: true; the input reads as it did. -/
def walkPutsSpec : ChangeSpec := { name := "walkPuts", fn := fun _ => fun
  | [d1, d2] => { results := [.lit (.bool true)], args := [d1, d2] }
  | _ => none }
def walkPutsRow : OpenClaim := { program := "ytbfjobmebkhblaa", sum := "aac27cceac47b9bb80f26f72735f997db793cd0df23e86557ce04c10aa36975c", func := "burgeon/burgeonlaw10.WalkPuts", spec := "walkPuts", unfollowed := true, recurses := true, apart := false }
def WalkPutsSaid : Prop := walkPutsRow.holds Try.pinned (OpenSpec.ofChange walkPutsSpec)

/-- ITS FALSE NEIGHBOUR: 'it returns false'. Refute it at one input. -/
def walkPutsWrong : ChangeSpec := { name := "walkPuts", fn := fun _ => fun
  | [d1, d2] => { results := [.lit (.bool false)], args := [d1, d2] }
  | _ => none }
def WalkPutsWrongFalsely : Prop := walkPutsRow.holds Try.pinned (OpenSpec.ofChange walkPutsWrong)

/-- 'burgeonlaw10.WalkTells': WHATEVER THE INPUT: true; the input reads as it did. -/
def walkTellsSpec : ChangeSpec := { name := "walkTells", fn := fun _ => fun
  | [d1, d2, d3, d4] => { results := [.lit (.bool true)], args := [d1, d2, d3, d4] }
  | _ => none }
def walkTellsRow : OpenClaim := { program := "ytbfjobmebkhblaa", sum := "aac27cceac47b9bb80f26f72735f997db793cd0df23e86557ce04c10aa36975c", func := "burgeon/burgeonlaw10.WalkTells", spec := "walkTells", unfollowed := true, recurses := true, apart := false }
def WalkTellsSaid : Prop := walkTellsRow.holds Try.pinned (OpenSpec.ofChange walkTellsSpec)

/-- ITS FALSE NEIGHBOUR: 'it returns false'. Refute it at one input. -/
def walkTellsWrong : ChangeSpec := { name := "walkTells", fn := fun _ => fun
  | [d1, d2, d3, d4] => { results := [.lit (.bool false)], args := [d1, d2, d3, d4] }
  | _ => none }
def WalkTellsWrongFalsely : Prop := walkTellsRow.holds Try.pinned (OpenSpec.ofChange walkTellsWrong)

/-- 'burgeonlaw10.WalkSteps': WHATEVER THE INPUT: true; the input reads as it did. -/
def walkStepsSpec : ChangeSpec := { name := "walkSteps", fn := fun _ => fun
  | [d] => { results := [.lit (.bool true)], args := [d] }
  | _ => none }
def walkStepsRow : OpenClaim := { program := "ytbfjobmebkhblaa", sum := "aac27cceac47b9bb80f26f72735f997db793cd0df23e86557ce04c10aa36975c", func := "burgeon/burgeonlaw10.WalkSteps", spec := "walkSteps", unfollowed := true, recurses := true, apart := false }
def WalkStepsSaid : Prop := walkStepsRow.holds Try.pinned (OpenSpec.ofChange walkStepsSpec)

/-- ITS FALSE NEIGHBOUR: 'it returns false'. Refute it at one input. -/
def walkStepsWrong : ChangeSpec := { name := "walkSteps", fn := fun _ => fun
  | [d] => { results := [.lit (.bool false)], args := [d] }
  | _ => none }
def WalkStepsWrongFalsely : Prop := walkStepsRow.holds Try.pinned (OpenSpec.ofChange walkStepsWrong)

/-- 'burgeonlaw09.HamtShape': WHATEVER THE INPUT: true; the input reads as it did. -/
def hamtShapeSpec : ChangeSpec := { name := "hamtShape", fn := fun _ => fun
  | [d1, d2] => { results := [.lit (.bool true)], args := [d1, d2] }
  | _ => none }
def hamtShapeRow : OpenClaim := { program := "ytbfjobmebkhblaa", sum := "aac27cceac47b9bb80f26f72735f997db793cd0df23e86557ce04c10aa36975c", func := "burgeon/burgeonlaw09.HamtShape", spec := "hamtShape", inPlace := ["slices.overlaps[burgeon/api.Ref]"], unfollowed := true, recurses := true, apart := false }
def HamtShapeSaid : Prop := hamtShapeRow.holds Try.pinned (OpenSpec.ofChange hamtShapeSpec)

/-- ITS FALSE NEIGHBOUR: 'it returns false'. Refute it at one input. -/
def hamtShapeWrong : ChangeSpec := { name := "hamtShape", fn := fun _ => fun
  | [d1, d2] => { results := [.lit (.bool false)], args := [d1, d2] }
  | _ => none }
def HamtShapeWrongFalsely : Prop := hamtShapeRow.holds Try.pinned (OpenSpec.ofChange hamtShapeWrong)

/-- 'burgeonlaw09.HamtCrowds': WHATEVER THE INPUT: true; the input reads as it did. -/
def hamtCrowdsSpec : ChangeSpec := { name := "hamtCrowds", fn := fun _ => fun
  | [d1, d2] => { results := [.lit (.bool true)], args := [d1, d2] }
  | _ => none }
def hamtCrowdsRow : OpenClaim := { program := "ytbfjobmebkhblaa", sum := "aac27cceac47b9bb80f26f72735f997db793cd0df23e86557ce04c10aa36975c", func := "burgeon/burgeonlaw09.HamtCrowds", spec := "hamtCrowds", inPlace := ["slices.overlaps[burgeon/api.Ref]"], unfollowed := true, recurses := true, apart := false }
def HamtCrowdsSaid : Prop := hamtCrowdsRow.holds Try.pinned (OpenSpec.ofChange hamtCrowdsSpec)

/-- ITS FALSE NEIGHBOUR: 'it returns false'. Refute it at one input. -/
def hamtCrowdsWrong : ChangeSpec := { name := "hamtCrowds", fn := fun _ => fun
  | [d1, d2] => { results := [.lit (.bool false)], args := [d1, d2] }
  | _ => none }
def HamtCrowdsWrongFalsely : Prop := hamtCrowdsRow.holds Try.pinned (OpenSpec.ofChange hamtCrowdsWrong)

/-- 'burgeonlaw09.HamtMakes': WHATEVER THE INPUT: true; the input reads as it did. -/
def hamtMakesSpec : ChangeSpec := { name := "hamtMakes", fn := fun _ => fun
  | [d1, d2, d3, d4] => { results := [.lit (.bool true)], args := [d1, d2, d3, d4] }
  | _ => none }
def hamtMakesRow : OpenClaim := { program := "ytbfjobmebkhblaa", sum := "aac27cceac47b9bb80f26f72735f997db793cd0df23e86557ce04c10aa36975c", func := "burgeon/burgeonlaw09.HamtMakes", spec := "hamtMakes", inPlace := ["slices.overlaps[burgeon/api.Ref]"], unfollowed := true, recurses := true, apart := false }
def HamtMakesSaid : Prop := hamtMakesRow.holds Try.pinned (OpenSpec.ofChange hamtMakesSpec)

/-- ITS FALSE NEIGHBOUR: 'it returns false'. Refute it at one input. -/
def hamtMakesWrong : ChangeSpec := { name := "hamtMakes", fn := fun _ => fun
  | [d1, d2, d3, d4] => { results := [.lit (.bool false)], args := [d1, d2, d3, d4] }
  | _ => none }
def HamtMakesWrongFalsely : Prop := hamtMakesRow.holds Try.pinned (OpenSpec.ofChange hamtMakesWrong)

/-- 'burgeonlaw09.HamtKeeps': WHATEVER THE INPUT: true; the input reads as it did. -/
def hamtKeepsSpec : ChangeSpec := { name := "hamtKeeps", fn := fun _ => fun
  | [d] => { results := [.lit (.bool true)], args := [d] }
  | _ => none }
def hamtKeepsRow : OpenClaim := { program := "ytbfjobmebkhblaa", sum := "aac27cceac47b9bb80f26f72735f997db793cd0df23e86557ce04c10aa36975c", func := "burgeon/burgeonlaw09.HamtKeeps", spec := "hamtKeeps", inPlace := ["slices.overlaps[burgeon/api.Ref]"], unfollowed := true, recurses := true, apart := false }
def HamtKeepsSaid : Prop := hamtKeepsRow.holds Try.pinned (OpenSpec.ofChange hamtKeepsSpec)

/-- ITS FALSE NEIGHBOUR: 'it returns false'. Refute it at one input. -/
def hamtKeepsWrong : ChangeSpec := { name := "hamtKeeps", fn := fun _ => fun
  | [d] => { results := [.lit (.bool false)], args := [d] }
  | _ => none }
def HamtKeepsWrongFalsely : Prop := hamtKeepsRow.holds Try.pinned (OpenSpec.ofChange hamtKeepsWrong)

/-- 'burgeonlaw09.HamtTells': WHATEVER THE INPUT: true; the input reads as it did. -/
def hamtTellsSpec : ChangeSpec := { name := "hamtTells", fn := fun _ => fun
  | [d1, d2, d3] => { results := [.lit (.bool true)], args := [d1, d2, d3] }
  | _ => none }
def hamtTellsRow : OpenClaim := { program := "ytbfjobmebkhblaa", sum := "aac27cceac47b9bb80f26f72735f997db793cd0df23e86557ce04c10aa36975c", func := "burgeon/burgeonlaw09.HamtTells", spec := "hamtTells", inPlace := ["slices.overlaps[burgeon/api.Ref]"], unfollowed := true, recurses := true, apart := false }
def HamtTellsSaid : Prop := hamtTellsRow.holds Try.pinned (OpenSpec.ofChange hamtTellsSpec)

/-- ITS FALSE NEIGHBOUR: 'it returns false'. Refute it at one input. -/
def hamtTellsWrong : ChangeSpec := { name := "hamtTells", fn := fun _ => fun
  | [d1, d2, d3] => { results := [.lit (.bool false)], args := [d1, d2, d3] }
  | _ => none }
def HamtTellsWrongFalsely : Prop := hamtTellsRow.holds Try.pinned (OpenSpec.ofChange hamtTellsWrong)

/-- 'burgeonlaw09.HamtAgain': WHATEVER THE INPUT: true; the input reads as it did. -/
def hamtAgainSpec : ChangeSpec := { name := "hamtAgain", fn := fun _ => fun
  | [d1, d2, d3] => { results := [.lit (.bool true)], args := [d1, d2, d3] }
  | _ => none }
def hamtAgainRow : OpenClaim := { program := "ytbfjobmebkhblaa", sum := "aac27cceac47b9bb80f26f72735f997db793cd0df23e86557ce04c10aa36975c", func := "burgeon/burgeonlaw09.HamtAgain", spec := "hamtAgain", inPlace := ["slices.overlaps[burgeon/api.Ref]"], unfollowed := true, recurses := true, apart := false }
def HamtAgainSaid : Prop := hamtAgainRow.holds Try.pinned (OpenSpec.ofChange hamtAgainSpec)

/-- ITS FALSE NEIGHBOUR: 'it returns false'. Refute it at one input. -/
def hamtAgainWrong : ChangeSpec := { name := "hamtAgain", fn := fun _ => fun
  | [d1, d2, d3] => { results := [.lit (.bool false)], args := [d1, d2, d3] }
  | _ => none }
def HamtAgainWrongFalsely : Prop := hamtAgainRow.holds Try.pinned (OpenSpec.ofChange hamtAgainWrong)

/- THE SECOND FORM. 'bulk': how many values and letters a reading holds, each counted each time it is reached (what is shared counts as often as it is met; a slice's spare places count too). A statement '..UptoSaid' is the law's where the arguments, and the package variables that the reading takes, are together of bulk at most 1048576: NARROWER than '..Said'. Prove '..Said' where nothing that the law and all that it calls make is longer than what came in: it says more and counts as full. Else prove '..UptoSaid'. A law counts once. -/
mutual
def uptoBulk {H : Type} : DataW H → Nat
  | .lit (.string bytes) => bytes.length + 1
  | .lit _ => 1
  | .nil => 1
  | .ptr d => uptoBulk d + 1
  | .slice elems spare => uptoBulkAll elems + uptoBulkAll spare + 1
  | .agg parts => uptoBulkAll parts + 1
  | .iface _ d => uptoBulk d + 1
  | .map entries => uptoBulkEntries entries + 1
  | .held _ => 1
def uptoBulkAll {H : Type} : List (DataW H) → Nat
  | [] => 0
  | d :: r => uptoBulk d + uptoBulkAll r
def uptoBulkEntries {H : Type} : List (Lit × DataW H) → Nat
  | [] => 0
  | x :: r => uptoBulkEntry x + uptoBulkEntries r
def uptoBulkEntry {H : Type} : Lit × DataW H → Nat
  | (.string bytes, d) => bytes.length + uptoBulk d + 1
  | (_, d) => uptoBulk d + 1
 end
def uptoSmall : (H : Type) → List (DataW H) → Bool := fun _ ds => decide (uptoBulkAll ds ≤ 1048576)
def OpenSpec.upto (s : _root_.Go.ChangeSpec) : _root_.Go.OpenSpec := { _root_.Go.OpenSpec.ofChange s with cond := some uptoSmall }

/-- 'burgeonlaw10.WalkOrder', WHERE WHAT IT READS IS OF BULK AT MOST 1048576: true; the input reads as it did. -/
def walkOrderUptoRow : OpenClaim := { program := "ytbfjobmebkhblaa", sum := "aac27cceac47b9bb80f26f72735f997db793cd0df23e86557ce04c10aa36975c", func := "burgeon/burgeonlaw10.WalkOrder", spec := "walkOrder", unfollowed := true, recurses := true, apart := false, narrowed := true }
def WalkOrderUptoSaid : Prop := walkOrderUptoRow.holds Try.pinned (OpenSpec.upto walkOrderSpec)

/-- 'burgeonlaw10.WalkNext', WHERE WHAT IT READS IS OF BULK AT MOST 1048576: true; the input reads as it did. -/
def walkNextUptoRow : OpenClaim := { program := "ytbfjobmebkhblaa", sum := "aac27cceac47b9bb80f26f72735f997db793cd0df23e86557ce04c10aa36975c", func := "burgeon/burgeonlaw10.WalkNext", spec := "walkNext", unfollowed := true, recurses := true, apart := false, narrowed := true }
def WalkNextUptoSaid : Prop := walkNextUptoRow.holds Try.pinned (OpenSpec.upto walkNextSpec)

/-- 'burgeonlaw10.WalkPuts', WHERE WHAT IT READS IS OF BULK AT MOST 1048576: true; the input reads as it did. -/
def walkPutsUptoRow : OpenClaim := { program := "ytbfjobmebkhblaa", sum := "aac27cceac47b9bb80f26f72735f997db793cd0df23e86557ce04c10aa36975c", func := "burgeon/burgeonlaw10.WalkPuts", spec := "walkPuts", unfollowed := true, recurses := true, apart := false, narrowed := true }
def WalkPutsUptoSaid : Prop := walkPutsUptoRow.holds Try.pinned (OpenSpec.upto walkPutsSpec)

/-- 'burgeonlaw10.WalkTells', WHERE WHAT IT READS IS OF BULK AT MOST 1048576: true; the input reads as it did. -/
def walkTellsUptoRow : OpenClaim := { program := "ytbfjobmebkhblaa", sum := "aac27cceac47b9bb80f26f72735f997db793cd0df23e86557ce04c10aa36975c", func := "burgeon/burgeonlaw10.WalkTells", spec := "walkTells", unfollowed := true, recurses := true, apart := false, narrowed := true }
def WalkTellsUptoSaid : Prop := walkTellsUptoRow.holds Try.pinned (OpenSpec.upto walkTellsSpec)

/-- 'burgeonlaw10.WalkSteps', WHERE WHAT IT READS IS OF BULK AT MOST 1048576: true; the input reads as it did. -/
def walkStepsUptoRow : OpenClaim := { program := "ytbfjobmebkhblaa", sum := "aac27cceac47b9bb80f26f72735f997db793cd0df23e86557ce04c10aa36975c", func := "burgeon/burgeonlaw10.WalkSteps", spec := "walkSteps", unfollowed := true, recurses := true, apart := false, narrowed := true }
def WalkStepsUptoSaid : Prop := walkStepsUptoRow.holds Try.pinned (OpenSpec.upto walkStepsSpec)

/-- 'burgeonlaw09.HamtShape', WHERE WHAT IT READS IS OF BULK AT MOST 1048576: true; the input reads as it did. -/
def hamtShapeUptoRow : OpenClaim := { program := "ytbfjobmebkhblaa", sum := "aac27cceac47b9bb80f26f72735f997db793cd0df23e86557ce04c10aa36975c", func := "burgeon/burgeonlaw09.HamtShape", spec := "hamtShape", inPlace := ["slices.overlaps[burgeon/api.Ref]"], unfollowed := true, recurses := true, apart := false, narrowed := true }
def HamtShapeUptoSaid : Prop := hamtShapeUptoRow.holds Try.pinned (OpenSpec.upto hamtShapeSpec)

/-- 'burgeonlaw09.HamtCrowds', WHERE WHAT IT READS IS OF BULK AT MOST 1048576: true; the input reads as it did. -/
def hamtCrowdsUptoRow : OpenClaim := { program := "ytbfjobmebkhblaa", sum := "aac27cceac47b9bb80f26f72735f997db793cd0df23e86557ce04c10aa36975c", func := "burgeon/burgeonlaw09.HamtCrowds", spec := "hamtCrowds", inPlace := ["slices.overlaps[burgeon/api.Ref]"], unfollowed := true, recurses := true, apart := false, narrowed := true }
def HamtCrowdsUptoSaid : Prop := hamtCrowdsUptoRow.holds Try.pinned (OpenSpec.upto hamtCrowdsSpec)

/-- 'burgeonlaw09.HamtMakes', WHERE WHAT IT READS IS OF BULK AT MOST 1048576: true; the input reads as it did. -/
def hamtMakesUptoRow : OpenClaim := { program := "ytbfjobmebkhblaa", sum := "aac27cceac47b9bb80f26f72735f997db793cd0df23e86557ce04c10aa36975c", func := "burgeon/burgeonlaw09.HamtMakes", spec := "hamtMakes", inPlace := ["slices.overlaps[burgeon/api.Ref]"], unfollowed := true, recurses := true, apart := false, narrowed := true }
def HamtMakesUptoSaid : Prop := hamtMakesUptoRow.holds Try.pinned (OpenSpec.upto hamtMakesSpec)

/-- 'burgeonlaw09.HamtKeeps', WHERE WHAT IT READS IS OF BULK AT MOST 1048576: true; the input reads as it did. -/
def hamtKeepsUptoRow : OpenClaim := { program := "ytbfjobmebkhblaa", sum := "aac27cceac47b9bb80f26f72735f997db793cd0df23e86557ce04c10aa36975c", func := "burgeon/burgeonlaw09.HamtKeeps", spec := "hamtKeeps", inPlace := ["slices.overlaps[burgeon/api.Ref]"], unfollowed := true, recurses := true, apart := false, narrowed := true }
def HamtKeepsUptoSaid : Prop := hamtKeepsUptoRow.holds Try.pinned (OpenSpec.upto hamtKeepsSpec)

/-- 'burgeonlaw09.HamtTells', WHERE WHAT IT READS IS OF BULK AT MOST 1048576: true; the input reads as it did. -/
def hamtTellsUptoRow : OpenClaim := { program := "ytbfjobmebkhblaa", sum := "aac27cceac47b9bb80f26f72735f997db793cd0df23e86557ce04c10aa36975c", func := "burgeon/burgeonlaw09.HamtTells", spec := "hamtTells", inPlace := ["slices.overlaps[burgeon/api.Ref]"], unfollowed := true, recurses := true, apart := false, narrowed := true }
def HamtTellsUptoSaid : Prop := hamtTellsUptoRow.holds Try.pinned (OpenSpec.upto hamtTellsSpec)

/-- 'burgeonlaw09.HamtAgain', WHERE WHAT IT READS IS OF BULK AT MOST 1048576: true; the input reads as it did. -/
def hamtAgainUptoRow : OpenClaim := { program := "ytbfjobmebkhblaa", sum := "aac27cceac47b9bb80f26f72735f997db793cd0df23e86557ce04c10aa36975c", func := "burgeon/burgeonlaw09.HamtAgain", spec := "hamtAgain", inPlace := ["slices.overlaps[burgeon/api.Ref]"], unfollowed := true, recurses := true, apart := false, narrowed := true }
def HamtAgainUptoSaid : Prop := hamtAgainUptoRow.holds Try.pinned (OpenSpec.upto hamtAgainSpec)

end Rows
end Go.Proofs.Ytbfjobmebkhblaa
