/-
  No cell of these rows narrows 'for every input' (looked for: loops, veiled, ifaces, maps, wideKeys, modest, calm, conditions, laid).
  DERIVED. THE GIVEN ROWS OF THIS SEAT. 7 by the template 'for every input the law returns true; each argument reads behind the call as it read before'; 0 by the template 'total and deterministic' (their statements: YtmdlnafnlllfhaaTotals.lean).
  GIVEN WITH THE SEED: the statements are not yours to turn. If you find one false, say at which input.
  Laid BY PROGRAM, IN A SANDBOX (cutbox-rows.mjs): the forced cells as the released guide's own fill.sh prints them over the translation e52cd9a318c97ee5… (all of the seat's roots in one cut). By AI agents, Wed Nov 11 2026. No macro, syntax, notation, axiom, sorry.
-/
import Derived.Test.YtmdlnafnlllfhaaChecked
import GoSem.Claim
import GoSem.ClaimJoined
import GoSem.ClaimMapViews
import Derived.JoinedTies
import Derived.KernelRfl
namespace Go.Proofs.Ytmdlnafnlllfhaa
/- THE CELL 'sum', in the pinned program and in every row, IS THE sha256 OF THE DUMP (.gsa) THAT YtmdlnafnlllfhaaProg.lean LOADS. Nothing in Lean hashes anything: it is a label: what it is worth is what the hold of that sum in a sandbox is worth. -/
noncomputable def Try.pinned : Pinned := { name := "ytmdlnafnlllfhaa", sum := "e52cd9a318c97ee5065e913c82dd9fd99f1aaf9dfda616a16b3d738460f12195", checked := Try.checked }
namespace Rows
def none {H : Type} : Left H := { results := [], args := [] }

/-- 'shroudlaw03.SolveTells': WHATEVER THE INPUT: true; the input reads as it did. -/
def solveTellsSpec : ChangeSpec := { name := "solveTells", fn := fun _ => fun
  | [d] => { results := [.lit (.bool true)], args := [d] }
  | _ => none }
def solveTellsRow : OpenClaim := { program := "ytmdlnafnlllfhaa", sum := "e52cd9a318c97ee5065e913c82dd9fd99f1aaf9dfda616a16b3d738460f12195", func := "shroud/shroudlaw03.SolveTells", spec := "solveTells", apart := false }
def SolveTellsSaid : Prop := solveTellsRow.holds Try.pinned (OpenSpec.ofChange solveTellsSpec)

/-- ITS FALSE NEIGHBOUR: 'it returns false'. Refute it at one input. -/
def solveTellsWrong : ChangeSpec := { name := "solveTells", fn := fun _ => fun
  | [d] => { results := [.lit (.bool false)], args := [d] }
  | _ => none }
def SolveTellsWrongFalsely : Prop := solveTellsRow.holds Try.pinned (OpenSpec.ofChange solveTellsWrong)

/-- 'shroudlaw03.SolveSolves': WHATEVER THE INPUT: true; the input reads as it did. -/
def solveSolvesSpec : ChangeSpec := { name := "solveSolves", fn := fun _ => fun
  | [d1, d2] => { results := [.lit (.bool true)], args := [d1, d2] }
  | _ => none }
def solveSolvesRow : OpenClaim := { program := "ytmdlnafnlllfhaa", sum := "e52cd9a318c97ee5065e913c82dd9fd99f1aaf9dfda616a16b3d738460f12195", func := "shroud/shroudlaw03.SolveSolves", spec := "solveSolves", apart := false }
def SolveSolvesSaid : Prop := solveSolvesRow.holds Try.pinned (OpenSpec.ofChange solveSolvesSpec)

/-- ITS FALSE NEIGHBOUR: 'it returns false'. Refute it at one input. -/
def solveSolvesWrong : ChangeSpec := { name := "solveSolves", fn := fun _ => fun
  | [d1, d2] => { results := [.lit (.bool false)], args := [d1, d2] }
  | _ => none }
def SolveSolvesWrongFalsely : Prop := solveSolvesRow.holds Try.pinned (OpenSpec.ofChange solveSolvesWrong)

/-- 'shroudlaw03.SolveOrder': WHATEVER THE INPUT: true; the input reads as it did. -/
def solveOrderSpec : ChangeSpec := { name := "solveOrder", fn := fun _ => fun
  | [d1, d2] => { results := [.lit (.bool true)], args := [d1, d2] }
  | _ => none }
def solveOrderRow : OpenClaim := { program := "ytmdlnafnlllfhaa", sum := "e52cd9a318c97ee5065e913c82dd9fd99f1aaf9dfda616a16b3d738460f12195", func := "shroud/shroudlaw03.SolveOrder", spec := "solveOrder", apart := false }
def SolveOrderSaid : Prop := solveOrderRow.holds Try.pinned (OpenSpec.ofChange solveOrderSpec)

/-- ITS FALSE NEIGHBOUR: 'it returns false'. Refute it at one input. -/
def solveOrderWrong : ChangeSpec := { name := "solveOrder", fn := fun _ => fun
  | [d1, d2] => { results := [.lit (.bool false)], args := [d1, d2] }
  | _ => none }
def SolveOrderWrongFalsely : Prop := solveOrderRow.holds Try.pinned (OpenSpec.ofChange solveOrderWrong)

/-- 'shroudlaw03.SolveRanks': WHATEVER THE INPUT: true; the input reads as it did. -/
def solveRanksSpec : ChangeSpec := { name := "solveRanks", fn := fun _ => fun
  | [d1, d2, d3] => { results := [.lit (.bool true)], args := [d1, d2, d3] }
  | _ => none }
def solveRanksRow : OpenClaim := { program := "ytmdlnafnlllfhaa", sum := "e52cd9a318c97ee5065e913c82dd9fd99f1aaf9dfda616a16b3d738460f12195", func := "shroud/shroudlaw03.SolveRanks", spec := "solveRanks", apart := false }
def SolveRanksSaid : Prop := solveRanksRow.holds Try.pinned (OpenSpec.ofChange solveRanksSpec)

/-- ITS FALSE NEIGHBOUR: 'it returns false'. Refute it at one input. -/
def solveRanksWrong : ChangeSpec := { name := "solveRanks", fn := fun _ => fun
  | [d1, d2, d3] => { results := [.lit (.bool false)], args := [d1, d2, d3] }
  | _ => none }
def SolveRanksWrongFalsely : Prop := solveRanksRow.holds Try.pinned (OpenSpec.ofChange solveRanksWrong)

/-- 'shroudlaw03.SolveOwn': WHATEVER THE INPUT: true; the input reads as it did. -/
def solveOwnSpec : ChangeSpec := { name := "solveOwn", fn := fun _ => fun
  | [d] => { results := [.lit (.bool true)], args := [d] }
  | _ => none }
def solveOwnRow : OpenClaim := { program := "ytmdlnafnlllfhaa", sum := "e52cd9a318c97ee5065e913c82dd9fd99f1aaf9dfda616a16b3d738460f12195", func := "shroud/shroudlaw03.SolveOwn", spec := "solveOwn", apart := false }
def SolveOwnSaid : Prop := solveOwnRow.holds Try.pinned (OpenSpec.ofChange solveOwnSpec)

/-- ITS FALSE NEIGHBOUR: 'it returns false'. Refute it at one input. -/
def solveOwnWrong : ChangeSpec := { name := "solveOwn", fn := fun _ => fun
  | [d] => { results := [.lit (.bool false)], args := [d] }
  | _ => none }
def SolveOwnWrongFalsely : Prop := solveOwnRow.holds Try.pinned (OpenSpec.ofChange solveOwnWrong)

/-- 'shroudlaw03.SolveOdd': WHATEVER THE INPUT: true; the input reads as it did. -/
def solveOddSpec : ChangeSpec := { name := "solveOdd", fn := fun _ => fun
  | [d1, d2] => { results := [.lit (.bool true)], args := [d1, d2] }
  | _ => none }
def solveOddRow : OpenClaim := { program := "ytmdlnafnlllfhaa", sum := "e52cd9a318c97ee5065e913c82dd9fd99f1aaf9dfda616a16b3d738460f12195", func := "shroud/shroudlaw03.SolveOdd", spec := "solveOdd", apart := false }
def SolveOddSaid : Prop := solveOddRow.holds Try.pinned (OpenSpec.ofChange solveOddSpec)

/-- ITS FALSE NEIGHBOUR: 'it returns false'. Refute it at one input. -/
def solveOddWrong : ChangeSpec := { name := "solveOdd", fn := fun _ => fun
  | [d1, d2] => { results := [.lit (.bool false)], args := [d1, d2] }
  | _ => none }
def SolveOddWrongFalsely : Prop := solveOddRow.holds Try.pinned (OpenSpec.ofChange solveOddWrong)

/-- 'shroudlaw03.SolveMixes': WHATEVER THE INPUT: true; the input reads as it did. -/
def solveMixesSpec : ChangeSpec := { name := "solveMixes", fn := fun _ => fun
  | [d1, d2, d3, d4] => { results := [.lit (.bool true)], args := [d1, d2, d3, d4] }
  | _ => none }
def solveMixesRow : OpenClaim := { program := "ytmdlnafnlllfhaa", sum := "e52cd9a318c97ee5065e913c82dd9fd99f1aaf9dfda616a16b3d738460f12195", func := "shroud/shroudlaw03.SolveMixes", spec := "solveMixes", apart := false }
def SolveMixesSaid : Prop := solveMixesRow.holds Try.pinned (OpenSpec.ofChange solveMixesSpec)

/-- ITS FALSE NEIGHBOUR: 'it returns false'. Refute it at one input. -/
def solveMixesWrong : ChangeSpec := { name := "solveMixes", fn := fun _ => fun
  | [d1, d2, d3, d4] => { results := [.lit (.bool false)], args := [d1, d2, d3, d4] }
  | _ => none }
def SolveMixesWrongFalsely : Prop := solveMixesRow.holds Try.pinned (OpenSpec.ofChange solveMixesWrong)

/- THE SECOND FORM. 'bulk': how many values and letters a reading holds, each counted each time it is reached (what is shared counts as often as it is met; a slice's spare places count too). A statement '..UptoSaid' is the law's where the arguments, and the package variables that the reading takes, are together of bulk at most 1048576: NARROWER than '..Said'. Prove '..Said' where nothing that the law and all that it calls make is longer than what came in: it says more and counts as full. Else prove '..UptoSaid'. A law counts once. -/
mutual
def uptoBulk {H : Type} : DataW H → Nat
  | .lit (.string bytes) => bytes.length + 1
  | .lit _ => 1
  | .nil => 1
  | .ptr d => uptoBulk d + 1
  | .slice elems spare => uptoBulkAll elems + uptoBulkAll spare + 1
  | .agg parts => uptoBulkAll parts + 1
  | .iface _ d => uptoBulk d + 1
  | .map entries => uptoBulkEntries entries + 1
  | .held _ => 1
def uptoBulkAll {H : Type} : List (DataW H) → Nat
  | [] => 0
  | d :: r => uptoBulk d + uptoBulkAll r
def uptoBulkEntries {H : Type} : List (Lit × DataW H) → Nat
  | [] => 0
  | x :: r => uptoBulkEntry x + uptoBulkEntries r
def uptoBulkEntry {H : Type} : Lit × DataW H → Nat
  | (.string bytes, d) => bytes.length + uptoBulk d + 1
  | (_, d) => uptoBulk d + 1
 end
def uptoSmall : (H : Type) → List (DataW H) → Bool := fun _ ds => decide (uptoBulkAll ds ≤ 1048576)
def OpenSpec.upto (s : _root_.Go.ChangeSpec) : _root_.Go.OpenSpec := { _root_.Go.OpenSpec.ofChange s with cond := some uptoSmall }

/-- 'shroudlaw03.SolveTells', WHERE WHAT IT READS IS OF BULK AT MOST 1048576: true; the input reads as it did. -/
def solveTellsUptoRow : OpenClaim := { program := "ytmdlnafnlllfhaa", sum := "e52cd9a318c97ee5065e913c82dd9fd99f1aaf9dfda616a16b3d738460f12195", func := "shroud/shroudlaw03.SolveTells", spec := "solveTells", apart := false, narrowed := true }
def SolveTellsUptoSaid : Prop := solveTellsUptoRow.holds Try.pinned (OpenSpec.upto solveTellsSpec)

/-- 'shroudlaw03.SolveSolves', WHERE WHAT IT READS IS OF BULK AT MOST 1048576: true; the input reads as it did. -/
def solveSolvesUptoRow : OpenClaim := { program := "ytmdlnafnlllfhaa", sum := "e52cd9a318c97ee5065e913c82dd9fd99f1aaf9dfda616a16b3d738460f12195", func := "shroud/shroudlaw03.SolveSolves", spec := "solveSolves", apart := false, narrowed := true }
def SolveSolvesUptoSaid : Prop := solveSolvesUptoRow.holds Try.pinned (OpenSpec.upto solveSolvesSpec)

/-- 'shroudlaw03.SolveOrder', WHERE WHAT IT READS IS OF BULK AT MOST 1048576: true; the input reads as it did. -/
def solveOrderUptoRow : OpenClaim := { program := "ytmdlnafnlllfhaa", sum := "e52cd9a318c97ee5065e913c82dd9fd99f1aaf9dfda616a16b3d738460f12195", func := "shroud/shroudlaw03.SolveOrder", spec := "solveOrder", apart := false, narrowed := true }
def SolveOrderUptoSaid : Prop := solveOrderUptoRow.holds Try.pinned (OpenSpec.upto solveOrderSpec)

/-- 'shroudlaw03.SolveRanks', WHERE WHAT IT READS IS OF BULK AT MOST 1048576: true; the input reads as it did. -/
def solveRanksUptoRow : OpenClaim := { program := "ytmdlnafnlllfhaa", sum := "e52cd9a318c97ee5065e913c82dd9fd99f1aaf9dfda616a16b3d738460f12195", func := "shroud/shroudlaw03.SolveRanks", spec := "solveRanks", apart := false, narrowed := true }
def SolveRanksUptoSaid : Prop := solveRanksUptoRow.holds Try.pinned (OpenSpec.upto solveRanksSpec)

/-- 'shroudlaw03.SolveOwn', WHERE WHAT IT READS IS OF BULK AT MOST 1048576: true; the input reads as it did. -/
def solveOwnUptoRow : OpenClaim := { program := "ytmdlnafnlllfhaa", sum := "e52cd9a318c97ee5065e913c82dd9fd99f1aaf9dfda616a16b3d738460f12195", func := "shroud/shroudlaw03.SolveOwn", spec := "solveOwn", apart := false, narrowed := true }
def SolveOwnUptoSaid : Prop := solveOwnUptoRow.holds Try.pinned (OpenSpec.upto solveOwnSpec)

/-- 'shroudlaw03.SolveOdd', WHERE WHAT IT READS IS OF BULK AT MOST 1048576: true; the input reads as it did. -/
def solveOddUptoRow : OpenClaim := { program := "ytmdlnafnlllfhaa", sum := "e52cd9a318c97ee5065e913c82dd9fd99f1aaf9dfda616a16b3d738460f12195", func := "shroud/shroudlaw03.SolveOdd", spec := "solveOdd", apart := false, narrowed := true }
def SolveOddUptoSaid : Prop := solveOddUptoRow.holds Try.pinned (OpenSpec.upto solveOddSpec)

/-- 'shroudlaw03.SolveMixes', WHERE WHAT IT READS IS OF BULK AT MOST 1048576: true; the input reads as it did. -/
def solveMixesUptoRow : OpenClaim := { program := "ytmdlnafnlllfhaa", sum := "e52cd9a318c97ee5065e913c82dd9fd99f1aaf9dfda616a16b3d738460f12195", func := "shroud/shroudlaw03.SolveMixes", spec := "solveMixes", apart := false, narrowed := true }
def SolveMixesUptoSaid : Prop := solveMixesUptoRow.holds Try.pinned (OpenSpec.upto solveMixesSpec)

end Rows
end Go.Proofs.Ytmdlnafnlllfhaa
