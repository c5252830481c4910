/-
  No cell of these rows narrows 'for every input' (looked for: loops, veiled, ifaces, maps, wideKeys, modest, calm, conditions, laid).
  DERIVED. THE GIVEN ROWS OF THIS SEAT. 7 by the template 'for every input the law returns true; each argument reads behind the call as it read before'; 0 by the template 'total and deterministic' (their statements: YtmhokppfpmnhaaaTotals.lean).
  GIVEN WITH THE SEED: the statements are not yours to turn. If you find one false, say at which input.
  Laid BY PROGRAM, IN A SANDBOX (cutbox-rows.mjs): the forced cells as the released guide's own fill.sh prints them over the translation 101073e444690eb2… (all of the seat's roots in one cut). By AI agents, Wed Nov 11 2026. No macro, syntax, notation, axiom, sorry.
-/
import Derived.Test.YtmhokppfpmnhaaaChecked
import GoSem.Claim
import GoSem.ClaimJoined
import GoSem.ClaimMapViews
import Derived.JoinedTies
import Derived.KernelRfl
namespace Go.Proofs.Ytmhokppfpmnhaaa
/- THE CELL 'sum', in the pinned program and in every row, IS THE sha256 OF THE DUMP (.gsa) THAT YtmhokppfpmnhaaaProg.lean LOADS. Nothing in Lean hashes anything: it is a label: what it is worth is what the hold of that sum in a sandbox is worth. -/
noncomputable def Try.pinned : Pinned := { name := "ytmhokppfpmnhaaa", sum := "101073e444690eb2563ea23b1bfdd1c9f24bede085df91054d67400a4e5cb1c1", checked := Try.checked }
namespace Rows
def none {H : Type} : Left H := { results := [], args := [] }

/-- 'shroudlaw01.GfField': WHATEVER THE INPUT: true; the input reads as it did. -/
def gfFieldSpec : ChangeSpec := { name := "gfField", fn := fun _ => fun
  | [d1, d2, d3] => { results := [.lit (.bool true)], args := [d1, d2, d3] }
  | _ => none }
def gfFieldRow : OpenClaim := { program := "ytmhokppfpmnhaaa", sum := "101073e444690eb2563ea23b1bfdd1c9f24bede085df91054d67400a4e5cb1c1", func := "shroud/shroudlaw01.GfField", spec := "gfField", apart := false }
def GfFieldSaid : Prop := gfFieldRow.holds Try.pinned (OpenSpec.ofChange gfFieldSpec)

/-- ITS FALSE NEIGHBOUR: 'it returns false'. Refute it at one input. -/
def gfFieldWrong : ChangeSpec := { name := "gfField", fn := fun _ => fun
  | [d1, d2, d3] => { results := [.lit (.bool false)], args := [d1, d2, d3] }
  | _ => none }
def GfFieldWrongFalsely : Prop := gfFieldRow.holds Try.pinned (OpenSpec.ofChange gfFieldWrong)

/-- 'shroudlaw01.GfDivides': WHATEVER THE INPUT: true; the input reads as it did. -/
def gfDividesSpec : ChangeSpec := { name := "gfDivides", fn := fun _ => fun
  | [d1, d2] => { results := [.lit (.bool true)], args := [d1, d2] }
  | _ => none }
def gfDividesRow : OpenClaim := { program := "ytmhokppfpmnhaaa", sum := "101073e444690eb2563ea23b1bfdd1c9f24bede085df91054d67400a4e5cb1c1", func := "shroud/shroudlaw01.GfDivides", spec := "gfDivides", apart := false }
def GfDividesSaid : Prop := gfDividesRow.holds Try.pinned (OpenSpec.ofChange gfDividesSpec)

/-- ITS FALSE NEIGHBOUR: 'it returns false'. Refute it at one input. -/
def gfDividesWrong : ChangeSpec := { name := "gfDivides", fn := fun _ => fun
  | [d1, d2] => { results := [.lit (.bool false)], args := [d1, d2] }
  | _ => none }
def GfDividesWrongFalsely : Prop := gfDividesRow.holds Try.pinned (OpenSpec.ofChange gfDividesWrong)

/-- 'shroudlaw01.GfSquares': WHATEVER THE INPUT: true; the input reads as it did. -/
def gfSquaresSpec : ChangeSpec := { name := "gfSquares", fn := fun _ => fun
  | [d1, d2] => { results := [.lit (.bool true)], args := [d1, d2] }
  | _ => none }
def gfSquaresRow : OpenClaim := { program := "ytmhokppfpmnhaaa", sum := "101073e444690eb2563ea23b1bfdd1c9f24bede085df91054d67400a4e5cb1c1", func := "shroud/shroudlaw01.GfSquares", spec := "gfSquares", apart := false }
def GfSquaresSaid : Prop := gfSquaresRow.holds Try.pinned (OpenSpec.ofChange gfSquaresSpec)

/-- ITS FALSE NEIGHBOUR: 'it returns false'. Refute it at one input. -/
def gfSquaresWrong : ChangeSpec := { name := "gfSquares", fn := fun _ => fun
  | [d1, d2] => { results := [.lit (.bool false)], args := [d1, d2] }
  | _ => none }
def GfSquaresWrongFalsely : Prop := gfSquaresRow.holds Try.pinned (OpenSpec.ofChange gfSquaresWrong)

/-- 'shroudlaw01.GfTells': WHATEVER THE INPUT: true; the input reads as it did. -/
def gfTellsSpec : ChangeSpec := { name := "gfTells", fn := fun _ => fun
  | [d1, d2, d3] => { results := [.lit (.bool true)], args := [d1, d2, d3] }
  | _ => none }
def gfTellsRow : OpenClaim := { program := "ytmhokppfpmnhaaa", sum := "101073e444690eb2563ea23b1bfdd1c9f24bede085df91054d67400a4e5cb1c1", func := "shroud/shroudlaw01.GfTells", spec := "gfTells", apart := false }
def GfTellsSaid : Prop := gfTellsRow.holds Try.pinned (OpenSpec.ofChange gfTellsSpec)

/-- ITS FALSE NEIGHBOUR: 'it returns false'. Refute it at one input. -/
def gfTellsWrong : ChangeSpec := { name := "gfTells", fn := fun _ => fun
  | [d1, d2, d3] => { results := [.lit (.bool false)], args := [d1, d2, d3] }
  | _ => none }
def GfTellsWrongFalsely : Prop := gfTellsRow.holds Try.pinned (OpenSpec.ofChange gfTellsWrong)

/-- 'shroudlaw01.GfPowers': WHATEVER THE INPUT: true; the input reads as it did. -/
def gfPowersSpec : ChangeSpec := { name := "gfPowers", fn := fun _ => fun
  | [d1, d2, d3] => { results := [.lit (.bool true)], args := [d1, d2, d3] }
  | _ => none }
def gfPowersRow : OpenClaim := { program := "ytmhokppfpmnhaaa", sum := "101073e444690eb2563ea23b1bfdd1c9f24bede085df91054d67400a4e5cb1c1", func := "shroud/shroudlaw01.GfPowers", spec := "gfPowers", apart := false }
def GfPowersSaid : Prop := gfPowersRow.holds Try.pinned (OpenSpec.ofChange gfPowersSpec)

/-- ITS FALSE NEIGHBOUR: 'it returns false'. Refute it at one input. -/
def gfPowersWrong : ChangeSpec := { name := "gfPowers", fn := fun _ => fun
  | [d1, d2, d3] => { results := [.lit (.bool false)], args := [d1, d2, d3] }
  | _ => none }
def GfPowersWrongFalsely : Prop := gfPowersRow.holds Try.pinned (OpenSpec.ofChange gfPowersWrong)

/-- 'shroudlaw01.GfNil': WHATEVER THE INPUT: true; the input reads as it did. -/
def gfNilSpec : ChangeSpec := { name := "gfNil", fn := fun _ => fun
  | [d1, d2, d3] => { results := [.lit (.bool true)], args := [d1, d2, d3] }
  | _ => none }
def gfNilRow : OpenClaim := { program := "ytmhokppfpmnhaaa", sum := "101073e444690eb2563ea23b1bfdd1c9f24bede085df91054d67400a4e5cb1c1", func := "shroud/shroudlaw01.GfNil", spec := "gfNil", apart := false }
def GfNilSaid : Prop := gfNilRow.holds Try.pinned (OpenSpec.ofChange gfNilSpec)

/-- ITS FALSE NEIGHBOUR: 'it returns false'. Refute it at one input. -/
def gfNilWrong : ChangeSpec := { name := "gfNil", fn := fun _ => fun
  | [d1, d2, d3] => { results := [.lit (.bool false)], args := [d1, d2, d3] }
  | _ => none }
def GfNilWrongFalsely : Prop := gfNilRow.holds Try.pinned (OpenSpec.ofChange gfNilWrong)

/-- 'shroudlaw01.GfLogs': WHATEVER THE INPUT: true; the input reads as it did. -/
def gfLogsSpec : ChangeSpec := { name := "gfLogs", fn := fun _ => fun
  | [d1, d2, d3] => { results := [.lit (.bool true)], args := [d1, d2, d3] }
  | _ => none }
def gfLogsRow : OpenClaim := { program := "ytmhokppfpmnhaaa", sum := "101073e444690eb2563ea23b1bfdd1c9f24bede085df91054d67400a4e5cb1c1", func := "shroud/shroudlaw01.GfLogs", spec := "gfLogs", apart := false }
def GfLogsSaid : Prop := gfLogsRow.holds Try.pinned (OpenSpec.ofChange gfLogsSpec)

/-- ITS FALSE NEIGHBOUR: 'it returns false'. Refute it at one input. -/
def gfLogsWrong : ChangeSpec := { name := "gfLogs", fn := fun _ => fun
  | [d1, d2, d3] => { results := [.lit (.bool false)], args := [d1, d2, d3] }
  | _ => none }
def GfLogsWrongFalsely : Prop := gfLogsRow.holds Try.pinned (OpenSpec.ofChange gfLogsWrong)

/- THE SECOND FORM. 'bulk': how many values and letters a reading holds, each counted each time it is reached (what is shared counts as often as it is met; a slice's spare places count too). A statement '..UptoSaid' is the law's where the arguments, and the package variables that the reading takes, are together of bulk at most 1048576: NARROWER than '..Said'. Prove '..Said' where nothing that the law and all that it calls make is longer than what came in: it says more and counts as full. Else prove '..UptoSaid'. A law counts once. -/
mutual
def uptoBulk {H : Type} : DataW H → Nat
  | .lit (.string bytes) => bytes.length + 1
  | .lit _ => 1
  | .nil => 1
  | .ptr d => uptoBulk d + 1
  | .slice elems spare => uptoBulkAll elems + uptoBulkAll spare + 1
  | .agg parts => uptoBulkAll parts + 1
  | .iface _ d => uptoBulk d + 1
  | .map entries => uptoBulkEntries entries + 1
  | .held _ => 1
def uptoBulkAll {H : Type} : List (DataW H) → Nat
  | [] => 0
  | d :: r => uptoBulk d + uptoBulkAll r
def uptoBulkEntries {H : Type} : List (Lit × DataW H) → Nat
  | [] => 0
  | x :: r => uptoBulkEntry x + uptoBulkEntries r
def uptoBulkEntry {H : Type} : Lit × DataW H → Nat
  | (.string bytes, d) => bytes.length + uptoBulk d + 1
  | (_, d) => uptoBulk d + 1
 end
def uptoSmall : (H : Type) → List (DataW H) → Bool := fun _ ds => decide (uptoBulkAll ds ≤ 1048576)
def OpenSpec.upto (s : _root_.Go.ChangeSpec) : _root_.Go.OpenSpec := { _root_.Go.OpenSpec.ofChange s with cond := some uptoSmall }

/-- 'shroudlaw01.GfField', WHERE WHAT IT READS IS OF BULK AT MOST 1048576: true; the input reads as it did. -/
def gfFieldUptoRow : OpenClaim := { program := "ytmhokppfpmnhaaa", sum := "101073e444690eb2563ea23b1bfdd1c9f24bede085df91054d67400a4e5cb1c1", func := "shroud/shroudlaw01.GfField", spec := "gfField", apart := false, narrowed := true }
def GfFieldUptoSaid : Prop := gfFieldUptoRow.holds Try.pinned (OpenSpec.upto gfFieldSpec)

/-- 'shroudlaw01.GfDivides', WHERE WHAT IT READS IS OF BULK AT MOST 1048576: true; the input reads as it did. -/
def gfDividesUptoRow : OpenClaim := { program := "ytmhokppfpmnhaaa", sum := "101073e444690eb2563ea23b1bfdd1c9f24bede085df91054d67400a4e5cb1c1", func := "shroud/shroudlaw01.GfDivides", spec := "gfDivides", apart := false, narrowed := true }
def GfDividesUptoSaid : Prop := gfDividesUptoRow.holds Try.pinned (OpenSpec.upto gfDividesSpec)

/-- 'shroudlaw01.GfSquares', WHERE WHAT IT READS IS OF BULK AT MOST 1048576: true; the input reads as it did. -/
def gfSquaresUptoRow : OpenClaim := { program := "ytmhokppfpmnhaaa", sum := "101073e444690eb2563ea23b1bfdd1c9f24bede085df91054d67400a4e5cb1c1", func := "shroud/shroudlaw01.GfSquares", spec := "gfSquares", apart := false, narrowed := true }
def GfSquaresUptoSaid : Prop := gfSquaresUptoRow.holds Try.pinned (OpenSpec.upto gfSquaresSpec)

/-- 'shroudlaw01.GfTells', WHERE WHAT IT READS IS OF BULK AT MOST 1048576: true; the input reads as it did. -/
def gfTellsUptoRow : OpenClaim := { program := "ytmhokppfpmnhaaa", sum := "101073e444690eb2563ea23b1bfdd1c9f24bede085df91054d67400a4e5cb1c1", func := "shroud/shroudlaw01.GfTells", spec := "gfTells", apart := false, narrowed := true }
def GfTellsUptoSaid : Prop := gfTellsUptoRow.holds Try.pinned (OpenSpec.upto gfTellsSpec)

/-- 'shroudlaw01.GfPowers', WHERE WHAT IT READS IS OF BULK AT MOST 1048576: true; the input reads as it did. -/
def gfPowersUptoRow : OpenClaim := { program := "ytmhokppfpmnhaaa", sum := "101073e444690eb2563ea23b1bfdd1c9f24bede085df91054d67400a4e5cb1c1", func := "shroud/shroudlaw01.GfPowers", spec := "gfPowers", apart := false, narrowed := true }
def GfPowersUptoSaid : Prop := gfPowersUptoRow.holds Try.pinned (OpenSpec.upto gfPowersSpec)

/-- 'shroudlaw01.GfNil', WHERE WHAT IT READS IS OF BULK AT MOST 1048576: true; the input reads as it did. -/
def gfNilUptoRow : OpenClaim := { program := "ytmhokppfpmnhaaa", sum := "101073e444690eb2563ea23b1bfdd1c9f24bede085df91054d67400a4e5cb1c1", func := "shroud/shroudlaw01.GfNil", spec := "gfNil", apart := false, narrowed := true }
def GfNilUptoSaid : Prop := gfNilUptoRow.holds Try.pinned (OpenSpec.upto gfNilSpec)

/-- 'shroudlaw01.GfLogs', WHERE WHAT IT READS IS OF BULK AT MOST 1048576: true; the input reads as it did. -/
def gfLogsUptoRow : OpenClaim := { program := "ytmhokppfpmnhaaa", sum := "101073e444690eb2563ea23b1bfdd1c9f24bede085df91054d67400a4e5cb1c1", func := "shroud/shroudlaw01.GfLogs", spec := "gfLogs", apart := false, narrowed := true }
def GfLogsUptoSaid : Prop := gfLogsUptoRow.holds Try.pinned (OpenSpec.upto gfLogsSpec)

end Rows
end Go.Proofs.Ytmhokppfpmnhaaa
