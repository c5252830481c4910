/-
  No cell of these rows narrows 'for every input' (looked for: loops, veiled, ifaces, maps, wideKeys, modest, calm, conditions, laid).
  DERIVED. THE GIVEN ROWS OF THIS SEAT. 7 by the template 'for every input the law returns true; each argument reads behind the call as it read before'; 0 by the template 'total and deterministic' (their statements: YtfiijpfpibokaaaTotals.lean).
  GIVEN WITH THE SEED: the statements are not yours to turn. If you find one false, say at which input.
  Laid BY PROGRAM, IN A SANDBOX (cutbox-rows.mjs): the forced cells as the released guide's own fill.sh prints them over the translation 22592ebcaccf8995… (all of the seat's roots in one cut). By AI agents, Wed Nov 11 2026. No macro, syntax, notation, axiom, sorry.
-/
import Derived.Test.YtfiijpfpibokaaaChecked
import GoSem.Claim
import GoSem.ClaimJoined
import GoSem.ClaimMapViews
import Derived.JoinedTies
import Derived.KernelRfl
namespace Go.Proofs.Ytfiijpfpibokaaa
/- THE CELL 'sum', in the pinned program and in every row, IS THE sha256 OF THE DUMP (.gsa) THAT YtfiijpfpibokaaaProg.lean LOADS. Nothing in Lean hashes anything: it is a label: what it is worth is what the hold of that sum in a sandbox is worth. -/
noncomputable def Try.pinned : Pinned := { name := "ytfiijpfpibokaaa", sum := "22592ebcaccf8995a48da0aae51530bc149cd7936e25e0f64ca0b7a2986aab4b", checked := Try.checked }
namespace Rows
def none {H : Type} : Left H := { results := [], args := [] }

/-- 'shroudlaw05.ShamirOpens': WHATEVER THE INPUT: true; the input reads as it did. -/
def shamirOpensSpec : ChangeSpec := { name := "shamirOpens", fn := fun _ => fun
  | [d1, d2, d3, d4] => { results := [.lit (.bool true)], args := [d1, d2, d3, d4] }
  | _ => none }
def shamirOpensRow : OpenClaim := { program := "ytfiijpfpibokaaa", sum := "22592ebcaccf8995a48da0aae51530bc149cd7936e25e0f64ca0b7a2986aab4b", func := "shroud/shroudlaw05.ShamirOpens", spec := "shamirOpens", unfollowed := true, recurses := true, apart := false }
def ShamirOpensSaid : Prop := shamirOpensRow.holds Try.pinned (OpenSpec.ofChange shamirOpensSpec)

/-- ITS FALSE NEIGHBOUR: 'it returns false'. Refute it at one input. -/
def shamirOpensWrong : ChangeSpec := { name := "shamirOpens", fn := fun _ => fun
  | [d1, d2, d3, d4] => { results := [.lit (.bool false)], args := [d1, d2, d3, d4] }
  | _ => none }
def ShamirOpensWrongFalsely : Prop := shamirOpensRow.holds Try.pinned (OpenSpec.ofChange shamirOpensWrong)

/-- 'shroudlaw05.ShamirBack': WHATEVER THE INPUT: true; the input reads as it did. -/
def shamirBackSpec : ChangeSpec := { name := "shamirBack", fn := fun _ => fun
  | [d1, d2, d3, d4, d5, d6] => { results := [.lit (.bool true)], args := [d1, d2, d3, d4, d5, d6] }
  | _ => none }
def shamirBackRow : OpenClaim := { program := "ytfiijpfpibokaaa", sum := "22592ebcaccf8995a48da0aae51530bc149cd7936e25e0f64ca0b7a2986aab4b", func := "shroud/shroudlaw05.ShamirBack", spec := "shamirBack", unfollowed := true, recurses := true, apart := false }
def ShamirBackSaid : Prop := shamirBackRow.holds Try.pinned (OpenSpec.ofChange shamirBackSpec)

/-- ITS FALSE NEIGHBOUR: 'it returns false'. Refute it at one input. -/
def shamirBackWrong : ChangeSpec := { name := "shamirBack", fn := fun _ => fun
  | [d1, d2, d3, d4, d5, d6] => { results := [.lit (.bool false)], args := [d1, d2, d3, d4, d5, d6] }
  | _ => none }
def ShamirBackWrongFalsely : Prop := shamirBackRow.holds Try.pinned (OpenSpec.ofChange shamirBackWrong)

/-- 'shroudlaw05.ShamirSums': WHATEVER THE INPUT: true; the input reads as it did. -/
def shamirSumsSpec : ChangeSpec := { name := "shamirSums", fn := fun _ => fun
  | [d1, d2, d3, d4, d5, d6] => { results := [.lit (.bool true)], args := [d1, d2, d3, d4, d5, d6] }
  | _ => none }
def shamirSumsRow : OpenClaim := { program := "ytfiijpfpibokaaa", sum := "22592ebcaccf8995a48da0aae51530bc149cd7936e25e0f64ca0b7a2986aab4b", func := "shroud/shroudlaw05.ShamirSums", spec := "shamirSums", unfollowed := true, recurses := true, apart := false }
def ShamirSumsSaid : Prop := shamirSumsRow.holds Try.pinned (OpenSpec.ofChange shamirSumsSpec)

/-- ITS FALSE NEIGHBOUR: 'it returns false'. Refute it at one input. -/
def shamirSumsWrong : ChangeSpec := { name := "shamirSums", fn := fun _ => fun
  | [d1, d2, d3, d4, d5, d6] => { results := [.lit (.bool false)], args := [d1, d2, d3, d4, d5, d6] }
  | _ => none }
def ShamirSumsWrongFalsely : Prop := shamirSumsRow.holds Try.pinned (OpenSpec.ofChange shamirSumsWrong)

/-- 'shroudlaw05.ShamirAlone': WHATEVER THE INPUT: true; the input reads as it did. -/
def shamirAloneSpec : ChangeSpec := { name := "shamirAlone", fn := fun _ => fun
  | [d1, d2] => { results := [.lit (.bool true)], args := [d1, d2] }
  | _ => none }
def shamirAloneRow : OpenClaim := { program := "ytfiijpfpibokaaa", sum := "22592ebcaccf8995a48da0aae51530bc149cd7936e25e0f64ca0b7a2986aab4b", func := "shroud/shroudlaw05.ShamirAlone", spec := "shamirAlone", unfollowed := true, recurses := true, apart := false }
def ShamirAloneSaid : Prop := shamirAloneRow.holds Try.pinned (OpenSpec.ofChange shamirAloneSpec)

/-- ITS FALSE NEIGHBOUR: 'it returns false'. Refute it at one input. -/
def shamirAloneWrong : ChangeSpec := { name := "shamirAlone", fn := fun _ => fun
  | [d1, d2] => { results := [.lit (.bool false)], args := [d1, d2] }
  | _ => none }
def ShamirAloneWrongFalsely : Prop := shamirAloneRow.holds Try.pinned (OpenSpec.ofChange shamirAloneWrong)

/-- 'shroudlaw05.ShamirFew': WHATEVER THE INPUT: true; the input reads as it did. -/
def shamirFewSpec : ChangeSpec := { name := "shamirFew", fn := fun _ => fun
  | [d1, d2, d3, d4] => { results := [.lit (.bool true)], args := [d1, d2, d3, d4] }
  | _ => none }
def shamirFewRow : OpenClaim := { program := "ytfiijpfpibokaaa", sum := "22592ebcaccf8995a48da0aae51530bc149cd7936e25e0f64ca0b7a2986aab4b", func := "shroud/shroudlaw05.ShamirFew", spec := "shamirFew", unfollowed := true, recurses := true, apart := false }
def ShamirFewSaid : Prop := shamirFewRow.holds Try.pinned (OpenSpec.ofChange shamirFewSpec)

/-- ITS FALSE NEIGHBOUR: 'it returns false'. Refute it at one input. -/
def shamirFewWrong : ChangeSpec := { name := "shamirFew", fn := fun _ => fun
  | [d1, d2, d3, d4] => { results := [.lit (.bool false)], args := [d1, d2, d3, d4] }
  | _ => none }
def ShamirFewWrongFalsely : Prop := shamirFewRow.holds Try.pinned (OpenSpec.ofChange shamirFewWrong)

/-- 'shroudlaw05.ShamirShort': WHATEVER THE INPUT: true; the input reads as it did. -/
def shamirShortSpec : ChangeSpec := { name := "shamirShort", fn := fun _ => fun
  | [d1, d2, d3, d4, d5] => { results := [.lit (.bool true)], args := [d1, d2, d3, d4, d5] }
  | _ => none }
def shamirShortRow : OpenClaim := { program := "ytfiijpfpibokaaa", sum := "22592ebcaccf8995a48da0aae51530bc149cd7936e25e0f64ca0b7a2986aab4b", func := "shroud/shroudlaw05.ShamirShort", spec := "shamirShort", unfollowed := true, recurses := true, apart := false }
def ShamirShortSaid : Prop := shamirShortRow.holds Try.pinned (OpenSpec.ofChange shamirShortSpec)

/-- ITS FALSE NEIGHBOUR: 'it returns false'. Refute it at one input. -/
def shamirShortWrong : ChangeSpec := { name := "shamirShort", fn := fun _ => fun
  | [d1, d2, d3, d4, d5] => { results := [.lit (.bool false)], args := [d1, d2, d3, d4, d5] }
  | _ => none }
def ShamirShortWrongFalsely : Prop := shamirShortRow.holds Try.pinned (OpenSpec.ofChange shamirShortWrong)

/-- 'shroudlaw05.ShamirDeals': WHATEVER THE INPUT: true; the input reads as it did. -/
def shamirDealsSpec : ChangeSpec := { name := "shamirDeals", fn := fun _ => fun
  | [d1, d2, d3, d4, d5] => { results := [.lit (.bool true)], args := [d1, d2, d3, d4, d5] }
  | _ => none }
def shamirDealsRow : OpenClaim := { program := "ytfiijpfpibokaaa", sum := "22592ebcaccf8995a48da0aae51530bc149cd7936e25e0f64ca0b7a2986aab4b", func := "shroud/shroudlaw05.ShamirDeals", spec := "shamirDeals", unfollowed := true, recurses := true, apart := false }
def ShamirDealsSaid : Prop := shamirDealsRow.holds Try.pinned (OpenSpec.ofChange shamirDealsSpec)

/-- ITS FALSE NEIGHBOUR: 'it returns false'. Refute it at one input. -/
def shamirDealsWrong : ChangeSpec := { name := "shamirDeals", fn := fun _ => fun
  | [d1, d2, d3, d4, d5] => { results := [.lit (.bool false)], args := [d1, d2, d3, d4, d5] }
  | _ => none }
def ShamirDealsWrongFalsely : Prop := shamirDealsRow.holds Try.pinned (OpenSpec.ofChange shamirDealsWrong)

/- THE SECOND FORM. 'bulk': how many values and letters a reading holds, each counted each time it is reached (what is shared counts as often as it is met; a slice's spare places count too). A statement '..UptoSaid' is the law's where the arguments, and the package variables that the reading takes, are together of bulk at most 1048576: NARROWER than '..Said'. Prove '..Said' where nothing that the law and all that it calls make is longer than what came in: it says more and counts as full. Else prove '..UptoSaid'. A law counts once. -/
mutual
def uptoBulk {H : Type} : DataW H → Nat
  | .lit (.string bytes) => bytes.length + 1
  | .lit _ => 1
  | .nil => 1
  | .ptr d => uptoBulk d + 1
  | .slice elems spare => uptoBulkAll elems + uptoBulkAll spare + 1
  | .agg parts => uptoBulkAll parts + 1
  | .iface _ d => uptoBulk d + 1
  | .map entries => uptoBulkEntries entries + 1
  | .held _ => 1
def uptoBulkAll {H : Type} : List (DataW H) → Nat
  | [] => 0
  | d :: r => uptoBulk d + uptoBulkAll r
def uptoBulkEntries {H : Type} : List (Lit × DataW H) → Nat
  | [] => 0
  | x :: r => uptoBulkEntry x + uptoBulkEntries r
def uptoBulkEntry {H : Type} : Lit × DataW H → Nat
  | (.string bytes, d) => bytes.length + uptoBulk d + 1
  | (_, d) => uptoBulk d + 1
 end
def uptoSmall : (H : Type) → List (DataW H) → Bool := fun _ ds => decide (uptoBulkAll ds ≤ 1048576)
def OpenSpec.upto (s : _root_.Go.ChangeSpec) : _root_.Go.OpenSpec := { _root_.Go.OpenSpec.ofChange s with cond := some uptoSmall }

/-- 'shroudlaw05.ShamirOpens', WHERE WHAT IT READS IS OF BULK AT MOST 1048576: true; the input reads as it did. -/
def shamirOpensUptoRow : OpenClaim := { program := "ytfiijpfpibokaaa", sum := "22592ebcaccf8995a48da0aae51530bc149cd7936e25e0f64ca0b7a2986aab4b", func := "shroud/shroudlaw05.ShamirOpens", spec := "shamirOpens", unfollowed := true, recurses := true, apart := false, narrowed := true }
def ShamirOpensUptoSaid : Prop := shamirOpensUptoRow.holds Try.pinned (OpenSpec.upto shamirOpensSpec)

/-- 'shroudlaw05.ShamirBack', WHERE WHAT IT READS IS OF BULK AT MOST 1048576: true; the input reads as it did. -/
def shamirBackUptoRow : OpenClaim := { program := "ytfiijpfpibokaaa", sum := "22592ebcaccf8995a48da0aae51530bc149cd7936e25e0f64ca0b7a2986aab4b", func := "shroud/shroudlaw05.ShamirBack", spec := "shamirBack", unfollowed := true, recurses := true, apart := false, narrowed := true }
def ShamirBackUptoSaid : Prop := shamirBackUptoRow.holds Try.pinned (OpenSpec.upto shamirBackSpec)

/-- 'shroudlaw05.ShamirSums', WHERE WHAT IT READS IS OF BULK AT MOST 1048576: true; the input reads as it did. -/
def shamirSumsUptoRow : OpenClaim := { program := "ytfiijpfpibokaaa", sum := "22592ebcaccf8995a48da0aae51530bc149cd7936e25e0f64ca0b7a2986aab4b", func := "shroud/shroudlaw05.ShamirSums", spec := "shamirSums", unfollowed := true, recurses := true, apart := false, narrowed := true }
def ShamirSumsUptoSaid : Prop := shamirSumsUptoRow.holds Try.pinned (OpenSpec.upto shamirSumsSpec)

/-- 'shroudlaw05.ShamirAlone', WHERE WHAT IT READS IS OF BULK AT MOST 1048576: true; the input reads as it did. -/
def shamirAloneUptoRow : OpenClaim := { program := "ytfiijpfpibokaaa", sum := "22592ebcaccf8995a48da0aae51530bc149cd7936e25e0f64ca0b7a2986aab4b", func := "shroud/shroudlaw05.ShamirAlone", spec := "shamirAlone", unfollowed := true, recurses := true, apart := false, narrowed := true }
def ShamirAloneUptoSaid : Prop := shamirAloneUptoRow.holds Try.pinned (OpenSpec.upto shamirAloneSpec)

/-- 'shroudlaw05.ShamirFew', WHERE WHAT IT READS IS OF BULK AT MOST 1048576: true; the input reads as it did. -/
def shamirFewUptoRow : OpenClaim := { program := "ytfiijpfpibokaaa", sum := "22592ebcaccf8995a48da0aae51530bc149cd7936e25e0f64ca0b7a2986aab4b", func := "shroud/shroudlaw05.ShamirFew", spec := "shamirFew", unfollowed := true, recurses := true, apart := false, narrowed := true }
def ShamirFewUptoSaid : Prop := shamirFewUptoRow.holds Try.pinned (OpenSpec.upto shamirFewSpec)

/-- 'shroudlaw05.ShamirShort', WHERE WHAT IT READS IS OF BULK AT MOST 1048576: true; the input reads as it did. -/
def shamirShortUptoRow : OpenClaim := { program := "ytfiijpfpibokaaa", sum := "22592ebcaccf8995a48da0aae51530bc149cd7936e25e0f64ca0b7a2986aab4b", func := "shroud/shroudlaw05.ShamirShort", spec := "shamirShort", unfollowed := true, recurses := true, apart := false, narrowed := true }
def ShamirShortUptoSaid : Prop := shamirShortUptoRow.holds Try.pinned (OpenSpec.upto shamirShortSpec)

/-- 'shroudlaw05.ShamirDeals', WHERE WHAT IT READS IS OF BULK AT MOST 1048576: true; the input reads as it did. -/
def shamirDealsUptoRow : OpenClaim := { program := "ytfiijpfpibokaaa", sum := "22592ebcaccf8995a48da0aae51530bc149cd7936e25e0f64ca0b7a2986aab4b", func := "shroud/shroudlaw05.ShamirDeals", spec := "shamirDeals", unfollowed := true, recurses := true, apart := false, narrowed := true }
def ShamirDealsUptoSaid : Prop := shamirDealsUptoRow.holds Try.pinned (OpenSpec.upto shamirDealsSpec)

end Rows
end Go.Proofs.Ytfiijpfpibokaaa
