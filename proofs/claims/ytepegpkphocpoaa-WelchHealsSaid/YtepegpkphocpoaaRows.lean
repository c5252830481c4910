/-
  No cell of these rows narrows 'for every input' (looked for: loops, veiled, ifaces, maps, wideKeys, modest, calm, conditions, laid).
  DERIVED. THE GIVEN ROWS OF THIS SEAT. 6 by the template 'for every input the law returns true; each argument reads behind the call as it read before'; 0 by the template 'total and deterministic' (their statements: YtepegpkphocpoaaTotals.lean).
  GIVEN WITH THE SEED: the statements are not yours to turn. If you find one false, say at which input.
  Laid BY PROGRAM, IN A SANDBOX (cutbox-rows.mjs): the forced cells as the released guide's own fill.sh prints them over the translation 188f0b2167579e27… (all of the seat's roots in one cut). By AI agents, Wed Nov 11 2026. No macro, syntax, notation, axiom, sorry.
-/
import Derived.Test.YtepegpkphocpoaaChecked
import GoSem.Claim
import GoSem.ClaimJoined
import GoSem.ClaimMapViews
import Derived.JoinedTies
import Derived.KernelRfl
namespace Go.Proofs.Ytepegpkphocpoaa
/- THE CELL 'sum', in the pinned program and in every row, IS THE sha256 OF THE DUMP (.gsa) THAT YtepegpkphocpoaaProg.lean LOADS. Nothing in Lean hashes anything: it is a label: what it is worth is what the hold of that sum in a sandbox is worth. -/
noncomputable def Try.pinned : Pinned := { name := "ytepegpkphocpoaa", sum := "188f0b2167579e27043c97eb03f8d2754791886ea8d79a450acdc4fba44848fc", checked := Try.checked }
namespace Rows
def none {H : Type} : Left H := { results := [], args := [] }

/-- 'shroudlaw04.WelchTells': WHATEVER THE INPUT: true; the input reads as it did. -/
def welchTellsSpec : ChangeSpec := { name := "welchTells", fn := fun _ => fun
  | [d1, d2, d3, d4] => { results := [.lit (.bool true)], args := [d1, d2, d3, d4] }
  | _ => none }
def welchTellsRow : OpenClaim := { program := "ytepegpkphocpoaa", sum := "188f0b2167579e27043c97eb03f8d2754791886ea8d79a450acdc4fba44848fc", func := "shroud/shroudlaw04.WelchTells", spec := "welchTells", unfollowed := true, recurses := true, apart := false }
def WelchTellsSaid : Prop := welchTellsRow.holds Try.pinned (OpenSpec.ofChange welchTellsSpec)

/-- ITS FALSE NEIGHBOUR: 'it returns false'. Refute it at one input. -/
def welchTellsWrong : ChangeSpec := { name := "welchTells", fn := fun _ => fun
  | [d1, d2, d3, d4] => { results := [.lit (.bool false)], args := [d1, d2, d3, d4] }
  | _ => none }
def WelchTellsWrongFalsely : Prop := welchTellsRow.holds Try.pinned (OpenSpec.ofChange welchTellsWrong)

/-- 'shroudlaw04.WelchHeals': WHATEVER THE INPUT: true; the input reads as it did. -/
def welchHealsSpec : ChangeSpec := { name := "welchHeals", fn := fun _ => fun
  | [d1, d2, d3, d4] => { results := [.lit (.bool true)], args := [d1, d2, d3, d4] }
  | _ => none }
def welchHealsRow : OpenClaim := { program := "ytepegpkphocpoaa", sum := "188f0b2167579e27043c97eb03f8d2754791886ea8d79a450acdc4fba44848fc", func := "shroud/shroudlaw04.WelchHeals", spec := "welchHeals", unfollowed := true, recurses := true, apart := false }
def WelchHealsSaid : Prop := welchHealsRow.holds Try.pinned (OpenSpec.ofChange welchHealsSpec)

/-- ITS FALSE NEIGHBOUR: 'it returns false'. Refute it at one input. -/
def welchHealsWrong : ChangeSpec := { name := "welchHeals", fn := fun _ => fun
  | [d1, d2, d3, d4] => { results := [.lit (.bool false)], args := [d1, d2, d3, d4] }
  | _ => none }
def WelchHealsWrongFalsely : Prop := welchHealsRow.holds Try.pinned (OpenSpec.ofChange welchHealsWrong)

/-- 'shroudlaw04.WelchHonest': WHATEVER THE INPUT: true; the input reads as it did. -/
def welchHonestSpec : ChangeSpec := { name := "welchHonest", fn := fun _ => fun
  | [d1, d2, d3] => { results := [.lit (.bool true)], args := [d1, d2, d3] }
  | _ => none }
def welchHonestRow : OpenClaim := { program := "ytepegpkphocpoaa", sum := "188f0b2167579e27043c97eb03f8d2754791886ea8d79a450acdc4fba44848fc", func := "shroud/shroudlaw04.WelchHonest", spec := "welchHonest", unfollowed := true, recurses := true, apart := false }
def WelchHonestSaid : Prop := welchHonestRow.holds Try.pinned (OpenSpec.ofChange welchHonestSpec)

/-- ITS FALSE NEIGHBOUR: 'it returns false'. Refute it at one input. -/
def welchHonestWrong : ChangeSpec := { name := "welchHonest", fn := fun _ => fun
  | [d1, d2, d3] => { results := [.lit (.bool false)], args := [d1, d2, d3] }
  | _ => none }
def WelchHonestWrongFalsely : Prop := welchHonestRow.holds Try.pinned (OpenSpec.ofChange welchHonestWrong)

/-- 'shroudlaw04.WelchOrder': WHATEVER THE INPUT: true; the input reads as it did. -/
def welchOrderSpec : ChangeSpec := { name := "welchOrder", fn := fun _ => fun
  | [d1, d2, d3] => { results := [.lit (.bool true)], args := [d1, d2, d3] }
  | _ => none }
def welchOrderRow : OpenClaim := { program := "ytepegpkphocpoaa", sum := "188f0b2167579e27043c97eb03f8d2754791886ea8d79a450acdc4fba44848fc", func := "shroud/shroudlaw04.WelchOrder", spec := "welchOrder", unfollowed := true, recurses := true, apart := false }
def WelchOrderSaid : Prop := welchOrderRow.holds Try.pinned (OpenSpec.ofChange welchOrderSpec)

/-- ITS FALSE NEIGHBOUR: 'it returns false'. Refute it at one input. -/
def welchOrderWrong : ChangeSpec := { name := "welchOrder", fn := fun _ => fun
  | [d1, d2, d3] => { results := [.lit (.bool false)], args := [d1, d2, d3] }
  | _ => none }
def WelchOrderWrongFalsely : Prop := welchOrderRow.holds Try.pinned (OpenSpec.ofChange welchOrderWrong)

/-- 'shroudlaw04.WelchWrong': WHATEVER THE INPUT: true; the input reads as it did. -/
def welchWrongSpec : ChangeSpec := { name := "welchWrong", fn := fun _ => fun
  | [d1, d2] => { results := [.lit (.bool true)], args := [d1, d2] }
  | _ => none }
def welchWrongRow : OpenClaim := { program := "ytepegpkphocpoaa", sum := "188f0b2167579e27043c97eb03f8d2754791886ea8d79a450acdc4fba44848fc", func := "shroud/shroudlaw04.WelchWrong", spec := "welchWrong", unfollowed := true, recurses := true, apart := false }
def WelchWrongSaid : Prop := welchWrongRow.holds Try.pinned (OpenSpec.ofChange welchWrongSpec)

/-- ITS FALSE NEIGHBOUR: 'it returns false'. Refute it at one input. -/
def welchWrongWrong : ChangeSpec := { name := "welchWrong", fn := fun _ => fun
  | [d1, d2] => { results := [.lit (.bool false)], args := [d1, d2] }
  | _ => none }
def WelchWrongWrongFalsely : Prop := welchWrongRow.holds Try.pinned (OpenSpec.ofChange welchWrongWrong)

/-- 'shroudlaw04.WelchOdd': WHATEVER THE INPUT: true; the input reads as it did. -/
def welchOddSpec : ChangeSpec := { name := "welchOdd", fn := fun _ => fun
  | [d1, d2, d3] => { results := [.lit (.bool true)], args := [d1, d2, d3] }
  | _ => none }
def welchOddRow : OpenClaim := { program := "ytepegpkphocpoaa", sum := "188f0b2167579e27043c97eb03f8d2754791886ea8d79a450acdc4fba44848fc", func := "shroud/shroudlaw04.WelchOdd", spec := "welchOdd", unfollowed := true, recurses := true, apart := false }
def WelchOddSaid : Prop := welchOddRow.holds Try.pinned (OpenSpec.ofChange welchOddSpec)

/-- ITS FALSE NEIGHBOUR: 'it returns false'. Refute it at one input. -/
def welchOddWrong : ChangeSpec := { name := "welchOdd", fn := fun _ => fun
  | [d1, d2, d3] => { results := [.lit (.bool false)], args := [d1, d2, d3] }
  | _ => none }
def WelchOddWrongFalsely : Prop := welchOddRow.holds Try.pinned (OpenSpec.ofChange welchOddWrong)

/- THE SECOND FORM. 'bulk': how many values and letters a reading holds, each counted each time it is reached (what is shared counts as often as it is met; a slice's spare places count too). A statement '..UptoSaid' is the law's where the arguments, and the package variables that the reading takes, are together of bulk at most 1048576: NARROWER than '..Said'. Prove '..Said' where nothing that the law and all that it calls make is longer than what came in: it says more and counts as full. Else prove '..UptoSaid'. A law counts once. -/
mutual
def uptoBulk {H : Type} : DataW H → Nat
  | .lit (.string bytes) => bytes.length + 1
  | .lit _ => 1
  | .nil => 1
  | .ptr d => uptoBulk d + 1
  | .slice elems spare => uptoBulkAll elems + uptoBulkAll spare + 1
  | .agg parts => uptoBulkAll parts + 1
  | .iface _ d => uptoBulk d + 1
  | .map entries => uptoBulkEntries entries + 1
  | .held _ => 1
def uptoBulkAll {H : Type} : List (DataW H) → Nat
  | [] => 0
  | d :: r => uptoBulk d + uptoBulkAll r
def uptoBulkEntries {H : Type} : List (Lit × DataW H) → Nat
  | [] => 0
  | x :: r => uptoBulkEntry x + uptoBulkEntries r
def uptoBulkEntry {H : Type} : Lit × DataW H → Nat
  | (.string bytes, d) => bytes.length + uptoBulk d + 1
  | (_, d) => uptoBulk d + 1
 end
def uptoSmall : (H : Type) → List (DataW H) → Bool := fun _ ds => decide (uptoBulkAll ds ≤ 1048576)
def OpenSpec.upto (s : _root_.Go.ChangeSpec) : _root_.Go.OpenSpec := { _root_.Go.OpenSpec.ofChange s with cond := some uptoSmall }

/-- 'shroudlaw04.WelchTells', WHERE WHAT IT READS IS OF BULK AT MOST 1048576: true; the input reads as it did. -/
def welchTellsUptoRow : OpenClaim := { program := "ytepegpkphocpoaa", sum := "188f0b2167579e27043c97eb03f8d2754791886ea8d79a450acdc4fba44848fc", func := "shroud/shroudlaw04.WelchTells", spec := "welchTells", unfollowed := true, recurses := true, apart := false, narrowed := true }
def WelchTellsUptoSaid : Prop := welchTellsUptoRow.holds Try.pinned (OpenSpec.upto welchTellsSpec)

/-- 'shroudlaw04.WelchHeals', WHERE WHAT IT READS IS OF BULK AT MOST 1048576: true; the input reads as it did. -/
def welchHealsUptoRow : OpenClaim := { program := "ytepegpkphocpoaa", sum := "188f0b2167579e27043c97eb03f8d2754791886ea8d79a450acdc4fba44848fc", func := "shroud/shroudlaw04.WelchHeals", spec := "welchHeals", unfollowed := true, recurses := true, apart := false, narrowed := true }
def WelchHealsUptoSaid : Prop := welchHealsUptoRow.holds Try.pinned (OpenSpec.upto welchHealsSpec)

/-- 'shroudlaw04.WelchHonest', WHERE WHAT IT READS IS OF BULK AT MOST 1048576: true; the input reads as it did. -/
def welchHonestUptoRow : OpenClaim := { program := "ytepegpkphocpoaa", sum := "188f0b2167579e27043c97eb03f8d2754791886ea8d79a450acdc4fba44848fc", func := "shroud/shroudlaw04.WelchHonest", spec := "welchHonest", unfollowed := true, recurses := true, apart := false, narrowed := true }
def WelchHonestUptoSaid : Prop := welchHonestUptoRow.holds Try.pinned (OpenSpec.upto welchHonestSpec)

/-- 'shroudlaw04.WelchOrder', WHERE WHAT IT READS IS OF BULK AT MOST 1048576: true; the input reads as it did. -/
def welchOrderUptoRow : OpenClaim := { program := "ytepegpkphocpoaa", sum := "188f0b2167579e27043c97eb03f8d2754791886ea8d79a450acdc4fba44848fc", func := "shroud/shroudlaw04.WelchOrder", spec := "welchOrder", unfollowed := true, recurses := true, apart := false, narrowed := true }
def WelchOrderUptoSaid : Prop := welchOrderUptoRow.holds Try.pinned (OpenSpec.upto welchOrderSpec)

/-- 'shroudlaw04.WelchWrong', WHERE WHAT IT READS IS OF BULK AT MOST 1048576: true; the input reads as it did. -/
def welchWrongUptoRow : OpenClaim := { program := "ytepegpkphocpoaa", sum := "188f0b2167579e27043c97eb03f8d2754791886ea8d79a450acdc4fba44848fc", func := "shroud/shroudlaw04.WelchWrong", spec := "welchWrong", unfollowed := true, recurses := true, apart := false, narrowed := true }
def WelchWrongUptoSaid : Prop := welchWrongUptoRow.holds Try.pinned (OpenSpec.upto welchWrongSpec)

/-- 'shroudlaw04.WelchOdd', WHERE WHAT IT READS IS OF BULK AT MOST 1048576: true; the input reads as it did. -/
def welchOddUptoRow : OpenClaim := { program := "ytepegpkphocpoaa", sum := "188f0b2167579e27043c97eb03f8d2754791886ea8d79a450acdc4fba44848fc", func := "shroud/shroudlaw04.WelchOdd", spec := "welchOdd", unfollowed := true, recurses := true, apart := false, narrowed := true }
def WelchOddUptoSaid : Prop := welchOddUptoRow.holds Try.pinned (OpenSpec.upto welchOddSpec)

end Rows
end Go.Proofs.Ytepegpkphocpoaa
