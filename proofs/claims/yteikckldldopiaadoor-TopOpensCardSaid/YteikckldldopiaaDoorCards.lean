/-
  DERIVED. GIVEN WITH THE SEED: THE CARDS: each row of YteikckldldopiaaDoorRows.lean that lists a variable, with what it lists TIED to the program's text (the seventh form; the later family's looks); each row that meets fmt, with fmt's text TOLD by the authors' own Lean function (tested against real Go, not proved from fmt's source: count such statements apart). THE CARD IS WHAT COUNTS. Prove the row's statement (the work); the ties are given (YteikckldldopiaaDoorTie.lean); close each card by the builder's one call (the guide's Derived/Test/ToyasCard.lean, 'card_holds'). Laid BY PROGRAM, IN A SANDBOX (cutbox-door.mjs). By AI agents, Wed Nov 11 2026. No macro, syntax, notation, axiom, sorry.
-/
import Derived.Test.YteikckldldopiaaDoorRows
import GoSem.ClaimSeven
namespace Go.Proofs.YteikckldldopiaaDoor
namespace Rows

/-- THE TIED CARD OF 'shroudtop.TopOpens'. -/
def topOpensCard : Claim7 := { stood := { row := topOpensRow, standIns := [], harness := (true, "340aad22c0b38eb3070ef415d21832ad21db8ae385307cc9b2414ed2ffb5bd5d"), looks := true }, kinds := [], alts := [], laidByText := true, laidKinds := [.data, .pinned], laidTests := true, laidLooks := .later }
def TopOpensCardSaid : Prop := Claim7.holds Tryd.pinned (.plain (OpenSpec.ofChange topOpensSpec)) topOpensCard

/-- THE SECOND FORM's CARD OF 'shroudtop.TopOpens'. -/
def topOpensUptoCard : Claim7 := { stood := { row := topOpensUptoRow, standIns := [], harness := (true, "340aad22c0b38eb3070ef415d21832ad21db8ae385307cc9b2414ed2ffb5bd5d"), looks := true }, kinds := [], alts := [], laidByText := true, laidKinds := [.data, .pinned], laidTests := true, laidLooks := .later }
def TopOpensUptoCardSaid : Prop := Claim7.holds Tryd.pinned (.plain (OpenSpec.upto topOpensSpec)) topOpensUptoCard
end Rows
end Go.Proofs.YteikckldldopiaaDoor
