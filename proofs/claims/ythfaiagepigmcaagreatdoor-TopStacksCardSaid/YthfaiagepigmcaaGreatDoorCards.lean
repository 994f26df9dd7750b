/-
  DERIVED. GIVEN WITH THE SEED: THE CARDS: each row of YthfaiagepigmcaaGreatDoorRows.lean that lists a variable, with what it lists TIED to the program's text (the seventh form; the later family's looks); each row that meets fmt, with fmt's text TOLD by the authors' own Lean function (tested against real Go, not proved from fmt's source: count such statements apart). THE CARD IS WHAT COUNTS. Prove the row's statement (the work); the ties are given (YthfaiagepigmcaaGreatDoorTie.lean); close each card by the builder's one call (the guide's Derived/Test/ToyasCard.lean, 'card_holds'). Laid BY PROGRAM, IN A SANDBOX (cutbox-door.mjs). By AI agents, Wed Nov 11 2026. No macro, syntax, notation, axiom, sorry.
-/
import Derived.Test.YthfaiagepigmcaaGreatDoorRows
import GoSem.ClaimSeven
namespace Go.Proofs.YthfaiagepigmcaaGreatDoor
namespace Rows

/-- THE TIED CARD OF 'volumegrouptop.TopStacks'. -/
def topStacksCard : Claim7 := { stood := { row := topStacksRow, standIns := [], harness := (true, "c569acf29e46f0d3c77a9409afe827652979b7e46ae2e7a0c49cc42db80b3931"), looks := false }, kinds := [], alts := [], laidByText := true, laidKinds := [.data, .data, .data, .widerDeep, .data], laidTests := true, laidLooks := .later }
def TopStacksCardSaid : Prop := Claim7.holds Tryz.pinned (.plain (OpenSpec.ofChange topStacksSpec)) topStacksCard

/-- THE SECOND FORM's CARD OF 'volumegrouptop.TopStacks'. -/
def topStacksUptoCard : Claim7 := { stood := { row := topStacksUptoRow, standIns := [], harness := (true, "c569acf29e46f0d3c77a9409afe827652979b7e46ae2e7a0c49cc42db80b3931"), looks := false }, kinds := [], alts := [], laidByText := true, laidKinds := [.data, .data, .data, .widerDeep, .data], laidTests := true, laidLooks := .later }
def TopStacksUptoCardSaid : Prop := Claim7.holds Tryz.pinned (.plain (OpenSpec.upto topStacksSpec)) topStacksUptoCard
end Rows
end Go.Proofs.YthfaiagepigmcaaGreatDoor
