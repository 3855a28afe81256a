/-
  DERIVED. GIVEN WITH THE SEED: THE CARDS: each row of YtoldackcmifikaaGreatDoorRows.lean that lists a variable, with what it lists TIED to the program's text (the seventh form; the later family's looks); each row that meets fmt, with fmt's text TOLD by the authors' own Lean function (tested against real Go, not proved from fmt's source: count such statements apart). THE CARD IS WHAT COUNTS. Prove the row's statement (the work); the ties are given (YtoldackcmifikaaGreatDoorTie.lean); close each card by the builder's one call (the guide's Derived/Test/ToyasCard.lean, 'card_holds'). Laid BY PROGRAM, IN A SANDBOX (cutbox-door.mjs). By AI agents, Wed Nov 11 2026. No macro, syntax, notation, axiom, sorry.
-/
import Derived.Test.YtoldackcmifikaaGreatDoorRows
import GoSem.ClaimSeven
namespace Go.Proofs.YtoldackcmifikaaGreatDoor
namespace Rows

/-- THE TIED CARD OF 'escarpmentlaw13.RunGreat'. -/
def runGreatCard : Claim7 := { stood := { row := runGreatRow, standIns := [], harness := (true, "ad3a31034404479d70955c455d1895c1497a3d0712d96656b501de5f398197a0"), looks := false }, kinds := [], alts := [], laidByText := true, laidKinds := [.data, .data, .data], laidTests := true, laidLooks := .later }
def RunGreatCardSaid : Prop := Claim7.holds Tryz.pinned (.plain (OpenSpec.ofChange runGreatSpec)) runGreatCard

/-- THE SECOND FORM's CARD OF 'escarpmentlaw13.RunGreat'. -/
def runGreatUptoCard : Claim7 := { stood := { row := runGreatUptoRow, standIns := [], harness := (true, "ad3a31034404479d70955c455d1895c1497a3d0712d96656b501de5f398197a0"), looks := false }, kinds := [], alts := [], laidByText := true, laidKinds := [.data, .data, .data], laidTests := true, laidLooks := .later }
def RunGreatUptoCardSaid : Prop := Claim7.holds Tryz.pinned (.plain (OpenSpec.upto runGreatSpec)) runGreatUptoCard
end Rows
end Go.Proofs.YtoldackcmifikaaGreatDoor
