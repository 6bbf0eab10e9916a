/-
  DERIVED. GIVEN WITH THE SEED: THE CARDS: each row of YtdjdpeadohobmaaGreatDoorRows.lean that lists a variable, with what it lists TIED to the program's text (the seventh form; the later family's looks); each row that meets fmt, with fmt's text TOLD by the authors' own Lean function (tested against real Go, not proved from fmt's source: count such statements apart). THE CARD IS WHAT COUNTS. Prove the row's statement (the work); the ties are given (YtdjdpeadohobmaaGreatDoorTie.lean); close each card by the builder's one call (the guide's Derived/Test/ToyasCard.lean, 'card_holds'). Laid BY PROGRAM, IN A SANDBOX (cutbox-door.mjs). By AI agents, Wed Nov 11 2026. No macro, syntax, notation, axiom, sorry.
-/
import Derived.Test.YtdjdpeadohobmaaGreatDoorRows
import GoSem.ClaimSeven
namespace Go.Proofs.YtdjdpeadohobmaaGreatDoor
namespace Rows

/-- THE TIED CARD OF 'harrowtop.TopWord'. -/
def topWordCard : Claim7 := { stood := { row := topWordRow, standIns := [], harness := (true, "28fc7c6ffc521a81d2d9749ddcc02be4bb998c7ea2e67df66b8c832c69eba6eb"), looks := true }, kinds := [], alts := [], laidByText := true, laidKinds := [.data, .data, .data, .data], laidTests := true, laidLooks := .later }
def TopWordCardSaid : Prop := Claim7.holds Tryz.pinned (.plain (OpenSpec.ofChange topWordSpec)) topWordCard

/-- THE TIED CARD OF 'harrowtop.TopRoom'. -/
def topRoomCard : Claim7 := { stood := { row := topRoomRow, standIns := [], harness := (true, "28fc7c6ffc521a81d2d9749ddcc02be4bb998c7ea2e67df66b8c832c69eba6eb"), looks := true }, kinds := [], alts := [], laidByText := true, laidKinds := [.data, .data, .data, .data], laidTests := true, laidLooks := .later }
def TopRoomCardSaid : Prop := Claim7.holds Tryz.pinned (.plain (OpenSpec.ofChange topRoomSpec)) topRoomCard

/-- THE SECOND FORM's CARD OF 'harrowtop.TopWord'. -/
def topWordUptoCard : Claim7 := { stood := { row := topWordUptoRow, standIns := [], harness := (true, "28fc7c6ffc521a81d2d9749ddcc02be4bb998c7ea2e67df66b8c832c69eba6eb"), looks := true }, kinds := [], alts := [], laidByText := true, laidKinds := [.data, .data, .data, .data], laidTests := true, laidLooks := .later }
def TopWordUptoCardSaid : Prop := Claim7.holds Tryz.pinned (.plain (OpenSpec.upto topWordSpec)) topWordUptoCard

/-- THE SECOND FORM's CARD OF 'harrowtop.TopRoom'. -/
def topRoomUptoCard : Claim7 := { stood := { row := topRoomUptoRow, standIns := [], harness := (true, "28fc7c6ffc521a81d2d9749ddcc02be4bb998c7ea2e67df66b8c832c69eba6eb"), looks := true }, kinds := [], alts := [], laidByText := true, laidKinds := [.data, .data, .data, .data], laidTests := true, laidLooks := .later }
def TopRoomUptoCardSaid : Prop := Claim7.holds Tryz.pinned (.plain (OpenSpec.upto topRoomSpec)) topRoomUptoCard
end Rows
end Go.Proofs.YtdjdpeadohobmaaGreatDoor
