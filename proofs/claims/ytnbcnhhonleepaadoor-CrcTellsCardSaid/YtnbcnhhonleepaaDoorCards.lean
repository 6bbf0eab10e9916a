/-
  DERIVED. GIVEN WITH THE SEED: THE CARDS: each row of YtnbcnhhonleepaaDoorRows.lean that lists a variable, with what it lists TIED to the program's text (the seventh form; the later family's looks); each row that meets fmt, with fmt's text TOLD by the authors' own Lean function (tested against real Go, not proved from fmt's source: count such statements apart). THE CARD IS WHAT COUNTS. Prove the row's statement (the work); the ties are given (YtnbcnhhonleepaaDoorTie.lean); close each card by the builder's one call (the guide's Derived/Test/ToyasCard.lean, 'card_holds'). Laid BY PROGRAM, IN A SANDBOX (cutbox-door.mjs). By AI agents, Wed Nov 11 2026. No macro, syntax, notation, axiom, sorry.
-/
import Derived.Test.YtnbcnhhonleepaaDoorRows
import GoSem.ClaimSeven
namespace Go.Proofs.YtnbcnhhonleepaaDoor
namespace Rows

/-- THE TIED CARD OF 'harrowlaw02.CrcTells'. -/
def crcTellsCard : Claim7 := { stood := { row := crcTellsRow, standIns := [], harness := (true, "7a71476e493c8fc32004baf3ba20743a6290601cb0a92c881fb45ad5fa4cb31d"), looks := false }, kinds := [], alts := [], laidByText := true, laidKinds := [.data], laidTests := true, laidLooks := .later }
def CrcTellsCardSaid : Prop := Claim7.holds Tryd.pinned (.plain (OpenSpec.ofChange crcTellsSpec)) crcTellsCard

/-- THE TIED CARD OF 'harrowlaw02.CrcMore'. -/
def crcMoreCard : Claim7 := { stood := { row := crcMoreRow, standIns := [], harness := (true, "7a71476e493c8fc32004baf3ba20743a6290601cb0a92c881fb45ad5fa4cb31d"), looks := false }, kinds := [], alts := [], laidByText := true, laidKinds := [.data], laidTests := true, laidLooks := .later }
def CrcMoreCardSaid : Prop := Claim7.holds Tryd.pinned (.plain (OpenSpec.ofChange crcMoreSpec)) crcMoreCard

/-- THE TIED CARD OF 'harrowlaw02.CrcChanges'. -/
def crcChangesCard : Claim7 := { stood := { row := crcChangesRow, standIns := [], harness := (true, "7a71476e493c8fc32004baf3ba20743a6290601cb0a92c881fb45ad5fa4cb31d"), looks := false }, kinds := [], alts := [], laidByText := true, laidKinds := [.data], laidTests := true, laidLooks := .later }
def CrcChangesCardSaid : Prop := Claim7.holds Tryd.pinned (.plain (OpenSpec.ofChange crcChangesSpec)) crcChangesCard

/-- THE TIED CARD OF 'harrowlaw02.CrcApart'. -/
def crcApartCard : Claim7 := { stood := { row := crcApartRow, standIns := [], harness := (true, "7a71476e493c8fc32004baf3ba20743a6290601cb0a92c881fb45ad5fa4cb31d"), looks := false }, kinds := [], alts := [], laidByText := true, laidKinds := [.data], laidTests := true, laidLooks := .later }
def CrcApartCardSaid : Prop := Claim7.holds Tryd.pinned (.plain (OpenSpec.ofChange crcApartSpec)) crcApartCard

/-- THE TIED CARD OF 'harrowlaw02.CrcEnds'. -/
def crcEndsCard : Claim7 := { stood := { row := crcEndsRow, standIns := [], harness := (true, "7a71476e493c8fc32004baf3ba20743a6290601cb0a92c881fb45ad5fa4cb31d"), looks := false }, kinds := [], alts := [], laidByText := true, laidKinds := [.data], laidTests := true, laidLooks := .later }
def CrcEndsCardSaid : Prop := Claim7.holds Tryd.pinned (.plain (OpenSpec.ofChange crcEndsSpec)) crcEndsCard

/-- THE TIED CARD OF 'harrowlaw02.CrcNoughts'. -/
def crcNoughtsCard : Claim7 := { stood := { row := crcNoughtsRow, standIns := [], harness := (true, "7a71476e493c8fc32004baf3ba20743a6290601cb0a92c881fb45ad5fa4cb31d"), looks := false }, kinds := [], alts := [], laidByText := true, laidKinds := [.data], laidTests := true, laidLooks := .later }
def CrcNoughtsCardSaid : Prop := Claim7.holds Tryd.pinned (.plain (OpenSpec.ofChange crcNoughtsSpec)) crcNoughtsCard

/-- THE TIED CARD OF 'harrowlaw02.CrcCut'. -/
def crcCutCard : Claim7 := { stood := { row := crcCutRow, standIns := [], harness := (true, "7a71476e493c8fc32004baf3ba20743a6290601cb0a92c881fb45ad5fa4cb31d"), looks := false }, kinds := [], alts := [], laidByText := true, laidKinds := [.data], laidTests := true, laidLooks := .later }
def CrcCutCardSaid : Prop := Claim7.holds Tryd.pinned (.plain (OpenSpec.ofChange crcCutSpec)) crcCutCard

/-- THE TIED CARD OF 'harrowlaw02.CrcTurned'. -/
def crcTurnedCard : Claim7 := { stood := { row := crcTurnedRow, standIns := [], harness := (true, "7a71476e493c8fc32004baf3ba20743a6290601cb0a92c881fb45ad5fa4cb31d"), looks := false }, kinds := [], alts := [], laidByText := true, laidKinds := [.data], laidTests := true, laidLooks := .later }
def CrcTurnedCardSaid : Prop := Claim7.holds Tryd.pinned (.plain (OpenSpec.ofChange crcTurnedSpec)) crcTurnedCard

/-- THE SECOND FORM's CARD OF 'harrowlaw02.CrcTells'. -/
def crcTellsUptoCard : Claim7 := { stood := { row := crcTellsUptoRow, standIns := [], harness := (true, "7a71476e493c8fc32004baf3ba20743a6290601cb0a92c881fb45ad5fa4cb31d"), looks := false }, kinds := [], alts := [], laidByText := true, laidKinds := [.data], laidTests := true, laidLooks := .later }
def CrcTellsUptoCardSaid : Prop := Claim7.holds Tryd.pinned (.plain (OpenSpec.upto crcTellsSpec)) crcTellsUptoCard

/-- THE SECOND FORM's CARD OF 'harrowlaw02.CrcMore'. -/
def crcMoreUptoCard : Claim7 := { stood := { row := crcMoreUptoRow, standIns := [], harness := (true, "7a71476e493c8fc32004baf3ba20743a6290601cb0a92c881fb45ad5fa4cb31d"), looks := false }, kinds := [], alts := [], laidByText := true, laidKinds := [.data], laidTests := true, laidLooks := .later }
def CrcMoreUptoCardSaid : Prop := Claim7.holds Tryd.pinned (.plain (OpenSpec.upto crcMoreSpec)) crcMoreUptoCard

/-- THE SECOND FORM's CARD OF 'harrowlaw02.CrcChanges'. -/
def crcChangesUptoCard : Claim7 := { stood := { row := crcChangesUptoRow, standIns := [], harness := (true, "7a71476e493c8fc32004baf3ba20743a6290601cb0a92c881fb45ad5fa4cb31d"), looks := false }, kinds := [], alts := [], laidByText := true, laidKinds := [.data], laidTests := true, laidLooks := .later }
def CrcChangesUptoCardSaid : Prop := Claim7.holds Tryd.pinned (.plain (OpenSpec.upto crcChangesSpec)) crcChangesUptoCard

/-- THE SECOND FORM's CARD OF 'harrowlaw02.CrcApart'. -/
def crcApartUptoCard : Claim7 := { stood := { row := crcApartUptoRow, standIns := [], harness := (true, "7a71476e493c8fc32004baf3ba20743a6290601cb0a92c881fb45ad5fa4cb31d"), looks := false }, kinds := [], alts := [], laidByText := true, laidKinds := [.data], laidTests := true, laidLooks := .later }
def CrcApartUptoCardSaid : Prop := Claim7.holds Tryd.pinned (.plain (OpenSpec.upto crcApartSpec)) crcApartUptoCard

/-- THE SECOND FORM's CARD OF 'harrowlaw02.CrcEnds'. -/
def crcEndsUptoCard : Claim7 := { stood := { row := crcEndsUptoRow, standIns := [], harness := (true, "7a71476e493c8fc32004baf3ba20743a6290601cb0a92c881fb45ad5fa4cb31d"), looks := false }, kinds := [], alts := [], laidByText := true, laidKinds := [.data], laidTests := true, laidLooks := .later }
def CrcEndsUptoCardSaid : Prop := Claim7.holds Tryd.pinned (.plain (OpenSpec.upto crcEndsSpec)) crcEndsUptoCard

/-- THE SECOND FORM's CARD OF 'harrowlaw02.CrcNoughts'. -/
def crcNoughtsUptoCard : Claim7 := { stood := { row := crcNoughtsUptoRow, standIns := [], harness := (true, "7a71476e493c8fc32004baf3ba20743a6290601cb0a92c881fb45ad5fa4cb31d"), looks := false }, kinds := [], alts := [], laidByText := true, laidKinds := [.data], laidTests := true, laidLooks := .later }
def CrcNoughtsUptoCardSaid : Prop := Claim7.holds Tryd.pinned (.plain (OpenSpec.upto crcNoughtsSpec)) crcNoughtsUptoCard

/-- THE SECOND FORM's CARD OF 'harrowlaw02.CrcCut'. -/
def crcCutUptoCard : Claim7 := { stood := { row := crcCutUptoRow, standIns := [], harness := (true, "7a71476e493c8fc32004baf3ba20743a6290601cb0a92c881fb45ad5fa4cb31d"), looks := false }, kinds := [], alts := [], laidByText := true, laidKinds := [.data], laidTests := true, laidLooks := .later }
def CrcCutUptoCardSaid : Prop := Claim7.holds Tryd.pinned (.plain (OpenSpec.upto crcCutSpec)) crcCutUptoCard

/-- THE SECOND FORM's CARD OF 'harrowlaw02.CrcTurned'. -/
def crcTurnedUptoCard : Claim7 := { stood := { row := crcTurnedUptoRow, standIns := [], harness := (true, "7a71476e493c8fc32004baf3ba20743a6290601cb0a92c881fb45ad5fa4cb31d"), looks := false }, kinds := [], alts := [], laidByText := true, laidKinds := [.data], laidTests := true, laidLooks := .later }
def CrcTurnedUptoCardSaid : Prop := Claim7.holds Tryd.pinned (.plain (OpenSpec.upto crcTurnedSpec)) crcTurnedUptoCard
end Rows
end Go.Proofs.YtnbcnhhonleepaaDoor
