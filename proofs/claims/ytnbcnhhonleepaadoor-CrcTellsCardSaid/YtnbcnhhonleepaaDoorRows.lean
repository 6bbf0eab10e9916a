/-
  NARROWER THAN 'FOR EVERY INPUT', by the rows' own cells (each row's printed sentence says how): CrcTells: laid · CrcMore: laid · CrcChanges: laid · CrcApart: laid · CrcEnds: laid · CrcNoughts: laid · CrcCut: laid · CrcTurned: laid.
  DERIVED. THE GIVEN ROWS OF THIS SEAT. 8 by the template 'for every input the law returns true; each argument reads behind the call as it read before'; 0 by the template 'total and deterministic' (their statements: YtnbcnhhonleepaaDoorTotals.lean).
  GIVEN WITH THE SEED: the statements are not yours to turn. If you find one false, say at which input.
  Laid BY PROGRAM, IN A SANDBOX (cutbox-rows.mjs): the forced cells as the released guide's own fill.sh prints them over the translation 441364025ae04814… (all of the seat's roots in one cut). By AI agents, Wed Nov 11 2026. No macro, syntax, notation, axiom, sorry.
-/
import Derived.Test.YtnbcnhhonleepaaDoorChecked
import GoSem.Claim
import GoSem.ClaimJoined
import GoSem.ClaimMapViews
import Derived.JoinedTies
import Derived.KernelRfl
namespace Go.Proofs.YtnbcnhhonleepaaDoor
/- THE CELL 'sum', in the pinned program and in every row, IS THE sha256 OF THE DUMP (.gsa) THAT YtnbcnhhonleepaaDoorProg.lean LOADS. Nothing in Lean hashes anything: it is a label: what it is worth is what the hold of that sum in a sandbox is worth. -/
noncomputable def Tryd.pinned : Pinned := { name := "ytnbcnhhonleepaadoor", sum := "441364025ae04814edcb2fb384288d81887a12da89218732a39c5fec88e1a0ef", checked := Tryd.checked }
namespace Rows
def none {H : Type} : Left H := { results := [], args := [] }

/- WHAT THE LISTED PACKAGE-LEVEL VARIABLES READ AS WHEN THE CALL BEGINS. Each datum BY PROGRAM (the guide's laid-datum.mjs) off the statement by which the dump's own 'gosem.cut.vars' lays the variable. In a bare row this is a premise. The card (YtnbcnhhonleepaaDoorCards.lean) ties it to the program's text. -/
def laid_harrow_crc_half {H : Type} : DataW H := .agg [.lit (.int .u32 0), .lit (.int .u32 498536548), .lit (.int .u32 997073096), .lit (.int .u32 651767980), .lit (.int .u32 1994146192), .lit (.int .u32 1802195444), .lit (.int .u32 1303535960), .lit (.int .u32 1342533948), .lit (.int .u32 3988292384), .lit (.int .u32 4027552580), .lit (.int .u32 3604390888), .lit (.int .u32 3412177804), .lit (.int .u32 2607071920), .lit (.int .u32 2262029012), .lit (.int .u32 2685067896), .lit (.int .u32 3183342108)]

/-- 'harrowlaw02.CrcTells': WHATEVER THE INPUT: true; the input reads as it did. -/
def crcTellsSpec : ChangeSpec := { name := "crcTells", fn := fun _ => fun
  | [d] => { results := [.lit (.bool true)], args := [d] }
  | _ => none }
def crcTellsRow : OpenClaim := { program := "ytnbcnhhonleepaadoor", sum := "441364025ae04814edcb2fb384288d81887a12da89218732a39c5fec88e1a0ef", func := "harrow/harrowlaw02.CrcTells", spec := "crcTells", named := ["harrow/crc.half"], apart := false, laid := [("harrow/crc.half", laid_harrow_crc_half)] }
def CrcTellsSaid : Prop := crcTellsRow.holds Tryd.pinned (OpenSpec.ofChange crcTellsSpec)

/-- ITS FALSE NEIGHBOUR: 'it returns false'. Refute it at one input. -/
def crcTellsWrong : ChangeSpec := { name := "crcTells", fn := fun _ => fun
  | [d] => { results := [.lit (.bool false)], args := [d] }
  | _ => none }
def CrcTellsWrongFalsely : Prop := crcTellsRow.holds Tryd.pinned (OpenSpec.ofChange crcTellsWrong)

/-- 'harrowlaw02.CrcMore': WHATEVER THE INPUT: true; the input reads as it did. -/
def crcMoreSpec : ChangeSpec := { name := "crcMore", fn := fun _ => fun
  | [d1, d2] => { results := [.lit (.bool true)], args := [d1, d2] }
  | _ => none }
def crcMoreRow : OpenClaim := { program := "ytnbcnhhonleepaadoor", sum := "441364025ae04814edcb2fb384288d81887a12da89218732a39c5fec88e1a0ef", func := "harrow/harrowlaw02.CrcMore", spec := "crcMore", named := ["harrow/crc.half"], apart := false, laid := [("harrow/crc.half", laid_harrow_crc_half)] }
def CrcMoreSaid : Prop := crcMoreRow.holds Tryd.pinned (OpenSpec.ofChange crcMoreSpec)

/-- ITS FALSE NEIGHBOUR: 'it returns false'. Refute it at one input. -/
def crcMoreWrong : ChangeSpec := { name := "crcMore", fn := fun _ => fun
  | [d1, d2] => { results := [.lit (.bool false)], args := [d1, d2] }
  | _ => none }
def CrcMoreWrongFalsely : Prop := crcMoreRow.holds Tryd.pinned (OpenSpec.ofChange crcMoreWrong)

/-- 'harrowlaw02.CrcChanges': WHATEVER THE INPUT: true; the input reads as it did. -/
def crcChangesSpec : ChangeSpec := { name := "crcChanges", fn := fun _ => fun
  | [d1, d2, d3] => { results := [.lit (.bool true)], args := [d1, d2, d3] }
  | _ => none }
def crcChangesRow : OpenClaim := { program := "ytnbcnhhonleepaadoor", sum := "441364025ae04814edcb2fb384288d81887a12da89218732a39c5fec88e1a0ef", func := "harrow/harrowlaw02.CrcChanges", spec := "crcChanges", named := ["harrow/crc.half"], apart := false, laid := [("harrow/crc.half", laid_harrow_crc_half)] }
def CrcChangesSaid : Prop := crcChangesRow.holds Tryd.pinned (OpenSpec.ofChange crcChangesSpec)

/-- ITS FALSE NEIGHBOUR: 'it returns false'. Refute it at one input. -/
def crcChangesWrong : ChangeSpec := { name := "crcChanges", fn := fun _ => fun
  | [d1, d2, d3] => { results := [.lit (.bool false)], args := [d1, d2, d3] }
  | _ => none }
def CrcChangesWrongFalsely : Prop := crcChangesRow.holds Tryd.pinned (OpenSpec.ofChange crcChangesWrong)

/-- 'harrowlaw02.CrcApart': WHATEVER THE INPUT: true; the input reads as it did. -/
def crcApartSpec : ChangeSpec := { name := "crcApart", fn := fun _ => fun
  | [d1, d2, d3] => { results := [.lit (.bool true)], args := [d1, d2, d3] }
  | _ => none }
def crcApartRow : OpenClaim := { program := "ytnbcnhhonleepaadoor", sum := "441364025ae04814edcb2fb384288d81887a12da89218732a39c5fec88e1a0ef", func := "harrow/harrowlaw02.CrcApart", spec := "crcApart", named := ["harrow/crc.half"], apart := false, laid := [("harrow/crc.half", laid_harrow_crc_half)] }
def CrcApartSaid : Prop := crcApartRow.holds Tryd.pinned (OpenSpec.ofChange crcApartSpec)

/-- ITS FALSE NEIGHBOUR: 'it returns false'. Refute it at one input. -/
def crcApartWrong : ChangeSpec := { name := "crcApart", fn := fun _ => fun
  | [d1, d2, d3] => { results := [.lit (.bool false)], args := [d1, d2, d3] }
  | _ => none }
def CrcApartWrongFalsely : Prop := crcApartRow.holds Tryd.pinned (OpenSpec.ofChange crcApartWrong)

/-- 'harrowlaw02.CrcEnds': WHATEVER THE INPUT: true; the input reads as it did. -/
def crcEndsSpec : ChangeSpec := { name := "crcEnds", fn := fun _ => fun
  | [d] => { results := [.lit (.bool true)], args := [d] }
  | _ => none }
def crcEndsRow : OpenClaim := { program := "ytnbcnhhonleepaadoor", sum := "441364025ae04814edcb2fb384288d81887a12da89218732a39c5fec88e1a0ef", func := "harrow/harrowlaw02.CrcEnds", spec := "crcEnds", named := ["harrow/crc.half"], apart := false, laid := [("harrow/crc.half", laid_harrow_crc_half)] }
def CrcEndsSaid : Prop := crcEndsRow.holds Tryd.pinned (OpenSpec.ofChange crcEndsSpec)

/-- ITS FALSE NEIGHBOUR: 'it returns false'. Refute it at one input. -/
def crcEndsWrong : ChangeSpec := { name := "crcEnds", fn := fun _ => fun
  | [d] => { results := [.lit (.bool false)], args := [d] }
  | _ => none }
def CrcEndsWrongFalsely : Prop := crcEndsRow.holds Tryd.pinned (OpenSpec.ofChange crcEndsWrong)

/-- 'harrowlaw02.CrcNoughts': WHATEVER THE INPUT: true; the input reads as it did. -/
def crcNoughtsSpec : ChangeSpec := { name := "crcNoughts", fn := fun _ => fun
  | [d1, d2] => { results := [.lit (.bool true)], args := [d1, d2] }
  | _ => none }
def crcNoughtsRow : OpenClaim := { program := "ytnbcnhhonleepaadoor", sum := "441364025ae04814edcb2fb384288d81887a12da89218732a39c5fec88e1a0ef", func := "harrow/harrowlaw02.CrcNoughts", spec := "crcNoughts", named := ["harrow/crc.half"], apart := false, laid := [("harrow/crc.half", laid_harrow_crc_half)] }
def CrcNoughtsSaid : Prop := crcNoughtsRow.holds Tryd.pinned (OpenSpec.ofChange crcNoughtsSpec)

/-- ITS FALSE NEIGHBOUR: 'it returns false'. Refute it at one input. -/
def crcNoughtsWrong : ChangeSpec := { name := "crcNoughts", fn := fun _ => fun
  | [d1, d2] => { results := [.lit (.bool false)], args := [d1, d2] }
  | _ => none }
def CrcNoughtsWrongFalsely : Prop := crcNoughtsRow.holds Tryd.pinned (OpenSpec.ofChange crcNoughtsWrong)

/-- 'harrowlaw02.CrcCut': WHATEVER THE INPUT: true; the input reads as it did. -/
def crcCutSpec : ChangeSpec := { name := "crcCut", fn := fun _ => fun
  | [d1, d2, d3, d4] => { results := [.lit (.bool true)], args := [d1, d2, d3, d4] }
  | _ => none }
def crcCutRow : OpenClaim := { program := "ytnbcnhhonleepaadoor", sum := "441364025ae04814edcb2fb384288d81887a12da89218732a39c5fec88e1a0ef", func := "harrow/harrowlaw02.CrcCut", spec := "crcCut", named := ["harrow/crc.half"], apart := false, laid := [("harrow/crc.half", laid_harrow_crc_half)] }
def CrcCutSaid : Prop := crcCutRow.holds Tryd.pinned (OpenSpec.ofChange crcCutSpec)

/-- ITS FALSE NEIGHBOUR: 'it returns false'. Refute it at one input. -/
def crcCutWrong : ChangeSpec := { name := "crcCut", fn := fun _ => fun
  | [d1, d2, d3, d4] => { results := [.lit (.bool false)], args := [d1, d2, d3, d4] }
  | _ => none }
def CrcCutWrongFalsely : Prop := crcCutRow.holds Tryd.pinned (OpenSpec.ofChange crcCutWrong)

/-- 'harrowlaw02.CrcTurned': WHATEVER THE INPUT: true; the input reads as it did. -/
def crcTurnedSpec : ChangeSpec := { name := "crcTurned", fn := fun _ => fun
  | [d1, d2, d3] => { results := [.lit (.bool true)], args := [d1, d2, d3] }
  | _ => none }
def crcTurnedRow : OpenClaim := { program := "ytnbcnhhonleepaadoor", sum := "441364025ae04814edcb2fb384288d81887a12da89218732a39c5fec88e1a0ef", func := "harrow/harrowlaw02.CrcTurned", spec := "crcTurned", named := ["harrow/crc.half"], apart := false, laid := [("harrow/crc.half", laid_harrow_crc_half)] }
def CrcTurnedSaid : Prop := crcTurnedRow.holds Tryd.pinned (OpenSpec.ofChange crcTurnedSpec)

/-- ITS FALSE NEIGHBOUR: 'it returns false'. Refute it at one input. -/
def crcTurnedWrong : ChangeSpec := { name := "crcTurned", fn := fun _ => fun
  | [d1, d2, d3] => { results := [.lit (.bool false)], args := [d1, d2, d3] }
  | _ => none }
def CrcTurnedWrongFalsely : Prop := crcTurnedRow.holds Tryd.pinned (OpenSpec.ofChange crcTurnedWrong)

/- THE SECOND FORM. 'bulk': how many values and letters a reading holds, each counted each time it is reached (what is shared counts as often as it is met; a slice's spare places count too). A statement '..UptoSaid' is the law's where the arguments, and the package variables that the reading takes, are together of bulk at most 1048576: NARROWER than '..Said'. Prove '..Said' where nothing that the law and all that it calls make is longer than what came in: it says more and counts as full. Else prove '..UptoSaid'. A law counts once. -/
mutual
def uptoBulk {H : Type} : DataW H → Nat
  | .lit (.string bytes) => bytes.length + 1
  | .lit _ => 1
  | .nil => 1
  | .ptr d => uptoBulk d + 1
  | .slice elems spare => uptoBulkAll elems + uptoBulkAll spare + 1
  | .agg parts => uptoBulkAll parts + 1
  | .iface _ d => uptoBulk d + 1
  | .map entries => uptoBulkEntries entries + 1
  | .held _ => 1
def uptoBulkAll {H : Type} : List (DataW H) → Nat
  | [] => 0
  | d :: r => uptoBulk d + uptoBulkAll r
def uptoBulkEntries {H : Type} : List (Lit × DataW H) → Nat
  | [] => 0
  | x :: r => uptoBulkEntry x + uptoBulkEntries r
def uptoBulkEntry {H : Type} : Lit × DataW H → Nat
  | (.string bytes, d) => bytes.length + uptoBulk d + 1
  | (_, d) => uptoBulk d + 1
 end
def uptoSmall : (H : Type) → List (DataW H) → Bool := fun _ ds => decide (uptoBulkAll ds ≤ 1048576)
def OpenSpec.upto (s : _root_.Go.ChangeSpec) : _root_.Go.OpenSpec := { _root_.Go.OpenSpec.ofChange s with cond := some uptoSmall }

/-- 'harrowlaw02.CrcTells', WHERE WHAT IT READS IS OF BULK AT MOST 1048576: true; the input reads as it did. -/
def crcTellsUptoRow : OpenClaim := { program := "ytnbcnhhonleepaadoor", sum := "441364025ae04814edcb2fb384288d81887a12da89218732a39c5fec88e1a0ef", func := "harrow/harrowlaw02.CrcTells", spec := "crcTells", named := ["harrow/crc.half"], apart := false, laid := [("harrow/crc.half", laid_harrow_crc_half)], narrowed := true }
def CrcTellsUptoSaid : Prop := crcTellsUptoRow.holds Tryd.pinned (OpenSpec.upto crcTellsSpec)

/-- 'harrowlaw02.CrcMore', WHERE WHAT IT READS IS OF BULK AT MOST 1048576: true; the input reads as it did. -/
def crcMoreUptoRow : OpenClaim := { program := "ytnbcnhhonleepaadoor", sum := "441364025ae04814edcb2fb384288d81887a12da89218732a39c5fec88e1a0ef", func := "harrow/harrowlaw02.CrcMore", spec := "crcMore", named := ["harrow/crc.half"], apart := false, laid := [("harrow/crc.half", laid_harrow_crc_half)], narrowed := true }
def CrcMoreUptoSaid : Prop := crcMoreUptoRow.holds Tryd.pinned (OpenSpec.upto crcMoreSpec)

/-- 'harrowlaw02.CrcChanges', WHERE WHAT IT READS IS OF BULK AT MOST 1048576: true; the input reads as it did. -/
def crcChangesUptoRow : OpenClaim := { program := "ytnbcnhhonleepaadoor", sum := "441364025ae04814edcb2fb384288d81887a12da89218732a39c5fec88e1a0ef", func := "harrow/harrowlaw02.CrcChanges", spec := "crcChanges", named := ["harrow/crc.half"], apart := false, laid := [("harrow/crc.half", laid_harrow_crc_half)], narrowed := true }
def CrcChangesUptoSaid : Prop := crcChangesUptoRow.holds Tryd.pinned (OpenSpec.upto crcChangesSpec)

/-- 'harrowlaw02.CrcApart', WHERE WHAT IT READS IS OF BULK AT MOST 1048576: true; the input reads as it did. -/
def crcApartUptoRow : OpenClaim := { program := "ytnbcnhhonleepaadoor", sum := "441364025ae04814edcb2fb384288d81887a12da89218732a39c5fec88e1a0ef", func := "harrow/harrowlaw02.CrcApart", spec := "crcApart", named := ["harrow/crc.half"], apart := false, laid := [("harrow/crc.half", laid_harrow_crc_half)], narrowed := true }
def CrcApartUptoSaid : Prop := crcApartUptoRow.holds Tryd.pinned (OpenSpec.upto crcApartSpec)

/-- 'harrowlaw02.CrcEnds', WHERE WHAT IT READS IS OF BULK AT MOST 1048576: true; the input reads as it did. -/
def crcEndsUptoRow : OpenClaim := { program := "ytnbcnhhonleepaadoor", sum := "441364025ae04814edcb2fb384288d81887a12da89218732a39c5fec88e1a0ef", func := "harrow/harrowlaw02.CrcEnds", spec := "crcEnds", named := ["harrow/crc.half"], apart := false, laid := [("harrow/crc.half", laid_harrow_crc_half)], narrowed := true }
def CrcEndsUptoSaid : Prop := crcEndsUptoRow.holds Tryd.pinned (OpenSpec.upto crcEndsSpec)

/-- 'harrowlaw02.CrcNoughts', WHERE WHAT IT READS IS OF BULK AT MOST 1048576: true; the input reads as it did. -/
def crcNoughtsUptoRow : OpenClaim := { program := "ytnbcnhhonleepaadoor", sum := "441364025ae04814edcb2fb384288d81887a12da89218732a39c5fec88e1a0ef", func := "harrow/harrowlaw02.CrcNoughts", spec := "crcNoughts", named := ["harrow/crc.half"], apart := false, laid := [("harrow/crc.half", laid_harrow_crc_half)], narrowed := true }
def CrcNoughtsUptoSaid : Prop := crcNoughtsUptoRow.holds Tryd.pinned (OpenSpec.upto crcNoughtsSpec)

/-- 'harrowlaw02.CrcCut', WHERE WHAT IT READS IS OF BULK AT MOST 1048576: true; the input reads as it did. -/
def crcCutUptoRow : OpenClaim := { program := "ytnbcnhhonleepaadoor", sum := "441364025ae04814edcb2fb384288d81887a12da89218732a39c5fec88e1a0ef", func := "harrow/harrowlaw02.CrcCut", spec := "crcCut", named := ["harrow/crc.half"], apart := false, laid := [("harrow/crc.half", laid_harrow_crc_half)], narrowed := true }
def CrcCutUptoSaid : Prop := crcCutUptoRow.holds Tryd.pinned (OpenSpec.upto crcCutSpec)

/-- 'harrowlaw02.CrcTurned', WHERE WHAT IT READS IS OF BULK AT MOST 1048576: true; the input reads as it did. -/
def crcTurnedUptoRow : OpenClaim := { program := "ytnbcnhhonleepaadoor", sum := "441364025ae04814edcb2fb384288d81887a12da89218732a39c5fec88e1a0ef", func := "harrow/harrowlaw02.CrcTurned", spec := "crcTurned", named := ["harrow/crc.half"], apart := false, laid := [("harrow/crc.half", laid_harrow_crc_half)], narrowed := true }
def CrcTurnedUptoSaid : Prop := crcTurnedUptoRow.holds Tryd.pinned (OpenSpec.upto crcTurnedSpec)

end Rows
end Go.Proofs.YtnbcnhhonleepaaDoor
