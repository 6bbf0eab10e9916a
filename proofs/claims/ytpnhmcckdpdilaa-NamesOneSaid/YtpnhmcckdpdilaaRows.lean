/-
  No cell of these rows narrows 'for every input' (looked for: loops, veiled, ifaces, maps, wideKeys, modest, calm, conditions, laid).
  DERIVED. THE GIVEN ROWS OF THIS SEAT. 6 by the template 'for every input the law returns true; each argument reads behind the call as it read before'; 0 by the template 'total and deterministic' (their statements: YtpnhmcckdpdilaaTotals.lean).
  GIVEN WITH THE SEED: the statements are not yours to turn. If you find one false, say at which input.
  Laid BY PROGRAM, IN A SANDBOX (cutbox-rows.mjs): the forced cells as the released guide's own fill.sh prints them over the translation 268154b19da02fb1… (all of the seat's roots in one cut). By AI agents, Wed Nov 11 2026. No macro, syntax, notation, axiom, sorry.
-/
import Derived.Test.YtpnhmcckdpdilaaChecked
import GoSem.Claim
import GoSem.ClaimJoined
import GoSem.ClaimMapViews
import Derived.JoinedTies
import Derived.KernelRfl
namespace Go.Proofs.Ytpnhmcckdpdilaa
/- THE CELL 'sum', in the pinned program and in every row, IS THE sha256 OF THE DUMP (.gsa) THAT YtpnhmcckdpdilaaProg.lean LOADS. Nothing in Lean hashes anything: it is a label: what it is worth is what the hold of that sum in a sandbox is worth. -/
noncomputable def Try.pinned : Pinned := { name := "ytpnhmcckdpdilaa", sum := "268154b19da02fb1cc73bdc8b7e63aa731986cc59dd3afdbc0f3ef6c03a60093", checked := Try.checked }
namespace Rows
def none {H : Type} : Left H := { results := [], args := [] }

/-- 'harrowlaw17.NamesTells': WHATEVER THE INPUT: true; the input reads as it did. -/
def namesTellsSpec : ChangeSpec := { name := "namesTells", fn := fun _ => fun
  | [d] => { results := [.lit (.bool true)], args := [d] }
  | _ => none }
def namesTellsRow : OpenClaim := { program := "ytpnhmcckdpdilaa", sum := "268154b19da02fb1cc73bdc8b7e63aa731986cc59dd3afdbc0f3ef6c03a60093", func := "harrow/harrowlaw17.NamesTells", spec := "namesTells", inPlace := ["internal/bytealg.IndexByteString", "internal/abi.NoEscape"], unfollowed := true, recurses := true, apart := false }
def NamesTellsSaid : Prop := namesTellsRow.holds Try.pinned (OpenSpec.ofChange namesTellsSpec)

/-- ITS FALSE NEIGHBOUR: 'it returns false'. Refute it at one input. -/
def namesTellsWrong : ChangeSpec := { name := "namesTells", fn := fun _ => fun
  | [d] => { results := [.lit (.bool false)], args := [d] }
  | _ => none }
def NamesTellsWrongFalsely : Prop := namesTellsRow.holds Try.pinned (OpenSpec.ofChange namesTellsWrong)

/-- 'harrowlaw17.NamesJoins': WHATEVER THE INPUT: true; the input reads as it did. -/
def namesJoinsSpec : ChangeSpec := { name := "namesJoins", fn := fun _ => fun
  | [d] => { results := [.lit (.bool true)], args := [d] }
  | _ => none }
def namesJoinsRow : OpenClaim := { program := "ytpnhmcckdpdilaa", sum := "268154b19da02fb1cc73bdc8b7e63aa731986cc59dd3afdbc0f3ef6c03a60093", func := "harrow/harrowlaw17.NamesJoins", spec := "namesJoins", inPlace := ["internal/bytealg.IndexByteString", "internal/abi.NoEscape"], unfollowed := true, recurses := true, apart := false }
def NamesJoinsSaid : Prop := namesJoinsRow.holds Try.pinned (OpenSpec.ofChange namesJoinsSpec)

/-- ITS FALSE NEIGHBOUR: 'it returns false'. Refute it at one input. -/
def namesJoinsWrong : ChangeSpec := { name := "namesJoins", fn := fun _ => fun
  | [d] => { results := [.lit (.bool false)], args := [d] }
  | _ => none }
def NamesJoinsWrongFalsely : Prop := namesJoinsRow.holds Try.pinned (OpenSpec.ofChange namesJoinsWrong)

/-- 'harrowlaw17.NamesBytes': WHATEVER THE INPUT: true; the input reads as it did. -/
def namesBytesSpec : ChangeSpec := { name := "namesBytes", fn := fun _ => fun
  | [d1, d2] => { results := [.lit (.bool true)], args := [d1, d2] }
  | _ => none }
def namesBytesRow : OpenClaim := { program := "ytpnhmcckdpdilaa", sum := "268154b19da02fb1cc73bdc8b7e63aa731986cc59dd3afdbc0f3ef6c03a60093", func := "harrow/harrowlaw17.NamesBytes", spec := "namesBytes", inPlace := ["internal/bytealg.IndexByteString", "internal/abi.NoEscape"], unfollowed := true, recurses := true, apart := false }
def NamesBytesSaid : Prop := namesBytesRow.holds Try.pinned (OpenSpec.ofChange namesBytesSpec)

/-- ITS FALSE NEIGHBOUR: 'it returns false'. Refute it at one input. -/
def namesBytesWrong : ChangeSpec := { name := "namesBytes", fn := fun _ => fun
  | [d1, d2] => { results := [.lit (.bool false)], args := [d1, d2] }
  | _ => none }
def NamesBytesWrongFalsely : Prop := namesBytesRow.holds Try.pinned (OpenSpec.ofChange namesBytesWrong)

/-- 'harrowlaw17.NamesLong': WHATEVER THE INPUT: true; the input reads as it did. -/
def namesLongSpec : ChangeSpec := { name := "namesLong", fn := fun _ => fun
  | [d1, d2] => { results := [.lit (.bool true)], args := [d1, d2] }
  | _ => none }
def namesLongRow : OpenClaim := { program := "ytpnhmcckdpdilaa", sum := "268154b19da02fb1cc73bdc8b7e63aa731986cc59dd3afdbc0f3ef6c03a60093", func := "harrow/harrowlaw17.NamesLong", spec := "namesLong", inPlace := ["internal/bytealg.IndexByteString", "internal/abi.NoEscape"], unfollowed := true, recurses := true, apart := false }
def NamesLongSaid : Prop := namesLongRow.holds Try.pinned (OpenSpec.ofChange namesLongSpec)

/-- ITS FALSE NEIGHBOUR: 'it returns false'. Refute it at one input. -/
def namesLongWrong : ChangeSpec := { name := "namesLong", fn := fun _ => fun
  | [d1, d2] => { results := [.lit (.bool false)], args := [d1, d2] }
  | _ => none }
def NamesLongWrongFalsely : Prop := namesLongRow.holds Try.pinned (OpenSpec.ofChange namesLongWrong)

/-- 'harrowlaw17.NamesCut': WHATEVER THE INPUT: true; the input reads as it did. -/
def namesCutSpec : ChangeSpec := { name := "namesCut", fn := fun _ => fun
  | [d1, d2] => { results := [.lit (.bool true)], args := [d1, d2] }
  | _ => none }
def namesCutRow : OpenClaim := { program := "ytpnhmcckdpdilaa", sum := "268154b19da02fb1cc73bdc8b7e63aa731986cc59dd3afdbc0f3ef6c03a60093", func := "harrow/harrowlaw17.NamesCut", spec := "namesCut", inPlace := ["internal/bytealg.IndexByteString", "internal/abi.NoEscape"], unfollowed := true, recurses := true, apart := false }
def NamesCutSaid : Prop := namesCutRow.holds Try.pinned (OpenSpec.ofChange namesCutSpec)

/-- ITS FALSE NEIGHBOUR: 'it returns false'. Refute it at one input. -/
def namesCutWrong : ChangeSpec := { name := "namesCut", fn := fun _ => fun
  | [d1, d2] => { results := [.lit (.bool false)], args := [d1, d2] }
  | _ => none }
def NamesCutWrongFalsely : Prop := namesCutRow.holds Try.pinned (OpenSpec.ofChange namesCutWrong)

/-- 'harrowlaw17.NamesOne': WHATEVER THE INPUT: true; the input reads as it did. -/
def namesOneSpec : ChangeSpec := { name := "namesOne", fn := fun _ => fun
  | [d] => { results := [.lit (.bool true)], args := [d] }
  | _ => none }
def namesOneRow : OpenClaim := { program := "ytpnhmcckdpdilaa", sum := "268154b19da02fb1cc73bdc8b7e63aa731986cc59dd3afdbc0f3ef6c03a60093", func := "harrow/harrowlaw17.NamesOne", spec := "namesOne", inPlace := ["internal/bytealg.IndexByteString", "internal/abi.NoEscape"], unfollowed := true, recurses := true, apart := false }
def NamesOneSaid : Prop := namesOneRow.holds Try.pinned (OpenSpec.ofChange namesOneSpec)

/-- ITS FALSE NEIGHBOUR: 'it returns false'. Refute it at one input. -/
def namesOneWrong : ChangeSpec := { name := "namesOne", fn := fun _ => fun
  | [d] => { results := [.lit (.bool false)], args := [d] }
  | _ => none }
def NamesOneWrongFalsely : Prop := namesOneRow.holds Try.pinned (OpenSpec.ofChange namesOneWrong)

/- THE SECOND FORM. 'bulk': how many values and letters a reading holds, each counted each time it is reached (what is shared counts as often as it is met; a slice's spare places count too). A statement '..UptoSaid' is the law's where the arguments, and the package variables that the reading takes, are together of bulk at most 1048576: NARROWER than '..Said'. Prove '..Said' where nothing that the law and all that it calls make is longer than what came in: it says more and counts as full. Else prove '..UptoSaid'. A law counts once. -/
mutual
def uptoBulk {H : Type} : DataW H → Nat
  | .lit (.string bytes) => bytes.length + 1
  | .lit _ => 1
  | .nil => 1
  | .ptr d => uptoBulk d + 1
  | .slice elems spare => uptoBulkAll elems + uptoBulkAll spare + 1
  | .agg parts => uptoBulkAll parts + 1
  | .iface _ d => uptoBulk d + 1
  | .map entries => uptoBulkEntries entries + 1
  | .held _ => 1
def uptoBulkAll {H : Type} : List (DataW H) → Nat
  | [] => 0
  | d :: r => uptoBulk d + uptoBulkAll r
def uptoBulkEntries {H : Type} : List (Lit × DataW H) → Nat
  | [] => 0
  | x :: r => uptoBulkEntry x + uptoBulkEntries r
def uptoBulkEntry {H : Type} : Lit × DataW H → Nat
  | (.string bytes, d) => bytes.length + uptoBulk d + 1
  | (_, d) => uptoBulk d + 1
 end
def uptoSmall : (H : Type) → List (DataW H) → Bool := fun _ ds => decide (uptoBulkAll ds ≤ 1048576)
def OpenSpec.upto (s : _root_.Go.ChangeSpec) : _root_.Go.OpenSpec := { _root_.Go.OpenSpec.ofChange s with cond := some uptoSmall }

/-- 'harrowlaw17.NamesTells', WHERE WHAT IT READS IS OF BULK AT MOST 1048576: true; the input reads as it did. -/
def namesTellsUptoRow : OpenClaim := { program := "ytpnhmcckdpdilaa", sum := "268154b19da02fb1cc73bdc8b7e63aa731986cc59dd3afdbc0f3ef6c03a60093", func := "harrow/harrowlaw17.NamesTells", spec := "namesTells", inPlace := ["internal/bytealg.IndexByteString", "internal/abi.NoEscape"], unfollowed := true, recurses := true, apart := false, narrowed := true }
def NamesTellsUptoSaid : Prop := namesTellsUptoRow.holds Try.pinned (OpenSpec.upto namesTellsSpec)

/-- 'harrowlaw17.NamesJoins', WHERE WHAT IT READS IS OF BULK AT MOST 1048576: true; the input reads as it did. -/
def namesJoinsUptoRow : OpenClaim := { program := "ytpnhmcckdpdilaa", sum := "268154b19da02fb1cc73bdc8b7e63aa731986cc59dd3afdbc0f3ef6c03a60093", func := "harrow/harrowlaw17.NamesJoins", spec := "namesJoins", inPlace := ["internal/bytealg.IndexByteString", "internal/abi.NoEscape"], unfollowed := true, recurses := true, apart := false, narrowed := true }
def NamesJoinsUptoSaid : Prop := namesJoinsUptoRow.holds Try.pinned (OpenSpec.upto namesJoinsSpec)

/-- 'harrowlaw17.NamesBytes', WHERE WHAT IT READS IS OF BULK AT MOST 1048576: true; the input reads as it did. -/
def namesBytesUptoRow : OpenClaim := { program := "ytpnhmcckdpdilaa", sum := "268154b19da02fb1cc73bdc8b7e63aa731986cc59dd3afdbc0f3ef6c03a60093", func := "harrow/harrowlaw17.NamesBytes", spec := "namesBytes", inPlace := ["internal/bytealg.IndexByteString", "internal/abi.NoEscape"], unfollowed := true, recurses := true, apart := false, narrowed := true }
def NamesBytesUptoSaid : Prop := namesBytesUptoRow.holds Try.pinned (OpenSpec.upto namesBytesSpec)

/-- 'harrowlaw17.NamesLong', WHERE WHAT IT READS IS OF BULK AT MOST 1048576: true; the input reads as it did. -/
def namesLongUptoRow : OpenClaim := { program := "ytpnhmcckdpdilaa", sum := "268154b19da02fb1cc73bdc8b7e63aa731986cc59dd3afdbc0f3ef6c03a60093", func := "harrow/harrowlaw17.NamesLong", spec := "namesLong", inPlace := ["internal/bytealg.IndexByteString", "internal/abi.NoEscape"], unfollowed := true, recurses := true, apart := false, narrowed := true }
def NamesLongUptoSaid : Prop := namesLongUptoRow.holds Try.pinned (OpenSpec.upto namesLongSpec)

/-- 'harrowlaw17.NamesCut', WHERE WHAT IT READS IS OF BULK AT MOST 1048576: true; the input reads as it did. -/
def namesCutUptoRow : OpenClaim := { program := "ytpnhmcckdpdilaa", sum := "268154b19da02fb1cc73bdc8b7e63aa731986cc59dd3afdbc0f3ef6c03a60093", func := "harrow/harrowlaw17.NamesCut", spec := "namesCut", inPlace := ["internal/bytealg.IndexByteString", "internal/abi.NoEscape"], unfollowed := true, recurses := true, apart := false, narrowed := true }
def NamesCutUptoSaid : Prop := namesCutUptoRow.holds Try.pinned (OpenSpec.upto namesCutSpec)

/-- 'harrowlaw17.NamesOne', WHERE WHAT IT READS IS OF BULK AT MOST 1048576: true; the input reads as it did. -/
def namesOneUptoRow : OpenClaim := { program := "ytpnhmcckdpdilaa", sum := "268154b19da02fb1cc73bdc8b7e63aa731986cc59dd3afdbc0f3ef6c03a60093", func := "harrow/harrowlaw17.NamesOne", spec := "namesOne", inPlace := ["internal/bytealg.IndexByteString", "internal/abi.NoEscape"], unfollowed := true, recurses := true, apart := false, narrowed := true }
def NamesOneUptoSaid : Prop := namesOneUptoRow.holds Try.pinned (OpenSpec.upto namesOneSpec)

end Rows
end Go.Proofs.Ytpnhmcckdpdilaa
