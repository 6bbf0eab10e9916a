/-
  No cell of these rows narrows 'for every input' (looked for: loops, veiled, ifaces, maps, wideKeys, modest, calm, conditions, laid).
  DERIVED. THE GIVEN ROWS OF THIS SEAT. 9 by the template 'for every input the law returns true; each argument reads behind the call as it read before'; 0 by the template 'total and deterministic' (their statements: YtmjknaldpeoheaaTotals.lean).
  GIVEN WITH THE SEED: the statements are not yours to turn. If you find one false, say at which input.
  Laid BY PROGRAM, IN A SANDBOX (cutbox-rows.mjs): the forced cells as the released guide's own fill.sh prints them over the translation ab7a6173991c5b77… (all of the seat's roots in one cut). By AI agents, Wed Nov 11 2026. No macro, syntax, notation, axiom, sorry.
-/
import Derived.Test.YtmjknaldpeoheaaChecked
import GoSem.Claim
import GoSem.ClaimJoined
import GoSem.ClaimMapViews
import Derived.JoinedTies
import Derived.KernelRfl
namespace Go.Proofs.Ytmjknaldpeoheaa
/- THE CELL 'sum', in the pinned program and in every row, IS THE sha256 OF THE DUMP (.gsa) THAT YtmjknaldpeoheaaProg.lean LOADS. Nothing in Lean hashes anything: it is a label: what it is worth is what the hold of that sum in a sandbox is worth. -/
noncomputable def Try.pinned : Pinned := { name := "ytmjknaldpeoheaa", sum := "ab7a6173991c5b77a6fd99069813fb4f98c48422241ba5b969c6545f3254c34d", checked := Try.checked }
namespace Rows
def none {H : Type} : Left H := { results := [], args := [] }

/-- 'harrowlaw13.InodeTells': WHATEVER THE INPUT: true; the input reads as it did. -/
def inodeTellsSpec : ChangeSpec := { name := "inodeTells", fn := fun _ => fun
  | [d1, d2] => { results := [.lit (.bool true)], args := [d1, d2] }
  | _ => none }
def inodeTellsRow : OpenClaim := { program := "ytmjknaldpeoheaa", sum := "ab7a6173991c5b77a6fd99069813fb4f98c48422241ba5b969c6545f3254c34d", func := "harrow/harrowlaw13.InodeTells", spec := "inodeTells", unfollowed := true, recurses := true, apart := false }
def InodeTellsSaid : Prop := inodeTellsRow.holds Try.pinned (OpenSpec.ofChange inodeTellsSpec)

/-- ITS FALSE NEIGHBOUR: 'it returns false'. Refute it at one input. -/
def inodeTellsWrong : ChangeSpec := { name := "inodeTells", fn := fun _ => fun
  | [d1, d2] => { results := [.lit (.bool false)], args := [d1, d2] }
  | _ => none }
def InodeTellsWrongFalsely : Prop := inodeTellsRow.holds Try.pinned (OpenSpec.ofChange inodeTellsWrong)

/-- 'harrowlaw13.InodeBack': WHATEVER THE INPUT: true; the input reads as it did. -/
def inodeBackSpec : ChangeSpec := { name := "inodeBack", fn := fun _ => fun
  | [d1, d2, d3] => { results := [.lit (.bool true)], args := [d1, d2, d3] }
  | _ => none }
def inodeBackRow : OpenClaim := { program := "ytmjknaldpeoheaa", sum := "ab7a6173991c5b77a6fd99069813fb4f98c48422241ba5b969c6545f3254c34d", func := "harrow/harrowlaw13.InodeBack", spec := "inodeBack", unfollowed := true, recurses := true, apart := false }
def InodeBackSaid : Prop := inodeBackRow.holds Try.pinned (OpenSpec.ofChange inodeBackSpec)

/-- ITS FALSE NEIGHBOUR: 'it returns false'. Refute it at one input. -/
def inodeBackWrong : ChangeSpec := { name := "inodeBack", fn := fun _ => fun
  | [d1, d2, d3] => { results := [.lit (.bool false)], args := [d1, d2, d3] }
  | _ => none }
def InodeBackWrongFalsely : Prop := inodeBackRow.holds Try.pinned (OpenSpec.ofChange inodeBackWrong)

/-- 'harrowlaw13.InodeBlocks': WHATEVER THE INPUT: true; the input reads as it did. -/
def inodeBlocksSpec : ChangeSpec := { name := "inodeBlocks", fn := fun _ => fun
  | [d] => { results := [.lit (.bool true)], args := [d] }
  | _ => none }
def inodeBlocksRow : OpenClaim := { program := "ytmjknaldpeoheaa", sum := "ab7a6173991c5b77a6fd99069813fb4f98c48422241ba5b969c6545f3254c34d", func := "harrow/harrowlaw13.InodeBlocks", spec := "inodeBlocks", unfollowed := true, recurses := true, apart := false }
def InodeBlocksSaid : Prop := inodeBlocksRow.holds Try.pinned (OpenSpec.ofChange inodeBlocksSpec)

/-- ITS FALSE NEIGHBOUR: 'it returns false'. Refute it at one input. -/
def inodeBlocksWrong : ChangeSpec := { name := "inodeBlocks", fn := fun _ => fun
  | [d] => { results := [.lit (.bool false)], args := [d] }
  | _ => none }
def InodeBlocksWrongFalsely : Prop := inodeBlocksRow.holds Try.pinned (OpenSpec.ofChange inodeBlocksWrong)

/-- 'harrowlaw13.InodeApart': WHATEVER THE INPUT: true; the input reads as it did. -/
def inodeApartSpec : ChangeSpec := { name := "inodeApart", fn := fun _ => fun
  | [d1, d2] => { results := [.lit (.bool true)], args := [d1, d2] }
  | _ => none }
def inodeApartRow : OpenClaim := { program := "ytmjknaldpeoheaa", sum := "ab7a6173991c5b77a6fd99069813fb4f98c48422241ba5b969c6545f3254c34d", func := "harrow/harrowlaw13.InodeApart", spec := "inodeApart", unfollowed := true, recurses := true, apart := false }
def InodeApartSaid : Prop := inodeApartRow.holds Try.pinned (OpenSpec.ofChange inodeApartSpec)

/-- ITS FALSE NEIGHBOUR: 'it returns false'. Refute it at one input. -/
def inodeApartWrong : ChangeSpec := { name := "inodeApart", fn := fun _ => fun
  | [d1, d2] => { results := [.lit (.bool false)], args := [d1, d2] }
  | _ => none }
def InodeApartWrongFalsely : Prop := inodeApartRow.holds Try.pinned (OpenSpec.ofChange inodeApartWrong)

/-- 'harrowlaw13.InodeSizes': WHATEVER THE INPUT: true; the input reads as it did. -/
def inodeSizesSpec : ChangeSpec := { name := "inodeSizes", fn := fun _ => fun
  | [d1, d2] => { results := [.lit (.bool true)], args := [d1, d2] }
  | _ => none }
def inodeSizesRow : OpenClaim := { program := "ytmjknaldpeoheaa", sum := "ab7a6173991c5b77a6fd99069813fb4f98c48422241ba5b969c6545f3254c34d", func := "harrow/harrowlaw13.InodeSizes", spec := "inodeSizes", unfollowed := true, recurses := true, apart := false }
def InodeSizesSaid : Prop := inodeSizesRow.holds Try.pinned (OpenSpec.ofChange inodeSizesSpec)

/-- ITS FALSE NEIGHBOUR: 'it returns false'. Refute it at one input. -/
def inodeSizesWrong : ChangeSpec := { name := "inodeSizes", fn := fun _ => fun
  | [d1, d2] => { results := [.lit (.bool false)], args := [d1, d2] }
  | _ => none }
def InodeSizesWrongFalsely : Prop := inodeSizesRow.holds Try.pinned (OpenSpec.ofChange inodeSizesWrong)

/-- 'harrowlaw13.InodeKinds': WHATEVER THE INPUT: true; the input reads as it did. -/
def inodeKindsSpec : ChangeSpec := { name := "inodeKinds", fn := fun _ => fun
  | [d1, d2] => { results := [.lit (.bool true)], args := [d1, d2] }
  | _ => none }
def inodeKindsRow : OpenClaim := { program := "ytmjknaldpeoheaa", sum := "ab7a6173991c5b77a6fd99069813fb4f98c48422241ba5b969c6545f3254c34d", func := "harrow/harrowlaw13.InodeKinds", spec := "inodeKinds", unfollowed := true, recurses := true, apart := false }
def InodeKindsSaid : Prop := inodeKindsRow.holds Try.pinned (OpenSpec.ofChange inodeKindsSpec)

/-- ITS FALSE NEIGHBOUR: 'it returns false'. Refute it at one input. -/
def inodeKindsWrong : ChangeSpec := { name := "inodeKinds", fn := fun _ => fun
  | [d1, d2] => { results := [.lit (.bool false)], args := [d1, d2] }
  | _ => none }
def InodeKindsWrongFalsely : Prop := inodeKindsRow.holds Try.pinned (OpenSpec.ofChange inodeKindsWrong)

/-- 'harrowlaw13.InodeReads': WHATEVER THE INPUT: true; the input reads as it did. -/
def inodeReadsSpec : ChangeSpec := { name := "inodeReads", fn := fun _ => fun
  | [d] => { results := [.lit (.bool true)], args := [d] }
  | _ => none }
def inodeReadsRow : OpenClaim := { program := "ytmjknaldpeoheaa", sum := "ab7a6173991c5b77a6fd99069813fb4f98c48422241ba5b969c6545f3254c34d", func := "harrow/harrowlaw13.InodeReads", spec := "inodeReads", unfollowed := true, recurses := true, apart := false }
def InodeReadsSaid : Prop := inodeReadsRow.holds Try.pinned (OpenSpec.ofChange inodeReadsSpec)

/-- ITS FALSE NEIGHBOUR: 'it returns false'. Refute it at one input. -/
def inodeReadsWrong : ChangeSpec := { name := "inodeReads", fn := fun _ => fun
  | [d] => { results := [.lit (.bool false)], args := [d] }
  | _ => none }
def InodeReadsWrongFalsely : Prop := inodeReadsRow.holds Try.pinned (OpenSpec.ofChange inodeReadsWrong)

/-- 'harrowlaw13.InodeRows': WHATEVER THE INPUT: true; the input reads as it did. -/
def inodeRowsSpec : ChangeSpec := { name := "inodeRows", fn := fun _ => fun
  | [d] => { results := [.lit (.bool true)], args := [d] }
  | _ => none }
def inodeRowsRow : OpenClaim := { program := "ytmjknaldpeoheaa", sum := "ab7a6173991c5b77a6fd99069813fb4f98c48422241ba5b969c6545f3254c34d", func := "harrow/harrowlaw13.InodeRows", spec := "inodeRows", unfollowed := true, recurses := true, apart := false }
def InodeRowsSaid : Prop := inodeRowsRow.holds Try.pinned (OpenSpec.ofChange inodeRowsSpec)

/-- ITS FALSE NEIGHBOUR: 'it returns false'. Refute it at one input. -/
def inodeRowsWrong : ChangeSpec := { name := "inodeRows", fn := fun _ => fun
  | [d] => { results := [.lit (.bool false)], args := [d] }
  | _ => none }
def InodeRowsWrongFalsely : Prop := inodeRowsRow.holds Try.pinned (OpenSpec.ofChange inodeRowsWrong)

/-- 'harrowlaw13.InodeRow': WHATEVER THE INPUT: true; the input reads as it did. -/
def inodeRowSpec : ChangeSpec := { name := "inodeRow", fn := fun _ => fun
  | [d1, d2] => { results := [.lit (.bool true)], args := [d1, d2] }
  | _ => none }
def inodeRowRow : OpenClaim := { program := "ytmjknaldpeoheaa", sum := "ab7a6173991c5b77a6fd99069813fb4f98c48422241ba5b969c6545f3254c34d", func := "harrow/harrowlaw13.InodeRow", spec := "inodeRow", unfollowed := true, recurses := true, apart := false }
def InodeRowSaid : Prop := inodeRowRow.holds Try.pinned (OpenSpec.ofChange inodeRowSpec)

/-- ITS FALSE NEIGHBOUR: 'it returns false'. Refute it at one input. -/
def inodeRowWrong : ChangeSpec := { name := "inodeRow", fn := fun _ => fun
  | [d1, d2] => { results := [.lit (.bool false)], args := [d1, d2] }
  | _ => none }
def InodeRowWrongFalsely : Prop := inodeRowRow.holds Try.pinned (OpenSpec.ofChange inodeRowWrong)

/- THE SECOND FORM. 'bulk': how many values and letters a reading holds, each counted each time it is reached (what is shared counts as often as it is met; a slice's spare places count too). A statement '..UptoSaid' is the law's where the arguments, and the package variables that the reading takes, are together of bulk at most 1048576: NARROWER than '..Said'. Prove '..Said' where nothing that the law and all that it calls make is longer than what came in: it says more and counts as full. Else prove '..UptoSaid'. A law counts once. -/
mutual
def uptoBulk {H : Type} : DataW H → Nat
  | .lit (.string bytes) => bytes.length + 1
  | .lit _ => 1
  | .nil => 1
  | .ptr d => uptoBulk d + 1
  | .slice elems spare => uptoBulkAll elems + uptoBulkAll spare + 1
  | .agg parts => uptoBulkAll parts + 1
  | .iface _ d => uptoBulk d + 1
  | .map entries => uptoBulkEntries entries + 1
  | .held _ => 1
def uptoBulkAll {H : Type} : List (DataW H) → Nat
  | [] => 0
  | d :: r => uptoBulk d + uptoBulkAll r
def uptoBulkEntries {H : Type} : List (Lit × DataW H) → Nat
  | [] => 0
  | x :: r => uptoBulkEntry x + uptoBulkEntries r
def uptoBulkEntry {H : Type} : Lit × DataW H → Nat
  | (.string bytes, d) => bytes.length + uptoBulk d + 1
  | (_, d) => uptoBulk d + 1
 end
def uptoSmall : (H : Type) → List (DataW H) → Bool := fun _ ds => decide (uptoBulkAll ds ≤ 1048576)
def OpenSpec.upto (s : _root_.Go.ChangeSpec) : _root_.Go.OpenSpec := { _root_.Go.OpenSpec.ofChange s with cond := some uptoSmall }

/-- 'harrowlaw13.InodeTells', WHERE WHAT IT READS IS OF BULK AT MOST 1048576: true; the input reads as it did. -/
def inodeTellsUptoRow : OpenClaim := { program := "ytmjknaldpeoheaa", sum := "ab7a6173991c5b77a6fd99069813fb4f98c48422241ba5b969c6545f3254c34d", func := "harrow/harrowlaw13.InodeTells", spec := "inodeTells", unfollowed := true, recurses := true, apart := false, narrowed := true }
def InodeTellsUptoSaid : Prop := inodeTellsUptoRow.holds Try.pinned (OpenSpec.upto inodeTellsSpec)

/-- 'harrowlaw13.InodeBack', WHERE WHAT IT READS IS OF BULK AT MOST 1048576: true; the input reads as it did. -/
def inodeBackUptoRow : OpenClaim := { program := "ytmjknaldpeoheaa", sum := "ab7a6173991c5b77a6fd99069813fb4f98c48422241ba5b969c6545f3254c34d", func := "harrow/harrowlaw13.InodeBack", spec := "inodeBack", unfollowed := true, recurses := true, apart := false, narrowed := true }
def InodeBackUptoSaid : Prop := inodeBackUptoRow.holds Try.pinned (OpenSpec.upto inodeBackSpec)

/-- 'harrowlaw13.InodeBlocks', WHERE WHAT IT READS IS OF BULK AT MOST 1048576: true; the input reads as it did. -/
def inodeBlocksUptoRow : OpenClaim := { program := "ytmjknaldpeoheaa", sum := "ab7a6173991c5b77a6fd99069813fb4f98c48422241ba5b969c6545f3254c34d", func := "harrow/harrowlaw13.InodeBlocks", spec := "inodeBlocks", unfollowed := true, recurses := true, apart := false, narrowed := true }
def InodeBlocksUptoSaid : Prop := inodeBlocksUptoRow.holds Try.pinned (OpenSpec.upto inodeBlocksSpec)

/-- 'harrowlaw13.InodeApart', WHERE WHAT IT READS IS OF BULK AT MOST 1048576: true; the input reads as it did. -/
def inodeApartUptoRow : OpenClaim := { program := "ytmjknaldpeoheaa", sum := "ab7a6173991c5b77a6fd99069813fb4f98c48422241ba5b969c6545f3254c34d", func := "harrow/harrowlaw13.InodeApart", spec := "inodeApart", unfollowed := true, recurses := true, apart := false, narrowed := true }
def InodeApartUptoSaid : Prop := inodeApartUptoRow.holds Try.pinned (OpenSpec.upto inodeApartSpec)

/-- 'harrowlaw13.InodeSizes', WHERE WHAT IT READS IS OF BULK AT MOST 1048576: true; the input reads as it did. -/
def inodeSizesUptoRow : OpenClaim := { program := "ytmjknaldpeoheaa", sum := "ab7a6173991c5b77a6fd99069813fb4f98c48422241ba5b969c6545f3254c34d", func := "harrow/harrowlaw13.InodeSizes", spec := "inodeSizes", unfollowed := true, recurses := true, apart := false, narrowed := true }
def InodeSizesUptoSaid : Prop := inodeSizesUptoRow.holds Try.pinned (OpenSpec.upto inodeSizesSpec)

/-- 'harrowlaw13.InodeKinds', WHERE WHAT IT READS IS OF BULK AT MOST 1048576: true; the input reads as it did. -/
def inodeKindsUptoRow : OpenClaim := { program := "ytmjknaldpeoheaa", sum := "ab7a6173991c5b77a6fd99069813fb4f98c48422241ba5b969c6545f3254c34d", func := "harrow/harrowlaw13.InodeKinds", spec := "inodeKinds", unfollowed := true, recurses := true, apart := false, narrowed := true }
def InodeKindsUptoSaid : Prop := inodeKindsUptoRow.holds Try.pinned (OpenSpec.upto inodeKindsSpec)

/-- 'harrowlaw13.InodeReads', WHERE WHAT IT READS IS OF BULK AT MOST 1048576: true; the input reads as it did. -/
def inodeReadsUptoRow : OpenClaim := { program := "ytmjknaldpeoheaa", sum := "ab7a6173991c5b77a6fd99069813fb4f98c48422241ba5b969c6545f3254c34d", func := "harrow/harrowlaw13.InodeReads", spec := "inodeReads", unfollowed := true, recurses := true, apart := false, narrowed := true }
def InodeReadsUptoSaid : Prop := inodeReadsUptoRow.holds Try.pinned (OpenSpec.upto inodeReadsSpec)

/-- 'harrowlaw13.InodeRows', WHERE WHAT IT READS IS OF BULK AT MOST 1048576: true; the input reads as it did. -/
def inodeRowsUptoRow : OpenClaim := { program := "ytmjknaldpeoheaa", sum := "ab7a6173991c5b77a6fd99069813fb4f98c48422241ba5b969c6545f3254c34d", func := "harrow/harrowlaw13.InodeRows", spec := "inodeRows", unfollowed := true, recurses := true, apart := false, narrowed := true }
def InodeRowsUptoSaid : Prop := inodeRowsUptoRow.holds Try.pinned (OpenSpec.upto inodeRowsSpec)

/-- 'harrowlaw13.InodeRow', WHERE WHAT IT READS IS OF BULK AT MOST 1048576: true; the input reads as it did. -/
def inodeRowUptoRow : OpenClaim := { program := "ytmjknaldpeoheaa", sum := "ab7a6173991c5b77a6fd99069813fb4f98c48422241ba5b969c6545f3254c34d", func := "harrow/harrowlaw13.InodeRow", spec := "inodeRow", unfollowed := true, recurses := true, apart := false, narrowed := true }
def InodeRowUptoSaid : Prop := inodeRowUptoRow.holds Try.pinned (OpenSpec.upto inodeRowSpec)

end Rows
end Go.Proofs.Ytmjknaldpeoheaa
