/-
  No cell of these rows narrows 'for every input' (looked for: loops, veiled, ifaces, maps, wideKeys, modest, calm, conditions, laid).
  DERIVED. THE GIVEN ROWS OF THIS SEAT. 5 by the template 'for every input the law returns true; each argument reads behind the call as it read before'; 0 by the template 'total and deterministic' (their statements: YtmfncpifalnggaaTotals.lean).
  GIVEN WITH THE SEED: the statements are not yours to turn. If you find one false, say at which input.
  Laid BY PROGRAM, IN A SANDBOX (cutbox-rows.mjs): the forced cells as the released guide's own fill.sh prints them over the translation 16a1b1e8ff033463… (all of the seat's roots in one cut). By AI agents, Wed Nov 11 2026. No macro, syntax, notation, axiom, sorry.
-/
import Derived.Test.YtmfncpifalnggaaChecked
import GoSem.Claim
import GoSem.ClaimJoined
import GoSem.ClaimMapViews
import Derived.JoinedTies
import Derived.KernelRfl
namespace Go.Proofs.Ytmfncpifalnggaa
/- THE CELL 'sum', in the pinned program and in every row, IS THE sha256 OF THE DUMP (.gsa) THAT YtmfncpifalnggaaProg.lean LOADS. Nothing in Lean hashes anything: it is a label: what it is worth is what the hold of that sum in a sandbox is worth. -/
noncomputable def Try.pinned : Pinned := { name := "ytmfncpifalnggaa", sum := "16a1b1e8ff033463cd9d9dc05ea1f6419fa39313cd3e1d6dbc0af45425eb49d6", checked := Try.checked }
namespace Rows
def none {H : Type} : Left H := { results := [], args := [] }

/-- 'harrowlaw05.TagEncodes': WHATEVER THE INPUT: true; the input reads as it did. -/
def tagEncodesSpec : ChangeSpec := { name := "tagEncodes", fn := fun _ => fun
  | [d1, d2] => { results := [.lit (.bool true)], args := [d1, d2] }
  | _ => none }
def tagEncodesRow : OpenClaim := { program := "ytmfncpifalnggaa", sum := "16a1b1e8ff033463cd9d9dc05ea1f6419fa39313cd3e1d6dbc0af45425eb49d6", func := "harrow/harrowlaw05.TagEncodes", spec := "tagEncodes", unfollowed := true, recurses := true, apart := false }
def TagEncodesSaid : Prop := tagEncodesRow.holds Try.pinned (OpenSpec.ofChange tagEncodesSpec)

/-- ITS FALSE NEIGHBOUR: 'it returns false'. Refute it at one input. -/
def tagEncodesWrong : ChangeSpec := { name := "tagEncodes", fn := fun _ => fun
  | [d1, d2] => { results := [.lit (.bool false)], args := [d1, d2] }
  | _ => none }
def TagEncodesWrongFalsely : Prop := tagEncodesRow.holds Try.pinned (OpenSpec.ofChange tagEncodesWrong)

/-- 'harrowlaw05.TagDecodes': WHATEVER THE INPUT: true; the input reads as it did. -/
def tagDecodesSpec : ChangeSpec := { name := "tagDecodes", fn := fun _ => fun
  | [d] => { results := [.lit (.bool true)], args := [d] }
  | _ => none }
def tagDecodesRow : OpenClaim := { program := "ytmfncpifalnggaa", sum := "16a1b1e8ff033463cd9d9dc05ea1f6419fa39313cd3e1d6dbc0af45425eb49d6", func := "harrow/harrowlaw05.TagDecodes", spec := "tagDecodes", unfollowed := true, recurses := true, apart := false }
def TagDecodesSaid : Prop := tagDecodesRow.holds Try.pinned (OpenSpec.ofChange tagDecodesSpec)

/-- ITS FALSE NEIGHBOUR: 'it returns false'. Refute it at one input. -/
def tagDecodesWrong : ChangeSpec := { name := "tagDecodes", fn := fun _ => fun
  | [d] => { results := [.lit (.bool false)], args := [d] }
  | _ => none }
def TagDecodesWrongFalsely : Prop := tagDecodesRow.holds Try.pinned (OpenSpec.ofChange tagDecodesWrong)

/-- 'harrowlaw05.TagBack': WHATEVER THE INPUT: true; the input reads as it did. -/
def tagBackSpec : ChangeSpec := { name := "tagBack", fn := fun _ => fun
  | [d1, d2, d3, d4] => { results := [.lit (.bool true)], args := [d1, d2, d3, d4] }
  | _ => none }
def tagBackRow : OpenClaim := { program := "ytmfncpifalnggaa", sum := "16a1b1e8ff033463cd9d9dc05ea1f6419fa39313cd3e1d6dbc0af45425eb49d6", func := "harrow/harrowlaw05.TagBack", spec := "tagBack", unfollowed := true, recurses := true, apart := false }
def TagBackSaid : Prop := tagBackRow.holds Try.pinned (OpenSpec.ofChange tagBackSpec)

/-- ITS FALSE NEIGHBOUR: 'it returns false'. Refute it at one input. -/
def tagBackWrong : ChangeSpec := { name := "tagBack", fn := fun _ => fun
  | [d1, d2, d3, d4] => { results := [.lit (.bool false)], args := [d1, d2, d3, d4] }
  | _ => none }
def TagBackWrongFalsely : Prop := tagBackRow.holds Try.pinned (OpenSpec.ofChange tagBackWrong)

/-- 'harrowlaw05.TagApart': WHATEVER THE INPUT: true; the input reads as it did. -/
def tagApartSpec : ChangeSpec := { name := "tagApart", fn := fun _ => fun
  | [d1, d2] => { results := [.lit (.bool true)], args := [d1, d2] }
  | _ => none }
def tagApartRow : OpenClaim := { program := "ytmfncpifalnggaa", sum := "16a1b1e8ff033463cd9d9dc05ea1f6419fa39313cd3e1d6dbc0af45425eb49d6", func := "harrow/harrowlaw05.TagApart", spec := "tagApart", unfollowed := true, recurses := true, apart := false }
def TagApartSaid : Prop := tagApartRow.holds Try.pinned (OpenSpec.ofChange tagApartSpec)

/-- ITS FALSE NEIGHBOUR: 'it returns false'. Refute it at one input. -/
def tagApartWrong : ChangeSpec := { name := "tagApart", fn := fun _ => fun
  | [d1, d2] => { results := [.lit (.bool false)], args := [d1, d2] }
  | _ => none }
def TagApartWrongFalsely : Prop := tagApartRow.holds Try.pinned (OpenSpec.ofChange tagApartWrong)

/-- 'harrowlaw05.TagShape': WHATEVER THE INPUT: true; the input reads as it did. -/
def tagShapeSpec : ChangeSpec := { name := "tagShape", fn := fun _ => fun
  | [d1, d2] => { results := [.lit (.bool true)], args := [d1, d2] }
  | _ => none }
def tagShapeRow : OpenClaim := { program := "ytmfncpifalnggaa", sum := "16a1b1e8ff033463cd9d9dc05ea1f6419fa39313cd3e1d6dbc0af45425eb49d6", func := "harrow/harrowlaw05.TagShape", spec := "tagShape", unfollowed := true, recurses := true, apart := false }
def TagShapeSaid : Prop := tagShapeRow.holds Try.pinned (OpenSpec.ofChange tagShapeSpec)

/-- ITS FALSE NEIGHBOUR: 'it returns false'. Refute it at one input. -/
def tagShapeWrong : ChangeSpec := { name := "tagShape", fn := fun _ => fun
  | [d1, d2] => { results := [.lit (.bool false)], args := [d1, d2] }
  | _ => none }
def TagShapeWrongFalsely : Prop := tagShapeRow.holds Try.pinned (OpenSpec.ofChange tagShapeWrong)

/- THE SECOND FORM. 'bulk': how many values and letters a reading holds, each counted each time it is reached (what is shared counts as often as it is met; a slice's spare places count too). A statement '..UptoSaid' is the law's where the arguments, and the package variables that the reading takes, are together of bulk at most 1048576: NARROWER than '..Said'. Prove '..Said' where nothing that the law and all that it calls make is longer than what came in: it says more and counts as full. Else prove '..UptoSaid'. A law counts once. -/
mutual
def uptoBulk {H : Type} : DataW H → Nat
  | .lit (.string bytes) => bytes.length + 1
  | .lit _ => 1
  | .nil => 1
  | .ptr d => uptoBulk d + 1
  | .slice elems spare => uptoBulkAll elems + uptoBulkAll spare + 1
  | .agg parts => uptoBulkAll parts + 1
  | .iface _ d => uptoBulk d + 1
  | .map entries => uptoBulkEntries entries + 1
  | .held _ => 1
def uptoBulkAll {H : Type} : List (DataW H) → Nat
  | [] => 0
  | d :: r => uptoBulk d + uptoBulkAll r
def uptoBulkEntries {H : Type} : List (Lit × DataW H) → Nat
  | [] => 0
  | x :: r => uptoBulkEntry x + uptoBulkEntries r
def uptoBulkEntry {H : Type} : Lit × DataW H → Nat
  | (.string bytes, d) => bytes.length + uptoBulk d + 1
  | (_, d) => uptoBulk d + 1
 end
def uptoSmall : (H : Type) → List (DataW H) → Bool := fun _ ds => decide (uptoBulkAll ds ≤ 1048576)
def OpenSpec.upto (s : _root_.Go.ChangeSpec) : _root_.Go.OpenSpec := { _root_.Go.OpenSpec.ofChange s with cond := some uptoSmall }

/-- 'harrowlaw05.TagEncodes', WHERE WHAT IT READS IS OF BULK AT MOST 1048576: true; the input reads as it did. -/
def tagEncodesUptoRow : OpenClaim := { program := "ytmfncpifalnggaa", sum := "16a1b1e8ff033463cd9d9dc05ea1f6419fa39313cd3e1d6dbc0af45425eb49d6", func := "harrow/harrowlaw05.TagEncodes", spec := "tagEncodes", unfollowed := true, recurses := true, apart := false, narrowed := true }
def TagEncodesUptoSaid : Prop := tagEncodesUptoRow.holds Try.pinned (OpenSpec.upto tagEncodesSpec)

/-- 'harrowlaw05.TagDecodes', WHERE WHAT IT READS IS OF BULK AT MOST 1048576: true; the input reads as it did. -/
def tagDecodesUptoRow : OpenClaim := { program := "ytmfncpifalnggaa", sum := "16a1b1e8ff033463cd9d9dc05ea1f6419fa39313cd3e1d6dbc0af45425eb49d6", func := "harrow/harrowlaw05.TagDecodes", spec := "tagDecodes", unfollowed := true, recurses := true, apart := false, narrowed := true }
def TagDecodesUptoSaid : Prop := tagDecodesUptoRow.holds Try.pinned (OpenSpec.upto tagDecodesSpec)

/-- 'harrowlaw05.TagBack', WHERE WHAT IT READS IS OF BULK AT MOST 1048576: true; the input reads as it did. -/
def tagBackUptoRow : OpenClaim := { program := "ytmfncpifalnggaa", sum := "16a1b1e8ff033463cd9d9dc05ea1f6419fa39313cd3e1d6dbc0af45425eb49d6", func := "harrow/harrowlaw05.TagBack", spec := "tagBack", unfollowed := true, recurses := true, apart := false, narrowed := true }
def TagBackUptoSaid : Prop := tagBackUptoRow.holds Try.pinned (OpenSpec.upto tagBackSpec)

/-- 'harrowlaw05.TagApart', WHERE WHAT IT READS IS OF BULK AT MOST 1048576: true; the input reads as it did. -/
def tagApartUptoRow : OpenClaim := { program := "ytmfncpifalnggaa", sum := "16a1b1e8ff033463cd9d9dc05ea1f6419fa39313cd3e1d6dbc0af45425eb49d6", func := "harrow/harrowlaw05.TagApart", spec := "tagApart", unfollowed := true, recurses := true, apart := false, narrowed := true }
def TagApartUptoSaid : Prop := tagApartUptoRow.holds Try.pinned (OpenSpec.upto tagApartSpec)

/-- 'harrowlaw05.TagShape', WHERE WHAT IT READS IS OF BULK AT MOST 1048576: true; the input reads as it did. -/
def tagShapeUptoRow : OpenClaim := { program := "ytmfncpifalnggaa", sum := "16a1b1e8ff033463cd9d9dc05ea1f6419fa39313cd3e1d6dbc0af45425eb49d6", func := "harrow/harrowlaw05.TagShape", spec := "tagShape", unfollowed := true, recurses := true, apart := false, narrowed := true }
def TagShapeUptoSaid : Prop := tagShapeUptoRow.holds Try.pinned (OpenSpec.upto tagShapeSpec)

end Rows
end Go.Proofs.Ytmfncpifalnggaa
