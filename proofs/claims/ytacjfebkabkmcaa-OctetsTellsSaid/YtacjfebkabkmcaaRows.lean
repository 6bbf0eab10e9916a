/-
  No cell of these rows narrows 'for every input' (looked for: loops, veiled, ifaces, maps, wideKeys, modest, calm, conditions, laid).
  DERIVED. THE GIVEN ROWS OF THIS SEAT. 6 by the template 'for every input the law returns true; each argument reads behind the call as it read before'; 0 by the template 'total and deterministic' (their statements: YtacjfebkabkmcaaTotals.lean).
  GIVEN WITH THE SEED: the statements are not yours to turn. If you find one false, say at which input.
  Laid BY PROGRAM, IN A SANDBOX (cutbox-rows.mjs): the forced cells as the released guide's own fill.sh prints them over the translation 3efdbe71f8c82efd… (all of the seat's roots in one cut). By AI agents, Wed Nov 11 2026. No macro, syntax, notation, axiom, sorry.
-/
import Derived.Test.YtacjfebkabkmcaaChecked
import GoSem.Claim
import GoSem.ClaimJoined
import GoSem.ClaimMapViews
import Derived.JoinedTies
import Derived.KernelRfl
namespace Go.Proofs.Ytacjfebkabkmcaa
/- THE CELL 'sum', in the pinned program and in every row, IS THE sha256 OF THE DUMP (.gsa) THAT YtacjfebkabkmcaaProg.lean LOADS. Nothing in Lean hashes anything: it is a label: what it is worth is what the hold of that sum in a sandbox is worth. -/
noncomputable def Try.pinned : Pinned := { name := "ytacjfebkabkmcaa", sum := "3efdbe71f8c82efd54fc7bad12711e50059751131abe8ba10f68058fc5d9f9c9", checked := Try.checked }
namespace Rows
def none {H : Type} : Left H := { results := [], args := [] }

/-- 'harrowlaw03.OctetsTells': WHATEVER THE INPUT: true; the input reads as it did. -/
def octetsTellsSpec : ChangeSpec := { name := "octetsTells", fn := fun _ => fun
  | [d1, d2, d3, d4] => { results := [.lit (.bool true)], args := [d1, d2, d3, d4] }
  | _ => none }
def octetsTellsRow : OpenClaim := { program := "ytacjfebkabkmcaa", sum := "3efdbe71f8c82efd54fc7bad12711e50059751131abe8ba10f68058fc5d9f9c9", func := "harrow/harrowlaw03.OctetsTells", spec := "octetsTells", apart := false }
def OctetsTellsSaid : Prop := octetsTellsRow.holds Try.pinned (OpenSpec.ofChange octetsTellsSpec)

/-- ITS FALSE NEIGHBOUR: 'it returns false'. Refute it at one input. -/
def octetsTellsWrong : ChangeSpec := { name := "octetsTells", fn := fun _ => fun
  | [d1, d2, d3, d4] => { results := [.lit (.bool false)], args := [d1, d2, d3, d4] }
  | _ => none }
def OctetsTellsWrongFalsely : Prop := octetsTellsRow.holds Try.pinned (OpenSpec.ofChange octetsTellsWrong)

/-- 'harrowlaw03.OctetsBack': WHATEVER THE INPUT: true; the input reads as it did. -/
def octetsBackSpec : ChangeSpec := { name := "octetsBack", fn := fun _ => fun
  | [d1, d2] => { results := [.lit (.bool true)], args := [d1, d2] }
  | _ => none }
def octetsBackRow : OpenClaim := { program := "ytacjfebkabkmcaa", sum := "3efdbe71f8c82efd54fc7bad12711e50059751131abe8ba10f68058fc5d9f9c9", func := "harrow/harrowlaw03.OctetsBack", spec := "octetsBack", apart := false }
def OctetsBackSaid : Prop := octetsBackRow.holds Try.pinned (OpenSpec.ofChange octetsBackSpec)

/-- ITS FALSE NEIGHBOUR: 'it returns false'. Refute it at one input. -/
def octetsBackWrong : ChangeSpec := { name := "octetsBack", fn := fun _ => fun
  | [d1, d2] => { results := [.lit (.bool false)], args := [d1, d2] }
  | _ => none }
def OctetsBackWrongFalsely : Prop := octetsBackRow.holds Try.pinned (OpenSpec.ofChange octetsBackWrong)

/-- 'harrowlaw03.OctetsFields': WHATEVER THE INPUT: true; the input reads as it did. -/
def octetsFieldsSpec : ChangeSpec := { name := "octetsFields", fn := fun _ => fun
  | [d1, d2, d3] => { results := [.lit (.bool true)], args := [d1, d2, d3] }
  | _ => none }
def octetsFieldsRow : OpenClaim := { program := "ytacjfebkabkmcaa", sum := "3efdbe71f8c82efd54fc7bad12711e50059751131abe8ba10f68058fc5d9f9c9", func := "harrow/harrowlaw03.OctetsFields", spec := "octetsFields", apart := false }
def OctetsFieldsSaid : Prop := octetsFieldsRow.holds Try.pinned (OpenSpec.ofChange octetsFieldsSpec)

/-- ITS FALSE NEIGHBOUR: 'it returns false'. Refute it at one input. -/
def octetsFieldsWrong : ChangeSpec := { name := "octetsFields", fn := fun _ => fun
  | [d1, d2, d3] => { results := [.lit (.bool false)], args := [d1, d2, d3] }
  | _ => none }
def OctetsFieldsWrongFalsely : Prop := octetsFieldsRow.holds Try.pinned (OpenSpec.ofChange octetsFieldsWrong)

/-- 'harrowlaw03.OctetsOrder': WHATEVER THE INPUT: true; the input reads as it did. -/
def octetsOrderSpec : ChangeSpec := { name := "octetsOrder", fn := fun _ => fun
  | [d1, d2, d3] => { results := [.lit (.bool true)], args := [d1, d2, d3] }
  | _ => none }
def octetsOrderRow : OpenClaim := { program := "ytacjfebkabkmcaa", sum := "3efdbe71f8c82efd54fc7bad12711e50059751131abe8ba10f68058fc5d9f9c9", func := "harrow/harrowlaw03.OctetsOrder", spec := "octetsOrder", apart := false }
def OctetsOrderSaid : Prop := octetsOrderRow.holds Try.pinned (OpenSpec.ofChange octetsOrderSpec)

/-- ITS FALSE NEIGHBOUR: 'it returns false'. Refute it at one input. -/
def octetsOrderWrong : ChangeSpec := { name := "octetsOrder", fn := fun _ => fun
  | [d1, d2, d3] => { results := [.lit (.bool false)], args := [d1, d2, d3] }
  | _ => none }
def OctetsOrderWrongFalsely : Prop := octetsOrderRow.holds Try.pinned (OpenSpec.ofChange octetsOrderWrong)

/-- 'harrowlaw03.OctetsParts': WHATEVER THE INPUT: true; the input reads as it did. -/
def octetsPartsSpec : ChangeSpec := { name := "octetsParts", fn := fun _ => fun
  | [d1, d2] => { results := [.lit (.bool true)], args := [d1, d2] }
  | _ => none }
def octetsPartsRow : OpenClaim := { program := "ytacjfebkabkmcaa", sum := "3efdbe71f8c82efd54fc7bad12711e50059751131abe8ba10f68058fc5d9f9c9", func := "harrow/harrowlaw03.OctetsParts", spec := "octetsParts", apart := false }
def OctetsPartsSaid : Prop := octetsPartsRow.holds Try.pinned (OpenSpec.ofChange octetsPartsSpec)

/-- ITS FALSE NEIGHBOUR: 'it returns false'. Refute it at one input. -/
def octetsPartsWrong : ChangeSpec := { name := "octetsParts", fn := fun _ => fun
  | [d1, d2] => { results := [.lit (.bool false)], args := [d1, d2] }
  | _ => none }
def OctetsPartsWrongFalsely : Prop := octetsPartsRow.holds Try.pinned (OpenSpec.ofChange octetsPartsWrong)

/-- 'harrowlaw03.OctetsGrows': WHATEVER THE INPUT: true; the input reads as it did. -/
def octetsGrowsSpec : ChangeSpec := { name := "octetsGrows", fn := fun _ => fun
  | [d1, d2, d3] => { results := [.lit (.bool true)], args := [d1, d2, d3] }
  | _ => none }
def octetsGrowsRow : OpenClaim := { program := "ytacjfebkabkmcaa", sum := "3efdbe71f8c82efd54fc7bad12711e50059751131abe8ba10f68058fc5d9f9c9", func := "harrow/harrowlaw03.OctetsGrows", spec := "octetsGrows", apart := false }
def OctetsGrowsSaid : Prop := octetsGrowsRow.holds Try.pinned (OpenSpec.ofChange octetsGrowsSpec)

/-- ITS FALSE NEIGHBOUR: 'it returns false'. Refute it at one input. -/
def octetsGrowsWrong : ChangeSpec := { name := "octetsGrows", fn := fun _ => fun
  | [d1, d2, d3] => { results := [.lit (.bool false)], args := [d1, d2, d3] }
  | _ => none }
def OctetsGrowsWrongFalsely : Prop := octetsGrowsRow.holds Try.pinned (OpenSpec.ofChange octetsGrowsWrong)

/- THE SECOND FORM. 'bulk': how many values and letters a reading holds, each counted each time it is reached (what is shared counts as often as it is met; a slice's spare places count too). A statement '..UptoSaid' is the law's where the arguments, and the package variables that the reading takes, are together of bulk at most 1048576: NARROWER than '..Said'. Prove '..Said' where nothing that the law and all that it calls make is longer than what came in: it says more and counts as full. Else prove '..UptoSaid'. A law counts once. -/
mutual
def uptoBulk {H : Type} : DataW H → Nat
  | .lit (.string bytes) => bytes.length + 1
  | .lit _ => 1
  | .nil => 1
  | .ptr d => uptoBulk d + 1
  | .slice elems spare => uptoBulkAll elems + uptoBulkAll spare + 1
  | .agg parts => uptoBulkAll parts + 1
  | .iface _ d => uptoBulk d + 1
  | .map entries => uptoBulkEntries entries + 1
  | .held _ => 1
def uptoBulkAll {H : Type} : List (DataW H) → Nat
  | [] => 0
  | d :: r => uptoBulk d + uptoBulkAll r
def uptoBulkEntries {H : Type} : List (Lit × DataW H) → Nat
  | [] => 0
  | x :: r => uptoBulkEntry x + uptoBulkEntries r
def uptoBulkEntry {H : Type} : Lit × DataW H → Nat
  | (.string bytes, d) => bytes.length + uptoBulk d + 1
  | (_, d) => uptoBulk d + 1
 end
def uptoSmall : (H : Type) → List (DataW H) → Bool := fun _ ds => decide (uptoBulkAll ds ≤ 1048576)
def OpenSpec.upto (s : _root_.Go.ChangeSpec) : _root_.Go.OpenSpec := { _root_.Go.OpenSpec.ofChange s with cond := some uptoSmall }

/-- 'harrowlaw03.OctetsTells', WHERE WHAT IT READS IS OF BULK AT MOST 1048576: true; the input reads as it did. -/
def octetsTellsUptoRow : OpenClaim := { program := "ytacjfebkabkmcaa", sum := "3efdbe71f8c82efd54fc7bad12711e50059751131abe8ba10f68058fc5d9f9c9", func := "harrow/harrowlaw03.OctetsTells", spec := "octetsTells", apart := false, narrowed := true }
def OctetsTellsUptoSaid : Prop := octetsTellsUptoRow.holds Try.pinned (OpenSpec.upto octetsTellsSpec)

/-- 'harrowlaw03.OctetsBack', WHERE WHAT IT READS IS OF BULK AT MOST 1048576: true; the input reads as it did. -/
def octetsBackUptoRow : OpenClaim := { program := "ytacjfebkabkmcaa", sum := "3efdbe71f8c82efd54fc7bad12711e50059751131abe8ba10f68058fc5d9f9c9", func := "harrow/harrowlaw03.OctetsBack", spec := "octetsBack", apart := false, narrowed := true }
def OctetsBackUptoSaid : Prop := octetsBackUptoRow.holds Try.pinned (OpenSpec.upto octetsBackSpec)

/-- 'harrowlaw03.OctetsFields', WHERE WHAT IT READS IS OF BULK AT MOST 1048576: true; the input reads as it did. -/
def octetsFieldsUptoRow : OpenClaim := { program := "ytacjfebkabkmcaa", sum := "3efdbe71f8c82efd54fc7bad12711e50059751131abe8ba10f68058fc5d9f9c9", func := "harrow/harrowlaw03.OctetsFields", spec := "octetsFields", apart := false, narrowed := true }
def OctetsFieldsUptoSaid : Prop := octetsFieldsUptoRow.holds Try.pinned (OpenSpec.upto octetsFieldsSpec)

/-- 'harrowlaw03.OctetsOrder', WHERE WHAT IT READS IS OF BULK AT MOST 1048576: true; the input reads as it did. -/
def octetsOrderUptoRow : OpenClaim := { program := "ytacjfebkabkmcaa", sum := "3efdbe71f8c82efd54fc7bad12711e50059751131abe8ba10f68058fc5d9f9c9", func := "harrow/harrowlaw03.OctetsOrder", spec := "octetsOrder", apart := false, narrowed := true }
def OctetsOrderUptoSaid : Prop := octetsOrderUptoRow.holds Try.pinned (OpenSpec.upto octetsOrderSpec)

/-- 'harrowlaw03.OctetsParts', WHERE WHAT IT READS IS OF BULK AT MOST 1048576: true; the input reads as it did. -/
def octetsPartsUptoRow : OpenClaim := { program := "ytacjfebkabkmcaa", sum := "3efdbe71f8c82efd54fc7bad12711e50059751131abe8ba10f68058fc5d9f9c9", func := "harrow/harrowlaw03.OctetsParts", spec := "octetsParts", apart := false, narrowed := true }
def OctetsPartsUptoSaid : Prop := octetsPartsUptoRow.holds Try.pinned (OpenSpec.upto octetsPartsSpec)

/-- 'harrowlaw03.OctetsGrows', WHERE WHAT IT READS IS OF BULK AT MOST 1048576: true; the input reads as it did. -/
def octetsGrowsUptoRow : OpenClaim := { program := "ytacjfebkabkmcaa", sum := "3efdbe71f8c82efd54fc7bad12711e50059751131abe8ba10f68058fc5d9f9c9", func := "harrow/harrowlaw03.OctetsGrows", spec := "octetsGrows", apart := false, narrowed := true }
def OctetsGrowsUptoSaid : Prop := octetsGrowsUptoRow.holds Try.pinned (OpenSpec.upto octetsGrowsSpec)

end Rows
end Go.Proofs.Ytacjfebkabkmcaa
