/- What all rows of this seat share: closed facts, the table out of the row's list, a world for the witness. -/
import Derived.Test.YtnbcnhhonleepaaDoorCards
import Derived.Test.YtnbcnhhonleepaaDoorTie
import Derived.Test.YtnbcnhhonleepaaDoorCrc
import Derived.Deep.DeepHandedRow
import Derived.Lib.LaidTab
namespace Go.Proofs.YtnbcnhhonleepaaDoor
open Go.ChangeShapes Go.WideShapes Go.ChangeAt Go.RowKit

theorem own : ownKnob Tryd.prog.godebug = none := by kernel_rfl
theorem Tryd.cellsU8 : Tryd.prog.cellsOf 5 = 1 := by kernel_rfl
theorem Tryd.laidOut' : laidOutB Tryd.prog = true := by kernel_rfl
theorem gTab : Tryd.prog.globalNamed "harrow/crc.half" = some 0 := by kernel_rfl
theorem gTabType : (Tryd.prog.globals[0]?).map (·.type) = some 36 := by kernel_rfl
theorem cellsTab : Tryd.prog.cellsOf 36 = 16 := by kernel_rfl
theorem cellsU32 : Tryd.prog.cellsOf 24 = 1 := by kernel_rfl
def halfs : List Int := [0, 498536548, 997073096, 651767980, 1994146192, 1802195444, 1303535960, 1342533948, 3988292384, 4027552580, 3604390888, 3412177804, 2607071920, 2262029012, 2685067896, 3183342108]

theorem halfs_eq : ∀ y : BitVec 4, halfs.getD (n4 y).toNat 0 = n32 (M.hf y) := by decide +kernel
theorem hasTable {W : World} (h : laidMetH Tryd.prog Rows.crcTellsRow.laid W) : HasTable W := by
  have ht : Lib.TabIs Tryd.prog W "harrow/crc.half" .u32 halfs := Lib.tabIs_of_head (rest := []) gTab gTabType Tryd.underlying36 Tryd.underlying24 cellsU32 cellsTab h
  intro y
  have hy : (n4 y).toNat < halfs.length := by have := n4_bd y; simp [halfs]; omega
  rw [← halfs_eq y]
  exact ht.cell gTab _ hy

/-- A world for the witness: the settled one, the table holding what its initialiser lays. -/
noncomputable def laidWorld (os : Os) : World :=
  { World.holding Tryd.prog os ⟨#[], #[], []⟩ with heap := (World.holding Tryd.prog os ⟨#[], #[], []⟩).heap.modify 0 fun
      | .cells _ t frozen => .cells (halfs.map (Value.int .u32)).toArray t frozen
      | o => o }
end Go.Proofs.YtnbcnhhonleepaaDoor
