/- What all rows of this seat share: closed facts, a world for the witness. -/
import Derived.Test.YtacjfebkabkmcaaRows
import Derived.Test.YtacjfebkabkmcaaWords
import Derived.Deep.DeepHandedRow
namespace Go.Proofs.Ytacjfebkabkmcaa
open Go.ChangeShapes Go.WideShapes Go.ChangeAt Go.RowKit

theorem own : ownKnob Try.prog.godebug = none := by kernel_rfl
theorem Try.cellsU8 : Try.prog.cellsOf 5 = 1 := by kernel_rfl
theorem Try.cellsU64 : Try.prog.cellsOf 23 = 1 := by kernel_rfl
theorem Try.laidOut' : laidOutB Try.prog = true := by kernel_rfl
noncomputable def plainWorld (os : Os) : World := World.holding Try.prog os ⟨#[], #[], []⟩
end Go.Proofs.Ytacjfebkabkmcaa
