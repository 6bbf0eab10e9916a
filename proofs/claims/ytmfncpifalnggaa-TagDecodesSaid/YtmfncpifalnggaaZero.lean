/- A new row of integers, all zero: as an operation's run. No program in sight. -/
import Derived.Test.YtmfncpifalnggaaNodeEq
import Derived.Great.Walk
import Derived.Laws.Tables
namespace Go.Proofs.Ytmfncpifalnggaa
open Go.RowKit

section
variable {P : Program} {ops : Array Oper} {rest : List Oper} {o : Oper} {a : Act} {w : World} {Q : Exit → Act → World → Prop} {t : TypeId}
theorem run_zero {Z : List Int} (hz : (P.info? t).map (·.zero) = some (some (.agg (nodeC Z)))) (w : World) : (zeroValue t).run P w = .ok (.agg (nodeC Z)) w := by
  cases hi : P.info? t with
  | none => rw [hi] at hz; cases hz
  | some i =>
    rw [hi] at hz
    have h2 : i.zero = some (.agg (nodeC Z)) := by simpa using hz
    simp [zeroValue, typeInfo, hi, h2]
theorem exec_alloc_ints (ho : o.op = .alloc t) {Z : List Int} (hz : (P.info? t).map (·.zero) = some (some (.agg (nodeC Z)))) :
    (execOp a.eval o).run P w = .ok (.value (.pointer (some ⟨w.heap.size, 0, none⟩))) (w.alloc (.cells (nodeC Z) t)) := by
  unfold execOp
  simp only [ho, Instr.alloc, Sem.run_bind, run_zero hz, Result.andThen_ok, newVar, newRow, Value.cells]
  rfl
theorem exec_build_ints (ho : o.op = .build t #[]) {Z : List Int} (hz : P.built t [] = some (nodeC Z)) :
    (execOp a.eval o).run P w = .ok (.value (.agg (nodeC Z))) w := by
  unfold execOp
  simp only [ho, List.map_toArray, List.map_nil, Sem.run_bind, run_build w t #[] (nodeC Z) hz, Result.andThen_ok]
  rfl
theorem wpList_alloc_ints (hg : o.guard = none) (ho : o.op = .alloc t) {Z : List Int} (hz : (P.info? t).map (·.zero) = some (some (.agg (nodeC Z))))
    (h : ∀ w', IsNode w' w.heap.size t Z → Below w.heap.size w w' → w'.heap.size = w.heap.size + 1 → wpList P ops Q rest (a.put o.dst (.pointer (some ⟨w.heap.size, 0, none⟩))) w') : wpList P ops Q (o :: rest) a w :=
  Great.wpList_runTo hg _ rfl _ _ (exec_alloc_ints ho hz) (h _ (IsNode.new w t Z) (below1 w _) (by simp))
/-- A make whose run is known, as one step of a region that draws its order. -/
theorem step_make_run {w' : World} {K : Act → World → Prop} {E : Prop} {l c : Operand} {lv cv v' : Value} (hrun : (Instr.makeSlice t lv cv).run P w = .ok v' w')
    (hw : Region.wanted o (yielded ops a.tmps) = true) (ho : o.op = .makeSlice t l c) (hl : a.eval l = lv) (hc : a.eval c = cv) (hK : K (a.put o.dst v') w') : if Region.wanted o (yielded ops a.tmps) = true then Oper.wp P o a w K Q else E := by
  rw [if_pos hw]
  unfold Oper.wp execOp
  simp only [ho, hl, hc, Sem.run_bind, Sem.run_pure, Result.andThen_ok, hrun]
  exact hK
end
end Go.Proofs.Ytmfncpifalnggaa
