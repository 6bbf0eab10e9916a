/- Rows of values, each of one cell (a struct, an array), as one value: alloc, load and store of the whole. No program in sight. -/
import Derived.Test.YtmfncpifalnggaaNodeEq
import Derived.Great.Walk
import Derived.Laws.Tables
namespace Go.Proofs.Ytmfncpifalnggaa
open Go.RowKit

/-- A block that is this row. -/
def IsV (w : World) (b : Nat) (T : TypeId) (vs : List Value) : Prop := w.heap[b]? = some (.cells vs.toArray T (0, 0))
theorem IsV.cell {w : World} {b : Nat} {T : TypeId} {vs : List Value} (h : IsV w b T vs) (i : Nat) : w.cell? ⟨b, i, none⟩ = vs[i]? := by
  rw [cell_of_row w b i _ _ _ h]
  simp
theorem IsV.free {w : World} {b : Nat} {T : TypeId} {vs : List Value} (h : IsV w b T vs) (i : Nat) : w.frozen? ⟨b, i, none⟩ = false := by
  unfold IsV at h
  simp [World.frozen?, h]
theorem IsV.lt {w : World} {b : Nat} {T : TypeId} {vs : List Value} (h : IsV w b T vs) : b < w.heap.size := (Array.getElem?_eq_some_iff.1 h).1
theorem IsV.below {w w' : World} {b : Nat} {T : TypeId} {vs : List Value} (h : IsV w b T vs) (hb : Below w.heap.size w w') : IsV w' b T vs := (hb.block b h.lt).trans h
theorem IsV.kept {w w' : World} {b r : Nat} {T : TypeId} {vs : List Value} (h : IsV w b T vs) (hk : Kept r w w') (hr : b ≠ r) : IsV w' b T vs := (hk.block b h.lt hr).trans h
theorem IsV.new (w : World) (T : TypeId) (vs : List Value) : IsV (w.alloc (.cells vs.toArray T)) w.heap.size T vs := heap_alloc_new _ _
theorem IsV.at {w : World} {g : Nat} (hg : g = w.heap.size) (T : TypeId) (vs : List Value) : IsV (w.alloc (.cells vs.toArray T)) g T vs := by
  subst hg
  exact IsV.new w T vs
theorem IsV.range {w : World} {b : Nat} {T : TypeId} {vs : List Value} (h : IsV w b T vs) : w.rangeAt b 0 vs := fun j v hv => by
  rw [Nat.zero_add, h.cell]
  exact hv
theorem IsV.setC {w : World} {g : Nat} {T : TypeId} {vs : List Value} (h : IsV w g T vs) (i : Nat) (v : Value) : IsV (w.setCell ⟨g, i, none⟩ v) g T (vs.set i v) := by
  have hlt := h.lt
  have h' : w.heap[g] = .cells vs.toArray T (0, 0) := by
    unfold IsV at h
    simpa [Array.getElem?_eq_getElem hlt] using h
  show (w.heap.modify g _)[g]? = _
  rw [Array.getElem?_eq_getElem (by simpa using hlt), Array.getElem_modify_self, h']
  simp

section
variable {P : Program} {ops : Array Oper} {rest : List Oper} {o : Oper} {a : Act} {w : World} {Q : Exit → Act → World → Prop} {t : TypeId}
theorem loadVar_V {w : World} {b : Nat} {T T' : TypeId} {vs : List Value} {d : TypeDesc} (h : IsV w b T' vs) (hu : P.underlying T = some d) (hd : d.isRow = true) (hi : (P.info? T).map (·.size) = some vs.length) :
    (loadVar T ⟨b, 0, none⟩).run P w = .ok (.agg vs.toArray) w := run_loadVar_mid w b 0 T vs d h.range hu hd hi
theorem exec_load_V (x : Operand) (ho : o.op = .load t x) (b : Nat) (hx : a.eval x = .pointer (some ⟨b, 0, none⟩)) {T' : TypeId} (vs : List Value) (d : TypeDesc) (h : IsV w b T' vs)
    (hu : P.underlying t = some d) (hd : d.isRow = true) (hi : (P.info? t).map (·.size) = some vs.length) : (execOp a.eval o).run P w = .ok (.value (.agg vs.toArray)) w := by
  unfold execOp
  simp only [ho, hx, Instr.loadAt, Instr.sureAddr, Sem.run_bind, Sem.run_pure, Result.andThen_ok, loadVar_V h hu hd hi]
theorem wpList_load_V (x : Operand) (ho : o.op = .load t x) (b : Nat) (hx : a.eval x = .pointer (some ⟨b, 0, none⟩)) {T' : TypeId} (vs : List Value) (d : TypeDesc) (h : IsV w b T' vs)
    (hu : P.underlying t = some d) (hd : d.isRow = true) (hi : (P.info? t).map (·.size) = some vs.length) (hw : Region.wanted o (yielded ops a.tmps) = true)
    (hk : wpList P ops Q rest (a.put o.dst (.agg vs.toArray)) w) : wpList P ops Q (o :: rest) a w :=
  wpList_exec _ hw (exec_load_V x ho b hx vs d h hu hd hi) hk
theorem wp_store_V {K : Act → World → Prop} {E : Prop} (ty : TypeId) (x y : Operand) (ho : o.op = .store ty x y)
    (b : Nat) (vs Z : List Value) (T : TypeId) (hx : a.eval x = .pointer (some ⟨b, 0, none⟩)) (hy : a.eval y = .agg vs.toArray) (hZ : IsV w b T Z) (hl : Z.length = vs.length)
    (hi : (P.info? ty).map (·.size) = some vs.length) (h1 : ∀ v ∈ vs, v.oneCell' = true) (hw : Region.wanted o (yielded ops a.tmps) = true)
    (h : ∀ w', IsV w' b T vs → Kept b w w' → w'.heap.size = w.heap.size → K (a.put o.dst undef) w') : if Region.wanted o (yielded ops a.tmps) = true then Oper.wp P o a w K Q else E := by
  rw [if_pos hw]
  refine wp_store_mid ty x y ho b 0 vs.toArray hx hy (fun j hj => ?_) (by simpa using hi) (all_oneCell_toArray h1) (h _ ?_ ⟨by rw [setCells_size]; exact Nat.le_refl _, fun k _ hk => setCells_other b _ 0 w k hk, fun B hB _ => setCells_below b _ 0 w B hB⟩ (setCells_size _ _ _ _))
  · rw [Nat.zero_add, hZ.cell]
    have hj' : j < vs.length := by simpa using hj
    exact ⟨by rw [List.getElem?_eq_getElem (by omega)]; rfl, hZ.free j⟩
  · have := setCells_whole w b T vs 0 Z hZ (by omega)
    rw [List.take_zero, List.nil_append] at this
    exact this
theorem wpList_store_V (ty : TypeId) (x y : Operand) (ho : o.op = .store ty x y)
    (b : Nat) (vs Z : List Value) (T : TypeId) (hx : a.eval x = .pointer (some ⟨b, 0, none⟩)) (hy : a.eval y = .agg vs.toArray) (hZ : IsV w b T Z) (hl : Z.length = vs.length)
    (hi : (P.info? ty).map (·.size) = some vs.length) (h1 : ∀ v ∈ vs, v.oneCell' = true) (hw : Region.wanted o (yielded ops a.tmps) = true)
    (h : ∀ w', IsV w' b T vs → Kept b w w' → w'.heap.size = w.heap.size → wpList P ops Q rest (a.put o.dst undef) w') : wpList P ops Q (o :: rest) a w :=
  wpList_step fun K hK => by
    exact wp_store_V ty x y ho b vs Z T hx hy hZ hl hi h1 hw fun w' h1 h2 h3 => hK _ _ (h w' h1 h2 h3)
theorem run_zeroV {Z : List Value} (hz : (P.info? t).map (·.zero) = some (some (.agg Z.toArray))) (w : World) : (zeroValue t).run P w = .ok (.agg Z.toArray) w := by
  cases hi : P.info? t with
  | none => rw [hi] at hz; cases hz
  | some i =>
    rw [hi] at hz
    have h2 : i.zero = some (.agg Z.toArray) := by simpa using hz
    simp [zeroValue, typeInfo, hi, h2]
theorem exec_alloc_V (ho : o.op = .alloc t) {Z : List Value} (hz : (P.info? t).map (·.zero) = some (some (.agg Z.toArray))) :
    (execOp a.eval o).run P w = .ok (.value (.pointer (some ⟨w.heap.size, 0, none⟩))) (w.alloc (.cells Z.toArray t)) := by
  unfold execOp
  simp only [ho, Instr.alloc, Sem.run_bind, run_zeroV hz, Result.andThen_ok, newVar, newRow, Value.cells]
  rfl
theorem wpList_alloc_V (ho : o.op = .alloc t) (hg : o.guard = none) {Z : List Value} (hz : (P.info? t).map (·.zero) = some (some (.agg Z.toArray)))
    (h : ∀ w', IsV w' w.heap.size t Z → Below w.heap.size w w' → w'.heap.size = w.heap.size + 1 → wpList P ops Q rest (a.put o.dst (.pointer (some ⟨w.heap.size, 0, none⟩))) w') : wpList P ops Q (o :: rest) a w :=
  Great.wpList_runTo hg _ rfl _ _ (exec_alloc_V ho hz) (h _ (IsV.new w t Z) (below1 w _) (by simp))
/-- One result, a struct that lies in memory. -/
theorem results_V {fn : Func} {p : Tmp} {ty T' : TypeId} (h : fn.results = #[.cell p ty]) {tmps : Array Value} {b : Nat} {vs : List Value} {d : TypeDesc} (h1 : tmps.getD p undef = .pointer (some ⟨b, 0, none⟩)) (hv : IsV w b T' vs)
    (hu : P.underlying ty = some d) (hd : d.isRow = true) (hi : (P.info? ty).map (·.size) = some vs.length) :
    (results fn tmps).run P w = .ok (.agg vs.toArray) w :=
  results_cell_row h tmps w b T' vs.toArray (0, 0) d h1 hv hu (by cases d <;> first | rfl | (cases hd)) (by simpa using hi)
end
end Go.Proofs.Ytmfncpifalnggaa
