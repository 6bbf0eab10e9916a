/- A whole row stored, an operation that turns the world: as steps of a region that draws its order. No program in sight. -/
import Derived.Test.YtmfncpifalnggaaZero
namespace Go.Proofs.Ytmfncpifalnggaa
open Go.RowKit

section
variable {P : Program} {ops : Array Oper} {rest : List Oper} {o : Oper} {a : Act} {w : World} {Q : Exit → Act → World → Prop} {t : TypeId}
/-- An operation whose run is known and turns the world, as one step of a region that draws its order. -/
theorem step_exec {w' : World} {K : Act → World → Prop} {E : Prop} (v : Value) (he : (execOp a.eval o).run P w = .ok (.value v) w') (hw : Region.wanted o (yielded ops a.tmps) = true) (hK : K (a.put o.dst v) w') : if Region.wanted o (yielded ops a.tmps) = true then Oper.wp P o a w K Q else E := by
  rw [if_pos hw]
  unfold Oper.wp
  rw [he]
  exact hK
/-- A store of a whole row, as one step of a region that draws its order. -/
theorem step_store_node {K : Act → World → Prop} {E : Prop} (ty : TypeId) (x y : Operand) (ho : o.op = .store ty x y)
    (b : Nat) (N : List Int) (Z : List Value) (T : TypeId) (hw : Region.wanted o (yielded ops a.tmps) = true) (hx : a.eval x = .pointer (some ⟨b, 0, none⟩)) (hy : a.eval y = .agg (nodeC N)) (hZ : w.heap[b]? = some (.cells Z.toArray T (0, 0))) (hl : Z.length = N.length)
    (hi : (P.info? ty).map (·.size) = some N.length)
    (h : ∀ w', IsNode w' b T N → Kept b w w' → w'.heap.size = w.heap.size → K (a.put o.dst undef) w') : if Region.wanted o (yielded ops a.tmps) = true then Oper.wp P o a w K Q else E := by
  rw [if_pos hw]
  have hcell : ∀ j, w.cell? ⟨b, j, none⟩ = Z[j]? := fun j => by rw [cell_of_row w b j _ _ _ hZ]; simp
  refine wp_store_mid ty x y ho b 0 (nodeC N) hx hy (fun j hj => ?_) (by rw [nodeC_size]; exact hi) (nodeC_one N) (h _ ?_ ⟨by rw [setCells_size]; exact Nat.le_refl _, fun k _ hk => setCells_other b _ 0 w k hk, fun B hB _ => setCells_below b _ 0 w B hB⟩ (setCells_size _ _ _ _))
  · rw [nodeC_size] at hj
    rw [Nat.zero_add, hcell]
    exact ⟨by rw [List.getElem?_eq_getElem (by omega)]; rfl, by simp [World.frozen?, hZ]⟩
  · have := setCells_whole w b T (nodeL N) 0 Z hZ (by rw [nodeL_length]; omega)
    rw [List.take_zero, List.nil_append] at this
    exact this
end
end Go.Proofs.Ytmfncpifalnggaa
