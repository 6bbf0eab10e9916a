/- Loads and equality of rows of integers, as steps of a walk and of a region that draws its order. No program in sight. -/
import Derived.Test.YtmfncpifalnggaaNode
import Derived.Deep.RegionHeld3
namespace Go.Proofs.Ytmfncpifalnggaa
open Go.RowKit

section
variable {P : Program} {ops : Array Oper} {rest : List Oper} {o : Oper} {a : Act} {w : World} {Q : Exit → Act → World → Prop} {S : World → Prop} {t t2 : TypeId} {X Y : Array Value} {b : Bool}

theorem exec_eql (x y : Operand) (ho : o.op = .binOp .eql t x y t2) (hx : a.eval x = .agg X) (hy : a.eval y = .agg Y) (hg : P.eqGuardType P.depth t = false) (heq : (Op.equalIn 10000 t (.agg X) (.agg Y)).run P w = .ok b w) :
    (execOp a.eval o).run P w = .ok (.value (.bool b)) w := by
  unfold execOp
  simp only [ho, hx, hy, Sem.run_bind, run_eqGuard_agg w .eql t x y X Y hg, Result.andThen_ok, run_eql_struct, heq, Sem.run_pure]
theorem exec_neq (x y : Operand) (ho : o.op = .binOp .neq t x y t2) (hx : a.eval x = .agg X) (hy : a.eval y = .agg Y) (hg : P.eqGuardType P.depth t = false) (heq : (Op.equalIn 10000 t (.agg X) (.agg Y)).run P w = .ok b w) :
    (execOp a.eval o).run P w = .ok (.value (.bool (!b))) w := by
  unfold execOp
  simp only [ho, hx, hy, Sem.run_bind, run_eqGuard_agg w .neq t x y X Y hg, Result.andThen_ok, run_neq_struct, heq, Sem.run_pure]
theorem wpList_exec (v : Value) (hw : Region.wanted o (yielded ops a.tmps) = true) (he : (execOp a.eval o).run P w = .ok (.value v) w) (h : wpList P ops Q rest (a.put o.dst v) w) : wpList P ops Q (o :: rest) a w :=
  wpList_step fun K hK => by
    rw [if_pos hw]
    unfold Oper.wp
    rw [he]
    exact hK _ _ h
theorem yieldsIf_exec (v : Value) (hw : Region.wanted o (yielded ops a.tmps) = true) (he : ∀ w, S w → (execOp a.eval o).run P w = .ok (.value v) w) : YieldsIf P ops S o v a := .inl ⟨hw, he⟩
theorem exec_load_ints (x : Operand) (ho : o.op = .load t x) (B off : Nat) (hx : a.eval x = .pointer (some ⟨B, off, none⟩)) (D : List Int) (d : TypeDesc) (hc : w.rangeAt B off (nodeL D))
    (hu : P.underlying t = some d) (hd : d.isRow = true) (hi : (P.info? t).map (·.size) = some D.length) : (execOp a.eval o).run P w = .ok (.value (.agg (nodeC D))) w := by
  unfold execOp
  simp only [ho, hx, Instr.loadAt, Instr.sureAddr, Sem.run_bind, Sem.run_pure, Result.andThen_ok, run_loadVar_mid w B off t (nodeL D) d hc hu hd (by rw [nodeL_length]; exact hi)]
  rfl
end

theorem Own.cellB {e : TypeId} {base : Nat} {w : World} {g c : Nat} {l : List UInt8} (h : Own e base w (some ⟨g, 0, none⟩) c (l.map byteV)) (i : Nat) (x : UInt8) (hx : l[i]? = some x) : w.cell? ⟨g, i, none⟩ = some (.int .u8 (n8 x)) := by
  obtain ⟨hi, rfl⟩ := List.getElem?_eq_some_iff.1 hx
  rw [h.cell i (by rw [List.length_map]; exact hi), List.getElem_map]
  rfl
end Go.Proofs.Ytmfncpifalnggaa
