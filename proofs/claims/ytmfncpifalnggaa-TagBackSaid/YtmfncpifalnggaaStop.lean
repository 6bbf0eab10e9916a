/- A region that does not draw its order, walked op by op by hand: where the walk shall stop; an operation taken, an operation passed over. No program in sight. -/
import Derived.Test.YtmfncpifalnggaaNodeEq
namespace Go.Proofs.Ytmfncpifalnggaa
section
variable {P : Program} {ops : Array Oper} {rest : List Oper} {o : Oper} {a : Act} {w : World} {Q : Exit → Act → World → Prop}
/-- The walk stops here. -/
@[irreducible] def Stop (p : Prop) : Prop := p
theorem Stop.go {p : Prop} (h : p) : Stop p := by unfold Stop; exact h
theorem stop_load (t : TypeId) (x : Operand) (_ho : o.op = .load t x) (h : Stop (wpList P ops Q (o :: rest) a w)) : wpList P ops Q (o :: rest) a w := by unfold Stop at h; exact h
theorem stop_op (p : Op) (_ho : o.op = p) (h : Stop (wpList P ops Q (o :: rest) a w)) : wpList P ops Q (o :: rest) a w := by unfold Stop at h; exact h
theorem wpList_skip (hw : Region.wanted o (yielded ops a.tmps) = false) (h : wpList P ops Q rest (a.put o.dst undef) w) : wpList P ops Q (o :: rest) a w :=
  wpList_step fun K hK => by
    rw [if_neg (by rw [hw]; exact Bool.false_ne_true)]
    exact hK _ _ h
end
end Go.Proofs.Ytmfncpifalnggaa
