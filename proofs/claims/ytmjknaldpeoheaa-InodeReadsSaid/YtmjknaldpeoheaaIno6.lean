/- Equality of nodes. -/
import Derived.Test.YtmjknaldpeoheaaShown
import Derived.Test.YtmjknaldpeoheaaNodeEq
import Derived.Test.YtmjknaldpeoheaaInoM2
namespace Go.Proofs.Ytmjknaldpeoheaa
open Go.RowKit O
set_option linter.unusedVariables false

theorem guard24 : Try.prog.eqGuardType Try.prog.depth 24 = false := by kernel_rfl
theorem fields24 : (Try.prog.fieldsOf 24).toList.map (fun f => (f.name, f.type, f.offset)) = [("Kind", 3, 0), ("Links", 3, 1), ("Size", 3, 2), ("Direct", 22, 3), ("Row", 3, 19)] := by kernel_rfl
theorem struct24 : Try.prog.underlying 24 = some (.struct (Try.prog.fieldsOf 24)) := by kernel_rfl
theorem stood24 : Try.prog.stoodInHeld 24 = false := by kernel_rfl
theorem cells3 : Try.prog.cellsOf 3 = 1 := by kernel_rfl
theorem agg22 (w : World) : (isAgg 22).run Try.prog w = .ok true w := by kernel_rfl
theorem size22 (w : World) : (sizeOf 22).run Try.prog w = .ok 16 w := by kernel_rfl

theorem nd_extract (k l s : Int) (D : List Int) (r : Int) (hD : D.length = 16) : (nodeC (nd k l s D r)).extract 3 19 = nodeC D := by
  unfold nodeC
  rw [List.extract_toArray]
  congr 1
  unfold nodeL
  rw [List.extract_eq_take_drop, ← List.map_drop, ← List.map_take]
  congr 1
  exact (nd_mid k l s D r hD).symm
theorem part_mid (k l s : Int) (D : List Int) (r : Int) (hD : D.length = 16) (w : World) : (part 22 (nodeC (nd k l s D r)) 3).run Try.prog w = .ok (.agg (nodeC D)) w := by
  unfold part
  simp only [Sem.run_bind, agg22, Result.andThen_ok, if_true, size22, Sem.run_pure]
  rw [nd_extract k l s D r hD]
theorem eq_node {k l s r k' l' s' r' : Int} {D D' : List Int} (hD : D.length = 16) (hD' : D'.length = 16) (w : World) :
    (Op.equalIn 10000 24 (.agg (nodeC (nd k l s D r))) (.agg (nodeC (nd k' l' s' D' r')))).run Try.prog w = .ok (decide (nd k l s D r = nd k' l' s' D' r')) w := by
  rw [run_equalIn_struct w 9999 _ _ _ struct24 stood24]
  obtain ⟨i, hi, hsz⟩ := info3
  have hf := fields24
  generalize (Try.prog.fieldsOf 24).toList = fs at hf
  have hl : fs.length = 5 := by simpa using congrArg List.length hf
  match fs, hl, hf with
  | [f0, f1, f2, f3, f4], _, hf =>
    simp only [List.map_cons, List.map_nil, List.cons.injEq, Prod.mk.injEq, and_true] at hf
    obtain ⟨⟨n0, t0, o0⟩, ⟨n1, t1, o1⟩, ⟨n2, t2, o2⟩, ⟨n3, t3, o3⟩, ⟨n4, t4, o4⟩⟩ := hf
    have p0 := fun (w : World) => part_int (P := Try.prog) Try.underlying3 (nodeC_at _ _ _ (nd0 k l s D r)) w
    have p1 := fun (w : World) => part_int (P := Try.prog) Try.underlying3 (nodeC_at _ _ _ (nd1 k l s D r)) w
    have p2 := fun (w : World) => part_int (P := Try.prog) Try.underlying3 (nodeC_at _ _ _ (nd2 k l s D r)) w
    have p4 := fun (w : World) => part_int (P := Try.prog) Try.underlying3 (nodeC_at _ _ _ (nd19 k l s D r hD)) w
    have q0 := fun (w : World) => part_int (P := Try.prog) Try.underlying3 (nodeC_at _ _ _ (nd0 k' l' s' D' r')) w
    have q1 := fun (w : World) => part_int (P := Try.prog) Try.underlying3 (nodeC_at _ _ _ (nd1 k' l' s' D' r')) w
    have q2 := fun (w : World) => part_int (P := Try.prog) Try.underlying3 (nodeC_at _ _ _ (nd2 k' l' s' D' r')) w
    have q4 := fun (w : World) => part_int (P := Try.prog) Try.underlying3 (nodeC_at _ _ _ (nd19 k' l' s' D' r' hD')) w
    have e := fun (a b : Int) (w : World) => run_equalIn_int (P := Try.prog) w 9998 3 .i64 .i64 a b Try.underlying3
    have m := fun (w : World) => eq_ints (P := Try.prog) 9997 Try.underlying22 Try.underlying3 hi cells3 w D D' hD hD'
    have h0 : ("Kind" : String) ≠ "_" := by decide
    have h1 : ("Links" : String) ≠ "_" := by decide
    have h2 : ("Size" : String) ≠ "_" := by decide
    have h3 : ("Direct" : String) ≠ "_" := by decide
    have h4 : ("Row" : String) ≠ "_" := by decide
    simp only [Op.eqFields, n0, n1, n2, n3, n4, t0, t1, t2, t3, t4, o0, o1, o2, o3, o4, h0, h1, h2, h3, h4, ne_eq, not_false_eq_true, if_true, Sem.run_bind, Sem.run_ite, Sem.run_pure, p0, p1, p2, p4, q0, q1, q2, q4, part_mid _ _ _ _ _ hD, part_mid _ _ _ _ _ hD', e, m, Result.andThen_ok]
    rw [show decide (nd k l s D r = nd k' l' s' D' r') = ((k == k') && ((l == l') && ((s == s') && (decide (D = D') && (r == r'))))) by
      rw [Bool.eq_iff_iff, decide_eq_true_iff, nd_inj hD hD']
      simp]
    cases (k == k') <;> cases (l == l') <;> cases (s == s') <;> cases (decide (D = D')) <;> cases (r == r') <;> simp
end Go.Proofs.Ytmjknaldpeoheaa
