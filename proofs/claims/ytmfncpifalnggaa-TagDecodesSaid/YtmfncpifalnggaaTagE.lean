/- Equality of tags; unlike tags have unlike heads. -/
import Derived.Test.YtmfncpifalnggaaTag6
import Derived.Laws.StructEq
namespace Go.Proofs.Ytmfncpifalnggaa
open Go.RowKit O
set_option linter.unusedVariables false

theorem guard25 : Try.prog.eqGuardType Try.prog.depth 25 = false := by kernel_rfl
theorem fields25 : (Try.prog.fieldsOf 25).toList.map (fun f => (f.name, f.type, f.offset)) = [("Epoch", 22, 0), ("Start", 23, 1), ("Seq", 23, 2), ("Floor", 23, 3), ("Index", 3, 4), ("Count", 3, 5), ("ID", 3, 6)] := by kernel_rfl
theorem struct25 : Try.prog.underlying 25 = some (.struct (Try.prog.fieldsOf 25)) := by kernel_rfl
theorem stood25 : Try.prog.stoodInHeld 25 = false := by kernel_rfl
theorem part_intk {P : Program} {K : IntKind} {e : TypeId} (he : P.underlying e = some (.int K)) {xs : Array Value} {off : Nat} {v : Value} (hx : xs[off]? = some v) (w : World) : (part e xs off).run P w = .ok v w := by
  simp [part, isAgg, run_underlying he, hx]

theorem eq_tag (e s q f : Nat) (i c d : Int) (e' s' q' f' : Nat) (i' c' d' : Int) (w : World) :
    (Op.equalIn 10000 25 (.agg (tagV e s q f i c d)) (.agg (tagV e' s' q' f' i' c' d'))).run Try.prog w = .ok (decide (e = e' ∧ s = s' ∧ q = q' ∧ f = f' ∧ i = i' ∧ c = c' ∧ d = d')) w := by
  rw [run_equalIn_struct w 9999 _ _ _ struct25 stood25]
  have hf := fields25
  generalize (Try.prog.fieldsOf 25).toList = fs at hf
  have hl : fs.length = 7 := by simpa using congrArg List.length hf
  match fs, hl, hf with
  | [f0, f1, f2, f3, f4, f5, f6], _, hf =>
    simp only [List.map_cons, List.map_nil, List.cons.injEq, Prod.mk.injEq, and_true] at hf
    obtain ⟨⟨n0, t0, o0⟩, ⟨n1, t1, o1⟩, ⟨n2, t2, o2⟩, ⟨n3, t3, o3⟩, ⟨n4, t4, o4⟩, ⟨n5, t5, o5⟩, ⟨n6, t6, o6⟩⟩ := hf
    have p0 := fun (e s q f : Nat) (i c d : Int) (w : World) => part_intk (P := Try.prog) Try.underlying22 (show (tagV e s q f i c d)[0]? = some (.int .u32 (e : Int)) from rfl) w
    have p1 := fun (e s q f : Nat) (i c d : Int) (w : World) => part_intk (P := Try.prog) Try.underlying23 (show (tagV e s q f i c d)[1]? = some (.int .u64 (s : Int)) from rfl) w
    have p2 := fun (e s q f : Nat) (i c d : Int) (w : World) => part_intk (P := Try.prog) Try.underlying23 (show (tagV e s q f i c d)[2]? = some (.int .u64 (q : Int)) from rfl) w
    have p3 := fun (e s q f : Nat) (i c d : Int) (w : World) => part_intk (P := Try.prog) Try.underlying23 (show (tagV e s q f i c d)[3]? = some (.int .u64 (f : Int)) from rfl) w
    have p4 := fun (e s q f : Nat) (i c d : Int) (w : World) => part_intk (P := Try.prog) Try.underlying3 (show (tagV e s q f i c d)[4]? = some (.int .i64 i) from rfl) w
    have p5 := fun (e s q f : Nat) (i c d : Int) (w : World) => part_intk (P := Try.prog) Try.underlying3 (show (tagV e s q f i c d)[5]? = some (.int .i64 c) from rfl) w
    have p6 := fun (e s q f : Nat) (i c d : Int) (w : World) => part_intk (P := Try.prog) Try.underlying3 (show (tagV e s q f i c d)[6]? = some (.int .i64 d) from rfl) w
    have e32 := fun (a b : Int) (w : World) => run_equalIn_int (P := Try.prog) w 9998 22 .u32 .u32 a b Try.underlying22
    have e64 := fun (a b : Int) (w : World) => run_equalIn_int (P := Try.prog) w 9998 23 .u64 .u64 a b Try.underlying23
    have ei := fun (a b : Int) (w : World) => run_equalIn_int (P := Try.prog) w 9998 3 .i64 .i64 a b Try.underlying3
    have h0 : ("Epoch" : String) ≠ "_" := by decide
    have h1 : ("Start" : String) ≠ "_" := by decide
    have h2 : ("Seq" : String) ≠ "_" := by decide
    have h3 : ("Floor" : String) ≠ "_" := by decide
    have h4 : ("Index" : String) ≠ "_" := by decide
    have h5 : ("Count" : String) ≠ "_" := by decide
    have h6 : ("ID" : String) ≠ "_" := by decide
    simp only [Op.eqFields, n0, n1, n2, n3, n4, n5, n6, t0, t1, t2, t3, t4, t5, t6, o0, o1, o2, o3, o4, o5, o6, h0, h1, h2, h3, h4, h5, h6, ne_eq, not_false_eq_true, if_true, Sem.run_bind, Sem.run_ite, Sem.run_pure, p0, p1, p2, p3, p4, p5, p6, e32, e64, ei, Result.andThen_ok]
    rw [show decide (e = e' ∧ s = s' ∧ q = q' ∧ f = f' ∧ i = i' ∧ c = c' ∧ d = d') = (((e : Int) == (e' : Int)) && (((s : Int) == (s' : Int)) && (((q : Int) == (q' : Int)) && (((f : Int) == (f' : Int)) && ((i == i') && ((c == c') && (d == d'))))))) by
      rw [Bool.eq_iff_iff, decide_eq_true_iff]
      simp
      omega]
    cases ((e : Int) == (e' : Int)) <;> cases ((s : Int) == (s' : Int)) <;> cases ((q : Int) == (q' : Int)) <;> cases ((f : Int) == (f' : Int)) <;> cases (i == i') <;> cases (c == c') <;> cases (d == d') <;> simp

theorem le_inj {k x y : Nat} (h : le k x = le k y) (hx : x < 256 ^ k) (hy : y < 256 ^ k) : x = y := by
  have := congrArg num h
  rw [num_le, num_le, Nat.mod_eq_of_lt hx, Nat.mod_eq_of_lt hy] at this
  exact this
theorem app_le {k x y : Nat} {a b : List UInt8} (h : le k x ++ a = le k y ++ b) (hx : x < 256 ^ k) (hy : y < 256 ^ k) : x = y ∧ a = b := by
  obtain ⟨h1, h2⟩ := List.append_inj h (by rw [le_length, le_length])
  exact ⟨le_inj h1 hx hy, h2⟩
theorem head_inj {e s q f i c d e' s' q' f' i' c' d' : Nat} (he : e < 4294967296) (he' : e' < 4294967296) (h : right e s q f i c d = true) (h' : right e' s' q' f' i' c' d' = true) : head e s q f i c d = head e' s' q' f' i' c' d' ↔ (e = e' ∧ s = s' ∧ q = q' ∧ f = f' ∧ i = i' ∧ c = c' ∧ d = d') := by
  constructor
  · intro hh
    obtain ⟨-, a1, a2, a3, a4, a5, a6, a7, a8, a9, aa⟩ := right_of h
    obtain ⟨-, b1, b2, b3, b4, b5, b6, b7, b8, b9, ba⟩ := right_of h'
    unfold head at hh
    have e4 : 256 ^ 4 = 4294967296 := by decide
    have e6 : 256 ^ 6 = 281474976710656 := by decide
    have e1 : 256 ^ 1 = 256 := by decide
    have e2 : 256 ^ 2 = 65536 := by decide
    obtain ⟨-, hh⟩ := app_le hh (by rw [e4]; omega) (by rw [e4]; omega)
    obtain ⟨r1, hh⟩ := app_le hh (by rw [e4]; omega) (by rw [e4]; omega)
    obtain ⟨r2, hh⟩ := app_le hh (by rw [e6]; omega) (by rw [e6]; omega)
    obtain ⟨r3, hh⟩ := app_le hh (by rw [e6]; omega) (by rw [e6]; omega)
    obtain ⟨r4, hh⟩ := app_le hh (by rw [e6]; omega) (by rw [e6]; omega)
    obtain ⟨r5, hh⟩ := app_le hh (by rw [e1]; omega) (by rw [e1]; omega)
    obtain ⟨r6, hh⟩ := app_le hh (by rw [e1]; omega) (by rw [e1]; omega)
    obtain ⟨r7, -⟩ := app_le hh (by rw [e2]; omega) (by rw [e2]; omega)
    exact ⟨r1, r4, r2, r3, r5, r6, r7⟩
  · rintro ⟨rfl, rfl, rfl, rfl, rfl, rfl, rfl⟩
    rfl
end Go.Proofs.Ytmfncpifalnggaa
