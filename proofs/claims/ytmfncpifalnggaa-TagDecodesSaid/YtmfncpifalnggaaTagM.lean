/- Plain mathematics of tags: which are right, their bytes. No program in sight. -/
import Derived.Test.YtmfncpifalnggaaLe
import Derived.Test.YtmfncpifalnggaaBase
namespace Go.Proofs.Ytmfncpifalnggaa
open O

/-- A tag's cells. -/
def tagV (e s q f : Nat) (i c d : Int) : Array Value := #[.int .u32 (e : Int), .int .u64 (s : Int), .int .u64 (q : Int), .int .u64 (f : Int), .int .i64 i, .int .i64 c, .int .i64 d]
def right (e s q f : Nat) (i c d : Int) : Bool := decide (1 ≤ e ∧ 1 ≤ s ∧ s ≤ q ∧ q ≤ 281474976710655 ∧ f < q ∧ 1 ≤ c ∧ c ≤ 72 ∧ 0 ≤ i ∧ i < c ∧ 0 ≤ d ∧ d < 3840)
theorem right_of {e s q f : Nat} {i c d : Int} (h : right e s q f i c d = true) : 1 ≤ e ∧ 1 ≤ s ∧ s ≤ q ∧ q ≤ 281474976710655 ∧ f < q ∧ 1 ≤ c ∧ c ≤ 72 ∧ 0 ≤ i ∧ i < c ∧ 0 ≤ d ∧ d < 3840 := by
  unfold right at h
  exact of_decide_eq_true h
/-- How a tag may fail to be right: the first thing that is wrong. -/
theorem wrong_cases {e s q f : Nat} {i c d : Int} : right e s q f i c d = true ∨ (right e s q f i c d = false ∧
    ((e : Int) < 1 ∨ (1 ≤ (e : Int) ∧ ((s : Int) < 1 ∨ (1 ≤ (s : Int) ∧ ((q : Int) < (s : Int) ∨ ((s : Int) ≤ (q : Int) ∧ (281474976710655 < (q : Int) ∨ ((q : Int) ≤ 281474976710655 ∧ ((q : Int) ≤ (f : Int) ∨ ((f : Int) < (q : Int) ∧ (c < 1 ∨ (1 ≤ c ∧ (72 < c ∨ (c ≤ 72 ∧ (i < 0 ∨ (0 ≤ i ∧ (c ≤ i ∨ (i < c ∧ (d < 0 ∨ (0 ≤ d ∧ 3840 ≤ d))))))))))))))))))))) := by
  cases h : right e s q f i c d with
  | true => exact .inl rfl
  | false =>
    refine .inr ⟨rfl, ?_⟩
    unfold right at h
    have := of_decide_eq_false h
    omega

/-- The bytes ahead of a block, up to the k-th field. -/
def flds (e s q f i c d : Nat) : List (Nat × Nat) := [(4, 1465012808), (4, e), (6, q), (6, f), (6, s), (1, i), (1, c), (2, d), (2, 0)]
def head (e s q f i c d : Nat) : List UInt8 := le 4 1465012808 ++ (le 4 e ++ (le 6 q ++ (le 6 f ++ (le 6 s ++ (le 1 i ++ (le 1 c ++ (le 2 d ++ le 2 0)))))))
theorem head_length (e s q f i c d : Nat) : (head e s q f i c d).length = 32 := by simp [head, le_length]
end Go.Proofs.Ytmfncpifalnggaa
