/- The walks of package tag: Right, and the fields. -/
import Derived.Test.YtmfncpifalnggaaRows
import Derived.Test.YtmfncpifalnggaaTagM
import Derived.Test.YtmfncpifalnggaaOwn2
import Derived.Outline
import Derived.Deep.MidRow
namespace Go.Proofs.Ytmfncpifalnggaa
open Go.RowKit O
set_option linter.unusedVariables false

theorem elemU8 : ElemOf Try.prog 26 5 (.int .u8 0) 1 := ⟨Try.underlying26, by kernel_rfl, rfl⟩
theorem ret_int {k : IntKind} {a b : Int} (h : a = b) : Ending.returned (.int k a) = .returned (.int k b) := by rw [h]
theorem ret_bool {a b : Bool} (h : a = b) : Ending.returned (.bool a) = .returned (.bool b) := by rw [h]

set_option maxHeartbeats 2000000 in
theorem right_any (e s q f : Nat) (i c d : Int) (w : World) :
    Calls Try.prog 11 #[.agg (tagV e s q f i c d)] w fun x w' => x = .returned (.bool (right e s q f i c d)) ∧ Below w.heap.size w w' := by
  have HB := hid (show ∀ o, Below w.heap.size w (w.alloc o) from fun o => (Below.refl _ _).alloc (Nat.le_refl _) o)
  unfold tagV
  rcases wrong_cases (e := e) (s := s) (q := q) (f := f) (i := i) (c := c) (d := d) with h | ⟨h, h1 | ⟨h1, h2 | ⟨h2, h3 | ⟨h3, h4 | ⟨h4, h5 | ⟨h5, h6 | ⟨h6, h7 | ⟨h7, h8 | ⟨h8, h9 | ⟨h9, ha | ⟨ha, hb⟩⟩⟩⟩⟩⟩⟩⟩⟩⟩⟩
  · obtain ⟨h1, h2, h3, h4, h5, h6, h7, h8, h9, ha, hb⟩ := right_of h
    rw [h]
    clear h
    have h1' : (1 : Int) ≤ (e : Int) := by omega
    have h2' : (1 : Int) ≤ (s : Int) := by omega
    have h3' : (s : Int) ≤ (q : Int) := by omega
    have h4' : (q : Int) ≤ 281474976710655 := by omega
    have h5' : (f : Int) < (q : Int) := by omega
    clear h1 h2 h3 h4 h5
    go_enter Try.func11, Try.ntmps11
    go_wp2
    go_ret
    exact ⟨ret_bool (by simp_all), HB.out _⟩
  all_goals
    rw [h]
    clear h
    go_enter Try.func11, Try.ntmps11
    go_wp2
    go_ret
    exact ⟨ret_bool (by simp_all; try omega), HB.out _⟩
end Go.Proofs.Ytmfncpifalnggaa
