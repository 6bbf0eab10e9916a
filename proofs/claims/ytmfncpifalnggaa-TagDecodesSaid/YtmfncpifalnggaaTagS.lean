/- Bytes as a string; bytes.Equal. -/
import Derived.Test.YtmfncpifalnggaaTag5a
namespace Go.Proofs.Ytmfncpifalnggaa
open Go.RowKit O
set_option linter.unusedVariables false

theorem str_any {l : List UInt8} {n : Nat} (hl : l.length = n) {w : World} {a : Option Addr} {c : Nat} (hb : IsBytes w a l) :
    (convert 26 9 (.slice a n c)).run Try.prog w = .ok (.string ⟨l.toArray⟩) w :=
  str_back Try.underlying26 Try.underlying5 Try.underlying9 l n hl w a c hb
theorem equal_any (x y : List UInt8) (n m : Nat) (hx : x.length = n) (hy : y.length = m) (w : World) (a a2 : Option Addr) (c c2 : Nat) (h1 : IsBytes w a x) (h2 : IsBytes w a2 y) :
    Calls Try.prog 17 #[.slice a n c, .slice a2 m c2] w fun v w' => v = .returned (.bool (decide (x = y))) ∧ w = w' := by
  have hs1 := str_any (c := c) hx h1
  have hs2 := str_any (c := c2) hy h2
  clear hx hy h1 h2
  go_enter Try.func17, Try.ntmps17
  go_wp2
  go_ret
  exact ⟨ret_bool (by rw [Bool.eq_iff_iff]; simp), rfl⟩
end Go.Proofs.Ytmfncpifalnggaa
