/- The walk of InodeBlocks. -/
import Derived.Test.YtmjknaldpeoheaaShown
namespace Go.Proofs.Ytmjknaldpeoheaa
open Go.RowKit O
set_option linter.unusedVariables false

theorem minI_run (P : Program) (n : Nat) (n' : Int) (hn : n' = (n : Int)) : ∀ (ts : Array TypeId) (t : TypeId) (W : World), (Builtin.min_ ts t #[.int .i64 n', .int .i64 256]).run P W = .ok (.int .i64 ((min n 256 : Nat) : Int)) W := by
  subst hn
  intro ts t W
  simp [Builtin.min_, Builtin.min2]
  split <;> omega
theorem mod_lt (m k : Nat) (kI : Int) (hk : kI = (k : Int)) (h0 : 0 < k) : ∃ n : Nat, (m : Int) % kI = (n : Int) ∧ n < k := by
  subst hk
  exact ⟨m % k, by simp, Nat.mod_lt _ h0⟩

theorem walk_InodeBlocks (w : World) (z : Int) (hz : -9223372036854775808 ≤ z ∧ z ≤ 9223372036854775807) :
    Calls Try.prog 5 #[.int .i64 z] w fun e w' => e = .returned (.bool true) ∧ Below w.heap.size w w' := by
  obtain ⟨q, hmask, hq⟩ := and_mask z 16777215 16777215 rfl (by omega)
  obtain ⟨s, hs, hs2⟩ := mod_lt q 122881 122881 rfl (by omega)
  have Hb1 := hid (blk_of s (by omega))
  have Hb2 := hid (show blk ((s : Int) + 480) = min ((s + 479) / 480 + 1) 256 from blk_more s (by omega))
  clear hz
  go_enter Try.func5, Try.ntmps5
  go_wp2_with fail
  refine (shown_any w).mono ?_
  rintro e w1 ⟨rfl, hB⟩
  have HB := hid hB
  clear hB
  go_wp2_with fail
  refine (blocks_any _ _).mono ?_
  rintro e w2 ⟨rfl, rfl⟩
  obtain ⟨b, hb⟩ : ∃ b, b = (s + 479) / 480 := ⟨_, rfl⟩
  rw [Hb1.out, ← hb]
  have hle : b ≤ 256 := by omega
  have h1 : (s : Int) ≤ (b : Int) * 480 := by omega
  have h2 : ((b : Int) - 1) * 480 < (s : Int) := by omega
  have h3 : ((b : Int) == 0) = ((s : Int) == 0) := by rw [Bool.eq_iff_iff, beq_iff_eq, beq_iff_eq]; omega
  have hmn := minI_run Try.prog (b + 1) ((b : Int) + 1) (by omega)
  have H2 := hid (Hb2.out)
  rw [← hb] at H2
  have Hbb := hid hb
  clear hb
  go_wp2_with fail
  refine (blocks_any _ _).mono ?_
  rintro e w2 ⟨rfl, rfl⟩
  rw [H2.out]
  go_wp2
  go_ret
  exact ⟨rfl, HB.out⟩
end Go.Proofs.Ytmjknaldpeoheaa
