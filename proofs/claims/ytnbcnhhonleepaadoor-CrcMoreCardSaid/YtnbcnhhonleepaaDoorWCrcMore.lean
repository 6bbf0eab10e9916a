/- The walk of CrcMore. -/
import Derived.Test.YtnbcnhhonleepaaDoorCrc
import Derived.Deep.QuietTactic
import Derived.BigQuiet
namespace Go.Proofs.YtnbcnhhonleepaaDoor
open Go.RowKit M
set_option linter.unusedVariables false
theorem walk_CrcMore (w : World) (hT : HasTable w) (a : Option Addr) (l : List UInt8) (c : Nat) (hb : IsBytes w a l) (hlc : l.length ≤ c) (hc : c ≤ maxLen) (n : Int) (hn : -9223372036854775808 ≤ n ∧ n ≤ 9223372036854775807) :
    Calls Tryd.prog 4 #[.slice a l.length c, .int .i64 n] w fun e w' => e = .returned (.bool true) ∧ Below w.heap.size w w' := by
  unfold maxLen at hc
  obtain ⟨n', hmin, hlen, hn6, hnc⟩ := cut_min l 600 600 rfl hlc
  obtain ⟨m, hmask, hm⟩ := and_mask n 65535 65535 rfl (by omega)
  have hb' := hb.take 600
  generalize l.take 600 = l' at *
  obtain ⟨k, hk, hkn⟩ : ∃ k : Nat, (m : Int) % ((n' : Int) + 1) = (k : Int) ∧ k ≤ n' := ⟨m % (n' + 1), mod_nat _ _, by have := Nat.mod_lt m (show 0 < n' + 1 by omega); omega⟩
  clear hb
  go_enter Tryd.func4, Tryd.ntmps4
  go_wp2_with fail
  refine (shown_any w hT).mono ?_
  rintro e w1 ⟨rfl, hB⟩
  have hT1 := hT.below hB
  have hb1 := hb'.below hB
  have hstr : ∀ j, (convert 22 9 (.slice a n' c)).run Tryd.prog (w1.drewN j) = .ok (.string ⟨l'.toArray⟩) (w1.drewN j) := fun j => str_back Tryd.underlying22 Tryd.underlying5 Tryd.underlying9 l' n' hlen _ a c hb1
  have hstr0 := hstr 0
  rw [show w1.drewN 0 = w1 from rfl] at hstr0
  have hq1 := hid (sumQ w1 hT1 l' n' hlen a c (by omega) hb1)
  have hq2 := hid (sumQ w1 hT1 (l'.take k) k (by rw [List.length_take]; omega) a c (by omega) (hb1.take k))
  have hq3 := hid (moreQ w1 hT1 (sum (l'.take k)) (l'.drop k) (n' - k) (by rw [List.length_drop]; omega) _ (c - k) (by omega) (hb1.drop k c (by omega) (by omega)))
  have hq4 := hid (moreQ w1 hT1 (sum l') [] 0 rfl none 0 (by omega) (IsBytes.nil _ _))
  have e1 : (n32 (more (sum (l'.take k)) (l'.drop k)) == n32 (sum l')) = true := by
    rw [← sum_append, List.take_append_drop, beq_self_eq_true]
  have e2 : (n32 (more (sum l') []) == n32 (sum l')) = true := by rw [more_nil, beq_self_eq_true]
  clear hT1 hb1 hT hb' hlen
  go_wp2
  go_quiet ((first | with_reducible exact hq1.out _ | with_reducible exact hq2.out _ | with_reducible exact hq3.out _ | with_reducible exact hq4.out _))
  go_wp2
  all_goals (go_ret; exact ⟨rfl, below_drewN hB _⟩)
end Go.Proofs.YtnbcnhhonleepaaDoor
