/- The walk of CrcTells. -/
import Derived.Test.YtnbcnhhonleepaaDoorCrc
import Derived.Test.YtnbcnhhonleepaaDoorRef
namespace Go.Proofs.YtnbcnhhonleepaaDoor
open Go.RowKit M
set_option linter.unusedVariables false
theorem walk_CrcTells (w : World) (hT : HasTable w) (a : Option Addr) (l : List UInt8) (c : Nat) (hb : IsBytes w a l) (hlc : l.length ≤ c) (hc : c ≤ maxLen) :
    Calls Tryd.prog 3 #[.slice a l.length c] w fun e w' => e = .returned (.bool true) ∧ Below w.heap.size w w' := by
  unfold maxLen at hc
  obtain ⟨n, hmin, hlen, hn6, hnc⟩ := cut_min l 600 600 rfl hlc
  have hb' := hb.take 600
  generalize l.take 600 = l' at *
  clear hb
  go_enter Tryd.func3, Tryd.ntmps3
  go_wp2_with fail
  refine (shown_any w hT).mono ?_
  rintro e w1 ⟨rfl, hB⟩
  have hO : Ok w w1 := ⟨hT.below hB, hB⟩
  have hb1 := hid (hb'.below hB)
  clear hb' hB hT
  go_wp2_with fail
  refine (sum_any l' n hlen _ _ _ (by omega) hb1.out hO.1).mono ?_
  rintro e w2 ⟨rfl, rfl⟩
  go_wp2_with fail
  refine (refsum_any l' n hlen _ _ _ (by omega) hb1.out).mono ?_
  rintro e w2 ⟨rfl, rfl⟩
  go_wp2
  all_goals (go_ret; exact ⟨rfl, hO.2⟩)
end Go.Proofs.YtnbcnhhonleepaaDoor
