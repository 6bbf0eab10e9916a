/- The walk of CrcCut. -/
import Derived.Test.YtnbcnhhonleepaaDoorCrc
import Derived.Test.YtnbcnhhonleepaaDoorMore
import Derived.Test.YtnbcnhhonleepaaDoorBits
import Derived.Deep.QuietTactic
import Derived.BigQuiet
namespace Go.Proofs.YtnbcnhhonleepaaDoor
open Go.RowKit M
set_option linter.unusedVariables false
attribute [local go_sem] u32_byte0 u32_byte8 u32_byte16 u32_and24
theorem walk_CrcCut (w : World) (hT : HasTable w) (a : Option Addr) (l : List UInt8) (c : Nat) (hb : IsBytes w a l) (hlc : l.length ≤ c) (hc : c ≤ maxLen) (x y : BitVec 32)
    (a3 : Option Addr) (l3 : List UInt8) (c3 : Nat) (hb3 : IsBytes w a3 l3) (hlc3 : l3.length ≤ c3) (hc3 : c3 ≤ maxLen) :
    Calls Tryd.prog 9 #[.slice a l.length c, .int .u32 (n32 x), .int .u32 (n32 y), .slice a3 l3.length c3] w fun e w' => e = .returned (.bool true) ∧ Below w.heap.size w w' := by
  unfold maxLen at hc hc3
  obtain ⟨n, hmin, hlen, hn6, hnc⟩ := cut_min l 200 200 rfl hlc
  obtain ⟨n3, hmin3, hlen3, hn63, hnc3⟩ := cut_min l3 200 200 rfl hlc3
  have hb' := hb.take 200
  have hb3' := hb3.take 200
  generalize l.take 200 = l' at *
  generalize l3.take 200 = l3' at *
  have e1 : ((n32 (more (more (sum l') [byteAt x 0, byteAt x 8, byteAt x 16]) l3') == n32 (more (more (sum l') [byteAt y 0, byteAt y 8, byteAt y 16]) l3')) == (n32 (x &&& 16777215#32) == n32 (y &&& 16777215#32))) = true := by
    rw [n32_beq, n32_beq, beq_iff_eq, Bool.eq_iff_iff, beq_iff_eq, beq_iff_eq]
    exact cut _ _ _ _
  clear hb hb3
  go_enter Tryd.func9, Tryd.ntmps9
  go_wp2_with fail
  refine (shown_any w hT).mono ?_
  rintro e w1 ⟨rfl, hB⟩
  have hO : Ok w w1 := ⟨hT.below hB, hB⟩
  have hb1 := hid (hb'.below hB)
  have hb31 := hid (hb3'.below hB)
  clear hb' hb3' hB hT
  go_wp2_with fail
  refine (sum_any l' n hlen _ _ _ (by omega) hb1.out hO.1).mono ?_
  rintro e w2 ⟨rfl, rfl⟩
  go_wp2_with fail
  refine (more_any (sum l') [byteAt x 0, byteAt x 8, byteAt x 16] 3 rfl _ _ _ (by omega) (by exact IsBytes.alloc_new _ _ _ _ _ rfl) (hO.alloc _).1).mono ?_
  rintro e w2 ⟨rfl, hw⟩
  have hb32 := hid ((hb31.out.below (w' := w2) (by rw [← hw]; exact (Below.refl _ _).alloc (Nat.le_refl _) _)))
  replace hO := (hO.alloc _).of_eq hw
  clear hw
  go_wp2_with fail
  refine (more_any _ l3' n3 hlen3 _ _ _ (by omega) hb32.out hO.1).mono ?_
  rintro e w3 ⟨rfl, rfl⟩
  go_wp2_with fail
  refine (more_any (sum l') [byteAt y 0, byteAt y 8, byteAt y 16] 3 rfl _ _ _ (by omega) (by exact IsBytes.alloc_new _ _ _ _ _ rfl) (hO.alloc _).1).mono ?_
  rintro e w3 ⟨rfl, hw⟩
  have hb33 := hid ((hb32.out.below (w' := w3) (by rw [← hw]; exact (Below.refl _ _).alloc (Nat.le_refl _) _)))
  replace hO := (hO.alloc _).of_eq hw
  clear hw
  go_wp2_with fail
  refine (more_any _ l3' n3 hlen3 _ _ _ (by omega) hb33.out hO.1).mono ?_
  rintro e w4 ⟨rfl, rfl⟩
  go_wp2
  all_goals (go_ret; exact ⟨rfl, hO.2⟩)
end Go.Proofs.YtnbcnhhonleepaaDoor
