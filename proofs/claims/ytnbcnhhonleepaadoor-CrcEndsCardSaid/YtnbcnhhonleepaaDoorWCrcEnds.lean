/- The walk of CrcEnds. -/
import Derived.Test.YtnbcnhhonleepaaDoorCrc
import Derived.Test.YtnbcnhhonleepaaDoorBits
import Derived.Test.YtnbcnhhonleepaaDoorOwn
namespace Go.Proofs.YtnbcnhhonleepaaDoor
open Go.RowKit M
set_option linter.unusedVariables false
attribute [local go_sem] u32_byte0 u32_byte8 u32_byte16 u32_byte24
theorem walk_CrcEnds (w : World) (hT : HasTable w) (a : Option Addr) (l : List UInt8) (c : Nat) (hb : IsBytes w a l) (hlc : l.length ≤ c) (hc : c ≤ maxLen) :
    Calls Tryd.prog 7 #[.slice a l.length c] w fun e w' => e = .returned (.bool true) ∧ Below w.heap.size w w' := by
  unfold maxLen at hc
  obtain ⟨n, hmin, hlen, hn6, hnc⟩ := cut_min l 600 600 rfl hlc
  have hb' := hb.take 600
  generalize l.take 600 = l' at *
  clear hb
  have e1 : (n32 (sum (l' ++ [byteAt (sum l') 0, byteAt (sum l') 8, byteAt (sum l') 16, byteAt (sum l') 24])) == (558161692 : Int)) = true := by
    rw [ends]
    decide +kernel
  go_enter Tryd.func7, Tryd.ntmps7
  go_wp2_with fail
  refine (shown_any w hT).mono ?_
  rintro e w1 ⟨rfl, hB⟩
  have hO : Ok w w1 := ⟨hT.below hB, hB⟩
  have hb1 := hid (hb'.below hB)
  clear hb' hB hT
  obtain ⟨A', c', w2, hrun, hown, hB2⟩ := append_run elemU8 22 (n := 0) (base := w1.heap.size) (w := w1.alloc (.cells #[] 5)) (c2 := c) (Own.empty 5 w1 (Nat.le_refl _)) rfl ((hb1.out.below ((Below.refl _ _).alloc (Nat.le_refl _) _)).row) (by simpa using hlen) (byteV_one _) (by omega) (by omega) (by simp)
  rw [Nat.zero_add] at hrun
  rw [List.nil_append] at hown
  have hC2 : Below w1.heap.size w1 w2 := ((Below.refl _ _).alloc (Nat.le_refl _) _).trans hB2
  go_wp2_with (at_builtin; refine wpList_append_run _ _ hrun rfl rfl rfl rfl ?_)
  refine (sum_any l' n hlen _ _ _ (by omega) hown.row.bytes (hO.step hC2).1).mono ?_
  rintro e w3 ⟨rfl, rfl⟩
  obtain ⟨A2, c2, w3, hrun2, hown2, hB3⟩ := append_run elemU8 22 (base := w1.heap.size) (w := w2.alloc (.cells #[.int .u8 (n8 (byteAt (sum l') 0)), .int .u8 (n8 (byteAt (sum l') 8)), .int .u8 (n8 (byteAt (sum l') 16)), .int .u8 (n8 (byteAt (sum l') 24))] 5)) (n := n) (m := 4) (c2 := 4)
    (hown.keep ((Below.refl _ _).alloc (Nat.le_refl _) _)) (by simpa using hlen) (IsRow.alloc_new _ _ _ _ ([byteAt (sum l') 0, byteAt (sum l') 8, byteAt (sum l') 16, byteAt (sum l') 24].map byteV) rfl) rfl (byteV_one _) (by omega) (by omega) (by have := hC2.size; simp; omega)
  rw [← List.map_append] at hown2
  have hC3 : Below w1.heap.size w1 w3 := hC2.trans (((Below.refl _ _).alloc hC2.size _).trans hB3)
  go_wp2_with (at_builtin; refine wpList_append_run _ _ hrun2 rfl rfl rfl rfl ?_)
  refine (sum_any _ (n + 4) (by simp [hlen]) _ _ _ (by omega) hown2.row.bytes (hO.step hC3).1).mono ?_
  rintro e w4 ⟨rfl, rfl⟩
  go_wp2
  all_goals (go_ret; exact ⟨rfl, (hO.step hC3).2⟩)
end Go.Proofs.YtnbcnhhonleepaaDoor
