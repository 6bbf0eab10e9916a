/- The walk of CrcTurned. -/
import Derived.Test.YtnbcnhhonleepaaDoorCrc
import Derived.Test.YtnbcnhhonleepaaDoorBits
namespace Go.Proofs.YtnbcnhhonleepaaDoor
open Go.RowKit M
set_option linter.unusedVariables false

theorem walk_CrcTurned (w : World) (hT : HasTable w) (x y : UInt8) (a : Option Addr) (l : List UInt8) (c : Nat) (hb : IsBytes w a l) (hlc : l.length ≤ c) (hc : c ≤ maxLen) :
    Calls Tryd.prog 10 #[.int .u8 (n8 x), .int .u8 (n8 y), .slice a l.length c] w fun e w' => e = .returned (.bool true) ∧ Below w.heap.size w w' := by
  unfold maxLen at hc
  obtain ⟨n, hmin, hlen, hn6, hnc⟩ := cut_min l 100 100 rfl hlc
  have hb' := hb.take 100
  generalize l.take 100 = l' at *
  have e1 : (n8 x = n8 y ∧ ((n32 (more (more (sum [x]) l') [y]) == n32 (more (more (sum [y]) l') [x])) = true)) ∨
      ((n8 x == n8 y) = false ∧ (n8 x != n8 y) = true ∧ (2 < n ∨ (n ≤ 2 ∧ (n32 (more (more (sum [x]) l') [y]) == n32 (more (more (sum [y]) l') [x])) = false))) := by
    by_cases h : x = y
    · subst h
      exact .inl ⟨rfl, by simp⟩
    · refine .inr ⟨by rw [n8_beq]; simpa using h, by rw [bne, n8_beq]; simpa using h, ?_⟩
      by_cases h2 : 2 < n
      · exact .inl h2
      · refine .inr ⟨by omega, ?_⟩
        rw [n32_beq, beq_eq_false_iff_ne]
        exact fun h3 => h (turned x y l' (by omega) h3)
  have E1 := hid e1
  clear hb e1
  go_enter Tryd.func10, Tryd.ntmps10
  go_wp2_with fail
  refine (shown_any w hT).mono ?_
  rintro e w1 ⟨rfl, hB⟩
  have hO : Ok w w1 := ⟨hT.below hB, hB⟩
  have hb1 := hid (hb'.below hB)
  clear hb' hB hT
  go_wp2_with fail
  refine (sum_any [x] 1 rfl _ _ _ (by omega) (by exact IsBytes.alloc_new _ _ _ _ _ rfl) (hO.alloc _).1).mono ?_
  rintro e w2 ⟨rfl, hw⟩
  have hb2 := hid ((hb1.out.below (w' := w2) (by rw [← hw]; exact (Below.refl _ _).alloc (Nat.le_refl _) _)))
  replace hO := (hO.alloc _).of_eq hw
  clear hw
  go_wp2_with fail
  refine (more_any _ l' n hlen _ _ _ (by omega) hb2.out hO.1).mono ?_
  rintro e w3 ⟨rfl, rfl⟩
  go_wp2_with fail
  refine (more_any _ [y] 1 rfl _ _ _ (by omega) (by exact IsBytes.alloc_new _ _ _ _ _ rfl) (hO.alloc _).1).mono ?_
  rintro e w3 ⟨rfl, hw⟩
  have hb3 := hid ((hb2.out.below (w' := w3) (by rw [← hw]; exact (Below.refl _ _).alloc (Nat.le_refl _) _)))
  replace hO := (hO.alloc _).of_eq hw
  clear hw
  go_wp2_with fail
  refine (sum_any [y] 1 rfl _ _ _ (by omega) (by exact IsBytes.alloc_new _ _ _ _ _ rfl) (hO.alloc _).1).mono ?_
  rintro e w4 ⟨rfl, hw⟩
  have hb4 := hid ((hb3.out.below (w' := w4) (by rw [← hw]; exact (Below.refl _ _).alloc (Nat.le_refl _) _)))
  replace hO := (hO.alloc _).of_eq hw
  clear hw
  go_wp2_with fail
  refine (more_any _ l' n hlen _ _ _ (by omega) hb4.out hO.1).mono ?_
  rintro e w5 ⟨rfl, rfl⟩
  go_wp2_with fail
  refine (more_any _ [x] 1 rfl _ _ _ (by omega) (by exact IsBytes.alloc_new _ _ _ _ _ rfl) (hO.alloc _).1).mono ?_
  rintro e w5 ⟨rfl, hw⟩
  replace hO := (hO.alloc _).of_eq hw
  clear hw
  have hfin := hO.2
  clear hO
  rcases E1.out with ⟨h1, h2⟩ | ⟨h1, h2, h3 | ⟨h3, h4⟩⟩
  · go_wp2
    all_goals (go_ret; exact ⟨rfl, hfin⟩)
  · go_wp2
    all_goals (go_ret; exact ⟨rfl, hfin⟩)
  · go_wp2
    all_goals (go_ret; exact ⟨rfl, hfin⟩)
end Go.Proofs.YtnbcnhhonleepaaDoor
