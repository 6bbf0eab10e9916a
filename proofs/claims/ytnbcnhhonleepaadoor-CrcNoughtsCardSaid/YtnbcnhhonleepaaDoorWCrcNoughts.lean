/- The walk of CrcNoughts. -/
import Derived.Test.YtnbcnhhonleepaaDoorCrc
import Derived.Test.YtnbcnhhonleepaaDoorBits
namespace Go.Proofs.YtnbcnhhonleepaaDoor
open Go.RowKit M
set_option linter.unusedVariables false
theorem walk_CrcNoughts (w : World) (hT : HasTable w) (a : Option Addr) (l : List UInt8) (c : Nat) (hb : IsBytes w a l) (hlc : l.length ≤ c) (hc : c ≤ maxLen) (i : Int) (hi : -9223372036854775808 ≤ i ∧ i ≤ 9223372036854775807) :
    Calls Tryd.prog 8 #[.slice a l.length c, .int .i64 i] w fun e w' => e = .returned (.bool true) ∧ Below w.heap.size w w' := by
  unfold maxLen at hc
  obtain ⟨n, hmin, hlen, hn6, hnc⟩ := cut_min l 300 300 rfl hlc
  obtain ⟨m, hmask, hm⟩ := and_mask i 65535 65535 rfl (by omega)
  obtain ⟨N, hN, hN1, hN2⟩ : ∃ N : Nat, 1 + (m : Int) % 100 = (N : Int) ∧ 1 ≤ N ∧ N ≤ 100 := ⟨1 + m % 100, by omega, by omega, by omega⟩
  obtain ⟨M, hM, hM1, hM2⟩ : ∃ M : Nat, (N : Int) + 1 = (M : Int) ∧ N + 1 ≤ M ∧ M ≤ N + 1 := ⟨N + 1, by omega, by omega, by omega⟩
  have hb' := hb.take 300
  generalize l.take 300 = l' at *
  clear hb
  have e1 : sum (List.replicate N 0 ++ l') = more (sum (List.replicate N 0)) l' := sum_append _ _
  have e2 : sum (l' ++ List.replicate N 0) = more (sum l') (List.replicate N 0) := sum_append _ _
  have e3 : (n32 (more (sum (List.replicate N 0)) l') != n32 (more (sum (List.replicate M 0)) l')) = true := by
    have : M = N + 1 := by omega
    subst this
    rw [bne_iff_ne]
    intro h
    exact noughts_ne N l' ((n32_inj _ _).1 h)
  have E1 := hid e1
  have E2 := hid e2
  clear e1 e2
  go_enter Tryd.func8, Tryd.ntmps8
  go_wp2_with fail
  refine (shown_any w hT).mono ?_
  rintro e w1 ⟨rfl, hB⟩
  have hO : Ok w w1 := ⟨hT.below hB, hB⟩
  have hb1 := hid (hb'.below hB)
  clear hb' hB hT
  obtain ⟨w2, hmk, hz, hB2, -⟩ := make_run elemU8 (base := w1.heap.size) (w := w1) .i64 .i64 N (by omega) (by omega) (Nat.le_refl _)
  rw [rep_byteV] at hz
  have hz2 := hid hz.row.bytes
  have hb2 := hid (hb1.out.below hB2)
  replace hO := hO.step hB2
  clear hz hB2
  go_wp2_with (at_make; refine wpList_make_run hmk rfl rfl rfl rfl ?_)
  refine (sum_any (List.replicate N 0) N (by simp) _ _ _ (by omega) hz2.out hO.1).mono ?_
  rintro e w3 ⟨rfl, rfl⟩
  go_wp2_with fail
  refine (more_any _ l' n hlen _ _ _ (by omega) hb2.out hO.1).mono ?_
  rintro e w3 ⟨rfl, rfl⟩
  go_wp2_with fail
  refine (sum_any l' n hlen _ _ _ (by omega) hb2.out hO.1).mono ?_
  rintro e w3 ⟨rfl, rfl⟩
  go_wp2_with fail
  refine (more_any _ (List.replicate N 0) N (by simp) _ _ _ (by omega) hz2.out hO.1).mono ?_
  rintro e w3 ⟨rfl, rfl⟩
  clear hmk
  obtain ⟨w3, hmk, hz, hB3, -⟩ := make_run elemU8 (base := w2.heap.size) (w := w2) .i64 .i64 M (by omega) (by omega) (Nat.le_refl _)
  rw [rep_byteV] at hz
  have hy3 := hid hz.row.bytes
  have hz3 := hid (hz2.out.below hB3)
  have hb3 := hid (hb2.out.below hB3)
  replace hO := hO.step hB3
  clear hz hB3
  go_wp2_with (at_make; refine wpList_make_run hmk rfl rfl rfl rfl ?_)
  refine (sum_any (List.replicate M 0) M (by simp) _ _ _ (by omega) hy3.out hO.1).mono ?_
  rintro e w4 ⟨rfl, rfl⟩
  go_wp2_with fail
  refine (more_any _ l' n hlen _ _ _ (by omega) hb3.out hO.1).mono ?_
  rintro e w4 ⟨rfl, rfl⟩
  clear hmk
  obtain ⟨A4, c4, w4, hrun4, hown4, hB4⟩ := append_run elemU8 22 (n := 0) (m := N) (base := w3.heap.size) (w := w3.alloc (.cells #[] 5)) (c2 := N) (Own.empty 5 w3 (Nat.le_refl _)) rfl ((hz3.out.below ((Below.refl _ _).alloc (Nat.le_refl _) _)).row) (by simp) (byteV_one _) (by omega) (by omega) (by simp)
  rw [Nat.zero_add] at hrun4
  rw [List.nil_append] at hown4
  have hC4 : Below w3.heap.size w3 w4 := ((Below.refl _ _).alloc (Nat.le_refl _) _).trans hB4
  obtain ⟨A5, c5, w5, hrun5, hown5, hB5⟩ := append_run elemU8 22 (n := N) (m := n) (c2 := c) hown4 (by simp) ((hb3.out.below hC4).row) (by simpa using hlen) (byteV_one _) (by omega) (by omega) hC4.size
  rw [← List.map_append] at hown5
  have hC5 : Below w3.heap.size w3 w5 := hC4.trans hB5
  go_wp2_with (at_builtin; first | (refine wpList_append_run (.tmp 38) (.tmp 39) hrun4 rfl rfl rfl rfl ?_) | (refine wpList_append_run (.tmp 40) (.tmp 41) hrun5 rfl rfl rfl rfl ?_))
  refine (sum_any _ (N + n) (by simp [hlen]) _ _ _ (by omega) hown5.row.bytes (hO.step hC5).1).mono ?_
  rintro e w6 ⟨rfl, rfl⟩
  rw [E1.out]
  have hb5 := hid (hb3.out.below hC5)
  have hz5 := hid (hz3.out.below hC5)
  replace hO := hO.step hC5
  clear hrun4 hrun5 hown4 hown5 hB4 hB5 hC4 hC5
  obtain ⟨A6, c6, w6, hrun6, hown6, hB6⟩ := append_run elemU8 22 (n := 0) (m := n) (base := w5.heap.size) (w := w5.alloc (.cells #[] 5)) (c2 := c) (Own.empty 5 w5 (Nat.le_refl _)) rfl ((hb5.out.below ((Below.refl _ _).alloc (Nat.le_refl _) _)).row) (by simpa using hlen) (byteV_one _) (by omega) (by omega) (by simp)
  rw [Nat.zero_add] at hrun6
  rw [List.nil_append] at hown6
  have hC6 : Below w5.heap.size w5 w6 := ((Below.refl _ _).alloc (Nat.le_refl _) _).trans hB6
  obtain ⟨A7, c7, w7, hrun7, hown7, hB7⟩ := append_run elemU8 22 (n := n) (m := N) (c2 := N) hown6 (by simpa using hlen) ((hz5.out.below hC6).row) (by simp) (byteV_one _) (by omega) (by omega) hC6.size
  rw [← List.map_append] at hown7
  have hC7 : Below w5.heap.size w5 w7 := hC6.trans hB7
  go_wp2_with (at_builtin; first | (refine wpList_append_run (.tmp 48) (.tmp 49) hrun6 rfl rfl rfl rfl ?_) | (refine wpList_append_run (.tmp 50) (.tmp 51) hrun7 rfl rfl rfl rfl ?_))
  refine (sum_any _ (n + N) (by simp [hlen]) _ _ _ (by omega) hown7.row.bytes (hO.step hC7).1).mono ?_
  rintro e w8 ⟨rfl, rfl⟩
  rw [E2.out]
  replace hO := hO.step hC7
  clear hrun6 hrun7 hown6 hown7 hB6 hB7 hC6 hC7
  go_wp2
  all_goals (go_ret; exact ⟨rfl, hO.2⟩)
end Go.Proofs.YtnbcnhhonleepaaDoor
