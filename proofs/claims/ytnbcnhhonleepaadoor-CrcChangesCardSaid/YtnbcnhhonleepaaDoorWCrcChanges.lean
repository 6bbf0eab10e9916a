/- The walk of CrcChanges. -/
import Derived.Test.YtnbcnhhonleepaaDoorCrc
import Derived.Test.YtnbcnhhonleepaaDoorBits
namespace Go.Proofs.YtnbcnhhonleepaaDoor
open Go.RowKit M
set_option linter.unusedVariables false
attribute [local go_sem] u32_byte0 u32_byte8 u32_byte16 u32_byte24 u8_xor_n8
theorem walk_CrcChanges (w : World) (hT : HasTable w) (a : Option Addr) (l : List UInt8) (c : Nat) (hb : IsBytes w a l) (hlc : l.length ≤ c) (hc : c ≤ maxLen) (i : Int) (hi : -9223372036854775808 ≤ i ∧ i ≤ 9223372036854775807) (v : BitVec 32) :
    Calls Tryd.prog 5 #[.slice a l.length c, .int .i64 i, .int .u32 (n32 v)] w fun e w' => e = .returned (.bool true) ∧ Below w.heap.size w w' := by
  unfold maxLen at hc
  obtain ⟨n, hmin, hlen, hn6, hnc⟩ := cut_min l 600 600 rfl hlc
  obtain ⟨m, hmask, hm⟩ := and_mask i 65535 65535 rfl (by omega)
  have hb' := hb.take 600
  generalize l.take 600 = l' at *
  clear hb
  go_enter Tryd.func5, Tryd.ntmps5
  go_wp2_with fail
  refine (shown_any w hT).mono ?_
  rintro e w1 ⟨rfl, hB⟩
  have hO : Ok w w1 := ⟨hT.below hB, hB⟩
  have hb1 := hid (hb'.below hB)
  clear hb' hB hT
  obtain ⟨A', c', w2, hrun, hown, hB2⟩ := append_run elemU8 22 (n := 0) (base := w1.heap.size) (w := w1.alloc (.cells #[] 5)) (c2 := c) (Own.empty 5 w1 (Nat.le_refl _)) rfl ((hb1.out.below ((Below.refl _ _).alloc (Nat.le_refl _) _)).row) (by simpa using hlen) (byteV_one _) (by omega) (by omega) (by simp)
  rw [Nat.zero_add] at hrun
  rw [List.nil_append] at hown
  have hC2 : Below w1.heap.size w1 w2 := ((Below.refl _ _).alloc (Nat.le_refl _) _).trans hB2
  by_cases h4 : n < 4
  · go_wp2_with (at_builtin; refine wpList_append_run _ _ hrun rfl rfl rfl rfl ?_)
    go_ret
    exact ⟨rfl, (hO.step hC2).2⟩
  · obtain ⟨p, hp, hp1⟩ : ∃ p : Nat, (m : Int) % ((n : Int) - 3) = (p : Int) ∧ p + 4 ≤ n := ⟨m % (n - 3), mod_sub m n 3 3 rfl (by omega), by have := Nat.mod_lt m (show 0 < n - 3 by omega); omega⟩
    have hd : decide ((n : Int) < 4) = false := by simp; omega
    obtain ⟨g, rfl, hg1, hg2⟩ := hown.form (by intro h; rw [List.map_eq_nil_iff] at h; subst h; simp at hlen; omega)
    go_wp2_with (at_builtin; refine wpList_append_run _ _ hrun rfl rfl rfl rfl ?_)
    refine (sum_any l' n hlen _ _ _ (by omega) hown.row.bytes (hO.step hC2).1).mono ?_
    rintro e w3 ⟨rfl, rfl⟩
    clear hrun
    go_wp2
    go_loopw [9] (fun i wr => ∃ k : Nat, k ≤ 4 ∧ i = .int .i64 k ∧ Own 5 w1.heap.size wr (some ⟨g, 0, none⟩) c' ((chg l' p v k).map byteV) ∧ Below w1.heap.size w1 wr) (fun i _ => 4 - (intOf i).toNat)
    case atStart => exact ⟨0, by omega, rfl, hown, hC2⟩
    case round =>
      obtain ⟨k, hk, rfl, hown, hBr⟩ := hrel
      by_cases hk4 : k < 4
      · obtain ⟨x, hx⟩ : ∃ x, x = (chg l' p v k).getD (p + k) 0 := ⟨_, rfl⟩
        have hcell := hown.cell (p + k) (by simp [chg_len]; omega)
        have hfr := hown.unfrozen (p + k)
        have hpk : p + k < (chg l' p v k).length := by rw [chg_len]; omega
        have e1 : ((chg l' p v k).map byteV)[p + k]'(by simpa using hpk) = .int .u8 (n8 x) := by
          rw [hx]
          simp [byteV, hpk]
        rw [e1] at hcell
        have Hx := hid hx
        have Hown := hid hown
        have HB := hid hBr
        clear hx hown hBr e1 hpk
        have fin : ∀ y, y = byteAt v (8 * k) → Own 5 w1.heap.size (wr.setCell ⟨g, p + k, none⟩ (.int .u8 (n8 (x ^^^ y)))) (some ⟨g, 0, none⟩) c' ((chg l' p v (k + 1)).map byteV) ∧ Below w1.heap.size w1 (wr.setCell ⟨g, p + k, none⟩ (.int .u8 (n8 (x ^^^ y)))) := by
          rintro y rfl
          refine ⟨?_, HB.out.setCell hg1 _⟩
          have := Hown.out.set (p + k) (byteV (x ^^^ byteAt v (8 * k)))
          rw [← List.map_set] at this
          rw [chg, ← Hx.out]
          exact this
        have Fin := hid fin
        clear fin
        rcases (show k = 0 ∨ k = 1 ∨ k = 2 ∨ k = 3 by omega) with rfl | rfl | rfl | rfl
        · simp only [Nat.add_zero] at hcell hfr
          go_wp2
          go_roundw
          case rel => exact ⟨1, by omega, rfl, Fin.out _ rfl⟩
          case measure => simp [intOf]
        · go_wp2
          go_roundw
          case rel => exact ⟨2, by omega, rfl, Fin.out _ rfl⟩
          case measure => simp [intOf]
        · go_wp2
          go_roundw
          case rel => exact ⟨3, by omega, rfl, Fin.out _ rfl⟩
          case measure => simp [intOf]
        · go_wp2
          go_roundw
          case rel => exact ⟨4, by omega, rfl, Fin.out _ rfl⟩
          case measure => simp [intOf]
      · obtain rfl : k = 4 := by omega
        have e1 : ((n32 (sum (chg l' p v 4)) == n32 (sum l')) == (n32 v == (0 : Int))) = true := by
          rw [show (0 : Int) = n32 0#32 from rfl, n32_beq, n32_beq, beq_iff_eq, Bool.eq_iff_iff, beq_iff_eq, beq_iff_eq]
          exact chg_four l' p (by omega) v
        have hr := hid hown.row.bytes
        have HB := hid hBr
        clear hown hBr
        go_wp2_with fail
        refine (sum_any (chg l' p v 4) n (by rw [chg_len]; exact hlen) _ _ _ (by omega) hr.out (hO.step HB.out).1).mono ?_
        rintro e w4 ⟨rfl, rfl⟩
        go_wp2
        all_goals (go_ret; exact ⟨rfl, (hO.step HB.out).2⟩)
end Go.Proofs.YtnbcnhhonleepaaDoor
