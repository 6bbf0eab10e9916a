/- The walk of OctetsOrder. -/
import Derived.Test.YtacjfebkabkmcaaShown
import Derived.Test.YtacjfebkabkmcaaLaw
import Derived.Deep.QuietTactic
import Derived.BigQuiet
namespace Go.Proofs.Ytacjfebkabkmcaa
open Go.RowKit O
set_option linter.unusedVariables false

theorem walk_OctetsOrder (w : World) (a : Nat) (ha : a < 18446744073709551616) (b : Nat) (hb : b < 18446744073709551616) (z : Int) (hz : -9223372036854775808 ≤ z ∧ z ≤ 9223372036854775807) :
    Calls Try.prog 6 #[.int .u64 (a : Int), .int .u64 (b : Int), .int .i64 z] w fun e w' => e = .returned (.bool true) ∧ Below w.heap.size w w' := by
  obtain ⟨m, hmask, hm⟩ := and_mask z 7 7 rfl (by omega)
  have hk : ((1 + m : Nat) : Int) = 1 + (m : Int) := by omega
  have hcl : cl (1 + (m : Int)) 8 = 1 + m := by unfold cl; omega
  go_enter Try.func6, Try.ntmps6
  go_wp2_with fail
  refine (shown_any w).mono ?_
  rintro e w1 ⟨rfl, hB⟩
  have HB := hid hB
  have Hcl := hid hcl
  have Hk := hid hk
  clear hB hcl hk hz
  go_wp2_with fail
  refine (put_val (l := []) (n := 0) rfl (by omega) (IsBytes.nil _ _) (1 + (m : Int)) a ha (le (1 + m) a) (1 + m) (by rw [Hcl.out]; rfl) (le_length _ _)).mono ?_
  rintro e w2 ⟨A1, c1, rfl, -, hown1, hB⟩
  replace HB := hid (HB.out.trans (hB.mono HB.out.size))
  have hx := hid hown1.row.bytes
  clear hB hown1
  go_wp2_with fail
  refine (put_val (l := []) (n := 0) rfl (by omega) (IsBytes.nil _ _) (1 + (m : Int)) b hb (le (1 + m) b) (1 + m) (by rw [Hcl.out]; rfl) (le_length _ _)).mono ?_
  rintro e w3 ⟨A2, c2, rfl, -, hown2, hB⟩
  replace HB := hid (HB.out.trans (hB.mono HB.out.size))
  replace hx := hid (hx.out.below hB)
  have hy := hid hown2.row.bytes
  clear hB hown2
  have hlx := hid (le_length (1 + m) a)
  have hly := hid (le_length (1 + m) b)
  generalize le (1 + m) a = l1 at *
  generalize le (1 + m) b = l2 at *
  clear ha hb
  have ev1 : ((num (rdB l1 (cl (1 + (m : Int)) 8)) : Nat) : Int) = (num l1 : Nat) := by rw [Hcl.out, rdB, if_pos (by rw [hlx.out]; exact Nat.le_refl _), List.take_of_length_le (by rw [hlx.out]; exact Nat.le_refl _)]
  have ev2 : ((num (rdB l2 (cl (1 + (m : Int)) 8)) : Nat) : Int) = (num l2 : Nat) := by rw [Hcl.out, rdB, if_pos (by rw [hly.out]; exact Nat.le_refl _), List.take_of_length_le (by rw [hly.out]; exact Nat.le_refl _)]
  have Hv1 := hid ev1
  have Hv2 := hid ev2
  clear ev1 ev2
  go_wp2_with fail
  refine (read_any l1 (1 + m) hlx.out _ _ _ (by omega) hx.out).mono ?_
  rintro e w4 ⟨r, rfl, hr1, hr2, hB⟩
  have Hr1 := hid hr1
  have hsz := hid HB.out.size
  replace HB := hid (HB.out.trans (hB.mono HB.out.size))
  replace hx := hid (hx.out.below hB)
  replace hy := hid (hy.out.below hB)
  have HR := hid hr2
  clear hB hr1 hr2
  go_wp2_with fail
  refine (number_val HR.out (num l1 : Nat) _ _ Hv1.out rfl rfl).mono ?_
  rintro e w5 ⟨rfl, -, hkp⟩
  replace HB := hid (HB.out.trans (hkp.below _ (Nat.le_trans hsz.out Hr1.out) HB.out.size))
  replace hx := hid (hx.out.kept HR.out hkp)
  replace hy := hid (hy.out.kept HR.out hkp)
  clear hkp HR
  go_wp2_with fail
  refine (read_any l2 (1 + m) hly.out _ _ _ (by omega) hy.out).mono ?_
  rintro e w6 ⟨r2, rfl, hr1, hr2, hB⟩
  replace Hr1 := hid hr1
  replace hsz := hid HB.out.size
  replace HB := hid (HB.out.trans (hB.mono HB.out.size))
  replace hx := hid (hx.out.below hB)
  replace hy := hid (hy.out.below hB)
  have HR := hid hr2
  clear hB hr1 hr2
  go_wp2_with fail
  refine (number_val HR.out (num l2 : Nat) _ _ Hv2.out rfl rfl).mono ?_
  rintro e w7 ⟨rfl, -, hkp⟩
  replace HB := hid (HB.out.trans (hkp.below _ (Nat.le_trans hsz.out Hr1.out) HB.out.size))
  replace hx := hid (hx.out.kept HR.out hkp)
  replace hy := hid (hy.out.kept HR.out hkp)
  clear hkp HR hsz Hr1 Hv1 Hv2
  go_wp2
  have hl := hid (hlx.out.trans hly.out.symm)
  go_loopw [12] (fun i wr => ∃ j : Nat, j ≤ 1 + m ∧ i = .int .i64 (j : Nat) ∧ l1.drop j = l2.drop j ∧ IsBytes wr A1 l1 ∧ IsBytes wr A2 l2 ∧ Below w.heap.size w wr) (fun i _ => (intOf i).toNat)
  case atStart => exact ⟨1 + m, by omega, by rw [Hk.out], by rw [List.drop_of_length_le (by rw [hlx.out]; exact Nat.le_refl _), List.drop_of_length_le (by rw [hly.out]; exact Nat.le_refl _)], hx.out, hy.out, HB.out⟩
  case round =>
    obtain ⟨j, hj, rfl, hdr, hx1, hy1, hB1⟩ := hrel
    have Hdr := hid hdr
    have Hx := hid hx1
    have Hy := hid hy1
    have HB2 := hid hB1
    clear hdr hx1 hy1 hB1 hx hy HB Hcl
    cases j with
    | zero =>
      have e := hid (congrArg num (show l1 = l2 by simpa using Hdr.out))
      go_wp2
      go_ret
      exact ⟨ret_bool (by rw [e.out]; simp), HB2.out⟩
    | succ j =>
      have h1 : j < l1.length := by rw [hlx.out]; omega
      have h2 : j < l2.length := by rw [hly.out]; omega
      obtain ⟨b1, o1, q1, g1⟩ := Hx.out
      obtain rfl := q1 (by rintro rfl; simp at h1)
      obtain ⟨b2, o2, q2, g2⟩ := Hy.out
      obtain rfl := q2 (by rintro rfl; simp at h2)
      have g1' := g1 j h1
      have g2' := g2 j h2
      have hcmp := hid (num_last hl.out j h1 Hdr.out)
      have hcmp2 := hid (num_last hl.out.symm j h2 Hdr.out.symm)
      have hmore := hid (drop_more hl.out j h1 Hdr.out)
      clear q1 g1 q2 g2
      generalize l1[j] = X at *
      generalize l2[j] = Y at *
      clear h1 h2
      by_cases hxy : X = Y
      · subst hxy
        go_wp2
        go_quiet (fail)
        go_wp2
        go_roundw
        case rel => exact ⟨j, by omega, rfl, hmore.out (by trivial), Hx.out.below (below_drewN (Below.refl _ _) _), Hy.out.below (below_drewN (Below.refl _ _) _), below_drewN HB2.out _⟩
        case measure => simp [intOf]
      · have hne : (n8 X != n8 Y) = true := by rw [bne, n8_beq]; simpa using hxy
        rcases Nat.lt_or_gt_of_ne (show X.toNat ≠ Y.toNat from fun h => hxy (UInt8.toNat_inj.1 h)) with h | h
        · have h3 := hcmp.out h
          have h4 : n8 X < n8 Y := by unfold n8; omega
          have h5 : ((num l1 : Nat) : Int) < (num l2 : Nat) := by omega
          generalize num l1 = M at *
          generalize num l2 = N at *
          go_wp2
          go_quiet (fail)
          go_wp2
          go_quiet (fail)
          go_wp2
          go_ret
          exact ⟨ret_bool (by simp; omega), below_drewN (below_drewN HB2.out _) _⟩
        · have h3 := hcmp2.out h
          have h4 : n8 Y < n8 X := by unfold n8; omega
          have h5 : ((num l2 : Nat) : Int) < (num l1 : Nat) := by omega
          generalize num l1 = M at *
          generalize num l2 = N at *
          have hd1 : decide ((M : Int) < (N : Int)) = false := by simp; omega
          have hd2 : decide (M < N) = false := by simp; omega
          have hd3 : decide (n8 X < n8 Y) = false := by simp; omega
          go_wp2
          go_quiet (fail)
          go_wp2
          go_quiet (fail)
          go_wp2
          go_ret
          exact ⟨ret_bool (by simp; omega), below_drewN (below_drewN HB2.out _) _⟩
end Go.Proofs.Ytacjfebkabkmcaa
