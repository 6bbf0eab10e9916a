/- The walk of names.Name. -/
import Derived.Test.YtpnhmcckdpdilaaRows
import Derived.Test.YtpnhmcckdpdilaaOwn2
import Derived.Test.YtpnhmcckdpdilaaNameM
import Derived.Test.YtpnhmcckdpdilaaShelf
import Derived.Outline
namespace Go.Proofs.Ytpnhmcckdpdilaa
open Go.RowKit
set_option linter.unusedVariables false

theorem ret_bool {a b : Bool} (h : a = b) : Ending.returned (.bool a) = .returned (.bool b) := by rw [h]
theorem index_any (l : List UInt8) (c : UInt8) (w : World) :
    Calls Try.prog 18 #[.string ⟨l.toArray⟩, .int .u8 (n8 c)] w fun e w' => e = .returned (.int .i64 (Lib.indexByte l c)) ∧ w' = w := by
  have h := Try.strings_IndexByte ⟨l.toArray⟩ (n8 c) w
  have e2 : (n8 c).toNat.toUInt8 = c := by
    unfold n8
    rw [Int.toNat_natCast]
    exact UInt8.ofNat_toNat
  rw [e2] at h
  exact h

theorem name_any (l : List UInt8) (w : World) : Calls Try.prog 12 #[.string ⟨l.toArray⟩] w fun e w' => e = .returned (.bool (nm l)) ∧ w = w' := by
  obtain ⟨n, hsz⟩ : ∃ n, l.length = n := ⟨_, rfl⟩
  have Hn := hid hsz
  by_cases h1 : 1 ≤ n ∧ n ≤ 28
  case neg =>
    have hno : nm l = false := by
      unfold nm
      rw [Hn.out]
      exact decide_eq_false (fun h => h1 ⟨h.1, h.2.1⟩)
    rw [hno]
    rcases (show n < 1 ∨ (1 ≤ n ∧ 28 < n) by omega) with h2 | ⟨h2, h3⟩
    all_goals
      clear h1
      go_enter Try.func12, Try.ntmps12
      go_wp2
      go_ret
      exact ⟨rfl, rfl⟩
  obtain ⟨h1, h2⟩ := h1
  obtain ⟨i1, hi1⟩ : ∃ i1, Lib.indexByte l 47 = i1 := ⟨_, rfl⟩
  obtain ⟨i2, hi2⟩ : ∃ i2, Lib.indexByte l 0 = i2 := ⟨_, rfl⟩
  have Hm1 := hid (hi1 ▸ idx_mem l 47)
  have Hm2 := hid (hi2 ▸ idx_mem l 0)
  have HI1 := hid (show ∀ w, Calls Try.prog 18 #[.string ⟨l.toArray⟩, .int .u8 47] w fun e w' => e = .returned (.int .i64 i1) ∧ w' = w from fun w => hi1 ▸ index_any l 47 w)
  have HI2 := hid (show ∀ w, Calls Try.prog 18 #[.string ⟨l.toArray⟩, .int .u8 0] w fun e w' => e = .returned (.int .i64 i2) ∧ w' = w from fun w => hi2 ▸ index_any l 0 w)
  have Hnm := hid (show nm l = (!decide (0 ≤ i1) && !decide (0 ≤ i2) && !(l == [46]) && !(l == [46, 46])) by
    unfold nm
    rw [Hn.out, Bool.eq_iff_iff]
    simp only [decide_eq_true_eq, Bool.and_eq_true, Bool.not_eq_true', decide_eq_false_iff_not, beq_eq_false_iff_ne, Hm1.out, Hm2.out]
    exact ⟨fun h => ⟨⟨⟨h.2.2.1, h.2.2.2.1⟩, h.2.2.2.2.1⟩, h.2.2.2.2.2⟩, fun h => ⟨h1, h2, h.1.1.1, h.1.1.2, h.1.2, h.2⟩⟩)
  clear hi1 hi2
  rw [Hnm.out]
  obtain ⟨b1, hb1⟩ : ∃ b1, (l == [46]) = b1 := ⟨_, rfl⟩
  obtain ⟨b2, hb2⟩ : ∃ b2, (l == [46, 46]) = b2 := ⟨_, rfl⟩
  rw [hb1, hb2]
  go_enter Try.func12, Try.ntmps12
  go_wp2_with fail
  refine (HI1.out _).mono ?_
  rintro e w1 ⟨rfl, rfl⟩
  by_cases hi1 : 0 ≤ i1
  · go_wp2
    go_ret
    exact ⟨ret_bool (by rw [decide_eq_true hi1]; simp), rfl⟩
  · go_wp2_with fail
    refine (HI2.out _).mono ?_
    rintro e w2 ⟨rfl, rfl⟩
    by_cases hi2 : 0 ≤ i2
    · go_wp2
      go_ret
      exact ⟨ret_bool (by rw [decide_eq_true hi2]; simp), rfl⟩
    · cases b1 <;> cases b2 <;>
      (go_wp2
       go_ret
       exact ⟨ret_bool (by rw [decide_eq_false (show ¬ 0 ≤ i1 by omega), decide_eq_false (show ¬ 0 ≤ i2 by omega)]; rfl), rfl⟩)
end Go.Proofs.Ytpnhmcckdpdilaa
