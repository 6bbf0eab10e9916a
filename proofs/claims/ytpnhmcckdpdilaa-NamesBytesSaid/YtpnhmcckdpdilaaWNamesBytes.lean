/- The walk of NamesBytes. -/
import Derived.Test.YtpnhmcckdpdilaaRefS
import Derived.Test.YtpnhmcckdpdilaaStr
namespace Go.Proofs.Ytpnhmcckdpdilaa
open Go.RowKit
set_option linter.unusedVariables false

theorem nm_rep (N : Nat) (x : UInt8) (h : 1 ≤ N) : nm (List.replicate N x) = decide ((x ≠ 47 ∧ x ≠ 0) ∧ N ≤ 28 ∧ (x ≠ 46 ∨ 2 < N)) := by
  unfold nm
  rw [Bool.eq_iff_iff]
  simp only [decide_eq_true_eq, List.length_replicate, List.mem_replicate, ne_eq]
  have e1 : List.replicate N x = [46] ↔ N = 1 ∧ x = 46 := by
    constructor
    · intro h
      have h1 := congrArg List.length h
      simp at h1
      subst h1
      simpa using h
    · rintro ⟨rfl, rfl⟩
      rfl
  have e2 : List.replicate N x = [46, 46] ↔ N = 2 ∧ x = 46 := by
    constructor
    · intro h
      have h1 := congrArg List.length h
      simp at h1
      subst h1
      refine ⟨rfl, ?_⟩
      simp [List.replicate] at h
      exact h
    · rintro ⟨rfl, rfl⟩
      rfl
  rw [e1, e2]
  constructor
  · rintro ⟨-, h2, h3, h4, h5, h6⟩
    refine ⟨⟨fun h => h3 ⟨by omega, h.symm⟩, fun h => h4 ⟨by omega, h.symm⟩⟩, h2, ?_⟩
    by_cases hx : x = 46
    · right
      have g1 : N ≠ 1 := fun h => h5 ⟨h, hx⟩
      have g2 : N ≠ 2 := fun h => h6 ⟨h, hx⟩
      omega
    · exact .inl hx
  · rintro ⟨⟨h1, h2⟩, h3, h4⟩
    refine ⟨h, h3, fun h => h1 h.2.symm, fun h => h2 h.2.symm, ?_, ?_⟩
    · rintro ⟨rfl, hx⟩
      rcases h4 with h4 | h4
      · exact h4 hx
      · omega
    · rintro ⟨rfl, hx⟩
      rcases h4 with h4 | h4
      · exact h4 hx
      · omega
theorem nm_rep_with (N : Nat) (x : UInt8) (h : 1 ≤ N) {l : List UInt8} (hl : l = 97 :: List.replicate N x ∨ l = List.replicate N x ++ [97]) : nm l = decide ((x ≠ 47 ∧ x ≠ 0) ∧ N ≤ 27) := by
  have hmem : ∀ c : UInt8, c ≠ 97 → (c ∈ l ↔ c = x) := by
    intro c hc
    rcases hl with rfl | rfl
    · rw [List.mem_cons, List.mem_replicate]
      exact ⟨fun h => (h.resolve_left hc).2, fun h => .inr ⟨by omega, h⟩⟩
    · rw [List.mem_append, List.mem_replicate, List.mem_singleton]
      exact ⟨fun h => (h.resolve_right hc).2, fun h => .inl ⟨by omega, h⟩⟩
  have hlen : l.length = N + 1 := by rcases hl with rfl | rfl <;> simp
  have h97 : (97 : UInt8) ∈ l := by rcases hl with rfl | rfl <;> simp
  unfold nm
  rw [hlen, Bool.eq_iff_iff]
  simp only [decide_eq_true_eq, hmem 47 (by decide), hmem 0 (by decide), ne_eq]
  constructor
  · rintro ⟨-, h2, h3, h4, -, -⟩
    exact ⟨⟨fun h => h3 h.symm, fun h => h4 h.symm⟩, by omega⟩
  · rintro ⟨⟨h1, h2⟩, h3⟩
    refine ⟨by omega, by omega, fun h => h1 h.symm, fun h => h2 h.symm, ?_, ?_⟩
    · rintro rfl
      simp at h97
    · rintro rfl
      simp at h97
theorem str_app (l m : List UInt8) : (⟨l.toArray⟩ : ByteArray) ++ ⟨m.toArray⟩ = ⟨(l ++ m).toArray⟩ := by
  apply ByteArray.ext
  simp

set_option maxRecDepth 20000 in
set_option maxHeartbeats 4000000 in
theorem walk_NamesBytes (w : World) (x : UInt8) (z : Int) (hz : -9223372036854775808 ≤ z ∧ z ≤ 9223372036854775807) :
    Calls Try.prog 5 #[.int .u8 (n8 x), .int .i64 z] w fun e w' => e = .returned (.bool true) ∧ Below w.heap.size w w' := by
  obtain ⟨m, hmask, hm⟩ := and_mask z 65535 65535 rfl (by omega)
  obtain ⟨N, hN, hN1, hN2⟩ : ∃ N : Nat, 1 + (m : Int) % 40 = (N : Int) ∧ 1 ≤ N ∧ N ≤ 40 := ⟨1 + m % 40, by omega, by omega, by omega⟩
  obtain ⟨k, hk⟩ : ∃ k : Nat, x.toNat = k := ⟨_, rfl⟩
  have Hk := hid hk
  have hk2 : n8 x = (k : Int) := by unfold n8; rw [hk]
  have hk3 : k < 256 := by have := x.toNat_lt; omega
  rw [hk2]
  have Hk2 := hid hk2
  clear hk hk2
  go_enter Try.func5, Try.ntmps5
  go_wp2_with fail
  refine (shown_any w).mono ?_
  rintro e w1 ⟨rfl, hB⟩
  have HB := hid hB
  clear hB
  go_wp2_with fail
  go_loopw [6, 7] (fun s i wr => ∃ (j : Nat), j ≤ N ∧ i = .int .i64 j ∧ s = .string ⟨(List.replicate j x).toArray⟩ ∧ Below w.heap.size w wr) (fun _ i _ => N - (intOf i).toNat)
  case atStart => exact ⟨0, by omega, rfl, rfl, HB.out⟩
  case round =>
    obtain ⟨j, hj, rfl, rfl, hB⟩ := hrel
    have HB := hid hB
    clear hB
    by_cases hjn : j < N
    · have hs : (convert 33 9 (.slice (some ⟨wr.heap.size, 0, none⟩) 1 1)).run Try.prog (wr.alloc (.cells #[.int .u8 (k : Int)] 5)) = .ok (.string ⟨#[x]⟩) (wr.alloc (.cells #[.int .u8 (k : Int)] 5)) :=
        str_back Try.underlying33 Try.underlying5 Try.underlying9 [x] 1 rfl _ _ _ (IsBytes.alloc_new _ _ _ _ _ (by rw [← Hk2.out]; rfl))
      have hcat : (⟨(List.replicate j x).toArray⟩ : ByteArray) ++ ⟨#[x]⟩ = ⟨(List.replicate (j + 1) x).toArray⟩ := by
        rw [List.replicate_succ']
        exact str_app _ [x]
      have Hcat := hid hcat
      clear hcat
      have hlr : (List.replicate j x).length = j := List.length_replicate
      generalize List.replicate j x = R at *
      have hn1 : ¬ 9223372036854775807 < R.length + 1 := by omega
      clear hlr
      go_wp2
      go_roundw
      case rel => exact ⟨j + 1, by omega, by go_num, by rw [Hcat.out], HB.out.alloc HB.out.size _⟩
      case measure => simp [intOf]; omega
    · obtain rfl : j = N := by omega
      obtain ⟨b1, hb1⟩ : ∃ b1, nm (List.replicate j x) = b1 := ⟨_, rfl⟩
      obtain ⟨b2, hb2⟩ : ∃ b2, nm (97 :: List.replicate j x) = b2 := ⟨_, rfl⟩
      obtain ⟨b3, hb3⟩ : ∃ b3, nm (List.replicate j x ++ [97]) = b3 := ⟨_, rfl⟩
      have hc2 : (⟨#[97]⟩ : ByteArray) ++ ⟨(List.replicate j x).toArray⟩ = ⟨(97 :: List.replicate j x).toArray⟩ := str_app [97] _
      have hc3 : (⟨(List.replicate j x).toArray⟩ : ByteArray) ++ ⟨#[97]⟩ = ⟨(List.replicate j x ++ [97]).toArray⟩ := str_app _ [97]
      have r1 := nm_rep j x hN1
      have r2 := nm_rep_with j x hN1 (.inl rfl)
      have r3 := nm_rep_with j x hN1 (.inr rfl)
      rw [hb1] at r1
      rw [hb2] at r2
      rw [hb3] at r3
      have hx : ∀ n : Nat, n < 256 → (x = UInt8.ofNat n ↔ k = n) := by
        intro n hn
        rw [← Hk.out]
        constructor
        · rintro rfl
          simp
          omega
        · intro h
          rw [← h]
          exact (UInt8.ofNat_toNat).symm
      rw [show (47 : UInt8) = UInt8.ofNat 47 from rfl, show (0 : UInt8) = UInt8.ofNat 0 from rfl] at r1 r2 r3
      rw [show (46 : UInt8) = UInt8.ofNat 46 from rfl] at r1
      simp only [ne_eq, hx 47 (by omega), hx 0 (by omega), hx 46 (by omega)] at r1 r2 r3
      have hlr : (List.replicate j x).length = j := List.length_replicate
      generalize List.replicate j x = R at *
      have hn1 : ¬ 9223372036854775807 < R.length + 1 := by omega
      have hn2 : ¬ 9223372036854775807 < 1 + R.length := by omega
      have Hb1 := hid hb1
      have Hb2 := hid hb2
      have Hb3 := hid hb3
      clear hb1 hb2 hb3 hx hlr
      have R1 := hid r1
      have R2 := hid r2
      have R3 := hid r3
      clear r1 r2 r3
      rcases (show (k = 47 ∨ k = 0) ∨ (k ≠ 47 ∧ k ≠ 0) by omega) with hk0 | ⟨hk1, hk2⟩
      · obtain rfl : b1 = false := by rw [R1.out]; exact decide_eq_false (by omega)
        obtain rfl : b2 = false := by rw [R2.out]; exact decide_eq_false (by omega)
        obtain rfl : b3 = false := by rw [R3.out]; exact decide_eq_false (by omega)
        rcases hk0 with rfl | rfl
        all_goals
          go_wp2_with fail
          refine (name_is Hb1.out _).mono ?_
          rintro e w4 ⟨rfl, rfl⟩
          go_wp2_with fail
          refine (name_is Hb2.out _).mono ?_
          rintro e w4 ⟨rfl, rfl⟩
          go_wp2_with fail
          refine (name_is Hb3.out _).mono ?_
          rintro e w4 ⟨rfl, rfl⟩
          go_wp2_with fail
          go_ret
          first | exact ⟨rfl, HB.out⟩ | exact ⟨ret_bool (by simp; omega), HB.out⟩
      · have hi1 : ((k : Int) != 47) = true := by rw [bne_iff_ne]; omega
        have hi2 : ((k : Int) != 0) = true := by rw [bne_iff_ne]; omega
        rcases (show (j ≤ 27 ∧ k = 46 ∧ j ≤ 2) ∨ (j ≤ 27 ∧ k = 46 ∧ 2 < j) ∨ (j ≤ 27 ∧ k ≠ 46) ∨ (j = 28 ∧ k = 46) ∨ (j = 28 ∧ k ≠ 46) ∨ 28 < j by omega) with ⟨h1, rfl, h2⟩ | ⟨h1, rfl, h2⟩ | ⟨h1, h2⟩ | ⟨rfl, rfl⟩ | ⟨rfl, h2⟩ | h1
        · obtain rfl : b1 = false := by rw [R1.out]; exact decide_eq_false (by omega)
          obtain rfl : b2 = true := by rw [R2.out]; exact decide_eq_true (by omega)
          obtain rfl : b3 = true := by rw [R3.out]; exact decide_eq_true (by omega)
          go_wp2_with fail
          refine (name_is Hb1.out _).mono ?_
          rintro e w4 ⟨rfl, rfl⟩
          go_wp2_with fail
          refine (name_is Hb2.out _).mono ?_
          rintro e w4 ⟨rfl, rfl⟩
          go_wp2_with fail
          refine (name_is Hb3.out _).mono ?_
          rintro e w4 ⟨rfl, rfl⟩
          go_wp2_with fail
          go_ret
          first | exact ⟨rfl, HB.out⟩ | exact ⟨ret_bool (by simp; omega), HB.out⟩
        · obtain rfl : b1 = true := by rw [R1.out]; exact decide_eq_true (by omega)
          obtain rfl : b2 = true := by rw [R2.out]; exact decide_eq_true (by omega)
          obtain rfl : b3 = true := by rw [R3.out]; exact decide_eq_true (by omega)
          have h28 : j ≤ 28 := by omega
          go_wp2_with fail
          refine (name_is Hb1.out _).mono ?_
          rintro e w4 ⟨rfl, rfl⟩
          go_wp2_with fail
          refine (name_is Hb2.out _).mono ?_
          rintro e w4 ⟨rfl, rfl⟩
          go_wp2_with fail
          refine (name_is Hb3.out _).mono ?_
          rintro e w4 ⟨rfl, rfl⟩
          go_wp2_with fail
          go_ret
          first | exact ⟨rfl, HB.out⟩ | exact ⟨ret_bool (by simp; omega), HB.out⟩
        · obtain rfl : b1 = true := by rw [R1.out]; exact decide_eq_true (by omega)
          obtain rfl : b2 = true := by rw [R2.out]; exact decide_eq_true (by omega)
          obtain rfl : b3 = true := by rw [R3.out]; exact decide_eq_true (by omega)
          have h28 : j ≤ 28 := by omega
          have hi3 : ((k : Int) != 46) = true := by rw [bne_iff_ne]; omega
          go_wp2_with fail
          refine (name_is Hb1.out _).mono ?_
          rintro e w4 ⟨rfl, rfl⟩
          go_wp2_with fail
          refine (name_is Hb2.out _).mono ?_
          rintro e w4 ⟨rfl, rfl⟩
          go_wp2_with fail
          refine (name_is Hb3.out _).mono ?_
          rintro e w4 ⟨rfl, rfl⟩
          go_wp2_with fail
          go_ret
          first | exact ⟨rfl, HB.out⟩ | exact ⟨ret_bool (by simp; omega), HB.out⟩
        · obtain rfl : b1 = true := by rw [R1.out]; exact decide_eq_true (by omega)
          obtain rfl : b2 = false := by rw [R2.out]; exact decide_eq_false (by omega)
          obtain rfl : b3 = false := by rw [R3.out]; exact decide_eq_false (by omega)
          go_wp2_with fail
          refine (name_is Hb1.out _).mono ?_
          rintro e w4 ⟨rfl, rfl⟩
          go_wp2_with fail
          refine (name_is Hb2.out _).mono ?_
          rintro e w4 ⟨rfl, rfl⟩
          go_wp2_with fail
          refine (name_is Hb3.out _).mono ?_
          rintro e w4 ⟨rfl, rfl⟩
          go_wp2_with fail
          go_ret
          first | exact ⟨rfl, HB.out⟩ | exact ⟨ret_bool (by simp; omega), HB.out⟩
        · obtain rfl : b1 = true := by rw [R1.out]; exact decide_eq_true (by omega)
          obtain rfl : b2 = false := by rw [R2.out]; exact decide_eq_false (by omega)
          obtain rfl : b3 = false := by rw [R3.out]; exact decide_eq_false (by omega)
          have hi3 : ((k : Int) != 46) = true := by rw [bne_iff_ne]; omega
          go_wp2_with fail
          refine (name_is Hb1.out _).mono ?_
          rintro e w4 ⟨rfl, rfl⟩
          go_wp2_with fail
          refine (name_is Hb2.out _).mono ?_
          rintro e w4 ⟨rfl, rfl⟩
          go_wp2_with fail
          refine (name_is Hb3.out _).mono ?_
          rintro e w4 ⟨rfl, rfl⟩
          go_wp2_with fail
          go_ret
          first | exact ⟨rfl, HB.out⟩ | exact ⟨ret_bool (by simp; omega), HB.out⟩
        · obtain rfl : b1 = false := by rw [R1.out]; exact decide_eq_false (by omega)
          obtain rfl : b2 = false := by rw [R2.out]; exact decide_eq_false (by omega)
          obtain rfl : b3 = false := by rw [R3.out]; exact decide_eq_false (by omega)
          have h27 : 27 < j := by omega
          go_wp2_with fail
          refine (name_is Hb1.out _).mono ?_
          rintro e w4 ⟨rfl, rfl⟩
          go_wp2_with fail
          refine (name_is Hb2.out _).mono ?_
          rintro e w4 ⟨rfl, rfl⟩
          go_wp2_with fail
          refine (name_is Hb3.out _).mono ?_
          rintro e w4 ⟨rfl, rfl⟩
          go_wp2_with fail
          go_ret
          first | exact ⟨rfl, HB.out⟩ | exact ⟨ret_bool (by simp; omega), HB.out⟩
end Go.Proofs.Ytpnhmcckdpdilaa
