/- The walks of the document's names (harrowref17): Name; and of the laws' 'same'. -/
import Derived.Test.YtpnhmcckdpdilaaName
namespace Go.Proofs.Ytpnhmcckdpdilaa
open Go.RowKit
set_option linter.unusedVariables false

/-- How many points there are. -/
theorem nm_dots (l : List UInt8) (h1 : (47 : UInt8) ∉ l) (h2 : (0 : UInt8) ∉ l) : nm l = (decide (0 < l.length) && decide (l.length < 29) && (decide (l.count 46 < l.length) || decide (2 < l.count 46))) := by
  have hc : l.count 46 ≤ l.length := List.count_le_length
  have hall : l.count 46 = l.length ↔ ∀ b ∈ l, (46 : UInt8) = b := List.count_eq_length
  unfold nm
  rw [Bool.eq_iff_iff]
  simp only [decide_eq_true_eq, Bool.and_eq_true, Bool.or_eq_true]
  constructor
  · rintro ⟨a1, a2, -, -, a5, a6⟩
    refine ⟨⟨by omega, by omega⟩, ?_⟩
    by_cases hq : l.count 46 < l.length
    · exact .inl hq
    · right
      have hall' := hall.1 (by omega)
      match l, a1, a5, a6 with
      | [x], _, a5, _ => exact absurd (by rw [← hall' x (by simp)]) a5
      | [x, y], _, _, a6 => exact absurd (by rw [← hall' x (by simp), ← hall' y (by simp)]) a6
      | x :: y :: z :: r, _, _, _ =>
        simp only [List.length_cons] at *
        omega
  · rintro ⟨⟨a1, a2⟩, a3⟩
    refine ⟨by omega, by omega, h1, h2, ?_, ?_⟩
    · rintro rfl
      simp at a3
    · rintro rfl
      simp at a3
theorem nm_bad {l : List UInt8} {j : Nat} (hj : j < l.length) {x : Nat} (hx : l[j].toNat = x) (h : x = 47 ∨ x = 0) : nm l = false := by
  unfold nm
  refine decide_eq_false fun hh => ?_
  rcases h with rfl | rfl
  · exact hh.2.2.1 (by rw [show (47 : UInt8) = l[j] from UInt8.toNat_inj.1 (by rw [hx]; rfl)]; exact List.getElem_mem hj)
  · exact hh.2.2.2.1 (by rw [show (0 : UInt8) = l[j] from UInt8.toNat_inj.1 (by rw [hx]; rfl)]; exact List.getElem_mem hj)

theorem refname_any (l : List UInt8) (hl : l.length ≤ 9223372036854775806) (w : World) : Calls Try.prog 13 #[.string ⟨l.toArray⟩] w fun e w' => e = .returned (.bool (nm l)) ∧ w = w' := by
  obtain ⟨n, hsz⟩ : ∃ n, l.length = n := ⟨_, rfl⟩
  rw [hsz] at hl
  have Hsz := hid hsz
  obtain ⟨q, hq⟩ : ∃ q, nm l = q := ⟨_, rfl⟩
  have Hq := hid hq
  rw [hq]
  clear hq
  go_enter Try.func13, Try.ntmps13
  go_wp2
  go_loopw [3, 4] (fun d i wr => ∃ (j : Nat), j ≤ n ∧ i = .int .i64 j ∧ d = .int .i64 ((l.take j).count 46 : Nat) ∧ (47 : UInt8) ∉ l.take j ∧ (0 : UInt8) ∉ l.take j ∧ wr = w) (fun _ i _ => n - (intOf i).toNat)
  case atStart => exact ⟨0, by omega, rfl, rfl, by simp, by simp, rfl⟩
  case round =>
    obtain ⟨j, hj, rfl, rfl, h47, h00, rfl⟩ := hrel
    by_cases hjn : j < n
    · have hjl : j < l.length := by omega
      obtain ⟨x, hx⟩ : ∃ x, (l[j]'hjl).toNat = x := ⟨_, rfl⟩
      have Hx := hid hx
      have hxb : ∀ h : j < (ByteArray.mk l.toArray).size, ((ByteArray.mk l.toArray)[j]'h).toNat = x := fun h => hx
      have hcnt : (l.take j).count 46 ≤ j := Nat.le_trans List.count_le_length (by rw [List.length_take]; omega)
      have Hcs := hid (show (l.take (j + 1)).count 46 = (l.take j).count 46 + if x = 46 then 1 else 0 by
        rw [List.take_succ_eq_append_getElem hjl, List.count_append, List.count_singleton]
        congr 1
        by_cases h46 : x = 46
        · rw [if_pos h46, if_pos (by rw [beq_iff_eq]; exact (UInt8.toNat_inj.1 (by rw [hx, h46]; rfl)))]
        · rw [if_neg h46, if_neg (by rw [beq_iff_eq]; intro hh; apply h46; rw [← hx, hh]; rfl)])
      have Hm := hid (show ∀ c : UInt8, c.toNat ≠ x → c ∉ l.take j → c ∉ l.take (j + 1) from fun c h1 h2 h3 => by
        rw [List.take_succ_eq_append_getElem hjl, List.mem_append] at h3
        rcases h3 with h3 | h3
        · exact h2 h3
        · rw [List.mem_singleton] at h3
          exact h1 (by rw [h3, hx]))
      have H47 := hid h47
      have H00 := hid h00
      clear h47 h00
      generalize (l.take j).count 46 = dc at *
      by_cases hb : x = 47 ∨ x = 0
      · have E := hid (show q = false by rw [← Hq.out]; exact nm_bad hjl Hx.out hb)
        rcases hb with rfl | rfl
        all_goals
          go_wp2
          go_ret
          exact ⟨by rw [E.out]; rfl, rfl⟩
      · have hb1 : x ≠ 47 := fun h => hb (.inl h)
        have hb2 : x ≠ 0 := fun h => hb (.inr h)
        have hi1 : ((x : Int) == 47) = false := by rw [beq_eq_false_iff_ne]; omega
        have hi2 : ((x : Int) == 0) = false := by rw [beq_eq_false_iff_ne]; omega
        clear hb
        by_cases h46 : x = 46
        · have hcs := Hcs.out
          rw [if_pos h46] at hcs
          have Hc2 := hid hcs
          have hi3 : ((x : Int) == 46) = true := by rw [h46]; rfl
          clear hcs h46
          go_wp2
          go_roundw
          case rel => exact ⟨j + 1, by omega, by go_num, by rw [Hc2.out]; go_num, Hm.out 47 (Ne.symm hb1) H47.out, Hm.out 0 (Ne.symm hb2) H00.out, trivial⟩
          case measure => simp [intOf]; omega
        · have hcs := Hcs.out
          rw [if_neg h46, Nat.add_zero] at hcs
          have Hc2 := hid hcs
          have hi3 : ((x : Int) == 46) = false := by rw [beq_eq_false_iff_ne]; omega
          clear hcs h46
          go_wp2
          go_roundw
          case rel => exact ⟨j + 1, by omega, by go_num, by rw [Hc2.out]; rfl, Hm.out 47 (Ne.symm hb1) H47.out, Hm.out 0 (Ne.symm hb2) H00.out, trivial⟩
          case measure => simp [intOf]; omega
    · obtain rfl : j = n := by omega
      have htk : l.take j = l := List.take_of_length_le (by omega)
      rw [htk] at h47 h00
      have E := hid (show q = (decide (0 < j) && decide (j < 29) && (decide (l.count 46 < j) || decide (2 < l.count 46))) by rw [← Hq.out, nm_dots l h47 h00, Hsz.out])
      simp only [htk]
      have hcnt : l.count 46 ≤ j := Nat.le_trans List.count_le_length (by omega)
      generalize l.count 46 = dc at *
      clear htk h47 h00
      by_cases g1 : 0 < j <;> by_cases g2 : j < 29 <;> by_cases g3 : dc < j <;> by_cases g4 : 2 < dc <;>
      (go_wp2
       all_goals (go_ret; exact ⟨ret_bool (by rw [E.out]; first | rfl | (simp [g1, g2, g3, g4]; done) | (simp; omega) | (simp [g1, g2, g3, g4]; omega)), rfl⟩))
end Go.Proofs.Ytpnhmcckdpdilaa
