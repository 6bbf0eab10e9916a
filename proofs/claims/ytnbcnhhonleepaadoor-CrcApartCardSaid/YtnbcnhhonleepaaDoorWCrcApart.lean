/- The walk of CrcApart. -/
import Derived.Test.YtnbcnhhonleepaaDoorCrc
import Derived.Test.YtnbcnhhonleepaaDoorBits
import Derived.RegionTactic
import Derived.ChangeAlike
import Derived.BigRegion
import Derived.Deep.QuietTactic
import Derived.BigQuiet
namespace Go.Proofs.YtnbcnhhonleepaaDoor
open Go.RowKit M
set_option linter.unusedVariables false
attribute [local go_sem] u8_xor_n8 u32_xor_n32
theorem walk_CrcApart (w : World) (hT : HasTable w) (a : Option Addr) (l : List UInt8) (c : Nat) (hb : IsBytes w a l) (hlc : l.length ≤ c) (hc : c ≤ maxLen)
    (a2 : Option Addr) (l2 : List UInt8) (c2 : Nat) (hb2 : IsBytes w a2 l2) (hlc2 : l2.length ≤ c2) (hc2 : c2 ≤ maxLen)
    (a3 : Option Addr) (l3 : List UInt8) (c3 : Nat) (hb3 : IsBytes w a3 l3) (hlc3 : l3.length ≤ c3) (hc3 : c3 ≤ maxLen) :
    Calls Tryd.prog 6 #[.slice a l.length c, .slice a2 l2.length c2, .slice a3 l3.length c3] w fun e w' => e = .returned (.bool true) ∧ Below w.heap.size w w' := by
  unfold maxLen at hc hc2 hc3
  obtain ⟨n, hmin, hn1, hn2, hn3, hn4⟩ := min4 Tryd.prog l.length l2.length l3.length 300 300 rfl
  go_enter Tryd.func6, Tryd.ntmps6
  go_wp2_with fail
  refine (shown_any w hT).mono ?_
  rintro e w1 ⟨rfl, hB⟩
  have hO : Ok w w1 := ⟨hT.below hB, hB⟩
  have hb1 := hid (hb.below hB)
  have hb21 := hid (hb2.below hB)
  have hb31 := hid (hb3.below hB)
  clear hb hb2 hb3 hB hT
  obtain ⟨w2, hmk, hz, hB2, -⟩ := make_run elemU8 (base := w1.heap.size) (w := w1) .i64 .i64 n (by omega) (by omega) (Nat.le_refl _)
  rw [rep_byteV] at hz
  have Hz := hid hz
  have HB2 := hid hB2
  clear hz hB2
  go_wp2_with (at_make; refine wpList_make_run hmk rfl rfl rfl rfl ?_)
  clear hmk
  go_loopw [10] (fun i wr => ∃ (k : Nat), k ≤ n ∧ i = .int .i64 k ∧ Own 5 w1.heap.size wr (some ⟨w1.heap.size, 0, none⟩) n ((xor3 (l.take k) (l2.take k) (l3.take k) ++ List.replicate (n - k) 0).map byteV) ∧ Below w1.heap.size w1 wr) (fun i _ => n - (intOf i).toNat)
  case atStart => exact ⟨0, by omega, rfl, by simpa [xor3] using Hz.out, HB2.out⟩
  case round =>
    obtain ⟨k, hk, rfl, hown, hBr⟩ := hrel
    by_cases hkn : k < n
    · have h1 := hid (hb1.out.below hBr)
      have h2 := hid (hb21.out.below hBr)
      have h3 := hid (hb31.out.below hBr)
      have Hown := hid hown
      have HB := hid hBr
      clear hown hBr
      obtain ⟨b, off, e1, hc1⟩ := h1.out
      obtain rfl := e1 (by rintro rfl; simp at hn1; omega)
      obtain ⟨b2, off2, e2, hc2'⟩ := h2.out
      obtain rfl := e2 (by rintro rfl; simp at hn2; omega)
      obtain ⟨b3, off3, e3, hc3'⟩ := h3.out
      obtain rfl := e3 (by rintro rfl; simp at hn3; omega)
      have g1 := hc1 k (by omega)
      have g2 := hc2' k (by omega)
      have g3 := hc3' k (by omega)
      clear e1 e2 e3 hc1 hc2' hc3'
      have hcell : wr.cell? ⟨w1.heap.size, k, none⟩ = some (.int .u8 (n8 0)) := by
        have hlen := xor3_len (l.take k) (l2.take k) (l3.take k) k (by simp; omega) (by simp; omega) (by simp; omega)
        have := Hown.out.cell k (by simp [hlen]; omega)
        rw [this]
        simp [List.getElem_append_right, hlen, byteV]
      have hfr := Hown.out.unfrozen k
      go_wp2
      go_region
      go_wp2
      go_roundw
      case rel =>
        refine ⟨k + 1, by omega, by go_num, ?_, HB.out.drew.setCell (Nat.le_refl _) _⟩
        have hown : Own 5 w1.heap.size wr.drew (some ⟨w1.heap.size, 0, none⟩) n _ := Hown.out.keep (Below.refl _ _).drew
        have hset := hown.set k (byteV (l[k] ^^^ l2[k] ^^^ l3[k]))
        rw [← List.map_set, xor3_set l l2 l3 k n (by omega) (by omega) (by omega) hkn] at hset
        exact hset
      case measure => simp [intOf]; omega
    · obtain rfl : k = n := by omega
      simp only [Nat.sub_self, List.replicate_zero, List.append_nil] at hown
      have hlen := xor3_len (l.take k) (l2.take k) (l3.take k) k (by simp; omega) (by simp; omega) (by simp; omega)
      have hT1 := (hO.step hBr).1
      have hq0 := hid (sumQ wr hT1 (xor3 (l.take k) (l2.take k) (l3.take k)) k hlen (some ⟨w1.heap.size, 0, none⟩) k (by omega) hown.row.bytes)
      have hq1 := hid (sumQ wr hT1 (l.take k) k (by simp; omega) a c (by omega) ((hb1.out.below hBr).take k))
      have hq2 := hid (sumQ wr hT1 (l2.take k) k (by simp; omega) a2 c2 (by omega) ((hb21.out.below hBr).take k))
      have hq3 := hid (sumQ wr hT1 (l3.take k) k (by simp; omega) a3 c3 (by omega) ((hb31.out.below hBr).take k))
      have e1 : (n32 (sum (xor3 (l.take k) (l2.take k) (l3.take k))) == n32 (sum (l.take k) ^^^ sum (l2.take k) ^^^ sum (l3.take k))) = true := by
        rw [apart _ _ _ (by simp; omega) (by simp; omega), beq_self_eq_true]
      have hfin := (hO.step hBr).2
      clear hown hBr hO hT1 hlen
      go_wp2
      go_quiet ((first | with_reducible exact hq0.out _ | with_reducible exact hq1.out _ | with_reducible exact hq2.out _ | with_reducible exact hq3.out _))
      go_wp2
      all_goals (go_ret; exact ⟨rfl, below_drewN hfin _⟩)
end Go.Proofs.YtnbcnhhonleepaaDoor
