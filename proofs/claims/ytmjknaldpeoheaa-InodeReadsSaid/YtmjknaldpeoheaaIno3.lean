/- The walks of package inode: the search for a byte that is not 0, take. -/
import Derived.Test.YtmjknaldpeoheaaIno2
namespace Go.Proofs.Ytmjknaldpeoheaa
open Go.RowKit O
set_option linter.unusedVariables false

theorem indexf_any (l : List UInt8) (n : Nat) (hnl : l.length = n) (hn : n ≤ 140737488000000) (w : World) (a : Option Addr) (c : Nat) (hb : IsBytes w a l) :
    Calls Try.prog 42 #[.slice a n c, .func (.func 37) #[] #[]] w fun e w' => ∃ q : Int, e = .returned (.int .i64 q) ∧ decide (0 ≤ q) = some8 l ∧ w = w' := by
  subst hnl
  go_enter Try.func42, Try.ntmps42
  go_wp2
  go_loop [8] (fun i => ∃ (k : Nat), k ≤ l.length ∧ i = .int .i64 k ∧ some8 (l.take k) = false) (fun i => l.length - (intOf i).toNat)
  case atStart => exact ⟨0, Nat.zero_le _, rfl, rfl⟩
  case round =>
    obtain ⟨k, hk, rfl, hz⟩ := hrel
    have Hz := hid hz
    clear hz
    by_cases hkn : k < l.length
    · obtain ⟨b, off, ha, hcell⟩ := hb
      obtain rfl := ha (by rintro rfl; simp at hkn)
      have hc := hcell k hkn
      have hs := hid (show some8 (l.take (k + 1)) = (l[k] != 0) by unfold some8 at *; rw [List.take_succ_eq_append_getElem hkn, List.any_append, Hz.out]; simp)
      have hf := hid (fun h : (l[k] != 0) = true => (show some8 l = true by
        unfold some8
        rw [List.any_eq_true]
        exact ⟨_, List.getElem_mem hkn, h⟩))
      clear hcell ha
      generalize l[k] = C at *
      have e0 : (n8 C != 0) = (C != 0) := by
        have : (0 : Int) = n8 0 := rfl
        rw [this, bne, n8_beq, bne]
      rcases h0 : (C != 0) with _ | _
      · rw [h0] at e0 hs
        clear h0
        go_wp2
        go_round
        case rel => exact ⟨k + 1, by omega, by go_num, hs.out⟩
        case measure => simp [intOf]; omega
      · rw [h0] at e0
        have hf2 := hid (hf.out h0)
        clear h0 hf
        go_wp2
        go_ret
        exact ⟨_, rfl, by rw [hf2.out]; simp, rfl⟩
    · obtain rfl : k = l.length := by omega
      rw [List.take_length] at Hz
      go_wp2
      go_ret
      exact ⟨_, rfl, by rw [Hz.out]; rfl, rfl⟩
theorem containsf_any (l : List UInt8) (n : Nat) (hnl : l.length = n) (hn : n ≤ 140737488000000) (w : World) (a : Option Addr) (c : Nat) (hb : IsBytes w a l) :
    Calls Try.prog 36 #[.slice a n c, .func (.func 37) #[] #[]] w fun e w' => e = .returned (.bool (some8 l)) ∧ w = w' := by
  go_enter Try.func36, Try.ntmps36
  go_wp2_with fail
  refine (indexf_any l n hnl hn w a c hb).mono ?_
  rintro e w1 ⟨q, rfl, hq, rfl⟩
  have Hq := hid hq
  clear hq
  go_wp2
  go_ret
  exact ⟨ret_bool Hq.out, rfl⟩

theorem takeI_any (l : List UInt8) (s : Bool) (r g off n : Nat) (T : TypeId) (N : List Int) (hl : 2 * n ≤ l.length) (hoff : off + n ≤ N.length) (hn : n ≤ 65536) (hgr : g ≠ r) (c : Nat) (hc : n ≤ c) (w : World) (hr : IsReader w r l s) (hg : IsNode w g T N) :
    Calls Try.prog 33 #[.pointer (some ⟨r, 0, none⟩), .slice (some ⟨g, off, none⟩) n c] w fun e w' => e = .returned (.tuple #[]) ∧ IsReader w' r (l.drop (2 * n)) s ∧ IsNode w' g T (over N off (nums2 l n)) ∧ w.heap.size ≤ w'.heap.size ∧ (∀ k, k < w.heap.size → k ≠ r → k ≠ g → w'.heap[k]? = w.heap[k]?) ∧ (∀ B, B ≤ r → B ≤ g → B ≤ w.heap.size → Below B w w') := by
  have Hr := hid hr
  have Hg := hid hg
  clear hr hg
  go_enter Try.func33, Try.ntmps33
  go_wp2
  go_loopw [7] (fun i wr => ∃ (j : Nat), j ≤ n ∧ i = .int .i64 j ∧ IsReader wr r (l.drop (2 * j)) s ∧ IsNode wr g T (over N off (nums2 l j)) ∧ w.heap.size ≤ wr.heap.size ∧ (∀ k, k < w.heap.size → k ≠ r → k ≠ g → wr.heap[k]? = w.heap[k]?) ∧ (∀ B, B ≤ r → B ≤ g → B ≤ w.heap.size → Below B w wr)) (fun i _ => n - (intOf i).toNat)
  case atStart => exact ⟨0, by omega, rfl, by simpa using Hr.out, by rw [nums2, over_nil]; exact Hg.out, Nat.le_refl _, fun _ _ _ _ => rfl, fun _ _ _ _ => Below.refl _ _⟩
  case round =>
    obtain ⟨j, hj, rfl, hr, hg, hsz, hk, hB⟩ := hrel
    have HR := hid hr
    have HG := hid hg
    have HS := hid hsz
    have HK := hid hk
    have HB := hid hB
    clear hr hg hsz hk hB Hr Hg
    by_cases hjn : j < n
    · have hlen := hid (show (l.drop (2 * j)).length = l.length - 2 * j by rw [List.length_drop])
      have hx := num2_lt (l.drop (2 * j))
      have hsn := hid (nums2_snoc l j)
      have hnl := hid (nums2_length l j)
      obtain ⟨x, hxe⟩ : ∃ x, x = num ((l.drop (2 * j)).take 2) := ⟨_, rfl⟩
      rw [← hxe] at hx hsn
      have Hxe := hid hxe
      clear hxe
      go_wp2_with fail
      refine (number_val HR.out (x : Nat) (l.drop (2 * (j + 1))) s (by rw [Hxe.out, show cl (2 : Int) 8 = 2 from rfl, rdB, if_pos (by rw [hlen.out]; omega)]) (by rw [show cl (2 : Int) 8 = 2 from rfl, rdL, if_pos (by rw [hlen.out]; omega), List.drop_drop]; congr 1) (by rw [show cl (2 : Int) 8 = 2 from rfl, rdS, if_pos (by rw [hlen.out]; omega)])).mono ?_
      rintro e w3 ⟨rfl, hr, hkp⟩
      have hg3 := HG.out.kept hkp hgr
      have hol : j + off < (over N off (nums2 l j)).length := by rw [over_length _ _ _ (by rw [hnl.out]; omega)]; omega
      have hcell := hg3.cell (off + j) ((over N off (nums2 l j))[off + j]'(by omega)) (List.getElem?_eq_getElem (by omega))
      have hfr := hg3.free (off + j)
      generalize (over N off (nums2 l j))[off + j]'_ = u at hcell
      have hr3 := hid hr
      have hg3' := hid hg3
      have hkp3 := hid hkp
      clear hr hkp hg3 hol
      go_wp2
      go_roundw
      case rel =>
        have hkg : Kept g w3 (w3.setCell ⟨g, off + j, none⟩ (.int .i64 (x : Int))) := Kept.setCell _ _ _
        refine ⟨j + 1, by omega, by go_num, ?_, ?_, ?_, ?_, ?_⟩
        · obtain ⟨A, c, h1, h2, h3⟩ := hr3.out
          have hne : r ≠ g := fun h => hgr h.symm
          refine ⟨A, c, (hkg.block r (Array.getElem?_eq_some_iff.1 h1).1 hne).trans h1, ?_, h3⟩
          obtain ⟨b, o, e1, e2⟩ := h2
          refine ⟨b, o, e1, fun i hi => ?_⟩
          have e3 := e2 i hi
          have hbg : b ≠ g ∨ b = g := by omega
          rcases hbg with hbg | rfl
          · rw [← e3]
            exact World.cell?_of_block (hkg.block b (World.block_lt_of_cell? _ _ e3) hbg)
          · rw [cell_of_row _ b _ _ _ _ hg3'.out, nodeC_get] at e3
            cases hq : (over N off (nums2 l j))[o + i]? with
            | none => rw [hq] at e3; cases e3
            | some v => rw [hq] at e3; cases e3
        · have h1 := block_setCell hg3'.out (off + j) (.int .i64 (x : Int))
          rw [nodeC_set] at h1
          have h2 := over_snoc N off (nums2 l j) (x : Int) (by rw [hnl.out]; omega)
          rw [hnl.out] at h2
          rw [h2] at h1
          rw [hsn.out]
          exact h1
        · have := hkg.size
          have := hkp3.out.size
          have := HS.out
          omega
        · intro k hk1 hk2 hk3
          have := HS.out
          have := hkp3.out.size
          rw [hkg.block k (by omega) hk3, hkp3.out.block k (by omega) hk2, HK.out k hk1 hk2 hk3]
        · intro B h1 h2 h3
          have := HS.out
          have := hkp3.out.size
          exact ((HB.out B h1 h2 h3).trans (hkp3.out.below B h1 (by omega))).trans (hkg.below B h2 (by omega))
      case measure => simp [intOf]; omega
    · obtain rfl : j = n := by omega
      go_wp2
      go_end0
      exact ⟨rfl, HR.out, HG.out, HS.out, HK.out, HB.out⟩
end Go.Proofs.Ytmjknaldpeoheaa
