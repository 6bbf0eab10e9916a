/- The walks of the document's inode (harrowref13): Blocks, Right. -/
import Derived.Test.YtmjknaldpeoheaaIno
namespace Go.Proofs.Ytmjknaldpeoheaa
open Go.RowKit O
set_option linter.unusedVariables false

theorem blk_lt (s : Int) (j : Nat) : j < blk s ↔ j < 256 ∧ 480 * (j : Int) < s := by
  unfold blk cl
  omega

set_option maxRecDepth 20000 in
theorem refblocks_any (s : Int) (w : World) :
    Calls Try.prog 18 #[.int .i64 s] w fun e w' => e = .returned (.int .i64 ((blk s : Nat) : Int)) ∧ w = w' := by
  have hlt := hid (blk_lt s)
  have hk := blk_le s
  generalize blk s = k at *
  go_enter Try.func18, Try.ntmps18
  go_wp2
  go_loop [3] (fun i => ∃ (j : Nat), j ≤ k ∧ i = .int .i64 j) (fun i => k - (intOf i).toNat)
  case atStart => exact ⟨0, Nat.zero_le _, rfl⟩
  case round =>
    obtain ⟨j, hj, rfl⟩ := hrel
    by_cases hjk : j < k
    · obtain ⟨h1, h2⟩ := (hlt.out j).1 hjk
      go_wp2
      go_round
      case rel => exact ⟨j + 1, by omega, by go_num⟩
      case measure => simp [intOf]; omega
    · obtain rfl : j = k := by omega
      have hno := hid (mt (hlt.out j).2 (by omega))
      by_cases h1 : j < 256
      · have h2 : ¬ 480 * (j : Int) < s := fun h => hno.out ⟨h1, h⟩
        go_wp2
        go_ret
        exact ⟨rfl, rfl⟩
      · go_wp2
        go_ret
        exact ⟨rfl, rfl⟩

theorem right_of {k l s r : Int} {D : List Int} {b : Nat} (hb : blk s = b) (hD : D.length = 16) (hk : 1 ≤ k ∧ k ≤ 2) (hl : 0 ≤ l ∧ l ≤ 65535) (hs : 0 ≤ s ∧ s ≤ 122880) (hr : 0 ≤ r ∧ r ≤ 3839)
    (h : ∀ i, i < 16 → (0 ≤ D.getD i 0 ∧ D.getD i 0 ≤ 3839) ∧ (b ≤ i → D.getD i 0 = 0)) : right k l s D r = (decide (16 < b) || r == 0) := by
  subst hb
  have h1 : (k == 1 || k == 2) = true := by simp; omega
  have h2 : D.all ptrOk = true := by
    rw [List.all_eq_true]
    intro x hx
    obtain ⟨i, hi, rfl⟩ := List.getElem_of_mem hx
    have := (h i (by omega)).1
    rw [show D.getD i 0 = D[i] by simp [hi]] at this
    unfold ptrOk
    simp
    omega
  have h3 : ptrOk r = true := by unfold ptrOk; simp; omega
  have h4 : emptyFrom (blk s) D = true := emptyFrom_of _ _ (fun i hi hb => (h i (by omega)).2 hb)
  unfold right
  rw [h1, h2, h3, h4, decide_eq_true hl, decide_eq_true hs]
  simp
theorem right_bad {k l s r : Int} {D : List Int} {b : Nat} (hb : blk s = b) (hD : D.length = 16) (i : Nat) (hi : i < 16) (h : D.getD i 0 < 0 ∨ 3839 < D.getD i 0 ∨ (b ≤ i ∧ D.getD i 0 ≠ 0)) : right k l s D r = false := by
  subst hb
  rcases hR : right k l s D r with _ | _
  · rfl
  · exfalso
    unfold right at hR
    simp only [Bool.and_eq_true, List.all_eq_true] at hR
    obtain ⟨⟨⟨⟨_, h2⟩, _⟩, _⟩, h5⟩ := hR
    have hx : D.getD i 0 = D[i]'(by omega) := by
      have : i < D.length := by omega
      simp [this]
    rcases h with h | h | ⟨h, h'⟩
    · have := h2 _ (List.getElem_mem (show i < D.length by omega))
      rw [← hx] at this
      unfold ptrOk at this
      rw [decide_eq_true_iff] at this
      omega
    · have := h2 _ (List.getElem_mem (show i < D.length by omega))
      rw [← hx] at this
      unfold ptrOk at this
      rw [decide_eq_true_iff] at this
      omega
    · have := emptyFrom_not _ D i (by omega) h h'
      rw [this] at h5
      cases h5

set_option maxHeartbeats 1000000 in
theorem refright_any (k l s : Int) (D : List Int) (r : Int) (hD : D.length = 16) (w : World) :
    Calls Try.prog 14 #[.agg (nodeC (nd k l s D r))] w fun e w' => e = .returned (.bool (right k l s D r)) ∧ Below w.heap.size w w' := by
  have hn := IsNode.new w 26 (nd k l s D r)
  have HB := hid (below1 w (.cells (nodeC (nd k l s D r)) 26))
  have g0 := hn.cell 0 _ (nd0 k l s D r)
  have g1 := hn.cell 1 _ (nd1 k l s D r)
  have g2 := hn.cell 2 _ (nd2 k l s D r)
  have g19 := hn.cell 19 _ (nd19 k l s D r hD)
  have HN := hid hn
  clear hn
  obtain ⟨W0, hW0⟩ : ∃ W0, W0 = w.alloc (.cells (nodeC (nd k l s D r)) 26) := ⟨_, rfl⟩
  by_cases hbad : k < 1 ∨ 2 < k ∨ l < 0 ∨ 65535 < l ∨ s < 0 ∨ 122880 < s ∨ r < 0 ∨ 3839 < r
  · have hcase : k < 1 ∨ (1 ≤ k ∧ 2 < k) ∨ (1 ≤ k ∧ k ≤ 2 ∧ l < 0) ∨ (1 ≤ k ∧ k ≤ 2 ∧ 0 ≤ l ∧ 65535 < l) ∨ (1 ≤ k ∧ k ≤ 2 ∧ 0 ≤ l ∧ l ≤ 65535 ∧ s < 0) ∨ (1 ≤ k ∧ k ≤ 2 ∧ 0 ≤ l ∧ l ≤ 65535 ∧ 0 ≤ s ∧ 122880 < s) ∨ (1 ≤ k ∧ k ≤ 2 ∧ 0 ≤ l ∧ l ≤ 65535 ∧ 0 ≤ s ∧ s ≤ 122880 ∧ r < 0) ∨ (1 ≤ k ∧ k ≤ 2 ∧ 0 ≤ l ∧ l ≤ 65535 ∧ 0 ≤ s ∧ s ≤ 122880 ∧ 0 ≤ r ∧ 3839 < r) := by omega
    have hR := hid (show right k l s D r = false by
      rcases hR : right k l s D r with _ | _
      · rfl
      · exfalso
        unfold right ptrOk at hR
        simp only [Bool.and_eq_true, Bool.or_eq_true, decide_eq_true_iff, beq_iff_eq] at hR
        omega)
    rw [hR.out]
    clear hbad hR hD hW0
    rcases hcase with hc | hc | hc | hc | hc | hc | hc | hc
    all_goals
      go_enter Try.func14, Try.ntmps14
      go_wp2
      go_ret
      exact ⟨rfl, HB.out⟩
  · have hk : 1 ≤ k ∧ k ≤ 2 := by omega
    have hl : 0 ≤ l ∧ l ≤ 65535 := by omega
    have hs : 0 ≤ s ∧ s ≤ 122880 := by omega
    have hr : 0 ≤ r ∧ r ≤ 3839 := by omega
    have hof := hid (fun (b : Nat) (hb : blk s = b) => right_of (D := D) hb hD hk hl hs hr)
    have hbd := hid (fun (b : Nat) (hb : blk s = b) => right_bad (k := k) (l := l) (r := r) (D := D) hb hD)
    clear hbad
    go_enter Try.func14, Try.ntmps14
    go_wp2_with fail
    refine (refblocks_any s _).mono ?_
    rintro e w1 ⟨rfl, rfl⟩
    rw [← hW0] at g0 g1 g2 g19 HN HB ⊢
    clear hW0 g0 g1 g2
    have hbs := blk_le s
    obtain ⟨b, hb⟩ : ∃ b, blk s = b := ⟨_, rfl⟩
    replace hof := hid (hof.out b hb)
    replace hbd := hid (hbd.out b hb)
    rw [hb] at hbs ⊢
    clear hb hk hl hs
    go_wp2
    go_loop [4] (fun i => ∃ (j : Nat), j ≤ 16 ∧ i = .int .i64 j ∧ ∀ i, i < j → (0 ≤ D.getD i 0 ∧ D.getD i 0 ≤ 3839) ∧ (b ≤ i → D.getD i 0 = 0)) (fun i => 16 - (intOf i).toNat)
    case atStart => exact ⟨0, Nat.zero_le _, rfl, fun i hi => by omega⟩
    case round =>
      obtain ⟨j, hj, rfl, hz⟩ := hrel
      have Hz := hid hz
      clear hz
      by_cases hj16 : j < 16
      · have hc := HN.out.cell (3 + j) _ (nd_ptr k l s D r hD j hj16)
        have hbd2 := hid (hbd.out j hj16)
        have hst := hid (show (0 ≤ D.getD j 0 ∧ D.getD j 0 ≤ 3839) ∧ (b ≤ j → D.getD j 0 = 0) → ∀ i, i < j + 1 → (0 ≤ D.getD i 0 ∧ D.getD i 0 ≤ 3839) ∧ (b ≤ i → D.getD i 0 = 0) by
          intro h i hi
          rcases Nat.lt_or_ge i j with h2 | h2
          · exact Hz.out i h2
          · obtain rfl : i = j := by omega
            exact h)
        generalize D.getD j 0 = p at *
        clear hbd g19 hr
        by_cases hp : p < 0 ∨ 3839 < p ∨ (b ≤ j ∧ p ≠ 0)
        · have hR := hid (hbd2.out hp)
          clear hbd2 hst
          have hcase : p < 0 ∨ (0 ≤ p ∧ 3839 < p) ∨ (0 ≤ p ∧ p ≤ 3839 ∧ b ≤ j ∧ p ≠ 0) := by omega
          clear hp
          rcases hcase with h1 | ⟨h1, h2⟩ | ⟨h1, h2, h3, h4⟩
          · go_wp2
            go_ret
            exact ⟨ret_bool hR.out.symm, HB.out⟩
          · go_wp2
            go_ret
            exact ⟨ret_bool hR.out.symm, HB.out⟩
          · have e2 : (p != 0) = true := by simpa using h4
            go_wp2
            go_ret
            exact ⟨ret_bool hR.out.symm, HB.out⟩
        · have hst2 := hid (hst.out ⟨by omega, by omega⟩)
          have h0 : 0 ≤ p := by omega
          have h1 : p ≤ 3839 := by omega
          clear hst hbd2
          by_cases h2 : b ≤ j
          · obtain rfl : p = 0 := by omega
            clear hp h0 h1
            go_wp2
            go_round
            case rel => exact ⟨j + 1, by omega, by go_num, hst2.out⟩
            case measure => simp [intOf]; omega
          · clear hp
            go_wp2
            go_round
            case rel => exact ⟨j + 1, by omega, by go_num, hst2.out⟩
            case measure => simp [intOf]; omega
      · obtain rfl : j = 16 := by omega
        have hR := hid (hof.out Hz.out)
        clear hof hbd Hz
        by_cases hr0 : r = 0
        · subst hr0
          go_wp2
          go_ret
          exact ⟨ret_bool (by rw [hR.out]; simp), HB.out⟩
        · have e2 : (r == 0) = false := by simpa using hr0
          clear hr0
          go_wp2
          go_ret
          exact ⟨ret_bool (by rw [hR.out, e2]; simp; omega), HB.out⟩
end Go.Proofs.Ytmjknaldpeoheaa
