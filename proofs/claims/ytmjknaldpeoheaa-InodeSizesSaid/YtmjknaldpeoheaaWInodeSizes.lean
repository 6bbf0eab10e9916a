/- The walk of InodeSizes. -/
import Derived.Test.YtmjknaldpeoheaaWInodeKinds
import Derived.Test.YtmjknaldpeoheaaWInodeBlocks
namespace Go.Proofs.Ytmjknaldpeoheaa
open Go.RowKit O
set_option linter.unusedVariables false

theorem right_size {k l s r : Int} {D : List Int} (h : right k l s D r = true) (z : Int) (hz : 0 ≤ z ∧ z ≤ 122880) : right k l z D r = ((decide (16 < blk z) || r == 0) && emptyFrom (blk z) D) := by
  unfold right at h ⊢
  rw [decide_eq_true hz]
  revert h
  generalize decide (0 ≤ l ∧ l ≤ 65535) = a
  generalize decide (0 ≤ s ∧ s ≤ 122880) = b
  generalize D.all ptrOk = c
  generalize ptrOk r = d
  generalize (decide (16 < blk s) || r == 0) = e
  generalize emptyFrom (blk s) D = f
  generalize (k == 1 || k == 2) = g
  cases a <;> cases b <;> cases c <;> cases d <;> cases e <;> cases f <;> cases g <;> simp
/-- The pointers from b up to j are 0. -/
def zeroTo (b j : Nat) (D : List Int) : Bool := ((D.take j).drop b).all (fun p => p == 0)
theorem zeroTo_le (b j : Nat) (D : List Int) (h : j ≤ b) : zeroTo b j D = true := by
  unfold zeroTo
  rw [List.drop_of_length_le (by simp; omega)]
  rfl
theorem zeroTo_succ (b j : Nat) (D : List Int) (hb : b ≤ j) (hj : j < D.length) : zeroTo b (j + 1) D = (zeroTo b j D && D.getD j 0 == 0) := by
  unfold zeroTo
  rw [List.take_succ_eq_append_getElem hj, List.drop_append_of_le_length (by simp; omega), List.all_append]
  congr 1
  simp [hj]
theorem zeroTo_all (b j : Nat) (D : List Int) (h : D.length ≤ j) : zeroTo b j D = emptyFrom b D := by
  unfold zeroTo emptyFrom
  rw [List.take_of_length_le h]

set_option maxHeartbeats 1000000 in
theorem walk_InodeSizes (w : World) (k l s : Int) (D : List Int) (r : Int) (hD : D.length = 16) (zz : Int) (hz : -9223372036854775808 ≤ zz ∧ zz ≤ 9223372036854775807) :
    Calls Try.prog 7 #[.agg (nodeC (nd k l s D r)), .int .i64 zz] w fun e w' => e = .returned (.bool true) ∧ Below w.heap.size w w' := by
  obtain ⟨q, hmask, hq⟩ := and_mask zz 16777215 16777215 rfl (by omega)
  obtain ⟨z, hzm, hz2⟩ := mod_lt q 122881 122881 rfl (by omega)
  have hinf := hid (infoN k l s D r hD)
  have hinf2 := hid (infoN k l z D r hD)
  have HN := hid (IsNode.new w 24 (nd k l s D r))
  have hdl := hid hD
  have Hbz := hid (blk_le (z : Int))
  clear hD hz
  go_enter Try.func7, Try.ntmps7
  go_wp2_with fail
  refine (shown_any _).mono ?_
  rintro e w1 ⟨rfl, hB⟩
  have HB := hid ((below1 w _).trans (hB.mono (by simp)))
  replace HN := hid (HN.out.below hB)
  clear hB
  go_wp2_with (refine wpList_load_ints rfl 24 _ rfl w.heap.size 0 rfl (nd k l s D r) _ HN.out.range Try.underlying24 rfl hinf.out ?_)
  refine (right_any _ _ _ _ _ hdl.out _).mono ?_
  rintro e w2 ⟨rfl, hB⟩
  replace HB := hid (HB.out.trans (hB.mono HB.out.size))
  replace HN := hid (HN.out.below hB)
  clear hB
  rcases hrt : right k l s D r with _ | _
  · go_wp2
    go_ret
    exact ⟨rfl, HB.out⟩
  · have hrk := hid (right_size hrt (z : Int) (by omega))
    clear hrt
    go_wp2_with (first
      | (refine wpList_load_ints rfl 24 _ rfl w.heap.size 0 rfl (nd k l s D r) _ HN.out.range Try.underlying24 rfl hinf.out ?_)
      | (refine wpList_store_node rfl 24 _ _ rfl w2.heap.size (nd k l s D r) (nodeL zeroN) 24 rfl rfl (IsNode.new w2 24 zeroN) (by rw [nodeL_length, nd_length _ _ _ _ _ hdl.out]; rfl) hinf.out ?_; intro w3 hN hK hS; have hc := hN.cell 2 s rfl; have hf := hN.free 2; have HM := hid (show IsNode (w3.setCell ⟨w2.heap.size, 2, none⟩ (.int .i64 (z : Int))) w2.heap.size 24 (nd k l z D r) from hN.setC 2 z); have hB2 := hid (((below1 w2 _).trans (hK.below _ (Nat.le_refl _) (by simp))).setCell (p := ⟨w2.heap.size, 2, none⟩) (Nat.le_refl _) (.int .i64 (z : Int))); clear hN hK hS))
    have HB3 := hid (HB.out.trans (hB2.out.mono HB.out.size))
    have HN3 := hid (HN.out.below hB2.out)
    clear hc hf hB2 HN HB
    refine (blocks_any _ _).mono ?_
    rintro e w4 ⟨rfl, hw4⟩
    rw [hw4] at HB3 HN3 HM
    clear hw4
    generalize blk (z : Int) = b at *
    have g19 := HN3.out.cell 19 _ (nd19 _ _ _ _ _ hdl.out)
    obtain ⟨wa, hwa⟩ : ∃ wa, wa = (decide (16 < b) || r == 0) := ⟨_, rfl⟩
    rw [← hwa] at hrk
    have Hwa := hid hwa
    clear hwa
    have hcs : (r == 0) = true ∨ ((r == 0) = false ∧ 16 < b) ∨ ((r == 0) = false ∧ b ≤ 16) := by
      by_cases h : r = 0
      · exact .inl (by simpa using h)
      · have : (r == 0) = false := by simpa using h
        by_cases h2 : 16 < b
        · exact .inr (.inl ⟨this, h2⟩)
        · exact .inr (.inr ⟨this, by omega⟩)
    rcases hcs with hcs | ⟨hcs, hcs2⟩ | ⟨hcs, hcs2⟩
    all_goals
      have hwb : wa = true ∨ wa = false := by cases wa <;> simp
      have hw0 := Hwa.out
      try rw [hcs] at hw0
      try rw [decide_eq_true hcs2] at hw0
      try rw [decide_eq_false (show ¬ 16 < b by omega)] at hw0
      have Hw0 := hid hw0
      clear hw0 hwb
      try have hdc : decide (16 < b) = false := by simp; omega
      go_wp2
      go_loop [8, 9] (fun v i => ∃ (j : Nat), b ≤ j ∧ (j ≤ b ∨ j ≤ 16) ∧ i = .int .i64 (j : Nat) ∧ v = .bool (wa && zeroTo b j D)) (fun _ i => 16 - (intOf i).toNat)
      case atStart => exact ⟨b, Nat.le_refl _, .inl (Nat.le_refl _), rfl, by rw [zeroTo_le _ _ _ (Nat.le_refl _), Hw0.out]; first | (simp; done) | (simp; omega)⟩
      case round =>
        obtain ⟨j, hj, hj2, rfl, rfl⟩ := hrel
        by_cases hj16 : j < 16
        · first
          | (exfalso; omega)
          | (
            have hsucc := hid (zeroTo_succ b j D hj (by rw [hdl.out]; exact hj16))
            have hcell := HN3.out.cell (3 + j) _ (nd_ptr _ _ _ _ _ hdl.out j hj16)
            generalize D.getD j 0 = p at *
            rcases hv : (wa && zeroTo b j D) with _ | _
            · have hv2 := hid hv
              clear hv
              go_wp2
              go_round
              case rel => exact ⟨j + 1, by omega, by omega, by go_num, by rw [hsucc.out, ← Bool.and_assoc, hv2.out]; rfl⟩
              case measure => simp [intOf] <;> omega
            · have hv2 := hid hv
              clear hv
              go_wp2
              go_round
              case rel => exact ⟨j + 1, by omega, by omega, by go_num, by rw [hsucc.out, ← Bool.and_assoc, hv2.out]; simp⟩
              case measure => simp [intOf] <;> omega)
        · have hend := hid (zeroTo_all b j D (by rw [hdl.out]; omega))
          go_wp2_with (refine wpList_load_intsG rfl 24 _ rfl w2.heap.size 0 rfl (nd k l z D r) _ HM.out.range Try.underlying24 rfl hinf2.out ?_)
          refine (right_any _ _ _ _ _ hdl.out _).mono ?_
          rintro e w5 ⟨rfl, hB⟩
          rw [hrk.out, hend.out]
          have HB5 := hid (HB3.out.trans (hB.mono HB3.out.size))
          clear hB
          generalize (wa && emptyFrom b D) = t at *
          go_wp2
          go_ret
          exact ⟨ret_bool (by simp), HB5.out⟩
end Go.Proofs.Ytmjknaldpeoheaa
