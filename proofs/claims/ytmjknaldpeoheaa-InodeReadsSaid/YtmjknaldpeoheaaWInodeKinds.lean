/- The walk of InodeKinds. -/
import Derived.Test.YtmjknaldpeoheaaIno6
namespace Go.Proofs.Ytmjknaldpeoheaa
open Go.RowKit O
set_option linter.unusedVariables false

theorem right_kind {k l s r : Int} {D : List Int} (h : right k l s D r = true) (z : Int) : right z l s D r = (z == 1 || z == 2) := by
  unfold right at h ⊢
  revert h
  generalize decide (0 ≤ l ∧ l ≤ 65535) = a
  generalize decide (0 ≤ s ∧ s ≤ 122880) = b
  generalize D.all ptrOk = c
  generalize ptrOk r = d
  generalize (decide (16 < blk s) || r == 0) = e
  generalize emptyFrom (blk s) D = f
  generalize (k == 1 || k == 2) = g
  generalize (z == 1 || z == 2) = i
  cases a <;> cases b <;> cases c <;> cases d <;> cases e <;> cases f <;> cases g <;> simp
theorem infoN (k l s : Int) (D : List Int) (r : Int) (hD : D.length = 16) : (Try.prog.info? 24).map (·.size) = some (nd k l s D r).length := by rw [nd_length _ _ _ _ _ hD]; kernel_rfl
theorem enc_head (k l s : Int) (D : List Int) (r : Int) (hD : D.length = 16) (hk : 0 ≤ k ∧ k ≤ 255) : ∃ c : UInt8, (enc k l s D r)[0]? = some c ∧ n8 c = k := by
  rw [enc_eq hD]
  refine ⟨UInt8.ofNat k.toNat, rfl, ?_⟩
  unfold n8
  rw [UInt8.toNat_ofNat']
  omega

set_option maxHeartbeats 1000000 in
theorem walk_InodeKinds (w : World) (k l s : Int) (D : List Int) (r : Int) (hD : D.length = 16) (z : Int) (hz : -9223372036854775808 ≤ z ∧ z ≤ 9223372036854775807) :
    Calls Try.prog 8 #[.agg (nodeC (nd k l s D r)), .int .i64 z] w fun e w' => e = .returned (.bool true) ∧ Below w.heap.size w w' := by
  have hinf := hid (infoN k l s D r hD)
  have hinf2 := hid (infoN z l s D r hD)
  have HN := hid (IsNode.new w 24 (nd k l s D r))
  have hdl := hid hD
  clear hD hz
  go_enter Try.func8, Try.ntmps8
  go_wp2_with fail
  refine (shown_any _).mono ?_
  rintro e w1 ⟨rfl, hB⟩
  have HB := hid ((below1 w _).trans (hB.mono (by simp)))
  replace HN := hid (HN.out.below hB)
  clear hB
  go_wp2_with (refine wpList_load_ints rfl 24 _ rfl w.heap.size 0 rfl (nd k l s D r) _ HN.out.range Try.underlying24 rfl hinf.out ?_)
  refine (right_any _ _ _ _ _ hdl.out _).mono ?_
  rintro e w2 ⟨rfl, hB⟩
  replace HB := hid (HB.out.trans (hB.mono HB.out.size))
  replace HN := hid (HN.out.below hB)
  clear hB
  rcases hrt : right k l s D r with _ | _
  · go_wp2
    go_ret
    exact ⟨rfl, HB.out⟩
  · have hrk := hid (right_kind hrt z)
    clear hrt
    go_wp2_with (first
      | (refine wpList_load_ints rfl 24 _ rfl w.heap.size 0 rfl (nd k l s D r) _ (HN.out.below (below1 _ _)).range Try.underlying24 rfl hinf.out ?_)
      | (refine wpList_load_ints rfl 24 _ rfl w.heap.size 0 rfl (nd k l s D r) _ HN.out.range Try.underlying24 rfl hinf.out ?_)
      | (refine wpList_store_node rfl 24 _ _ rfl w2.heap.size (nd k l s D r) (nodeL zeroN) 24 rfl rfl (IsNode.new w2 24 zeroN) (by rw [nodeL_length, nd_length _ _ _ _ _ hdl.out]; rfl) hinf.out ?_; intro w3 hN hK hS; have hc := hN.cell 0 k rfl; have hf := hN.free 0; have HM := hid (show IsNode (w3.setCell ⟨w2.heap.size, 0, none⟩ (.int .i64 z)) w2.heap.size 24 (nd z l s D r) from hN.setC 0 z); have hB2 := hid (((below1 w2 _).trans (hK.below _ (Nat.le_refl _) (by simp))).setCell (p := ⟨w2.heap.size, 0, none⟩) (Nat.le_refl _) (.int .i64 z)); clear hN hK hS)
      | (refine wpList_load_ints rfl 24 _ rfl w2.heap.size 0 rfl (nd z l s D r) _ HM.out.range Try.underlying24 rfl hinf2.out ?_))
    have HB3 := hid (HB.out.trans (hB2.out.mono HB.out.size))
    clear hc hf
    by_cases hz1 : z = 1 ∨ z = 2
    · have hrz : right z l s D r = true := by rw [hrk.out]; simpa using hz1
      refine (encode_yes _ _ _ _ _ hdl.out hrz _).mono ?_
      rintro e w4 ⟨A, cc, rfl, hown, hB⟩
      obtain ⟨g, rfl, -, -⟩ := hown.form (by intro h; have := congrArg List.length h; rw [List.length_map, enc_length] at this; simp at this)
      obtain ⟨c, hc1, hc2⟩ := enc_head z l s D r hdl.out (by omega)
      have hcell := hown.cellB 0 c hc1
      rw [hc2] at hcell
      have HB4 := hid (HB3.out.trans (hB.mono HB3.out.size))
      clear hown hB hc1 hc2
      rcases hz1 with rfl | rfl
      all_goals
        go_wp2
        go_ret
        exact ⟨rfl, HB4.out⟩
    · have hrz : right z l s D r = false := by rw [hrk.out]; simpa using hz1
      refine (encode_no _ _ _ _ _ hdl.out hrz _).mono ?_
      rintro e w4 ⟨rfl, hB⟩
      have HB4 := hid (HB3.out.trans (hB.mono HB3.out.size))
      have e1 : (z == 1) = false := by simp; omega
      have e2 : (z == 2) = false := by simp; omega
      clear hB
      go_wp2
      go_ret
      exact ⟨rfl, HB4.out⟩
end Go.Proofs.Ytmjknaldpeoheaa
