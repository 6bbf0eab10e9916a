/- The walk of InodeApart. -/
import Derived.Test.YtmjknaldpeoheaaWInodeKinds
import Derived.Test.YtmjknaldpeoheaaHeld
namespace Go.Proofs.Ytmjknaldpeoheaa
open Go.RowKit O
set_option linter.unusedVariables false
set_option linter.unusedSimpArgs false

set_option maxHeartbeats 600000 in
theorem walk_InodeApart (w : World) (k l s : Int) (D : List Int) (r : Int) (hD : D.length = 16) (k' l' s' : Int) (D' : List Int) (r' : Int) (hD' : D'.length = 16) :
    Calls Try.prog 6 #[.agg (nodeC (nd k l s D r)), .agg (nodeC (nd k' l' s' D' r'))] w fun e w' => e = .returned (.bool true) ∧ Below w.heap.size w w' := by
  have hinf := hid (infoN k l s D r hD)
  have hinf2 := hid (infoN k' l' s' D' r' hD')
  have HN0 := hid ((IsNode.new w 24 (nd k l s D r)).below (below1 _ (.cells (nodeC (nd k' l' s' D' r')) 24)))
  have HM0 := hid (IsNode.at (w := w.alloc (.cells (nodeC (nd k l s D r)) 24)) (g := w.heap.size + 1) (by simp) 24 (nd k' l' s' D' r') rfl)
  have hdl := hid hD
  have hdl2 := hid hD'
  clear hD hD'
  go_enter Try.func6, Try.ntmps6
  go_wp2_with fail
  refine (shown_any _).mono ?_
  rintro e w1 ⟨rfl, hB⟩
  have HB := hid ((below2 w _ _).trans (hB.mono (by simp; omega)))
  have HN := hid (HN0.out.below hB)
  have HM := hid (HM0.out.below hB)
  clear hB HN0 HM0
  go_wp2_with (refine wpList_load_ints rfl 24 _ rfl w.heap.size 0 rfl (nd k l s D r) _ HN.out.range Try.underlying24 rfl hinf.out ?_)
  rcases hra : right k l s D r with _ | _
  · refine (encode_no _ _ _ _ _ hdl.out hra _).mono ?_
    rintro e w2 ⟨rfl, hB⟩
    replace HB := hid (HB.out.trans (hB.mono HB.out.size))
    replace HM := hid (HM.out.below hB)
    clear hB
    go_wp2_with (refine wpList_load_ints rfl 24 _ rfl (w.heap.size + 1) 0 rfl (nd k' l' s' D' r') _ HM.out.range Try.underlying24 rfl hinf2.out ?_)
    rcases hrb : right k' l' s' D' r' with _ | _
    · refine (encode_no _ _ _ _ _ hdl2.out hrb _).mono ?_
      rintro e w3 ⟨rfl, hB⟩
      replace HB := hid (HB.out.trans (hB.mono HB.out.size))
      clear hB
      go_wp2
      go_ret
      exact ⟨rfl, HB.out⟩
    · refine (encode_yes _ _ _ _ _ hdl2.out hrb _).mono ?_
      rintro e w3 ⟨A, cc, rfl, -, hB⟩
      replace HB := hid (HB.out.trans (hB.mono HB.out.size))
      clear hB
      go_wp2
      go_ret
      exact ⟨rfl, HB.out⟩
  · refine (encode_yes _ _ _ _ _ hdl.out hra _).mono ?_
    rintro e w2 ⟨A, cc, rfl, hown, hB⟩
    replace HB := hid (HB.out.trans (hB.mono HB.out.size))
    replace HN := hid (HN.out.below hB)
    replace HM := hid (HM.out.below hB)
    have hb := hid hown.row.bytes
    clear hB hown
    go_wp2_with (refine wpList_load_ints rfl 24 _ rfl (w.heap.size + 1) 0 rfl (nd k' l' s' D' r') _ HM.out.range Try.underlying24 rfl hinf2.out ?_)
    rcases hrb : right k' l' s' D' r' with _ | _
    · refine (encode_no _ _ _ _ _ hdl2.out hrb _).mono ?_
      rintro e w3 ⟨rfl, hB⟩
      replace HB := hid (HB.out.trans (hB.mono HB.out.size))
      clear hB
      go_wp2
      go_ret
      exact ⟨rfl, HB.out⟩
    refine (encode_yes _ _ _ _ _ hdl2.out hrb _).mono ?_
    rintro e w3 ⟨A2, cc2, rfl, hown, hB⟩
    replace HB := hid (HB.out.trans (hB.mono HB.out.size))
    replace HN := hid (HN.out.below hB)
    replace HM := hid (HM.out.below hB)
    have k1 := fun (W : World) (h : Below w3.heap.size w3 W) => str_any (c := cc) (enc_length k l s D r) ((hb.out.below hB).below h)
    have k2 := fun (W : World) (h : Below w3.heap.size w3 W) => str_any (c := cc2) (enc_length k' l' s' D' r') (hown.row.bytes.below h)
    have hiff := hid (enc_inj hdl.out hra hdl2.out hrb)
    obtain ⟨X, hX⟩ : ∃ X, X = enc k l s D r := ⟨_, rfl⟩
    obtain ⟨Y, hY⟩ : ∃ Y, Y = enc k' l' s' D' r' := ⟨_, rfl⟩
    rw [← hX] at k1 hiff
    rw [← hY] at k2 hiff
    clear hX hY hra hrb hb hown hB
    go_wp2
    refine wp_region_noPanic ?_
    refine wp_region_held_drew (S := (fun W => Below w3.heap.size w3 W)) (by kernel_rfl) (Below.refl _ _).drew (fun hS0 => ?_)
    refine take_at (i := 0) (v := ?v0) rfl (by kernel_rfl) (by kernel_rfl) (by kernel_rfl) (fun _ _ _ h => h) hS0 (by rfl) ?h0 ?r0
    case h0 => (intro W hSW; (try dsimp only at hSW); go_simp; (try with_reducible rfl))
    try simp only [Act.put, List.setIfInBounds_toArray, List.set_cons_zero, List.set_cons_succ]
    refine take_at (i := 1) (v := ?v1) rfl (by kernel_rfl) (by kernel_rfl) (by kernel_rfl) (fun _ _ _ h => h) hS0 (by rfl) ?h1 ?r1
    case h1 => (intro W hSW; (try dsimp only at hSW); go_simp; (try with_reducible rfl))
    try simp only [Act.put, List.setIfInBounds_toArray, List.set_cons_zero, List.set_cons_succ]
    refine take_at (i := 2) (v := ?v2) rfl (by kernel_rfl) (by kernel_rfl) (by kernel_rfl) (fun _ _ _ h => h) hS0 (by rfl) ?h2 ?r2
    case h2 => (intro W hSW; (try dsimp only at hSW); go_simp; (try with_reducible rfl))
    try simp only [Act.put, List.setIfInBounds_toArray, List.set_cons_zero, List.set_cons_succ]
    refine take_at (i := 3) (v := ?v3) rfl (by kernel_rfl) (by kernel_rfl) (by kernel_rfl) (fun _ _ _ h => h) hS0 (by rfl) ?h3 ?r3
    case h3 => (intro W hSW; (try dsimp only at hSW); go_simp; (try with_reducible rfl))
    try simp only [Act.put, List.setIfInBounds_toArray, List.set_cons_zero, List.set_cons_succ]
    refine take_at (i := 4) (v := ?v4) rfl (by kernel_rfl) (by kernel_rfl) (by kernel_rfl) (fun _ _ _ h => h) hS0 (by rfl) ?h4 ?r4
    case h4 => (intro W hSW; (try dsimp only at hSW); go_simp; (try with_reducible rfl))
    try simp only [Act.put, List.setIfInBounds_toArray, List.set_cons_zero, List.set_cons_succ]
    refine take_at (i := 5) (v := ?v5) rfl (by kernel_rfl) (by kernel_rfl) (by kernel_rfl) (fun _ _ _ h => h) hS0 (by rfl) ?h5 ?r5
    case h5 => (intro W hSW; (try dsimp only at hSW); go_simp; (try with_reducible rfl))
    try simp only [Act.put, List.setIfInBounds_toArray, List.set_cons_zero, List.set_cons_succ]
    refine take_at (i := 6) (v := ?v6) rfl (by kernel_rfl) (by kernel_rfl) (by kernel_rfl) (fun _ _ _ h => h) hS0 (by rfl) ?h6 ?r6
    case h6 => (intro W hSW; (try dsimp only at hSW); go_simp; (try with_reducible rfl))
    try simp only [Act.put, List.setIfInBounds_toArray, List.set_cons_zero, List.set_cons_succ]
    refine take_at (i := 7) (v := .agg (nodeC (nd k l s D r))) rfl (by kernel_rfl) (by kernel_rfl) (by kernel_rfl) (fun _ _ _ h => h) hS0 (by rfl) ?h7 ?r7
    case h7 => (intro W hSW; (try dsimp only at hSW); exact exec_load_ints (.tmp 2) rfl w.heap.size 0 rfl (nd k l s D r) _ (HN.out.below hSW).range Try.underlying24 rfl hinf.out)
    try simp only [Act.put, List.setIfInBounds_toArray, List.set_cons_zero, List.set_cons_succ]
    refine take_at (i := 8) (v := .agg (nodeC (nd k' l' s' D' r'))) rfl (by kernel_rfl) (by kernel_rfl) (by kernel_rfl) (fun _ _ _ h => h) hS0 (by rfl) ?h8 ?r8
    case h8 => (intro W hSW; (try dsimp only at hSW); exact exec_load_ints (.tmp 3) rfl (w.heap.size + 1) 0 rfl (nd k' l' s' D' r') _ (HM.out.below hSW).range Try.underlying24 rfl hinf2.out)
    try simp only [Act.put, List.setIfInBounds_toArray, List.set_cons_zero, List.set_cons_succ]
    refine take_at (i := 9) (v := .bool (decide (nd k l s D r = nd k' l' s' D' r'))) rfl (by kernel_rfl) (by kernel_rfl) (by kernel_rfl) (fun _ _ _ h => h) hS0 (by rfl) ?h9 ?r9
    case h9 => (intro W hSW; (try dsimp only at hSW); exact exec_eql (.tmp 35) (.tmp 36) rfl rfl rfl guard24 (eq_node hdl.out hdl2.out W))
    try simp only [Act.put, List.setIfInBounds_toArray, List.set_cons_zero, List.set_cons_succ]
    refine take_at (i := 10) (v := ?v10) rfl (by kernel_rfl) (by kernel_rfl) (by kernel_rfl) (fun _ _ _ h => h) hS0 (by rfl) ?h10 ?r10
    case h10 => (intro W hSW; (try dsimp only at hSW); go_simp; (try with_reducible rfl))
    try simp only [Act.put, List.setIfInBounds_toArray, List.set_cons_zero, List.set_cons_succ]
    refine take_at (i := 11) (v := ?v11) rfl (by kernel_rfl) (by kernel_rfl) (by kernel_rfl) (fun _ _ _ h => h) hS0 (by rfl) ?h11 ?r11
    case h11 => (intro W hSW; (try dsimp only at hSW); go_simp; (try with_reducible rfl))
    try simp only [Act.put, List.setIfInBounds_toArray, List.set_cons_zero, List.set_cons_succ]
    refine ready_at (i := 12) rfl (by kernel_rfl) (fun K hK => ?_)
    go_simp
    refine hK.out _ _ hS0 (fun hS1 => ?_)
    clear hK K
    try simp only [Act.put, List.setIfInBounds_toArray, List.set_cons_zero, List.set_cons_succ]
    refine wpAnyH_done (by kernel_rfl) ?_ _
    refine NoPanic.normal ?_
    go_wp2
    go_ret
    refine ⟨ret_bool ?_, HB.out.drew⟩
    rw [beq_iff_eq, Bool.eq_iff_iff, beq_iff_eq, decide_eq_true_iff]
    exact hiff.out
end Go.Proofs.Ytmjknaldpeoheaa
