/- The walk of InodeTells. -/
import Derived.Test.YtmjknaldpeoheaaWInodeKinds
import Derived.Test.YtmjknaldpeoheaaInoR2
import Derived.Test.YtmjknaldpeoheaaNodeEq
namespace Go.Proofs.Ytmjknaldpeoheaa
open Go.RowKit O
set_option linter.unusedVariables false

set_option maxHeartbeats 2000000 in
theorem walk_InodeTells (w : World) (k l s : Int) (D : List Int) (r : Int) (hD : D.length = 16) (z : Int) (hz : -9223372036854775808 ≤ z ∧ z ≤ 9223372036854775807) :
    Calls Try.prog 3 #[.agg (nodeC (nd k l s D r)), .int .i64 z] w fun e w' => e = .returned (.bool true) ∧ Below w.heap.size w w' := by
  have hinf := hid (infoN k l s D r hD)
  have hinfR := hid (infoR k l s D r hD)
  have HN := hid (IsNode.new w 24 (nd k l s D r))
  have hdl := hid hD
  clear hD hz
  go_enter Try.func3, Try.ntmps3
  go_wp2_with fail
  refine (shown_any _).mono ?_
  rintro e w1 ⟨rfl, hB⟩
  have HB := hid ((below1 w _).trans (hB.mono (by simp)))
  replace HN := hid (HN.out.below hB)
  clear hB
  go_wp2_with (first
    | (refine wpList_store_node rfl 26 _ _ rfl w1.heap.size (nd k l s D r) (nodeL zeroN) 26 rfl rfl (IsNode.new w1 26 zeroN) (by rw [nodeL_length, nd_length _ _ _ _ _ hdl.out]; rfl) hinfR.out ?_; intro w2 hN hK hS; have hB2 : Below w1.heap.size w1 w2 := (below1 w1 _).trans (hK.below _ (Nat.le_refl _) (by simp)); have HM := hid hN; have HN2 := hid (HN.out.below hB2); have HB2 := hid (HB.out.trans (hB2.mono HB.out.size)); clear hN hK hS hB2)
    | (refine wpList_load_ints rfl 24 (.tmp 2) rfl w.heap.size 0 rfl (nd k l s D r) _ HN.out.range Try.underlying24 rfl hinf.out ?_)
    | (refine wpList_load_ints rfl 24 (.tmp 2) rfl w.heap.size 0 rfl (nd k l s D r) _ HN2.out.range Try.underlying24 rfl hinf.out ?_))
  clear HB HN
  rcases hr : right k l s D r with _ | _
  · have Hr := hid hr
    refine (encode_no _ _ _ _ _ hdl.out hr _).mono ?_
    rintro e w3 ⟨rfl, hB⟩
    replace HB := hid (HB2.out.trans (hB.mono HB2.out.size))
    replace HM := hid (HM.out.below hB)
    replace HN := hid (HN2.out.below hB)
    clear hB hr HB2 HN2
    go_wp2_with (refine wpList_load_ints rfl 26 _ rfl w1.heap.size 0 rfl (nd k l s D r) _ HM.out.range Try.underlying26 rfl hinfR.out ?_)
    refine (refright_any _ _ _ _ _ hdl.out _).mono ?_
    rintro e w5 ⟨rfl, hB⟩
    rw [Hr.out]
    replace HB := hid (HB.out.trans (hB.mono HB.out.size))
    replace HM := hid (HM.out.below hB)
    replace HN := hid (HN.out.below hB)
    have hs0 := fun (W : World) => str_any (l := []) (n := 0) (c := 0) rfl (IsBytes.nil W none)
    clear hB
    go_wp2
    refine wp_region_noPanic ?_
    refine wp_region_held_drew (S := (fun W => Below w5.heap.size w5 W)) (by kernel_rfl) (Below.refl _ _).drew (fun hS0 => ?_)
    refine take_at (i := 0) (v := ?vn0) rfl (by kernel_rfl) (by kernel_rfl) (by kernel_rfl) (fun _ _ _ h => h) hS0 (by rfl) ?hn0 ?rn0
    case hn0 => (intro W hSW; (try dsimp only at hSW); go_simp; (try with_reducible rfl))
    try simp only [Act.put, List.setIfInBounds_toArray, List.set_cons_zero, List.set_cons_succ]
    refine take_at (i := 1) (v := ?vn1) rfl (by kernel_rfl) (by kernel_rfl) (by kernel_rfl) (fun _ _ _ h => h) hS0 (by rfl) ?hn1 ?rn1
    case hn1 => (intro W hSW; (try dsimp only at hSW); go_simp; (try with_reducible rfl))
    try simp only [Act.put, List.setIfInBounds_toArray, List.set_cons_zero, List.set_cons_succ]
    refine take_at (i := 4) (v := ?vn4) rfl (by kernel_rfl) (by kernel_rfl) (by kernel_rfl) (fun _ _ _ h => h) hS0 (by rfl) ?hn4 ?rn4
    case hn4 => (intro W hSW; (try dsimp only at hSW); go_simp; (try with_reducible rfl))
    try simp only [Act.put, List.setIfInBounds_toArray, List.set_cons_zero, List.set_cons_succ]
    refine take_at (i := 2) (v := (.agg (nodeC (nd k l s D r)))) rfl (by kernel_rfl) (by kernel_rfl) (by kernel_rfl) (fun _ _ _ h => h) hS0 (by rfl) ?hn2 ?rn2
    case hn2 => (intro W hSW; (try dsimp only at hSW); exact exec_load_ints (.tmp 2) rfl w.heap.size 0 rfl (nd k l s D r) _ (HN.out.below hSW).range Try.underlying24 rfl hinf.out)
    try simp only [Act.put, List.setIfInBounds_toArray, List.set_cons_zero, List.set_cons_succ]
    refine ready_at (i := 3) rfl (by kernel_rfl) (fun K hK => ?_)
    go_simp
    refine (right_any k l s D r hdl.out _).mono ?_
    rintro e w6 ⟨rfl, hB⟩
    rw [Hr.out]
    have HS1 := hid (hS0.trans (hB.mono hS0.size))
    go_wp2_with fail
    refine hK.out _ _ (hS0.trans (hB.mono hS0.size)) (fun hS1 => ?_)
    clear hK K
    try simp only [Act.put, List.setIfInBounds_toArray, List.set_cons_zero, List.set_cons_succ]
    refine take_at (i := 5) (v := ?vn5) rfl (by kernel_rfl) (by kernel_rfl) (by kernel_rfl) (fun _ _ _ h => h) hS1 (by rfl) ?hn5 ?rn5
    case hn5 => (intro W hSW; (try dsimp only at hSW); go_simp; (try with_reducible rfl))
    try simp only [Act.put, List.setIfInBounds_toArray, List.set_cons_zero, List.set_cons_succ]
    refine take_at (i := 6) (v := ?vn6) rfl (by kernel_rfl) (by kernel_rfl) (by kernel_rfl) (fun _ _ _ h => h) hS1 (by rfl) ?hn6 ?rn6
    case hn6 => (intro W hSW; (try dsimp only at hSW); go_simp; (try with_reducible rfl))
    try simp only [Act.put, List.setIfInBounds_toArray, List.set_cons_zero, List.set_cons_succ]
    refine take_at (i := 7) (v := ?vn7) rfl (by kernel_rfl) (by kernel_rfl) (by kernel_rfl) (fun _ _ _ h => h) hS1 (by rfl) ?hn7 ?rn7
    case hn7 => (intro W hSW; (try dsimp only at hSW); go_simp; (try with_reducible rfl))
    try simp only [Act.put, List.setIfInBounds_toArray, List.set_cons_zero, List.set_cons_succ]
    refine take_at (i := 8) (v := ?vn8) rfl (by kernel_rfl) (by kernel_rfl) (by kernel_rfl) (fun _ _ _ h => h) hS1 (by rfl) ?hn8 ?rn8
    case hn8 => (intro W hSW; (try dsimp only at hSW); go_simp; (try with_reducible rfl))
    try simp only [Act.put, List.setIfInBounds_toArray, List.set_cons_zero, List.set_cons_succ]
    refine take_at (i := 9) (v := ?vn9) rfl (by kernel_rfl) (by kernel_rfl) (by kernel_rfl) (fun _ _ _ h => h) hS1 (by rfl) ?hn9 ?rn9
    case hn9 => (intro W hSW; (try dsimp only at hSW); go_simp; (try with_reducible rfl))
    try simp only [Act.put, List.setIfInBounds_toArray, List.set_cons_zero, List.set_cons_succ]
    refine take_at (i := 10) (v := ?vn10) rfl (by kernel_rfl) (by kernel_rfl) (by kernel_rfl) (fun _ _ _ h => h) hS1 (by rfl) ?hn10 ?rn10
    case hn10 => (intro W hSW; (try dsimp only at hSW); go_simp; (try with_reducible rfl))
    try simp only [Act.put, List.setIfInBounds_toArray, List.set_cons_zero, List.set_cons_succ]
    refine take_at (i := 11) (v := ?vn11) rfl (by kernel_rfl) (by kernel_rfl) (by kernel_rfl) (fun _ _ _ h => h) hS1 (by rfl) ?hn11 ?rn11
    case hn11 => (intro W hSW; (try dsimp only at hSW); go_simp; (try with_reducible rfl))
    try simp only [Act.put, List.setIfInBounds_toArray, List.set_cons_zero, List.set_cons_succ]
    refine take_at (i := 12) (v := ?vn12) rfl (by kernel_rfl) (by kernel_rfl) (by kernel_rfl) (fun _ _ _ h => h) hS1 (by rfl) ?hn12 ?rn12
    case hn12 => (intro W hSW; (try dsimp only at hSW); go_simp; (try with_reducible rfl))
    try simp only [Act.put, List.setIfInBounds_toArray, List.set_cons_zero, List.set_cons_succ]
    refine take_at (i := 13) (v := ?vn13) rfl (by kernel_rfl) (by kernel_rfl) (by kernel_rfl) (fun _ _ _ h => h) hS1 (by rfl) ?hn13 ?rn13
    case hn13 => (intro W hSW; (try dsimp only at hSW); go_simp; (try with_reducible rfl))
    try simp only [Act.put, List.setIfInBounds_toArray, List.set_cons_zero, List.set_cons_succ]
    refine take_at (i := 14) (v := ?vn14) rfl (by kernel_rfl) (by kernel_rfl) (by kernel_rfl) (fun _ _ _ h => h) hS1 (by rfl) ?hn14 ?rn14
    case hn14 => (intro W hSW; (try dsimp only at hSW); go_simp; (try with_reducible rfl))
    try simp only [Act.put, List.setIfInBounds_toArray, List.set_cons_zero, List.set_cons_succ]
    refine take_at (i := 15) (v := ?vn15) rfl (by kernel_rfl) (by kernel_rfl) (by kernel_rfl) (fun _ _ _ h => h) hS1 (by rfl) ?hn15 ?rn15
    case hn15 => (intro W hSW; (try dsimp only at hSW); go_simp; (try with_reducible rfl))
    try simp only [Act.put, List.setIfInBounds_toArray, List.set_cons_zero, List.set_cons_succ]
    refine take_at (i := 16) (v := ?vn16) rfl (by kernel_rfl) (by kernel_rfl) (by kernel_rfl) (fun _ _ _ h => h) hS1 (by rfl) ?hn16 ?rn16
    case hn16 => (intro W hSW; (try dsimp only at hSW); go_simp; (try with_reducible rfl))
    try simp only [Act.put, List.setIfInBounds_toArray, List.set_cons_zero, List.set_cons_succ]
    refine take_at (i := 17) (v := ?vn17) rfl (by kernel_rfl) (by kernel_rfl) (by kernel_rfl) (fun _ _ _ h => h) hS1 (by rfl) ?hn17 ?rn17
    case hn17 => (intro W hSW; (try dsimp only at hSW); go_simp; (try with_reducible rfl))
    try simp only [Act.put, List.setIfInBounds_toArray, List.set_cons_zero, List.set_cons_succ]
    refine take_at (i := 18) (v := ?vn18) rfl (by kernel_rfl) (by kernel_rfl) (by kernel_rfl) (fun _ _ _ h => h) hS1 (by rfl) ?hn18 ?rn18
    case hn18 => (intro W hSW; (try dsimp only at hSW); go_simp; (try with_reducible rfl))
    try simp only [Act.put, List.setIfInBounds_toArray, List.set_cons_zero, List.set_cons_succ]
    refine take_at (i := 19) (v := ?vn19) rfl (by kernel_rfl) (by kernel_rfl) (by kernel_rfl) (fun _ _ _ h => h) hS1 (by rfl) ?hn19 ?rn19
    case hn19 => (intro W hSW; (try dsimp only at hSW); go_simp; (try with_reducible rfl))
    try simp only [Act.put, List.setIfInBounds_toArray, List.set_cons_zero, List.set_cons_succ]
    refine take_at (i := 20) (v := ?vn20) rfl (by kernel_rfl) (by kernel_rfl) (by kernel_rfl) (fun _ _ _ h => h) hS1 (by rfl) ?hn20 ?rn20
    case hn20 => (intro W hSW; (try dsimp only at hSW); go_simp; (try with_reducible rfl))
    try simp only [Act.put, List.setIfInBounds_toArray, List.set_cons_zero, List.set_cons_succ]
    refine take_at (i := 21) (v := ?vn21) rfl (by kernel_rfl) (by kernel_rfl) (by kernel_rfl) (fun _ _ _ h => h) hS1 (by rfl) ?hn21 ?rn21
    case hn21 => (intro W hSW; (try dsimp only at hSW); go_simp; (try with_reducible rfl))
    try simp only [Act.put, List.setIfInBounds_toArray, List.set_cons_zero, List.set_cons_succ]
    refine take_at (i := 22) (v := ?vn22) rfl (by kernel_rfl) (by kernel_rfl) (by kernel_rfl) (fun _ _ _ h => h) hS1 (by rfl) ?hn22 ?rn22
    case hn22 => (intro W hSW; (try dsimp only at hSW); go_simp; (try with_reducible rfl))
    try simp only [Act.put, List.setIfInBounds_toArray, List.set_cons_zero, List.set_cons_succ]
    refine take_at (i := 23) (v := (.agg (nodeC (nd k l s D r)))) rfl (by kernel_rfl) (by kernel_rfl) (by kernel_rfl) (fun _ _ _ h => h) hS1 (by rfl) ?hn23 ?rn23
    case hn23 => (intro W hSW; (try dsimp only at hSW); exact exec_load_ints (.tmp 6) rfl w1.heap.size 0 rfl (nd k l s D r) _ (HM.out.below hSW).range Try.underlying26 rfl hinfR.out)
    try simp only [Act.put, List.setIfInBounds_toArray, List.set_cons_zero, List.set_cons_succ]
    refine ready_at (i := 24) rfl (by kernel_rfl) (fun K hK => ?_)
    go_simp
    refine (refencode_no k l s D r hdl.out Hr.out _).mono ?_
    rintro e w7 ⟨rfl, hB2⟩
    have HS3 := hid (HS1.out.trans (hB2.mono HS1.out.size))
    go_wp2_with fail
    refine hK.out _ _ (HS1.out.trans (hB2.mono HS1.out.size)) (fun hS2 => ?_)
    clear hK K
    try simp only [Act.put, List.setIfInBounds_toArray, List.set_cons_zero, List.set_cons_succ]
    refine ready_at (i := 25) rfl (by kernel_rfl) (fun K hK => ?_)
    go_simp
    refine hK.out _ _ HS3.out (fun hS3 => ?_)
    clear hK K
    try simp only [Act.put, List.setIfInBounds_toArray, List.set_cons_zero, List.set_cons_succ]
    refine take_at (i := 26) (v := ?vn26) rfl (by kernel_rfl) (by kernel_rfl) (by kernel_rfl) (fun _ _ _ h => h) hS3 (by rfl) ?hn26 ?rn26
    case hn26 => (intro W hSW; (try dsimp only at hSW); go_simp; (try with_reducible rfl))
    try simp only [Act.put, List.setIfInBounds_toArray, List.set_cons_zero, List.set_cons_succ]
    refine take_at (i := 27) (v := ?vn27) rfl (by kernel_rfl) (by kernel_rfl) (by kernel_rfl) (fun _ _ _ h => h) hS3 (by rfl) ?hn27 ?rn27
    case hn27 => (intro W hSW; (try dsimp only at hSW); go_simp; (try with_reducible rfl))
    try simp only [Act.put, List.setIfInBounds_toArray, List.set_cons_zero, List.set_cons_succ]
    refine take_at (i := 28) (v := ?vn28) rfl (by kernel_rfl) (by kernel_rfl) (by kernel_rfl) (fun _ _ _ h => h) hS3 (by rfl) ?hn28 ?rn28
    case hn28 => (intro W hSW; (try dsimp only at hSW); go_simp; (try with_reducible rfl))
    try simp only [Act.put, List.setIfInBounds_toArray, List.set_cons_zero, List.set_cons_succ]
    refine take_at (i := 29) (v := ?vn29) rfl (by kernel_rfl) (by kernel_rfl) (by kernel_rfl) (fun _ _ _ h => h) hS3 (by rfl) ?hn29 ?rn29
    case hn29 => (intro W hSW; (try dsimp only at hSW); go_simp; (try with_reducible rfl))
    try simp only [Act.put, List.setIfInBounds_toArray, List.set_cons_zero, List.set_cons_succ]
    refine take_at (i := 31) (v := ?vn31) rfl (by kernel_rfl) (by kernel_rfl) (by kernel_rfl) (fun _ _ _ h => h) hS3 (by rfl) ?hn31 ?rn31
    case hn31 => (intro W hSW; (try dsimp only at hSW); go_simp; (try with_reducible rfl))
    try simp only [Act.put, List.setIfInBounds_toArray, List.set_cons_zero, List.set_cons_succ]
    refine ready_at (i := 30) rfl (by kernel_rfl) (fun K hK => ?_)
    go_simp
    refine (blocks_any z _).mono ?_
    rintro e w8 ⟨rfl, rfl⟩
    go_wp2_with fail
    refine hK.out _ _ HS3.out (fun hS4 => ?_)
    clear hK K
    try simp only [Act.put, List.setIfInBounds_toArray, List.set_cons_zero, List.set_cons_succ]
    refine ready_at (i := 32) rfl (by kernel_rfl) (fun K hK => ?_)
    go_simp
    refine (refblocks_any z _).mono ?_
    rintro e w9 ⟨rfl, rfl⟩
    go_wp2_with fail
    refine hK.out _ _ HS3.out (fun hS5 => ?_)
    clear hK K
    try simp only [Act.put, List.setIfInBounds_toArray, List.set_cons_zero, List.set_cons_succ]
    refine take_at (i := 33) (v := ?vn33) rfl (by kernel_rfl) (by kernel_rfl) (by kernel_rfl) (fun _ _ _ h => h) hS5 (by rfl) ?hn33 ?rn33
    case hn33 => (intro W hSW; (try dsimp only at hSW); go_simp; (try with_reducible rfl))
    try simp only [Act.put, List.setIfInBounds_toArray, List.set_cons_zero, List.set_cons_succ]
    refine take_at (i := 34) (v := ?vn34) rfl (by kernel_rfl) (by kernel_rfl) (by kernel_rfl) (fun _ _ _ h => h) hS5 (by rfl) ?hn34 ?rn34
    case hn34 => (intro W hSW; (try dsimp only at hSW); go_simp; (try with_reducible rfl))
    try simp only [Act.put, List.setIfInBounds_toArray, List.set_cons_zero, List.set_cons_succ]
    refine ready_at (i := 35) rfl (by kernel_rfl) (fun K hK => ?_)
    go_simp
    refine hK.out _ _ HS3.out (fun hS6 => ?_)
    clear hK K
    try simp only [Act.put, List.setIfInBounds_toArray, List.set_cons_zero, List.set_cons_succ]
    refine wpAnyH_done (by kernel_rfl) ?_ _
    refine NoPanic.normal ?_
    go_wp2
    go_ret
    exact ⟨ret_bool (by simp), HB.out.trans (HS3.out.mono HB.out.size)⟩
  have Hr := hid hr
  refine (encode_yes _ _ _ _ _ hdl.out hr _).mono ?_
  rintro e w3 ⟨A, cc, rfl, hown, hB⟩
  replace HB := hid (HB2.out.trans (hB.mono HB2.out.size))
  replace HM := hid (HM.out.below hB)
  replace HN := hid (HN2.out.below hB)
  have Hb := hid hown.row.bytes
  clear hB hr HB2 HN2 hown
  go_wp2_with (refine wpList_load_ints rfl 26 _ rfl w1.heap.size 0 rfl (nd k l s D r) _ HM.out.range Try.underlying26 rfl hinfR.out ?_)
  refine (refright_any _ _ _ _ _ hdl.out _).mono ?_
  rintro e w5 ⟨rfl, hB⟩
  rw [Hr.out]
  replace HB := hid (HB.out.trans (hB.mono HB.out.size))
  replace HM := hid (HM.out.below hB)
  replace HN := hid (HN.out.below hB)
  have hs1 := fun (W : World) (h : Below w5.heap.size w5 W) => str_any (c := cc) (enc_length k l s D r) ((Hb.out.below hB).below h)
  obtain ⟨X, hX⟩ : ∃ X, enc k l s D r = X := ⟨_, rfl⟩
  rw [hX] at hs1
  clear hB Hb
  go_wp2
  refine wp_region_noPanic ?_
  refine wp_region_held_drew (S := (fun W => Below w5.heap.size w5 W)) (by kernel_rfl) (Below.refl _ _).drew (fun hS0 => ?_)
  refine take_at (i := 0) (v := ?vy0) rfl (by kernel_rfl) (by kernel_rfl) (by kernel_rfl) (fun _ _ _ h => h) hS0 (by rfl) ?hy0 ?ry0
  case hy0 => (intro W hSW; (try dsimp only at hSW); go_simp; (try with_reducible rfl))
  try simp only [Act.put, List.setIfInBounds_toArray, List.set_cons_zero, List.set_cons_succ]
  refine take_at (i := 1) (v := ?vy1) rfl (by kernel_rfl) (by kernel_rfl) (by kernel_rfl) (fun _ _ _ h => h) hS0 (by rfl) ?hy1 ?ry1
  case hy1 => (intro W hSW; (try dsimp only at hSW); go_simp; (try with_reducible rfl))
  try simp only [Act.put, List.setIfInBounds_toArray, List.set_cons_zero, List.set_cons_succ]
  refine take_at (i := 4) (v := ?vy4) rfl (by kernel_rfl) (by kernel_rfl) (by kernel_rfl) (fun _ _ _ h => h) hS0 (by rfl) ?hy4 ?ry4
  case hy4 => (intro W hSW; (try dsimp only at hSW); go_simp; (try with_reducible rfl))
  try simp only [Act.put, List.setIfInBounds_toArray, List.set_cons_zero, List.set_cons_succ]
  refine take_at (i := 2) (v := (.agg (nodeC (nd k l s D r)))) rfl (by kernel_rfl) (by kernel_rfl) (by kernel_rfl) (fun _ _ _ h => h) hS0 (by rfl) ?hy2 ?ry2
  case hy2 => (intro W hSW; (try dsimp only at hSW); exact exec_load_ints (.tmp 2) rfl w.heap.size 0 rfl (nd k l s D r) _ (HN.out.below hSW).range Try.underlying24 rfl hinf.out)
  try simp only [Act.put, List.setIfInBounds_toArray, List.set_cons_zero, List.set_cons_succ]
  refine ready_at (i := 3) rfl (by kernel_rfl) (fun K hK => ?_)
  go_simp
  refine (right_any k l s D r hdl.out _).mono ?_
  rintro e w6 ⟨rfl, hB⟩
  rw [Hr.out]
  have HS1 := hid (hS0.trans (hB.mono hS0.size))
  go_wp2_with fail
  refine hK.out _ _ (hS0.trans (hB.mono hS0.size)) (fun hS1 => ?_)
  clear hK K
  try simp only [Act.put, List.setIfInBounds_toArray, List.set_cons_zero, List.set_cons_succ]
  refine take_at (i := 5) (v := ?vy5) rfl (by kernel_rfl) (by kernel_rfl) (by kernel_rfl) (fun _ _ _ h => h) hS1 (by rfl) ?hy5 ?ry5
  case hy5 => (intro W hSW; (try dsimp only at hSW); go_simp; (try with_reducible rfl))
  try simp only [Act.put, List.setIfInBounds_toArray, List.set_cons_zero, List.set_cons_succ]
  refine take_at (i := 6) (v := ?vy6) rfl (by kernel_rfl) (by kernel_rfl) (by kernel_rfl) (fun _ _ _ h => h) hS1 (by rfl) ?hy6 ?ry6
  case hy6 => (intro W hSW; (try dsimp only at hSW); go_simp; (try with_reducible rfl))
  try simp only [Act.put, List.setIfInBounds_toArray, List.set_cons_zero, List.set_cons_succ]
  refine take_at (i := 7) (v := ?vy7) rfl (by kernel_rfl) (by kernel_rfl) (by kernel_rfl) (fun _ _ _ h => h) hS1 (by rfl) ?hy7 ?ry7
  case hy7 => (intro W hSW; (try dsimp only at hSW); go_simp; (try with_reducible rfl))
  try simp only [Act.put, List.setIfInBounds_toArray, List.set_cons_zero, List.set_cons_succ]
  refine take_at (i := 8) (v := ?vy8) rfl (by kernel_rfl) (by kernel_rfl) (by kernel_rfl) (fun _ _ _ h => h) hS1 (by rfl) ?hy8 ?ry8
  case hy8 => (intro W hSW; (try dsimp only at hSW); go_simp; (try with_reducible rfl))
  try simp only [Act.put, List.setIfInBounds_toArray, List.set_cons_zero, List.set_cons_succ]
  refine take_at (i := 9) (v := ?vy9) rfl (by kernel_rfl) (by kernel_rfl) (by kernel_rfl) (fun _ _ _ h => h) hS1 (by rfl) ?hy9 ?ry9
  case hy9 => (intro W hSW; (try dsimp only at hSW); go_simp; (try with_reducible rfl))
  try simp only [Act.put, List.setIfInBounds_toArray, List.set_cons_zero, List.set_cons_succ]
  refine take_at (i := 10) (v := ?vy10) rfl (by kernel_rfl) (by kernel_rfl) (by kernel_rfl) (fun _ _ _ h => h) hS1 (by rfl) ?hy10 ?ry10
  case hy10 => (intro W hSW; (try dsimp only at hSW); go_simp; (try with_reducible rfl))
  try simp only [Act.put, List.setIfInBounds_toArray, List.set_cons_zero, List.set_cons_succ]
  refine take_at (i := 11) (v := ?vy11) rfl (by kernel_rfl) (by kernel_rfl) (by kernel_rfl) (fun _ _ _ h => h) hS1 (by rfl) ?hy11 ?ry11
  case hy11 => (intro W hSW; (try dsimp only at hSW); go_simp; (try with_reducible rfl))
  try simp only [Act.put, List.setIfInBounds_toArray, List.set_cons_zero, List.set_cons_succ]
  refine take_at (i := 12) (v := ?vy12) rfl (by kernel_rfl) (by kernel_rfl) (by kernel_rfl) (fun _ _ _ h => h) hS1 (by rfl) ?hy12 ?ry12
  case hy12 => (intro W hSW; (try dsimp only at hSW); go_simp; (try with_reducible rfl))
  try simp only [Act.put, List.setIfInBounds_toArray, List.set_cons_zero, List.set_cons_succ]
  refine take_at (i := 13) (v := ?vy13) rfl (by kernel_rfl) (by kernel_rfl) (by kernel_rfl) (fun _ _ _ h => h) hS1 (by rfl) ?hy13 ?ry13
  case hy13 => (intro W hSW; (try dsimp only at hSW); go_simp; (try with_reducible rfl))
  try simp only [Act.put, List.setIfInBounds_toArray, List.set_cons_zero, List.set_cons_succ]
  refine take_at (i := 14) (v := ?vy14) rfl (by kernel_rfl) (by kernel_rfl) (by kernel_rfl) (fun _ _ _ h => h) hS1 (by rfl) ?hy14 ?ry14
  case hy14 => (intro W hSW; (try dsimp only at hSW); go_simp; (try with_reducible rfl))
  try simp only [Act.put, List.setIfInBounds_toArray, List.set_cons_zero, List.set_cons_succ]
  refine take_at (i := 15) (v := ?vy15) rfl (by kernel_rfl) (by kernel_rfl) (by kernel_rfl) (fun _ _ _ h => h) hS1 (by rfl) ?hy15 ?ry15
  case hy15 => (intro W hSW; (try dsimp only at hSW); go_simp; (try with_reducible rfl))
  try simp only [Act.put, List.setIfInBounds_toArray, List.set_cons_zero, List.set_cons_succ]
  refine skip_at (i := 16) rfl (by kernel_rfl) (by kernel_rfl) (by kernel_rfl) (fun _ _ _ h => h) hS1 (by rfl) ?_
  try simp only [Act.put, List.setIfInBounds_toArray, List.set_cons_zero, List.set_cons_succ]
  refine skip_at (i := 17) rfl (by kernel_rfl) (by kernel_rfl) (by kernel_rfl) (fun _ _ _ h => h) hS1 (by rfl) ?_
  try simp only [Act.put, List.setIfInBounds_toArray, List.set_cons_zero, List.set_cons_succ]
  refine take_at (i := 18) (v := ?vy18) rfl (by kernel_rfl) (by kernel_rfl) (by kernel_rfl) (fun _ _ _ h => h) hS1 (by rfl) ?hy18 ?ry18
  case hy18 => (intro W hSW; (try dsimp only at hSW); go_simp; (try with_reducible rfl))
  try simp only [Act.put, List.setIfInBounds_toArray, List.set_cons_zero, List.set_cons_succ]
  refine take_at (i := 19) (v := ?vy19) rfl (by kernel_rfl) (by kernel_rfl) (by kernel_rfl) (fun _ _ _ h => h) hS1 (by rfl) ?hy19 ?ry19
  case hy19 => (intro W hSW; (try dsimp only at hSW); go_simp; (try with_reducible rfl))
  try simp only [Act.put, List.setIfInBounds_toArray, List.set_cons_zero, List.set_cons_succ]
  refine take_at (i := 20) (v := ?vy20) rfl (by kernel_rfl) (by kernel_rfl) (by kernel_rfl) (fun _ _ _ h => h) hS1 (by rfl) ?hy20 ?ry20
  case hy20 => (intro W hSW; (try dsimp only at hSW); go_simp; (try with_reducible rfl))
  try simp only [Act.put, List.setIfInBounds_toArray, List.set_cons_zero, List.set_cons_succ]
  refine take_at (i := 21) (v := ?vy21) rfl (by kernel_rfl) (by kernel_rfl) (by kernel_rfl) (fun _ _ _ h => h) hS1 (by rfl) ?hy21 ?ry21
  case hy21 => (intro W hSW; (try dsimp only at hSW); go_simp; (try with_reducible rfl))
  try simp only [Act.put, List.setIfInBounds_toArray, List.set_cons_zero, List.set_cons_succ]
  refine take_at (i := 22) (v := ?vy22) rfl (by kernel_rfl) (by kernel_rfl) (by kernel_rfl) (fun _ _ _ h => h) hS1 (by rfl) ?hy22 ?ry22
  case hy22 => (intro W hSW; (try dsimp only at hSW); go_simp; (try with_reducible rfl))
  try simp only [Act.put, List.setIfInBounds_toArray, List.set_cons_zero, List.set_cons_succ]
  refine take_at (i := 23) (v := (.agg (nodeC (nd k l s D r)))) rfl (by kernel_rfl) (by kernel_rfl) (by kernel_rfl) (fun _ _ _ h => h) hS1 (by rfl) ?hy23 ?ry23
  case hy23 => (intro W hSW; (try dsimp only at hSW); exact exec_load_ints (.tmp 6) rfl w1.heap.size 0 rfl (nd k l s D r) _ (HM.out.below hSW).range Try.underlying26 rfl hinfR.out)
  try simp only [Act.put, List.setIfInBounds_toArray, List.set_cons_zero, List.set_cons_succ]
  refine ready_at (i := 24) rfl (by kernel_rfl) (fun K hK => ?_)
  go_simp
  refine (refencode_yes k l s D r hdl.out Hr.out _).mono ?_
  rintro e w7 ⟨A2, cc2, rfl, hown2, hB2⟩
  have hs2 := str_any (c := cc2) (enc_length k l s D r) hown2.row.bytes
  rw [hX] at hs2
  have HS3 := hid (HS1.out.trans (hB2.mono HS1.out.size))
  clear hown2
  go_wp2_with fail
  refine hK.out _ _ (HS1.out.trans (hB2.mono HS1.out.size)) (fun hS2 => ?_)
  clear hK K
  try simp only [Act.put, List.setIfInBounds_toArray, List.set_cons_zero, List.set_cons_succ]
  refine ready_at (i := 25) rfl (by kernel_rfl) (fun K hK => ?_)
  go_simp
  refine hK.out _ _ HS3.out (fun hS3 => ?_)
  clear hK K
  try simp only [Act.put, List.setIfInBounds_toArray, List.set_cons_zero, List.set_cons_succ]
  refine take_at (i := 26) (v := ?vy26) rfl (by kernel_rfl) (by kernel_rfl) (by kernel_rfl) (fun _ _ _ h => h) hS3 (by rfl) ?hy26 ?ry26
  case hy26 => (intro W hSW; (try dsimp only at hSW); go_simp; (try with_reducible rfl))
  try simp only [Act.put, List.setIfInBounds_toArray, List.set_cons_zero, List.set_cons_succ]
  refine take_at (i := 27) (v := ?vy27) rfl (by kernel_rfl) (by kernel_rfl) (by kernel_rfl) (fun _ _ _ h => h) hS3 (by rfl) ?hy27 ?ry27
  case hy27 => (intro W hSW; (try dsimp only at hSW); go_simp; (try with_reducible rfl))
  try simp only [Act.put, List.setIfInBounds_toArray, List.set_cons_zero, List.set_cons_succ]
  refine take_at (i := 28) (v := ?vy28) rfl (by kernel_rfl) (by kernel_rfl) (by kernel_rfl) (fun _ _ _ h => h) hS3 (by rfl) ?hy28 ?ry28
  case hy28 => (intro W hSW; (try dsimp only at hSW); go_simp; (try with_reducible rfl))
  try simp only [Act.put, List.setIfInBounds_toArray, List.set_cons_zero, List.set_cons_succ]
  refine take_at (i := 29) (v := ?vy29) rfl (by kernel_rfl) (by kernel_rfl) (by kernel_rfl) (fun _ _ _ h => h) hS3 (by rfl) ?hy29 ?ry29
  case hy29 => (intro W hSW; (try dsimp only at hSW); go_simp; (try with_reducible rfl))
  try simp only [Act.put, List.setIfInBounds_toArray, List.set_cons_zero, List.set_cons_succ]
  refine take_at (i := 31) (v := ?vy31) rfl (by kernel_rfl) (by kernel_rfl) (by kernel_rfl) (fun _ _ _ h => h) hS3 (by rfl) ?hy31 ?ry31
  case hy31 => (intro W hSW; (try dsimp only at hSW); go_simp; (try with_reducible rfl))
  try simp only [Act.put, List.setIfInBounds_toArray, List.set_cons_zero, List.set_cons_succ]
  refine ready_at (i := 30) rfl (by kernel_rfl) (fun K hK => ?_)
  go_simp
  refine (blocks_any z _).mono ?_
  rintro e w8 ⟨rfl, rfl⟩
  go_wp2_with fail
  refine hK.out _ _ HS3.out (fun hS4 => ?_)
  clear hK K
  try simp only [Act.put, List.setIfInBounds_toArray, List.set_cons_zero, List.set_cons_succ]
  refine ready_at (i := 32) rfl (by kernel_rfl) (fun K hK => ?_)
  go_simp
  refine (refblocks_any z _).mono ?_
  rintro e w9 ⟨rfl, rfl⟩
  go_wp2_with fail
  refine hK.out _ _ HS3.out (fun hS5 => ?_)
  clear hK K
  try simp only [Act.put, List.setIfInBounds_toArray, List.set_cons_zero, List.set_cons_succ]
  refine take_at (i := 33) (v := ?vy33) rfl (by kernel_rfl) (by kernel_rfl) (by kernel_rfl) (fun _ _ _ h => h) hS5 (by rfl) ?hy33 ?ry33
  case hy33 => (intro W hSW; (try dsimp only at hSW); go_simp; (try with_reducible rfl))
  try simp only [Act.put, List.setIfInBounds_toArray, List.set_cons_zero, List.set_cons_succ]
  refine take_at (i := 34) (v := ?vy34) rfl (by kernel_rfl) (by kernel_rfl) (by kernel_rfl) (fun _ _ _ h => h) hS5 (by rfl) ?hy34 ?ry34
  case hy34 => (intro W hSW; (try dsimp only at hSW); go_simp; (try with_reducible rfl))
  try simp only [Act.put, List.setIfInBounds_toArray, List.set_cons_zero, List.set_cons_succ]
  refine ready_at (i := 35) rfl (by kernel_rfl) (fun K hK => ?_)
  go_simp
  refine hK.out _ _ HS3.out (fun hS6 => ?_)
  clear hK K
  try simp only [Act.put, List.setIfInBounds_toArray, List.set_cons_zero, List.set_cons_succ]
  refine wpAnyH_done (by kernel_rfl) ?_ _
  refine NoPanic.normal ?_
  go_wp2
  go_ret
  exact ⟨ret_bool (by simp), HB.out.trans (HS3.out.mono HB.out.size)⟩
end Go.Proofs.Ytmjknaldpeoheaa
