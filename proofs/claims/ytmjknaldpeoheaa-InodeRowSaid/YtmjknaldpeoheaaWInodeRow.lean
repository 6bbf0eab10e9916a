/- The walk of InodeRow. -/
import Derived.Test.YtmjknaldpeoheaaInoRowM
import Derived.Test.YtmjknaldpeoheaaWInodeBlocks
import Derived.Test.YtmjknaldpeoheaaShown
import Derived.Test.YtmjknaldpeoheaaNodeEq
namespace Go.Proofs.Ytmjknaldpeoheaa
open Go.RowKit O
set_option linter.unusedVariables false

set_option maxHeartbeats 2000000 in
set_option maxRecDepth 20000 in
theorem walk_InodeRow (w : World) (z : Int) (hz : -9223372036854775808 ≤ z ∧ z ≤ 9223372036854775807) (y : Int) (hy : -9223372036854775808 ≤ y ∧ y ≤ 9223372036854775807) :
    Calls Try.prog 11 #[.int .i64 z, .int .i64 y] w fun e w' => e = .returned (.bool true) ∧ Below w.heap.size w w' := by
  obtain ⟨q, hmask, hq⟩ := and_mask z 65535 65535 rfl (by omega)
  obtain ⟨t, htm, ht2⟩ := mod_lt q 240 240 rfl (by omega)
  obtain ⟨q2, hmask2, hq2⟩ := and_mask y 65535 65535 rfl (by omega)
  obtain ⟨x, hxm, hx2⟩ := mod_lt q2 3840 3840 rfl (by omega)
  clear hz hy
  go_enter Try.func11, Try.ntmps11
  go_wp2_with fail
  refine (shown_any _).mono ?_
  rintro e w1 ⟨rfl, hB⟩
  have HB := hid hB
  clear hB
  obtain ⟨u, hu⟩ : ∃ u, zeroL[t]? = some u := ⟨_, List.getElem?_eq_getElem (by rw [zeroL_length]; exact ht2)⟩
  have Hu := hid hu
  clear hu
  go_wp2_with (first
    | (refine wpList_alloc_ints (w := w1) rfl rfl zero43 ?_; intro w2 hN hB hS; have HN := hid hN; have HB2 := hid (HB.out.trans (hB.mono HB.out.size)); have HS := hid hS; have hcell := hN.cell t _ Hu.out; have hfr := hN.free t; clear hN hB hS)
    | (refine wpList_load_ints rfl 43 (.tmp 6) rfl w1.heap.size 0 rfl (zeroL.set t (x : Int)) _ (HN.out.setC t (x : Int)).range Try.underlying43 rfl (info43 (by rw [List.length_set, zeroL_length])) ?_))
  have hone := hid (one_ok t x hx2)
  obtain ⟨cc0, cc1, hc0, hc1, hsum⟩ := one_get t x ht2 hx2
  have hoff := hid (one_off t x ht2)
  obtain ⟨L, hL⟩ : ∃ L, L = zeroL.set t (x : Int) := ⟨_, rfl⟩
  have hLl := hid (show L.length = 240 by rw [hL, List.length_set, zeroL_length])
  rw [← hL] at hone hc0 hc1 hoff ⊢
  refine (encrow_yes L hLl.out hone.out _).mono ?_
  rintro e w3 ⟨A, c, rfl, hown, hB⟩
  have hlen := hid (show (le2s L).length = 480 by rw [le2s_length, hLl.out])
  obtain ⟨g, rfl, hg1, hg2⟩ := hown.form (by intro h; have := congrArg List.length h; rw [List.length_map, hlen.out] at this; simp at this)
  have HB3 := hid ((HB2.out.setCell (p := ⟨w1.heap.size, t, none⟩) HB.out.size (.int .i64 (x : Int))).trans (hB.mono (by have := HB2.out.size; simpa [World.setCell] using this)))
  have HO := hid hown
  have hd0 : ∀ W, Below w3.heap.size w3 W → W.cell? ⟨g, 2 * t, none⟩ = some (.int .u8 (n8 cc0)) := fun W hW => (HO.out.keep hW).cellB _ _ hc0
  have hd1 : ∀ W, Below w3.heap.size w3 W → W.cell? ⟨g, 2 * t + 1, none⟩ = some (.int .u8 (n8 cc1)) := fun W hW => (HO.out.keep hW).cellB _ _ hc1
  have b0 : 0 ≤ n8 cc0 ∧ n8 cc0 ≤ 255 := by have := cc0.toNat_lt; unfold n8; omega
  have b1 : 0 ≤ n8 cc1 ∧ n8 cc1 ≤ 255 := by have := cc1.toNat_lt; unfold n8; omega
  have hwc0 : IntKind.i64.wrap (n8 cc0) = n8 cc0 := IntWalk.i64_in _ ⟨by omega, by omega⟩
  have hwc1 : IntKind.i64.wrap (n8 cc1) = n8 cc1 := IntWalk.i64_in _ ⟨by omega, by omega⟩
  have hwa : IntKind.i64.wrap (256 * n8 cc1) = 256 * n8 cc1 := IntWalk.i64_in _ ⟨by omega, by omega⟩
  have hwb : IntKind.i64.wrap (n8 cc0 + 256 * n8 cc1) = (x : Int) := by rw [hsum]; exact IntWalk.i64_in _ ⟨by omega, by omega⟩
  obtain ⟨m, hm⟩ : ∃ m : Nat, 2 * t = m := ⟨_, rfl⟩
  have hm' : 2 * (t : Int) = (m : Int) := by omega
  have hm2 : m < 479 := by omega
  have hm3 : (m : Int) < 480 := by omega
  have hm4 : (m : Int) + 1 < 480 := by omega
  have hm5 : 0 ≤ (m : Int) + 1 := by omega
  have hw0 : IntKind.i64.wrap (m : Int) = (m : Int) := IntWalk.i64_in _ ⟨by omega, by omega⟩
  have hw2 : IntKind.i64.wrap ((m : Int) + 1) = (m : Int) + 1 := IntWalk.i64_in _ ⟨by omega, by omega⟩
  rw [hm] at hd0 hd1 hoff
  have Hg := hid (show w.heap.size ≤ g by have := HB.out.size; have := HS.out; simp [World.setCell] at hg1; omega)
  clear hc0 hc1 hB hown hL hcell hfr HN hg1 hg2 hsum hm b0 b1
  go_wp2
  refine wp_region_noPanic ?_
  refine wp_region_held_drew (S := (fun W => Below w3.heap.size w3 W)) (by kernel_rfl) (Below.refl _ _).drew (fun hS0 => ?_)
  refine take_at (i := 0) (v := ?va0) rfl (by kernel_rfl) (by kernel_rfl) (by kernel_rfl) (fun _ _ _ h => h) hS0 (by rfl) ?ha0 ?ra0
  case ha0 => (intro W hSW; (try dsimp only at hSW); go_simp; (try with_reducible rfl))
  try simp only [Act.put, List.setIfInBounds_toArray, List.set_cons_zero, List.set_cons_succ]
  refine take_at (i := 1) (v := ?va1) rfl (by kernel_rfl) (by kernel_rfl) (by kernel_rfl) (fun _ _ _ h => h) hS0 (by rfl) ?ha1 ?ra1
  case ha1 => (intro W hSW; (try dsimp only at hSW); go_simp; (try with_reducible rfl))
  try simp only [Act.put, List.setIfInBounds_toArray, List.set_cons_zero, List.set_cons_succ]
  refine take_at (i := 2) (v := ?va2) rfl (by kernel_rfl) (by kernel_rfl) (by kernel_rfl) (fun _ _ _ h => h) hS0 (by rfl) ?ha2 ?ra2
  case ha2 => (intro W hSW; (try dsimp only at hSW); go_simp; (try with_reducible rfl))
  try simp only [Act.put, List.setIfInBounds_toArray, List.set_cons_zero, List.set_cons_succ]
  refine take_at (i := 3) (v := ?va3) rfl (by kernel_rfl) (by kernel_rfl) (by kernel_rfl) (fun _ _ _ h => h) hS0 (by rfl) ?ha3 ?ra3
  case ha3 => (intro W hSW; (try dsimp only at hSW); go_simp; (try with_reducible rfl))
  try simp only [Act.put, List.setIfInBounds_toArray, List.set_cons_zero, List.set_cons_succ]
  refine take_at (i := 4) (v := ?va4) rfl (by kernel_rfl) (by kernel_rfl) (by kernel_rfl) (fun _ _ _ h => h) hS0 (by rfl) ?ha4 ?ra4
  case ha4 => (intro W hSW; (try dsimp only at hSW); go_simp; (try with_reducible rfl))
  try simp only [Act.put, List.setIfInBounds_toArray, List.set_cons_zero, List.set_cons_succ]
  refine take_at (i := 5) (v := ?va5) rfl (by kernel_rfl) (by kernel_rfl) (by kernel_rfl) (fun _ _ _ h => h) hS0 (by rfl) ?ha5 ?ra5
  case ha5 => (intro W hSW; (try dsimp only at hSW); go_simp; (try with_reducible rfl))
  try simp only [Act.put, List.setIfInBounds_toArray, List.set_cons_zero, List.set_cons_succ]
  refine take_at (i := 6) (v := ?va6) rfl (by kernel_rfl) (by kernel_rfl) (by kernel_rfl) (fun _ _ _ h => h) hS0 (by rfl) ?ha6 ?ra6
  case ha6 => (intro W hSW; (try dsimp only at hSW); go_simp; (try with_reducible rfl))
  try simp only [Act.put, List.setIfInBounds_toArray, List.set_cons_zero, List.set_cons_succ]
  refine take_at (i := 7) (v := ?va7) rfl (by kernel_rfl) (by kernel_rfl) (by kernel_rfl) (fun _ _ _ h => h) hS0 (by rfl) ?ha7 ?ra7
  case ha7 => (intro W hSW; (try dsimp only at hSW); go_simp; (try with_reducible rfl))
  try simp only [Act.put, List.setIfInBounds_toArray, List.set_cons_zero, List.set_cons_succ]
  refine take_at (i := 8) (v := ?va8) rfl (by kernel_rfl) (by kernel_rfl) (by kernel_rfl) (fun _ _ _ h => h) hS0 (by rfl) ?ha8 ?ra8
  case ha8 => (intro W hSW; (try dsimp only at hSW); go_simp; (try with_reducible rfl))
  try simp only [Act.put, List.setIfInBounds_toArray, List.set_cons_zero, List.set_cons_succ]
  refine take_at (i := 9) (v := ?va9) rfl (by kernel_rfl) (by kernel_rfl) (by kernel_rfl) (fun _ _ _ h => h) hS0 (by rfl) ?ha9 ?ra9
  case ha9 => (intro W hSW; (try dsimp only at hSW); go_simp; (try with_reducible rfl))
  try simp only [Act.put, List.setIfInBounds_toArray, List.set_cons_zero, List.set_cons_succ]
  refine take_at (i := 10) (v := ?va10) rfl (by kernel_rfl) (by kernel_rfl) (by kernel_rfl) (fun _ _ _ h => h) hS0 (by rfl) ?ha10 ?ra10
  case ha10 => (intro W hSW; (try dsimp only at hSW); go_simp; (try with_reducible rfl))
  try simp only [Act.put, List.setIfInBounds_toArray, List.set_cons_zero, List.set_cons_succ]
  refine take_at (i := 11) (v := ?va11) rfl (by kernel_rfl) (by kernel_rfl) (by kernel_rfl) (fun _ _ _ h => h) hS0 (by rfl) ?ha11 ?ra11
  case ha11 => (intro W hSW; (try dsimp only at hSW); go_simp; (try with_reducible rfl))
  try simp only [Act.put, List.setIfInBounds_toArray, List.set_cons_zero, List.set_cons_succ]
  refine take_at (i := 12) (v := ?va12) rfl (by kernel_rfl) (by kernel_rfl) (by kernel_rfl) (fun _ _ _ h => h) hS0 (by rfl) ?ha12 ?ra12
  case ha12 => (intro W hSW; (try dsimp only at hSW); go_simp; (try with_reducible rfl))
  try simp only [Act.put, List.setIfInBounds_toArray, List.set_cons_zero, List.set_cons_succ]
  refine take_at (i := 13) (v := ?va13) rfl (by kernel_rfl) (by kernel_rfl) (by kernel_rfl) (fun _ _ _ h => h) hS0 (by rfl) ?ha13 ?ra13
  case ha13 => (intro W hSW; (try dsimp only at hSW); go_simp; (try with_reducible rfl))
  try simp only [Act.put, List.setIfInBounds_toArray, List.set_cons_zero, List.set_cons_succ]
  refine take_at (i := 14) (v := ?va14) rfl (by kernel_rfl) (by kernel_rfl) (by kernel_rfl) (fun _ _ _ h => h) hS0 (by rfl) ?ha14 ?ra14
  case ha14 => (intro W hSW; (try dsimp only at hSW); go_simp; (try with_reducible rfl))
  try simp only [Act.put, List.setIfInBounds_toArray, List.set_cons_zero, List.set_cons_succ]
  refine take_at (i := 15) (v := ?va15) rfl (by kernel_rfl) (by kernel_rfl) (by kernel_rfl) (fun _ _ _ h => h) hS0 (by rfl) ?ha15 ?ra15
  case ha15 => (intro W hSW; (try dsimp only at hSW); go_simp; (try with_reducible rfl))
  try simp only [Act.put, List.setIfInBounds_toArray, List.set_cons_zero, List.set_cons_succ]
  refine take_at (i := 16) (v := ?va16) rfl (by kernel_rfl) (by kernel_rfl) (by kernel_rfl) (fun _ _ _ h => h) hS0 (by rfl) ?ha16 ?ra16
  case ha16 => (intro W hSW; (try dsimp only at hSW); go_simp; (try with_reducible rfl))
  try simp only [Act.put, List.setIfInBounds_toArray, List.set_cons_zero, List.set_cons_succ]
  refine take_at (i := 17) (v := ?va17) rfl (by kernel_rfl) (by kernel_rfl) (by kernel_rfl) (fun _ _ _ h => h) hS0 (by rfl) ?ha17 ?ra17
  case ha17 => (intro W hSW; (try dsimp only at hSW); go_simp; (try with_reducible rfl))
  try simp only [Act.put, List.setIfInBounds_toArray, List.set_cons_zero, List.set_cons_succ]
  refine take_at (i := 18) (v := ?va18) rfl (by kernel_rfl) (by kernel_rfl) (by kernel_rfl) (fun _ _ _ h => h) hS0 (by rfl) ?ha18 ?ra18
  case ha18 => (intro W hSW; (try dsimp only at hSW); go_simp; (try with_reducible rfl))
  try simp only [Act.put, List.setIfInBounds_toArray, List.set_cons_zero, List.set_cons_succ]
  refine take_at (i := 19) (v := ?va19) rfl (by kernel_rfl) (by kernel_rfl) (by kernel_rfl) (fun _ _ _ h => h) hS0 (by rfl) ?ha19 ?ra19
  case ha19 => (intro W hSW; (try dsimp only at hSW); go_simp; (try with_reducible rfl))
  try simp only [Act.put, List.setIfInBounds_toArray, List.set_cons_zero, List.set_cons_succ]
  refine take_at (i := 20) (v := ?va20) rfl (by kernel_rfl) (by kernel_rfl) (by kernel_rfl) (fun _ _ _ h => h) hS0 (by rfl) ?ha20 ?ra20
  case ha20 => (intro W hSW; (try dsimp only at hSW); go_simp; (try with_reducible rfl))
  try simp only [Act.put, List.setIfInBounds_toArray, List.set_cons_zero, List.set_cons_succ]
  refine take_at (i := 21) (v := ?va21) rfl (by kernel_rfl) (by kernel_rfl) (by kernel_rfl) (fun _ _ _ h => h) hS0 (by rfl) ?ha21 ?ra21
  case ha21 => (intro W hSW; (try dsimp only at hSW); go_simp; (try with_reducible rfl))
  try simp only [Act.put, List.setIfInBounds_toArray, List.set_cons_zero, List.set_cons_succ]
  refine take_at (i := 22) (v := ?va22) rfl (by kernel_rfl) (by kernel_rfl) (by kernel_rfl) (fun _ _ _ h => h) hS0 (by rfl) ?ha22 ?ra22
  case ha22 => (intro W hSW; (try dsimp only at hSW); go_simp; (try with_reducible rfl))
  try simp only [Act.put, List.setIfInBounds_toArray, List.set_cons_zero, List.set_cons_succ]
  refine take_at (i := 23) (v := ?va23) rfl (by kernel_rfl) (by kernel_rfl) (by kernel_rfl) (fun _ _ _ h => h) hS0 (by rfl) ?ha23 ?ra23
  case ha23 => (intro W hSW; (try dsimp only at hSW); go_simp; (try with_reducible rfl))
  try simp only [Act.put, List.setIfInBounds_toArray, List.set_cons_zero, List.set_cons_succ]
  refine take_at (i := 24) (v := ?va24) rfl (by kernel_rfl) (by kernel_rfl) (by kernel_rfl) (fun _ _ _ h => h) hS0 (by rfl) ?ha24 ?ra24
  case ha24 => (intro W hSW; (try dsimp only at hSW); go_simp; (try with_reducible rfl))
  try simp only [Act.put, List.setIfInBounds_toArray, List.set_cons_zero, List.set_cons_succ]
  refine ready_at (i := 25) rfl (by kernel_rfl) (fun K hK => ?_)
  go_simp
  refine hK.out _ _ hS0 (fun hS1 => ?_)
  clear hK K
  try simp only [Act.put, List.setIfInBounds_toArray, List.set_cons_zero, List.set_cons_succ]
  refine wpAnyH_done (by kernel_rfl) ?_ _
  refine NoPanic.normal ?_
  have HO1 := hid (show Own _ _ w3.drew _ _ _ from HO.out.keep (Below.refl _ _).drew)
  have hc0 := hd0 w3.drew (Below.refl _ _).drew
  have HB4 := hid HB3.out.drew
  obtain ⟨w4, hw4⟩ : ∃ w4, w4 = w3.drew := ⟨_, rfl⟩
  rw [← hw4] at hc0 HO1 HB4 ⊢
  clear hw4 hd0 hd1
  have HO2 := hid (HO1.out.set m (byteV 0))
  have HO3 := hid (HO2.out.set (m + 1) (byteV 0))
  have hb3 := hid (show IsBytes ((w4.setCell ⟨g, m, none⟩ (.int .u8 0)).setCell ⟨g, m + 1, none⟩ (.int .u8 0)) (some ⟨g, 0, none⟩) (List.replicate 480 0) by
    have := HO3.out
    rw [← List.map_set, ← List.map_set, hoff.out] at this
    exact this.row.bytes)
  have HB5 := hid ((HB4.out.setCell (p := ⟨g, m, none⟩) Hg.out (.int .u8 0)).setCell (p := ⟨g, m + 1, none⟩) Hg.out (.int .u8 0))
  have hf0 := HO1.out.unfrozen m
  have hf1 : (w4.setCell ⟨g, m, none⟩ (.int .u8 0)).frozen? ⟨g, m + 1, none⟩ = false := HO2.out.unfrozen (m + 1)
  obtain ⟨v1, hc1⟩ : ∃ v1, (w4.setCell ⟨g, m, none⟩ (.int .u8 0)).cell? ⟨g, m + 1, none⟩ = some v1 := ⟨_, HO2.out.cell (m + 1) (by rw [List.length_set, List.length_map, hlen.out]; omega)⟩
  obtain ⟨W5, hW5⟩ : ∃ W5, W5 = (w4.setCell ⟨g, m, none⟩ (.int .u8 0)).setCell ⟨g, m + 1, none⟩ (.int .u8 0) := ⟨_, rfl⟩
  rw [← hW5] at hb3 HB5
  clear HO1 HO2 HO3 HO hwb hwa hwc0 hwc1 hw0 hw2
  go_wp2_with fail
  rw [← hW5]
  clear hW5 hc0 hc1 hf0 hf1
  refine (decrow_any (List.replicate 480 0) 480 (List.length_replicate ..) _ _ _ hb3.out).mono ?_
  rintro e w6 ⟨rfl, hB⟩
  rw [rowN480, rowE480]
  have HB6 := hid (HB5.out.trans (hB.mono HB5.out.size))
  have hb6 := hid (hb3.out.below hB)
  clear hB
  have hinf := hid (info43 zeroL_length)
  go_wp2_with (first
    | (refine wpList_alloc_ints (w := w6) rfl rfl zero43 ?_; intro w7 hN hB hS; have HN7 := hid hN; have HB7 := hid hB; clear hN hB hS)
    | (refine wpList_store_node rfl 43 _ _ rfl w6.heap.size zeroL (nodeL zeroL) 43 rfl rfl HN7.out (nodeL_length _) hinf.out ?_; intro w8 hN hK hS; have HN8 := hid hN; have HB8 := hid (HB7.out.trans (hK.below _ (Nat.le_refl _) HB7.out.size)); clear hN hK hS))
  have k1 := fun (W : World) (h : Below w8.heap.size w8 W) => str_any (c := c) (List.length_replicate (n := 480) (a := (0 : UInt8))) ((hb6.out.below HB8.out).below h)
  obtain ⟨w9, hmk, hown9, hB9, -⟩ := make_run (t := 27) elemU8 (base := w8.drew.heap.size) (w := w8.drew) .i64 .i64 480 (by omega) (by omega) (Nat.le_refl _)
  rw [rep_byteV] at hown9
  have hs9 := str_any (c := 480) (List.length_replicate (n := 480) (a := (0 : UInt8))) hown9.row.bytes
  have HB9 := hid (show Below w8.heap.size w8 w9 from (Below.refl _ _).drew.trans (hB9.mono (by simp)))
  rw [show w8.drew.heap.size = w8.heap.size by simp] at hmk hs9
  clear hown9 hB9
  go_wp2
  refine wp_region_noPanic ?_
  refine wp_region_held_drew (S := (fun W => Below w8.heap.size w8 W)) (by kernel_rfl) (Below.refl _ _).drew (fun hS0 => ?_)
  refine take_at (i := 0) (v := ?vb0) rfl (by kernel_rfl) (by kernel_rfl) (by kernel_rfl) (fun _ _ _ h => h) hS0 (by rfl) ?hb0 ?rb0
  case hb0 => (intro W hSW; (try dsimp only at hSW); go_simp; (try with_reducible rfl))
  try simp only [Act.put, List.setIfInBounds_toArray, List.set_cons_zero, List.set_cons_succ]
  refine take_at (i := 1) (v := ?vb1) rfl (by kernel_rfl) (by kernel_rfl) (by kernel_rfl) (fun _ _ _ h => h) hS0 (by rfl) ?hb1 ?rb1
  case hb1 => (intro W hSW; (try dsimp only at hSW); go_simp; (try with_reducible rfl))
  try simp only [Act.put, List.setIfInBounds_toArray, List.set_cons_zero, List.set_cons_succ]
  refine take_at (i := 2) (v := ?vb2) rfl (by kernel_rfl) (by kernel_rfl) (by kernel_rfl) (fun _ _ _ h => h) hS0 (by rfl) ?hb2 ?rb2
  case hb2 => (intro W hSW; (try dsimp only at hSW); go_simp; (try with_reducible rfl))
  try simp only [Act.put, List.setIfInBounds_toArray, List.set_cons_zero, List.set_cons_succ]
  refine take_at (i := 3) (v := ?vb3) rfl (by kernel_rfl) (by kernel_rfl) (by kernel_rfl) (fun _ _ _ h => h) hS0 (by rfl) ?hb3 ?rb3
  case hb3 => (intro W hSW; (try dsimp only at hSW); go_simp; (try with_reducible rfl))
  try simp only [Act.put, List.setIfInBounds_toArray, List.set_cons_zero, List.set_cons_succ]
  refine ready_at (i := 4) rfl (by kernel_rfl) (fun K hK => ?_)
  refine step_make_run hmk rfl rfl rfl rfl ?_
  refine hK.out _ _ HB9.out (fun hS1 => ?_)
  clear hK K
  try simp only [Act.put, List.setIfInBounds_toArray, List.set_cons_zero, List.set_cons_succ]
  refine ready_at (i := 5) rfl (by kernel_rfl) (fun K hK => ?_)
  go_simp
  refine hK.out _ _ HB9.out (fun hS2 => ?_)
  clear hK K
  try simp only [Act.put, List.setIfInBounds_toArray, List.set_cons_zero, List.set_cons_succ]
  refine take_at (i := 6) (v := ?vb6) rfl (by kernel_rfl) (by kernel_rfl) (by kernel_rfl) (fun _ _ _ h => h) hS2 (by rfl) ?hb6 ?rb6
  case hb6 => (intro W hSW; (try dsimp only at hSW); go_simp; (try with_reducible rfl))
  try simp only [Act.put, List.setIfInBounds_toArray, List.set_cons_zero, List.set_cons_succ]
  refine take_at (i := 7) (v := ?vb7) rfl (by kernel_rfl) (by kernel_rfl) (by kernel_rfl) (fun _ _ _ h => h) hS2 (by rfl) ?hb7 ?rb7
  case hb7 => (intro W hSW; (try dsimp only at hSW); go_simp; (try with_reducible rfl))
  try simp only [Act.put, List.setIfInBounds_toArray, List.set_cons_zero, List.set_cons_succ]
  refine take_at (i := 8) (v := ?vb8) rfl (by kernel_rfl) (by kernel_rfl) (by kernel_rfl) (fun _ _ _ h => h) hS2 (by rfl) ?hb8 ?rb8
  case hb8 => (intro W hSW; (try dsimp only at hSW); go_simp; (try with_reducible rfl))
  try simp only [Act.put, List.setIfInBounds_toArray, List.set_cons_zero, List.set_cons_succ]
  refine take_at (i := 9) (v := ?vb9) rfl (by kernel_rfl) (by kernel_rfl) (by kernel_rfl) (fun _ _ _ h => h) hS2 (by rfl) ?hb9 ?rb9
  case hb9 => (intro W hSW; (try dsimp only at hSW); go_simp; (try with_reducible rfl))
  try simp only [Act.put, List.setIfInBounds_toArray, List.set_cons_zero, List.set_cons_succ]
  refine take_at (i := 10) (v := ?vb10) rfl (by kernel_rfl) (by kernel_rfl) (by kernel_rfl) (fun _ _ _ h => h) hS2 (by rfl) ?hb10 ?rb10
  case hb10 => (intro W hSW; (try dsimp only at hSW); go_simp; (try with_reducible rfl))
  try simp only [Act.put, List.setIfInBounds_toArray, List.set_cons_zero, List.set_cons_succ]
  refine take_at (i := 11) (v := ?vb11) rfl (by kernel_rfl) (by kernel_rfl) (by kernel_rfl) (fun _ _ _ h => h) hS2 (by rfl) ?hb11 ?rb11
  case hb11 => (intro W hSW; (try dsimp only at hSW); go_simp; (try with_reducible rfl))
  try simp only [Act.put, List.setIfInBounds_toArray, List.set_cons_zero, List.set_cons_succ]
  refine take_at (i := 12) (v := ?vb12) rfl (by kernel_rfl) (by kernel_rfl) (by kernel_rfl) (fun _ _ _ h => h) hS2 (by rfl) ?hb12 ?rb12
  case hb12 => (intro W hSW; (try dsimp only at hSW); go_simp; (try with_reducible rfl))
  try simp only [Act.put, List.setIfInBounds_toArray, List.set_cons_zero, List.set_cons_succ]
  refine take_at (i := 13) (v := (.agg (nodeC zeroL))) rfl (by kernel_rfl) (by kernel_rfl) (by kernel_rfl) (fun _ _ _ h => h) hS2 (by rfl) ?hb13 ?rb13
  case hb13 => (intro W hSW; (try dsimp only at hSW); exact exec_load_ints (.tmp 9) rfl w6.heap.size 0 rfl zeroL _ (HN8.out.below hSW).range Try.underlying43 rfl hinf.out)
  try simp only [Act.put, List.setIfInBounds_toArray, List.set_cons_zero, List.set_cons_succ]
  refine take_at (i := 14) (v := (.agg (nodeC zeroL))) rfl (by kernel_rfl) (by kernel_rfl) (by kernel_rfl) (fun _ _ _ h => h) hS2 (by rfl) ?hb14 ?rb14
  case hb14 => (intro W hSW; (try dsimp only at hSW); exact exec_build_ints rfl built43)
  try simp only [Act.put, List.setIfInBounds_toArray, List.set_cons_zero, List.set_cons_succ]
  refine take_at (i := 15) (v := (.bool (decide (zeroL = zeroL)))) rfl (by kernel_rfl) (by kernel_rfl) (by kernel_rfl) (fun _ _ _ h => h) hS2 (by rfl) ?hb15 ?rb15
  case hb15 => (intro W hSW; (try dsimp only at hSW); exact exec_eql (.tmp 79) (.tmp 80) rfl rfl rfl guard43 (eq_row zeroL_length zeroL_length W))
  try simp only [Act.put, List.setIfInBounds_toArray, List.set_cons_zero, List.set_cons_succ]
  refine take_at (i := 16) (v := ?vb16) rfl (by kernel_rfl) (by kernel_rfl) (by kernel_rfl) (fun _ _ _ h => h) hS2 (by rfl) ?hb16 ?rb16
  case hb16 => (intro W hSW; (try dsimp only at hSW); go_simp; (try with_reducible rfl))
  try simp only [Act.put, List.setIfInBounds_toArray, List.set_cons_zero, List.set_cons_succ]
  refine ready_at (i := 17) rfl (by kernel_rfl) (fun K hK => ?_)
  go_simp
  refine hK.out _ _ HB9.out (fun hS3 => ?_)
  clear hK K
  try simp only [Act.put, List.setIfInBounds_toArray, List.set_cons_zero, List.set_cons_succ]
  refine wpAnyH_done (by kernel_rfl) ?_ _
  refine NoPanic.normal ?_
  go_wp2
  go_ret
  exact ⟨ret_bool (by simp), HB6.out.trans ((HB8.out.trans (HB9.out.mono HB8.out.size)).mono HB6.out.size)⟩
end Go.Proofs.Ytmjknaldpeoheaa
