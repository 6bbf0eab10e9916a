/- The walk of the laws' common head. -/
import Derived.Test.YtmfncpifalnggaaTag6
import Derived.Test.YtmfncpifalnggaaZero
namespace Go.Proofs.Ytmfncpifalnggaa
open Go.RowKit O
set_option linter.unusedVariables false

theorem sh1 : right 1 1 2 1 1 3 258 = true := by decide +kernel
theorem sh2 : right 0 0 0 0 0 0 0 = false := by decide +kernel
theorem sh3 : tagOk (List.replicate 512 0) = false := by decide +kernel
def hb0 : List UInt8 := [72, 82, 82, 87, 1, 0, 0, 0, 2, 0, 0, 0, 0, 0, 1, 0, 0, 0, 0, 0, 1, 0, 0, 0, 0, 0, 1, 3, 2, 1, 0, 0]
theorem sh4 : head 1 1 2 1 1 3 258 = hb0 := by decide +kernel
def t0 : List Value := tagL 1 1 2 1 1 3 258

set_option maxHeartbeats 4000000 in
set_option maxRecDepth 20000 in
theorem shown_any (w : World) : Calls Try.prog 8 #[] w fun e w' => e = .returned (.bool true) ∧ Below w.heap.size w w' := by
  obtain ⟨w0, hw0⟩ : ∃ w0, w0 = w.alloc (.cells t0.toArray 25) := ⟨_, rfl⟩
  have HB0 := hid (show Below w.heap.size w w0 by rw [hw0]; exact below1 _ _)
  have HT := hid (show IsV w0 w.heap.size 25 t0 by rw [hw0]; exact IsV.new w _ t0)
  go_enter Try.func8, Try.ntmps8
  go_wp2_with fail
  rw [show w.alloc (.cells #[.int .u32 1, .int .u64 1, .int .u64 2, .int .u64 1, .int .i64 1, .int .i64 3, .int .i64 258] 25) = w0 from hw0.symm]
  clear hw0
  obtain ⟨wm, hmk, hm, hBm, hSm⟩ := make_V (t := 26) elemU8 (w := w0.drew) .i64 .i64 480 (by omega) (by omega)
  rw [rep_byteV] at hm
  rw [show w0.drew.heap.size = w0.heap.size by simp] at hmk hm
  have Hm := hid hm.bytes
  have HBm := hid (show Below w0.heap.size w0 wm from (Below.refl _ _).drew.trans (hBm.mono (by simp)))
  clear hm hBm hSm
  refine wp_region_noPanic ?_
  refine wp_region_held_drew (S := fun W => Below w0.heap.size w0 W) (by kernel_rfl) (Below.refl _ _).drew (fun hS => ?_)
  refine take_at (i := 0) (v := .agg (t0).toArray) rfl (by kernel_rfl) (by kernel_rfl) (by kernel_rfl) (fun _ _ _ h => h) hS (by rfl) ?haz ?raz
  case haz => (intro W hSW; exact exec_load_V (.tmp 1) rfl w.heap.size rfl (t0) _ (HT.out.below hSW) Try.underlying25 rfl size25)
  try simp only [Act.put, List.setIfInBounds_toArray, List.set_cons_zero, List.set_cons_succ]
  refine ready_at (i := 1) rfl (by kernel_rfl) (fun K hK => ?_)
  refine step_make_run hmk rfl rfl rfl rfl ?_
  refine hK.out _ _ HBm.out (fun hS => ?_)
  clear hK K
  try simp only [Act.put, List.setIfInBounds_toArray, List.set_cons_zero, List.set_cons_succ]
  refine ready_at (i := 2) rfl (by kernel_rfl) (fun K hK => ?_)
  go_simp
  refine (encode_yes 1 1 2 1 1 3 258 (by omega) sh1 (List.replicate 480 0) (by rw [List.length_replicate]) wm _ 480 Hm.out).mono ?_
  rintro x w1 ⟨g, rfl, hge, hE, hB⟩
  rw [sh4] at hE
  have HE := hid hE
  have HB1 := hid (show Below w0.heap.size w0 w1 from HBm.out.trans (hB.mono HBm.out.size))
  clear hE hB hge
  go_wp2_with fail
  refine hK.out _ _ HB1.out (fun hS => ?_)
  clear hK K
  try simp only [Act.put, List.setIfInBounds_toArray, List.set_cons_zero, List.set_cons_succ]
  refine take_at (i := 3) (v := ?va3) rfl (by kernel_rfl) (by kernel_rfl) (by kernel_rfl) (fun _ _ _ h => h) hS (by rfl) ?ha3 ?ra3
  case ha3 => (intro W hSW; (try dsimp only at hSW); go_simp; (try with_reducible rfl))
  try simp only [Act.put, List.setIfInBounds_toArray, List.set_cons_zero, List.set_cons_succ]
  refine take_at (i := 4) (v := ?va4) rfl (by kernel_rfl) (by kernel_rfl) (by kernel_rfl) (fun _ _ _ h => h) hS (by rfl) ?ha4 ?ra4
  case ha4 => (intro W hSW; (try dsimp only at hSW); go_simp; (try with_reducible rfl))
  try simp only [Act.put, List.setIfInBounds_toArray, List.set_cons_zero, List.set_cons_succ]
  refine take_at (i := 5) (v := ?va5) rfl (by kernel_rfl) (by kernel_rfl) (by kernel_rfl) (fun _ _ _ h => h) hS (by rfl) ?ha5 ?ra5
  case ha5 => (intro W hSW; (try dsimp only at hSW); go_simp; (try with_reducible rfl))
  try simp only [Act.put, List.setIfInBounds_toArray, List.set_cons_zero, List.set_cons_succ]
  refine ready_at (i := 6) rfl (by kernel_rfl) (fun K hK => ?_)
  go_simp
  refine hK.out _ _ hS (fun hS => ?_)
  clear hK K
  try simp only [Act.put, List.setIfInBounds_toArray, List.set_cons_zero, List.set_cons_succ]
  refine ready_at (i := 7) rfl (by kernel_rfl) (fun K hK => ?_)
  go_simp
  refine hK.out _ _ hS (fun hS => ?_)
  clear hK K
  try simp only [Act.put, List.setIfInBounds_toArray, List.set_cons_zero, List.set_cons_succ]
  refine wpAnyH_done (by kernel_rfl) ?_ _
  refine NoPanic.normal ?_
  have HBw := hid (HB0.out.trans (HB1.out.mono HB0.out.size))
  obtain ⟨wm2, hmk2, hm2, hBm2, -⟩ := make_V (t := 26) elemU8 (w := w1) .i64 .i64 480 (by omega) (by omega)
  have HBm2 := hid hBm2
  clear hm2 hBm2
  go_wp2_with (at_make; refine wpList_make_run hmk2 rfl rfl rfl rfl ?_)
  refine (encode_no 0 0 0 0 0 0 0 480 (.inl sh2) wm2 _ 480).mono ?_
  rintro x w2 ⟨rfl, hB⟩
  have HB12 := hid (HBm2.out.trans (hB.mono HBm2.out.size))
  have HBw2 := hid (HBw.out.trans (HB12.out.mono HBw.out.size))
  have HE2 := hid (HE.out.below HB12.out)
  obtain ⟨wm3, hmk3, hm3, hBm3, -⟩ := make_V (t := 26) elemU8 (w := w2) .i64 .i64 512 (by omega) (by omega)
  rw [rep_byteV] at hm3
  have HBm3 := hid hBm3
  have Hm3 := hid hm3.bytes
  clear hm3 hBm3 hB hmk2
  go_wp2_with (at_make; refine wpList_make_run hmk3 rfl rfl rfl rfl ?_)
  refine (decode_full (List.replicate 512 0) (by rw [List.length_replicate]) wm3 _ 512 Hm3.out (Nat.le_refl _)).mono ?_
  rintro x w3 ⟨⟨-, rfl⟩ | ⟨h, -⟩, hB⟩
  · have HB23 := hid (HBm3.out.trans (hB.mono HBm3.out.size))
    have HBw3 := hid (HBw2.out.trans (HB23.out.mono HBw2.out.size))
    have HE3 := hid (HE2.out.below HB23.out)
    clear hB hmk3
    go_wp2_with (first
      | (refine wpList_alloc_V rfl rfl zero25 ?_; intro w4 hN hB hS; have HN := hid hN; have HB4 := hid hB; clear hN hB hS)
      | (refine wpList_store_V 25 (.tmp 6) (.tmp 25) rfl w3.heap.size zeroT zeroT 25 rfl rfl HN.out rfl size25 zeroT_one (by rfl) ?_; intro w5 hN hK hS; have hB5 : Below w3.heap.size w3 w5 := HB4.out.trans (hK.below _ (Nat.le_refl _) HB4.out.size); have hE5 := HE3.out.below hB5; have hs4 := str_any (n := 4) (c := 512) (l := [72, 82, 82, 87]) rfl (show IsBytes w5 (some ⟨g, 0, none⟩) [72, 82, 82, 87] from hE5.bytes.take 4); have hc4 : w5.cell? ⟨g, 4, none⟩ = some (.int .u8 1) := hE5.cell 4; have hc28 : w5.cell? ⟨g, 28, none⟩ = some (.int .u8 2) := hE5.cell 28; have hc29 : w5.cell? ⟨g, 29, none⟩ = some (.int .u8 1) := hE5.cell 29; have HB5 := hid (HBw3.out.trans (hB5.mono HBw3.out.size)); clear hN hK hS hB5 hE5))
    go_ret
    exact ⟨rfl, HB5.out⟩
  · rw [sh3] at h
    cases h
end Go.Proofs.Ytmfncpifalnggaa
