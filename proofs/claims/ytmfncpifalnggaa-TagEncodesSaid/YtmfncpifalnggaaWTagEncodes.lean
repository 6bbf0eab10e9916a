/- The walk of TagEncodes. -/
import Derived.Test.YtmfncpifalnggaaShown
import Derived.Test.YtmfncpifalnggaaTagR2
import Derived.Test.YtmfncpifalnggaaTagB
namespace Go.Proofs.Ytmfncpifalnggaa
open Go.RowKit O
set_option linter.unusedVariables false

theorem zero28 : (Try.prog.info? 28).map (·.zero) = some (some (.agg zeroT.toArray)) := by kernel_rfl
theorem size28 : (Try.prog.info? 28).map (·.size) = some 7 := by kernel_rfl

set_option maxHeartbeats 8000000 in
set_option maxRecDepth 20000 in
theorem walk_TagEncodes (w : World) (e s q f : Nat) (i c d : Int) (he : e < 4294967296) (hb : s < 18446744073709551616 ∧ q < 18446744073709551616 ∧ f < 18446744073709551616) (hi : -9223372036854775808 ≤ i ∧ i ≤ 9223372036854775807) (hc : -9223372036854775808 ≤ c ∧ c ≤ 9223372036854775807) (hd : -9223372036854775808 ≤ d ∧ d ≤ 9223372036854775807)
    (a : Option Addr) (l0 : List UInt8) (c0 : Nat) (hbl0 : IsBytes w a l0) (hlc : l0.length ≤ c0) (hcm : c0 ≤ maxLen) :
    Calls Try.prog 3 #[.agg (tagV e s q f i c d), .slice a l0.length c0] w fun x w' => x = .returned (.bool true) ∧ Below w.heap.size w w' := by
  unfold maxLen at hcm
  obtain ⟨k, hmin, hlen, hk, hkc⟩ := cut_min l0 600 600 rfl hlc
  have hmin2 : min (l0.length : Int) 600 = (k : Int) := by rw [List.length_take] at hlen; omega
  have Hbl := hid (hbl0.take 600)
  have Hln := hid hlen
  generalize l0.take 600 = l at *
  clear hb hi hc hd hbl0 hlen
  obtain ⟨w0, hw0⟩ : ∃ w0, w0 = w.alloc (.cells (tagL e s q f i c d).toArray 25) := ⟨_, rfl⟩
  have HB0 := hid (show Below w.heap.size w w0 by rw [hw0]; exact below1 _ _)
  have HT := hid (show IsV w0 w.heap.size 25 (tagL e s q f i c d) by rw [hw0]; exact IsV.new w _ _)
  obtain ⟨T, hT⟩ : ∃ T, T = tagL e s q f i c d := ⟨_, rfl⟩
  have HTV := hid (show T.toArray = tagV e s q f i c d by rw [hT]; rfl)
  rw [← HTV.out]
  rw [← hT] at HT hw0
  have hlT := hid (show (Try.prog.info? 25).map (·.size) = some T.length by rw [hT]; exact size25)
  have hlR := hid (show (Try.prog.info? 28).map (·.size) = some T.length by rw [hT]; exact size28)
  have hl7 := hid (show zeroT.length = T.length by rw [hT]; rfl)
  have hone := hid (show ∀ v ∈ T, v.oneCell' = true by rw [hT]; exact tagL_one _ _ _ _ _ _ _)
  clear hT
  go_enter Try.func3, Try.ntmps3
  go_wp2_with fail
  rw [← hw0]
  clear hw0
  refine (shown_any _).mono ?_
  rintro x w1 ⟨rfl, hB⟩
  have HB1 := hid (HB0.out.trans (hB.mono HB0.out.size))
  have HT1 := hid (HT.out.below hB)
  have Hbl1 := hid (Hbl.out.below HB1.out)
  clear hB HB0 HT Hbl
  go_wp2_with (first
    | (refine wpList_load_V (.tmp 2) rfl w.heap.size rfl T _ HT1.out Try.underlying25 rfl hlT.out (by rfl) ?_)
    | (refine wpList_alloc_V rfl rfl zero28 ?_; intro w2 hN hB hS; have HN2 := hid hN; have HB2 := hid hB; clear hN hB hS)
    | (refine wpList_store_V 28 (.tmp 6) (.tmp 16) rfl w1.heap.size T zeroT 28 rfl rfl HN2.out hl7.out hlR.out hone.out (by rfl) ?_; intro w3 hN hK hS; have hB3 : Below w1.heap.size w1 w3 := HB2.out.trans (hK.below _ (Nat.le_refl _) HB2.out.size); have HR3 := hid hN; have HB3 := hid (HB1.out.trans (hB3.mono HB1.out.size)); have HT3 := hid (HT1.out.below hB3); have Hbl3 := hid (Hbl1.out.below hB3); clear hN hK hS hB3)
    | (refine wpList_load_V (.tmp 6) rfl w1.heap.size rfl T _ HR3.out Try.underlying28 rfl hlR.out (by rfl) ?_))
  clear hmin hmin2 HB1 HT1 Hbl1 HN2 HB2
  rw [HTV.out]
  refine (refright_any e s q f i c d _).mono ?_
  rintro x w4 ⟨rfl, hB⟩
  rw [← HTV.out]
  have HB4 := hid (HB3.out.trans (hB.mono HB3.out.size))
  have HR4 := hid (HR3.out.below hB)
  have HT4 := hid (HT3.out.below hB)
  have Hbl4 := hid (Hbl3.out.below hB)
  clear hB HB3 HR3 HT3 Hbl3
  obtain ⟨rt, hrt⟩ : ∃ rt, rt = right e s q f i c d := ⟨_, rfl⟩
  have Hrt := hid hrt
  rw [← hrt]
  clear hrt
  go_wp2_with (refine wpList_load_V (.tmp 2) rfl w.heap.size rfl T _ HT4.out Try.underlying25 rfl hlT.out (by rfl) ?_)
  rw [HTV.out]
  by_cases hgood : rt = true ∧ k = 480
  case neg =>
    have hbad : right e s q f i c d = false ∨ k ≠ 480 := by
      by_cases h1 : k = 480
      · left
        cases h2 : rt with
        | false => rw [← Hrt.out]; exact h2
        | true => exact absurd ⟨h2, h1⟩ hgood
      · exact .inr h1
    have hbad2 : rt = false ∨ ((k : Int) != 480) = true := by
      rcases hbad with h1 | h1
      · left; rw [Hrt.out]; exact h1
      · right; simp; omega
    refine (encode_no e s q f i c d k hbad _ _ _).mono ?_
    rintro x w5 ⟨rfl, hB⟩
    rw [← HTV.out]
    have HB5 := hid (HB4.out.trans (hB.mono HB4.out.size))
    have HT5 := hid (HT4.out.below hB)
    clear hB hbad hgood
    go_wp2_with (refine wpList_load_V (.tmp 2) rfl w.heap.size rfl T _ HT5.out Try.underlying25 rfl hlT.out (by rfl) ?_)
    rw [HTV.out]
    refine (right_any e s q f i c d _).mono ?_
    rintro x w6 ⟨rfl, hB⟩
    rw [← HTV.out, ← Hrt.out]
    have HB6 := hid (HB5.out.trans (hB.mono HB5.out.size))
    clear hB
    rcases hbad2 with rfl | hk4
    · go_wp2
      go_ret
      exact ⟨ret_bool (by simp), HB6.out⟩
    · cases rt <;>
      (go_wp2
       go_ret
       exact ⟨ret_bool (by simp), HB6.out⟩)
  obtain ⟨rfl, rfl⟩ := hgood
  obtain ⟨i, c, d, rfl, rfl, rfl⟩ := nat_of_right Hrt.out.symm
  refine (encode_yes e s q f i c d he Hrt.out.symm l Hln.out _ _ _ Hbl4.out).mono ?_
  rintro x w5 ⟨g, rfl, hge, hE, hB⟩
  rw [← HTV.out]
  have HE5 := hid hE.bytes
  have HB5 := hid (HB4.out.trans (hB.mono HB4.out.size))
  have HT5 := hid (HT4.out.below hB)
  have HR5 := hid (HR4.out.below hB)
  have Hbl5 := hid (Hbl4.out.below hB)
  clear hB hE hge HB4 HT4 HR4 Hbl4
  go_wp2_with (refine wpList_load_V (.tmp 2) rfl w.heap.size rfl T _ HT5.out Try.underlying25 rfl hlT.out (by rfl) ?_)
  rw [HTV.out]
  refine (right_any e s q f i c d _).mono ?_
  rintro x w6 ⟨rfl, hB⟩
  rw [← HTV.out, ← Hrt.out]
  have HB6 := hid (HB5.out.trans (hB.mono HB5.out.size))
  have HR6 := hid (HR5.out.below hB)
  have HE6 := hid (HE5.out.below hB)
  have Hbl6 := hid (Hbl5.out.below hB)
  obtain ⟨X, hX⟩ : ∃ X, X = head e s q f i c d ++ l := ⟨_, rfl⟩
  have HX := hid hX
  have HXl := hid (show X.length = 512 by rw [hX, List.length_append, head_length, Hln.out])
  rw [← hX] at HE6
  have hs1 := fun (W : World) (h : Below w6.heap.size w6 W) => str_any (c := 512) HXl.out (HE6.out.below h)
  have hs2 := fun (W : World) (h : Below w6.heap.size w6 W) => str_any (c := c0) Hln.out (Hbl6.out.below h)
  clear hB hX HB5 HT5 HR5 HE5 Hbl5
  go_wp2_with fail
  refine wp_region_noPanic ?_
  refine wp_region_held_drew (S := fun W => Below w6.heap.size w6 W) (by kernel_rfl) (Below.refl _ _).drew (fun hS => ?_)
  refine take_at (i := 0) (v := ?va0) rfl (by kernel_rfl) (by kernel_rfl) (by kernel_rfl) (fun _ _ _ h => h) hS (by rfl) ?ha0 ?ra0
  case ha0 => (intro W hSW; (try dsimp only at hSW); go_simp; (try with_reducible rfl))
  try simp only [Act.put, List.setIfInBounds_toArray, List.set_cons_zero, List.set_cons_succ]
  refine take_at (i := 1) (v := ?va1) rfl (by kernel_rfl) (by kernel_rfl) (by kernel_rfl) (fun _ _ _ h => h) hS (by rfl) ?ha1 ?ra1
  case ha1 => (intro W hSW; (try dsimp only at hSW); go_simp; (try with_reducible rfl))
  try simp only [Act.put, List.setIfInBounds_toArray, List.set_cons_zero, List.set_cons_succ]
  refine take_at (i := 2) (v := ?va2) rfl (by kernel_rfl) (by kernel_rfl) (by kernel_rfl) (fun _ _ _ h => h) hS (by rfl) ?ha2 ?ra2
  case ha2 => (intro W hSW; (try dsimp only at hSW); go_simp; (try with_reducible rfl))
  try simp only [Act.put, List.setIfInBounds_toArray, List.set_cons_zero, List.set_cons_succ]
  refine take_at (i := 3) (v := ?va3) rfl (by kernel_rfl) (by kernel_rfl) (by kernel_rfl) (fun _ _ _ h => h) hS (by rfl) ?ha3 ?ra3
  case ha3 => (intro W hSW; (try dsimp only at hSW); go_simp; (try with_reducible rfl))
  try simp only [Act.put, List.setIfInBounds_toArray, List.set_cons_zero, List.set_cons_succ]
  refine take_at (i := 4) (v := ?va4) rfl (by kernel_rfl) (by kernel_rfl) (by kernel_rfl) (fun _ _ _ h => h) hS (by rfl) ?ha4 ?ra4
  case ha4 => (intro W hSW; (try dsimp only at hSW); go_simp; (try with_reducible rfl))
  try simp only [Act.put, List.setIfInBounds_toArray, List.set_cons_zero, List.set_cons_succ]
  refine take_at (i := 5) (v := ?va5) rfl (by kernel_rfl) (by kernel_rfl) (by kernel_rfl) (fun _ _ _ h => h) hS (by rfl) ?ha5 ?ra5
  case ha5 => (intro W hSW; (try dsimp only at hSW); go_simp; (try with_reducible rfl))
  try simp only [Act.put, List.setIfInBounds_toArray, List.set_cons_zero, List.set_cons_succ]
  refine take_at (i := 6) (v := ?va6) rfl (by kernel_rfl) (by kernel_rfl) (by kernel_rfl) (fun _ _ _ h => h) hS (by rfl) ?ha6 ?ra6
  case ha6 => (intro W hSW; (try dsimp only at hSW); go_simp; (try with_reducible rfl))
  try simp only [Act.put, List.setIfInBounds_toArray, List.set_cons_zero, List.set_cons_succ]
  refine take_at (i := 7) (v := ?va7) rfl (by kernel_rfl) (by kernel_rfl) (by kernel_rfl) (fun _ _ _ h => h) hS (by rfl) ?ha7 ?ra7
  case ha7 => (intro W hSW; (try dsimp only at hSW); go_simp; (try with_reducible rfl))
  try simp only [Act.put, List.setIfInBounds_toArray, List.set_cons_zero, List.set_cons_succ]
  refine take_at (i := 8) (v := .agg T.toArray) rfl (by kernel_rfl) (by kernel_rfl) (by kernel_rfl) (fun _ _ _ h => h) hS (by rfl) ?ha8 ?ra8
  case ha8 => (intro W hSW; (try dsimp only at hSW); exact exec_load_V (.tmp 6) rfl w1.heap.size rfl T _ (HR6.out.below hSW) Try.underlying28 rfl hlR.out)
  try simp only [Act.put, List.setIfInBounds_toArray, List.set_cons_zero, List.set_cons_succ]
  refine take_at (i := 9) (v := ?va9) rfl (by kernel_rfl) (by kernel_rfl) (by kernel_rfl) (fun _ _ _ h => h) hS (by rfl) ?ha9 ?ra9
  case ha9 => (intro W hSW; (try dsimp only at hSW); go_simp; (try with_reducible rfl))
  try simp only [Act.put, List.setIfInBounds_toArray, List.set_cons_zero, List.set_cons_succ]
  refine take_at (i := 10) (v := ?va10) rfl (by kernel_rfl) (by kernel_rfl) (by kernel_rfl) (fun _ _ _ h => h) hS (by rfl) ?ha10 ?ra10
  case ha10 => (intro W hSW; (try dsimp only at hSW); go_simp; (try with_reducible rfl))
  try simp only [Act.put, List.setIfInBounds_toArray, List.set_cons_zero, List.set_cons_succ]
  refine ready_at (i := 11) rfl (by kernel_rfl) (fun K hK => ?_)
  go_simp
  rw [HTV.out]
  refine (refencode_any e s q f i c d he Hrt.out.symm l (by rw [Hln.out]; omega) _).mono ?_
  rintro x w7 ⟨rfl, hB⟩
  rw [← HTV.out, ← HX.out]
  have HB7 := hid (hS.trans (hB.mono hS.size))
  clear hB
  go_wp2_with fail
  refine hK.out _ _ HB7.out (fun hS => ?_)
  clear hK K
  try simp only [Act.put, List.setIfInBounds_toArray, List.set_cons_zero, List.set_cons_succ]
  refine take_at (i := 12) (v := ?vb12) rfl (by kernel_rfl) (by kernel_rfl) (by kernel_rfl) (fun _ _ _ h => h) hS (by rfl) ?hb12 ?rb12
  case hb12 => (intro W hSW; (try dsimp only at hSW); go_simp; (try with_reducible rfl))
  try simp only [Act.put, List.setIfInBounds_toArray, List.set_cons_zero, List.set_cons_succ]
  refine take_at (i := 13) (v := ?vb13) rfl (by kernel_rfl) (by kernel_rfl) (by kernel_rfl) (fun _ _ _ h => h) hS (by rfl) ?hb13 ?rb13
  case hb13 => (intro W hSW; (try dsimp only at hSW); go_simp; (try with_reducible rfl))
  try simp only [Act.put, List.setIfInBounds_toArray, List.set_cons_zero, List.set_cons_succ]
  refine ready_at (i := 14) rfl (by kernel_rfl) (fun K hK => ?_)
  go_simp
  refine hK.out _ _ hS (fun hS => ?_)
  clear hK K
  try simp only [Act.put, List.setIfInBounds_toArray, List.set_cons_zero, List.set_cons_succ]
  refine wpAnyH_done (by kernel_rfl) ?_ _
  refine NoPanic.normal ?_
  go_wp2
  go_ret
  exact ⟨ret_bool (by simp), HB6.out.trans (HB7.out.mono HB6.out.size)⟩
end Go.Proofs.Ytmfncpifalnggaa
