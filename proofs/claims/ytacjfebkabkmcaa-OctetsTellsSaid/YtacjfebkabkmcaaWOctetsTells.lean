/- The walk of OctetsTells. -/
import Derived.Test.YtacjfebkabkmcaaShown
import Derived.Test.YtacjfebkabkmcaaLaw
import Derived.Test.YtacjfebkabkmcaaOctRef
import Derived.Deep.QuietTactic
import Derived.BigQuiet
import Derived.Deep.RegionHeld3
namespace Go.Proofs.Ytacjfebkabkmcaa
open Go.RowKit O
set_option linter.unusedVariables false
set_option linter.unusedSimpArgs false

theorem wrap_succ (x : Nat) (hx : x < 18446744073709551616) : ∃ y : Nat, IntKind.u64.wrap ((x : Int) + 1) = (y : Int) ∧ y < 18446744073709551616 :=
  ⟨(x + 1) % 18446744073709551616, by rw [IntKind.wrap_u64]; omega, by omega⟩

set_option maxHeartbeats 4000000 in
theorem walk_OctetsTells (w : World) (a : Option Addr) (l : List UInt8) (c : Nat) (hb : IsBytes w a l) (hlc : l.length ≤ c) (hc : c ≤ maxLen) (z : Int) (hz : -9223372036854775808 ≤ z ∧ z ≤ 9223372036854775807) (x : Nat) (hx : x < 18446744073709551616) (z2 : Int) (hz2 : -9223372036854775808 ≤ z2 ∧ z2 ≤ 9223372036854775807) :
    Calls Try.prog 3 #[.slice a l.length c, .int .i64 z, .int .u64 (x : Int), .int .i64 z2] w fun e w' => e = .returned (.bool true) ∧ Below w.heap.size w w' := by
  unfold maxLen at hc
  obtain ⟨k, hmin, hlen, hk, hkc⟩ := cut_min l 200 200 rfl hlc
  obtain ⟨y, hwrap, hy⟩ := wrap_succ x hx
  have hb' := hid (hb.take 200)
  have hlen' := hid hlen
  generalize l.take 200 = l' at *
  clear hb hlen
  go_enter Try.func3, Try.ntmps3
  go_wp2_with fail
  refine (shown_any w).mono ?_
  rintro e w1 ⟨rfl, hB⟩
  have HB := hid hB
  replace hb' := hid (hb'.out.below hB)
  clear hB
  obtain ⟨w2, hmk0, hown1, hB1, hs1⟩ := make0_run elemU8 (base := w1.heap.size) (w := w1.drew) .i64 .i64 300 (by omega) (by omega) (Nat.le_refl _)
  have hmk : (Instr.makeSlice 22 (.int .i64 0) (.int .i64 300)).run Try.prog w1.drew = .ok (.slice (some ⟨w1.heap.size, 0, none⟩) 0 300) w2 := hmk0
  obtain ⟨A', c', w3, hrun, hown, hB2⟩ := append_run elemU8 22 (n := 0) (c2 := c) hown1 rfl ((hb'.out.below ((Below.refl _ _).drew.trans hB1)).row) (by simpa using hlen'.out) (byteV_one _) (by omega) (by omega) hB1.size
  rw [Nat.zero_add] at hrun
  rw [List.nil_append] at hown
  have hB3 : Below w1.heap.size w1 w3 := ((Below.refl _ _).drew.trans hB1).trans hB2
  have HO := hid hown
  replace HB := hid (HB.out.trans (hB3.mono HB.out.size))
  clear hmk0 hown1 hB1 hs1 hown hB2 hB3 hb'
  go_wp2
  refine wp_region_noPanic ?_
  refine wp_region_held_drew (S := fun _ => True) (by kernel_rfl) trivial (fun _ => ?_)
  refine wpAnyH_take (i := 1) (v := .slice a l.length c) rfl (by kernel_rfl) (by kernel_rfl) (by kernel_rfl) (fun _ _ _ h => h) (Or.inl ⟨by rfl, fun W _ => by go_simp⟩) trivial ?_
  try simp only [Act.put, List.setIfInBounds_toArray, List.set_cons_zero, List.set_cons_succ]
  refine wpAnyH_take (i := 2) (v := .slice a l.length c) rfl (by kernel_rfl) (by kernel_rfl) (by kernel_rfl) (fun _ _ _ h => h) (Or.inl ⟨by rfl, fun W _ => by go_simp⟩) trivial ?_
  try simp only [Act.put, List.setIfInBounds_toArray, List.set_cons_zero, List.set_cons_succ]
  refine wpAnyH_take (i := 3) (v := .int .i64 l.length) rfl (by kernel_rfl) (by kernel_rfl) (by kernel_rfl) (fun _ _ _ h => h) (Or.inl ⟨by rfl, fun W _ => by go_simp⟩) trivial ?_
  try simp only [Act.put, List.setIfInBounds_toArray, List.set_cons_zero, List.set_cons_succ]
  refine wpAnyH_take (i := 4) (v := .int .i64 k) rfl (by kernel_rfl) (by kernel_rfl) (by kernel_rfl) (fun _ _ _ h => h) (Or.inl ⟨by rfl, fun W _ => by go_simp⟩) trivial ?_
  try simp only [Act.put, List.setIfInBounds_toArray, List.set_cons_zero, List.set_cons_succ]
  refine wpAnyH_take (i := 5) (v := .slice a k c) rfl (by kernel_rfl) (by kernel_rfl) (by kernel_rfl) (fun _ _ _ h => h) (Or.inl ⟨by rfl, fun W _ => by go_simp⟩) trivial ?_
  try simp only [Act.put, List.setIfInBounds_toArray, List.set_cons_zero, List.set_cons_succ]
  refine wpAnyH_ready (rs := [0]) (by kernel_rfl) (by simp) ?_
  refine AllReadyH.cons rfl (fun K hK => ?_) AllReadyH.nil
  go_simp
  refine hK.out _ _ trivial (fun _ => ?_)
  clear hK K
  try simp only [Act.put, List.setIfInBounds_toArray, List.set_cons_zero, List.set_cons_succ]
  refine wpAnyH_ready (rs := [6]) (by kernel_rfl) (by simp) ?_
  refine AllReadyH.cons rfl (fun K hK => ?_) AllReadyH.nil
  refine step_append_run (.tmp 17) (.tmp 22) hrun rfl rfl rfl rfl ?_
  refine hK.out _ _ trivial (fun _ => ?_)
  clear hK K
  try simp only [Act.put, List.setIfInBounds_toArray, List.set_cons_zero, List.set_cons_succ]
  refine wpAnyH_ready (rs := [7]) (by kernel_rfl) (by simp) ?_
  refine AllReadyH.cons rfl (fun K hK => ?_) AllReadyH.nil
  go_simp
  refine hK.out _ _ trivial (fun _ => ?_)
  clear hK K
  try simp only [Act.put, List.setIfInBounds_toArray, List.set_cons_zero, List.set_cons_succ]
  refine wpAnyH_done (by kernel_rfl) ?_ _
  refine NoPanic.normal ?_
  have hb3 := hid HO.out.row.bytes
  have hs := str_any (c := c') hlen'.out hb3.out
  clear hrun hmk HO
  go_wp2_with fail
  clear hs
  have hlx : (l' ++ le (cl z 8) x).length = k + cl z 8 := by rw [List.length_append, le_length, hlen'.out]
  have hly : (l' ++ le (cl z 8) y).length = k + cl z 8 := by rw [List.length_append, le_length, hlen'.out]
  obtain ⟨X, hX⟩ : ∃ X, X = l' ++ le (cl z 8) x := ⟨_, rfl⟩
  obtain ⟨Y, hY⟩ : ∃ Y, Y = l' ++ le (cl z 8) y := ⟨_, rfl⟩
  obtain ⟨F, hF⟩ : ∃ F, F = field l' (cl z2 4096) := ⟨_, rfl⟩
  rw [← hX] at hlx
  rw [← hY] at hly
  have hlf : F.length = cl z2 4096 := by rw [hF, field_length]
  have HX := hid hX
  have HY := hid hY
  have HF := hid hF
  have hcf := cl_le z2 4096
  obtain ⟨fl, hfl⟩ : ∃ fl, fl = cl z2 4096 := ⟨_, rfl⟩
  obtain ⟨q, hq⟩ : ∃ q, q = k + cl z 8 := ⟨_, rfl⟩
  rw [← hq] at hlx hly
  rw [← hfl] at hlf hcf
  have Hlx := hid hlx
  have Hly := hid hly
  have Hlf := hid hlf
  clear hX hY hF hq hfl hlx hly hlf
  refine (put_val hlen'.out (by omega) hb3.out z x hx X q HX.out.symm Hlx.out).mono ?_
  rintro e w4 ⟨A1, c1, rfl, -, hown, hB⟩
  have hx4 := hid hown.row.bytes
  have hb4 := hid (hb3.out.below hB)
  replace HB := hid (HB.out.trans (hB.mono HB.out.size))
  clear hown hB hb3
  go_wp2_with fail
  refine (put_val hlen'.out (by omega) hb4.out z y hy Y q HY.out.symm Hly.out).mono ?_
  rintro e w5 ⟨A2, c2, rfl, -, hown, hB⟩
  have hy5 := hid hown.row.bytes
  have hx5 := hid (hx4.out.below hB)
  have hb5 := hid (hb4.out.below hB)
  replace HB := hid (HB.out.trans (hB.mono HB.out.size))
  clear hown hB hb4 hx4
  go_wp2_with fail
  refine (field_val hlen'.out hb5.out z2 F fl HF.out.symm Hlf.out).mono ?_
  rintro e w6 ⟨A3, c3, rfl, -, hown, hB⟩
  have k1 := fun (W : World) (h : Below w6.heap.size w6 W) => str_any (c := c1) Hlx.out ((hx5.out.below hB).below h)
  have k2 := fun (W : World) (h : Below w6.heap.size w6 W) => str_any (c := c2) Hly.out ((hy5.out.below hB).below h)
  have k3 := fun (W : World) (h : Below w6.heap.size w6 W) => str_any (c := c3) Hlf.out (hown.row.bytes.below h)
  have Hown := hid hown
  have HB6 := hid hB
  have hb6 := hid (hb5.out.below hB)
  clear hown hB hx5 hy5
  go_wp2
  refine wp_region_noPanic ?_
  refine wp_region_held_drew (S := (fun W => Below w6.heap.size w6 W)) (by kernel_rfl) (Below.refl _ _).drew (fun hS0 => ?_)
  refine wpAnyH_take (i := 0) (v := ?v0) rfl (by kernel_rfl) (by kernel_rfl) (by kernel_rfl) (fun _ _ _ h => h) (Or.inl ⟨by rfl, ?h0⟩) hS0 ?r0
  case h0 => (intro W hSW; (try dsimp only at hSW); go_simp; (try with_reducible rfl))
  try simp only [Act.put, List.setIfInBounds_toArray, List.set_cons_zero, List.set_cons_succ]
  refine wpAnyH_take (i := 1) (v := ?v1) rfl (by kernel_rfl) (by kernel_rfl) (by kernel_rfl) (fun _ _ _ h => h) (Or.inl ⟨by rfl, ?h1⟩) hS0 ?r1
  case h1 => (intro W hSW; (try dsimp only at hSW); go_simp; (try with_reducible rfl))
  try simp only [Act.put, List.setIfInBounds_toArray, List.set_cons_zero, List.set_cons_succ]
  refine wpAnyH_take (i := 2) (v := ?v2) rfl (by kernel_rfl) (by kernel_rfl) (by kernel_rfl) (fun _ _ _ h => h) (Or.inl ⟨by rfl, ?h2⟩) hS0 ?r2
  case h2 => (intro W hSW; (try dsimp only at hSW); go_simp; (try with_reducible rfl))
  try simp only [Act.put, List.setIfInBounds_toArray, List.set_cons_zero, List.set_cons_succ]
  refine wpAnyH_take (i := 3) (v := ?v3) rfl (by kernel_rfl) (by kernel_rfl) (by kernel_rfl) (fun _ _ _ h => h) (Or.inl ⟨by rfl, ?h3⟩) hS0 ?r3
  case h3 => (intro W hSW; (try dsimp only at hSW); go_simp; (try with_reducible rfl))
  try simp only [Act.put, List.setIfInBounds_toArray, List.set_cons_zero, List.set_cons_succ]
  refine wpAnyH_take (i := 4) (v := ?v4) rfl (by kernel_rfl) (by kernel_rfl) (by kernel_rfl) (fun _ _ _ h => h) (Or.inl ⟨by rfl, ?h4⟩) hS0 ?r4
  case h4 => (intro W hSW; (try dsimp only at hSW); go_simp; (try with_reducible rfl))
  try simp only [Act.put, List.setIfInBounds_toArray, List.set_cons_zero, List.set_cons_succ]
  refine wpAnyH_ready (rs := [5]) (by kernel_rfl) (by simp) ?_
  refine AllReadyH.cons rfl (fun K hK => ?_) AllReadyH.nil
  go_simp
  refine (refput_val hlen'.out (by omega) (hb6.out.below (Below.refl _ _).drew) z x hx X q HX.out.symm Hlx.out).mono ?_
  rintro e w7 ⟨A4, c4, rfl, hown, hB⟩
  have hBx := (Below.refl w6.heap.size w6).drew.trans hB
  have hs7 := str_any (c := c4) Hlx.out hown.row.bytes
  have HBx := hid hBx
  clear hown hB
  go_wp2_with fail
  refine hK.out _ _ hBx (fun hS1 => ?_)
  clear hK K
  try simp only [Act.put, List.setIfInBounds_toArray, List.set_cons_zero, List.set_cons_succ]
  refine wpAnyH_ready (rs := [6]) (by kernel_rfl) (by simp) ?_
  refine AllReadyH.cons rfl (fun K hK => ?_) AllReadyH.nil
  go_simp
  refine hK.out _ _ HBx.out (fun hS2 => ?_)
  clear hK K
  try simp only [Act.put, List.setIfInBounds_toArray, List.set_cons_zero, List.set_cons_succ]
  refine wpAnyH_take (i := 7) (v := ?v7) rfl (by kernel_rfl) (by kernel_rfl) (by kernel_rfl) (fun _ _ _ h => h) (Or.inl ⟨by rfl, ?h7⟩) hS2 ?r7
  case h7 => (intro W hSW; (try dsimp only at hSW); go_simp; (try with_reducible rfl))
  try simp only [Act.put, List.setIfInBounds_toArray, List.set_cons_zero, List.set_cons_succ]
  refine wpAnyH_take (i := 8) (v := ?v8) rfl (by kernel_rfl) (by kernel_rfl) (by kernel_rfl) (fun _ _ _ h => h) (Or.inl ⟨by rfl, ?h8⟩) hS2 ?r8
  case h8 => (intro W hSW; (try dsimp only at hSW); go_simp; (try with_reducible rfl))
  try simp only [Act.put, List.setIfInBounds_toArray, List.set_cons_zero, List.set_cons_succ]
  refine wpAnyH_take (i := 9) (v := ?v9) rfl (by kernel_rfl) (by kernel_rfl) (by kernel_rfl) (fun _ _ _ h => h) (Or.inl ⟨by rfl, ?h9⟩) hS2 ?r9
  case h9 => (intro W hSW; (try dsimp only at hSW); go_simp; (try with_reducible rfl))
  try simp only [Act.put, List.setIfInBounds_toArray, List.set_cons_zero, List.set_cons_succ]
  refine wpAnyH_take (i := 10) (v := ?v10) rfl (by kernel_rfl) (by kernel_rfl) (by kernel_rfl) (fun _ _ _ h => h) (Or.inl ⟨by rfl, ?h10⟩) hS2 ?r10
  case h10 => (intro W hSW; (try dsimp only at hSW); go_simp; (try with_reducible rfl))
  try simp only [Act.put, List.setIfInBounds_toArray, List.set_cons_zero, List.set_cons_succ]
  refine wpAnyH_take (i := 11) (v := ?v11) rfl (by kernel_rfl) (by kernel_rfl) (by kernel_rfl) (fun _ _ _ h => h) (Or.inl ⟨by rfl, ?h11⟩) hS2 ?r11
  case h11 => (intro W hSW; (try dsimp only at hSW); go_simp; (try with_reducible rfl))
  try simp only [Act.put, List.setIfInBounds_toArray, List.set_cons_zero, List.set_cons_succ]
  refine wpAnyH_take (i := 12) (v := ?v12) rfl (by kernel_rfl) (by kernel_rfl) (by kernel_rfl) (fun _ _ _ h => h) (Or.inl ⟨by rfl, ?h12⟩) hS2 ?r12
  case h12 => (intro W hSW; (try dsimp only at hSW); go_simp; (try with_reducible rfl))
  try simp only [Act.put, List.setIfInBounds_toArray, List.set_cons_zero, List.set_cons_succ]
  refine wpAnyH_take (i := 13) (v := ?v13) rfl (by kernel_rfl) (by kernel_rfl) (by kernel_rfl) (fun _ _ _ h => h) (Or.inl ⟨by rfl, ?h13⟩) hS2 ?r13
  case h13 => (intro W hSW; (try dsimp only at hSW); go_simp; (try with_reducible rfl))
  try simp only [Act.put, List.setIfInBounds_toArray, List.set_cons_zero, List.set_cons_succ]
  refine wpAnyH_take (i := 14) (v := ?v14) rfl (by kernel_rfl) (by kernel_rfl) (by kernel_rfl) (fun _ _ _ h => h) (Or.inl ⟨by rfl, ?h14⟩) hS2 ?r14
  case h14 => (intro W hSW; (try dsimp only at hSW); go_simp; (try with_reducible rfl))
  try simp only [Act.put, List.setIfInBounds_toArray, List.set_cons_zero, List.set_cons_succ]
  refine wpAnyH_ready (rs := [15]) (by kernel_rfl) (by simp) ?_
  refine AllReadyH.cons rfl (fun K hK => ?_) AllReadyH.nil
  go_simp
  clear hs7
  refine (refput_val hlen'.out (by omega) (hb6.out.below HBx.out) z y hy Y q HY.out.symm Hly.out).mono ?_
  rintro e w8 ⟨A5, c5, rfl, hown, hB⟩
  have hBy := HBx.out.trans (hB.mono HBx.out.size)
  have hs8 := str_any (c := c5) Hly.out hown.row.bytes
  have HBy := hid hBy
  clear hown hB
  go_wp2_with fail
  refine hK.out _ _ hBy (fun hS3 => ?_)
  clear hK K
  try simp only [Act.put, List.setIfInBounds_toArray, List.set_cons_zero, List.set_cons_succ]
  refine wpAnyH_ready (rs := [16]) (by kernel_rfl) (by simp) ?_
  refine AllReadyH.cons rfl (fun K hK => ?_) AllReadyH.nil
  go_simp
  refine hK.out _ _ HBy.out (fun hS4 => ?_)
  clear hK K
  try simp only [Act.put, List.setIfInBounds_toArray, List.set_cons_zero, List.set_cons_succ]
  refine wpAnyH_take (i := 17) (v := ?v17) rfl (by kernel_rfl) (by kernel_rfl) (by kernel_rfl) (fun _ _ _ h => h) (Or.inl ⟨by rfl, ?h17⟩) hS4 ?r17
  case h17 => (intro W hSW; (try dsimp only at hSW); go_simp; (try with_reducible rfl))
  try simp only [Act.put, List.setIfInBounds_toArray, List.set_cons_zero, List.set_cons_succ]
  refine wpAnyH_take (i := 18) (v := ?v18) rfl (by kernel_rfl) (by kernel_rfl) (by kernel_rfl) (fun _ _ _ h => h) (Or.inl ⟨by rfl, ?h18⟩) hS4 ?r18
  case h18 => (intro W hSW; (try dsimp only at hSW); go_simp; (try with_reducible rfl))
  try simp only [Act.put, List.setIfInBounds_toArray, List.set_cons_zero, List.set_cons_succ]
  refine wpAnyH_take (i := 19) (v := ?v19) rfl (by kernel_rfl) (by kernel_rfl) (by kernel_rfl) (fun _ _ _ h => h) (Or.inl ⟨by rfl, ?h19⟩) hS4 ?r19
  case h19 => (intro W hSW; (try dsimp only at hSW); go_simp; (try with_reducible rfl))
  try simp only [Act.put, List.setIfInBounds_toArray, List.set_cons_zero, List.set_cons_succ]
  refine wpAnyH_take (i := 20) (v := ?v20) rfl (by kernel_rfl) (by kernel_rfl) (by kernel_rfl) (fun _ _ _ h => h) (Or.inl ⟨by rfl, ?h20⟩) hS4 ?r20
  case h20 => (intro W hSW; (try dsimp only at hSW); go_simp; (try with_reducible rfl))
  try simp only [Act.put, List.setIfInBounds_toArray, List.set_cons_zero, List.set_cons_succ]
  refine wpAnyH_take (i := 21) (v := ?v21) rfl (by kernel_rfl) (by kernel_rfl) (by kernel_rfl) (fun _ _ _ h => h) (Or.inl ⟨by rfl, ?h21⟩) hS4 ?r21
  case h21 => (intro W hSW; (try dsimp only at hSW); go_simp; (try with_reducible rfl))
  try simp only [Act.put, List.setIfInBounds_toArray, List.set_cons_zero, List.set_cons_succ]
  refine wpAnyH_take (i := 22) (v := ?v22) rfl (by kernel_rfl) (by kernel_rfl) (by kernel_rfl) (fun _ _ _ h => h) (Or.inl ⟨by rfl, ?h22⟩) hS4 ?r22
  case h22 => (intro W hSW; (try dsimp only at hSW); go_simp; (try with_reducible rfl))
  try simp only [Act.put, List.setIfInBounds_toArray, List.set_cons_zero, List.set_cons_succ]
  refine wpAnyH_take (i := 23) (v := ?v23) rfl (by kernel_rfl) (by kernel_rfl) (by kernel_rfl) (fun _ _ _ h => h) (Or.inl ⟨by rfl, ?h23⟩) hS4 ?r23
  case h23 => (intro W hSW; (try dsimp only at hSW); go_simp; (try with_reducible rfl))
  try simp only [Act.put, List.setIfInBounds_toArray, List.set_cons_zero, List.set_cons_succ]
  refine wpAnyH_ready (rs := [24]) (by kernel_rfl) (by simp) ?_
  refine AllReadyH.cons rfl (fun K hK => ?_) AllReadyH.nil
  go_simp
  clear hs8
  refine (reffield_val hlen'.out (hb6.out.below HBy.out) z2 F fl HF.out.symm Hlf.out).mono ?_
  rintro e w9 ⟨A6, c6, rfl, hown, hB⟩
  have hBz := HBy.out.trans (hB.mono HBy.out.size)
  have hs9 := str_any (c := c6) Hlf.out hown.row.bytes
  have HBz := hid hBz
  clear hown hB
  go_wp2_with fail
  refine hK.out _ _ hBz (fun hS5 => ?_)
  clear hK K
  try simp only [Act.put, List.setIfInBounds_toArray, List.set_cons_zero, List.set_cons_succ]
  refine wpAnyH_ready (rs := [25]) (by kernel_rfl) (by simp) ?_
  refine AllReadyH.cons rfl (fun K hK => ?_) AllReadyH.nil
  go_simp
  refine hK.out _ _ HBz.out (fun hS6 => ?_)
  clear hK K
  try simp only [Act.put, List.setIfInBounds_toArray, List.set_cons_zero, List.set_cons_succ]
  refine wpAnyH_take (i := 26) (v := ?v26) rfl (by kernel_rfl) (by kernel_rfl) (by kernel_rfl) (fun _ _ _ h => h) (Or.inl ⟨by rfl, ?h26⟩) hS6 ?r26
  case h26 => (intro W hSW; (try dsimp only at hSW); go_simp; (try with_reducible rfl))
  try simp only [Act.put, List.setIfInBounds_toArray, List.set_cons_zero, List.set_cons_succ]
  refine wpAnyH_take (i := 27) (v := ?v27) rfl (by kernel_rfl) (by kernel_rfl) (by kernel_rfl) (fun _ _ _ h => h) (Or.inl ⟨by rfl, ?h27⟩) hS6 ?r27
  case h27 => (intro W hSW; (try dsimp only at hSW); go_simp; (try with_reducible rfl))
  try simp only [Act.put, List.setIfInBounds_toArray, List.set_cons_zero, List.set_cons_succ]
  refine wpAnyH_ready (rs := [28]) (by kernel_rfl) (by simp) ?_
  refine AllReadyH.cons rfl (fun K hK => ?_) AllReadyH.nil
  go_simp
  refine hK.out _ _ HBz.out (fun hS7 => ?_)
  clear hK K
  try simp only [Act.put, List.setIfInBounds_toArray, List.set_cons_zero, List.set_cons_succ]
  refine wpAnyH_done (by kernel_rfl) ?_ _
  refine NoPanic.normal ?_
  clear hs9 k1 k2 k3
  go_wp2
  go_loopw [15] (fun i wr => ∃ (j : Nat) (xs : List Value), j ≤ fl ∧ i = .int .i64 (j : Nat) ∧ xs.length = fl ∧ Own 5 w5.heap.size wr A3 c3 xs ∧ Below w5.heap.size w5 wr) (fun i _ => fl - (intOf i).toNat)
  case atStart => exact ⟨0, F.map byteV, by omega, rfl, by rw [List.length_map]; exact Hlf.out, Hown.out.keep HBz.out, HB6.out.trans (HBz.out.mono HB6.out.size)⟩
  case round =>
    obtain ⟨j, xs, hj, rfl, hxl, hown, hBr⟩ := hrel
    have HBr := hid hBr
    have Hxl := hid hxl
    clear hBr hxl
    by_cases hjf : j < fl
    · obtain ⟨g, rfl, hg1, hg2⟩ := hown.form (by intro h; have := Hxl.out; rw [h] at this; simp at this; omega)
      have hcell := hown.cell j (by rw [Hxl.out]; exact hjf)
      have hfr := hown.unfrozen j
      generalize xs[j]'_ = u at hcell
      have fin := hid (hown.set j (.int .u8 77))
      have hset := hid (show (xs.set j (.int .u8 77)).length = fl by rw [List.length_set]; exact Hxl.out)
      have Hg := hid hg1
      clear hown hg1 hg2 Hown
      go_wp2
      go_roundw
      case rel => exact ⟨j + 1, _, by omega, by go_num, hset.out, fin.out, HBr.out.setCell Hg.out _⟩
      case measure => simp [intOf]; omega
    · have hs := str_any (c := c') hlen'.out (hb5.out.below HBr.out)
      clear hown
      go_wp2
      go_ret
      exact ⟨rfl, HB.out.trans (HBr.out.mono HB.out.size)⟩
end Go.Proofs.Ytacjfebkabkmcaa
