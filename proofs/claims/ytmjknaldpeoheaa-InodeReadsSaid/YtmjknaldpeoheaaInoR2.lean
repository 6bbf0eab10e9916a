/- The walks of the document's inode (harrowref13): Encode. -/
import Derived.Test.YtmjknaldpeoheaaInoR
import Derived.Test.YtmjknaldpeoheaaIno2
import Derived.Test.YtmjknaldpeoheaaOctRef
import Derived.Test.YtmjknaldpeoheaaHeld
namespace Go.Proofs.Ytmjknaldpeoheaa
open Go.RowKit O
set_option linter.unusedVariables false

theorem two_bytes (p : Nat) (hp : p < 65536) : [Value.int .u8 ((p : Int) % 256), Value.int .u8 ((p : Int) / 256)] = (le 2 p).map byteV := by
  rw [byte_val, show (p : Int) / 256 = ((p / 256 : Nat) : Int) % 256 by omega, byte_val]
  rfl
theorem head3 (k l : Nat) (hk : k < 256) (hl : l < 65536) : [Value.int .u8 (k : Int), Value.int .u8 ((l : Int) % 256), Value.int .u8 ((l : Int) / 256)] = (le 1 k ++ le 2 l).map byteV := by
  rw [List.map_append, ← two_bytes l hl, show (k : Int) = (k : Int) % 256 by omega, byte_val]
  rfl
theorem u8mod (p : Nat) : IntKind.u8.wrap ((p : Int).tmod 256) = (p : Int) % 256 := by
  rw [Int.tmod_eq_emod_of_nonneg (by omega)]
  simp [IntKind.wrap, IntKind.bits, IntKind.signed]
theorem u8quo (p : Nat) (h : p < 65536) : IntKind.u8.wrap (IntKind.i64.wrap ((p : Int) / 256)) = (p : Int) / 256 := by
  rw [IntWalk.i64_in _ ⟨by omega, by omega⟩]
  simp [IntKind.wrap, IntKind.bits, IntKind.signed]
  omega
theorem infoR (k l s : Int) (D : List Int) (r : Int) (hD : D.length = 16) : (Try.prog.info? 26).map (·.size) = some (nd k l s D r).length := by
  rw [nd_length _ _ _ _ _ hD]
  kernel_rfl

theorem refencode_no (k l s : Int) (D : List Int) (r : Int) (hD : D.length = 16) (hr : right k l s D r = false) (w : World) :
    Calls Try.prog 16 #[.agg (nodeC (nd k l s D r))] w fun e w' => e = .returned (.slice none 0 0) ∧ Below w.heap.size w w' := by
  have hinf := hid (infoR k l s D r hD)
  have HN := hid (IsNode.new w 26 (nd k l s D r))
  go_enter Try.func16, Try.ntmps16
  go_wp2_with (refine wpList_load_ints rfl 26 _ rfl w.heap.size 0 rfl (nd k l s D r) _ HN.out.range Try.underlying26 rfl hinf.out ?_)
  refine (refright_any k l s D r hD _).mono ?_
  rintro e w1 ⟨rfl, hB⟩
  rw [hr]
  have HB := hid ((below1 w _).trans (hB.mono (by simp)))
  clear hB
  go_wp2
  go_ret
  exact ⟨rfl, HB.out⟩

set_option maxHeartbeats 1000000 in
theorem refencode_yes (k l s : Int) (D : List Int) (r : Int) (hD : D.length = 16) (hr : right k l s D r = true) (w : World) :
    Calls Try.prog 16 #[.agg (nodeC (nd k l s D r))] w fun e w' => ∃ A c, e = .returned (.slice A 480 c) ∧ Own 5 w.heap.size w' A c ((enc k l s D r).map byteV) ∧ Below w.heap.size w w' := by
  have hinf := hid (infoR k l s D r hD)
  have HN := hid (IsNode.new w 26 (nd k l s D r))
  obtain ⟨hk, hl, hs, hDb, hrb, -, -⟩ := right_bd hr
  obtain ⟨k', rfl⟩ : ∃ k' : Nat, k = (k' : Int) := ⟨k.toNat, by omega⟩
  obtain ⟨l', rfl⟩ : ∃ l' : Nat, l = (l' : Int) := ⟨l.toNat, by omega⟩
  obtain ⟨s', rfl⟩ : ∃ s' : Nat, s = (s' : Int) := ⟨s.toNat, by omega⟩
  obtain ⟨r', rfl⟩ : ∃ r' : Nat, r = (r' : Int) := ⟨r.toNat, by omega⟩
  have hk0 : (0 : Int) ≤ (k' : Int) ∧ (k' : Int) ≤ 2 := by omega
  have HDb := hid hDb
  have Hr := hid hr
  have hdl := hid hD
  clear hk hDb hr hD
  go_enter Try.func16, Try.ntmps16
  go_wp2_with (refine wpList_load_ints rfl 26 _ rfl w.heap.size 0 rfl (nd k' l' s' D r') _ HN.out.range Try.underlying26 rfl hinf.out ?_)
  refine (refright_any k' l' s' D r' hdl.out _).mono ?_
  rintro e w1 ⟨rfl, hB⟩
  rw [Hr.out]
  have hn := hid (HN.out.below hB)
  have HB := hid ((below1 w _).trans (hB.mono (by simp)))
  have g0 := hn.out.cell 0 _ (nd0 _ _ _ _ _)
  have g1 := hn.out.cell 1 _ (nd1 _ _ _ _ _)
  have g2 := (hn.out.below (below1 w1 (.cells #[Value.int .u8 (k' : Int), Value.int .u8 ((l' : Int) % 256), Value.int .u8 ((l' : Int) / 256)] 5))).cell 2 _ (nd2 _ _ _ _ _)
  clear hB HN hinf
  go_wp2_with fail
  refine (refput_val (l := le 1 k' ++ le 2 l') (n := 3) (by simp [le_length]) (by omega) (by exact IsBytes.alloc_at rfl _ (head3 k' l' (by omega) (by omega))) 4 s' (by omega) (le 1 k' ++ le 2 l' ++ le 4 s') 7 rfl (by simp [le_length])).mono ?_
  rintro e w2 ⟨A2, c2, rfl, hown, hB⟩
  replace hB := hid ((below1 w1 _).trans (hB.mono (by simp)))
  have hn1 := hn
  replace hn := hid (hn.out.below hB.out)
  have HB2 := hid (HB.out.trans (hB.out.mono HB.out.size))
  have Hlt := hid (show w.heap.size < w1.heap.size from hn1.out.lt)
  have Hsz := hid hB.out.size
  obtain ⟨H, hH⟩ : ∃ H, H = le 1 k' ++ le 2 l' ++ le 4 s' := ⟨_, rfl⟩
  have HO := hid (hown.mono (base' := w1.heap.size) (by simp))
  rw [← hH] at HO
  have hHl := hid (show H.length = 7 by rw [hH]; simp [le_length])
  have Henc := hid (show enc k' l' s' D r' = field (H ++ le2s D ++ le 2 r') 480 by rw [hH]; unfold enc told; simp [le2s])
  clear g0 g1 g2 hB HB hown hH hn1
  go_wp2
  go_loopw [4, 5] (fun v i wr => ∃ (j : Nat) (A : Option Addr) (cc : Nat), j ≤ 16 ∧ i = .int .i64 j ∧ v = .slice A (7 + 2 * j : Nat) cc ∧ Own 5 w1.heap.size wr A cc ((H ++ le2s (D.take j)).map byteV) ∧ Below w1.heap.size w2 wr ∧ w1.heap.size ≤ wr.heap.size) (fun _ i _ => 16 - (intOf i).toNat)
  case atStart => exact ⟨0, A2, c2, by omega, rfl, rfl, by simpa [le2s] using HO.out, Below.refl _ _, Hsz.out⟩
  case round =>
    obtain ⟨j, A, cc, hj, rfl, rfl, hown, hBr, hsz⟩ := hrel
    by_cases hj16 : j < 16
    · have hjD := hid (show j < D.length by rw [hdl.out]; exact hj16)
      have hx := nd_ptr k' l' s' D r' hdl.out j hj16
      obtain ⟨p, hp, hp2⟩ : ∃ p : Nat, D[j]'hjD.out = (p : Int) ∧ p ≤ 3839 := by
        have := HDb.out _ (List.getElem_mem hjD.out)
        exact ⟨(D[j]'hjD.out).toNat, by omega, by omega⟩
      have hst := hid (show le2s (D.take (j + 1)) = le2s (D.take j) ++ le 2 p by rw [le2s_take D j hjD.out, hp]; rfl)
      rw [show D.getD j 0 = (p : Int) by rw [← hp]; simp [hjD.out]] at hx
      have hn2 := hid (show IsNode wr _ _ _ from (hBr.block _ Hlt.out).trans hn.out)
      have hc : ∀ W, Below w1.heap.size wr W → W.cell? ⟨w.heap.size, 3 + j, none⟩ = some (.int .i64 (p : Int)) := fun W hW => (show IsNode W _ _ _ from (hW.block _ Hlt.out).trans hn2.out).cell _ _ hx
      have hb2 : [Value.int .u8 (IntKind.u8.wrap ((p : Int).tmod 256)), Value.int .u8 (IntKind.u8.wrap (IntKind.i64.wrap ((p : Int) / 256)))] = (le 2 p).map byteV := by
        rw [← two_bytes p (by omega), u8mod p, u8quo p (by omega)]
      obtain ⟨A', c', w3, hap, hown3, hB3⟩ := append_run elemU8 27 (n := 7 + 2 * j) (m := 2) (c2 := 2) (w := (wr.alloc (.cells #[.int .u8 (IntKind.u8.wrap ((p : Int).tmod 256)), .int .u8 (IntKind.u8.wrap (IntKind.i64.wrap ((p : Int) / 256)))] 5)).drew) (hown.keep (((Below.refl _ _).alloc (Nat.le_refl _) _).drew)) (by rw [List.length_map, List.length_append, hHl.out, le2s_length, List.length_take]; have := hjD.out; omega) ((IsRow.alloc_new wr #[.int .u8 (IntKind.u8.wrap ((p : Int).tmod 256)), .int .u8 (IntKind.u8.wrap (IntKind.i64.wrap ((p : Int) / 256)))] 5 (0, 0) [.int .u8 (IntKind.u8.wrap ((p : Int).tmod 256)), .int .u8 (IntKind.u8.wrap (IntKind.i64.wrap ((p : Int) / 256)))] rfl).below (Below.refl _ _).drew) rfl (by intro u hu; simp at hu; rcases hu with rfl | rfl <;> rfl) (by omega) (by omega) (by simp; omega)
      have H3 := hid (show Own 5 w1.heap.size w3 A' c' ((H ++ le2s (D.take (j + 1))).map byteV) by
        rw [hst.out, ← List.append_assoc, List.map_append (l₁ := H ++ le2s (D.take j)), ← hb2]
        exact hown3)
      have e1 : Below w1.heap.size wr (wr.alloc (.cells #[.int .u8 (IntKind.u8.wrap ((p : Int).tmod 256)), .int .u8 (IntKind.u8.wrap (IntKind.i64.wrap ((p : Int) / 256)))] 5)).drew := ((Below.refl w1.heap.size wr).alloc hsz _).drew
      have HB3 := hid (e1.trans hB3)
      have Hsz3 := hid (show w1.heap.size ≤ w3.heap.size by have := e1.size; have := hB3.size; omega)
      have HBw := hid (hBr.trans HB3.out)
      clear hx hp hb2 hown hBr hown3 hB3 hst hn2
      go_wp2
      refine wp_region_noPanic ?_
      refine wp_region_held_drew (S := (fun W => Below w1.heap.size wr W)) (by kernel_rfl) (Below.refl _ _).drew (fun hS0 => ?_)
      refine take_at (i := 0) (v := ?v0) rfl (by kernel_rfl) (by kernel_rfl) (by kernel_rfl) (fun _ _ _ h => h) hS0 (by rfl) ?h0 ?r0
      case h0 => (intro W hSW; (try dsimp only at hSW); go_simp; (try with_reducible rfl))
      try simp only [Act.put, List.setIfInBounds_toArray, List.set_cons_zero, List.set_cons_succ]
      refine take_at (i := 1) (v := ?v1) rfl (by kernel_rfl) (by kernel_rfl) (by kernel_rfl) (fun _ _ _ h => h) hS0 (by rfl) ?h1 ?r1
      case h1 => (intro W hSW; (try dsimp only at hSW); go_simp; (try with_reducible rfl))
      try simp only [Act.put, List.setIfInBounds_toArray, List.set_cons_zero, List.set_cons_succ]
      refine take_at (i := 2) (v := ?v2) rfl (by kernel_rfl) (by kernel_rfl) (by kernel_rfl) (fun _ _ _ h => h) hS0 (by rfl) ?h2 ?r2
      case h2 => (intro W hSW; (try dsimp only at hSW); go_simp; (try with_reducible rfl))
      try simp only [Act.put, List.setIfInBounds_toArray, List.set_cons_zero, List.set_cons_succ]
      refine take_at (i := 3) (v := ?v3) rfl (by kernel_rfl) (by kernel_rfl) (by kernel_rfl) (fun _ _ _ h => h) hS0 (by rfl) ?h3 ?r3
      case h3 => (intro W hSW; (try dsimp only at hSW); go_simp; (try with_reducible rfl))
      try simp only [Act.put, List.setIfInBounds_toArray, List.set_cons_zero, List.set_cons_succ]
      refine take_at (i := 4) (v := ?v4) rfl (by kernel_rfl) (by kernel_rfl) (by kernel_rfl) (fun _ _ _ h => h) hS0 (by rfl) ?h4 ?r4
      case h4 => (intro W hSW; (try dsimp only at hSW); go_simp; (try with_reducible rfl))
      try simp only [Act.put, List.setIfInBounds_toArray, List.set_cons_zero, List.set_cons_succ]
      refine take_at (i := 5) (v := ?v5) rfl (by kernel_rfl) (by kernel_rfl) (by kernel_rfl) (fun _ _ _ h => h) hS0 (by rfl) ?h5 ?r5
      case h5 => (intro W hSW; (try dsimp only at hSW); go_simp; (try with_reducible rfl))
      try simp only [Act.put, List.setIfInBounds_toArray, List.set_cons_zero, List.set_cons_succ]
      refine take_at (i := 6) (v := ?v6) rfl (by kernel_rfl) (by kernel_rfl) (by kernel_rfl) (fun _ _ _ h => h) hS0 (by rfl) ?h6 ?r6
      case h6 => (intro W hSW; (try dsimp only at hSW); go_simp; (try with_reducible rfl))
      try simp only [Act.put, List.setIfInBounds_toArray, List.set_cons_zero, List.set_cons_succ]
      refine take_at (i := 7) (v := ?v7) rfl (by kernel_rfl) (by kernel_rfl) (by kernel_rfl) (fun _ _ _ h => h) hS0 (by rfl) ?h7 ?r7
      case h7 => (intro W hSW; (try dsimp only at hSW); go_simp; (try with_reducible rfl))
      try simp only [Act.put, List.setIfInBounds_toArray, List.set_cons_zero, List.set_cons_succ]
      refine take_at (i := 8) (v := ?v8) rfl (by kernel_rfl) (by kernel_rfl) (by kernel_rfl) (fun _ _ _ h => h) hS0 (by rfl) ?h8 ?r8
      case h8 => (intro W hSW; (try dsimp only at hSW); go_simp; (try with_reducible rfl))
      try simp only [Act.put, List.setIfInBounds_toArray, List.set_cons_zero, List.set_cons_succ]
      refine take_at (i := 9) (v := ?v9) rfl (by kernel_rfl) (by kernel_rfl) (by kernel_rfl) (fun _ _ _ h => h) hS0 (by rfl) ?h9 ?r9
      case h9 => (intro W hSW; (try dsimp only at hSW); go_simp; (try with_reducible rfl))
      try simp only [Act.put, List.setIfInBounds_toArray, List.set_cons_zero, List.set_cons_succ]
      refine take_at (i := 10) (v := ?v10) rfl (by kernel_rfl) (by kernel_rfl) (by kernel_rfl) (fun _ _ _ h => h) hS0 (by rfl) ?h10 ?r10
      case h10 => (intro W hSW; (try dsimp only at hSW); go_simp; (try with_reducible rfl))
      try simp only [Act.put, List.setIfInBounds_toArray, List.set_cons_zero, List.set_cons_succ]
      refine take_at (i := 11) (v := ?v11) rfl (by kernel_rfl) (by kernel_rfl) (by kernel_rfl) (fun _ _ _ h => h) hS0 (by rfl) ?h11 ?r11
      case h11 => (intro W hSW; (try dsimp only at hSW); go_simp; (try with_reducible rfl))
      try simp only [Act.put, List.setIfInBounds_toArray, List.set_cons_zero, List.set_cons_succ]
      refine take_at (i := 12) (v := ?v12) rfl (by kernel_rfl) (by kernel_rfl) (by kernel_rfl) (fun _ _ _ h => h) hS0 (by rfl) ?h12 ?r12
      case h12 => (intro W hSW; (try dsimp only at hSW); go_simp; (try with_reducible rfl))
      try simp only [Act.put, List.setIfInBounds_toArray, List.set_cons_zero, List.set_cons_succ]
      refine ready_at (i := 13) rfl (by kernel_rfl) (fun K hK => ?_)
      go_simp
      refine hK.out _ _ e1 (fun hS1 => ?_)
      clear hK K
      try simp only [Act.put, List.setIfInBounds_toArray, List.set_cons_zero, List.set_cons_succ]
      refine ready_at (i := 14) rfl (by kernel_rfl) (fun K hK => ?_)
      refine step_append_run (.tmp 31) (.tmp 44) hap rfl rfl rfl rfl ?_
      refine hK.out _ _ HB3.out (fun hS2 => ?_)
      clear hK K
      try simp only [Act.put, List.setIfInBounds_toArray, List.set_cons_zero, List.set_cons_succ]
      refine ready_at (i := 15) rfl (by kernel_rfl) (fun K hK => ?_)
      go_simp
      refine hK.out _ _ HB3.out (fun hS3 => ?_)
      clear hK K
      try simp only [Act.put, List.setIfInBounds_toArray, List.set_cons_zero, List.set_cons_succ]
      refine wpAnyH_done (by kernel_rfl) ?_ _
      refine NoPanic.normal ?_
      go_wp2
      go_roundw
      case rel => exact ⟨j + 1, A', c', by omega, by go_num, by go_num, H3.out, HBw.out, Hsz3.out⟩
      case measure => simp [intOf]; omega
    · obtain rfl : j = 16 := by omega
      have hn2 := hid (show IsNode wr _ _ _ from (hBr.block _ Hlt.out).trans hn.out)
      have g19 := hn2.out.cell 19 _ (nd19 k' l' s' D r' hdl.out)
      have htk : D.take 16 = D := List.take_of_length_le (by rw [hdl.out]; exact Nat.le_refl _)
      rw [htk] at hown
      have hLl : (H ++ le2s D).length = 39 := by rw [List.length_append, hHl.out, le2s_length, hdl.out]
      obtain ⟨A', c', w3, hap, hown3, hB3⟩ := append_run elemU8 27 (n := 7 + 2 * 16) (m := 2) (c2 := 2) (w := wr.alloc (.cells #[.int .u8 ((r' : Int) % 256), .int .u8 ((r' : Int) / 256)] 5)) (hown.keep ((Below.refl _ _).alloc (Nat.le_refl _) _)) (by rw [List.length_map, hLl]) (IsRow.alloc_new wr #[.int .u8 ((r' : Int) % 256), .int .u8 ((r' : Int) / 256)] 5 (0, 0) [.int .u8 ((r' : Int) % 256), .int .u8 ((r' : Int) / 256)] rfl) rfl (by intro u hu; simp at hu; rcases hu with rfl | rfl <;> rfl) (by omega) (by omega) (by simp; omega)
      have H3 := hid (show Own 5 w1.heap.size w3 A' c' ((H ++ le2s D ++ le 2 r').map byteV) by
        rw [List.map_append (l₁ := H ++ le2s D), ← two_bytes r' (by omega)]
        exact hown3)
      have HB3 := hid (hBr.trans (((Below.refl w1.heap.size wr).alloc hsz _).trans hB3))
      have Hsz3 := hid (show w1.heap.size ≤ w3.heap.size by have := ((Below.refl w1.heap.size wr).alloc hsz (.cells #[.int .u8 ((r' : Int) % 256), .int .u8 ((r' : Int) / 256)] 5)).size; have := hB3.size; omega)
      clear hown hBr hown3 hB3 hn2 htk hLl
      go_wp2_with (at_builtin; refine wpList_append_run _ _ hap rfl rfl rfl rfl ?_)
      refine (reffield_val (n := 41) (by rw [List.length_append, List.length_append, hHl.out, le2s_length, hdl.out, le_length]) H3.out.row.bytes 480 (enc k' l' s' D r') 480 (by rw [Henc.out]; rfl) (by rw [Henc.out, field_length])).mono ?_
      rintro e w4 ⟨A4, c4, rfl, hown, hB⟩
      have HO4 := hid (hown.mono (base' := w.heap.size) (Nat.le_trans (Nat.le_of_lt Hlt.out) Hsz3.out))
      have HB4 := hid ((HB2.out.trans (HB3.out.mono (Nat.le_of_lt Hlt.out))).trans (hB.mono (Nat.le_trans (Nat.le_of_lt Hlt.out) Hsz3.out)))
      clear hown hB
      go_wp2
      go_ret
      exact ⟨A4, c4, rfl, HO4.out, HB4.out⟩
end Go.Proofs.Ytmjknaldpeoheaa
