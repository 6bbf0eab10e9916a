/- The walks of the document's rows (harrowref13): EncodeRow. -/
import Derived.Test.YtmjknaldpeoheaaInoRow
import Derived.Test.YtmjknaldpeoheaaInoR2
namespace Go.Proofs.Ytmjknaldpeoheaa
open Go.RowKit O
set_option linter.unusedVariables false

set_option maxHeartbeats 1000000 in
set_option maxRecDepth 20000 in
theorem refencrow_any (L : List Int) (hL : L.length = 240) (q : Bool) (hq : L.all ptrOk = q) (w : World) :
    Calls Try.prog 24 #[.agg (nodeC L)] w fun e w' => ∃ A n c, e = .returned (.slice A (n : Nat) c) ∧ ((q = true ∧ n = 480 ∧ Own 5 w.heap.size w' A c ((le2s L).map byteV)) ∨ (q = false ∧ A = none ∧ n = 0 ∧ c = 0)) ∧ Below w.heap.size w w' := by
  have HN := hid (IsNode.new w 43 L)
  have HB1 := hid (below1 w (.cells (nodeC L) 43))
  have HW := hid (show (w.alloc (.cells (nodeC L) 43)).heap.size = w.heap.size + 1 by simp)
  have hl := hid hL
  have Hq := hid hq
  clear hL hq
  go_enter Try.func24, Try.ntmps24
  obtain ⟨W1, hW1⟩ : ∃ W1, W1 = w.alloc (.cells (nodeC L) 43) := ⟨_, rfl⟩
  have HO := hid (Own.empty (base := w.heap.size + 1) 5 W1 (by rw [hW1, HW.out]; exact Nat.le_refl _))
  rw [← hW1] at HN HB1 HW
  have hsz := HW.out
  go_wp2
  rw [← hW1]
  clear hW1
  go_loopw [3, 4] (fun v i wr => ∃ (j : Nat) (A : Option Addr) (cc : Nat), j ≤ 240 ∧ i = .int .i64 j ∧ v = .slice A (2 * j : Nat) cc ∧ Own 5 (w.heap.size + 1) wr A cc ((le2s (L.take j)).map byteV) ∧ Below (w.heap.size + 1) W1 wr ∧ w.heap.size + 1 ≤ wr.heap.size ∧ (L.take j).all ptrOk = true) (fun _ i _ => 240 - (intOf i).toNat)
  case atStart => exact ⟨0, _, 0, by omega, rfl, rfl, by simpa [le2s, hsz] using HO.out, (Below.refl _ _).alloc (by rw [hsz]; exact Nat.le_refl _) _, by simp [hsz], rfl⟩
  case round =>
    obtain ⟨j, A, cc, hj, rfl, rfl, hown, hBr, hsz, hall⟩ := hrel
    have Hall := hid hall
    have hn2 := hid (show IsNode wr _ _ _ from (hBr.block _ (by omega)).trans HN.out)
    clear hall
    by_cases hj16 : j < 240
    · have hjL := hid (show j < L.length by rw [hl.out]; exact hj16)
      have hx : L[j]? = some (L[j]'hjL.out) := List.getElem?_eq_getElem _
      have hs := hid (show (L.take (j + 1)).all ptrOk = ptrOk (L[j]'hjL.out) by rw [List.take_succ_eq_append_getElem hjL.out, List.all_append, Hall.out]; simp)
      have hst := hid (le2s_take L j hjL.out)
      have hf := hid (fun h : ptrOk (L[j]'hjL.out) = false => (show q = false by
        rw [← Hq.out, ← Bool.not_eq_true, List.all_eq_true]
        intro h2
        have := h2 _ (List.getElem_mem hjL.out)
        rw [h] at this
        cases this))
      generalize L[j]'hjL.out = p at *
      have hc0 := hn2.out.cell j _ hx
      have HB := hid (HB1.out.trans (hBr.mono (by omega)))
      by_cases h0 : p < 0
      · clear hown hBr hx hs hst
        go_wp2
        go_ret
        exact ⟨none, 0, 0, rfl, .inr ⟨hf.out (by unfold ptrOk; simp; omega), rfl, rfl, rfl⟩, HB.out⟩
      by_cases h1 : 3839 < p
      · clear hown hBr hx hs hst
        go_wp2
        go_ret
        exact ⟨none, 0, 0, rfl, .inr ⟨hf.out (by unfold ptrOk; simp; omega), rfl, rfl, rfl⟩, HB.out⟩
      · obtain ⟨p, rfl⟩ : ∃ p' : Nat, p = (p' : Int) := ⟨p.toNat, by omega⟩
        have hb2 : [.int .u8 (IntKind.u8.wrap ((p : Int).tmod 256)), .int .u8 (IntKind.u8.wrap (IntKind.i64.wrap ((p : Int) / 256)))] = (le 2 p).map byteV := by
          rw [← two_bytes p (by omega), u8mod p, u8quo p (by omega)]
        have hc : ∀ W, Below (w.heap.size + 1) wr W → W.cell? ⟨w.heap.size, j, none⟩ = some (.int .i64 (p : Int)) := fun W hW => (show IsNode W _ _ _ from (hW.block _ (by omega)).trans hn2.out).cell _ _ hx
        have hlj : (le2s (L.take j)).length = 2 * j := by rw [le2s_length, List.length_take]; have := hjL.out; omega
        obtain ⟨A', c', w3, hap, hown3, hB3⟩ := append_run elemU8 27 (n := 2 * j) (m := 2) (c2 := 2) (w := (wr.alloc (.cells #[.int .u8 (IntKind.u8.wrap ((p : Int).tmod 256)), .int .u8 (IntKind.u8.wrap (IntKind.i64.wrap ((p : Int) / 256)))] 5)).drew) (hown.keep (((Below.refl _ _).alloc (Nat.le_refl _) _).drew)) (by rw [List.length_map, hlj]) ((IsRow.alloc_new wr #[.int .u8 (IntKind.u8.wrap ((p : Int).tmod 256)), .int .u8 (IntKind.u8.wrap (IntKind.i64.wrap ((p : Int) / 256)))] 5 (0, 0) [.int .u8 (IntKind.u8.wrap ((p : Int).tmod 256)), .int .u8 (IntKind.u8.wrap (IntKind.i64.wrap ((p : Int) / 256)))] rfl).below (Below.refl _ _).drew) rfl (by intro u hu; simp at hu; rcases hu with rfl | rfl <;> rfl) (by omega) (by omega) (by simp; omega)
        have H3 := hid (show Own 5 (w.heap.size + 1) w3 A' c' ((le2s (L.take (j + 1))).map byteV) by
          rw [hst.out, List.map_append, Int.toNat_natCast, ← hb2]
          exact hown3)
        have e1 : Below (w.heap.size + 1) wr (wr.alloc (.cells #[.int .u8 (IntKind.u8.wrap ((p : Int).tmod 256)), .int .u8 (IntKind.u8.wrap (IntKind.i64.wrap ((p : Int) / 256)))] 5)).drew := ((Below.refl _ wr).alloc hsz _).drew
        have HB3 := hid (e1.trans hB3)
        have Hsz3 := hid (show w.heap.size + 1 ≤ w3.heap.size by have := e1.size; have := hB3.size; omega)
        have HBw := hid (hBr.trans HB3.out)
        have hal := hid (show (L.take (j + 1)).all ptrOk = true by rw [hs.out]; unfold ptrOk; simp; omega)
        clear hx hb2 hown hBr hown3 hB3 hst hn2 hlj hs hf
        go_wp2
        refine wp_region_noPanic ?_
        refine wp_region_held_drew (S := (fun W => Below (w.heap.size + 1) wr W)) (by kernel_rfl) (Below.refl _ _).drew (fun hS0 => ?_)
        refine take_at (i := 0) (v := ?v0) rfl (by kernel_rfl) (by kernel_rfl) (by kernel_rfl) (fun _ _ _ h => h) hS0 (by rfl) ?h0 ?r0
        case h0 => (intro W hSW; (try dsimp only at hSW); go_simp; (try with_reducible rfl))
        try simp only [Act.put, List.setIfInBounds_toArray, List.set_cons_zero, List.set_cons_succ]
        refine take_at (i := 1) (v := ?v1) rfl (by kernel_rfl) (by kernel_rfl) (by kernel_rfl) (fun _ _ _ h => h) hS0 (by rfl) ?h1 ?r1
        case h1 => (intro W hSW; (try dsimp only at hSW); go_simp; (try with_reducible rfl))
        try simp only [Act.put, List.setIfInBounds_toArray, List.set_cons_zero, List.set_cons_succ]
        refine take_at (i := 2) (v := ?v2) rfl (by kernel_rfl) (by kernel_rfl) (by kernel_rfl) (fun _ _ _ h => h) hS0 (by rfl) ?h2 ?r2
        case h2 => (intro W hSW; (try dsimp only at hSW); go_simp; (try with_reducible rfl))
        try simp only [Act.put, List.setIfInBounds_toArray, List.set_cons_zero, List.set_cons_succ]
        refine take_at (i := 3) (v := ?v3) rfl (by kernel_rfl) (by kernel_rfl) (by kernel_rfl) (fun _ _ _ h => h) hS0 (by rfl) ?h3 ?r3
        case h3 => (intro W hSW; (try dsimp only at hSW); go_simp; (try with_reducible rfl))
        try simp only [Act.put, List.setIfInBounds_toArray, List.set_cons_zero, List.set_cons_succ]
        refine take_at (i := 4) (v := ?v4) rfl (by kernel_rfl) (by kernel_rfl) (by kernel_rfl) (fun _ _ _ h => h) hS0 (by rfl) ?h4 ?r4
        case h4 => (intro W hSW; (try dsimp only at hSW); go_simp; (try with_reducible rfl))
        try simp only [Act.put, List.setIfInBounds_toArray, List.set_cons_zero, List.set_cons_succ]
        refine take_at (i := 5) (v := ?v5) rfl (by kernel_rfl) (by kernel_rfl) (by kernel_rfl) (fun _ _ _ h => h) hS0 (by rfl) ?h5 ?r5
        case h5 => (intro W hSW; (try dsimp only at hSW); go_simp; (try with_reducible rfl))
        try simp only [Act.put, List.setIfInBounds_toArray, List.set_cons_zero, List.set_cons_succ]
        refine take_at (i := 6) (v := ?v6) rfl (by kernel_rfl) (by kernel_rfl) (by kernel_rfl) (fun _ _ _ h => h) hS0 (by rfl) ?h6 ?r6
        case h6 => (intro W hSW; (try dsimp only at hSW); go_simp; (try with_reducible rfl))
        try simp only [Act.put, List.setIfInBounds_toArray, List.set_cons_zero, List.set_cons_succ]
        refine take_at (i := 7) (v := ?v7) rfl (by kernel_rfl) (by kernel_rfl) (by kernel_rfl) (fun _ _ _ h => h) hS0 (by rfl) ?h7 ?r7
        case h7 => (intro W hSW; (try dsimp only at hSW); go_simp; (try with_reducible rfl))
        try simp only [Act.put, List.setIfInBounds_toArray, List.set_cons_zero, List.set_cons_succ]
        refine take_at (i := 8) (v := ?v8) rfl (by kernel_rfl) (by kernel_rfl) (by kernel_rfl) (fun _ _ _ h => h) hS0 (by rfl) ?h8 ?r8
        case h8 => (intro W hSW; (try dsimp only at hSW); go_simp; (try with_reducible rfl))
        try simp only [Act.put, List.setIfInBounds_toArray, List.set_cons_zero, List.set_cons_succ]
        refine take_at (i := 9) (v := ?v9) rfl (by kernel_rfl) (by kernel_rfl) (by kernel_rfl) (fun _ _ _ h => h) hS0 (by rfl) ?h9 ?r9
        case h9 => (intro W hSW; (try dsimp only at hSW); go_simp; (try with_reducible rfl))
        try simp only [Act.put, List.setIfInBounds_toArray, List.set_cons_zero, List.set_cons_succ]
        refine take_at (i := 10) (v := ?v10) rfl (by kernel_rfl) (by kernel_rfl) (by kernel_rfl) (fun _ _ _ h => h) hS0 (by rfl) ?h10 ?r10
        case h10 => (intro W hSW; (try dsimp only at hSW); go_simp; (try with_reducible rfl))
        try simp only [Act.put, List.setIfInBounds_toArray, List.set_cons_zero, List.set_cons_succ]
        refine ready_at (i := 11) rfl (by kernel_rfl) (fun K hK => ?_)
        go_simp
        refine hK.out _ _ e1 (fun hS1 => ?_)
        clear hK K
        try simp only [Act.put, List.setIfInBounds_toArray, List.set_cons_zero, List.set_cons_succ]
        refine ready_at (i := 12) rfl (by kernel_rfl) (fun K hK => ?_)
        refine step_append_run (.tmp 20) (.tmp 31) hap rfl rfl rfl rfl ?_
        refine hK.out _ _ HB3.out (fun hS2 => ?_)
        clear hK K
        try simp only [Act.put, List.setIfInBounds_toArray, List.set_cons_zero, List.set_cons_succ]
        refine ready_at (i := 13) rfl (by kernel_rfl) (fun K hK => ?_)
        go_simp
        refine hK.out _ _ HB3.out (fun hS3 => ?_)
        clear hK K
        try simp only [Act.put, List.setIfInBounds_toArray, List.set_cons_zero, List.set_cons_succ]
        refine wpAnyH_done (by kernel_rfl) ?_ _
        refine NoPanic.normal ?_
        go_wp2
        go_roundw
        case rel => exact ⟨j + 1, A', c', by omega, by go_num, by go_num, H3.out, HBw.out, Hsz3.out, hal.out⟩
        case measure => simp [intOf]; omega
    · obtain rfl : j = 240 := by omega
      have htk : L.take 240 = L := List.take_of_length_le (by rw [hl.out]; exact Nat.le_refl _)
      rw [htk] at hown Hall
      have HO2 := hid (hown.mono (base' := w.heap.size) (by omega))
      have HB := hid (HB1.out.trans (hBr.mono (by omega)))
      clear hown hBr
      go_wp2
      go_ret
      exact ⟨A, 480, cc, rfl, .inl ⟨by rw [← Hq.out]; exact Hall.out, rfl, HO2.out⟩, HB.out⟩
end Go.Proofs.Ytmjknaldpeoheaa
