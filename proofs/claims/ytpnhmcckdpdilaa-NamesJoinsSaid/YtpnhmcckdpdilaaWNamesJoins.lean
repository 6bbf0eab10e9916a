/- The walk of NamesJoins. -/
import Derived.Test.YtpnhmcckdpdilaaRefS
import Derived.Test.YtpnhmcckdpdilaaHeld
namespace Go.Proofs.Ytpnhmcckdpdilaa
open Go.RowKit
set_option linter.unusedVariables false

theorem cut_snoc {L : List (List UInt8)} {j : Nat} (h : j < L.length) : (L.take (j + 1)).map (·.take 40) = (L.take j).map (·.take 40) ++ [L[j].take 40] := by
  rw [← List.take_append_getElem h, List.map_append]
  rfl
theorem joinR_cases (X : List (List UInt8)) : (joinR X = [] ∧ splitR (joinR X) = none) ∨ ((joinR X == []) = false ∧ splitR (joinR X) = some X) := by
  by_cases h0 : X = []
  · subst h0
    exact .inr ⟨rfl, rfl⟩
  · by_cases h : X.all nm = true ∧ (jpath X).length ≤ 1000
    · refine .inr ⟨?_, split_join h.1 h.2⟩
      unfold joinR
      rw [if_neg h0, h.1, decide_eq_true h.2, Bool.true_and, if_pos rfl]
      match X, h0 with
      | x :: X, _ => rfl
    · have e : joinR X = [] := by
        unfold joinR
        rw [if_neg h0, if_neg]
        rw [Bool.and_eq_true, decide_eq_true_eq]
        exact h
      refine .inl ⟨e, ?_⟩
      rw [e]
      rfl

set_option maxRecDepth 20000 in
set_option maxHeartbeats 4000000 in
theorem walk_NamesJoins (w : World) (a : Option Addr) (L : List (List UInt8)) (c : Nat) (hb : IsRow w a (L.map strV)) (hlc : L.length ≤ c) (hc : c ≤ maxLen) (hw : ∀ x ∈ L, x.length ≤ maxLen) :
   
    Calls Try.prog 4 #[.slice a L.length c] w fun e w' => e = .returned (.bool true) ∧ Below w.heap.size w w' := by
  unfold maxLen at hc
  clear hw
  obtain ⟨n, hn⟩ : ∃ n, n = L.length := ⟨_, rfl⟩
  rw [← hn] at hlc
  rw [← hn]
  have Hn := hid hn
  have Hb := hid hb
  clear hn hb
  go_enter Try.func4, Try.ntmps4
  go_wp2_with fail
  refine (shown_any w).mono ?_
  rintro e w1 ⟨rfl, hB⟩
  have HB := hid hB
  clear hB
  go_wp2_with fail
  go_loopw [4, 5] (fun o i wr => ∃ (j : Nat) (A : Option Addr) (cc : Nat), j ≤ n ∧ j ≤ 60 ∧ i = .int .i64 j ∧ o = .slice A j cc ∧ Own 9 w.heap.size wr A cc (((L.take j).map (·.take 40)).map strV) ∧ Below w.heap.size w wr) (fun _ i _ => n - (intOf i).toNat)
  case atStart => exact ⟨0, none, 0, by omega, by omega, rfl, rfl, Own.nothing, HB.out⟩
  case round =>
    obtain ⟨j, A, cc, hj, hj6, rfl, rfl, hown, hB⟩ := hrel
    have HO := hid hown
    have HB := hid hB
    clear hown hB
    rcases (show (j < n ∧ j < 60) ∨ (n ≤ j) ∨ (j < n ∧ 60 ≤ j) by omega) with ⟨hjn, hj60⟩ | h
    · · have hjl : j < L.length := by have := Hn.out; omega
        obtain ⟨b, off, ha, hcell⟩ := Hb.out
        obtain rfl := ha (by intro h; have := congrArg List.length h; simp at this; rw [this] at hjl; simp at hjl)
        have hc0 := hcell j (by simpa using hjl)
        rw [List.getElem_map] at hc0
        obtain ⟨x, hx⟩ : ∃ x, x = L[j]'hjl := ⟨_, rfl⟩
        rw [← hx] at hc0
        have Hx := hid hx
        have hc' : w.cell? ⟨b, off + j, none⟩ = some (.string ⟨x.toArray⟩) := hc0
        clear hcell ha hx hc0
        have hx2 := str_min x 40 40 rfl
        have hsn := cut_snoc hjl
        rw [← Hx.out] at hsn
        obtain ⟨y, hy⟩ : ∃ y, y = x.take 40 := ⟨_, rfl⟩
        rw [← hy] at hx2 hsn
        have Hsn := hid hsn
        clear hsn hy
        have hk : ∀ W, Below w.heap.size w W → W.cell? ⟨b, off + j, none⟩ = some (.string ⟨x.toArray⟩) := fun W h => (h.cell (p := ⟨b, off + j, none⟩) (World.block_lt_of_cell? w _ hc')).trans hc'
        have hO2 := HO.out.keep (((Below.refl wr.heap.size wr).drew).alloc (Nat.le_refl _) (.cells #[.string ⟨y.toArray⟩] 9))
        obtain ⟨A', c', w3, hap, hown3, hB3⟩ := append_run elemStr 23 (n := j) (m := 1) (c2 := 1) (w := wr.drew.alloc (.cells #[.string ⟨y.toArray⟩] 9)) hO2 (by rw [List.length_map, List.length_map, List.length_take, ← Hn.out]; omega) (IsRow.alloc_new wr.drew #[.string ⟨y.toArray⟩] 9 (0, 0) [.string ⟨y.toArray⟩] rfl) rfl (by intro u hu; simp at hu; subst hu; rfl) (by omega) (by omega) (by simp; have := HB.out.size; omega)
        have H3 := hid (show Own 9 w.heap.size w3 A' c' (((L.take (j + 1)).map (·.take 40)).map strV) by
          rw [Hsn.out, List.map_append, List.map_singleton]
          exact hown3)
        have HB3 := hid ((HB.out.drew.alloc HB.out.size (.cells #[.string ⟨y.toArray⟩] 9)).trans hB3)
        have HK := hid hk
        clear hO2 hown3 hB3 hk hc'
        have hcr := HK.out wr HB.out
        have hi0 : (0 : Int) ≤ (j : Int) := by omega
        have hi1 : (j : Int) < (n : Int) := by omega
        have hm0 : (0 : Int) ≤ min (x.length : Int) 40 := by omega
        have hm1 : min (x.length : Int) 40 ≤ (x.length : Int) := by omega
        go_wp2_with fail
        refine wp_region_noPanic ?_
        refine wp_region_held_drew (S := (fun W => W.cell? ⟨b, off + j, none⟩ = some (.string ⟨x.toArray⟩))) (by kernel_rfl) (HK.out wr.drew HB.out.drew) (fun hS0 => ?_)
        refine take_at (i := 0) (v := ?v0) rfl (by kernel_rfl) (by kernel_rfl) (by kernel_rfl) (fun _ _ _ h => h) hS0 (by rfl) ?h0 ?r0
        case h0 => (intro W hSW; (try dsimp only at hSW); go_simp; (try with_reducible rfl))
        try simp only [Act.put, List.setIfInBounds_toArray, List.set_cons_zero, List.set_cons_succ]
        refine take_at (i := 1) (v := ?v1) rfl (by kernel_rfl) (by kernel_rfl) (by kernel_rfl) (fun _ _ _ h => h) hS0 (by rfl) ?h1 ?r1
        case h1 => (intro W hSW; (try dsimp only at hSW); go_simp; (try with_reducible rfl))
        try simp only [Act.put, List.setIfInBounds_toArray, List.set_cons_zero, List.set_cons_succ]
        refine take_at (i := 2) (v := ?v2) rfl (by kernel_rfl) (by kernel_rfl) (by kernel_rfl) (fun _ _ _ h => h) hS0 (by rfl) ?h2 ?r2
        case h2 => (intro W hSW; (try dsimp only at hSW); go_simp; (try with_reducible rfl))
        try simp only [Act.put, List.setIfInBounds_toArray, List.set_cons_zero, List.set_cons_succ]
        refine take_at (i := 3) (v := ?v3) rfl (by kernel_rfl) (by kernel_rfl) (by kernel_rfl) (fun _ _ _ h => h) hS0 (by rfl) ?h3 ?r3
        case h3 => (intro W hSW; (try dsimp only at hSW); go_simp; (try with_reducible rfl))
        try simp only [Act.put, List.setIfInBounds_toArray, List.set_cons_zero, List.set_cons_succ]
        refine take_at (i := 4) (v := ?v4) rfl (by kernel_rfl) (by kernel_rfl) (by kernel_rfl) (fun _ _ _ h => h) hS0 (by rfl) ?h4 ?r4
        case h4 => (intro W hSW; (try dsimp only at hSW); go_simp; (try with_reducible rfl))
        try simp only [Act.put, List.setIfInBounds_toArray, List.set_cons_zero, List.set_cons_succ]
        refine take_at (i := 5) (v := ?v5) rfl (by kernel_rfl) (by kernel_rfl) (by kernel_rfl) (fun _ _ _ h => h) hS0 (by rfl) ?h5 ?r5
        case h5 => (intro W hSW; (try dsimp only at hSW); go_simp; (try with_reducible rfl))
        try simp only [Act.put, List.setIfInBounds_toArray, List.set_cons_zero, List.set_cons_succ]
        refine take_at (i := 6) (v := ?v6) rfl (by kernel_rfl) (by kernel_rfl) (by kernel_rfl) (fun _ _ _ h => h) hS0 (by rfl) ?h6 ?r6
        case h6 => (intro W hSW; (try dsimp only at hSW); go_simp; (try with_reducible rfl))
        try simp only [Act.put, List.setIfInBounds_toArray, List.set_cons_zero, List.set_cons_succ]
        refine take_at (i := 7) (v := ?v7) rfl (by kernel_rfl) (by kernel_rfl) (by kernel_rfl) (fun _ _ _ h => h) hS0 (by rfl) ?h7 ?r7
        case h7 => (intro W hSW; (try dsimp only at hSW); go_simp; (try with_reducible rfl))
        try simp only [Act.put, List.setIfInBounds_toArray, List.set_cons_zero, List.set_cons_succ]
        refine take_at (i := 8) (v := ?v8) rfl (by kernel_rfl) (by kernel_rfl) (by kernel_rfl) (fun _ _ _ h => h) hS0 (by rfl) ?h8 ?r8
        case h8 => (intro W hSW; (try dsimp only at hSW); go_simp; (try with_reducible rfl))
        try simp only [Act.put, List.setIfInBounds_toArray, List.set_cons_zero, List.set_cons_succ]
        refine take_at (i := 9) (v := ?v9) rfl (by kernel_rfl) (by kernel_rfl) (by kernel_rfl) (fun _ _ _ h => h) hS0 (by rfl) ?h9 ?r9
        case h9 => (intro W hSW; (try dsimp only at hSW); go_simp; (try with_reducible rfl))
        try simp only [Act.put, List.setIfInBounds_toArray, List.set_cons_zero, List.set_cons_succ]
        refine take_at (i := 10) (v := ?v10) rfl (by kernel_rfl) (by kernel_rfl) (by kernel_rfl) (fun _ _ _ h => h) hS0 (by rfl) ?h10 ?r10
        case h10 => (intro W hSW; (try dsimp only at hSW); go_simp; (try with_reducible rfl))
        try simp only [Act.put, List.setIfInBounds_toArray, List.set_cons_zero, List.set_cons_succ]
        refine take_at (i := 11) (v := ?v11) rfl (by kernel_rfl) (by kernel_rfl) (by kernel_rfl) (fun _ _ _ h => h) hS0 (by rfl) ?h11 ?r11
        case h11 => (intro W hSW; (try dsimp only at hSW); go_simp; (try with_reducible rfl))
        try simp only [Act.put, List.setIfInBounds_toArray, List.set_cons_zero, List.set_cons_succ]
        refine ready_at (i := 12) rfl (by kernel_rfl) (fun K hK => ?_)
        go_simp
        refine hK.out _ _ (HK.out (wr.drew.alloc (.cells #[.string ⟨y.toArray⟩] 9)) (HB.out.drew.alloc HB.out.size _)) (fun hS1 => ?_)
        clear hK K
        try simp only [Act.put, List.setIfInBounds_toArray, List.set_cons_zero, List.set_cons_succ]
        refine ready_at (i := 13) rfl (by kernel_rfl) (fun K hK => ?_)
        refine step_append_run (.tmp 20) (.tmp 32) hap rfl rfl rfl rfl ?_
        refine hK.out _ _ (HK.out w3 HB3.out) (fun hS2 => ?_)
        clear hK K
        try simp only [Act.put, List.setIfInBounds_toArray, List.set_cons_zero, List.set_cons_succ]
        refine take_at (i := 14) (v := ?v14) rfl (by kernel_rfl) (by kernel_rfl) (by kernel_rfl) (fun _ _ _ h => h) hS2 (by rfl) ?h14 ?r14
        case h14 => (intro W hSW; (try dsimp only at hSW); go_simp; (try with_reducible rfl))
        try simp only [Act.put, List.setIfInBounds_toArray, List.set_cons_zero, List.set_cons_succ]
        refine wpAnyH_done (by kernel_rfl) ?_ _
        refine NoPanic.normal ?_
        go_wp2
        go_roundw
        case rel => exact ⟨j + 1, A', c', by omega, by omega, by go_num, rfl, H3.out, HB3.out⟩
        case measure => simp [intOf] <;> omega
    · have hXl : ((L.take j).map (·.take 40)).length = j := by rw [List.length_map, List.length_take, ← Hn.out]; omega
      have h40 : ∀ x ∈ (L.take j).map (·.take 40), x.length ≤ 9223372036854775806 := by
        intro x hx
        obtain ⟨y, _, rfl⟩ := List.mem_map.1 hx
        rw [List.length_take]
        omega
      generalize (L.take j).map (·.take 40) = X at *
      have HXl := hid hXl
      have H40 := hid h40
      clear hXl h40
      have hcase := joinR_cases X
      obtain ⟨J, hJ⟩ : ∃ J, joinR X = J := ⟨_, rfl⟩
      rw [hJ] at hcase
      have HJ := hid hJ
      clear hJ
      rcases hcase with ⟨rfl, hs⟩ | ⟨hne, hs⟩
      · have Hs := hid hs
        clear hs
        rcases h with h | ⟨h, h'⟩
        all_goals
          go_wp2_with fail
          refine (join_is HXl.out HJ.out _ _ _ HO.out.row).mono ?_
          rintro e w2 ⟨rfl, hB⟩
          have HO2 := hid (HO.out.keep hB)
          have HB2 := hid (HB.out.trans (hB.mono HB.out.size))
          clear hB
          go_wp2_with fail
          refine (split_no Hs.out _).mono ?_
          rintro e w3 ⟨rfl, hB⟩
          have HO3 := hid (HO2.out.keep hB)
          have HB3 := hid (HB2.out.trans (hB.mono HB2.out.size))
          clear hB
          go_wp2_with fail
          refine (refjoin_is HXl.out HJ.out H40.out (by omega) _ _ _ HO3.out.row).mono ?_
          rintro e w4 ⟨rfl, hB⟩
          have HB4 := hid (HB3.out.trans (hB.mono HB3.out.size))
          clear hB
          go_wp2_with fail
          go_ret
          exact ⟨rfl, HB4.out⟩
      · have Hs := hid hs
        clear hs
        have hne' : (!J.isEmpty) = true := by
          cases J
          · cases hne
          · rfl
        rcases h with h | ⟨h, h'⟩
        all_goals
          go_wp2_with fail
          refine (join_is HXl.out HJ.out _ _ _ HO.out.row).mono ?_
          rintro e w2 ⟨rfl, hB⟩
          have HO2 := hid (HO.out.keep hB)
          have HB2 := hid (HB.out.trans (hB.mono HB.out.size))
          clear hB
          go_wp2_with fail
          refine (split_yes Hs.out HXl.out _).mono ?_
          rintro e w3 ⟨a3, c3, rfl, hr, hB⟩
          have HO3 := hid (HO2.out.keep hB)
          have HB3 := hid (HB2.out.trans (hB.mono HB2.out.size))
          have HR3 := hid hr
          clear hB hr
          go_wp2_with fail
          refine (refjoin_is HXl.out HJ.out H40.out (by omega) _ _ _ HO3.out.row).mono ?_
          rintro e w4 ⟨rfl, hB⟩
          have HO4 := hid (HO3.out.keep hB)
          have HR4 := hid (HR3.out.below hB)
          have HB4 := hid (HB3.out.trans (hB.mono HB3.out.size))
          clear hB
          go_wp2_with fail
          refine (same_is (b := true) HXl.out HXl.out (by simp) _ _ _ _ _ HR4.out HO4.out.row (by omega)).mono ?_
          rintro e w5 ⟨rfl, hB⟩
          have HB5 := hid (HB4.out.trans (hB.mono HB4.out.size))
          clear hB
          go_wp2_with fail
          go_ret
          exact ⟨rfl, HB5.out⟩
end Go.Proofs.Ytpnhmcckdpdilaa
