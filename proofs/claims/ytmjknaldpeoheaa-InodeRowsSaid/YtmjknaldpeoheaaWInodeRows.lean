/- The walk of InodeRows. -/
import Derived.Test.YtmjknaldpeoheaaInoRowM
import Derived.Test.YtmjknaldpeoheaaInoRowR
import Derived.Test.YtmjknaldpeoheaaWInodeBlocks
import Derived.Test.YtmjknaldpeoheaaShown
import Derived.Test.YtmjknaldpeoheaaNodeEq
namespace Go.Proofs.Ytmjknaldpeoheaa
open Go.RowKit O
set_option linter.unusedVariables false

/-- A row's bytes tell the row. -/
theorem row_back {L : List Int} (hL : L.length = 240) (h : L.all ptrOk = true) : rowN (le2s L) = L ∧ rowE (le2s L) = 0 := by
  have e : nums2 (le2s L) 240 = L := by
    have := nums2_le2s L (fun p hp => by have := all_bd h p hp; omega) []
    rwa [List.append_nil, hL] at this
  have hok : rowOk (le2s L) = true := by
    unfold rowOk
    rw [e, h, decide_eq_true (by rw [le2s_length, hL])]
    rfl
  obtain ⟨h1, h2⟩ := row_yes hok
  exact ⟨h1.trans e, h2⟩
theorem rowN_nil : rowN [] = zeroL ∧ rowE [] = 4 := row_no (by unfold rowOk; rw [decide_eq_false (by simp)]; rfl)
theorem fit_len (P : List Int) (j : Nat) (h : j ≤ 240) : (over zeroL 0 (P.take j)).length = 240 := by
  rw [over_length _ _ _ (by rw [zeroL_length, List.length_take]; omega), zeroL_length]

set_option maxHeartbeats 10000000 in
set_option maxRecDepth 20000 in
theorem walk_InodeRows (w : World) (a : Option Addr) (P : List Int) (c : Nat) (hP : IsNums .i64 w a P) (hPc : P.length ≤ c) (hcm : c ≤ maxLen ∧ ∀ x ∈ P, (Lit.int .i64 x).wf = true) :
    Calls Try.prog 10 #[.slice a P.length c] w fun e w' => e = .returned (.bool true) ∧ Below w.heap.size w w' := by
  obtain ⟨n, hn⟩ : ∃ n, P.length = n := ⟨_, rfl⟩
  rw [hn] at hPc ⊢
  have hPl := hid hn
  have hn2 : n ≤ 9223372036854775807 := by have := hcm.1; simp only [maxLen] at this; omega
  clear hn hPc hcm
  go_enter Try.func10, Try.ntmps10
  go_wp2_with fail
  refine (shown_any _).mono ?_
  rintro e w1 ⟨rfl, hB⟩
  have HB := hid hB
  have HP := hid hP
  clear hB hP
  go_wp2_with (first
    | (refine wpList_alloc_ints (w := w1) rfl rfl zero43 ?_; intro w2 hN hB hS; have HN := hid hN; have HB2 := hid (HB.out.trans (hB.mono HB.out.size)); clear hN hB hS))
  go_loopw [5] (fun i wr => ∃ (j : Nat), j ≤ n ∧ j ≤ 240 ∧ i = .int .i64 j ∧ IsNode wr w1.heap.size 43 (over zeroL 0 (P.take j)) ∧ Below w.heap.size w wr) (fun i _ => 240 - (intOf i).toNat)
  case atStart => exact ⟨0, by omega, by omega, rfl, by rw [List.take_zero, over_nil]; exact HN.out, HB2.out⟩
  case round =>
    obtain ⟨j, hjn, hj, rfl, hN, hBr⟩ := hrel
    have HNr := hid hN
    have HBr := hid hBr
    have hfl := hid (fit_len P j hj)
    by_cases hgo : j < n ∧ j < 240
    · obtain ⟨h1, h2⟩ := hgo
      have hjP := hid (show j < P.length by rw [hPl.out]; exact h1)
      obtain ⟨b, off, ha, hcell⟩ := HP.out.below hBr
      obtain rfl := ha (by intro h; have := hjP.out; rw [h] at this; simp at this)
      have hc0 := hcell j hjP.out
      have hst := hid (show (over zeroL 0 (P.take j)).set j (P[j]'hjP.out) = over zeroL 0 (P.take (j + 1)) by
        have := over_snoc zeroL 0 (P.take j) (P[j]'hjP.out) (by rw [List.length_take, zeroL_length]; have := hjP.out; omega)
        rw [Nat.zero_add, List.length_take, Nat.min_eq_left (Nat.le_of_lt hjP.out)] at this
        rw [this, List.take_succ_eq_append_getElem hjP.out])
      obtain ⟨u, hu⟩ : ∃ u, (over zeroL 0 (P.take j))[j]? = some u := ⟨_, List.getElem?_eq_getElem (by rw [hfl.out]; exact h2)⟩
      have hcu := hN.cell j _ hu
      have hfu := hN.free j
      have HC := hid hcell
      clear hN hBr hcell hu ha
      generalize P[j]'hjP.out = p at *
      clear HC
      go_wp2
      go_roundw
      case rel =>
        refine ⟨j + 1, by omega, by omega, by go_num, ?_, HBr.out.setCell (p := ⟨w1.heap.size, j, none⟩) HB.out.size _⟩
        rw [← hst.out]
        exact HNr.out.setC j p
      case measure => simp [intOf]; omega
    · obtain ⟨L, hL⟩ : ∃ L, L = over zeroL 0 (P.take j) := ⟨_, rfl⟩
      rw [← hL] at HNr hfl
      have hinf := hid (info43 zeroL_length)
      have hinfL := hid (info43 hfl.out)
      clear hN hBr hL
      rcases (show ¬ j < n ∨ (j < n ∧ ¬ j < 240) by omega) with h1 | ⟨h1, h2⟩
      all_goals
        go_wp2_with (refine wpList_load_ints rfl 43 (.tmp 4) rfl w1.heap.size 0 rfl L _ HNr.out.range Try.underlying43 rfl hinfL.out ?_)
        rcases hq : L.all ptrOk with _ | _
        · refine (encrow_no L hfl.out hq _).mono ?_
          rintro e w3 ⟨rfl, hB⟩
          have HN3 := hid (HNr.out.below hB)
          have HB3 := hid (HBr.out.trans (hB.mono HBr.out.size))
          clear hB
          go_wp2_with (refine wpList_load_ints rfl 43 (.tmp 4) rfl w1.heap.size 0 rfl L _ HN3.out.range Try.underlying43 rfl hinfL.out ?_)
          refine (refencrow_any L hfl.out false hq _).mono ?_
          rintro e w4 ⟨A, n', c', rfl, hcase, hB⟩
          rcases hcase with ⟨h, -⟩ | ⟨-, rfl, rfl, rfl⟩
          · cases h
          have HB4 := hid (HB3.out.trans (hB.mono HB3.out.size))
          have hs0 := fun (W : World) => str_any (l := []) (n := 0) (c := 0) rfl (IsBytes.nil W none)
          clear hB hq
          go_wp2_with fail
          refine (decrow_any [] 0 rfl _ _ _ (IsBytes.nil _ _)).mono ?_
          rintro e w5 ⟨rfl, hB⟩
          rw [rowN_nil.1, rowN_nil.2]
          have HB5 := hid (HB4.out.trans (hB.mono HB4.out.size))
          clear hB hs0
          go_wp2_with (first
            | (refine wpList_alloc_ints (w := w5) rfl rfl zero43 ?_; intro w6 hN hB hS; have HN6 := hid hN; have HB6 := hid hB; clear hN hB hS)
            | (refine wpList_store_node rfl 43 _ _ rfl w5.heap.size zeroL (nodeL zeroL) 43 rfl rfl HN6.out (nodeL_length _) hinf.out ?_; intro w7 hN hK hS; have HB7 := hid (HB6.out.trans (hK.below _ (Nat.le_refl _) HB6.out.size)); clear hN hK hS))
          go_ret
          exact ⟨rfl, HB5.out.trans (HB7.out.mono HB5.out.size)⟩
        · have Hq := hid hq
          refine (encrow_yes L hfl.out hq _).mono ?_
          rintro e w3 ⟨A, cc, rfl, hown, hB⟩
          have HN3 := hid (HNr.out.below hB)
          have HB3 := hid (HBr.out.trans (hB.mono HBr.out.size))
          have hb3 := hid hown.row.bytes
          clear hB hown
          go_wp2_with (refine wpList_load_ints rfl 43 (.tmp 4) rfl w1.heap.size 0 rfl L _ HN3.out.range Try.underlying43 rfl hinfL.out ?_)
          refine (refencrow_any L hfl.out true hq _).mono ?_
          rintro e w4 ⟨A2, n', c', rfl, hcase, hB⟩
          rcases hcase with ⟨-, rfl, hown2⟩ | ⟨h, -⟩
          rotate_left
          · cases h
          have HB4 := hid (HB3.out.trans (hB.mono HB3.out.size))
          have HN4 := hid (HN3.out.below hB)
          have hb4 := hid (hb3.out.below hB)
          have hlen := hid (show (le2s L).length = 480 by rw [le2s_length, hfl.out])
          have hs1 := str_any (c := cc) hlen.out hb4.out
          have hs2 := str_any (c := c') hlen.out hown2.row.bytes
          obtain ⟨X, hX⟩ : ∃ X, le2s L = X := ⟨_, rfl⟩
          have hbk := row_back hfl.out hq
          rw [hX] at hs1 hs2 hlen hb4 hbk
          have Hbk := hid hbk
          clear hB hq hX hown2 hbk
          go_wp2_with fail
          refine (decrow_any X 480 hlen.out _ _ _ hb4.out).mono ?_
          rintro e w5 ⟨rfl, hB⟩
          rw [Hbk.out.1, Hbk.out.2]
          have HB5 := hid (HB4.out.trans (hB.mono HB4.out.size))
          have HN5 := hid (HN4.out.below hB)
          clear hB hs1 hs2
          go_wp2_with (first
            | (refine wpList_alloc_ints (w := w5) rfl rfl zero43 ?_; intro w6 hN hB hS; have HN6 := hid hN; have HB6 := hid hB; clear hN hB hS)
            | (refine wpList_store_node rfl 43 _ _ rfl w5.heap.size L (nodeL zeroL) 43 rfl rfl HN6.out (by rw [nodeL_length, zeroL_length, hfl.out]) hinfL.out ?_; intro w7 hN hK hS; have HM := hid hN; have HB7 := hid (HB6.out.trans (hK.below _ (Nat.le_refl _) HB6.out.size)); have HN7 := hid (HN5.out.below HB7.out); clear hN hK hS)
            | (refine wpList_load_intsG rfl 43 (.tmp 9) rfl w5.heap.size 0 rfl L _ HM.out.range Try.underlying43 rfl hinfL.out ?_)
            | (refine wpList_load_intsG rfl 43 (.tmp 4) rfl w1.heap.size 0 rfl L _ HN7.out.range Try.underlying43 rfl hinfL.out ?_)
            | (refine wpList_exec _ rfl (exec_eql (.tmp 73) (.tmp 74) rfl rfl rfl guard43 (eq_row hfl.out hfl.out _)) ?_))
          go_ret
          exact ⟨ret_bool (by simp), HB5.out.trans (HB7.out.mono HB5.out.size)⟩
end Go.Proofs.Ytmjknaldpeoheaa
