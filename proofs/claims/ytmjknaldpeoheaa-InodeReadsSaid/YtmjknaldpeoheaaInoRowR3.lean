/- The walk of the document's reading of rows (harrowref13): DecodeRow. -/
import Derived.Test.YtmjknaldpeoheaaInoRowR2
namespace Go.Proofs.Ytmjknaldpeoheaa
open Go.RowKit O
set_option linter.unusedVariables false

theorem nums2_mem (l : List UInt8) (j : Nat) : ∀ n, j < n → ((num ((l.drop (2 * j)).take 2) : Nat) : Int) ∈ nums2 l n
  | 0, h => by omega
  | n + 1, h => by
    rw [nums2_snoc, List.mem_append]
    rcases Nat.lt_or_ge j n with h1 | h1
    · exact .inl (nums2_mem l j n h1)
    · obtain rfl : j = n := by omega
      exact .inr (by simp)
theorem row_bad {l : List UInt8} {j x : Nat} (hj : j < 240) (hx : num ((l.drop (2 * j)).take 2) = x) (h : 3839 < x) : rowOk l = false := by
  have h1 : (nums2 l 240).all ptrOk = false := by
    rw [← Bool.not_eq_true, List.all_eq_true]
    intro h2
    have := h2 _ (nums2_mem l j 240 hj)
    rw [hx] at this
    unfold ptrOk at this
    rw [decide_eq_true_iff] at this
    omega
  unfold rowOk
  rw [h1, Bool.and_false]

theorem refdecrow_short (l : List UInt8) (n : Nat) (hnl : l.length = n) (hn : n ≠ 480) (w : World) (a : Option Addr) (c : Nat) :
    Calls Try.prog 22 #[.slice a n c] w fun e w' => e = .returned (.tuple #[.agg (nodeC (rowN l)), .bool (rowOk l)]) ∧ Below w.heap.size w w' := by
  have hok : rowOk l = false := by unfold rowOk; rw [decide_eq_false (show ¬ l.length = 480 by omega)]; rfl
  obtain ⟨e1, -⟩ := row_no hok
  rw [e1, hok]
  clear e1 hok hnl
  have hn' : ((n : Int) != 480) = true := by simp; omega
  have hinf := hid (info43 zeroL_length)
  clear hn
  go_enter Try.func22, Try.ntmps22
  go_wp2_with (first
    | (refine wpList_alloc_ints (w := w) rfl rfl zero43 ?_; intro w1 hN hB hS; have HN1 := hid hN; have HB1 := hid hB; clear hN hB hS)
    | (refine wpList_alloc_ints (w := w1) rfl rfl zero43 ?_; intro w2 hN hB hS; have HN2 := hid (HN1.out.below hB); have HB2 := hid (HB1.out.trans (hB.mono HB1.out.size)); clear hN hB hS)
    | (refine wpList_alloc_ints (w := w2) rfl rfl zero43 ?_; intro w3 hN hB hS; have HM := hid hN; have HN3 := hid (HN2.out.below hB); have HB3 := hid (HB2.out.trans (hB.mono HB2.out.size)); clear hN hB hS)
    | (refine wpList_load_ints rfl 43 (.tmp 5) rfl w2.heap.size 0 rfl zeroL _ HM.out.range Try.underlying43 rfl hinf.out ?_)
    | (refine wpList_store_node rfl 43 _ _ rfl w.heap.size zeroL (nodeL zeroL) 43 rfl rfl HN3.out (nodeL_length _) hinf.out ?_; intro w4 hN hK hS; have HN := hid hN; have HB := hid (HB3.out.trans (hK.below _ (Nat.le_refl _) HB3.out.size)); clear hN hK hS))
  have hld := loadVar_node (P := Try.prog) (T := 43) HN.out Try.underlying43 rfl hinf.out
  exact bodyPost_ret (v := .tuple #[.agg (nodeC zeroL), .bool false]) (results_cell Try.results22 rfl rfl hld) rfl ⟨rfl, HB.out⟩

set_option maxHeartbeats 2000000 in
set_option maxRecDepth 20000 in
theorem refdecrow_full (l : List UInt8) (hnl : l.length = 480) (w : World) (a : Option Addr) (c : Nat) (hb : IsBytes w a l) (q : Bool) (hq : rowOk l = q) (N : List Int) (hN : rowN l = N) :
    Calls Try.prog 22 #[.slice a 480 c] w fun e w' => e = .returned (.tuple #[.agg (nodeC N), .bool q]) ∧ Below w.heap.size w w' := by
  have hl := hid hnl
  have Hb := hid hb
  have Hq := hid hq
  have HNl := hid hN
  have hinf := hid (info43 zeroL_length)
  clear hnl hb hq hN
  go_enter Try.func22, Try.ntmps22
  go_wp2_with (first
    | (refine wpList_alloc_ints (w := w) rfl rfl zero43 ?_; intro w1 hN hB hS; have HN1 := hid hN; have HB1 := hid hB; have HS1 := hid hS; clear hN hB hS)
    | (refine wpList_alloc_ints (w := w1) rfl rfl zero43 ?_; intro w2 hN hB hS; rw [HS1.out] at hN hS; have HN2 := hid (HN1.out.below hB); have HL2 := hid hN; have HS2 := hid hS; have HB2 := hid (HB1.out.trans (hB.mono HB1.out.size)); rw [HS1.out]; clear hN hB hS)
    | (refine wpList_alloc_ints (w := w2) rfl rfl zero43 ?_; intro w3 hN hB hS; rw [HS2.out] at hN; have HM := hid hN; have HN3 := hid (HN2.out.below hB); have HL3 := hid (HL2.out.below hB); have HB3 := hid (HB2.out.trans (hB.mono HB2.out.size)); rw [HS2.out]; clear hN hB hS))
  have HS3 := hid HM.out.lt
  go_loopw [6] (fun i wr => ∃ (j : Nat), j ≤ 240 ∧ i = .int .i64 j ∧ IsNode wr w.heap.size 43 zeroL ∧ IsNode wr (w.heap.size + 1) 43 (over zeroL 0 (nums2 l j)) ∧ IsNode wr (w.heap.size + 1 + 1) 43 zeroL ∧ Below w.heap.size w wr ∧ (nums2 l j).all ptrOk = true) (fun i _ => 240 - (intOf i).toNat)
  case atStart => exact ⟨0, by omega, rfl, HN3.out, by rw [nums2, over_nil]; exact HL3.out, HM.out, HB3.out, rfl⟩
  case round =>
    obtain ⟨j, hj, rfl, hN, hL, hM, hBr, hall⟩ := hrel
    have HN := hid hN
    have HL := hid hL
    have HM := hid hM
    have HB := hid hBr
    have Hall := hid hall
    clear hN hL hM hBr hall
    by_cases hj16 : j < 240
    · obtain ⟨m, hm⟩ : ∃ m, 2 * j = m := ⟨_, rfl⟩
      have hm' : 2 * (j : Int) = (m : Int) := by omega
      have hm2 : m < 479 := by omega
      have hx2 := num2_lt (l.drop m)
      have hsn := hid (nums2_snoc l j)
      have hbad := hid (fun (x : Nat) (hx : num ((l.drop (2 * j)).take 2) = x) => row_bad hj16 hx)
      have hfl := hid (show (over zeroL 0 (nums2 l j)).length = 240 by rw [over_length _ _ _ (by rw [zeroL_length, nums2_length]; omega), zeroL_length])
      rw [hm] at hsn hbad
      obtain ⟨x, hx⟩ : ∃ x, num ((l.drop m).take 2) = x := ⟨_, rfl⟩
      rw [hx] at hsn hx2
      have Hbad := hid (hbad.out x hx)
      have hst := hid (show (over zeroL 0 (nums2 l j)).set j (x : Int) = over zeroL 0 (nums2 l (j + 1)) by
        have := over_snoc zeroL 0 (nums2 l j) (x : Int) (by rw [nums2_length, zeroL_length]; omega)
        rw [Nat.zero_add, nums2_length] at this
        rw [this, hsn.out])
      have Hx := hid hx
      have Hm := hid hm2
      clear hm hx hbad hm2
      go_wp2_with fail
      refine (two_any l hl.out _ _ _ (Hb.out.below HB.out) m Hm.out (x : Int) (by rw [Hx.out])).mono ?_
      rintro e w5 ⟨rfl, hB⟩
      have HN5 := hid (HN.out.below hB)
      have HM5 := hid (HM.out.below hB)
      have hl5 := HL.out.below hB
      obtain ⟨u, hu⟩ : ∃ u, (over zeroL 0 (nums2 l j))[j]? = some u := ⟨_, List.getElem?_eq_getElem (by rw [hfl.out]; exact hj16)⟩
      have hcu := hl5.cell j _ hu
      have hfu := hl5.free j
      have HL6 := hid (hl5.setC j (x : Int))
      have hc6 := HL6.out.cell j (x : Int) (by rw [List.getElem?_set_self (by rw [hfl.out]; exact hj16)])
      have HN6 := hid (HN5.out.kept (Kept.setCell w5 j (.int .i64 (x : Int))) (by exact Nat.ne_of_lt (Nat.lt_succ_self _)) : IsNode (w5.setCell ⟨w.heap.size + 1, j, none⟩ (.int .i64 (x : Int))) w.heap.size 43 zeroL)
      have HM6 := hid (HM5.out.kept (Kept.setCell w5 j (.int .i64 (x : Int))) (by exact Nat.ne_of_gt (Nat.lt_succ_self _)) : IsNode (w5.setCell ⟨w.heap.size + 1, j, none⟩ (.int .i64 (x : Int))) (w.heap.size + 1 + 1) 43 zeroL)
      have HB6 := hid ((HB.out.trans (hB.mono HB.out.size)).setCell (p := ⟨w.heap.size + 1, j, none⟩) (Nat.le_succ _) (.int .i64 (x : Int)))
      rw [hst.out] at HL6
      clear hB hl5 hu hm' hst
      by_cases hxb : 3839 < x
      · have hq := Hbad.out hxb
        have E1 := hid (show q = false from Hq.out.symm.trans hq)
        have E2 := hid (show N = zeroL from HNl.out.symm.trans (row_no hq).1)
        clear hq
        go_wp2_with (first
          | (refine wpList_load_ints rfl 43 (.tmp 5) rfl (w.heap.size + 1 + 1) 0 rfl zeroL _ HM6.out.range Try.underlying43 rfl hinf.out ?_)
          | (refine wpList_store_node rfl 43 _ _ rfl w.heap.size zeroL (nodeL zeroL) 43 rfl rfl HN6.out (nodeL_length _) hinf.out ?_; intro w7 hN hK hS; have HN7 := hid hN; have HB7 := hid (HB6.out.trans (hK.below _ (Nat.le_refl _) HB6.out.size)); clear hN hK hS))
        have hld := loadVar_node (P := Try.prog) (T := 43) HN7.out Try.underlying43 rfl hinf.out
        exact bodyPost_ret (v := .tuple #[.agg (nodeC zeroL), .bool false]) (results_cell Try.results22 rfl rfl hld) rfl ⟨by rw [E1.out, E2.out], HB7.out⟩
      · have hal := hid (show (nums2 l (j + 1)).all ptrOk = true by rw [hsn.out, List.all_append, Hall.out]; unfold ptrOk; simp; omega)
        go_wp2
        go_roundw
        case rel => exact ⟨j + 1, by omega, by go_num, HN6.out, HL6.out, HM6.out, HB6.out, hal.out⟩
        case measure => simp [intOf]; omega
    · obtain rfl : j = 240 := by omega
      have hq : rowOk l = true := by unfold rowOk; rw [Hall.out, decide_eq_true hl.out]; rfl
      have E1 := hid (show q = true from Hq.out.symm.trans hq)
      have E2 := hid (show N = nums2 l 240 from HNl.out.symm.trans (row_yes hq).1)
      have hL := HL.out
      rw [over_all _ _ (by rw [zeroL_length, nums2_length])] at hL
      have hlen := hid (nums2_length l 240)
      obtain ⟨L, hLe⟩ : ∃ L, L = nums2 l 240 := ⟨_, rfl⟩
      rw [← hLe] at hL E2 hlen
      have HL5 := hid hL
      have hinfL := hid (info43 hlen.out)
      clear hq hL hLe HL
      go_wp2_with (first
        | (refine wpList_load_ints rfl 43 (.tmp 4) rfl (w.heap.size + 1) 0 rfl L _ HL5.out.range Try.underlying43 rfl hinfL.out ?_)
        | (refine wpList_store_node rfl 43 _ _ rfl w.heap.size L (nodeL zeroL) 43 rfl rfl HN.out (by rw [nodeL_length, zeroL_length, hlen.out]) hinfL.out ?_; intro w7 hN hK hS; have HN7 := hid hN; have HB7 := hid (HB.out.trans (hK.below _ (Nat.le_refl _) HB.out.size)); clear hN hK hS))
      have hld := loadVar_node (P := Try.prog) (T := 43) HN7.out Try.underlying43 rfl hinfL.out
      exact bodyPost_ret (v := .tuple #[.agg (nodeC L), .bool true]) (results_cell Try.results22 rfl rfl hld) rfl ⟨by rw [E1.out, E2.out], HB7.out⟩
theorem refdecrow_any (l : List UInt8) (n : Nat) (hnl : l.length = n) (w : World) (a : Option Addr) (c : Nat) (hb : IsBytes w a l) :
    Calls Try.prog 22 #[.slice a n c] w fun e w' => e = .returned (.tuple #[.agg (nodeC (rowN l)), .bool (rowOk l)]) ∧ Below w.heap.size w w' := by
  by_cases h : n = 480
  · subst h
    exact refdecrow_full l hnl w a c hb _ rfl _ rfl
  · exact refdecrow_short l n hnl h w a c
end Go.Proofs.Ytmjknaldpeoheaa
