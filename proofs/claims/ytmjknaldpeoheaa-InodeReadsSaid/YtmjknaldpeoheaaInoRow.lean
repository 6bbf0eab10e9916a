/- The walks of rows of blocks: EncodeRow, DecodeRow. -/
import Derived.Test.YtmjknaldpeoheaaIno5
import Derived.Test.YtmjknaldpeoheaaZero
import Derived.Test.YtmjknaldpeoheaaHeld
namespace Go.Proofs.Ytmjknaldpeoheaa
open Go.RowKit O
set_option linter.unusedVariables false

@[irreducible] def zeroL : List Int := List.replicate 240 0
theorem zeroL_length : zeroL.length = 240 := by
  unfold zeroL
  exact List.length_replicate ..
theorem zero43 : (Try.prog.info? 43).map (·.zero) = some (some (.agg (nodeC zeroL))) := by kernel_rfl
theorem size43 : (Try.prog.info? 43).map (·.size) = some 240 := by kernel_rfl
theorem info43 {L : List Int} (h : L.length = 240) : (Try.prog.info? 43).map (·.size) = some L.length := by rw [h]; exact size43
theorem built43 : Try.prog.built 43 [] = some (nodeC zeroL) := by kernel_rfl
theorem guard43 : Try.prog.eqGuardType Try.prog.depth 43 = false := by kernel_rfl
theorem eq_row {L M : List Int} (hL : L.length = 240) (hM : M.length = 240) (w : World) : (Op.equalIn 10000 43 (.agg (nodeC L)) (.agg (nodeC M))).run Try.prog w = .ok (decide (L = M)) w :=
  eq_ints 9998 Try.underlying43 Try.underlying3 info3.choose_spec.1 (by kernel_rfl) w L M hL hM
theorem all_bd {L : List Int} (h : L.all ptrOk = true) : ∀ p ∈ L, 0 ≤ p ∧ p ≤ 3839 := by
  intro p hp
  have := List.all_eq_true.1 h p hp
  unfold ptrOk at this
  rw [decide_eq_true_iff] at this
  omega

theorem encrow_no (L : List Int) (hL : L.length = 240) (h : L.all ptrOk = false) (w : World) :
    Calls Try.prog 23 #[.agg (nodeC L)] w fun e w' => e = .returned (.tuple #[.slice none 0 0, .int .i64 1]) ∧ Below w.heap.size w w' := by
  have HN := hid (IsNode.new w 43 L)
  have hl := hid hL
  have H := hid h
  clear hL h
  go_enter Try.func23, Try.ntmps23
  go_wp2_with fail
  refine (pointers_any L 240 hl.out (by omega) _ _ _ (HN.out.nums 0 240 L (by rw [List.drop_zero, List.take_of_length_le (by rw [hl.out]; exact Nat.le_refl _)]))).mono ?_
  rintro e w1 ⟨rfl, rfl⟩
  rw [H.out]
  go_wp2
  go_ret2
  exact ⟨rfl, below1 _ _⟩
theorem encrow_yes (L : List Int) (hL : L.length = 240) (h : L.all ptrOk = true) (w : World) :
    Calls Try.prog 23 #[.agg (nodeC L)] w fun e w' => ∃ A c, e = .returned (.tuple #[.slice A 480 c, .int .i64 0]) ∧ Own 5 w.heap.size w' A c ((le2s L).map byteV) ∧ Below w.heap.size w w' := by
  have HN := hid (IsNode.new w 43 L)
  have hl := hid hL
  have H := hid h
  clear hL h
  go_enter Try.func23, Try.ntmps23
  go_wp2_with fail
  refine (pointers_any L 240 hl.out (by omega) _ _ _ (HN.out.nums 0 240 L (by rw [List.drop_zero, List.take_of_length_le (by rw [hl.out]; exact Nat.le_refl _)]))).mono ?_
  rintro e w1 ⟨rfl, rfl⟩
  rw [H.out]
  go_wp2_with fail
  refine (putI_any [] 0 rfl L 240 hl.out (by omega) (by omega) (fun p hp => by have := all_bd H.out p hp; omega) _ _ _ (IsBytes.nil _ _) _ _ (HN.out.nums 0 240 L (by rw [List.drop_zero, List.take_of_length_le (by rw [hl.out]; exact Nat.le_refl _)]))).mono ?_
  rintro e w1 ⟨A, c, rfl, -, hown, hB⟩
  have HO := hid ((hown (by omega)).mono (base' := w.heap.size) (by simp))
  have HB := hid ((below1 w _).trans (hB.mono (by simp)))
  clear hown hB
  go_wp2
  go_ret2
  exact ⟨A, c, rfl, HO.out, HB.out⟩

def rowOk (l : List UInt8) : Bool := decide (l.length = 480) && (nums2 l 240).all ptrOk
def rowN (l : List UInt8) : List Int := if rowOk l then nums2 l 240 else zeroL
def rowE (l : List UInt8) : Int := if rowOk l then 0 else 4
theorem rowN_length (l : List UInt8) : (rowN l).length = 240 := by
  unfold rowN
  split
  · exact nums2_length _ _
  · exact zeroL_length
theorem row_no {l : List UInt8} (h : rowOk l = false) : rowN l = zeroL ∧ rowE l = 4 := by unfold rowN rowE; rw [h]; exact ⟨rfl, rfl⟩
theorem row_yes {l : List UInt8} (h : rowOk l = true) : rowN l = nums2 l 240 ∧ rowE l = 0 := by unfold rowN rowE; rw [h]; exact ⟨rfl, rfl⟩
theorem over_all (N vs : List Int) (h : N.length = vs.length) : over N 0 vs = vs := by
  unfold over
  rw [List.drop_of_length_le (by omega)]
  simp

theorem decrow_short (l : List UInt8) (n : Nat) (hnl : l.length = n) (hn : n ≠ 480) (w : World) (a : Option Addr) (c : Nat) :
    Calls Try.prog 21 #[.slice a n c] w fun e w' => e = .returned (.tuple #[.agg (nodeC (rowN l)), .int .i64 (rowE l)]) ∧ Below w.heap.size w w' := by
  obtain ⟨e1, e2⟩ := row_no (l := l) (by unfold rowOk; rw [decide_eq_false (show ¬ l.length = 480 by omega)]; rfl)
  rw [e1, e2]
  clear e1 e2 hnl
  have hn' : ((n : Int) != 480) = true := by simp; omega
  have hinf := hid (info43 zeroL_length)
  clear hn
  go_enter Try.func21, Try.ntmps21
  go_wp2_with (first
    | (refine wpList_alloc_ints (w := w) rfl rfl zero43 ?_; intro w1 hN hB hS; have HN1 := hid hN; have HB1 := hid hB; have HS1 := hid hS; clear hN hB hS)
    | (refine wpList_alloc_ints (w := w1) rfl rfl zero43 ?_; intro w2 hN hB hS; have HN2 := hid hN; have HN3 := hid (HN1.out.below hB); have HB2 := hid (HB1.out.trans (hB.mono HB1.out.size)); clear hN hB hS)
    | (refine wpList_load_ints rfl 43 (.tmp 4) rfl w1.heap.size 0 rfl zeroL _ HN2.out.range Try.underlying43 rfl hinf.out ?_)
    | (refine wpList_store_node rfl 43 _ _ rfl w.heap.size zeroL (nodeL zeroL) 43 rfl rfl HN3.out (nodeL_length _) hinf.out ?_; intro w3 hN hK hS; have HN := hid hN; have HB := hid (HB2.out.trans (hK.below _ (Nat.le_refl _) HB2.out.size)); clear hN hK hS))
  have hld := loadVar_node (P := Try.prog) (T := 43) HN.out Try.underlying43 rfl hinf.out
  exact bodyPost_ret (v := .tuple #[.agg (nodeC zeroL), .int .i64 4]) (results_cell Try.results21 rfl rfl hld) rfl ⟨rfl, HB.out⟩

theorem decrow_full (l : List UInt8) (hnl : l.length = 480) (w : World) (a : Option Addr) (c : Nat) (hb : IsBytes w a l) :
    Calls Try.prog 21 #[.slice a 480 c] w fun e w' => e = .returned (.tuple #[.agg (nodeC (rowN l)), .int .i64 (rowE l)]) ∧ Below w.heap.size w w' := by
  have hlen := hid hnl
  have Hb := hid hb
  have hinf := hid (info43 zeroL_length)
  clear hnl hb
  go_enter Try.func21, Try.ntmps21
  go_wp2_with (first
    | (refine wpList_alloc_ints (w := w) rfl rfl zero43 ?_; intro w1 hN hB hS; have HN1 := hid hN; have HB1 := hid hB; have HS1 := hid hS; clear hN hB hS)
    | (refine wpList_alloc_ints (w := w1) rfl rfl zero43 ?_; intro w2 hN hB hS; rw [HS1.out] at hN hS; have HN2 := hid hN; have HS2 := hid hS; have HN3 := hid (HN1.out.below hB); have HB2 := hid (HB1.out.trans (hB.mono HB1.out.size)); rw [HS1.out]; clear hN hB hS))
  refine wp_region_noPanic ?_
  refine wp_region_held_drew (S := (fun W => Below w.heap.size w W)) (by kernel_rfl) HB2.out.drew (fun hS0 => ?_)
  refine take_at (i := 0) (v := ?v0) rfl (by kernel_rfl) (by kernel_rfl) (by kernel_rfl) (fun _ _ _ h => h) hS0 (by rfl) ?h0 ?r0
  case h0 => (intro W hSW; (try dsimp only at hSW); go_simp; (try with_reducible rfl))
  try simp only [Act.put, List.setIfInBounds_toArray, List.set_cons_zero, List.set_cons_succ]
  refine take_at (i := 2) (v := ?v2) rfl (by kernel_rfl) (by kernel_rfl) (by kernel_rfl) (fun _ _ _ h => h) hS0 (by rfl) ?h2 ?r2
  case h2 => (intro W hSW; (try dsimp only at hSW); go_simp; (try with_reducible rfl))
  try simp only [Act.put, List.setIfInBounds_toArray, List.set_cons_zero, List.set_cons_succ]
  refine ready_at (i := 1) rfl (by kernel_rfl) (fun K hK => ?_)
  go_simp
  refine (read_any l 480 hlen.out _ _ _ (by omega) (Hb.out.below HB2.out.drew)).mono ?_
  rintro e w3 ⟨r, rfl, hr1, hr2, hB⟩
  have hr1' : w2.heap.size ≤ r := by simpa using hr1
  have HN4 := hid (show IsNode w3 w.heap.size _ _ from (HN3.out.below (Below.refl _ _).drew).below hB)
  have HN5 := hid (show IsNode w3 (w.heap.size + 1) _ _ from (HN2.out.below (Below.refl _ _).drew).below hB)
  have HB3 := hid (HB2.out.drew.trans (hB.mono HB2.out.drew.size))
  have HR := hid hr2
  have Hfar := hid (show w.heap.size + 2 ≤ r by have := HS2.out; omega)
  clear hr1 hr1' hr2 hB
  go_wp2_with fail
  refine hK.out _ _ HB3.out (fun hS1 => ?_)
  clear hK K
  try simp only [Act.put, List.setIfInBounds_toArray, List.set_cons_zero, List.set_cons_succ]
  refine ready_at (i := 3) rfl (by kernel_rfl) (fun K hK => ?_)
  go_simp
  refine (takeI_any l false r (w.heap.size + 1) 0 240 43 zeroL (by rw [hlen.out]; omega) (by rw [zeroL_length]; omega) (by omega) (by have := Hfar.out; omega) _ (by omega) w3 HR.out HN5.out).mono ?_
  rintro e w4 ⟨rfl, hr, hN, hS, hk, hB⟩
  rw [over_all _ _ (by rw [zeroL_length, nums2_length])] at hN
  have HN := hid hN
  have HN6 := hid (show IsNode w4 w.heap.size _ _ from (hk _ HN4.out.lt (by have := Hfar.out; omega) (by omega)).trans HN4.out)
  have HB4 := hid (HB3.out.trans (hB w.heap.size (by have := Hfar.out; omega) (by omega) HB3.out.size))
  clear hr hN hS hk hB
  go_wp2_with fail
  refine hK.out _ _ HB4.out (fun hS2 => ?_)
  clear hK K
  try simp only [Act.put, List.setIfInBounds_toArray, List.set_cons_zero, List.set_cons_succ]
  refine wpAnyH_done (by kernel_rfl) ?_ _
  refine NoPanic.normal ?_
  clear HN1 HN2 HN3 HN4 HN5 HB2 HB3 HR Hfar HS1 HS2 HB1
  have hok : rowOk l = (nums2 l 240).all ptrOk := by
    unfold rowOk
    rw [decide_eq_true hlen.out, Bool.true_and]
  have Hinf2 := hid (info43 (nums2_length l 240))
  go_wp2_with fail
  refine (pointers_any (nums2 l 240) 240 (nums2_length _ _) (by omega) _ _ _ (HN.out.nums 0 240 _ (by rw [List.drop_zero, List.take_of_length_le (by rw [nums2_length]; exact Nat.le_refl _)]))).mono ?_
  rintro e w5 ⟨rfl, rfl⟩
  rw [← hok]
  rcases hq : rowOk l with _ | _
  · obtain ⟨e1, e2⟩ := row_no hq
    have E1 := hid e1
    have E2 := hid e2
    clear e1 e2 hq hok Hinf2
    go_wp2_with (first
      | (refine wpList_exec _ rfl (exec_build_ints rfl built43) ?_)
      | (refine wpList_store_node rfl 43 _ _ rfl w.heap.size zeroL (nodeL zeroL) 43 rfl rfl HN6.out (nodeL_length _) hinf.out ?_; intro w6 hN hK hS; have HN7 := hid hN; have HB := hid (HB4.out.trans (hK.below _ (Nat.le_refl _) HB4.out.size)); clear hN hK hS))
    have hld := loadVar_node (P := Try.prog) (T := 43) HN7.out Try.underlying43 rfl hinf.out
    exact bodyPost_ret (v := .tuple #[.agg (nodeC zeroL), .int .i64 4]) (results_cell Try.results21 rfl rfl hld) rfl ⟨by rw [E1.out, E2.out], HB.out⟩
  · obtain ⟨e1, e2⟩ := row_yes hq
    have E2 := hid e2
    have hnl := hid (nums2_length l 240)
    clear e2 hq hok
    obtain ⟨L, hL⟩ : ∃ L, L = nums2 l 240 := ⟨_, rfl⟩
    rw [← hL] at HN Hinf2 hnl e1
    have E1 := hid e1
    clear hL e1
    go_wp2_with (first
      | (refine wpList_load_ints rfl 43 (.tmp 4) rfl (w.heap.size + 1) 0 rfl L _ HN.out.range Try.underlying43 rfl Hinf2.out ?_)
      | (refine wpList_store_node rfl 43 _ _ rfl w.heap.size L (nodeL zeroL) 43 rfl rfl HN6.out (by rw [nodeL_length, hnl.out, zeroL_length]) Hinf2.out ?_; intro w6 hN hK hS; have HN7 := hid hN; have HB := hid (HB4.out.trans (hK.below _ (Nat.le_refl _) HB4.out.size)); clear hN hK hS))
    have hld := loadVar_node (P := Try.prog) (T := 43) HN7.out Try.underlying43 rfl Hinf2.out
    exact bodyPost_ret (v := .tuple #[.agg (nodeC L), .int .i64 0]) (results_cell Try.results21 rfl rfl hld) rfl ⟨by rw [E1.out, E2.out], HB.out⟩

theorem decrow_any (l : List UInt8) (n : Nat) (hnl : l.length = n) (w : World) (a : Option Addr) (c : Nat) (hb : IsBytes w a l) :
    Calls Try.prog 21 #[.slice a n c] w fun e w' => e = .returned (.tuple #[.agg (nodeC (rowN l)), .int .i64 (rowE l)]) ∧ Below w.heap.size w w' := by
  by_cases h : n = 480
  · subst h
    exact decrow_full l hnl w a c hb
  · exact decrow_short l n hnl h w a c
end Go.Proofs.Ytmjknaldpeoheaa
