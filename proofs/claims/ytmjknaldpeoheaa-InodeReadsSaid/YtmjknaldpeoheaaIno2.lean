/- The walks of package inode: put, Encode, EncodeRow. -/
import Derived.Test.YtmjknaldpeoheaaIno
namespace Go.Proofs.Ytmjknaldpeoheaa
open Go.RowKit O
set_option linter.unusedVariables false

theorem le2s_take (D : List Int) (j : Nat) (h : j < D.length) : le2s (D.take (j + 1)) = le2s (D.take j) ++ le 2 D[j].toNat := by
  rw [List.take_succ_eq_append_getElem h, le2s_append]
  simp [le2s]

theorem putI_any (l : List UInt8) (n : Nat) (hnl : l.length = n) (D : List Int) (m : Nat) (hm : D.length = m) (hm2 : m ≤ 70000) (hn : n ≤ 70000) (hD : ∀ p ∈ D, 0 ≤ p ∧ p ≤ 65535) (w : World) (a : Option Addr) (c : Nat) (hb : IsBytes w a l) (a2 : Option Addr) (c2 : Nat) (hb2 : IsNums .i64 w a2 D) :
    Calls Try.prog 26 #[.slice a n c, .slice a2 m c2] w fun e w' => ∃ A c', e = .returned (.slice A (n + 2 * m) c') ∧ IsBytes w' A (l ++ le2s D) ∧ (0 < m → Own 5 w.heap.size w' A c' ((l ++ le2s D).map byteV)) ∧ Below w.heap.size w w' := by
  subst hm
  have HD := hid hD
  have Hb2 := hid hb2
  have Hb := hid hb
  clear hD hb2 hb
  go_enter Try.func26, Try.ntmps26
  go_wp2
  go_loopw [0, 9] (fun v i wr => ∃ (j : Nat) (A : Option Addr) (cc : Nat), j ≤ D.length ∧ i = .int .i64 j ∧ v = .slice A (n + 2 * j) cc ∧ IsBytes wr A (l ++ le2s (D.take j)) ∧ (0 < j → Own 5 w.heap.size wr A cc ((l ++ le2s (D.take j)).map byteV)) ∧ Below w.heap.size w wr) (fun _ i _ => D.length - (intOf i).toNat)
  case atStart => exact ⟨0, a, c, by omega, rfl, rfl, by simpa [le2s] using Hb.out, fun h => by omega, Below.refl _ _⟩
  case round =>
    obtain ⟨j, A, cc, hj, rfl, rfl, hA, hown, hBr⟩ := hrel
    have HA := hid hA
    have Hown := hid hown
    have HB := hid hBr
    clear hA hown hBr
    by_cases hjm : j < D.length
    · obtain ⟨b1, o1, e1, g1⟩ := Hb2.out.below HB.out
      obtain rfl := e1 (by rintro rfl; simp at hjm)
      have g1' := g1 j hjm
      obtain ⟨hp0, hp1⟩ := HD.out _ (List.getElem_mem hjm)
      have hs := hid (le2s_take D j hjm)
      have hlen := hid (show (l ++ le2s (D.take j)).length = n + 2 * j by rw [List.length_append, le2s_length, hnl, List.length_take, Nat.min_eq_left hj])
      obtain ⟨x, hx⟩ : ∃ x : Nat, D[j] = (x : Int) := ⟨D[j].toNat, by omega⟩
      rw [hx] at g1' hp0 hp1 hs
      rw [Int.toNat_natCast] at hs
      clear e1 g1 hx
      go_wp2_with fail
      refine (put_val hlen.out (by omega) HA.out 2 x (by omega) (l ++ le2s (D.take (j + 1))) (n + 2 * (j + 1)) (by rw [hs.out, List.append_assoc]; rfl) (by rw [hs.out, ← List.append_assoc, List.length_append, hlen.out, le_length]; omega)).mono ?_
      rintro e w3 ⟨A1, c1, rfl, -, hown, hB⟩
      have HB3 := hid (HB.out.trans (hB.mono HB.out.size))
      have HO := hid (hown.mono HB.out.size)
      clear hown hB
      go_wp2
      go_roundw
      case rel => exact ⟨j + 1, A1, c1, by omega, by go_num, rfl, HO.out.row.bytes, fun _ => HO.out, HB3.out⟩
      case measure => simp [intOf]; omega
    · obtain rfl : j = D.length := by omega
      rw [List.take_length] at HA Hown
      go_wp2
      go_ret
      exact ⟨A, cc, rfl, HA.out, Hown.out, HB.out⟩

theorem right_bd {k l s r : Int} {D : List Int} (h : right k l s D r = true) : (k = 1 ∨ k = 2) ∧ (0 ≤ l ∧ l ≤ 65535) ∧ (0 ≤ s ∧ s ≤ 122880) ∧ (∀ p ∈ D, 0 ≤ p ∧ p ≤ 3839) ∧ (0 ≤ r ∧ r ≤ 3839) ∧ (16 < blk s ∨ r = 0) ∧ emptyFrom (blk s) D = true := by
  unfold right at h
  simp only [Bool.and_eq_true, Bool.or_eq_true, beq_iff_eq, decide_eq_true_eq, List.all_eq_true] at h
  obtain ⟨⟨⟨⟨⟨⟨h1, h2⟩, h3⟩, h4⟩, h5⟩, h6⟩, h7⟩ := h
  refine ⟨h1, h2, h3, fun p hp => ?_, ?_, h6, h7⟩
  · have := h4 p hp
    simp [ptrOk] at this
    omega
  · simp [ptrOk] at h5
    omega

theorem encode_no (k l s : Int) (D : List Int) (r : Int) (hD : D.length = 16) (hr : right k l s D r = false) (w : World) :
    Calls Try.prog 13 #[.agg (nodeC (nd k l s D r))] w fun e w' => e = .returned (.tuple #[.slice none 0 0, .int .i64 1]) ∧ Below w.heap.size w w' := by
  have hinf := hid (show (Try.prog.info? 24).map (·.size) = some (nd k l s D r).length by rw [nd_length _ _ _ _ _ hD]; kernel_rfl)
  have HN := hid (IsNode.new w 24 (nd k l s D r))
  go_enter Try.func13, Try.ntmps13
  go_wp2_with (refine wpList_load_ints rfl 24 _ rfl w.heap.size 0 rfl (nd k l s D r) _ HN.out.range Try.underlying24 rfl hinf.out ?_)
  refine (right_any k l s D r hD _).mono ?_
  rintro e w1 ⟨rfl, hB⟩
  rw [hr]
  have HB := hid ((below1 w _).trans (hB.mono (by simp)))
  clear hB
  go_wp2
  go_ret2
  exact ⟨rfl, HB.out⟩

theorem encode_yes (k l s : Int) (D : List Int) (r : Int) (hD : D.length = 16) (hr : right k l s D r = true) (w : World) :
    Calls Try.prog 13 #[.agg (nodeC (nd k l s D r))] w fun e w' => ∃ A c, e = .returned (.tuple #[.slice A 480 c, .int .i64 0]) ∧ Own 5 w.heap.size w' A c ((enc k l s D r).map byteV) ∧ Below w.heap.size w w' := by
  have hinf := hid (show (Try.prog.info? 24).map (·.size) = some (nd k l s D r).length by rw [nd_length _ _ _ _ _ hD]; kernel_rfl)
  have HN := hid (IsNode.new w 24 (nd k l s D r))
  obtain ⟨hk, hl, hs, hDb, hrb, -, -⟩ := right_bd hr
  obtain ⟨k', rfl⟩ : ∃ k' : Nat, k = (k' : Int) := ⟨k.toNat, by omega⟩
  obtain ⟨l', rfl⟩ : ∃ l' : Nat, l = (l' : Int) := ⟨l.toNat, by omega⟩
  obtain ⟨s', rfl⟩ : ∃ s' : Nat, s = (s' : Int) := ⟨s.toNat, by omega⟩
  have hk0 : (0 : Int) ≤ (k' : Int) ∧ (k' : Int) ≤ 2 := by omega
  have HDb := hid hDb
  have Hr := hid hr
  have hdl := hid hD
  clear hk hDb hr hD
  go_enter Try.func13, Try.ntmps13
  go_wp2_with (refine wpList_load_ints rfl 24 _ rfl w.heap.size 0 rfl (nd k' l' s' D r) _ HN.out.range Try.underlying24 rfl hinf.out ?_)
  refine (right_any k' l' s' D r hdl.out _).mono ?_
  rintro e w1 ⟨rfl, hB⟩
  rw [Hr.out]
  have hn := hid (HN.out.below hB)
  have HB := hid ((below1 w _).trans (hB.mono (by simp)))
  have g0 := hn.out.cell 0 _ (nd0 _ _ _ _ _)
  clear hB HN hinf
  go_wp2_with fail
  refine (put_val (l := []) (n := 0) rfl (by omega) (IsBytes.nil _ _) 1 k' (by omega) (le 1 k') 1 rfl (le_length _ _)).mono ?_
  rintro e w2 ⟨A1, c1, rfl, -, hown, hB⟩
  replace hn := hid (hn.out.below hB)
  replace HB := hid (HB.out.trans (hB.mono HB.out.size))
  have hb := hid hown.row.bytes
  clear hB hown g0
  have g1 := hn.out.cell 1 _ (nd1 _ _ _ _ _)
  go_wp2_with fail
  refine (put_val (l := le 1 k') (n := 1) (le_length _ _) (by omega) hb.out 2 l' (by omega) (le 1 k' ++ le 2 l') 3 rfl (by simp [le_length])).mono ?_
  rintro e w3 ⟨A2, c2, rfl, -, hown, hB⟩
  replace hn := hid (hn.out.below hB)
  replace HB := hid (HB.out.trans (hB.mono HB.out.size))
  replace hb := hid hown.row.bytes
  clear hB hown g1
  have g2 := hn.out.cell 2 _ (nd2 _ _ _ _ _)
  go_wp2_with fail
  refine (put_val (l := le 1 k' ++ le 2 l') (n := 3) (by simp [le_length]) (by omega) hb.out 4 s' (by omega) (le 1 k' ++ le 2 l' ++ le 4 s') 7 rfl (by simp [le_length])).mono ?_
  rintro e w4 ⟨A3, c3, rfl, -, hown, hB⟩
  replace hn := hid (hn.out.below hB)
  replace HB := hid (HB.out.trans (hB.mono HB.out.size))
  replace hb := hid hown.row.bytes
  clear hB hown g2
  have hnum := hid (hn.out.nums 3 16 D (nd_mid _ _ _ _ _ hdl.out))
  go_wp2_with fail
  refine (putI_any (le 1 k' ++ le 2 l' ++ le 4 s') 7 (by simp [le_length]) D 16 hdl.out (by omega) (by omega) (fun p hp => by have := HDb.out p hp; omega) _ _ _ hb.out _ _ hnum.out).mono ?_
  rintro e w5 ⟨A4, c4, rfl, hbs, -, hB⟩
  replace hn := hid (hn.out.below hB)
  replace HB := hid (HB.out.trans (hB.mono HB.out.size))
  replace hb := hid hbs
  clear hB hbs hnum
  have g19 := hn.out.cell 19 _ (nd19 _ _ _ _ _ hdl.out)
  go_wp2_with fail
  refine (putI_any _ 39 (by simp [le_length, le2s_length, hdl.out]) [r] 1 rfl (by omega) (by omega) (fun p hp => by simp at hp; omega) _ _ _ (hb.out.below (below1 _ _)) _ _ (by exact IsNums.alloc_at (by simp) _ rfl)).mono ?_
  rintro e w6 ⟨A5, c5, rfl, hbs, -, hB⟩
  replace HB := hid (HB.out.trans (((below1 _ _).trans (hB.mono (by simp))).mono HB.out.size))
  replace hb := hid hbs
  clear hB hbs g19 hn
  have htl := hid (told_length k' l' s' D r hdl.out)
  go_wp2_with fail
  refine (field_val htl.out (by unfold told; simpa using hb.out) 480 (enc k' l' s' D r) 480 rfl (field_length _ _)).mono ?_
  rintro e w7 ⟨A6, c6, rfl, -, hown, hB⟩
  have HO := hid (hown.mono HB.out.size)
  replace HB := hid (HB.out.trans (hB.mono HB.out.size))
  clear hown hB
  go_wp2
  go_ret2
  exact ⟨A6, c6, rfl, HO.out, HB.out⟩
end Go.Proofs.Ytmjknaldpeoheaa
