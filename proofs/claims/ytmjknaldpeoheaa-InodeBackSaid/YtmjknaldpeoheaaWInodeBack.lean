/- The walk of InodeBack. -/
import Derived.Test.YtmjknaldpeoheaaWInodeKinds
import Derived.Test.YtmjknaldpeoheaaWInodeBlocks
import Derived.Test.YtmjknaldpeoheaaInoM3
namespace Go.Proofs.Ytmjknaldpeoheaa
open Go.RowKit O
set_option linter.unusedVariables false

theorem u8_xor_n8 (x y : UInt8) : bits .xor .u8 (n8 x) (n8 y) = n8 (x ^^^ y) := by
  unfold n8
  rw [u8_xor_nat x.toNat y.toNat x.toNat_lt y.toNat_lt, UInt8.toNat_xor]
attribute [local go_sem] u8_xor_n8
theorem zero_nd : zeroN = nd 0 0 0 (List.replicate 16 0) 0 := rfl
theorem decN_nd (m : List UInt8) : ∃ k l s D r, D.length = 16 ∧ decN m = nd k l s D r := nd_of _ (decN_length m)

set_option maxHeartbeats 2000000 in
theorem walk_InodeBack (w : World) (k l s : Int) (D : List Int) (r : Int) (hD : D.length = 16) (z : Int) (hz : -9223372036854775808 ≤ z ∧ z ≤ 9223372036854775807) (ch : UInt8) :
    Calls Try.prog 4 #[.agg (nodeC (nd k l s D r)), .int .i64 z, .int .u8 (n8 ch)] w fun e w' => e = .returned (.bool true) ∧ Below w.heap.size w w' := by
  obtain ⟨q, hmask, hq⟩ := and_mask z 65535 65535 rfl (by omega)
  obtain ⟨t, htm, ht2⟩ := mod_lt q 480 480 rfl (by omega)
  have hinf := hid (infoN k l s D r hD)
  have HN := hid (IsNode.new w 24 (nd k l s D r))
  have hdl := hid hD
  clear hD hz
  go_enter Try.func4, Try.ntmps4
  go_wp2_with fail
  refine (shown_any _).mono ?_
  rintro e w1 ⟨rfl, hB⟩
  have HB := hid ((below1 w _).trans (hB.mono (by simp)))
  replace HN := hid (HN.out.below hB)
  clear hB
  go_wp2_with (refine wpList_load_ints rfl 24 _ rfl w.heap.size 0 rfl (nd k l s D r) _ HN.out.range Try.underlying24 rfl hinf.out ?_)
  have hlt1 := hid HN.out.lt
  have hs1 := hid HB.out.size
  rcases hrt : right k l s D r with _ | _
  · refine (encode_no _ _ _ _ _ hdl.out hrt _).mono ?_
    rintro e w2 ⟨rfl, hB⟩
    replace HB := hid (HB.out.trans (hB.mono HB.out.size))
    replace HN := hid (HN.out.below hB)
    have hrt2 := hid hrt
    clear hB hrt
    go_wp2_with (refine wpList_load_intsG rfl 24 _ rfl w.heap.size 0 rfl (nd k l s D r) _ HN.out.range Try.underlying24 rfl hinf.out ?_)
    refine (right_any _ _ _ _ _ hdl.out _).mono ?_
    rintro e w3 ⟨rfl, hB⟩
    rw [hrt2.out]
    replace HB := hid (HB.out.trans (hB.mono HB.out.size))
    clear hB
    go_wp2
    go_ret
    exact ⟨rfl, HB.out⟩
  refine (encode_yes _ _ _ _ _ hdl.out hrt _).mono ?_
  rintro e w2 ⟨A, cc, rfl, hown, hB⟩
  obtain ⟨g, rfl, hg1, hg2⟩ := hown.form (by intro h; have := congrArg List.length h; rw [List.length_map, enc_length] at this; simp at this)
  replace HB := hid (HB.out.trans (hB.mono HB.out.size))
  replace HN := hid (HN.out.below hB)
  have HO := hid hown
  have Hg := hid hg1
  have hrt2 := hid hrt
  have hdn := decN_enc hdl.out hrt
  have hwg := hid (show w.heap.size ≤ g by have := hlt1.out; omega)
  have hne := hid (show g ≠ w.heap.size by have := hlt1.out; omega)
  clear hB hown hrt hg1 hg2
  go_wp2_with fail
  refine (decode_any (enc k l s D r) 480 (enc_length _ _ _ _ _) _ _ _ HO.out.row.bytes).mono ?_
  rintro e w3 ⟨rfl, hB⟩
  rw [hdn.1, hdn.2]
  replace HB := hid (HB.out.trans (hB.mono HB.out.size))
  replace HN := hid (HN.out.below hB)
  replace HO := hid (HO.out.keep hB)
  have hlt3 := hid HN.out.lt
  obtain ⟨c, hc⟩ : ∃ c, (enc k l s D r)[t]? = some c := ⟨_, List.getElem?_eq_getElem (by rw [enc_length]; exact ht2)⟩
  have hiff := hid (set_iff (d := ch) hc)
  have Hc := hid hc
  clear hB hdn hc
  go_wp2_with (first
    | (refine wpList_store_node rfl 24 _ _ rfl w3.heap.size (nd k l s D r) (nodeL zeroN) 24 rfl rfl (IsNode.new w3 24 zeroN) (by rw [nodeL_length, nd_length _ _ _ _ _ hdl.out]; rfl) hinf.out ?_; intro w4 hN hK hS; have hB4 : Below w3.heap.size w3 w4 := (below1 w3 _).trans (hK.below _ (Nat.le_refl _) (by simp)); have HM := hid hN; have HN4 := hid (HN.out.below hB4); have hO4 := HO.out.keep hB4; have hcell := hO4.cellB t c Hc.out; have hfr := hO4.unfrozen t; have HO4 := hid hO4; have HB4 := hid (HB.out.trans (hB4.mono HB.out.size)); clear hN hK hS hO4 hB4)
    | (refine wpList_load_intsG rfl 24 (.tmp 10) rfl w3.heap.size 0 rfl (nd k l s D r) _ HM.out.range Try.underlying24 rfl hinf.out ?_)
    | (refine wpList_load_intsG rfl 24 (.tmp 3) rfl w.heap.size 0 rfl (nd k l s D r) _ HN4.out.range Try.underlying24 rfl hinf.out ?_)
    | (refine wpList_exec _ rfl (exec_neq (.tmp 45) (.tmp 46) rfl rfl rfl guard24 (eq_node hdl.out hdl.out _)) ?_))
  have hb5 := hid (show IsBytes (w4.setCell ⟨g, t, none⟩ (.int .u8 (n8 (c ^^^ ch)))) (some ⟨g, 0, none⟩) ((enc k l s D r).set t (c ^^^ ch)) by
    have := HO4.out.set t (byteV (c ^^^ ch))
    rw [← List.map_set] at this
    exact this.row.bytes)
  have HB5 := hid (HB4.out.setCell (p := ⟨g, t, none⟩) hwg.out (.int .u8 (n8 (c ^^^ ch))))
  have HN5 := hid (HN4.out.kept (Kept.setCell w4 t (.int .u8 (n8 (c ^^^ ch)))) (by first | exact hne.out | exact hne.out.symm))
  obtain ⟨L, hL⟩ : ∃ L, L = (enc k l s D r).set t (c ^^^ ch) := ⟨_, rfl⟩
  rw [← hL] at hb5
  have hiff2 := hiff.out
  rw [← hL] at hiff2
  have hLl := hid (show L.length = 480 by rw [hL, List.length_set, enc_length])
  have Hiff := hid hiff2
  clear hL hiff2 hiff hcell hfr HO4 HN4 HB4 HM Hc HO HN HB
  refine (decode_any L 480 hLl.out _ _ _ hb5.out).mono ?_
  rintro e w6 ⟨rfl, hB⟩
  have HB := hid (HB5.out.trans (hB.mono HB5.out.size))
  have HN := hid (HN5.out.below hB)
  clear hB HB5 HN5 hb5
  obtain ⟨k2, l2, s2, D2, r2, hD2, hdN⟩ := decN_nd L
  have hinf2 := hid (infoN k2 l2 s2 D2 r2 hD2)
  have hdl2 := hid hD2
  rcases hok : decOk L with _ | _
  · have e1 : decN L = zeroN := by unfold decN; rw [hok]; rfl
    have e2 : decE L = 4 := by unfold decE; rw [hok]; rfl
    have hch : (n8 ch == 0) = false := by
      have h0 : ch ≠ 0 := by
        intro h
        rw [Hiff.out.2 h, decOk_enc hdl.out hrt2.out] at hok
        cases hok
      rw [show (0 : Int) = n8 0 from rfl, n8_beq]
      simpa using h0
    rw [e1, e2]
    clear hok e1 e2 hdN hinf2 hdl2
    go_wp2_with (first
      | (refine wpList_store_node rfl 24 _ _ rfl w6.heap.size zeroN (nodeL zeroN) 24 rfl rfl (IsNode.new w6 24 zeroN) rfl (by kernel_rfl) ?_; intro w7 hN hK hS; have hB7 : Below w6.heap.size w6 w7 := (below1 w6 _).trans (hK.below _ (Nat.le_refl _) (by simp)); have HM := hid hN; have HB7 := hid (HB.out.trans (hB7.mono HB.out.size)); clear hN hK hS hB7)
      | (refine wpList_load_intsG rfl 24 (.tmp 12) rfl w6.heap.size 0 rfl zeroN _ HM.out.range Try.underlying24 rfl (by kernel_rfl) ?_)
      | (refine wpList_exec _ rfl (exec_eql (X := nodeC zeroN) (Y := nodeC zeroN) (.tmp 91) (.tmp 92) rfl rfl rfl guard24 (eq_node (D := List.replicate 16 0) (D' := List.replicate 16 0) rfl rfl _)) ?_))
    go_ret
    exact ⟨ret_bool (by simp), HB7.out⟩
  · have hE : decE L = 0 := by unfold decE; rw [hok]; rfl
    have hinj := decN_inj hdl.out hrt2.out hok
    rw [hdN] at hinj
    have hch : (decide (nd k2 l2 s2 D2 r2 = nd k l s D r) == (n8 ch == 0)) = true := by
      rw [show (0 : Int) = n8 0 from rfl, n8_beq, beq_iff_eq, Bool.eq_iff_iff, decide_eq_true_iff, beq_iff_eq, hinj]
      exact Hiff.out
    rw [hE, hdN]
    clear hok hE hinj hdN
    go_wp2_with (first
      | (refine wpList_store_node rfl 24 _ _ rfl w6.heap.size (nd k2 l2 s2 D2 r2) (nodeL zeroN) 24 rfl rfl (IsNode.new w6 24 zeroN) (by rw [nodeL_length, nd_length _ _ _ _ _ hdl2.out]; rfl) hinf2.out ?_; intro w7 hN hK hS; have hB7 : Below w6.heap.size w6 w7 := (below1 w6 _).trans (hK.below _ (Nat.le_refl _) (by simp)); have HM := hid hN; have HN7 := hid (HN.out.below hB7); have HB7 := hid (HB.out.trans (hB7.mono HB.out.size)); clear hN hK hS hB7)
      | (refine wpList_load_intsG rfl 24 (.tmp 12) rfl w6.heap.size 0 rfl (nd k2 l2 s2 D2 r2) _ HM.out.range Try.underlying24 rfl hinf2.out ?_)
      | (refine wpList_load_intsG rfl 24 (.tmp 3) rfl w.heap.size 0 rfl (nd k l s D r) _ HN7.out.range Try.underlying24 rfl hinf.out ?_)
      | (refine wpList_exec _ rfl (exec_eql (.tmp 76) (.tmp 77) rfl rfl rfl guard24 (eq_node hdl2.out hdl.out _)) ?_))
    go_ret
    exact ⟨rfl, HB7.out⟩
end Go.Proofs.Ytmjknaldpeoheaa
