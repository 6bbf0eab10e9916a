/- The walk of the laws' common head. -/
import Derived.Test.YtmjknaldpeoheaaIno5
namespace Go.Proofs.Ytmjknaldpeoheaa
open Go.RowKit O
set_option linter.unusedVariables false

theorem str_any {l : List UInt8} {n : Nat} (hl : l.length = n) {w : World} {a : Option Addr} {c : Nat} (hb : IsBytes w a l) :
    (convert 27 9 (.slice a n c)).run Try.prog w = .ok (.string ⟨l.toArray⟩) w :=
  str_back Try.underlying27 Try.underlying5 Try.underlying9 l n hl w a c hb

def sD : List Int := [0, 258, 0, 0, 0, 0, 0, 0, 0, 0, 0, 0, 0, 0, 0, 0]
def sE : List Int := [0, 258, 1, 0, 0, 0, 0, 0, 0, 0, 0, 0, 0, 0, 0, 0]
theorem sh1 : right 2 2 500 sD 0 = true := by decide +kernel
theorem sh2 : right 2 2 500 sE 0 = false := by decide +kernel
theorem sh3 : decN (enc 2 2 500 sD 0) = nd 2 2 500 sD 0 := by decide +kernel
theorem sh4 : decE (enc 2 2 500 sD 0) = 0 := by decide +kernel
theorem sh5 : (enc 2 2 500 sD 0).take 12 = [2, 2, 0, 244, 1, 0, 0, 0, 0, 2, 1, 0] := by decide +kernel
theorem sh6 : blk 481 = 2 ∧ blk (-1) = 0 ∧ blk 1099511627776 = 256 := by decide +kernel
theorem enc_length (k l s : Int) (D : List Int) (r : Int) : (enc k l s D r).length = 480 := field_length _ _

set_option maxHeartbeats 1000000 in
theorem shown_any (w : World) : Calls Try.prog 12 #[] w fun e w' => e = .returned (.bool true) ∧ Below w.heap.size w w' := by
  have hinf := hid (show (Try.prog.info? 24).map (·.size) = some 20 by kernel_rfl)
  go_enter Try.func12, Try.ntmps12
  go_wp2_with (first
    | (refine wpList_store_node rfl 24 _ _ rfl w.heap.size (nd 2 2 500 (List.replicate 16 0) 0) (nodeL zeroN) 24 rfl rfl (IsNode.new w 24 zeroN) rfl hinf.out ?_; intro w1 hN hK hS; have hc := hN.cell 4 0 rfl; have hf := hN.free 4; have HN := hid (show IsNode (w1.setCell ⟨w.heap.size, 4, none⟩ (.int .i64 258)) w.heap.size 24 (nd 2 2 500 sD 0) from hN.setC 4 258); have HB := hid (show Below w.heap.size w (w1.setCell ⟨w.heap.size, 4, none⟩ (.int .i64 258)) from ((below1 w _).trans (hK.below _ (Nat.le_refl _) (by simp))).setCell (Nat.le_refl _) _); clear hN hK hS)
    | (refine wpList_load_ints rfl 24 _ rfl w.heap.size 0 rfl (nd 2 2 500 sD 0) _ HN.out.range Try.underlying24 rfl hinf.out ?_))
  refine (encode_yes _ _ _ _ _ rfl sh1 _).mono ?_
  rintro e w2 ⟨A, cc, rfl, hown, hB⟩
  have hb := hid hown.row.bytes
  have hcc : (480 : Nat) ≤ cc := by have := hown.len.1; rw [List.length_map, enc_length] at this; exact this
  replace HB := hid (HB.out.trans (hB.mono HB.out.size))
  replace HN := hid (HN.out.below hB)
  clear hc hf hown hB
  go_wp2_with fail
  refine (decode_any (enc 2 2 500 sD 0) 480 (enc_length _ _ _ _ _) _ _ _ hb.out).mono ?_
  rintro e w3 ⟨rfl, hB⟩
  rw [sh3, sh4]
  replace HB := hid (HB.out.trans (hB.mono HB.out.size))
  replace HN := hid (HN.out.below hB)
  replace hb := hid (hb.out.below hB)
  have hlt3 := hid HN.out.lt
  clear hB
  go_wp2_with (refine wpList_store_node rfl 24 _ _ rfl w3.heap.size (nd 2 2 500 sD 0) (nodeL zeroN) 24 rfl rfl (IsNode.new w3 24 zeroN) rfl hinf.out ?_; intro w4 hN hK hS; have HM := hid hN; have HK := hid hK; clear hN hK hS)
  have hB4 : Below w3.heap.size w3 w4 := (below1 w3 _).trans (HK.out.below _ (Nat.le_refl _) (by simp))
  replace HB := hid (HB.out.trans (hB4.mono HB.out.size))
  replace HN := hid (HN.out.below hB4)
  replace hb := hid (hb.out.below hB4)
  clear hB4 HK
  go_wp2_with fail
  refine (decode_any [] 0 rfl _ _ _ (IsBytes.nil _ _)).mono ?_
  rintro e w5 ⟨rfl, hB⟩
  rw [show decN [] = zeroN from rfl, show decE [] = 4 from rfl]
  replace HB := hid (HB.out.trans (hB.mono HB.out.size))
  replace HN := hid (HN.out.below hB)
  replace HM := hid (HM.out.below hB)
  replace hb := hid (hb.out.below hB)
  clear hB
  go_wp2_with (first
    | (refine wpList_store_node rfl 24 _ _ rfl w5.heap.size zeroN (nodeL zeroN) 24 rfl rfl (IsNode.new w5 24 zeroN) rfl hinf.out ?_; intro w6 hN hK hS; have hB6 : Below w5.heap.size w5 w6 := (below1 w5 _).trans (hK.below _ (Nat.le_refl _) (by simp)); have hn6 := HN.out.below hB6; have hc := hn6.cell 5 0 rfl; have hf := hn6.free 5; have HN2 := hid (show IsNode (w6.setCell ⟨w.heap.size, 5, none⟩ (.int .i64 1)) w.heap.size 24 (nd 2 2 500 sE 0) from hn6.setC 5 1); have HB6 := hid hB6; clear hN hK hS hn6 hB6)
    | (refine wpList_load_ints rfl 24 _ rfl w.heap.size 0 rfl (nd 2 2 500 sE 0) _ HN2.out.range Try.underlying24 rfl hinf.out ?_))
  have hkp : Kept w.heap.size w6 (w6.setCell ⟨w.heap.size, 5, none⟩ (.int .i64 1)) := Kept.setCell _ _ _
  have hB7 : Below w.heap.size w (w6.setCell ⟨w.heap.size, 5, none⟩ (.int .i64 1)) := (HB.out.trans (HB6.out.mono HB.out.size)).setCell (Nat.le_refl _) _
  have hm7 := HM.out.below HB6.out
  have hm8 := hid (hm7.kept hkp (by have := hlt3.out; omega))
  have hb8 := hid ((hb.out.below HB6.out).keptN (HN.out.below HB6.out) hkp)
  replace HB := hid hB7
  clear hkp hB7 hm7 hb HM HB6 hc hf HN
  refine (encode_no _ _ _ _ _ rfl sh2 _).mono ?_
  rintro e w7 ⟨rfl, hB⟩
  have hm9 := hm8.out.below hB
  have hs := str_any (n := 12) (c := cc) (l := [2, 2, 0, 244, 1, 0, 0, 0, 0, 2, 1, 0]) rfl (sh5 ▸ (hb8.out.below hB).take 12)
  replace HB := hid (HB.out.trans (hB.mono HB.out.size))
  have HN9 := hid (HN2.out.below hB)
  have hlc := hid hm9
  have c4 := hm9.cell 4 258 rfl
  have c2 := hm9.cell 2 500 rfl
  clear hB hm9 hm8 hb8 HN2 hlc
  go_wp2_with (refine wpList_load_intsG rfl 24 _ rfl w.heap.size 0 rfl (nd 2 2 500 sE 0) _ HN9.out.range Try.underlying24 rfl hinf.out ?_)
  refine (right_any _ _ _ _ _ rfl _).mono ?_
  rintro e w8 ⟨rfl, hB⟩
  rw [sh2]
  replace HB := hid (HB.out.trans (hB.mono HB.out.size))
  clear hB hs c4 c2 HN9
  go_wp2_with fail
  refine (blocks_any 481 _).mono ?_
  rintro e w9 ⟨rfl, rfl⟩
  rw [sh6.1]
  go_wp2_with fail
  refine (blocks_any (-1) _).mono ?_
  rintro e w9 ⟨rfl, rfl⟩
  rw [sh6.2.1]
  go_wp2_with fail
  refine (blocks_any 1099511627776 _).mono ?_
  rintro e w9 ⟨rfl, rfl⟩
  rw [sh6.2.2]
  go_wp2
  go_ret
  exact ⟨rfl, HB.out⟩
end Go.Proofs.Ytmjknaldpeoheaa
