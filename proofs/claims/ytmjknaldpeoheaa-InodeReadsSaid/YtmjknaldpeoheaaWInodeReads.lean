/- The walk of InodeReads. -/
import Derived.Test.YtmjknaldpeoheaaInoR3
import Derived.Test.YtmjknaldpeoheaaInoRowR3
import Derived.Test.YtmjknaldpeoheaaIno6
import Derived.Test.YtmjknaldpeoheaaStr
import Derived.Test.YtmjknaldpeoheaaStop
import Derived.Test.YtmjknaldpeoheaaWInodeKinds
namespace Go.Proofs.Ytmjknaldpeoheaa
open Go.RowKit O
set_option linter.unusedVariables false

theorem rowN_len (l : List UInt8) : (rowN l).length = 240 := by
  rcases hq : rowOk l with _ | _
  · rw [(row_no hq).1, zeroL_length]
  · rw [(row_yes hq).1, nums2_length]

set_option maxHeartbeats 4000000 in
set_option maxRecDepth 20000 in
theorem walk_InodeReads (w : World) (a : Option Addr) (l : List UInt8) (c : Nat) (hb : IsBytes w a l) (hlc : l.length ≤ c) (hc : c ≤ maxLen) :
    Calls Try.prog 9 #[.slice a l.length c] w fun e w' => e = .returned (.bool true) ∧ Below w.heap.size w w' := by
  unfold maxLen at hc
  obtain ⟨k, hmin, hlen, hk, hkc⟩ := cut_min l 600 600 rfl hlc
  have hmin2 : min (l.length : Int) 600 = (k : Int) := by rw [List.length_take] at hlen; omega
  have hb' := hid (hb.take 600)
  have hlen' := hid hlen
  generalize l.take 600 = l' at *
  clear hb hlen
  obtain ⟨nk, nl, ns, nD, nr, hD, hN⟩ := nd_of (decN l') (decN_length l')
  have Hd := hid hD
  have HN := hid hN
  obtain ⟨L, hL⟩ : ∃ L, L = rowN l' := ⟨_, rfl⟩
  have HL := hid hL
  have Hl := hid (show L.length = 240 by rw [hL]; exact rowN_len l')
  obtain ⟨ok, hok⟩ : ∃ ok, ok = decOk l' := ⟨_, rfl⟩
  obtain ⟨is, his⟩ : ∃ is, is = rowOk l' := ⟨_, rfl⟩
  have Hok := hid hok
  have His := hid his
  obtain ⟨e1, he1⟩ : ∃ e1, decE l' = e1 := ⟨_, rfl⟩
  obtain ⟨e2, he2⟩ : ∃ e2, rowE l' = e2 := ⟨_, rfl⟩
  have HF1 := hid (show e1 = if ok then 0 else 4 by rw [hok, ← he1]; rfl)
  have HF2 := hid (show e2 = if is then 0 else 4 by rw [his, ← he2]; rfl)
  have HE1 := hid he1
  have HE2 := hid he2
  clear he1 he2
  have hinfN := hid (infoN nk nl ns nD nr hD)
  have hinfM := hid (infoR nk nl ns nD nr hD)
  have hinfL := hid (info43 Hl.out)
  have hdl := hid (nd_length nk nl ns nD nr hD)
  clear hD hN hL hok his
  go_enter Try.func9, Try.ntmps9
  go_wp2_with fail
  refine (shown_any _).mono ?_
  rintro e w1 ⟨rfl, hB⟩
  have HB := hid hB
  replace hb' := hid (hb'.out.below hB)
  clear hB
  obtain ⟨A1, c1, w2, hap, hown, hB2⟩ := append_run elemU8 27 (n := 0) (base := w1.heap.size) (w := w1.alloc (.cells #[] 5)) (c2 := c) (Own.empty _ w1 (Nat.le_refl _)) rfl ((hb'.out.below (below1 w1 _)).row) (by simpa using hlen'.out) (byteV_one _) (by omega) (by omega) (by simp)
  rw [Nat.zero_add] at hap
  rw [List.nil_append] at hown
  have HO := hid hown.row.bytes
  have HB2 := hid (show Below w.heap.size w w2 from HB.out.trans (((below1 w1 _).mono HB.out.size).trans (hB2.mono HB.out.size)))
  have hs := str_any (c := c1) hlen'.out HO.out
  clear hown hB2 HB hb'
  go_wp2_with (at_builtin; refine wpList_append_run _ _ hap rfl rfl rfl rfl ?_)
  clear hs hap
  refine (decode_any l' k hlen'.out _ _ _ HO.out).mono ?_
  rintro e w3 ⟨rfl, hB⟩
  rw [HN.out, HE1.out]
  have HB3 := hid (HB2.out.trans (hB.mono HB2.out.size))
  have HO3 := hid (HO.out.below hB)
  clear hB HB2 HO
  have hcv0 := fun (w4 : World) => bytes_of_str Try.underlying9 Try.underlying27 Try.underlying5 l' k hlen'.out w4
  go_wp2_with (first
    | (refine wpList_store_node rfl 24 _ _ rfl w3.heap.size (nd nk nl ns nD nr) (nodeL zeroN) 24 rfl rfl (IsNode.new w3 24 zeroN) (by rw [nodeL_length, hdl.out]; rfl) hinfN.out ?_; intro w4 hN hK hS; have hB4 : Below w3.heap.size w3 w4 := (below1 w3 _).trans (hK.below _ (Nat.le_refl _) (by simp)); obtain ⟨cB, wB, hcv, hbB, hBB, hsB⟩ := hcv0 w4; have hB5 := hB4.trans (hBB.mono hB4.size); have HN5 := hid (IsNode.below hN hBB); have HB5 := hid (HB3.out.trans (hB5.mono HB3.out.size)); have HO5 := hid (HO3.out.below hB5); have Hb5 := hid hbB; clear hN hK hS hB4 hbB hBB hsB hB5))
  refine (refdecode_any l' k hlen'.out _ _ _ Hb5.out).mono ?_
  rintro e w6 ⟨rfl, hB⟩
  rw [HN.out, ← Hok.out]
  have HB6 := hid (HB5.out.trans (hB.mono HB5.out.size))
  have HO6 := hid (HO5.out.below hB)
  have HN6 := hid (HN5.out.below hB)
  clear hB HB5 HO5 HN5 HB3 HO3 hcv Hb5
  go_wp2_with (first
    | (refine wpList_store_node rfl 26 _ _ rfl w6.heap.size (nd nk nl ns nD nr) (nodeL zeroN) 26 rfl rfl (IsNode.new w6 26 zeroN) (by rw [nodeL_length, hdl.out]; rfl) hinfM.out ?_; intro w7 hN hK hS; have hB7 : Below w6.heap.size w6 w7 := (below1 w6 _).trans (hK.below _ (Nat.le_refl _) (by simp)); have HN7 := hid (HN6.out.below hB7); have HM7 := hid hN; have HB7 := hid (HB6.out.trans (hB7.mono HB6.out.size)); have HO7 := hid (HO6.out.below hB7); clear hN hK hS hB7))
  refine (decrow_any l' k hlen'.out _ _ _ HO7.out).mono ?_
  rintro e w8 ⟨rfl, hB⟩
  rw [← HL.out, HE2.out]
  have HB8 := hid (HB7.out.trans (hB.mono HB7.out.size))
  have HO8 := hid (HO7.out.below hB)
  have HN8 := hid (HN7.out.below hB)
  have HM8 := hid (HM7.out.below hB)
  clear hB HB7 HO7 HN7 HM7 HB6 HO6 HN6
  go_wp2_with (first
    | (refine wpList_alloc_ints (w := w8) rfl rfl zero43 ?_; intro w9 hN hB hS; have HA9 := hid hN; have HB9 := hid hB; clear hN hB hS)
    | (refine wpList_store_node rfl 43 _ _ rfl w8.heap.size L (nodeL zeroL) 43 rfl rfl HA9.out (by rw [nodeL_length, zeroL_length, Hl.out]) hinfL.out ?_; intro w10 hN hK hS; have hB10 : Below w8.heap.size w8 w10 := HB9.out.trans (hK.below _ (Nat.le_refl _) HB9.out.size); obtain ⟨cB, wB, hcv, hbB, hBB, hsB⟩ := hcv0 w10; have hB11 := hB10.trans (hBB.mono hB10.size); have HL11 := hid (IsNode.below hN hBB); have HN11 := hid (HN8.out.below hB11); have HM11 := hid (HM8.out.below hB11); have HB11 := hid (HB8.out.trans (hB11.mono HB8.out.size)); have HO11 := hid (HO8.out.below hB11); have Hb11 := hid hbB; clear hN hK hS hB10 hbB hBB hsB hB11))
  refine (refdecrow_any l' k hlen'.out _ _ _ Hb11.out).mono ?_
  rintro e w12 ⟨rfl, hB⟩
  rw [← HL.out, ← His.out]
  have HB12 := hid (HB11.out.trans (hB.mono HB11.out.size))
  have HO12 := hid (HO11.out.below hB)
  have HN12 := hid (HN11.out.below hB)
  have HM12 := hid (HM11.out.below hB)
  have HL12 := hid (HL11.out.below hB)
  clear hB HB11 HO11 HN11 HM11 HL11 HB8 HO8 HN8 HM8 HA9 HB9 hcv Hb11 hcv0
  have hst0 := fun (W : World) (h : IsBytes W A1 l') => str_any (c := c1) hlen'.out h
  clear hmin hmin2 hlc hc hk hkc
  have hq1 := fun (W : World) => (show (Op.equalIn 10000 24 (.agg (nodeC (nd nk nl ns nD nr))) (.agg (nodeC (nd nk nl ns nD nr)))).run Try.prog W = .ok true W by have := eq_node (k := nk) (l := nl) (s := ns) (r := nr) (k' := nk) (l' := nl) (s' := ns) (r' := nr) Hd.out Hd.out W; rwa [decide_eq_true rfl] at this)
  have hq2 := fun (W : World) => (show (Op.equalIn 10000 43 (.agg (nodeC L)) (.agg (nodeC L))).run Try.prog W = .ok true W by have := eq_row Hl.out Hl.out W; rwa [decide_eq_true rfl] at this)
  have Hq1 := hid hq1
  have Hq2 := hid hq2
  clear hq1 hq2
  cases ok <;> cases is
  · have f1 := HF1.out
    have f2 := HF2.out
    simp at f1 f2
    subst f1 f2
    clear HF1 HF2 HE1 HE2 HL HN Hok His
    go_wp2_with (first
     | (refine wpList_alloc_ints (w := w12) rfl rfl zero43 ?_; intro w13 hN hB hS; have HA13 := hid hN; have HB13 := hid hB; clear hN hB hS)
     | (refine wpList_store_node rfl 43 _ _ rfl w12.heap.size L (nodeL zeroL) 43 rfl rfl HA13.out (by rw [nodeL_length, zeroL_length, Hl.out]) hinfL.out ?_; intro w14 hN hK hS; have hB14 : Below w12.heap.size w12 w14 := HB13.out.trans (hK.below _ (Nat.le_refl _) HB13.out.size); have HJ := hid hN; have HL14 := hid (HL12.out.below hB14); have HN14 := hid (HN12.out.below hB14); have HM14 := hid (HM12.out.below hB14); have HB14 := hid (HB12.out.trans (hB14.mono HB12.out.size)); have hst := hst0 w14 (HO12.out.below hB14); clear hN hK hS hB14)
     | (refine stop_load 24 (.tmp 5) rfl ?_))
    refine Stop.go ?_
    refine wpList_exec (.agg (nodeC (nd nk nl ns nD nr))) (by rfl) (exec_load_ints (.tmp 5) rfl w3.heap.size 0 rfl (nd nk nl ns nD nr) _ HN14.out.range Try.underlying24 rfl hinfN.out) ?_
    try simp only [Act.put, List.setIfInBounds_toArray, List.set_cons_zero, List.set_cons_succ]
    refine wpList_exec (.agg (nodeC (nd nk nl ns nD nr))) (by rfl) (exec_load_ints (.tmp 7) rfl w6.heap.size 0 rfl (nd nk nl ns nD nr) _ HM14.out.range Try.underlying26 rfl hinfM.out) ?_
    try simp only [Act.put, List.setIfInBounds_toArray, List.set_cons_zero, List.set_cons_succ]
    refine wpList_exec (.bool false) (by rfl) (exec_neq (.tmp 45) (.tmp 46) rfl rfl rfl guard24 (Hq1.out _)) ?_
    try simp only [Act.put, List.setIfInBounds_toArray, List.set_cons_zero, List.set_cons_succ]
    refine wpList_exec ?v001 (by rfl) ?h001 ?r001
    case h001 => (go_simp; (try with_reducible rfl))
    try simp only [Act.put, List.setIfInBounds_toArray, List.set_cons_zero, List.set_cons_succ]
    refine wpList_exec ?v002 (by rfl) ?h002 ?r002
    case h002 => (go_simp; (try with_reducible rfl))
    try simp only [Act.put, List.setIfInBounds_toArray, List.set_cons_zero, List.set_cons_succ]
    refine wpList_exec ?v003 (by rfl) ?h003 ?r003
    case h003 => (go_simp; (try with_reducible rfl))
    try simp only [Act.put, List.setIfInBounds_toArray, List.set_cons_zero, List.set_cons_succ]
    refine wpList_exec ?v004 (by rfl) ?h004 ?r004
    case h004 => (go_simp; (try with_reducible rfl))
    try simp only [Act.put, List.setIfInBounds_toArray, List.set_cons_zero, List.set_cons_succ]
    refine wpList_exec ?v005 (by rfl) ?h005 ?r005
    case h005 => (go_simp; (try with_reducible rfl))
    try simp only [Act.put, List.setIfInBounds_toArray, List.set_cons_zero, List.set_cons_succ]
    refine wpList_exec ?v006 (by rfl) ?h006 ?r006
    case h006 => (go_simp; (try with_reducible rfl))
    try simp only [Act.put, List.setIfInBounds_toArray, List.set_cons_zero, List.set_cons_succ]
    refine wpList_exec ?v007 (by rfl) ?h007 ?r007
    case h007 => (go_simp; (try with_reducible rfl))
    try simp only [Act.put, List.setIfInBounds_toArray, List.set_cons_zero, List.set_cons_succ]
    refine wpList_exec ?v008 (by rfl) ?h008 ?r008
    case h008 => (go_simp; (try with_reducible rfl))
    try simp only [Act.put, List.setIfInBounds_toArray, List.set_cons_zero, List.set_cons_succ]
    refine wpList_exec ?v009 (by rfl) ?h009 ?r009
    case h009 => (go_simp; (try with_reducible rfl))
    try simp only [Act.put, List.setIfInBounds_toArray, List.set_cons_zero, List.set_cons_succ]
    refine wpList_exec ?v0010 (by rfl) ?h0010 ?r0010
    case h0010 => (go_simp; (try with_reducible rfl))
    try simp only [Act.put, List.setIfInBounds_toArray, List.set_cons_zero, List.set_cons_succ]
    refine wpList_exec ?v0011 (by rfl) ?h0011 ?r0011
    case h0011 => (go_simp; (try with_reducible rfl))
    try simp only [Act.put, List.setIfInBounds_toArray, List.set_cons_zero, List.set_cons_succ]
    refine wpList_exec ?v0012 (by rfl) ?h0012 ?r0012
    case h0012 => (go_simp; (try with_reducible rfl))
    try simp only [Act.put, List.setIfInBounds_toArray, List.set_cons_zero, List.set_cons_succ]
    refine wpList_exec ?v0013 (by rfl) ?h0013 ?r0013
    case h0013 => (go_simp; (try with_reducible rfl))
    try simp only [Act.put, List.setIfInBounds_toArray, List.set_cons_zero, List.set_cons_succ]
    refine wpList_exec ?v0014 (by rfl) ?h0014 ?r0014
    case h0014 => (go_simp; (try with_reducible rfl))
    try simp only [Act.put, List.setIfInBounds_toArray, List.set_cons_zero, List.set_cons_succ]
    refine wpList_exec ?v0015 (by rfl) ?h0015 ?r0015
    case h0015 => (go_simp; (try with_reducible rfl))
    try simp only [Act.put, List.setIfInBounds_toArray, List.set_cons_zero, List.set_cons_succ]
    refine wpList_exec (.agg (nodeC L)) (by rfl) (exec_load_ints (.tmp 9) rfl w8.heap.size 0 rfl L _ HL14.out.range Try.underlying43 rfl hinfL.out) ?_
    try simp only [Act.put, List.setIfInBounds_toArray, List.set_cons_zero, List.set_cons_succ]
    refine wpList_exec (.agg (nodeC L)) (by rfl) (exec_load_ints (.tmp 11) rfl w12.heap.size 0 rfl L _ HJ.out.range Try.underlying43 rfl hinfL.out) ?_
    try simp only [Act.put, List.setIfInBounds_toArray, List.set_cons_zero, List.set_cons_succ]
    refine wpList_exec (.bool false) (by rfl) (exec_neq (.tmp 63) (.tmp 64) rfl rfl rfl guard43 (Hq2.out _)) ?_
    try simp only [Act.put, List.setIfInBounds_toArray, List.set_cons_zero, List.set_cons_succ]
    refine wpList_exec ?v0016 (by rfl) ?h0016 ?r0016
    case h0016 => (go_simp; (try with_reducible rfl))
    try simp only [Act.put, List.setIfInBounds_toArray, List.set_cons_zero, List.set_cons_succ]
    refine wpList_exec ?v0017 (by rfl) ?h0017 ?r0017
    case h0017 => (go_simp; (try with_reducible rfl))
    try simp only [Act.put, List.setIfInBounds_toArray, List.set_cons_zero, List.set_cons_succ]
    refine wpList_exec ?v0018 (by rfl) ?h0018 ?r0018
    case h0018 => (go_simp; (try with_reducible rfl))
    try simp only [Act.put, List.setIfInBounds_toArray, List.set_cons_zero, List.set_cons_succ]
    refine wpList_exec ?v0019 (by rfl) ?h0019 ?r0019
    case h0019 => (go_simp; (try with_reducible rfl))
    try simp only [Act.put, List.setIfInBounds_toArray, List.set_cons_zero, List.set_cons_succ]
    refine wpList_exec ?v0020 (by rfl) ?h0020 ?r0020
    case h0020 => (go_simp; (try with_reducible rfl))
    try simp only [Act.put, List.setIfInBounds_toArray, List.set_cons_zero, List.set_cons_succ]
    refine wpList_exec ?v0021 (by rfl) ?h0021 ?r0021
    case h0021 => (go_simp; (try with_reducible rfl))
    try simp only [Act.put, List.setIfInBounds_toArray, List.set_cons_zero, List.set_cons_succ]
    refine wpList_exec ?v0022 (by rfl) ?h0022 ?r0022
    case h0022 => (go_simp; (try with_reducible rfl))
    try simp only [Act.put, List.setIfInBounds_toArray, List.set_cons_zero, List.set_cons_succ]
    refine wpList_exec ?v0023 (by rfl) ?h0023 ?r0023
    case h0023 => (go_simp; (try with_reducible rfl))
    try simp only [Act.put, List.setIfInBounds_toArray, List.set_cons_zero, List.set_cons_succ]
    refine wpList_exec ?v0024 (by rfl) ?h0024 ?r0024
    case h0024 => (go_simp; (try with_reducible rfl))
    try simp only [Act.put, List.setIfInBounds_toArray, List.set_cons_zero, List.set_cons_succ]
    refine wpList_exec ?v0025 (by rfl) ?h0025 ?r0025
    case h0025 => (go_simp; (try with_reducible rfl))
    try simp only [Act.put, List.setIfInBounds_toArray, List.set_cons_zero, List.set_cons_succ]
    refine wpList_exec ?v0026 (by rfl) ?h0026 ?r0026
    case h0026 => (go_simp; (try with_reducible rfl))
    try simp only [Act.put, List.setIfInBounds_toArray, List.set_cons_zero, List.set_cons_succ]
    refine wpList_exec ?v0027 (by rfl) ?h0027 ?r0027
    case h0027 => (go_simp; (try with_reducible rfl))
    try simp only [Act.put, List.setIfInBounds_toArray, List.set_cons_zero, List.set_cons_succ]
    refine wpList_exec ?v0028 (by rfl) ?h0028 ?r0028
    case h0028 => (go_simp; (try with_reducible rfl))
    try simp only [Act.put, List.setIfInBounds_toArray, List.set_cons_zero, List.set_cons_succ]
    refine wpList_exec ?v0029 (by rfl) ?h0029 ?r0029
    case h0029 => (go_simp; (try with_reducible rfl))
    try simp only [Act.put, List.setIfInBounds_toArray, List.set_cons_zero, List.set_cons_succ]
    refine wpList_exec ?v0030 (by rfl) ?h0030 ?r0030
    case h0030 => (go_simp; (try with_reducible rfl))
    try simp only [Act.put, List.setIfInBounds_toArray, List.set_cons_zero, List.set_cons_succ]
    go_wp2
    go_ret
    exact ⟨ret_bool (by simp), HB14.out⟩
  · have f1 := HF1.out
    have f2 := HF2.out
    simp at f1 f2
    subst f1 f2
    clear HF1 HF2 HE1 HE2 HL HN Hok His
    go_wp2_with (first
     | (refine wpList_alloc_ints (w := w12) rfl rfl zero43 ?_; intro w13 hN hB hS; have HA13 := hid hN; have HB13 := hid hB; clear hN hB hS)
     | (refine wpList_store_node rfl 43 _ _ rfl w12.heap.size L (nodeL zeroL) 43 rfl rfl HA13.out (by rw [nodeL_length, zeroL_length, Hl.out]) hinfL.out ?_; intro w14 hN hK hS; have hB14 : Below w12.heap.size w12 w14 := HB13.out.trans (hK.below _ (Nat.le_refl _) HB13.out.size); have HJ := hid hN; have HL14 := hid (HL12.out.below hB14); have HN14 := hid (HN12.out.below hB14); have HM14 := hid (HM12.out.below hB14); have HB14 := hid (HB12.out.trans (hB14.mono HB12.out.size)); have hst := hst0 w14 (HO12.out.below hB14); clear hN hK hS hB14)
     | (refine stop_load 24 (.tmp 5) rfl ?_))
    refine Stop.go ?_
    refine wpList_exec (.agg (nodeC (nd nk nl ns nD nr))) (by rfl) (exec_load_ints (.tmp 5) rfl w3.heap.size 0 rfl (nd nk nl ns nD nr) _ HN14.out.range Try.underlying24 rfl hinfN.out) ?_
    try simp only [Act.put, List.setIfInBounds_toArray, List.set_cons_zero, List.set_cons_succ]
    refine wpList_exec (.agg (nodeC (nd nk nl ns nD nr))) (by rfl) (exec_load_ints (.tmp 7) rfl w6.heap.size 0 rfl (nd nk nl ns nD nr) _ HM14.out.range Try.underlying26 rfl hinfM.out) ?_
    try simp only [Act.put, List.setIfInBounds_toArray, List.set_cons_zero, List.set_cons_succ]
    refine wpList_exec (.bool false) (by rfl) (exec_neq (.tmp 45) (.tmp 46) rfl rfl rfl guard24 (Hq1.out _)) ?_
    try simp only [Act.put, List.setIfInBounds_toArray, List.set_cons_zero, List.set_cons_succ]
    refine wpList_exec ?v011 (by rfl) ?h011 ?r011
    case h011 => (go_simp; (try with_reducible rfl))
    try simp only [Act.put, List.setIfInBounds_toArray, List.set_cons_zero, List.set_cons_succ]
    refine wpList_exec ?v012 (by rfl) ?h012 ?r012
    case h012 => (go_simp; (try with_reducible rfl))
    try simp only [Act.put, List.setIfInBounds_toArray, List.set_cons_zero, List.set_cons_succ]
    refine wpList_exec ?v013 (by rfl) ?h013 ?r013
    case h013 => (go_simp; (try with_reducible rfl))
    try simp only [Act.put, List.setIfInBounds_toArray, List.set_cons_zero, List.set_cons_succ]
    refine wpList_exec ?v014 (by rfl) ?h014 ?r014
    case h014 => (go_simp; (try with_reducible rfl))
    try simp only [Act.put, List.setIfInBounds_toArray, List.set_cons_zero, List.set_cons_succ]
    refine wpList_exec ?v015 (by rfl) ?h015 ?r015
    case h015 => (go_simp; (try with_reducible rfl))
    try simp only [Act.put, List.setIfInBounds_toArray, List.set_cons_zero, List.set_cons_succ]
    refine wpList_exec ?v016 (by rfl) ?h016 ?r016
    case h016 => (go_simp; (try with_reducible rfl))
    try simp only [Act.put, List.setIfInBounds_toArray, List.set_cons_zero, List.set_cons_succ]
    refine wpList_exec ?v017 (by rfl) ?h017 ?r017
    case h017 => (go_simp; (try with_reducible rfl))
    try simp only [Act.put, List.setIfInBounds_toArray, List.set_cons_zero, List.set_cons_succ]
    refine wpList_exec ?v018 (by rfl) ?h018 ?r018
    case h018 => (go_simp; (try with_reducible rfl))
    try simp only [Act.put, List.setIfInBounds_toArray, List.set_cons_zero, List.set_cons_succ]
    refine wpList_exec ?v019 (by rfl) ?h019 ?r019
    case h019 => (go_simp; (try with_reducible rfl))
    try simp only [Act.put, List.setIfInBounds_toArray, List.set_cons_zero, List.set_cons_succ]
    refine wpList_exec ?v0110 (by rfl) ?h0110 ?r0110
    case h0110 => (go_simp; (try with_reducible rfl))
    try simp only [Act.put, List.setIfInBounds_toArray, List.set_cons_zero, List.set_cons_succ]
    refine wpList_exec ?v0111 (by rfl) ?h0111 ?r0111
    case h0111 => (go_simp; (try with_reducible rfl))
    try simp only [Act.put, List.setIfInBounds_toArray, List.set_cons_zero, List.set_cons_succ]
    refine wpList_exec ?v0112 (by rfl) ?h0112 ?r0112
    case h0112 => (go_simp; (try with_reducible rfl))
    try simp only [Act.put, List.setIfInBounds_toArray, List.set_cons_zero, List.set_cons_succ]
    refine wpList_exec ?v0113 (by rfl) ?h0113 ?r0113
    case h0113 => (go_simp; (try with_reducible rfl))
    try simp only [Act.put, List.setIfInBounds_toArray, List.set_cons_zero, List.set_cons_succ]
    refine wpList_exec ?v0114 (by rfl) ?h0114 ?r0114
    case h0114 => (go_simp; (try with_reducible rfl))
    try simp only [Act.put, List.setIfInBounds_toArray, List.set_cons_zero, List.set_cons_succ]
    refine wpList_exec ?v0115 (by rfl) ?h0115 ?r0115
    case h0115 => (go_simp; (try with_reducible rfl))
    try simp only [Act.put, List.setIfInBounds_toArray, List.set_cons_zero, List.set_cons_succ]
    refine wpList_exec (.agg (nodeC L)) (by rfl) (exec_load_ints (.tmp 9) rfl w8.heap.size 0 rfl L _ HL14.out.range Try.underlying43 rfl hinfL.out) ?_
    try simp only [Act.put, List.setIfInBounds_toArray, List.set_cons_zero, List.set_cons_succ]
    refine wpList_exec (.agg (nodeC L)) (by rfl) (exec_load_ints (.tmp 11) rfl w12.heap.size 0 rfl L _ HJ.out.range Try.underlying43 rfl hinfL.out) ?_
    try simp only [Act.put, List.setIfInBounds_toArray, List.set_cons_zero, List.set_cons_succ]
    refine wpList_exec (.bool false) (by rfl) (exec_neq (.tmp 63) (.tmp 64) rfl rfl rfl guard43 (Hq2.out _)) ?_
    try simp only [Act.put, List.setIfInBounds_toArray, List.set_cons_zero, List.set_cons_succ]
    refine wpList_exec ?v0116 (by rfl) ?h0116 ?r0116
    case h0116 => (go_simp; (try with_reducible rfl))
    try simp only [Act.put, List.setIfInBounds_toArray, List.set_cons_zero, List.set_cons_succ]
    refine wpList_exec ?v0117 (by rfl) ?h0117 ?r0117
    case h0117 => (go_simp; (try with_reducible rfl))
    try simp only [Act.put, List.setIfInBounds_toArray, List.set_cons_zero, List.set_cons_succ]
    refine wpList_exec ?v0118 (by rfl) ?h0118 ?r0118
    case h0118 => (go_simp; (try with_reducible rfl))
    try simp only [Act.put, List.setIfInBounds_toArray, List.set_cons_zero, List.set_cons_succ]
    refine wpList_exec ?v0119 (by rfl) ?h0119 ?r0119
    case h0119 => (go_simp; (try with_reducible rfl))
    try simp only [Act.put, List.setIfInBounds_toArray, List.set_cons_zero, List.set_cons_succ]
    refine wpList_exec ?v0120 (by rfl) ?h0120 ?r0120
    case h0120 => (go_simp; (try with_reducible rfl))
    try simp only [Act.put, List.setIfInBounds_toArray, List.set_cons_zero, List.set_cons_succ]
    refine wpList_exec ?v0121 (by rfl) ?h0121 ?r0121
    case h0121 => (go_simp; (try with_reducible rfl))
    try simp only [Act.put, List.setIfInBounds_toArray, List.set_cons_zero, List.set_cons_succ]
    refine wpList_exec ?v0122 (by rfl) ?h0122 ?r0122
    case h0122 => (go_simp; (try with_reducible rfl))
    try simp only [Act.put, List.setIfInBounds_toArray, List.set_cons_zero, List.set_cons_succ]
    refine wpList_exec ?v0123 (by rfl) ?h0123 ?r0123
    case h0123 => (go_simp; (try with_reducible rfl))
    try simp only [Act.put, List.setIfInBounds_toArray, List.set_cons_zero, List.set_cons_succ]
    refine wpList_exec ?v0124 (by rfl) ?h0124 ?r0124
    case h0124 => (go_simp; (try with_reducible rfl))
    try simp only [Act.put, List.setIfInBounds_toArray, List.set_cons_zero, List.set_cons_succ]
    refine wpList_exec ?v0125 (by rfl) ?h0125 ?r0125
    case h0125 => (go_simp; (try with_reducible rfl))
    try simp only [Act.put, List.setIfInBounds_toArray, List.set_cons_zero, List.set_cons_succ]
    refine wpList_exec ?v0126 (by rfl) ?h0126 ?r0126
    case h0126 => (go_simp; (try with_reducible rfl))
    try simp only [Act.put, List.setIfInBounds_toArray, List.set_cons_zero, List.set_cons_succ]
    refine wpList_skip (by rfl) ?_
    try simp only [Act.put, List.setIfInBounds_toArray, List.set_cons_zero, List.set_cons_succ]
    refine wpList_skip (by rfl) ?_
    try simp only [Act.put, List.setIfInBounds_toArray, List.set_cons_zero, List.set_cons_succ]
    refine wpList_exec ?v0129 (by rfl) ?h0129 ?r0129
    case h0129 => (go_simp; (try with_reducible rfl))
    try simp only [Act.put, List.setIfInBounds_toArray, List.set_cons_zero, List.set_cons_succ]
    refine wpList_exec ?v0130 (by rfl) ?h0130 ?r0130
    case h0130 => (go_simp; (try with_reducible rfl))
    try simp only [Act.put, List.setIfInBounds_toArray, List.set_cons_zero, List.set_cons_succ]
    go_wp2
    go_ret
    exact ⟨ret_bool (by simp), HB14.out⟩
  · have f1 := HF1.out
    have f2 := HF2.out
    simp at f1 f2
    subst f1 f2
    clear HF1 HF2 HE1 HE2 HL HN Hok His
    go_wp2_with (first
     | (refine wpList_alloc_ints (w := w12) rfl rfl zero43 ?_; intro w13 hN hB hS; have HA13 := hid hN; have HB13 := hid hB; clear hN hB hS)
     | (refine wpList_store_node rfl 43 _ _ rfl w12.heap.size L (nodeL zeroL) 43 rfl rfl HA13.out (by rw [nodeL_length, zeroL_length, Hl.out]) hinfL.out ?_; intro w14 hN hK hS; have hB14 : Below w12.heap.size w12 w14 := HB13.out.trans (hK.below _ (Nat.le_refl _) HB13.out.size); have HJ := hid hN; have HL14 := hid (HL12.out.below hB14); have HN14 := hid (HN12.out.below hB14); have HM14 := hid (HM12.out.below hB14); have HB14 := hid (HB12.out.trans (hB14.mono HB12.out.size)); have hst := hst0 w14 (HO12.out.below hB14); clear hN hK hS hB14)
     | (refine stop_load 24 (.tmp 5) rfl ?_))
    refine Stop.go ?_
    refine wpList_exec (.agg (nodeC (nd nk nl ns nD nr))) (by rfl) (exec_load_ints (.tmp 5) rfl w3.heap.size 0 rfl (nd nk nl ns nD nr) _ HN14.out.range Try.underlying24 rfl hinfN.out) ?_
    try simp only [Act.put, List.setIfInBounds_toArray, List.set_cons_zero, List.set_cons_succ]
    refine wpList_exec (.agg (nodeC (nd nk nl ns nD nr))) (by rfl) (exec_load_ints (.tmp 7) rfl w6.heap.size 0 rfl (nd nk nl ns nD nr) _ HM14.out.range Try.underlying26 rfl hinfM.out) ?_
    try simp only [Act.put, List.setIfInBounds_toArray, List.set_cons_zero, List.set_cons_succ]
    refine wpList_exec (.bool false) (by rfl) (exec_neq (.tmp 45) (.tmp 46) rfl rfl rfl guard24 (Hq1.out _)) ?_
    try simp only [Act.put, List.setIfInBounds_toArray, List.set_cons_zero, List.set_cons_succ]
    refine wpList_exec ?v101 (by rfl) ?h101 ?r101
    case h101 => (go_simp; (try with_reducible rfl))
    try simp only [Act.put, List.setIfInBounds_toArray, List.set_cons_zero, List.set_cons_succ]
    refine wpList_exec ?v102 (by rfl) ?h102 ?r102
    case h102 => (go_simp; (try with_reducible rfl))
    try simp only [Act.put, List.setIfInBounds_toArray, List.set_cons_zero, List.set_cons_succ]
    refine wpList_exec ?v103 (by rfl) ?h103 ?r103
    case h103 => (go_simp; (try with_reducible rfl))
    try simp only [Act.put, List.setIfInBounds_toArray, List.set_cons_zero, List.set_cons_succ]
    refine wpList_exec ?v104 (by rfl) ?h104 ?r104
    case h104 => (go_simp; (try with_reducible rfl))
    try simp only [Act.put, List.setIfInBounds_toArray, List.set_cons_zero, List.set_cons_succ]
    refine wpList_exec ?v105 (by rfl) ?h105 ?r105
    case h105 => (go_simp; (try with_reducible rfl))
    try simp only [Act.put, List.setIfInBounds_toArray, List.set_cons_zero, List.set_cons_succ]
    refine wpList_exec ?v106 (by rfl) ?h106 ?r106
    case h106 => (go_simp; (try with_reducible rfl))
    try simp only [Act.put, List.setIfInBounds_toArray, List.set_cons_zero, List.set_cons_succ]
    refine wpList_exec ?v107 (by rfl) ?h107 ?r107
    case h107 => (go_simp; (try with_reducible rfl))
    try simp only [Act.put, List.setIfInBounds_toArray, List.set_cons_zero, List.set_cons_succ]
    refine wpList_exec ?v108 (by rfl) ?h108 ?r108
    case h108 => (go_simp; (try with_reducible rfl))
    try simp only [Act.put, List.setIfInBounds_toArray, List.set_cons_zero, List.set_cons_succ]
    refine wpList_exec ?v109 (by rfl) ?h109 ?r109
    case h109 => (go_simp; (try with_reducible rfl))
    try simp only [Act.put, List.setIfInBounds_toArray, List.set_cons_zero, List.set_cons_succ]
    refine wpList_exec ?v1010 (by rfl) ?h1010 ?r1010
    case h1010 => (go_simp; (try with_reducible rfl))
    try simp only [Act.put, List.setIfInBounds_toArray, List.set_cons_zero, List.set_cons_succ]
    refine wpList_skip (by rfl) ?_
    try simp only [Act.put, List.setIfInBounds_toArray, List.set_cons_zero, List.set_cons_succ]
    refine wpList_skip (by rfl) ?_
    try simp only [Act.put, List.setIfInBounds_toArray, List.set_cons_zero, List.set_cons_succ]
    refine wpList_exec ?v1013 (by rfl) ?h1013 ?r1013
    case h1013 => (go_simp; (try with_reducible rfl))
    try simp only [Act.put, List.setIfInBounds_toArray, List.set_cons_zero, List.set_cons_succ]
    refine wpList_exec ?v1014 (by rfl) ?h1014 ?r1014
    case h1014 => (go_simp; (try with_reducible rfl))
    try simp only [Act.put, List.setIfInBounds_toArray, List.set_cons_zero, List.set_cons_succ]
    refine wpList_exec ?v1015 (by rfl) ?h1015 ?r1015
    case h1015 => (go_simp; (try with_reducible rfl))
    try simp only [Act.put, List.setIfInBounds_toArray, List.set_cons_zero, List.set_cons_succ]
    refine wpList_exec (.agg (nodeC L)) (by rfl) (exec_load_ints (.tmp 9) rfl w8.heap.size 0 rfl L _ HL14.out.range Try.underlying43 rfl hinfL.out) ?_
    try simp only [Act.put, List.setIfInBounds_toArray, List.set_cons_zero, List.set_cons_succ]
    refine wpList_exec (.agg (nodeC L)) (by rfl) (exec_load_ints (.tmp 11) rfl w12.heap.size 0 rfl L _ HJ.out.range Try.underlying43 rfl hinfL.out) ?_
    try simp only [Act.put, List.setIfInBounds_toArray, List.set_cons_zero, List.set_cons_succ]
    refine wpList_exec (.bool false) (by rfl) (exec_neq (.tmp 63) (.tmp 64) rfl rfl rfl guard43 (Hq2.out _)) ?_
    try simp only [Act.put, List.setIfInBounds_toArray, List.set_cons_zero, List.set_cons_succ]
    refine wpList_exec ?v1016 (by rfl) ?h1016 ?r1016
    case h1016 => (go_simp; (try with_reducible rfl))
    try simp only [Act.put, List.setIfInBounds_toArray, List.set_cons_zero, List.set_cons_succ]
    refine wpList_exec ?v1017 (by rfl) ?h1017 ?r1017
    case h1017 => (go_simp; (try with_reducible rfl))
    try simp only [Act.put, List.setIfInBounds_toArray, List.set_cons_zero, List.set_cons_succ]
    refine wpList_exec ?v1018 (by rfl) ?h1018 ?r1018
    case h1018 => (go_simp; (try with_reducible rfl))
    try simp only [Act.put, List.setIfInBounds_toArray, List.set_cons_zero, List.set_cons_succ]
    refine wpList_exec ?v1019 (by rfl) ?h1019 ?r1019
    case h1019 => (go_simp; (try with_reducible rfl))
    try simp only [Act.put, List.setIfInBounds_toArray, List.set_cons_zero, List.set_cons_succ]
    refine wpList_exec ?v1020 (by rfl) ?h1020 ?r1020
    case h1020 => (go_simp; (try with_reducible rfl))
    try simp only [Act.put, List.setIfInBounds_toArray, List.set_cons_zero, List.set_cons_succ]
    refine wpList_exec ?v1021 (by rfl) ?h1021 ?r1021
    case h1021 => (go_simp; (try with_reducible rfl))
    try simp only [Act.put, List.setIfInBounds_toArray, List.set_cons_zero, List.set_cons_succ]
    refine wpList_exec ?v1022 (by rfl) ?h1022 ?r1022
    case h1022 => (go_simp; (try with_reducible rfl))
    try simp only [Act.put, List.setIfInBounds_toArray, List.set_cons_zero, List.set_cons_succ]
    refine wpList_exec ?v1023 (by rfl) ?h1023 ?r1023
    case h1023 => (go_simp; (try with_reducible rfl))
    try simp only [Act.put, List.setIfInBounds_toArray, List.set_cons_zero, List.set_cons_succ]
    refine wpList_exec ?v1024 (by rfl) ?h1024 ?r1024
    case h1024 => (go_simp; (try with_reducible rfl))
    try simp only [Act.put, List.setIfInBounds_toArray, List.set_cons_zero, List.set_cons_succ]
    refine wpList_exec ?v1025 (by rfl) ?h1025 ?r1025
    case h1025 => (go_simp; (try with_reducible rfl))
    try simp only [Act.put, List.setIfInBounds_toArray, List.set_cons_zero, List.set_cons_succ]
    refine wpList_exec ?v1026 (by rfl) ?h1026 ?r1026
    case h1026 => (go_simp; (try with_reducible rfl))
    try simp only [Act.put, List.setIfInBounds_toArray, List.set_cons_zero, List.set_cons_succ]
    refine wpList_exec ?v1027 (by rfl) ?h1027 ?r1027
    case h1027 => (go_simp; (try with_reducible rfl))
    try simp only [Act.put, List.setIfInBounds_toArray, List.set_cons_zero, List.set_cons_succ]
    refine wpList_exec ?v1028 (by rfl) ?h1028 ?r1028
    case h1028 => (go_simp; (try with_reducible rfl))
    try simp only [Act.put, List.setIfInBounds_toArray, List.set_cons_zero, List.set_cons_succ]
    refine wpList_exec ?v1029 (by rfl) ?h1029 ?r1029
    case h1029 => (go_simp; (try with_reducible rfl))
    try simp only [Act.put, List.setIfInBounds_toArray, List.set_cons_zero, List.set_cons_succ]
    refine wpList_exec ?v1030 (by rfl) ?h1030 ?r1030
    case h1030 => (go_simp; (try with_reducible rfl))
    try simp only [Act.put, List.setIfInBounds_toArray, List.set_cons_zero, List.set_cons_succ]
    go_wp2
    go_ret
    exact ⟨ret_bool (by simp), HB14.out⟩
  · have f1 := HF1.out
    have f2 := HF2.out
    simp at f1 f2
    subst f1 f2
    clear HF1 HF2 HE1 HE2 HL HN Hok His
    go_wp2_with (first
     | (refine wpList_alloc_ints (w := w12) rfl rfl zero43 ?_; intro w13 hN hB hS; have HA13 := hid hN; have HB13 := hid hB; clear hN hB hS)
     | (refine wpList_store_node rfl 43 _ _ rfl w12.heap.size L (nodeL zeroL) 43 rfl rfl HA13.out (by rw [nodeL_length, zeroL_length, Hl.out]) hinfL.out ?_; intro w14 hN hK hS; have hB14 : Below w12.heap.size w12 w14 := HB13.out.trans (hK.below _ (Nat.le_refl _) HB13.out.size); have HJ := hid hN; have HL14 := hid (HL12.out.below hB14); have HN14 := hid (HN12.out.below hB14); have HM14 := hid (HM12.out.below hB14); have HB14 := hid (HB12.out.trans (hB14.mono HB12.out.size)); have hst := hst0 w14 (HO12.out.below hB14); clear hN hK hS hB14)
     | (refine stop_load 24 (.tmp 5) rfl ?_))
    refine Stop.go ?_
    refine wpList_exec (.agg (nodeC (nd nk nl ns nD nr))) (by rfl) (exec_load_ints (.tmp 5) rfl w3.heap.size 0 rfl (nd nk nl ns nD nr) _ HN14.out.range Try.underlying24 rfl hinfN.out) ?_
    try simp only [Act.put, List.setIfInBounds_toArray, List.set_cons_zero, List.set_cons_succ]
    refine wpList_exec (.agg (nodeC (nd nk nl ns nD nr))) (by rfl) (exec_load_ints (.tmp 7) rfl w6.heap.size 0 rfl (nd nk nl ns nD nr) _ HM14.out.range Try.underlying26 rfl hinfM.out) ?_
    try simp only [Act.put, List.setIfInBounds_toArray, List.set_cons_zero, List.set_cons_succ]
    refine wpList_exec (.bool false) (by rfl) (exec_neq (.tmp 45) (.tmp 46) rfl rfl rfl guard24 (Hq1.out _)) ?_
    try simp only [Act.put, List.setIfInBounds_toArray, List.set_cons_zero, List.set_cons_succ]
    refine wpList_exec ?v111 (by rfl) ?h111 ?r111
    case h111 => (go_simp; (try with_reducible rfl))
    try simp only [Act.put, List.setIfInBounds_toArray, List.set_cons_zero, List.set_cons_succ]
    refine wpList_exec ?v112 (by rfl) ?h112 ?r112
    case h112 => (go_simp; (try with_reducible rfl))
    try simp only [Act.put, List.setIfInBounds_toArray, List.set_cons_zero, List.set_cons_succ]
    refine wpList_exec ?v113 (by rfl) ?h113 ?r113
    case h113 => (go_simp; (try with_reducible rfl))
    try simp only [Act.put, List.setIfInBounds_toArray, List.set_cons_zero, List.set_cons_succ]
    refine wpList_exec ?v114 (by rfl) ?h114 ?r114
    case h114 => (go_simp; (try with_reducible rfl))
    try simp only [Act.put, List.setIfInBounds_toArray, List.set_cons_zero, List.set_cons_succ]
    refine wpList_exec ?v115 (by rfl) ?h115 ?r115
    case h115 => (go_simp; (try with_reducible rfl))
    try simp only [Act.put, List.setIfInBounds_toArray, List.set_cons_zero, List.set_cons_succ]
    refine wpList_exec ?v116 (by rfl) ?h116 ?r116
    case h116 => (go_simp; (try with_reducible rfl))
    try simp only [Act.put, List.setIfInBounds_toArray, List.set_cons_zero, List.set_cons_succ]
    refine wpList_exec ?v117 (by rfl) ?h117 ?r117
    case h117 => (go_simp; (try with_reducible rfl))
    try simp only [Act.put, List.setIfInBounds_toArray, List.set_cons_zero, List.set_cons_succ]
    refine wpList_exec ?v118 (by rfl) ?h118 ?r118
    case h118 => (go_simp; (try with_reducible rfl))
    try simp only [Act.put, List.setIfInBounds_toArray, List.set_cons_zero, List.set_cons_succ]
    refine wpList_exec ?v119 (by rfl) ?h119 ?r119
    case h119 => (go_simp; (try with_reducible rfl))
    try simp only [Act.put, List.setIfInBounds_toArray, List.set_cons_zero, List.set_cons_succ]
    refine wpList_exec ?v1110 (by rfl) ?h1110 ?r1110
    case h1110 => (go_simp; (try with_reducible rfl))
    try simp only [Act.put, List.setIfInBounds_toArray, List.set_cons_zero, List.set_cons_succ]
    refine wpList_skip (by rfl) ?_
    try simp only [Act.put, List.setIfInBounds_toArray, List.set_cons_zero, List.set_cons_succ]
    refine wpList_skip (by rfl) ?_
    try simp only [Act.put, List.setIfInBounds_toArray, List.set_cons_zero, List.set_cons_succ]
    refine wpList_exec ?v1113 (by rfl) ?h1113 ?r1113
    case h1113 => (go_simp; (try with_reducible rfl))
    try simp only [Act.put, List.setIfInBounds_toArray, List.set_cons_zero, List.set_cons_succ]
    refine wpList_exec ?v1114 (by rfl) ?h1114 ?r1114
    case h1114 => (go_simp; (try with_reducible rfl))
    try simp only [Act.put, List.setIfInBounds_toArray, List.set_cons_zero, List.set_cons_succ]
    refine wpList_exec ?v1115 (by rfl) ?h1115 ?r1115
    case h1115 => (go_simp; (try with_reducible rfl))
    try simp only [Act.put, List.setIfInBounds_toArray, List.set_cons_zero, List.set_cons_succ]
    refine wpList_exec (.agg (nodeC L)) (by rfl) (exec_load_ints (.tmp 9) rfl w8.heap.size 0 rfl L _ HL14.out.range Try.underlying43 rfl hinfL.out) ?_
    try simp only [Act.put, List.setIfInBounds_toArray, List.set_cons_zero, List.set_cons_succ]
    refine wpList_exec (.agg (nodeC L)) (by rfl) (exec_load_ints (.tmp 11) rfl w12.heap.size 0 rfl L _ HJ.out.range Try.underlying43 rfl hinfL.out) ?_
    try simp only [Act.put, List.setIfInBounds_toArray, List.set_cons_zero, List.set_cons_succ]
    refine wpList_exec (.bool false) (by rfl) (exec_neq (.tmp 63) (.tmp 64) rfl rfl rfl guard43 (Hq2.out _)) ?_
    try simp only [Act.put, List.setIfInBounds_toArray, List.set_cons_zero, List.set_cons_succ]
    refine wpList_exec ?v1116 (by rfl) ?h1116 ?r1116
    case h1116 => (go_simp; (try with_reducible rfl))
    try simp only [Act.put, List.setIfInBounds_toArray, List.set_cons_zero, List.set_cons_succ]
    refine wpList_exec ?v1117 (by rfl) ?h1117 ?r1117
    case h1117 => (go_simp; (try with_reducible rfl))
    try simp only [Act.put, List.setIfInBounds_toArray, List.set_cons_zero, List.set_cons_succ]
    refine wpList_exec ?v1118 (by rfl) ?h1118 ?r1118
    case h1118 => (go_simp; (try with_reducible rfl))
    try simp only [Act.put, List.setIfInBounds_toArray, List.set_cons_zero, List.set_cons_succ]
    refine wpList_exec ?v1119 (by rfl) ?h1119 ?r1119
    case h1119 => (go_simp; (try with_reducible rfl))
    try simp only [Act.put, List.setIfInBounds_toArray, List.set_cons_zero, List.set_cons_succ]
    refine wpList_exec ?v1120 (by rfl) ?h1120 ?r1120
    case h1120 => (go_simp; (try with_reducible rfl))
    try simp only [Act.put, List.setIfInBounds_toArray, List.set_cons_zero, List.set_cons_succ]
    refine wpList_exec ?v1121 (by rfl) ?h1121 ?r1121
    case h1121 => (go_simp; (try with_reducible rfl))
    try simp only [Act.put, List.setIfInBounds_toArray, List.set_cons_zero, List.set_cons_succ]
    refine wpList_exec ?v1122 (by rfl) ?h1122 ?r1122
    case h1122 => (go_simp; (try with_reducible rfl))
    try simp only [Act.put, List.setIfInBounds_toArray, List.set_cons_zero, List.set_cons_succ]
    refine wpList_exec ?v1123 (by rfl) ?h1123 ?r1123
    case h1123 => (go_simp; (try with_reducible rfl))
    try simp only [Act.put, List.setIfInBounds_toArray, List.set_cons_zero, List.set_cons_succ]
    refine wpList_exec ?v1124 (by rfl) ?h1124 ?r1124
    case h1124 => (go_simp; (try with_reducible rfl))
    try simp only [Act.put, List.setIfInBounds_toArray, List.set_cons_zero, List.set_cons_succ]
    refine wpList_exec ?v1125 (by rfl) ?h1125 ?r1125
    case h1125 => (go_simp; (try with_reducible rfl))
    try simp only [Act.put, List.setIfInBounds_toArray, List.set_cons_zero, List.set_cons_succ]
    refine wpList_exec ?v1126 (by rfl) ?h1126 ?r1126
    case h1126 => (go_simp; (try with_reducible rfl))
    try simp only [Act.put, List.setIfInBounds_toArray, List.set_cons_zero, List.set_cons_succ]
    refine wpList_skip (by rfl) ?_
    try simp only [Act.put, List.setIfInBounds_toArray, List.set_cons_zero, List.set_cons_succ]
    refine wpList_skip (by rfl) ?_
    try simp only [Act.put, List.setIfInBounds_toArray, List.set_cons_zero, List.set_cons_succ]
    refine wpList_exec ?v1129 (by rfl) ?h1129 ?r1129
    case h1129 => (go_simp; (try with_reducible rfl))
    try simp only [Act.put, List.setIfInBounds_toArray, List.set_cons_zero, List.set_cons_succ]
    refine wpList_exec ?v1130 (by rfl) ?h1130 ?r1130
    case h1130 => (go_simp; (try with_reducible rfl))
    try simp only [Act.put, List.setIfInBounds_toArray, List.set_cons_zero, List.set_cons_succ]
    go_wp2
    go_ret
    exact ⟨ret_bool (by simp), HB14.out⟩
end Go.Proofs.Ytmjknaldpeoheaa
