/- The walk of inode.Decode, where there are as many bytes as a block has. -/
import Derived.Test.YtmjknaldpeoheaaIno4
namespace Go.Proofs.Ytmjknaldpeoheaa
open Go.RowKit O
set_option linter.unusedVariables false

/-- What is known on the way: a reader, the result's variable, the node, the row of one. -/
structure DS (w : World) (r : Nat) (l : List UInt8) (N M : List Int) (W : World) : Prop where
  reader : IsReader W r l false
  res : IsNode W w.heap.size 24 zeroN
  node : IsNode W (w.heap.size + 1) 24 N
  row : IsNode W (w.heap.size + 2) 58 M
  below : Below w.heap.size w W
  far : w.heap.size + 3 ≤ r
theorem DS.kept {w : World} {r : Nat} {l m : List UInt8} {N M : List Int} {W W' : World} (h : DS w r l N M W) (hr : IsReader W' r m false) (hk : Kept r W W') : DS w r m N M W' :=
  have hf := h.far
  ⟨hr, h.res.kept hk (by omega), h.node.kept hk (by omega), h.row.kept hk (by omega), h.below.trans (hk.below _ (by omega) h.below.size), h.far⟩
theorem DS.set {w : World} {r : Nat} {l : List UInt8} {N M : List Int} {W : World} (h : DS w r l N M W) (i : Nat) (x : Int) : DS w r l (N.set i x) M (W.setCell ⟨w.heap.size + 1, i, none⟩ (.int .i64 x)) :=
  have hf := h.far
  have hk : Kept (w.heap.size + 1) W (W.setCell ⟨w.heap.size + 1, i, none⟩ (.int .i64 x)) := Kept.setCell _ _ _
  ⟨h.reader.keptN h.node hk (by omega), h.res.kept hk (by omega), h.node.setC i x, h.row.kept hk (by omega), h.below.setCell (by simp) _, h.far⟩
theorem DS.cell {w : World} {r : Nat} {l : List UInt8} {N M : List Int} {W : World} (h : DS w r l N M W) (i : Nat) (hi : i < N.length) : ∃ v, W.cell? ⟨w.heap.size + 1, i, none⟩ = some v := ⟨_, h.node.cell i _ (List.getElem?_eq_getElem hi)⟩

theorem DS.took {w : World} {r g : Nat} {l m : List UInt8} {N M N' M' : List Int} {W W' : World} (h : DS w r l N M W) (hg : g = w.heap.size + 1 ∨ g = w.heap.size + 2) (hr : IsReader W' r m false) (hN : IsNode W' (w.heap.size + 1) 24 N') (hM : IsNode W' (w.heap.size + 2) 58 M')
    (hk : ∀ k, k < W.heap.size → k ≠ r → k ≠ g → W'.heap[k]? = W.heap[k]?) (hb : ∀ B, B ≤ r → B ≤ g → B ≤ W.heap.size → Below B W W') : DS w r m N' M' W' :=
  have hf := h.far
  ⟨hr, (hk _ h.res.lt (by omega) (by omega)).trans h.res, hN, hM, h.below.trans (hb _ (by omega) (by omega) h.below.size), h.far⟩

theorem dec_start (w : World) : IsNode (((w.alloc (.cells (nodeC zeroN) 24)).alloc (.cells (nodeC zeroN) 24)).alloc (.cells (nodeC [0]) 58)) w.heap.size 24 zeroN ∧
    IsNode (((w.alloc (.cells (nodeC zeroN) 24)).alloc (.cells (nodeC zeroN) 24)).alloc (.cells (nodeC [0]) 58)) (w.heap.size + 1) 24 zeroN ∧
    IsNode (((w.alloc (.cells (nodeC zeroN) 24)).alloc (.cells (nodeC zeroN) 24)).alloc (.cells (nodeC [0]) 58)) (w.heap.size + 2) 58 [0] ∧
    Below w.heap.size w (((w.alloc (.cells (nodeC zeroN) 24)).alloc (.cells (nodeC zeroN) 24)).alloc (.cells (nodeC [0]) 58)) :=
  ⟨((IsNode.new w _ zeroN).below (below1 _ _)).below (below1 _ _), (IsNode.at (by simp) _ zeroN rfl).below (below1 _ _), IsNode.at (by simp) _ [0] rfl, below3 _ _ _ _⟩

theorem rd_of {l : List UInt8} {k : Nat} (h : k ≤ l.length) : rdB l k = l.take k ∧ rdL l k = l.drop k ∧ rdS l k false = false := by simp [rdB, rdL, rdS, h]
theorem rd_all (l : List UInt8) : rdB l l.length = l ∧ rdL l l.length = [] ∧ rdS l l.length false = false := by
  obtain ⟨h1, h2, h3⟩ := rd_of (l := l) (Nat.le_refl l.length)
  exact ⟨h1.trans (List.take_length ..), h2.trans (List.drop_length ..), h3⟩
theorem num_bd (l : List UInt8) (k m : Nat) (hm : 256 ^ k = m) : num (l.take k) < m := by
  subst hm
  have h := num_lt (l.take k)
  have h2 : (l.take k).length ≤ k := by simp; omega
  exact Nat.lt_of_lt_of_le h (Nat.pow_le_pow_right (by omega) h2)

set_option maxHeartbeats 1000000 in
theorem decode_full (l : List UInt8) (hnl : l.length = 480) (w : World) (a : Option Addr) (c : Nat) (hb : IsBytes w a l) :
    Calls Try.prog 19 #[.slice a 480 c] w fun e w' => e = .returned (.tuple #[.agg (nodeC (decN l)), .int .i64 (decE l)]) ∧ Below w.heap.size w w' := by
  have hlen := hid hnl
  have Hb := hid hb
  have hinf := hid (show (Try.prog.info? 24).map (·.size) = some zeroN.length by kernel_rfl)
  obtain ⟨bk1, bk2⟩ : 0 ≤ dK l ∧ dK l ≤ 255 := by have := num_bd l 1 256 rfl; unfold dK; omega
  obtain ⟨bl1, bl2⟩ : 0 ≤ dL l ∧ dL l ≤ 65535 := by have := num_bd (l.drop 1) 2 65536 rfl; unfold dL; omega
  obtain ⟨bs1, bs2⟩ : 0 ≤ dS l ∧ dS l ≤ 4294967295 := by have := num_bd (l.drop 3) 4 4294967296 rfl; unfold dS; omega
  obtain ⟨br1, br2⟩ : 0 ≤ dR l ∧ dR l ≤ 65535 := by have := num_bd (l.drop 39) 2 65536 rfl; unfold dR; omega
  have H1 := hid (rd_of (l := l) (k := 1) (by omega))
  have H2 := hid (rd_of (l := l.drop 1) (k := 2) (by rw [List.length_drop]; omega))
  have H3 := hid (rd_of (l := l.drop 3) (k := 4) (by rw [List.length_drop]; omega))
  clear hnl hb
  go_enter Try.func19, Try.ntmps19
  go_wp2_with fail
  refine (read_any l 480 hlen.out _ _ _ (by omega) (by exact Hb.out.below (dec_start w).2.2.2)).mono ?_
  rintro e w1 ⟨r, rfl, hr1, hr2, hB⟩
  have hD := hid (⟨hr2, (dec_start w).1.below hB, (dec_start w).2.1.below hB, (dec_start w).2.2.1.below hB, (dec_start w).2.2.2.trans (hB.mono (dec_start w).2.2.2.size), by simpa using hr1⟩ : DS w r l zeroN [0] w1)
  clear hr1 hr2 hB
  go_wp2_with fail
  refine (number_val hD.out.reader (dK l) (l.drop 1) false (by rw [show cl (1 : Int) 8 = 1 from rfl, H1.out.1]; rfl) (by rw [show cl (1 : Int) 8 = 1 from rfl, H1.out.2.1]) (by rw [show cl (1 : Int) 8 = 1 from rfl, H1.out.2.2])).mono ?_
  rintro e w2 ⟨rfl, hr, hk⟩
  replace hD := hid (hD.out.kept hr hk)
  obtain ⟨v0, hv0⟩ := hD.out.cell 0 (by decide)
  have hf0 := hD.out.node.free 0
  clear hr hk
  replace hD := hid (hD.out.set 0 (dK l))
  go_wp2_with fail
  refine (number_val hD.out.reader (dL l) (l.drop 3) false (by rw [show cl (2 : Int) 8 = 2 from rfl, H2.out.1]; rfl) (by rw [show cl (2 : Int) 8 = 2 from rfl, H2.out.2.1, List.drop_drop]) (by rw [show cl (2 : Int) 8 = 2 from rfl, H2.out.2.2])).mono ?_
  rintro e w3 ⟨rfl, hr, hk⟩
  replace hD := hid (hD.out.kept hr hk)
  clear hv0 hf0
  obtain ⟨v1, hv1⟩ := hD.out.cell 1 (by rw [List.length_set]; decide)
  have hf1 := hD.out.node.free 1
  clear hr hk
  replace hD := hid (hD.out.set 1 (dL l))
  go_wp2_with fail
  refine (number_val hD.out.reader (dS l) (l.drop 7) false (by rw [show cl (4 : Int) 8 = 4 from rfl, H3.out.1]; rfl) (by rw [show cl (4 : Int) 8 = 4 from rfl, H3.out.2.1, List.drop_drop]) (by rw [show cl (4 : Int) 8 = 4 from rfl, H3.out.2.2])).mono ?_
  rintro e w4 ⟨rfl, hr, hk⟩
  replace hD := hid (hD.out.kept hr hk)
  clear hv1 hf1
  obtain ⟨v2, hv2⟩ := hD.out.cell 2 (by rw [List.length_set, List.length_set]; decide)
  have hf2 := hD.out.node.free 2
  clear hr hk
  replace hD := hid (show DS w r (l.drop 7) (nd (dK l) (dL l) (dS l) (List.replicate 16 0) 0) [0] _ from hD.out.set 2 (dS l))
  go_wp2_with fail
  refine (takeI_any (l.drop 7) false r (w.heap.size + 1) 3 16 24 _ (by rw [List.length_drop, hlen.out]; omega) (by rw [nd_length _ _ _ _ _ rfl]; omega) (by omega) (by have := hD.out.far; omega) 16 (Nat.le_refl _) _ hD.out.reader hD.out.node).mono ?_
  rintro e w5 ⟨rfl, hr, hN, hsz, hk, hB⟩
  have hrow : IsNode w5 (w.heap.size + 2) 58 [0] := (hk _ hD.out.row.lt (by have := hD.out.far; omega) (by omega)).trans hD.out.row
  replace hD := hid (show DS w r (l.drop 39) (nd (dK l) (dL l) (dS l) (dD l) 0) [0] w5 from hD.out.took (.inl rfl) (by rw [List.drop_drop] at hr; exact hr) (by rw [nd_over _ _ _ _ _ _ rfl (nums2_length _ _)] at hN; exact hN) hrow hk hB)
  clear hr hN hsz hk hB hrow hv2 hf2
  go_wp2_with fail
  refine (takeI_any (l.drop 39) false r (w.heap.size + 2) 0 1 58 _ (by rw [List.length_drop, hlen.out]; omega) (by decide) (by omega) (by have := hD.out.far; omega) 1 (Nat.le_refl _) _ hD.out.reader hD.out.row).mono ?_
  rintro e w6 ⟨rfl, hr, hM, hsz, hk, hB⟩
  have hnode : IsNode w6 (w.heap.size + 1) 24 (nd (dK l) (dL l) (dS l) (dD l) 0) := (hk _ hD.out.node.lt (by have := hD.out.far; omega) (by omega)).trans hD.out.node
  replace hD := hid (show DS w r (l.drop 41) (nd (dK l) (dL l) (dS l) (dD l) 0) [dR l] w6 from hD.out.took (.inr rfl) (by rw [List.drop_drop] at hr; exact hr) hnode hM hk hB)
  clear hr hM hsz hk hB hnode
  have hc0 := hD.out.row.cell 0 (dR l) rfl
  obtain ⟨v19, hv19⟩ := hD.out.cell 19 (by rw [nd_length _ _ _ _ _ (dD_length l)]; omega)
  have hf19 := hD.out.node.free 19
  replace hD := hid (show DS w r (l.drop 41) (nd (dK l) (dL l) (dS l) (dD l) (dR l)) [dR l] _ from (nd_set19 _ _ _ _ _ (dR l) (dD_length l)) ▸ hD.out.set 19 (dR l))
  go_wp2_with fail
  refine (left_any _ _ r _ hD.out.reader).mono ?_
  rintro e w7 ⟨rfl, rfl⟩
  obtain ⟨q, hq⟩ : ∃ q, q = (l.drop 41).length := ⟨_, rfl⟩
  rw [← hq]
  have Hq := hid hq
  have hq1 : q ≤ 480 := by rw [hq, List.length_drop, hlen.out]; omega
  clear hq
  go_wp2_with fail
  refine (bytes_val (z := (q : Int)) hD.out.reader (by rw [← Hq.out]; omega) (l.drop 41) [] false q (by rw [Int.toNat_natCast, Hq.out, (rd_all _).1]) (by rw [Int.toNat_natCast, Hq.out, (rd_all _).2.1]) (by rw [Int.toNat_natCast, Hq.out, (rd_all _).2.2]) Hq.out.symm).mono ?_
  rintro e w8 ⟨A, cc, rfl, hown, hr, hk⟩
  replace hD := hid (hD.out.kept hr hk)
  have hbs := hid hown.row.bytes
  clear hr hk hown hc0 hv19 hf19
  have hinf2 := hid (show (Try.prog.info? 24).map (·.size) = some (nd (dK l) (dL l) (dS l) (dD l) (dR l)).length by rw [nd_length _ _ _ _ _ (dD_length l)]; kernel_rfl)
  go_wp2_with (refine wpList_load_ints rfl 24 _ rfl (w.heap.size + 1) 0 rfl (nd (dK l) (dL l) (dS l) (dD l) (dR l)) _ hD.out.node.range Try.underlying24 rfl hinf2.out ?_)
  refine (right_any _ _ _ _ _ (dD_length l) _).mono ?_
  rintro e w9 ⟨rfl, hB⟩
  replace hD := hid (hD.out.kept (hD.out.reader.below hB) (Kept.of_below hB))
  replace hbs := hid (hbs.out.below hB)
  clear hB
  have hok : decOk l = (right (dK l) (dL l) (dS l) (dD l) (dR l) && !some8 (l.drop 41)) := by
    unfold decOk
    rw [decide_eq_true hlen.out, Bool.true_and]
  have Hok := hid hok
  have hfar := hid hD.out.below
  clear hok
  rcases hrt : right (dK l) (dL l) (dS l) (dD l) (dR l) with _ | _
  · have e1 := hid (show decN l = zeroN by unfold decN; rw [Hok.out, hrt]; rfl)
    have e2 := hid (show decE l = 4 by unfold decE; rw [Hok.out, hrt]; rfl)
    clear hrt
    go_wp2_with (refine wpList_store_node rfl 24 _ _ rfl w.heap.size zeroN (nodeL zeroN) 24 rfl rfl hD.out.res (nodeL_length _) hinf.out ?_; intro w10 hN hK hS; have HN := hid hN; have HK := hid hK; clear hN hK hS)
    have hld := loadVar_node (P := Try.prog) (T := 24) HN.out Try.underlying24 rfl hinf.out
    rw [e1.out, e2.out]
    exact bodyPost_ret (v := .tuple #[.agg (nodeC zeroN), .int .i64 4]) (results_cell Try.results19 rfl rfl hld) rfl ⟨rfl, hfar.out.trans (HK.out.below _ (Nat.le_refl _) hfar.out.size)⟩
  · have hrt' := hid hrt
    clear hrt
    go_wp2_with fail
    refine (containsf_any (l.drop 41) q Hq.out.symm (by omega) _ _ _ hbs.out).mono ?_
    rintro e w10 ⟨rfl, rfl⟩
    rcases hs8 : some8 (l.drop 41) with _ | _
    · have e1 := hid (show decN l = nd (dK l) (dL l) (dS l) (dD l) (dR l) by unfold decN; rw [Hok.out, hrt'.out, hs8]; rfl)
      have e2 := hid (show decE l = 0 by unfold decE; rw [Hok.out, hrt'.out, hs8]; rfl)
      clear hs8
      go_wp2_with (first | (refine wpList_load_ints rfl 24 _ rfl (w.heap.size + 1) 0 rfl (nd (dK l) (dL l) (dS l) (dD l) (dR l)) _ hD.out.node.range Try.underlying24 rfl hinf2.out ?_) | (refine wpList_store_node rfl 24 _ _ rfl w.heap.size (nd (dK l) (dL l) (dS l) (dD l) (dR l)) (nodeL zeroN) 24 rfl rfl hD.out.res (by rw [nodeL_length, nd_length _ _ _ _ _ (dD_length l)]; rfl) hinf2.out ?_; intro w11 hN hK hS; have HN := hid hN; have HK := hid hK; clear hN hK hS))
      have hld := loadVar_node (P := Try.prog) (T := 24) HN.out Try.underlying24 rfl hinf2.out
      rw [e1.out, e2.out]
      exact bodyPost_ret (v := .tuple #[.agg (nodeC (nd (dK l) (dL l) (dS l) (dD l) (dR l))), .int .i64 0]) (results_cell Try.results19 rfl rfl hld) rfl ⟨rfl, hfar.out.trans (HK.out.below _ (Nat.le_refl _) hfar.out.size)⟩
    · have e1 := hid (show decN l = zeroN by unfold decN; rw [Hok.out, hrt'.out, hs8]; rfl)
      have e2 := hid (show decE l = 4 by unfold decE; rw [Hok.out, hrt'.out, hs8]; rfl)
      clear hs8
      go_wp2_with (refine wpList_store_node rfl 24 _ _ rfl w.heap.size zeroN (nodeL zeroN) 24 rfl rfl hD.out.res (nodeL_length _) hinf.out ?_; intro w10 hN hK hS; have HN := hid hN; have HK := hid hK; clear hN hK hS)
      have hld := loadVar_node (P := Try.prog) (T := 24) HN.out Try.underlying24 rfl hinf.out
      rw [e1.out, e2.out]
      exact bodyPost_ret (v := .tuple #[.agg (nodeC zeroN), .int .i64 4]) (results_cell Try.results19 rfl rfl hld) rfl ⟨rfl, hfar.out.trans (HK.out.below _ (Nat.le_refl _) hfar.out.size)⟩

theorem decode_any (l : List UInt8) (n : Nat) (hnl : l.length = n) (w : World) (a : Option Addr) (c : Nat) (hb : IsBytes w a l) :
    Calls Try.prog 19 #[.slice a n c] w fun e w' => e = .returned (.tuple #[.agg (nodeC (decN l)), .int .i64 (decE l)]) ∧ Below w.heap.size w w' := by
  by_cases h : n = 480
  · subst h
    exact decode_full l hnl w a c hb
  · exact decode_short l n hnl h w a c
end Go.Proofs.Ytmjknaldpeoheaa
