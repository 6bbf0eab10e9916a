/- The walk of TagBack. -/
import Derived.Test.YtmfncpifalnggaaShown
import Derived.Test.YtmfncpifalnggaaTagB
import Derived.Test.YtmfncpifalnggaaStop
namespace Go.Proofs.Ytmfncpifalnggaa
open Go.RowKit O
set_option linter.unusedVariables false

theorem IsV.setB {w : World} {g : Nat} {T : TypeId} {l : List UInt8} (h : IsV w g T (l.map byteV)) (m : Nat) (x : UInt8) : IsV (w.setCell ⟨g, m, none⟩ (.int .u8 (n8 x))) g T ((l.set m x).map byteV) := by
  have := h.setC m (byteV x)
  rw [← List.map_set] at this
  exact this

set_option maxHeartbeats 8000000 in
set_option maxRecDepth 20000 in
theorem walk_TagBack (w : World) (e s q f : Nat) (i c d : Int) (he : e < 4294967296) (hb : s < 18446744073709551616 ∧ q < 18446744073709551616 ∧ f < 18446744073709551616) (hi : -9223372036854775808 ≤ i ∧ i ≤ 9223372036854775807) (hc : -9223372036854775808 ≤ c ∧ c ≤ 9223372036854775807) (hd : -9223372036854775808 ≤ d ∧ d ≤ 9223372036854775807)
    (a : Option Addr) (l : List UInt8) (c0 : Nat) (hbl : IsBytes w a l) (hlc : l.length ≤ c0) (hcm : c0 ≤ maxLen) (z : Int) (hz : -9223372036854775808 ≤ z ∧ z ≤ 9223372036854775807) (ch : UInt8) :
    Calls Try.prog 5 #[.agg (tagV e s q f i c d), .slice a l.length c0, .int .i64 z, .int .u8 (n8 ch)] w fun x w' => x = .returned (.bool true) ∧ Below w.heap.size w w' := by
  obtain ⟨m, hmask, hm⟩ := and_mask z 31 31 rfl (by omega)
  have Hmask := hid hmask
  obtain ⟨n, hn⟩ : ∃ n, n = l.length := ⟨_, rfl⟩
  rw [← hn]
  have Hn := hid hn
  clear hn
  have Hbl := hid hbl
  clear hb hi hc hd hlc hcm hz hmask hbl
  obtain ⟨w0, hw0⟩ : ∃ w0, w0 = w.alloc (.cells (tagL e s q f i c d).toArray 25) := ⟨_, rfl⟩
  have HB0 := hid (show Below w.heap.size w w0 by rw [hw0]; exact below1 _ _)
  have HT := hid (show IsV w0 w.heap.size 25 (tagL e s q f i c d) by rw [hw0]; exact IsV.new w _ _)
  obtain ⟨T, hT⟩ : ∃ T, T = tagL e s q f i c d := ⟨_, rfl⟩
  rw [show tagV e s q f i c d = T.toArray by rw [hT]; rfl]
  rw [← hT] at HT hw0
  have HTe := hid hT
  have hlT := hid (show (Try.prog.info? 25).map (·.size) = some T.length by rw [hT]; exact size25)
  have hl7 := hid (show zeroT.length = T.length by rw [hT]; rfl)
  have hone := hid (show ∀ v ∈ T, v.oneCell' = true by rw [hT]; exact tagL_one _ _ _ _ _ _ _)
  have Hself := hid (fun (W : World) => show (Op.equalIn 10000 25 (.agg T.toArray) (.agg T.toArray)).run Try.prog W = .ok true W by
    have := eq_tag e s q f i c d e s q f i c d W
    rw [hT]
    rwa [decide_eq_true (by simp)] at this)
  clear hT
  go_enter Try.func5, Try.ntmps5
  go_wp2_with fail
  rw [← hw0]
  clear hw0
  refine (shown_any _).mono ?_
  rintro x w1 ⟨rfl, hB⟩
  have HB1 := hid (HB0.out.trans (hB.mono HB0.out.size))
  have HT1 := hid (HT.out.below hB)
  have Hbl1 := hid (Hbl.out.below HB1.out)
  have Hlow := hid (show ∀ b off, l ≠ [] → a = some ⟨b, off, none⟩ → b < w.heap.size from fun b off h1 h2 => Hbl.out.low h1 b off h2)
  clear hB HB0 HT Hbl
  go_wp2_with (refine wpList_load_V (.tmp 4) rfl w.heap.size rfl T _ HT1.out Try.underlying25 rfl hlT.out (by rfl) ?_)
  by_cases hgood : right e s q f i c d = true ∧ n = 480
  case neg =>
    have hbad : right e s q f i c d = false ∨ n ≠ 480 := by
      by_cases h1 : n = 480
      · left
        cases h2 : right e s q f i c d with
        | false => rfl
        | true => exact absurd ⟨h2, h1⟩ hgood
      · exact .inr h1
    rw [HTe.out, show (tagL e s q f i c d).toArray = tagV e s q f i c d from rfl]
    refine (encode_no e s q f i c d n hbad _ _ _).mono ?_
    rintro x w2 ⟨rfl, hB⟩
    rw [show tagV e s q f i c d = T.toArray by rw [HTe.out]; rfl]
    have HB2 := hid (HB1.out.trans (hB.mono HB1.out.size))
    clear hB hbad hgood
    go_wp2
    go_ret
    exact ⟨rfl, HB2.out⟩
  obtain ⟨hr, rfl⟩ := hgood
  obtain ⟨i, c, d, rfl, rfl, rfl⟩ := nat_of_right hr
  have hln : l.length = 480 := Hn.out.symm
  have Hln := hid hln
  have Hr := hid hr
  rw [HTe.out, show (tagL e s q f i c d).toArray = tagV e s q f i c d from rfl]
  refine (encode_yes e s q f i c d he hr l hln _ _ _ Hbl1.out).mono ?_
  rintro x w2 ⟨g, rfl, hge, hE, hB⟩
  rw [show tagV e s q f i c d = T.toArray by rw [HTe.out]; rfl]
  obtain ⟨X, hX⟩ : ∃ X, X = head e s q f i c d ++ l := ⟨_, rfl⟩
  rw [← hX] at hE
  have HX := hid hX
  have HXl := hid (show X.length = 512 by rw [hX, List.length_append, head_length, hln])
  have Hok := hid (show tagOk X = true by rw [hX]; exact back_ok he hr l hln)
  have Htk := hid (show tk X 9 = T by rw [hX, HTe.out]; exact back_tk he hr l)
  have Hdr := hid (show X.drop 32 = l by rw [hX]; exact head_drop _ _ _ _ _ _ _ _)
  have HE2 := hid hE
  have HB2 := hid (HB1.out.trans (hB.mono HB1.out.size))
  have HT2 := hid (HT1.out.below hB)
  have Hbl2 := hid (Hbl1.out.below hB)
  have Hgw := hid (show w.heap.size < g from Nat.lt_of_lt_of_le HT1.out.lt hge)
  clear hX hE hB hge HB1 HT1 Hbl1 hr hln
  go_wp2_with fail
  refine (decode_full X HXl.out w2 _ 512 HE2.out.bytes (Nat.le_refl _)).mono ?_
  rintro x w3 ⟨⟨h, -⟩ | ⟨-, A, cc, rfl, hown⟩, hB⟩
  · rw [Hok.out] at h
    cases h
  rw [Htk.out]
  rw [Hdr.out] at hown
  obtain ⟨ga, rfl, hga1, hga2⟩ := hown.form (by intro h0; have := congrArg List.length h0; rw [List.length_map, Hln.out] at this; simp at this)
  have HO3 := hid hown
  have HB3 := hid (HB2.out.trans (hB.mono HB2.out.size))
  have HT3 := hid (HT2.out.below hB)
  have Hbl3 := hid (Hbl2.out.below hB)
  have HE3 := hid (HE2.out.below hB)
  have Hga := hid (show g < ga from Nat.lt_of_lt_of_le HE2.out.lt hga1)
  have hga2' := hid hga2
  clear hown hB HB2 HT2 Hbl2 HE2 hga1 hga2
  go_wp2_with (first
    | (refine wpList_alloc_V rfl rfl zero25 ?_; intro w4 hN hB hS; have HN4 := hid hN; have HB4 := hid hB; clear hN hB hS)
    | (refine wpList_store_V 25 (.tmp 12) (.tmp 40) rfl w3.heap.size T zeroT 25 rfl rfl HN4.out hl7.out hlT.out hone.out (by rfl) ?_; intro w5 hN hK hS; have hB5 : Below w3.heap.size w3 w5 := HB4.out.trans (hK.below _ (Nat.le_refl _) HB4.out.size); have HU5 := hid hN; have HB5 := hid (HB3.out.trans (hB5.mono HB3.out.size)); have HT5 := hid (HT3.out.below hB5); have HE5 := hid (HE3.out.below hB5); have Hbl5 := hid (Hbl3.out.below hB5); have HO5 := hid (HO3.out.keep hB5); have hsc := str_any (c := cc) Hln.out HO5.out.row.bytes; have hsb := str_any (c := c0) Hln.out Hbl5.out; clear hN hK hS hB5)
    | (refine stop_load 25 (.tmp 12) rfl ?_))
  refine Stop.go ?_
  refine wpList_exec (.agg T.toArray) (by rfl) (exec_load_V (.tmp 12) rfl w3.heap.size rfl T _ HU5.out Try.underlying25 rfl hlT.out) ?_
  try simp only [Act.put, List.setIfInBounds_toArray, List.set_cons_zero, List.set_cons_succ]
  refine wpList_exec (.agg T.toArray) (by rfl) (exec_load_V (.tmp 4) rfl w.heap.size rfl T _ HT5.out Try.underlying25 rfl hlT.out) ?_
  try simp only [Act.put, List.setIfInBounds_toArray, List.set_cons_zero, List.set_cons_succ]
  refine wpList_exec (.bool false) (by rfl) (exec_neq (.tmp 46) (.tmp 47) rfl rfl rfl guard25 (Hself.out _)) ?_
  try simp only [Act.put, List.setIfInBounds_toArray, List.set_cons_zero, List.set_cons_succ]
  refine wpList_exec ?vr6_1 (by rfl) ?hr6_1 ?rr6_1
  case hr6_1 => (go_simp; (try with_reducible rfl))
  try simp only [Act.put, List.setIfInBounds_toArray, List.set_cons_zero, List.set_cons_succ]
  refine wpList_exec ?vr6_2 (by rfl) ?hr6_2 ?rr6_2
  case hr6_2 => (go_simp; (try with_reducible rfl))
  try simp only [Act.put, List.setIfInBounds_toArray, List.set_cons_zero, List.set_cons_succ]
  refine wpList_exec ?vr6_3 (by rfl) ?hr6_3 ?rr6_3
  case hr6_3 => (go_simp; (try with_reducible rfl))
  try simp only [Act.put, List.setIfInBounds_toArray, List.set_cons_zero, List.set_cons_succ]
  refine wpList_exec ?vr6_4 (by rfl) ?hr6_4 ?rr6_4
  case hr6_4 => (go_simp; (try with_reducible rfl))
  try simp only [Act.put, List.setIfInBounds_toArray, List.set_cons_zero, List.set_cons_succ]
  refine wpList_exec ?vr6_5 (by rfl) ?hr6_5 ?rr6_5
  case hr6_5 => (go_simp; (try with_reducible rfl))
  try simp only [Act.put, List.setIfInBounds_toArray, List.set_cons_zero, List.set_cons_succ]
  refine wpList_exec ?vr6_6 (by rfl) ?hr6_6 ?rr6_6
  case hr6_6 => (go_simp; (try with_reducible rfl))
  try simp only [Act.put, List.setIfInBounds_toArray, List.set_cons_zero, List.set_cons_succ]
  refine wpList_exec ?vr6_7 (by rfl) ?hr6_7 ?rr6_7
  case hr6_7 => (go_simp; (try with_reducible rfl))
  try simp only [Act.put, List.setIfInBounds_toArray, List.set_cons_zero, List.set_cons_succ]
  refine wpList_exec ?vr6_8 (by rfl) ?hr6_8 ?rr6_8
  case hr6_8 => (go_simp; (try with_reducible rfl))
  try simp only [Act.put, List.setIfInBounds_toArray, List.set_cons_zero, List.set_cons_succ]
  refine wpList_exec ?vr6_9 (by rfl) ?hr6_9 ?rr6_9
  case hr6_9 => (go_simp; (try with_reducible rfl))
  try simp only [Act.put, List.setIfInBounds_toArray, List.set_cons_zero, List.set_cons_succ]
  refine wpList_exec ?vr6_10 (by rfl) ?hr6_10 ?rr6_10
  case hr6_10 => (go_simp; (try with_reducible rfl))
  try simp only [Act.put, List.setIfInBounds_toArray, List.set_cons_zero, List.set_cons_succ]
  refine wpList_exec ?vr6_11 (by rfl) ?hr6_11 ?rr6_11
  case hr6_11 => (go_simp; (try with_reducible rfl))
  try simp only [Act.put, List.setIfInBounds_toArray, List.set_cons_zero, List.set_cons_succ]
  refine wpList_exec ?vr6_12 (by rfl) ?hr6_12 ?rr6_12
  case hr6_12 => (go_simp; (try with_reducible rfl))
  try simp only [Act.put, List.setIfInBounds_toArray, List.set_cons_zero, List.set_cons_succ]
  refine wpList_exec ?vr6_13 (by rfl) ?hr6_13 ?rr6_13
  case hr6_13 => (go_simp; (try with_reducible rfl))
  try simp only [Act.put, List.setIfInBounds_toArray, List.set_cons_zero, List.set_cons_succ]
  go_wp2_with fail
  clear hsc hsb HB3 HT3 Hbl3 HE3 HO3 HN4 HB4
  go_loopw [15] (fun j wr => ∃ k : Nat, k ≤ 480 ∧ j = .int .i64 k ∧ Kept ga w5 wr ∧ ∃ xs : List UInt8, xs.length = 480 ∧ Own 5 w2.heap.size wr (some ⟨ga, 0, none⟩) cc (xs.map byteV)) (fun j _ => 480 - (intOf j).toNat)
  case atStart => exact ⟨0, by omega, rfl, Kept.refl _ _, l, Hln.out, HO5.out⟩
  case round =>
    obtain ⟨k, hk, rfl, hK, xs, hxs, hO⟩ := hrel
    have HK := hid hK
    have HOk := hid hO
    have Hxs := hid hxs
    clear hK hO hxs
    by_cases hk480 : k < 480
    · have hf := HOk.out.unfrozen k
      obtain ⟨u, hu⟩ : ∃ u, wr.cell? ⟨ga, k, none⟩ = some u := ⟨_, HOk.out.cell k (by rw [List.length_map, Hxs.out]; exact hk480)⟩
      have HO2 := hid (show Own 5 w2.heap.size (wr.setCell ⟨ga, k, none⟩ (.int .u8 7)) (some ⟨ga, 0, none⟩) cc ((xs.set k 7).map byteV) by
        have := HOk.out.set k (byteV 7)
        rw [← List.map_set] at this
        exact this)
      go_wp2
      go_roundw
      case rel => exact ⟨k + 1, by omega, by go_num, HK.out.trans (Kept.setCell _ _ _), xs.set k 7, by rw [List.length_set]; exact Hxs.out, HO2.out⟩
      case measure => simp [intOf]; omega
    · obtain rfl : k = 480 := by omega
      have HT6 := hid (HT5.out.kept HK.out (Nat.ne_of_lt (Nat.lt_trans Hgw.out Hga.out)))
      have HE6 := hid (HE5.out.kept HK.out (Nat.ne_of_lt Hga.out))
      have Hbl6 := hid (show IsBytes wr a l from Hbl5.out.keptV HK.out (fun b off hh => by have := Hlow.out b off (by intro h0; have := Hln.out; rw [h0] at this; cases this) hh; have := Hgw.out; have := Hga.out; omega))
      have HB6 := hid (HB5.out.trans (HK.out.below _ (Nat.le_of_lt (Nat.lt_trans Hgw.out Hga.out)) HB5.out.size))
      clear HK HOk Hxs hk480 hk HT5 HE5 Hbl5 HB5 HU5 HO5
      go_wp2_with fail
      refine (decode_full X HXl.out _ _ 512 HE6.out.bytes (Nat.le_refl _)).mono ?_
      rintro x w7 ⟨⟨h, -⟩ | ⟨-, A2, cc2, rfl, hown⟩, hB⟩
      · rw [Hok.out] at h
        cases h
      rw [Htk.out]
      rw [Hdr.out] at hown
      have HO7 := hid hown.row.bytes
      have HB7 := hid (HB6.out.trans (hB.mono HB6.out.size))
      have HT7 := hid (HT6.out.below hB)
      have Hbl7 := hid (Hbl6.out.below hB)
      have HE7 := hid (HE6.out.below hB)
      obtain ⟨x0, hx0⟩ : ∃ x0, X[m]? = some x0 := ⟨_, List.getElem?_eq_getElem (by rw [HXl.out]; omega)⟩
      have Hx0 := hid hx0
      have hmask := Hmask.out
      have hadd := u8_add x0 ch
      have hadd2 : (n8 x0 + n8 ch) % 256 = n8 (x0 + ch) := by rw [← hadd]; simp [IntKind.wrap, IntKind.bits, IntKind.signed]
      clear hown hB HB6 HT6 Hbl6 HE6 hx0
      go_wp2_with (first
        | (refine wpList_alloc_V rfl rfl zero25 ?_; intro w8 hN hB hS; have HN8 := hid hN; have HB8 := hid hB; clear hN hB hS)
        | (refine wpList_store_V 25 (.tmp 16) (.tmp 74) rfl w7.heap.size T zeroT 25 rfl rfl HN8.out hl7.out hlT.out hone.out (by rfl) ?_; intro w9 hN hK hS; have hB9 : Below w7.heap.size w7 w9 := HB8.out.trans (hK.below _ (Nat.le_refl _) HB8.out.size); have HB9 := hid (HB7.out.trans (hB9.mono HB7.out.size)); have HT9 := hid (HT7.out.below hB9); have HE9 := hid (HE7.out.below hB9); have hsd := str_any (c := cc2) Hln.out (HO7.out.below hB9); have hsb := str_any (c := c0) Hln.out (Hbl7.out.below hB9); have hcm : w9.cell? ⟨g, m, none⟩ = some (.int .u8 (n8 x0)) := (HE9.out.cell m).trans (by rw [List.getElem?_map, Hx0.out]; first | rfl | done); have hfm := HE9.out.free m; clear hN hK hS hB9))
      clear hsd hsb hmask hadd2
      obtain ⟨l3, hl3⟩ : ∃ l3, l3 = X.set m (x0 + ch) := ⟨_, rfl⟩
      have HE10 := hid (show IsV (w9.setCell ⟨g, m, none⟩ (.int .u8 (n8 (x0 + ch)))) g 5 (l3.map byteV) by rw [hl3]; exact HE9.out.setB m (x0 + ch))
      have HB10 := hid (HB9.out.setCell (p := ⟨g, m, none⟩) (Nat.le_of_lt Hgw.out) (.int .u8 (n8 (x0 + ch))))
      have HT10 := hid (show IsV (w9.setCell ⟨g, m, none⟩ (.int .u8 (n8 (x0 + ch)))) w.heap.size 25 T from HT9.out.kept (Kept.setCell _ _ _) (Nat.ne_of_lt Hgw.out))
      have Hl3 := hid hl3
      have Hl3l := hid (show l3.length = 512 by rw [hl3, List.length_set]; exact HXl.out)
      clear hl3 hcm hfm HE9 HB9 HT9 HN8 HB8
      refine (decode_full l3 Hl3l.out _ _ 512 HE10.out.bytes (Nat.le_refl _)).mono ?_
      rintro x wb ⟨⟨h, rfl⟩ | ⟨h, A3, cc3, rfl, hown3⟩, hB⟩
      · have HBb := hid (HB10.out.trans (hB.mono HB10.out.size))
        have HTb := hid (HT10.out.below hB)
        clear hB h hadd
        by_cases hch : ch = 0
        · have hc8 : (n8 ch == 0) = true := by rw [hch]; rfl
          go_wp2_with (first
            | (refine wpList_alloc_V rfl rfl zero25 ?_; intro wc hN hB hS; have HNc := hid hN; have HBc := hid hB; clear hN hB hS)
            | (refine wpList_store_V 25 (.tmp 19) (.tmp 96) rfl wb.heap.size zeroT zeroT 25 rfl rfl HNc.out rfl size25 zeroT_one (by rfl) ?_; intro wd hN hK hS; have hBd : Below wb.heap.size wb wd := HBc.out.trans (hK.below _ (Nat.le_refl _) HBc.out.size); have HVd := hid hN; have HTd := hid (HTb.out.below hBd); have HBd := hid (HBb.out.trans (hBd.mono HBb.out.size)); clear hN hK hS hBd))
          go_ret
          exact ⟨rfl, HBd.out⟩
        · have hc8 : (n8 ch == 0) = false := by rw [show (0 : Int) = n8 0 from rfl, n8_beq]; simpa using hch
          go_wp2_with (first
            | (refine wpList_alloc_V rfl rfl zero25 ?_; intro wc hN hB hS; have HNc := hid hN; have HBc := hid hB; clear hN hB hS)
            | (refine wpList_store_V 25 (.tmp 19) (.tmp 96) rfl wb.heap.size zeroT zeroT 25 rfl rfl HNc.out rfl size25 zeroT_one (by rfl) ?_; intro wd hN hK hS; have hBd : Below wb.heap.size wb wd := HBc.out.trans (hK.below _ (Nat.le_refl _) HBc.out.size); have HVd := hid hN; have HTd := hid (HTb.out.below hBd); have HBd := hid (HBb.out.trans (hBd.mono HBb.out.size)); clear hN hK hS hBd))
          go_ret
          exact ⟨rfl, HBd.out⟩
      · have HBb := hid (HB10.out.trans (hB.mono HB10.out.size))
        have HTb := hid (HT10.out.below hB)
        have h9 := hid (show zeroT.length = (tk l3 9).length by rw [tk_length]; rfl)
        have hl9 := hid (show (Try.prog.info? 25).map (·.size) = some (tk l3 9).length by rw [tk_length]; exact size25)
        have ho9 := hid (show ∀ v ∈ tk l3 9, v.oneCell' = true by rw [tk_all]; exact tagL_one _ _ _ _ _ _ _)
        have Hne := hid (fun (hne : ch ≠ 0) (W : World) => show (Op.equalIn 10000 25 (.agg (tk l3 9).toArray) (.agg T.toArray)).run Try.prog W = .ok false W by
          have h1 := eq_tag (fn l3 1) (fn l3 4) (fn l3 2) (fn l3 3) (fn l3 5) (fn l3 6) (fn l3 7) e s q f i c d W
          have h2 := turned_head (e := e) (s := s) (q := q) (f := f) (i := i) (c := c) (d := d) l m (by omega) x0 ch (by rw [← HX.out]; exact Hx0.out) hne (by rw [← HX.out, ← Hl3.out]; exact h)
          rw [← HX.out, ← Hl3.out] at h2
          rw [h2] at h1
          rw [tk_all, HTe.out]
          exact h1)
        clear hB h hown3 hadd
        generalize tk l3 9 = N3 at *
        by_cases hch : ch = 0
        · have hc8 : (n8 ch == 0) = true := by rw [hch]; rfl
          go_wp2_with (first
            | (refine wpList_alloc_V rfl rfl zero25 ?_; intro wc hN hB hS; have HNc := hid hN; have HBc := hid hB; clear hN hB hS)
            | (refine wpList_store_V 25 (.tmp 19) (.tmp 96) rfl wb.heap.size N3 zeroT 25 rfl rfl HNc.out h9.out hl9.out ho9.out (by rfl) ?_; intro wd hN hK hS; have hBd : Below wb.heap.size wb wd := HBc.out.trans (hK.below _ (Nat.le_refl _) HBc.out.size); have HVd := hid hN; have HTd := hid (HTb.out.below hBd); have HBd := hid (HBb.out.trans (hBd.mono HBb.out.size)); clear hN hK hS hBd))
          go_ret
          exact ⟨rfl, HBd.out⟩
        · have hc8 : (n8 ch == 0) = false := by rw [show (0 : Int) = n8 0 from rfl, n8_beq]; simpa using hch
          go_wp2_with (first
            | (refine wpList_alloc_V rfl rfl zero25 ?_; intro wc hN hB hS; have HNc := hid hN; have HBc := hid hB; clear hN hB hS)
            | (refine wpList_store_V 25 (.tmp 19) (.tmp 96) rfl wb.heap.size N3 zeroT 25 rfl rfl HNc.out h9.out hl9.out ho9.out (by rfl) ?_; intro wd hN hK hS; have hBd : Below wb.heap.size wb wd := HBc.out.trans (hK.below _ (Nat.le_refl _) HBc.out.size); have HVd := hid hN; have HTd := hid (HTb.out.below hBd); have HBd := hid (HBb.out.trans (hBd.mono HBb.out.size)); clear hN hK hS hBd)
            | (refine stop_load 25 (.tmp 19) rfl ?_))
          refine Stop.go ?_
          refine wpList_exec (.agg N3.toArray) (by rfl) (exec_load_V (.tmp 19) rfl wb.heap.size rfl N3 _ HVd.out Try.underlying25 rfl hl9.out) ?_
          try simp only [Act.put, List.setIfInBounds_toArray, List.set_cons_zero, List.set_cons_succ]
          refine wpList_exec (.agg T.toArray) (by rfl) (exec_load_V (.tmp 4) rfl w.heap.size rfl T _ HTd.out Try.underlying25 rfl hlT.out) ?_
          try simp only [Act.put, List.setIfInBounds_toArray, List.set_cons_zero, List.set_cons_succ]
          refine wpList_exec (.bool true) (by rfl) (exec_neq (.tmp 108) (.tmp 109) rfl rfl rfl guard25 (Hne.out hch _)) ?_
          try simp only [Act.put, List.setIfInBounds_toArray, List.set_cons_zero, List.set_cons_succ]
          refine wpList_exec ?vyb_1 (by rfl) ?hyb_1 ?ryb_1
          case hyb_1 => (go_simp; (try with_reducible rfl))
          try simp only [Act.put, List.setIfInBounds_toArray, List.set_cons_zero, List.set_cons_succ]
          refine wpList_exec ?vyb_2 (by rfl) ?hyb_2 ?ryb_2
          case hyb_2 => (go_simp; (try with_reducible rfl))
          try simp only [Act.put, List.setIfInBounds_toArray, List.set_cons_zero, List.set_cons_succ]
          refine wpList_exec ?vyb_3 (by rfl) ?hyb_3 ?ryb_3
          case hyb_3 => (go_simp; (try with_reducible rfl))
          try simp only [Act.put, List.setIfInBounds_toArray, List.set_cons_zero, List.set_cons_succ]
          go_wp2_with fail
          go_ret
          exact ⟨rfl, HBd.out⟩
end Go.Proofs.Ytmfncpifalnggaa
