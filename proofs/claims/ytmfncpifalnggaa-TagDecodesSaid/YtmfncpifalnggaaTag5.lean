/- The walk of tag.Encode, of a right tag and a block. -/
import Derived.Test.YtmfncpifalnggaaTag5a
namespace Go.Proofs.Ytmfncpifalnggaa
open Go.RowKit O
set_option linter.unusedVariables false

set_option maxHeartbeats 20000000 in
set_option maxRecDepth 20000 in
theorem encode_yes (e s q f i c d : Nat) (he : e < 4294967296) (h : right e s q f i c d = true) (l : List UInt8) (hl : l.length = 480) (w : World) (a : Option Addr) (cc : Nat) (hb : IsBytes w a l) :
    Calls Try.prog 10 #[.agg (tagV e s q f i c d), .slice a 480 cc] w fun x w' => ∃ g, x = .returned (.tuple #[.slice (some ⟨g, 0, none⟩) 512 512, .int .i64 0]) ∧ w.heap.size ≤ g ∧ IsV w' g 5 ((head e s q f i c d ++ l).map byteV) ∧ Below w.heap.size w w' := by
  obtain ⟨-, -, -, hq1, hf1, -, hc1, -, hi1, -, hd1⟩ := right_of h
  have hs1 : s ≤ q := (right_of h).2.2.1
  have HT := hid (IsV.new w 25 (tagL e s q f i c d))
  have HB := hid (below1 w (.cells (tagL e s q f i c d).toArray 25))
  have Hbl := hid hb
  have Hl := hid hl
  have Hlow := hid (hb.low (by intro h0; rw [h0] at hl; cases hl))
  have hi1' : i < c := by omega
  have hc1' : c ≤ 72 := by omega
  have hd1' : d < 3840 := by omega
  have Hpl := hid (pre_length e s q f i c d)
  have Hval : Hid (∀ k, fval e s q f i c d k < 18446744073709551616) := hid (by
    intro k
    match k with
    | 0 => show 1465012808 < _; omega
    | 1 => show e < _; omega
    | 2 => show q < _; omega
    | 3 => show f < _; omega
    | 4 => show s < _; omega
    | 5 => show i < _; omega
    | 6 => show c < _; omega
    | 7 => show d < _; omega
    | 8 => show 0 < _; omega
    | k + 9 => show 0 < _; omega)
  obtain ⟨T, hT⟩ : ∃ T, T = tagV e s q f i c d := ⟨_, rfl⟩
  have e1 : (tagL e s q f i c d).toArray = T := hT.symm
  rw [← hT]
  have Hr := hid (show ∀ W, Calls Try.prog 11 #[.agg T] W fun x w' => x = .returned (.bool true) ∧ Below W.heap.size W w' from fun W => hT ▸ (h ▸ right_any e s q f i c d W))
  rw [e1] at HT HB
  have E1 := hid e1
  have ET := hid hT
  obtain ⟨w9, hmk0, hm, hB9, hS9⟩ := make0_V (t := 26) elemU8 (w := w) .i64 .i64 512 (by omega) (by omega)
  clear hmk0 hm hB9 hS9 w9
  clear hT e1 h hb hl
  go_enter Try.func10, Try.ntmps10
  go_wp2_with (refine wpList_load_V (.tmp 2) rfl w.heap.size rfl (tagL e s q f i c d) _ HT.out Try.underlying25 rfl size25 (by rfl) ?_)
  rw [E1.out]
  refine (Hr.out _).mono ?_
  rintro x w1 ⟨rfl, hB⟩
  have HB1 := hid (HB.out.trans (hB.mono HB.out.size))
  have HT1 := hid (HT.out.below hB)
  clear hB HB HT
  obtain ⟨w2, hmk, hm, hB2, hS2⟩ := make0_V (t := 26) elemU8 (w := w1) .i64 .i64 512 (by omega) (by omega)
  have HG2 := hid hm
  have HB2 := hid (HB1.out.trans (hB2.mono HB1.out.size))
  have HT2 := hid (HT1.out.below hB2)
  have Hbl2 := hid (Hbl.out.below HB2.out)
  have Hg := hid (show w.heap.size < w1.heap.size from HT1.out.lt)
  obtain ⟨g, hg⟩ : ∃ g, g = w1.heap.size := ⟨_, rfl⟩
  rw [← hg] at hmk HG2 Hg
  clear hm hB2 hS2 hg HB1 HT1 Hbl
  go_wp2_with (at_make; refine wpList_make_run hmk rfl rfl rfl rfl ?_)
  refine (fields_any _).mono ?_
  rintro x w3 ⟨p0, p2, p3, p4, p5, p6, p7, p8, rfl, hX, hB⟩
  have HX3 := hid hX
  have HG3 := hid (HG2.out.below hB)
  have HT3 := hid (HT2.out.below hB)
  have HB3 := hid (HB2.out.trans (hB.mono HB2.out.size))
  have Hbl3 := hid (Hbl2.out.below hB)
  have hXg := hid (show g ≠ p0 ∧ g ≠ p2 ∧ g ≠ p3 ∧ g ≠ p4 ∧ g ≠ p5 ∧ g ≠ p6 ∧ g ≠ p7 ∧ g ≠ p8 from box_ne hX HG3.out)
  clear hX hB HG2 HT2 HB2 Hbl2 hmk
  obtain ⟨F, hF⟩ : ∃ F, F = (fieldsL p0 p2 p3 p4 p5 p6 p7 p8).toArray := ⟨_, rfl⟩
  rw [← hF]
  have HF := hid hF
  clear hF
  go_wp2_with fail
  go_loopw [6, 20] (fun b k wr => ∃ (j : Nat), j ≤ 9 ∧ k = .int .i64 j ∧ b = .slice (some ⟨g, 0, none⟩) (plen j) 512 ∧ IsV wr g 5 ((pre e s q f i c d j).map byteV ++ List.replicate (512 - plen j) (.int .u8 0)) ∧ Kept g w3 wr) (fun _ k _ => 9 - (intOf k).toNat)
  case atStart => exact ⟨0, by omega, rfl, rfl, by rw [show (pre e s q f i c d 0).map byteV ++ List.replicate (512 - plen 0) (Value.int .u8 0) = List.replicate 512 (.int .u8 0) from rfl]; exact HG3.out, Kept.refl _ _⟩
  case round =>
    obtain ⟨j, hj, rfl, rfl, hG, hK⟩ := hrel
    have HG := hid hG
    have HK := hid hK
    have HT := hid (HT3.out.kept hK (Nat.ne_of_lt Hg.out))
    clear hG hK
    rcases (show j = 0 ∨ j = 1 ∨ j = 2 ∨ j = 3 ∨ j = 4 ∨ j = 5 ∨ j = 6 ∨ j = 7 ∨ j = 8 ∨ j = 9 by omega) with rfl | rfl | rfl | rfl | rfl | rfl | rfl | rfl | rfl | rfl
    · have Hp := hid (Hpl.out 0 (by omega))
      obtain ⟨vv, hvv⟩ : ∃ vv : Nat, vv = 1465012808 := ⟨_, rfl⟩
      obtain ⟨pl, hpl⟩ : ∃ pl, pl = pre e s q f i c d 0 := ⟨_, rfl⟩
      have Hpl1 := hid (show pl.length = 0 by rw [hpl]; exact Hp.out)
      have Hnx := hid (show pre e s q f i c d (0 + 1) = pl ++ le 4 vv by rw [hpl, hvv]; rfl)
      rw [← hpl] at HG
      have HX := hid (HX3.out.kept HK.out hXg.out)
      have hv' : vv < 18446744073709551616 := by rw [hvv]; exact Hval.out 0
      have Hvv := hid hvv
      clear hpl Hp hvv
      have hplen : plen 0 = 0 := rfl
      rw [hplen] at HG
      simp only [show plen 0 = 0 from rfl]
      clear hplen
      have Hix := hid (idx0' HF.out wr)
      go_wp2_with (first
        | (refine wpList_exec _ (by rfl) (exec_index (.tmp 19) (.tmp 20) rfl rfl rfl Hix.out) ?_)
        | (refine wpList_alloc_V rfl rfl zeroF ?_; intro wa hN hB hS; have HA := hid hN; have HBa := hid hB; clear hN hB hS)
        | (refine wpList_store_V 46 (.tmp 8) (.tmp 22) rfl wr.heap.size [.int .i64 4, .func (.func 30) #[] #[.pointer (some ⟨p0, 0, none⟩)], .func (.func 31) #[] #[]] nilF 46 rfl rfl HA.out rfl sizeF (by intro v hv; simp only [List.mem_cons, List.not_mem_nil, or_false] at hv; rcases hv with rfl | rfl | rfl <;> rfl) (by rfl) ?_; intro wb hN hK hS; have hc1 := hN.cell 1; have HC0 := hid hN; have HKb := hid (HBa.out.trans (hK.below _ (Nat.le_refl _) HBa.out.size)); clear hN hK hS)
        | (refine wpList_load_V (.tmp 2) rfl w.heap.size rfl (tagL e s q f i c d) _ (HT.out.below HKb.out) Try.underlying25 rfl size25 (by rfl) ?_))
      rw [E1.out]
      replace HX := hid (HX.out.below HKb.out)
      refine (show Calls Try.prog 30 #[.agg T, .pointer (some ⟨p0, 0, none⟩)] wb (fun y w' => y = .returned (.int .u64 (vv : Int)) ∧ Below wb.heap.size wb w') from by rw [ET.out, Hvv.out]; exact getC_any e s q f i c d p0 1465012808 _ HX.out.c0).mono ?_
      rintro x wc ⟨rfl, hB⟩
      have hc0 := (HC0.out.below hB).cell 0
      have HKc := hid (HKb.out.trans (hB.mono HKb.out.size))
      have HKd := hid (HK.out.trans (Kept.of_below HKc.out))
      have HGc := hid (HG.out.below HKc.out)
      clear hB hc1 HC0 HBa HA HKb
      go_wp2_with fail
      go_loopw [6, 9, 29] (fun b n j wr => ∃ (m : Nat), m ≤ 4 ∧ j = .int .i64 m ∧ n = .int .u64 ((vv / 256 ^ m : Nat) : Int) ∧ b = .slice (some ⟨g, 0, none⟩) m 512 ∧ IsV wr g 5 ((pl ++ le m vv).map byteV ++ List.replicate (512 - m) (.int .u8 0)) ∧ Kept g w3 wr) (fun _ _ j _ => 4 - (intOf j).toNat)
      case atStart => exact ⟨0, by omega, rfl, by simp, rfl, by show IsV _ _ _ ((pl ++ []).map byteV ++ List.replicate (512 - 0) (.int .u8 0)); rw [List.append_nil]; exact HGc.out, HKd.out⟩
      case round =>
        obtain ⟨m, hm, rfl, rfl, rfl, hG, hK⟩ := hrel
        have HGm := hid hG
        have HKm := hid hK
        clear hG hK
        by_cases hmk : m < 4
        · have Hd := hid (show vv / 256 ^ (m + 1) = vv / 256 ^ m / 256 by rw [Nat.pow_succ, Nat.div_div_eq_div_mul])
          have Hs := hid (le_snoc m (vv))
          have hq : vv / 256 ^ m < 18446744073709551616 := Nat.lt_of_le_of_lt (Nat.div_le_self _ _) hv'
          have Hlen := hid (show ((pl ++ le m (vv)).map byteV).length = m by rw [List.length_map, List.length_append, le_length, Hpl1.out]; try omega)
          generalize vv / 256 ^ m = y at *
          obtain ⟨wn, hap, hGn, hKn, hSn⟩ := buf_append elemU8 26 (n := m) (m := 1) (c2 := 1) (N := 512) (w := wr.alloc (.cells #[.int .u8 ((y : Int) % 256)] 5)) (HGm.out.below (below1 _ _)) Hlen.out (by rw [List.length_replicate]; omega) (IsRow.alloc_new wr #[.int .u8 ((y : Int) % 256)] 5 (0, 0) [.int .u8 ((y : Int) % 256)] rfl) rfl (by rw [List.length_replicate]; omega) (by simp) (by intro u hu; simp at hu; subst hu; rfl)
          have H3 := hid (show IsV wn g 5 ((pl ++ le (m + 1) (vv)).map byteV ++ List.replicate (512 - (m + 1)) (.int .u8 0)) by
            rw [Hs.out, ← List.append_assoc, List.map_append (l₁ := pl ++ le m (vv)), List.map_singleton, ← byte_val]
            have e5 : (List.replicate (512 - m) (Value.int .u8 0)).drop 1 = List.replicate (512 - (m + 1)) (.int .u8 0) := by rw [List.drop_replicate]; congr 1
            rw [← e5]
            exact hGn)
          have HK3 := hid (HKm.out.trans ((Kept.of_below (below1 wr _)).trans hKn))
          clear hGn hKn hSn HGm HKm Hlen Hs
          go_wp2_with (at_builtin; refine wpList_append_run _ _ hap rfl rfl rfl rfl ?_)
          go_roundw
          case rel => exact ⟨m + 1, by omega, by go_num, by rw [Hd.out]; go_num, rfl, H3.out, HK3.out⟩
          case measure => simp [intOf]; omega
        · obtain rfl : m = 4 := by omega
          clear hmk hm
          go_wp2
          go_roundw
          case rel => exact ⟨0 + 1, by omega, by go_num, rfl, by rw [Hnx.out]; exact HGm.out, HKm.out⟩
          case measure => simp [intOf]
    · have Hp := hid (Hpl.out 1 (by omega))
      obtain ⟨vv, hvv⟩ : ∃ vv : Nat, vv = e := ⟨_, rfl⟩
      obtain ⟨pl, hpl⟩ : ∃ pl, pl = pre e s q f i c d 1 := ⟨_, rfl⟩
      have Hpl1 := hid (show pl.length = 4 by rw [hpl]; exact Hp.out)
      have Hnx := hid (show pre e s q f i c d (1 + 1) = pl ++ le 4 vv by rw [hpl, hvv]; rfl)
      rw [← hpl] at HG
      have HX := hid (HX3.out.kept HK.out hXg.out)
      have hv' : vv < 18446744073709551616 := by rw [hvv]; exact Hval.out 1
      have Hvv := hid hvv
      clear hpl Hp hvv
      have hplen : plen 1 = 4 := rfl
      rw [hplen] at HG
      simp only [show plen 1 = 4 from rfl]
      clear hplen
      have Hix := hid (idx1' HF.out wr)
      go_wp2_with (first
        | (refine wpList_exec _ (by rfl) (exec_index (.tmp 19) (.tmp 20) rfl rfl rfl Hix.out) ?_)
        | (refine wpList_alloc_V rfl rfl zeroF ?_; intro wa hN hB hS; have HA := hid hN; have HBa := hid hB; clear hN hB hS)
        | (refine wpList_store_V 46 (.tmp 8) (.tmp 22) rfl wr.heap.size [.int .i64 4, .func (.func 20) #[] #[], .func (.func 21) #[] #[]] nilF 46 rfl rfl HA.out rfl sizeF (by intro v hv; simp only [List.mem_cons, List.not_mem_nil, or_false] at hv; rcases hv with rfl | rfl | rfl <;> rfl) (by rfl) ?_; intro wb hN hK hS; have hc1 := hN.cell 1; have HC0 := hid hN; have HKb := hid (HBa.out.trans (hK.below _ (Nat.le_refl _) HBa.out.size)); clear hN hK hS)
        | (refine wpList_load_V (.tmp 2) rfl w.heap.size rfl (tagL e s q f i c d) _ (HT.out.below HKb.out) Try.underlying25 rfl size25 (by rfl) ?_))
      rw [E1.out]
      replace HX := hid (HX.out.below HKb.out)
      refine (show Calls Try.prog 20 #[.agg T] wb (fun y w' => y = .returned (.int .u64 (vv : Int)) ∧ Below wb.heap.size wb w') from by rw [ET.out, Hvv.out]; exact get0_any e s q f i c d he _).mono ?_
      rintro x wc ⟨rfl, hB⟩
      have hc0 := (HC0.out.below hB).cell 0
      have HKc := hid (HKb.out.trans (hB.mono HKb.out.size))
      have HKd := hid (HK.out.trans (Kept.of_below HKc.out))
      have HGc := hid (HG.out.below HKc.out)
      clear hB hc1 HC0 HBa HA HKb
      go_wp2_with fail
      go_loopw [6, 9, 29] (fun b n j wr => ∃ (m : Nat), m ≤ 4 ∧ j = .int .i64 m ∧ n = .int .u64 ((vv / 256 ^ m : Nat) : Int) ∧ b = .slice (some ⟨g, 0, none⟩) (4 + m) 512 ∧ IsV wr g 5 ((pl ++ le m vv).map byteV ++ List.replicate (512 - (4 + m)) (.int .u8 0)) ∧ Kept g w3 wr) (fun _ _ j _ => 4 - (intOf j).toNat)
      case atStart => exact ⟨0, by omega, rfl, by simp, rfl, by show IsV _ _ _ ((pl ++ []).map byteV ++ List.replicate (512 - 4) (.int .u8 0)); rw [List.append_nil]; exact HGc.out, HKd.out⟩
      case round =>
        obtain ⟨m, hm, rfl, rfl, rfl, hG, hK⟩ := hrel
        have HGm := hid hG
        have HKm := hid hK
        clear hG hK
        by_cases hmk : m < 4
        · have Hd := hid (show vv / 256 ^ (m + 1) = vv / 256 ^ m / 256 by rw [Nat.pow_succ, Nat.div_div_eq_div_mul])
          have Hs := hid (le_snoc m (vv))
          have hq : vv / 256 ^ m < 18446744073709551616 := Nat.lt_of_le_of_lt (Nat.div_le_self _ _) hv'
          have Hlen := hid (show ((pl ++ le m (vv)).map byteV).length = (4 + m) by rw [List.length_map, List.length_append, le_length, Hpl1.out]; try omega)
          generalize vv / 256 ^ m = y at *
          obtain ⟨wn, hap, hGn, hKn, hSn⟩ := buf_append elemU8 26 (n := (4 + m)) (m := 1) (c2 := 1) (N := 512) (w := wr.alloc (.cells #[.int .u8 ((y : Int) % 256)] 5)) (HGm.out.below (below1 _ _)) Hlen.out (by rw [List.length_replicate]; omega) (IsRow.alloc_new wr #[.int .u8 ((y : Int) % 256)] 5 (0, 0) [.int .u8 ((y : Int) % 256)] rfl) rfl (by rw [List.length_replicate]; omega) (by simp) (by intro u hu; simp at hu; subst hu; rfl)
          have H3 := hid (show IsV wn g 5 ((pl ++ le (m + 1) (vv)).map byteV ++ List.replicate (512 - (4 + (m + 1))) (.int .u8 0)) by
            rw [Hs.out, ← List.append_assoc, List.map_append (l₁ := pl ++ le m (vv)), List.map_singleton, ← byte_val]
            have e5 : (List.replicate (512 - (4 + m)) (Value.int .u8 0)).drop 1 = List.replicate (512 - (4 + (m + 1))) (.int .u8 0) := by rw [List.drop_replicate]; congr 1
            rw [← e5]
            exact hGn)
          have HK3 := hid (HKm.out.trans ((Kept.of_below (below1 wr _)).trans hKn))
          clear hGn hKn hSn HGm HKm Hlen Hs
          go_wp2_with (at_builtin; refine wpList_append_run _ _ hap rfl rfl rfl rfl ?_)
          go_roundw
          case rel => exact ⟨m + 1, by omega, by go_num, by rw [Hd.out]; go_num, rfl, H3.out, HK3.out⟩
          case measure => simp [intOf]; omega
        · obtain rfl : m = 4 := by omega
          clear hmk hm
          go_wp2
          go_roundw
          case rel => exact ⟨1 + 1, by omega, by go_num, rfl, by rw [Hnx.out]; exact HGm.out, HKm.out⟩
          case measure => simp [intOf]
    · have Hp := hid (Hpl.out 2 (by omega))
      obtain ⟨vv, hvv⟩ : ∃ vv : Nat, vv = q := ⟨_, rfl⟩
      obtain ⟨pl, hpl⟩ : ∃ pl, pl = pre e s q f i c d 2 := ⟨_, rfl⟩
      have Hpl1 := hid (show pl.length = 8 by rw [hpl]; exact Hp.out)
      have Hnx := hid (show pre e s q f i c d (2 + 1) = pl ++ le 6 vv by rw [hpl, hvv]; rfl)
      rw [← hpl] at HG
      have HX := hid (HX3.out.kept HK.out hXg.out)
      have hv' : vv < 18446744073709551616 := by rw [hvv]; exact Hval.out 2
      have Hvv := hid hvv
      clear hpl Hp hvv
      have hplen : plen 2 = 8 := rfl
      rw [hplen] at HG
      simp only [show plen 2 = 8 from rfl]
      clear hplen
      have Hix := hid (idx2' HF.out wr)
      go_wp2_with (first
        | (refine wpList_exec _ (by rfl) (exec_index (.tmp 19) (.tmp 20) rfl rfl rfl Hix.out) ?_)
        | (refine wpList_alloc_V rfl rfl zeroF ?_; intro wa hN hB hS; have HA := hid hN; have HBa := hid hB; clear hN hB hS)
        | (refine wpList_store_V 46 (.tmp 8) (.tmp 22) rfl wr.heap.size [.int .i64 6, .func (.func 32) #[] #[.pointer (some ⟨p2, 0, none⟩)], .func (.func 33) #[] #[.pointer (some ⟨p2, 0, none⟩)]] nilF 46 rfl rfl HA.out rfl sizeF (by intro v hv; simp only [List.mem_cons, List.not_mem_nil, or_false] at hv; rcases hv with rfl | rfl | rfl <;> rfl) (by rfl) ?_; intro wb hN hK hS; have hc1 := hN.cell 1; have HC0 := hid hN; have HKb := hid (HBa.out.trans (hK.below _ (Nat.le_refl _) HBa.out.size)); clear hN hK hS)
        | (refine wpList_load_V (.tmp 2) rfl w.heap.size rfl (tagL e s q f i c d) _ (HT.out.below HKb.out) Try.underlying25 rfl size25 (by rfl) ?_))
      rw [E1.out]
      replace HX := hid (HX.out.below HKb.out)
      refine (show Calls Try.prog 32 #[.agg T, .pointer (some ⟨p2, 0, none⟩)] wb (fun y w' => y = .returned (.int .u64 (vv : Int)) ∧ Below wb.heap.size wb w') from by rw [ET.out, Hvv.out]; exact get2_any e s q f i c d p2 _ HX.out.c2).mono ?_
      rintro x wc ⟨rfl, hB⟩
      have hc0 := (HC0.out.below hB).cell 0
      have HKc := hid (HKb.out.trans (hB.mono HKb.out.size))
      have HKd := hid (HK.out.trans (Kept.of_below HKc.out))
      have HGc := hid (HG.out.below HKc.out)
      clear hB hc1 HC0 HBa HA HKb
      go_wp2_with fail
      go_loopw [6, 9, 29] (fun b n j wr => ∃ (m : Nat), m ≤ 6 ∧ j = .int .i64 m ∧ n = .int .u64 ((vv / 256 ^ m : Nat) : Int) ∧ b = .slice (some ⟨g, 0, none⟩) (8 + m) 512 ∧ IsV wr g 5 ((pl ++ le m vv).map byteV ++ List.replicate (512 - (8 + m)) (.int .u8 0)) ∧ Kept g w3 wr) (fun _ _ j _ => 6 - (intOf j).toNat)
      case atStart => exact ⟨0, by omega, rfl, by simp, rfl, by show IsV _ _ _ ((pl ++ []).map byteV ++ List.replicate (512 - 8) (.int .u8 0)); rw [List.append_nil]; exact HGc.out, HKd.out⟩
      case round =>
        obtain ⟨m, hm, rfl, rfl, rfl, hG, hK⟩ := hrel
        have HGm := hid hG
        have HKm := hid hK
        clear hG hK
        by_cases hmk : m < 6
        · have Hd := hid (show vv / 256 ^ (m + 1) = vv / 256 ^ m / 256 by rw [Nat.pow_succ, Nat.div_div_eq_div_mul])
          have Hs := hid (le_snoc m (vv))
          have hq : vv / 256 ^ m < 18446744073709551616 := Nat.lt_of_le_of_lt (Nat.div_le_self _ _) hv'
          have Hlen := hid (show ((pl ++ le m (vv)).map byteV).length = (8 + m) by rw [List.length_map, List.length_append, le_length, Hpl1.out]; try omega)
          generalize vv / 256 ^ m = y at *
          obtain ⟨wn, hap, hGn, hKn, hSn⟩ := buf_append elemU8 26 (n := (8 + m)) (m := 1) (c2 := 1) (N := 512) (w := wr.alloc (.cells #[.int .u8 ((y : Int) % 256)] 5)) (HGm.out.below (below1 _ _)) Hlen.out (by rw [List.length_replicate]; omega) (IsRow.alloc_new wr #[.int .u8 ((y : Int) % 256)] 5 (0, 0) [.int .u8 ((y : Int) % 256)] rfl) rfl (by rw [List.length_replicate]; omega) (by simp) (by intro u hu; simp at hu; subst hu; rfl)
          have H3 := hid (show IsV wn g 5 ((pl ++ le (m + 1) (vv)).map byteV ++ List.replicate (512 - (8 + (m + 1))) (.int .u8 0)) by
            rw [Hs.out, ← List.append_assoc, List.map_append (l₁ := pl ++ le m (vv)), List.map_singleton, ← byte_val]
            have e5 : (List.replicate (512 - (8 + m)) (Value.int .u8 0)).drop 1 = List.replicate (512 - (8 + (m + 1))) (.int .u8 0) := by rw [List.drop_replicate]; congr 1
            rw [← e5]
            exact hGn)
          have HK3 := hid (HKm.out.trans ((Kept.of_below (below1 wr _)).trans hKn))
          clear hGn hKn hSn HGm HKm Hlen Hs
          go_wp2_with (at_builtin; refine wpList_append_run _ _ hap rfl rfl rfl rfl ?_)
          go_roundw
          case rel => exact ⟨m + 1, by omega, by go_num, by rw [Hd.out]; go_num, rfl, H3.out, HK3.out⟩
          case measure => simp [intOf]; omega
        · obtain rfl : m = 6 := by omega
          clear hmk hm
          go_wp2
          go_roundw
          case rel => exact ⟨2 + 1, by omega, by go_num, rfl, by rw [Hnx.out]; exact HGm.out, HKm.out⟩
          case measure => simp [intOf]
    · have Hp := hid (Hpl.out 3 (by omega))
      obtain ⟨vv, hvv⟩ : ∃ vv : Nat, vv = f := ⟨_, rfl⟩
      obtain ⟨pl, hpl⟩ : ∃ pl, pl = pre e s q f i c d 3 := ⟨_, rfl⟩
      have Hpl1 := hid (show pl.length = 14 by rw [hpl]; exact Hp.out)
      have Hnx := hid (show pre e s q f i c d (3 + 1) = pl ++ le 6 vv by rw [hpl, hvv]; rfl)
      rw [← hpl] at HG
      have HX := hid (HX3.out.kept HK.out hXg.out)
      have hv' : vv < 18446744073709551616 := by rw [hvv]; exact Hval.out 3
      have Hvv := hid hvv
      clear hpl Hp hvv
      have hplen : plen 3 = 14 := rfl
      rw [hplen] at HG
      simp only [show plen 3 = 14 from rfl]
      clear hplen
      have Hix := hid (idx3' HF.out wr)
      go_wp2_with (first
        | (refine wpList_exec _ (by rfl) (exec_index (.tmp 19) (.tmp 20) rfl rfl rfl Hix.out) ?_)
        | (refine wpList_alloc_V rfl rfl zeroF ?_; intro wa hN hB hS; have HA := hid hN; have HBa := hid hB; clear hN hB hS)
        | (refine wpList_store_V 46 (.tmp 8) (.tmp 22) rfl wr.heap.size [.int .i64 6, .func (.func 32) #[] #[.pointer (some ⟨p3, 0, none⟩)], .func (.func 33) #[] #[.pointer (some ⟨p3, 0, none⟩)]] nilF 46 rfl rfl HA.out rfl sizeF (by intro v hv; simp only [List.mem_cons, List.not_mem_nil, or_false] at hv; rcases hv with rfl | rfl | rfl <;> rfl) (by rfl) ?_; intro wb hN hK hS; have hc1 := hN.cell 1; have HC0 := hid hN; have HKb := hid (HBa.out.trans (hK.below _ (Nat.le_refl _) HBa.out.size)); clear hN hK hS)
        | (refine wpList_load_V (.tmp 2) rfl w.heap.size rfl (tagL e s q f i c d) _ (HT.out.below HKb.out) Try.underlying25 rfl size25 (by rfl) ?_))
      rw [E1.out]
      replace HX := hid (HX.out.below HKb.out)
      refine (show Calls Try.prog 32 #[.agg T, .pointer (some ⟨p3, 0, none⟩)] wb (fun y w' => y = .returned (.int .u64 (vv : Int)) ∧ Below wb.heap.size wb w') from by rw [ET.out, Hvv.out]; exact get3_any e s q f i c d p3 _ HX.out.c3).mono ?_
      rintro x wc ⟨rfl, hB⟩
      have hc0 := (HC0.out.below hB).cell 0
      have HKc := hid (HKb.out.trans (hB.mono HKb.out.size))
      have HKd := hid (HK.out.trans (Kept.of_below HKc.out))
      have HGc := hid (HG.out.below HKc.out)
      clear hB hc1 HC0 HBa HA HKb
      go_wp2_with fail
      go_loopw [6, 9, 29] (fun b n j wr => ∃ (m : Nat), m ≤ 6 ∧ j = .int .i64 m ∧ n = .int .u64 ((vv / 256 ^ m : Nat) : Int) ∧ b = .slice (some ⟨g, 0, none⟩) (14 + m) 512 ∧ IsV wr g 5 ((pl ++ le m vv).map byteV ++ List.replicate (512 - (14 + m)) (.int .u8 0)) ∧ Kept g w3 wr) (fun _ _ j _ => 6 - (intOf j).toNat)
      case atStart => exact ⟨0, by omega, rfl, by simp, rfl, by show IsV _ _ _ ((pl ++ []).map byteV ++ List.replicate (512 - 14) (.int .u8 0)); rw [List.append_nil]; exact HGc.out, HKd.out⟩
      case round =>
        obtain ⟨m, hm, rfl, rfl, rfl, hG, hK⟩ := hrel
        have HGm := hid hG
        have HKm := hid hK
        clear hG hK
        by_cases hmk : m < 6
        · have Hd := hid (show vv / 256 ^ (m + 1) = vv / 256 ^ m / 256 by rw [Nat.pow_succ, Nat.div_div_eq_div_mul])
          have Hs := hid (le_snoc m (vv))
          have hq : vv / 256 ^ m < 18446744073709551616 := Nat.lt_of_le_of_lt (Nat.div_le_self _ _) hv'
          have Hlen := hid (show ((pl ++ le m (vv)).map byteV).length = (14 + m) by rw [List.length_map, List.length_append, le_length, Hpl1.out]; try omega)
          generalize vv / 256 ^ m = y at *
          obtain ⟨wn, hap, hGn, hKn, hSn⟩ := buf_append elemU8 26 (n := (14 + m)) (m := 1) (c2 := 1) (N := 512) (w := wr.alloc (.cells #[.int .u8 ((y : Int) % 256)] 5)) (HGm.out.below (below1 _ _)) Hlen.out (by rw [List.length_replicate]; omega) (IsRow.alloc_new wr #[.int .u8 ((y : Int) % 256)] 5 (0, 0) [.int .u8 ((y : Int) % 256)] rfl) rfl (by rw [List.length_replicate]; omega) (by simp) (by intro u hu; simp at hu; subst hu; rfl)
          have H3 := hid (show IsV wn g 5 ((pl ++ le (m + 1) (vv)).map byteV ++ List.replicate (512 - (14 + (m + 1))) (.int .u8 0)) by
            rw [Hs.out, ← List.append_assoc, List.map_append (l₁ := pl ++ le m (vv)), List.map_singleton, ← byte_val]
            have e5 : (List.replicate (512 - (14 + m)) (Value.int .u8 0)).drop 1 = List.replicate (512 - (14 + (m + 1))) (.int .u8 0) := by rw [List.drop_replicate]; congr 1
            rw [← e5]
            exact hGn)
          have HK3 := hid (HKm.out.trans ((Kept.of_below (below1 wr _)).trans hKn))
          clear hGn hKn hSn HGm HKm Hlen Hs
          go_wp2_with (at_builtin; refine wpList_append_run _ _ hap rfl rfl rfl rfl ?_)
          go_roundw
          case rel => exact ⟨m + 1, by omega, by go_num, by rw [Hd.out]; go_num, rfl, H3.out, HK3.out⟩
          case measure => simp [intOf]; omega
        · obtain rfl : m = 6 := by omega
          clear hmk hm
          go_wp2
          go_roundw
          case rel => exact ⟨3 + 1, by omega, by go_num, rfl, by rw [Hnx.out]; exact HGm.out, HKm.out⟩
          case measure => simp [intOf]
    · have Hp := hid (Hpl.out 4 (by omega))
      obtain ⟨vv, hvv⟩ : ∃ vv : Nat, vv = s := ⟨_, rfl⟩
      obtain ⟨pl, hpl⟩ : ∃ pl, pl = pre e s q f i c d 4 := ⟨_, rfl⟩
      have Hpl1 := hid (show pl.length = 20 by rw [hpl]; exact Hp.out)
      have Hnx := hid (show pre e s q f i c d (4 + 1) = pl ++ le 6 vv by rw [hpl, hvv]; rfl)
      rw [← hpl] at HG
      have HX := hid (HX3.out.kept HK.out hXg.out)
      have hv' : vv < 18446744073709551616 := by rw [hvv]; exact Hval.out 4
      have Hvv := hid hvv
      clear hpl Hp hvv
      have hplen : plen 4 = 20 := rfl
      rw [hplen] at HG
      simp only [show plen 4 = 20 from rfl]
      clear hplen
      have Hix := hid (idx4' HF.out wr)
      go_wp2_with (first
        | (refine wpList_exec _ (by rfl) (exec_index (.tmp 19) (.tmp 20) rfl rfl rfl Hix.out) ?_)
        | (refine wpList_alloc_V rfl rfl zeroF ?_; intro wa hN hB hS; have HA := hid hN; have HBa := hid hB; clear hN hB hS)
        | (refine wpList_store_V 46 (.tmp 8) (.tmp 22) rfl wr.heap.size [.int .i64 6, .func (.func 32) #[] #[.pointer (some ⟨p4, 0, none⟩)], .func (.func 33) #[] #[.pointer (some ⟨p4, 0, none⟩)]] nilF 46 rfl rfl HA.out rfl sizeF (by intro v hv; simp only [List.mem_cons, List.not_mem_nil, or_false] at hv; rcases hv with rfl | rfl | rfl <;> rfl) (by rfl) ?_; intro wb hN hK hS; have hc1 := hN.cell 1; have HC0 := hid hN; have HKb := hid (HBa.out.trans (hK.below _ (Nat.le_refl _) HBa.out.size)); clear hN hK hS)
        | (refine wpList_load_V (.tmp 2) rfl w.heap.size rfl (tagL e s q f i c d) _ (HT.out.below HKb.out) Try.underlying25 rfl size25 (by rfl) ?_))
      rw [E1.out]
      replace HX := hid (HX.out.below HKb.out)
      refine (show Calls Try.prog 32 #[.agg T, .pointer (some ⟨p4, 0, none⟩)] wb (fun y w' => y = .returned (.int .u64 (vv : Int)) ∧ Below wb.heap.size wb w') from by rw [ET.out, Hvv.out]; exact get1_any e s q f i c d p4 _ HX.out.c4).mono ?_
      rintro x wc ⟨rfl, hB⟩
      have hc0 := (HC0.out.below hB).cell 0
      have HKc := hid (HKb.out.trans (hB.mono HKb.out.size))
      have HKd := hid (HK.out.trans (Kept.of_below HKc.out))
      have HGc := hid (HG.out.below HKc.out)
      clear hB hc1 HC0 HBa HA HKb
      go_wp2_with fail
      go_loopw [6, 9, 29] (fun b n j wr => ∃ (m : Nat), m ≤ 6 ∧ j = .int .i64 m ∧ n = .int .u64 ((vv / 256 ^ m : Nat) : Int) ∧ b = .slice (some ⟨g, 0, none⟩) (20 + m) 512 ∧ IsV wr g 5 ((pl ++ le m vv).map byteV ++ List.replicate (512 - (20 + m)) (.int .u8 0)) ∧ Kept g w3 wr) (fun _ _ j _ => 6 - (intOf j).toNat)
      case atStart => exact ⟨0, by omega, rfl, by simp, rfl, by show IsV _ _ _ ((pl ++ []).map byteV ++ List.replicate (512 - 20) (.int .u8 0)); rw [List.append_nil]; exact HGc.out, HKd.out⟩
      case round =>
        obtain ⟨m, hm, rfl, rfl, rfl, hG, hK⟩ := hrel
        have HGm := hid hG
        have HKm := hid hK
        clear hG hK
        by_cases hmk : m < 6
        · have Hd := hid (show vv / 256 ^ (m + 1) = vv / 256 ^ m / 256 by rw [Nat.pow_succ, Nat.div_div_eq_div_mul])
          have Hs := hid (le_snoc m (vv))
          have hq : vv / 256 ^ m < 18446744073709551616 := Nat.lt_of_le_of_lt (Nat.div_le_self _ _) hv'
          have Hlen := hid (show ((pl ++ le m (vv)).map byteV).length = (20 + m) by rw [List.length_map, List.length_append, le_length, Hpl1.out]; try omega)
          generalize vv / 256 ^ m = y at *
          obtain ⟨wn, hap, hGn, hKn, hSn⟩ := buf_append elemU8 26 (n := (20 + m)) (m := 1) (c2 := 1) (N := 512) (w := wr.alloc (.cells #[.int .u8 ((y : Int) % 256)] 5)) (HGm.out.below (below1 _ _)) Hlen.out (by rw [List.length_replicate]; omega) (IsRow.alloc_new wr #[.int .u8 ((y : Int) % 256)] 5 (0, 0) [.int .u8 ((y : Int) % 256)] rfl) rfl (by rw [List.length_replicate]; omega) (by simp) (by intro u hu; simp at hu; subst hu; rfl)
          have H3 := hid (show IsV wn g 5 ((pl ++ le (m + 1) (vv)).map byteV ++ List.replicate (512 - (20 + (m + 1))) (.int .u8 0)) by
            rw [Hs.out, ← List.append_assoc, List.map_append (l₁ := pl ++ le m (vv)), List.map_singleton, ← byte_val]
            have e5 : (List.replicate (512 - (20 + m)) (Value.int .u8 0)).drop 1 = List.replicate (512 - (20 + (m + 1))) (.int .u8 0) := by rw [List.drop_replicate]; congr 1
            rw [← e5]
            exact hGn)
          have HK3 := hid (HKm.out.trans ((Kept.of_below (below1 wr _)).trans hKn))
          clear hGn hKn hSn HGm HKm Hlen Hs
          go_wp2_with (at_builtin; refine wpList_append_run _ _ hap rfl rfl rfl rfl ?_)
          go_roundw
          case rel => exact ⟨m + 1, by omega, by go_num, by rw [Hd.out]; go_num, rfl, H3.out, HK3.out⟩
          case measure => simp [intOf]; omega
        · obtain rfl : m = 6 := by omega
          clear hmk hm
          go_wp2
          go_roundw
          case rel => exact ⟨4 + 1, by omega, by go_num, rfl, by rw [Hnx.out]; exact HGm.out, HKm.out⟩
          case measure => simp [intOf]
    · have Hp := hid (Hpl.out 5 (by omega))
      obtain ⟨vv, hvv⟩ : ∃ vv : Nat, vv = i := ⟨_, rfl⟩
      obtain ⟨pl, hpl⟩ : ∃ pl, pl = pre e s q f i c d 5 := ⟨_, rfl⟩
      have Hpl1 := hid (show pl.length = 26 by rw [hpl]; exact Hp.out)
      have Hnx := hid (show pre e s q f i c d (5 + 1) = pl ++ le 1 vv by rw [hpl, hvv]; rfl)
      rw [← hpl] at HG
      have HX := hid (HX3.out.kept HK.out hXg.out)
      have hv' : vv < 18446744073709551616 := by rw [hvv]; exact Hval.out 5
      have Hvv := hid hvv
      clear hpl Hp hvv
      have hplen : plen 5 = 26 := rfl
      rw [hplen] at HG
      simp only [show plen 5 = 26 from rfl]
      clear hplen
      have Hix := hid (idx5' HF.out wr)
      go_wp2_with (first
        | (refine wpList_exec _ (by rfl) (exec_index (.tmp 19) (.tmp 20) rfl rfl rfl Hix.out) ?_)
        | (refine wpList_alloc_V rfl rfl zeroF ?_; intro wa hN hB hS; have HA := hid hN; have HBa := hid hB; clear hN hB hS)
        | (refine wpList_store_V 46 (.tmp 8) (.tmp 22) rfl wr.heap.size [.int .i64 1, .func (.func 34) #[] #[.pointer (some ⟨p5, 0, none⟩)], .func (.func 35) #[] #[.pointer (some ⟨p5, 0, none⟩)]] nilF 46 rfl rfl HA.out rfl sizeF (by intro v hv; simp only [List.mem_cons, List.not_mem_nil, or_false] at hv; rcases hv with rfl | rfl | rfl <;> rfl) (by rfl) ?_; intro wb hN hK hS; have hc1 := hN.cell 1; have HC0 := hid hN; have HKb := hid (HBa.out.trans (hK.below _ (Nat.le_refl _) HBa.out.size)); clear hN hK hS)
        | (refine wpList_load_V (.tmp 2) rfl w.heap.size rfl (tagL e s q f i c d) _ (HT.out.below HKb.out) Try.underlying25 rfl size25 (by rfl) ?_))
      rw [E1.out]
      replace HX := hid (HX.out.below HKb.out)
      refine (show Calls Try.prog 34 #[.agg T, .pointer (some ⟨p5, 0, none⟩)] wb (fun y w' => y = .returned (.int .u64 (vv : Int)) ∧ Below wb.heap.size wb w') from by rw [ET.out, Hvv.out]; exact get4_any e s q f i c d (by omega) p5 _ HX.out.c5).mono ?_
      rintro x wc ⟨rfl, hB⟩
      have hc0 := (HC0.out.below hB).cell 0
      have HKc := hid (HKb.out.trans (hB.mono HKb.out.size))
      have HKd := hid (HK.out.trans (Kept.of_below HKc.out))
      have HGc := hid (HG.out.below HKc.out)
      clear hB hc1 HC0 HBa HA HKb
      go_wp2_with fail
      go_loopw [6, 9, 29] (fun b n j wr => ∃ (m : Nat), m ≤ 1 ∧ j = .int .i64 m ∧ n = .int .u64 ((vv / 256 ^ m : Nat) : Int) ∧ b = .slice (some ⟨g, 0, none⟩) (26 + m) 512 ∧ IsV wr g 5 ((pl ++ le m vv).map byteV ++ List.replicate (512 - (26 + m)) (.int .u8 0)) ∧ Kept g w3 wr) (fun _ _ j _ => 1 - (intOf j).toNat)
      case atStart => exact ⟨0, by omega, rfl, by simp, rfl, by show IsV _ _ _ ((pl ++ []).map byteV ++ List.replicate (512 - 26) (.int .u8 0)); rw [List.append_nil]; exact HGc.out, HKd.out⟩
      case round =>
        obtain ⟨m, hm, rfl, rfl, rfl, hG, hK⟩ := hrel
        have HGm := hid hG
        have HKm := hid hK
        clear hG hK
        by_cases hmk : m < 1
        · have Hd := hid (show vv / 256 ^ (m + 1) = vv / 256 ^ m / 256 by rw [Nat.pow_succ, Nat.div_div_eq_div_mul])
          have Hs := hid (le_snoc m (vv))
          have hq : vv / 256 ^ m < 18446744073709551616 := Nat.lt_of_le_of_lt (Nat.div_le_self _ _) hv'
          have Hlen := hid (show ((pl ++ le m (vv)).map byteV).length = (26 + m) by rw [List.length_map, List.length_append, le_length, Hpl1.out]; try omega)
          generalize vv / 256 ^ m = y at *
          obtain ⟨wn, hap, hGn, hKn, hSn⟩ := buf_append elemU8 26 (n := (26 + m)) (m := 1) (c2 := 1) (N := 512) (w := wr.alloc (.cells #[.int .u8 ((y : Int) % 256)] 5)) (HGm.out.below (below1 _ _)) Hlen.out (by rw [List.length_replicate]; omega) (IsRow.alloc_new wr #[.int .u8 ((y : Int) % 256)] 5 (0, 0) [.int .u8 ((y : Int) % 256)] rfl) rfl (by rw [List.length_replicate]; omega) (by simp) (by intro u hu; simp at hu; subst hu; rfl)
          have H3 := hid (show IsV wn g 5 ((pl ++ le (m + 1) (vv)).map byteV ++ List.replicate (512 - (26 + (m + 1))) (.int .u8 0)) by
            rw [Hs.out, ← List.append_assoc, List.map_append (l₁ := pl ++ le m (vv)), List.map_singleton, ← byte_val]
            have e5 : (List.replicate (512 - (26 + m)) (Value.int .u8 0)).drop 1 = List.replicate (512 - (26 + (m + 1))) (.int .u8 0) := by rw [List.drop_replicate]; congr 1
            rw [← e5]
            exact hGn)
          have HK3 := hid (HKm.out.trans ((Kept.of_below (below1 wr _)).trans hKn))
          clear hGn hKn hSn HGm HKm Hlen Hs
          go_wp2_with (at_builtin; refine wpList_append_run _ _ hap rfl rfl rfl rfl ?_)
          go_roundw
          case rel => exact ⟨m + 1, by omega, by go_num, by rw [Hd.out]; go_num, rfl, H3.out, HK3.out⟩
          case measure => simp [intOf]; omega
        · obtain rfl : m = 1 := by omega
          clear hmk hm
          go_wp2
          go_roundw
          case rel => exact ⟨5 + 1, by omega, by go_num, rfl, by rw [Hnx.out]; exact HGm.out, HKm.out⟩
          case measure => simp [intOf]
    · have Hp := hid (Hpl.out 6 (by omega))
      obtain ⟨vv, hvv⟩ : ∃ vv : Nat, vv = c := ⟨_, rfl⟩
      obtain ⟨pl, hpl⟩ : ∃ pl, pl = pre e s q f i c d 6 := ⟨_, rfl⟩
      have Hpl1 := hid (show pl.length = 27 by rw [hpl]; exact Hp.out)
      have Hnx := hid (show pre e s q f i c d (6 + 1) = pl ++ le 1 vv by rw [hpl, hvv]; rfl)
      rw [← hpl] at HG
      have HX := hid (HX3.out.kept HK.out hXg.out)
      have hv' : vv < 18446744073709551616 := by rw [hvv]; exact Hval.out 6
      have Hvv := hid hvv
      clear hpl Hp hvv
      have hplen : plen 6 = 27 := rfl
      rw [hplen] at HG
      simp only [show plen 6 = 27 from rfl]
      clear hplen
      have Hix := hid (idx6' HF.out wr)
      go_wp2_with (first
        | (refine wpList_exec _ (by rfl) (exec_index (.tmp 19) (.tmp 20) rfl rfl rfl Hix.out) ?_)
        | (refine wpList_alloc_V rfl rfl zeroF ?_; intro wa hN hB hS; have HA := hid hN; have HBa := hid hB; clear hN hB hS)
        | (refine wpList_store_V 46 (.tmp 8) (.tmp 22) rfl wr.heap.size [.int .i64 1, .func (.func 34) #[] #[.pointer (some ⟨p6, 0, none⟩)], .func (.func 35) #[] #[.pointer (some ⟨p6, 0, none⟩)]] nilF 46 rfl rfl HA.out rfl sizeF (by intro v hv; simp only [List.mem_cons, List.not_mem_nil, or_false] at hv; rcases hv with rfl | rfl | rfl <;> rfl) (by rfl) ?_; intro wb hN hK hS; have hc1 := hN.cell 1; have HC0 := hid hN; have HKb := hid (HBa.out.trans (hK.below _ (Nat.le_refl _) HBa.out.size)); clear hN hK hS)
        | (refine wpList_load_V (.tmp 2) rfl w.heap.size rfl (tagL e s q f i c d) _ (HT.out.below HKb.out) Try.underlying25 rfl size25 (by rfl) ?_))
      rw [E1.out]
      replace HX := hid (HX.out.below HKb.out)
      refine (show Calls Try.prog 34 #[.agg T, .pointer (some ⟨p6, 0, none⟩)] wb (fun y w' => y = .returned (.int .u64 (vv : Int)) ∧ Below wb.heap.size wb w') from by rw [ET.out, Hvv.out]; exact get5_any e s q f i c d (by omega) p6 _ HX.out.c6).mono ?_
      rintro x wc ⟨rfl, hB⟩
      have hc0 := (HC0.out.below hB).cell 0
      have HKc := hid (HKb.out.trans (hB.mono HKb.out.size))
      have HKd := hid (HK.out.trans (Kept.of_below HKc.out))
      have HGc := hid (HG.out.below HKc.out)
      clear hB hc1 HC0 HBa HA HKb
      go_wp2_with fail
      go_loopw [6, 9, 29] (fun b n j wr => ∃ (m : Nat), m ≤ 1 ∧ j = .int .i64 m ∧ n = .int .u64 ((vv / 256 ^ m : Nat) : Int) ∧ b = .slice (some ⟨g, 0, none⟩) (27 + m) 512 ∧ IsV wr g 5 ((pl ++ le m vv).map byteV ++ List.replicate (512 - (27 + m)) (.int .u8 0)) ∧ Kept g w3 wr) (fun _ _ j _ => 1 - (intOf j).toNat)
      case atStart => exact ⟨0, by omega, rfl, by simp, rfl, by show IsV _ _ _ ((pl ++ []).map byteV ++ List.replicate (512 - 27) (.int .u8 0)); rw [List.append_nil]; exact HGc.out, HKd.out⟩
      case round =>
        obtain ⟨m, hm, rfl, rfl, rfl, hG, hK⟩ := hrel
        have HGm := hid hG
        have HKm := hid hK
        clear hG hK
        by_cases hmk : m < 1
        · have Hd := hid (show vv / 256 ^ (m + 1) = vv / 256 ^ m / 256 by rw [Nat.pow_succ, Nat.div_div_eq_div_mul])
          have Hs := hid (le_snoc m (vv))
          have hq : vv / 256 ^ m < 18446744073709551616 := Nat.lt_of_le_of_lt (Nat.div_le_self _ _) hv'
          have Hlen := hid (show ((pl ++ le m (vv)).map byteV).length = (27 + m) by rw [List.length_map, List.length_append, le_length, Hpl1.out]; try omega)
          generalize vv / 256 ^ m = y at *
          obtain ⟨wn, hap, hGn, hKn, hSn⟩ := buf_append elemU8 26 (n := (27 + m)) (m := 1) (c2 := 1) (N := 512) (w := wr.alloc (.cells #[.int .u8 ((y : Int) % 256)] 5)) (HGm.out.below (below1 _ _)) Hlen.out (by rw [List.length_replicate]; omega) (IsRow.alloc_new wr #[.int .u8 ((y : Int) % 256)] 5 (0, 0) [.int .u8 ((y : Int) % 256)] rfl) rfl (by rw [List.length_replicate]; omega) (by simp) (by intro u hu; simp at hu; subst hu; rfl)
          have H3 := hid (show IsV wn g 5 ((pl ++ le (m + 1) (vv)).map byteV ++ List.replicate (512 - (27 + (m + 1))) (.int .u8 0)) by
            rw [Hs.out, ← List.append_assoc, List.map_append (l₁ := pl ++ le m (vv)), List.map_singleton, ← byte_val]
            have e5 : (List.replicate (512 - (27 + m)) (Value.int .u8 0)).drop 1 = List.replicate (512 - (27 + (m + 1))) (.int .u8 0) := by rw [List.drop_replicate]; congr 1
            rw [← e5]
            exact hGn)
          have HK3 := hid (HKm.out.trans ((Kept.of_below (below1 wr _)).trans hKn))
          clear hGn hKn hSn HGm HKm Hlen Hs
          go_wp2_with (at_builtin; refine wpList_append_run _ _ hap rfl rfl rfl rfl ?_)
          go_roundw
          case rel => exact ⟨m + 1, by omega, by go_num, by rw [Hd.out]; go_num, rfl, H3.out, HK3.out⟩
          case measure => simp [intOf]; omega
        · obtain rfl : m = 1 := by omega
          clear hmk hm
          go_wp2
          go_roundw
          case rel => exact ⟨6 + 1, by omega, by go_num, rfl, by rw [Hnx.out]; exact HGm.out, HKm.out⟩
          case measure => simp [intOf]
    · have Hp := hid (Hpl.out 7 (by omega))
      obtain ⟨vv, hvv⟩ : ∃ vv : Nat, vv = d := ⟨_, rfl⟩
      obtain ⟨pl, hpl⟩ : ∃ pl, pl = pre e s q f i c d 7 := ⟨_, rfl⟩
      have Hpl1 := hid (show pl.length = 28 by rw [hpl]; exact Hp.out)
      have Hnx := hid (show pre e s q f i c d (7 + 1) = pl ++ le 2 vv by rw [hpl, hvv]; rfl)
      rw [← hpl] at HG
      have HX := hid (HX3.out.kept HK.out hXg.out)
      have hv' : vv < 18446744073709551616 := by rw [hvv]; exact Hval.out 7
      have Hvv := hid hvv
      clear hpl Hp hvv
      have hplen : plen 7 = 28 := rfl
      rw [hplen] at HG
      simp only [show plen 7 = 28 from rfl]
      clear hplen
      have Hix := hid (idx7' HF.out wr)
      go_wp2_with (first
        | (refine wpList_exec _ (by rfl) (exec_index (.tmp 19) (.tmp 20) rfl rfl rfl Hix.out) ?_)
        | (refine wpList_alloc_V rfl rfl zeroF ?_; intro wa hN hB hS; have HA := hid hN; have HBa := hid hB; clear hN hB hS)
        | (refine wpList_store_V 46 (.tmp 8) (.tmp 22) rfl wr.heap.size [.int .i64 2, .func (.func 34) #[] #[.pointer (some ⟨p7, 0, none⟩)], .func (.func 35) #[] #[.pointer (some ⟨p7, 0, none⟩)]] nilF 46 rfl rfl HA.out rfl sizeF (by intro v hv; simp only [List.mem_cons, List.not_mem_nil, or_false] at hv; rcases hv with rfl | rfl | rfl <;> rfl) (by rfl) ?_; intro wb hN hK hS; have hc1 := hN.cell 1; have HC0 := hid hN; have HKb := hid (HBa.out.trans (hK.below _ (Nat.le_refl _) HBa.out.size)); clear hN hK hS)
        | (refine wpList_load_V (.tmp 2) rfl w.heap.size rfl (tagL e s q f i c d) _ (HT.out.below HKb.out) Try.underlying25 rfl size25 (by rfl) ?_))
      rw [E1.out]
      replace HX := hid (HX.out.below HKb.out)
      refine (show Calls Try.prog 34 #[.agg T, .pointer (some ⟨p7, 0, none⟩)] wb (fun y w' => y = .returned (.int .u64 (vv : Int)) ∧ Below wb.heap.size wb w') from by rw [ET.out, Hvv.out]; exact get6_any e s q f i c d (by omega) p7 _ HX.out.c7).mono ?_
      rintro x wc ⟨rfl, hB⟩
      have hc0 := (HC0.out.below hB).cell 0
      have HKc := hid (HKb.out.trans (hB.mono HKb.out.size))
      have HKd := hid (HK.out.trans (Kept.of_below HKc.out))
      have HGc := hid (HG.out.below HKc.out)
      clear hB hc1 HC0 HBa HA HKb
      go_wp2_with fail
      go_loopw [6, 9, 29] (fun b n j wr => ∃ (m : Nat), m ≤ 2 ∧ j = .int .i64 m ∧ n = .int .u64 ((vv / 256 ^ m : Nat) : Int) ∧ b = .slice (some ⟨g, 0, none⟩) (28 + m) 512 ∧ IsV wr g 5 ((pl ++ le m vv).map byteV ++ List.replicate (512 - (28 + m)) (.int .u8 0)) ∧ Kept g w3 wr) (fun _ _ j _ => 2 - (intOf j).toNat)
      case atStart => exact ⟨0, by omega, rfl, by simp, rfl, by show IsV _ _ _ ((pl ++ []).map byteV ++ List.replicate (512 - 28) (.int .u8 0)); rw [List.append_nil]; exact HGc.out, HKd.out⟩
      case round =>
        obtain ⟨m, hm, rfl, rfl, rfl, hG, hK⟩ := hrel
        have HGm := hid hG
        have HKm := hid hK
        clear hG hK
        by_cases hmk : m < 2
        · have Hd := hid (show vv / 256 ^ (m + 1) = vv / 256 ^ m / 256 by rw [Nat.pow_succ, Nat.div_div_eq_div_mul])
          have Hs := hid (le_snoc m (vv))
          have hq : vv / 256 ^ m < 18446744073709551616 := Nat.lt_of_le_of_lt (Nat.div_le_self _ _) hv'
          have Hlen := hid (show ((pl ++ le m (vv)).map byteV).length = (28 + m) by rw [List.length_map, List.length_append, le_length, Hpl1.out]; try omega)
          generalize vv / 256 ^ m = y at *
          obtain ⟨wn, hap, hGn, hKn, hSn⟩ := buf_append elemU8 26 (n := (28 + m)) (m := 1) (c2 := 1) (N := 512) (w := wr.alloc (.cells #[.int .u8 ((y : Int) % 256)] 5)) (HGm.out.below (below1 _ _)) Hlen.out (by rw [List.length_replicate]; omega) (IsRow.alloc_new wr #[.int .u8 ((y : Int) % 256)] 5 (0, 0) [.int .u8 ((y : Int) % 256)] rfl) rfl (by rw [List.length_replicate]; omega) (by simp) (by intro u hu; simp at hu; subst hu; rfl)
          have H3 := hid (show IsV wn g 5 ((pl ++ le (m + 1) (vv)).map byteV ++ List.replicate (512 - (28 + (m + 1))) (.int .u8 0)) by
            rw [Hs.out, ← List.append_assoc, List.map_append (l₁ := pl ++ le m (vv)), List.map_singleton, ← byte_val]
            have e5 : (List.replicate (512 - (28 + m)) (Value.int .u8 0)).drop 1 = List.replicate (512 - (28 + (m + 1))) (.int .u8 0) := by rw [List.drop_replicate]; congr 1
            rw [← e5]
            exact hGn)
          have HK3 := hid (HKm.out.trans ((Kept.of_below (below1 wr _)).trans hKn))
          clear hGn hKn hSn HGm HKm Hlen Hs
          go_wp2_with (at_builtin; refine wpList_append_run _ _ hap rfl rfl rfl rfl ?_)
          go_roundw
          case rel => exact ⟨m + 1, by omega, by go_num, by rw [Hd.out]; go_num, rfl, H3.out, HK3.out⟩
          case measure => simp [intOf]; omega
        · obtain rfl : m = 2 := by omega
          clear hmk hm
          go_wp2
          go_roundw
          case rel => exact ⟨7 + 1, by omega, by go_num, rfl, by rw [Hnx.out]; exact HGm.out, HKm.out⟩
          case measure => simp [intOf]
    · have Hp := hid (Hpl.out 8 (by omega))
      obtain ⟨vv, hvv⟩ : ∃ vv : Nat, vv = 0 := ⟨_, rfl⟩
      obtain ⟨pl, hpl⟩ : ∃ pl, pl = pre e s q f i c d 8 := ⟨_, rfl⟩
      have Hpl1 := hid (show pl.length = 30 by rw [hpl]; exact Hp.out)
      have Hnx := hid (show pre e s q f i c d (8 + 1) = pl ++ le 2 vv by rw [hpl, hvv]; rfl)
      rw [← hpl] at HG
      have HX := hid (HX3.out.kept HK.out hXg.out)
      have hv' : vv < 18446744073709551616 := by rw [hvv]; exact Hval.out 8
      have Hvv := hid hvv
      clear hpl Hp hvv
      have hplen : plen 8 = 30 := rfl
      rw [hplen] at HG
      simp only [show plen 8 = 30 from rfl]
      clear hplen
      have Hix := hid (idx8' HF.out wr)
      go_wp2_with (first
        | (refine wpList_exec _ (by rfl) (exec_index (.tmp 19) (.tmp 20) rfl rfl rfl Hix.out) ?_)
        | (refine wpList_alloc_V rfl rfl zeroF ?_; intro wa hN hB hS; have HA := hid hN; have HBa := hid hB; clear hN hB hS)
        | (refine wpList_store_V 46 (.tmp 8) (.tmp 22) rfl wr.heap.size [.int .i64 2, .func (.func 30) #[] #[.pointer (some ⟨p8, 0, none⟩)], .func (.func 31) #[] #[]] nilF 46 rfl rfl HA.out rfl sizeF (by intro v hv; simp only [List.mem_cons, List.not_mem_nil, or_false] at hv; rcases hv with rfl | rfl | rfl <;> rfl) (by rfl) ?_; intro wb hN hK hS; have hc1 := hN.cell 1; have HC0 := hid hN; have HKb := hid (HBa.out.trans (hK.below _ (Nat.le_refl _) HBa.out.size)); clear hN hK hS)
        | (refine wpList_load_V (.tmp 2) rfl w.heap.size rfl (tagL e s q f i c d) _ (HT.out.below HKb.out) Try.underlying25 rfl size25 (by rfl) ?_))
      rw [E1.out]
      replace HX := hid (HX.out.below HKb.out)
      refine (show Calls Try.prog 30 #[.agg T, .pointer (some ⟨p8, 0, none⟩)] wb (fun y w' => y = .returned (.int .u64 (vv : Int)) ∧ Below wb.heap.size wb w') from by rw [ET.out, Hvv.out]; exact getC_any e s q f i c d p8 0 _ HX.out.c8).mono ?_
      rintro x wc ⟨rfl, hB⟩
      have hc0 := (HC0.out.below hB).cell 0
      have HKc := hid (HKb.out.trans (hB.mono HKb.out.size))
      have HKd := hid (HK.out.trans (Kept.of_below HKc.out))
      have HGc := hid (HG.out.below HKc.out)
      clear hB hc1 HC0 HBa HA HKb
      go_wp2_with fail
      go_loopw [6, 9, 29] (fun b n j wr => ∃ (m : Nat), m ≤ 2 ∧ j = .int .i64 m ∧ n = .int .u64 ((vv / 256 ^ m : Nat) : Int) ∧ b = .slice (some ⟨g, 0, none⟩) (30 + m) 512 ∧ IsV wr g 5 ((pl ++ le m vv).map byteV ++ List.replicate (512 - (30 + m)) (.int .u8 0)) ∧ Kept g w3 wr) (fun _ _ j _ => 2 - (intOf j).toNat)
      case atStart => exact ⟨0, by omega, rfl, by simp, rfl, by show IsV _ _ _ ((pl ++ []).map byteV ++ List.replicate (512 - 30) (.int .u8 0)); rw [List.append_nil]; exact HGc.out, HKd.out⟩
      case round =>
        obtain ⟨m, hm, rfl, rfl, rfl, hG, hK⟩ := hrel
        have HGm := hid hG
        have HKm := hid hK
        clear hG hK
        by_cases hmk : m < 2
        · have Hd := hid (show vv / 256 ^ (m + 1) = vv / 256 ^ m / 256 by rw [Nat.pow_succ, Nat.div_div_eq_div_mul])
          have Hs := hid (le_snoc m (vv))
          have hq : vv / 256 ^ m < 18446744073709551616 := Nat.lt_of_le_of_lt (Nat.div_le_self _ _) hv'
          have Hlen := hid (show ((pl ++ le m (vv)).map byteV).length = (30 + m) by rw [List.length_map, List.length_append, le_length, Hpl1.out]; try omega)
          generalize vv / 256 ^ m = y at *
          obtain ⟨wn, hap, hGn, hKn, hSn⟩ := buf_append elemU8 26 (n := (30 + m)) (m := 1) (c2 := 1) (N := 512) (w := wr.alloc (.cells #[.int .u8 ((y : Int) % 256)] 5)) (HGm.out.below (below1 _ _)) Hlen.out (by rw [List.length_replicate]; omega) (IsRow.alloc_new wr #[.int .u8 ((y : Int) % 256)] 5 (0, 0) [.int .u8 ((y : Int) % 256)] rfl) rfl (by rw [List.length_replicate]; omega) (by simp) (by intro u hu; simp at hu; subst hu; rfl)
          have H3 := hid (show IsV wn g 5 ((pl ++ le (m + 1) (vv)).map byteV ++ List.replicate (512 - (30 + (m + 1))) (.int .u8 0)) by
            rw [Hs.out, ← List.append_assoc, List.map_append (l₁ := pl ++ le m (vv)), List.map_singleton, ← byte_val]
            have e5 : (List.replicate (512 - (30 + m)) (Value.int .u8 0)).drop 1 = List.replicate (512 - (30 + (m + 1))) (.int .u8 0) := by rw [List.drop_replicate]; congr 1
            rw [← e5]
            exact hGn)
          have HK3 := hid (HKm.out.trans ((Kept.of_below (below1 wr _)).trans hKn))
          clear hGn hKn hSn HGm HKm Hlen Hs
          go_wp2_with (at_builtin; refine wpList_append_run _ _ hap rfl rfl rfl rfl ?_)
          go_roundw
          case rel => exact ⟨m + 1, by omega, by go_num, by rw [Hd.out]; go_num, rfl, H3.out, HK3.out⟩
          case measure => simp [intOf]; omega
        · obtain rfl : m = 2 := by omega
          clear hmk hm
          go_wp2
          go_roundw
          case rel => exact ⟨8 + 1, by omega, by go_num, rfl, by rw [Hnx.out]; exact HGm.out, HKm.out⟩
          case measure => simp [intOf]
    · have Hp := hid (Hpl.out 9 (by omega))
      have HG9 := hid (show IsV wr g 5 ((head e s q f i c d).map byteV ++ List.replicate 480 (.int .u8 0)) by rw [← pre_all]; exact HG.out)
      have Hbl9 := hid (show IsBytes wr a l from Hbl3.out.keptV HK.out (fun b off hh => by have := Hlow.out b off hh; have := Hg.out; omega))
      obtain ⟨b, off, ha, hcell⟩ := Hbl9.out
      obtain rfl := ha (by intro h0; have := Hl.out; rw [h0] at this; cases this)
      obtain ⟨wn, hap, hGn, hKn, hSn⟩ := buf_append elemU8 26 (n := 32) (m := 480) (c2 := cc) (N := 512) HG9.out (by rw [List.length_map, head_length]) (by rw [List.length_replicate]; try rfl) Hbl9.out.row (by rw [List.length_map, Hl.out]) (by rw [List.length_replicate]; exact Nat.le_refl _) (by intro h0; have := Hl.out; rw [List.map_eq_nil_iff] at h0; rw [h0] at this; cases this) (byteV_one _)
      have H3 := hid (show IsV wn g 5 ((head e s q f i c d ++ l).map byteV) by
        have e6 : (List.replicate 480 (Value.int .u8 0)).drop 480 = [] := by rw [List.drop_replicate]; rfl
        rw [e6, List.append_nil, ← List.map_append] at hGn
        exact hGn)
      have HK3 := hid (HB3.out.trans ((HK.out.trans hKn).below _ (Nat.le_of_lt Hg.out) HB3.out.size))
      clear hGn hKn hSn ha hcell
      simp only [show plen 9 = 32 from rfl]
      go_wp2_with (at_builtin; refine wpList_append_run _ _ hap rfl rfl rfl rfl ?_)
      go_ret2
      exact ⟨g, rfl, Nat.le_of_lt Hg.out, H3.out, HK3.out⟩
end Go.Proofs.Ytmfncpifalnggaa
