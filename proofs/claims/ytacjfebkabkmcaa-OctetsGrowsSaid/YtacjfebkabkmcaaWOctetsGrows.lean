/- The walk of OctetsGrows. -/
import Derived.Test.YtacjfebkabkmcaaShown
import Derived.Test.YtacjfebkabkmcaaLaw
import Derived.Deep.QuietTactic
import Derived.BigQuiet
import Derived.Deep.RegionHeld3
namespace Go.Proofs.Ytacjfebkabkmcaa
open Go.RowKit O
set_option linter.unusedVariables false

theorem cl_run (P : Program) (z : Int) (m : Nat) (mI : Int) (hm : mI = (m : Int)) : ∃ M : Int, (∀ (ts : Array TypeId) (t : TypeId) (W : World), (Builtin.max_ ts t #[.int .i64 z, .int .i64 0]).run P W = .ok (.int .i64 M) W) ∧ (∀ (ts : Array TypeId) (t : TypeId) (W : World), (Builtin.min_ ts t #[.int .i64 M, .int .i64 mI]).run P W = .ok (.int .i64 ((cl z m : Nat) : Int)) W) := by
  subst hm
  refine ⟨max z 0, fun ts t W => ?_, fun ts t W => ?_⟩
  · simp [Builtin.max_, Builtin.max2]
    omega
  · simp [Builtin.min_, Builtin.min2]
    unfold cl
    omega

set_option maxHeartbeats 1000000 in
theorem walk_OctetsGrows (w : World) (a2 : Option Addr) (l2 : List UInt8) (c2 : Nat) (hb2 : IsBytes w a2 l2) (hlc2 : l2.length ≤ c2) (hc2 : c2 ≤ maxLen)
    (a : Option Addr) (l : List Int) (c : Nat) (hb : IsNums .u64 w a l) (hlc : l.length ≤ c) (hc : c ≤ maxLen) (hw : ∀ x ∈ l, (Lit.int .u64 x).wf = true) (z : Int) (hz : -9223372036854775808 ≤ z ∧ z ≤ 9223372036854775807) :
    Calls Try.prog 8 #[.slice a2 l2.length c2, .slice a l.length c, .int .i64 z] w fun e w' => e = .returned (.bool true) ∧ Below w.heap.size w w' := by
  unfold maxLen at hc hc2
  obtain ⟨k, hmin, hlen, hk, hkc⟩ := cut_min l2 200 200 rfl hlc2
  have hb2' := hid (hb2.take 200)
  have hlen' := hid hlen
  generalize l2.take 200 = l2' at *
  obtain ⟨M, hmx, hmn⟩ := cl_run Try.prog z 8 8 rfl
  have hs8 := cl_le z 8
  obtain ⟨s, hs⟩ : ∃ s, s = cl z 8 := ⟨_, rfl⟩
  rw [← hs] at hmn hs8
  have Hs := hid hs
  have hb' := hid hb
  have Hw := hid hw
  clear hb hb2 hlen hs hw
  go_enter Try.func8, Try.ntmps8
  go_wp2_with fail
  refine (shown_any w).mono ?_
  rintro e w1 ⟨rfl, hB⟩
  have HB := hid hB
  replace hb' := hid (hb'.out.below hB)
  replace hb2' := hid (hb2'.out.below hB)
  clear hB
  obtain ⟨A', c', w2, hrun, hown, hB2⟩ := append_run elemU8 22 (n := 0) (base := w1.heap.size) (w := w1.alloc (.cells #[] 5)) (c2 := c2) (Own.empty 5 w1 (Nat.le_refl _)) rfl ((hb2'.out.below ((Below.refl _ _).alloc (Nat.le_refl _) _)).row) (by simpa using hlen'.out) (byteV_one _) (by omega) (by omega) (by simp)
  rw [Nat.zero_add] at hrun
  rw [List.nil_append] at hown
  have hC : Below w1.heap.size w1 w2 := ((Below.refl _ _).alloc (Nat.le_refl _) _).trans hB2
  have hx := hid hown.row.bytes
  replace HB := hid (HB.out.trans (hC.mono HB.out.size))
  replace hb' := hid (hb'.out.below hC)
  clear hown hB2 hC hb2'
  go_wp2_with (at_builtin; refine wpList_append_run _ _ hrun rfl rfl rfl rfl ?_)
  clear hrun
  go_loopw [0, 9] (fun v i wr => ∃ (j : Nat) (A : Option Addr) (cc m : Nat) (B : List UInt8), j ≤ l.length ∧ j ≤ 40 ∧ i = .int .i64 (j : Nat) ∧ v = .slice A m cc ∧ B.length = m ∧ m ≤ 200 + 8 * j ∧ IsBytes wr A B ∧ IsNums .u64 wr a l ∧ Below w.heap.size w wr) (fun _ i _ => l.length - (intOf i).toNat)
  case atStart => exact ⟨0, A', c', k, l2', by omega, by omega, rfl, rfl, hlen'.out, by omega, hx.out, hb'.out, HB.out⟩
  case round =>
    obtain ⟨j, A, cc, m, B, hj, hj4, rfl, rfl, hm, hm2, hA, hx1, hB1⟩ := hrel
    have HA := hid hA
    have Hm := hid hm
    have Hxx := hid hx1
    have HB2 := hid hB1
    clear hx1 hB1 hb' hA hm hx HB
    by_cases hjn : j < l.length ∧ j < 40
    · obtain ⟨hj1, hj2⟩ := hjn
      obtain ⟨b1, o1, e1, g1⟩ := Hxx.out
      obtain rfl := e1 (by rintro rfl; simp at hj1)
      obtain ⟨x, q1, q2⟩ := nat64_of_wf (Hw.out _ (List.getElem_mem hj1))
      have g1' := g1 j hj1
      rw [q1] at g1'
      have g3 : ∀ {W : World}, IsNums .u64 W (some ⟨b1, o1, none⟩) l → W.cell? ⟨b1, o1 + j, none⟩ = some (.int .u64 (x : Int)) := fun {W} h => by
        obtain ⟨b, o, h1, h2⟩ := h
        have h3 := h1 (by rintro rfl; simp at hj1)
        injection h3 with h3
        injection h3 with h4 h5
        subst h4 h5
        rw [h2 j hj1, q1]
      clear e1 g1 q1
      have hl : (B ++ le s x).length = m + s := by rw [List.length_append, le_length, Hm.out]
      go_wp2_with fail
      refine (put_val Hm.out (by omega) HA.out z x q2 (B ++ le s x) (m + s) (by rw [Hs.out]) hl).mono ?_
      rintro e w3 ⟨A1, c1, rfl, -, hown, hB⟩
      have hA3 := hid hown.row.bytes
      have hB3 := hid (HA.out.below hB)
      have HB3 := hid (HB2.out.trans (hB.mono HB2.out.size))
      have hx3 := hid (Hxx.out.below hB)
      have hlc1 := hid hown.len
      clear hown hB HA HB2 Hxx
      have hc3 := g3 hx3.out
      have k1 : ∀ (W : World), Below w3.heap.size w3 W → W.cell? ⟨b1, o1 + j, none⟩ = some (.int .u64 (x : Int)) := fun W h => (h.cell (World.block_lt_of_cell? w3 _ hc3)).trans hc3
      have k2 := fun (W : World) (h : Below w3.heap.size w3 W) => str_any (c := c1) (l := B) Hm.out ((show (B ++ le s x).take m = B by rw [← Hm.out, List.take_left]) ▸ (hA3.out.take m).below h)
      have k3 := fun (W : World) (h : Below w3.heap.size w3 W) => str_any (c := cc) (l := B) Hm.out (hB3.out.below h)
      obtain ⟨y, hy⟩ : ∃ y, y = num (le s x) := ⟨_, rfl⟩
      have hv1 := hid (show ((num (rdB (le s x) (cl (s : Int) 8)) : Nat) : Int) = (y : Nat) by rw [cl_of s 8 hs8, hy, rdB, if_pos (by rw [le_length]; exact Nat.le_refl _), List.take_of_length_le (by rw [le_length]; exact Nat.le_refl _)])
      have hv2 := hid (show ((num (rdB (le 8 x) (cl (s : Int) 8)) : Nat) : Int) = (y : Nat) by rw [cl_of s 8 hs8, hy, rdB, if_pos (by rw [le_length]; exact hs8), le_take _ _ _ hs8])
      have hAX : IsBytes w3 (if c1 = m then A1 else A1.map (·.add m)) (le s x) := by
        have := hA3.out.drop m c1 (by rw [hl]; omega) (by have := hlc1.out.1; simpa using this)
        rwa [show (B ++ le s x).drop m = le s x by rw [← Hm.out, List.drop_left]] at this
      have tok1 : True := trivial
      have tok2 : True := trivial
      have hle := hid (le_length s x)
      have hle8 := hid (le_length 8 x)
      have hput := hid (show [] ++ le (cl 8 8) x = le 8 x from rfl)
      have Hl := hid hl
      have HlB := hid (show (B ++ le s x).length = m + s ∧ IsBytes w3 A1 (B ++ le s x) from ⟨hl, hA3.out⟩)
      have hm3 : m + s ≤ 200 + 8 * (j + 1) := by omega
      have hsum : IntKind.i64.wrap ((m : Int) + (s : Int)) = (m : Int) + (s : Int) := by rw [IntKind.wrap_i64]; omega
      have hle3 : (m : Int) ≤ (c1 : Int) := by
        have := hlc1.out.1
        rw [List.length_map, hl] at this
        omega
      have hle1 : (m : Int) ≤ (m : Int) + (s : Int) := by omega
      have hle2 : (m : Int) ≤ ((m + s : Nat) : Int) := by omega
      clear hy hc3 hA3 g3 hl hlc1
      by_cases hcm : c1 = m
      · rw [if_pos hcm] at hAX
        subst hcm
        have HAX := hid hAX
        clear hAX
        go_wp2
        go_region_held3 (fun W => Below w3.heap.size w3 W) (first | exact (Below.refl _ _).drew | exact hB5.out | exact hB4.out | exact hBz.out | exact hBy.out | exact hBx.out) (first
          | (go_at_call 14; have _t := tok1; refine (read_any (le s x) s hle.out _ _ _ (by omega) (HAX.out.below (Below.refl _ _).drew)).mono ?_; rintro e w4 ⟨r1, rfl, hr1, hr2, hB⟩; have hBx := hid ((Below.refl w3.heap.size w3).drew.trans hB); have HR1 := hid hr2; have Hge1 := hid hr1; clear hB hr2 hr1 tok1)
          | (go_at_call 15; have _t := tok2; refine (number_val HR1.out (y : Nat) _ _ hv1.out rfl rfl).mono ?_; rintro e w5 ⟨rfl, -, hkp⟩; have hBy := hid (hBx.out.trans (hkp.below _ Hge1.out hBx.out.size)); clear hkp tok2)
          | (go_at_call 10; refine (put_val (l := []) (n := 0) rfl (by omega) (IsBytes.nil _ _) 8 x q2 (le 8 x) 8 hput.out hle8.out).mono ?_; rintro e w6 ⟨A2, c9, rfl, -, hown2, hB⟩; have hBz := hid (hBy.out.trans (hB.mono hBy.out.size)); have HA2 := hid hown2.row.bytes; clear hB hown2)
          | (go_at_call 14; refine (read_any (le 8 x) 8 hle8.out _ _ _ (by omega) HA2.out).mono ?_; rintro e w7 ⟨r2, rfl, hr1, hr2, hB⟩; have hB4 := hid (hBz.out.trans (hB.mono hBz.out.size)); have HR2 := hid hr2; have Hge2 := hid (Nat.le_trans hBz.out.size hr1); clear hB hr2 hr1)
          | (go_at_call 15; refine (number_val HR2.out (y : Nat) _ _ hv2.out rfl rfl).mono ?_; rintro e w8 ⟨rfl, -, hkp⟩; have hB5 := hid (hB4.out.trans (hkp.below _ Hge2.out hB4.out.size)); clear hkp))
        have fin := hid (⟨HlB.out.1, hm3, HlB.out.2.below hB5.out, hx3.out.below hB5.out, HB3.out.trans (hB5.out.mono HB3.out.size)⟩ : (B ++ le s x).length = _ ∧ _ ≤ 200 + 8 * (j + 1) ∧ IsBytes w8 A1 (B ++ le s x) ∧ IsNums .u64 w8 _ l ∧ Below w.heap.size w w8)
        clear hB5 hB4 hBz hBy hBx HlB hx3 HB3
        go_wp2
        go_roundw
        case rel => exact ⟨j + 1, A1, _, _, _, by omega, by omega, by go_num, rfl, fin.out⟩
        case measure => simp [intOf]; omega
      · rw [if_neg hcm] at hAX
        have HAX := hid hAX
        clear hAX
        go_wp2
        go_region_held3 (fun W => Below w3.heap.size w3 W) (first | exact (Below.refl _ _).drew | exact hB5.out | exact hB4.out | exact hBz.out | exact hBy.out | exact hBx.out) (first
          | (go_at_call 14; have _t := tok1; refine (read_any (le s x) s hle.out _ _ _ (by omega) (HAX.out.below (Below.refl _ _).drew)).mono ?_; rintro e w4 ⟨r1, rfl, hr1, hr2, hB⟩; have hBx := hid ((Below.refl w3.heap.size w3).drew.trans hB); have HR1 := hid hr2; have Hge1 := hid hr1; clear hB hr2 hr1 tok1)
          | (go_at_call 15; have _t := tok2; refine (number_val HR1.out (y : Nat) _ _ hv1.out rfl rfl).mono ?_; rintro e w5 ⟨rfl, -, hkp⟩; have hBy := hid (hBx.out.trans (hkp.below _ Hge1.out hBx.out.size)); clear hkp tok2)
          | (go_at_call 10; refine (put_val (l := []) (n := 0) rfl (by omega) (IsBytes.nil _ _) 8 x q2 (le 8 x) 8 hput.out hle8.out).mono ?_; rintro e w6 ⟨A2, c9, rfl, -, hown2, hB⟩; have hBz := hid (hBy.out.trans (hB.mono hBy.out.size)); have HA2 := hid hown2.row.bytes; clear hB hown2)
          | (go_at_call 14; refine (read_any (le 8 x) 8 hle8.out _ _ _ (by omega) HA2.out).mono ?_; rintro e w7 ⟨r2, rfl, hr1, hr2, hB⟩; have hB4 := hid (hBz.out.trans (hB.mono hBz.out.size)); have HR2 := hid hr2; have Hge2 := hid (Nat.le_trans hBz.out.size hr1); clear hB hr2 hr1)
          | (go_at_call 15; refine (number_val HR2.out (y : Nat) _ _ hv2.out rfl rfl).mono ?_; rintro e w8 ⟨rfl, -, hkp⟩; have hB5 := hid (hB4.out.trans (hkp.below _ Hge2.out hB4.out.size)); clear hkp))
        have fin := hid (⟨HlB.out.1, hm3, HlB.out.2.below hB5.out, hx3.out.below hB5.out, HB3.out.trans (hB5.out.mono HB3.out.size)⟩ : (B ++ le s x).length = _ ∧ _ ≤ 200 + 8 * (j + 1) ∧ IsBytes w8 A1 (B ++ le s x) ∧ IsNums .u64 w8 _ l ∧ Below w.heap.size w w8)
        clear hB5 hB4 hBz hBy hBx HlB hx3 HB3
        go_wp2
        go_roundw
        case rel => exact ⟨j + 1, A1, _, _, _, by omega, by omega, by go_num, rfl, fin.out⟩
        case measure => simp [intOf]; omega
    · by_cases hj1 : j < l.length
      all_goals
        go_wp2
        go_ret
        exact ⟨rfl, HB2.out⟩
end Go.Proofs.Ytacjfebkabkmcaa
