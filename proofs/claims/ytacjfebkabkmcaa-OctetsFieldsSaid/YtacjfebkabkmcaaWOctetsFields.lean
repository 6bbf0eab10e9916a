/- The walk of OctetsFields. -/
import Derived.Test.YtacjfebkabkmcaaShown
import Derived.Test.YtacjfebkabkmcaaLaw
import Derived.Deep.QuietTactic
import Derived.BigQuiet
namespace Go.Proofs.Ytacjfebkabkmcaa
open Go.RowKit O
set_option linter.unusedVariables false

theorem min2_run (P : Program) (n m : Nat) : ∀ (ts : Array TypeId) (t : TypeId) (W : World), (Builtin.min_ ts t #[.int .i64 (n : Int), .int .i64 (m : Int)]).run P W = .ok (.int .i64 ((min n m : Nat) : Int)) W := by
  intro ts t W
  simp [Builtin.min_, Builtin.min2]
  split <;> omega
theorem mod_lt301 (m : Nat) : ∃ n : Nat, (m : Int) % 301 = (n : Int) ∧ n < 301 := ⟨m % 301, by omega, by omega⟩

theorem walk_OctetsFields (w : World) (a : Option Addr) (l : List UInt8) (c : Nat) (hb : IsBytes w a l) (hlc : l.length ≤ c) (hc : c ≤ maxLen) (z1 : Int) (hz1 : -9223372036854775808 ≤ z1 ∧ z1 ≤ 9223372036854775807) (z2 : Int) (hz2 : -9223372036854775808 ≤ z2 ∧ z2 ≤ 9223372036854775807) :
    Calls Try.prog 5 #[.slice a l.length c, .int .i64 z1, .int .i64 z2] w fun e w' => e = .returned (.bool true) ∧ Below w.heap.size w w' := by
  unfold maxLen at hc
  obtain ⟨k, hmin, hlen, hk, hkc⟩ := cut_min l 200 200 rfl hlc
  obtain ⟨q1, hmask1, hq1⟩ := and_mask z1 65535 65535 rfl (by omega)
  obtain ⟨q2, hmask2, hq2⟩ := and_mask z2 65535 65535 rfl (by omega)
  obtain ⟨n, hn, hn3⟩ := mod_lt301 q1
  obtain ⟨m, hm, hm3⟩ := mod_lt301 q2
  have hmm := min2_run Try.prog n m
  have Hcn := hid (cl_of n 4096 (by omega))
  have Hcm := hid (cl_of m 4096 (by omega))
  have Hcq := hid (cl_of (min n m) 4096 (by omega))
  have hb' := hid (hb.take 200)
  have hlen' := hid hlen
  generalize l.take 200 = l' at *
  clear hb hz1 hz2 hlen
  go_enter Try.func5, Try.ntmps5
  go_wp2_with fail
  refine (shown_any w).mono ?_
  rintro e w1 ⟨rfl, hB⟩
  have HB := hid hB
  replace hb' := hid (hb'.out.below hB)
  clear hB
  go_wp2_with fail
  refine (field_val hlen'.out hb'.out (n : Int) (field l' n) n (by rw [Hcn.out]) (field_length _ _)).mono ?_
  rintro e w2 ⟨A1, c1, rfl, -, hown, hB⟩
  replace HB := hid (HB.out.trans (hB.mono HB.out.size))
  replace hb' := hid (hb'.out.below hB)
  have hx := hid hown.row.bytes
  clear hB hown
  go_wp2_with fail
  refine (field_val (field_length l' n) hx.out (m : Int) (field (field l' n) m) m (by rw [Hcm.out]) (field_length _ _)).mono ?_
  rintro e w3 ⟨A2, c2, rfl, -, hown, hB⟩
  replace HB := hid (HB.out.trans (hB.mono HB.out.size))
  replace hb' := hid (hb'.out.below hB)
  replace hx := hid (hx.out.below hB)
  have hy := hid hown.row.bytes
  clear hB hown
  go_wp2_with fail
  refine (field_val hlen'.out hb'.out ((min n m : Nat) : Int) (field l' (min n m)) (min n m) (by rw [Hcq.out]) (field_length _ _)).mono ?_
  rintro e w4 ⟨A3, c3, rfl, -, hown, hB⟩
  replace HB := hid (HB.out.trans (hB.mono HB.out.size))
  replace hb' := hid (hb'.out.below hB)
  replace hx := hid (hx.out.below hB)
  replace hy := hid (hy.out.below hB)
  have hv := hid hown.row.bytes
  clear hB hown
  go_wp2_with fail
  refine (field_val (field_length l' (min n m)) hv.out (m : Int) (field (field l' n) m) m (by rw [Hcm.out, field_field]) (field_length _ _)).mono ?_
  rintro e w5 ⟨A4, c4, rfl, -, hown, hB⟩
  replace HB := hid (HB.out.trans (hB.mono HB.out.size))
  replace hb' := hid (hb'.out.below hB)
  replace hx := hid (hx.out.below hB)
  replace hy := hid (hy.out.below hB)
  have hs1 := str_any (n := m) (c := c2) (field_length (field l' n) m) hy.out
  have hs2 := str_any (n := m) (c := c4) (field_length (field l' n) m) hown.row.bytes
  clear hB hown hv hy
  have hfl := hid (field_length l' n)
  have hfg := hid (field_get l' n)
  generalize field (field l' n) m = Y at *
  generalize field l' n = X at *
  go_wp2
  go_loopw [11] (fun i wr => ∃ j : Nat, j ≤ n ∧ i = .int .i64 (j : Nat) ∧ IsBytes wr A1 X ∧ IsBytes wr a l' ∧ Below w.heap.size w wr) (fun i _ => n - (intOf i).toNat)
  case atStart => exact ⟨0, by omega, rfl, hx.out, hb'.out, HB.out⟩
  case round =>
    obtain ⟨j, hj, rfl, hx1, hb1, hB1⟩ := hrel
    have Hx := hid hx1
    have Hb := hid hb1
    have HB2 := hid hB1
    clear hx1 hb1 hB1 hx hb' HB hs1 hs2
    by_cases hjn : j < n
    · have h1 : j < X.length := by rw [hfl.out]; exact hjn
      obtain ⟨b1, o1, e1, g1⟩ := Hx.out
      obtain rfl := e1 (by rintro rfl; simp at h1)
      have g1' := g1 j h1
      have hX : X[j] = l'.getD j 0 := by
        have := hfg.out j hjn
        rw [List.getElem?_eq_getElem h1] at this
        exact Option.some.inj this
      rw [hX] at g1'
      clear e1 g1 hX
      have fin := hid (fun q => (⟨Hx.out.below (below_drewN (Below.refl _ _) q), Hb.out.below (below_drewN (Below.refl _ _) q), below_drewN HB2.out q⟩ : IsBytes (wr.drewN q) _ X ∧ IsBytes (wr.drewN q) a l' ∧ Below w.heap.size w (wr.drewN q)))
      by_cases hjk : j < k
      · have h2 : j < l'.length := by rw [hlen'.out]; exact hjk
        obtain ⟨b2, o2, e2, g2⟩ := Hb.out
        obtain rfl := e2 (by rintro rfl; simp at h2)
        have g2' := g2 j h2
        have e : l'.getD j 0 = l'[j] := by simp [h2]
        rw [e] at g1'
        clear e e2 g2
        generalize l'[j] = C at *
        have hd1 : decide (j < k) = true := by simpa using hjk
        have hd2 : decide (k ≤ j) = false := by simp; omega
        clear h1 h2
        go_wp2
        go_quiet (fail)
        go_wp2
        go_roundw
        case rel => exact ⟨j + 1, by omega, by go_num, fin.out _⟩
        case measure => simp [intOf]; omega
      · have e : l'.getD j 0 = 0 := by
          rw [List.getD_eq_getElem?_getD, List.getElem?_eq_none (by rw [hlen'.out]; omega)]
          rfl
        rw [e] at g1'
        have e0 : n8 0 = 0 := rfl
        rw [e0] at g1'
        clear e e0
        have hd1 : decide (j < k) = false := by simpa using hjk
        have hd2 : decide (k ≤ j) = true := by simp; omega
        clear h1
        go_wp2
        go_quiet (fail)
        go_wp2
        go_roundw
        case rel => exact ⟨j + 1, by omega, by go_num, fin.out _⟩
        case measure => simp [intOf]; omega
    · go_wp2
      go_ret
      exact ⟨rfl, HB2.out⟩
end Go.Proofs.Ytacjfebkabkmcaa
