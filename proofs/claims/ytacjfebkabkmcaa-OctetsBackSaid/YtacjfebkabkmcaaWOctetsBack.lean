/- The walk of OctetsBack. -/
import Derived.Test.YtacjfebkabkmcaaShown
import Derived.Test.YtacjfebkabkmcaaLaw
import Derived.Test.YtacjfebkabkmcaaWords
import Derived.Deep.QuietTactic
import Derived.BigQuiet
import Derived.Deep.RegionHeld3
namespace Go.Proofs.Ytacjfebkabkmcaa
open Go.RowKit O
set_option linter.unusedVariables false

theorem min3_run (P : Program) (n1 n2 K : Nat) (KI : Int) (hK : KI = (K : Int)) : ∃ n : Nat, (∀ (ts : Array TypeId) (t : TypeId) (W : World), (Builtin.min_ ts t #[.int .i64 (n1 : Int), .int .i64 (n2 : Int), .int .i64 KI]).run P W = .ok (.int .i64 (n : Int)) W) ∧ n ≤ n1 ∧ n ≤ n2 ∧ n ≤ K := by
  subst hK
  refine ⟨min (min n1 n2) K, fun ts t W => ?_, by omega, by omega, by omega⟩
  simp [Builtin.min_, Builtin.min2]
  split <;> split <;> omega
theorem mod9 (c : UInt8) : n8 c % 9 = ((c.toNat % 9 : Nat) : Int) := by unfold n8; omega

theorem low_mask (x s : Nat) (hx : x < 18446744073709551616) (hs : s < 8) : bits .and .u64 (x : Int) (IntKind.u64.wrap (IntKind.u64.wrap (2 ^ (8 * s)) - 1)) = ((x % 256 ^ s : Nat) : Int) := by
  have hp : 256 ^ s = 2 ^ (8 * s) := by rw [Nat.pow_mul]
  have hp7 : 256 ^ s ≤ 256 ^ 7 := Nat.pow_le_pow_right (by omega) (by omega)
  have e7 : 256 ^ 7 = 72057594037927936 := by decide
  have h1 : 1 ≤ 256 ^ s := Nat.one_le_pow _ _ (by omega)
  rw [e7] at hp7
  have e : IntKind.u64.wrap (IntKind.u64.wrap (2 ^ (8 * s)) - 1) = ((256 ^ s - 1 : Nat) : Int) := by
    have e2 : (2 : Int) ^ (8 * s) = ((256 ^ s : Nat) : Int) := by rw [hp]; simp
    rw [e2, IntKind.wrap_u64, IntKind.wrap_u64]
    omega
  rw [e, u64_and_nat x (256 ^ s - 1) hx (by omega), hp, Nat.and_two_pow_sub_one_eq_mod]
theorem num_le8 (x s : Nat) (hx : x < 18446744073709551616) (hs : ¬ s < 8) (hs8 : s ≤ 8) : num (le s x) = x := by
  obtain rfl : s = 8 := by omega
  rw [num_le]
  exact Nat.mod_eq_of_lt (by have : 256 ^ 8 = 18446744073709551616 := by decide
                             omega)

theorem walk_OctetsBack (w : World) (a : Option Addr) (l : List Int) (c : Nat) (hb : IsNums .u64 w a l) (hlc : l.length ≤ c) (hc : c ≤ maxLen) (hw : ∀ x ∈ l, (Lit.int .u64 x).wf = true)
    (a2 : Option Addr) (l2 : List UInt8) (c2 : Nat) (hb2 : IsBytes w a2 l2) (hlc2 : l2.length ≤ c2) (hc2 : c2 ≤ maxLen) :
    Calls Try.prog 4 #[.slice a l.length c, .slice a2 l2.length c2] w fun e w' => e = .returned (.bool true) ∧ Below w.heap.size w w' := by
  unfold maxLen at hc hc2
  obtain ⟨n, hmin, hn1, hn2, hn3⟩ := min3_run Try.prog l.length l2.length 50 50 rfl
  obtain ⟨xs, hxs⟩ : ∃ xs, xs = l.map Int.toNat := ⟨_, rfl⟩
  obtain ⟨ss, hss⟩ : ∃ ss, ss = l2.map (fun c => c.toNat % 9) := ⟨_, rfl⟩
  have hxl := hid (show xs.length = l.length by rw [hxs, List.length_map])
  have hsl := hid (show ss.length = l2.length by rw [hss, List.length_map])
  have hx : ∀ j, (h : j < l.length) → l[j] = ((xs[j]'(by rw [hxl.out]; exact h) : Nat) : Int) ∧ (xs[j]'(by rw [hxl.out]; exact h)) < 18446744073709551616 := fun j h => by
    obtain ⟨x, h1, h2⟩ := nat64_of_wf (hw _ (List.getElem_mem h))
    subst hxs
    simp only [List.getElem_map]
    omega
  have hs : ∀ j, (h : j < l2.length) → n8 l2[j] % 9 = ((ss[j]'(by rw [hsl.out]; exact h) : Nat) : Int) ∧ (ss[j]'(by rw [hsl.out]; exact h)) ≤ 8 := fun j h => by
    subst hss
    simp only [List.getElem_map]
    rw [mod9]
    exact ⟨rfl, by omega⟩
  have hsm : ∀ s ∈ ss, s ≤ 8 := fun s h => by
    subst hss
    obtain ⟨c, _, rfl⟩ := List.mem_map.1 h
    omega
  have Hx := hid hx
  have Hs := hid hs
  have Hsm := hid hsm
  have hb' := hid hb
  have hb2' := hid hb2
  clear hb hb2 hx hs hxs hss hw hsm
  go_enter Try.func4, Try.ntmps4
  go_wp2_with fail
  refine (shown_any w).mono ?_
  rintro e w1 ⟨rfl, hB⟩
  have HB := hid hB
  replace hb' := hid (hb'.out.below hB)
  replace hb2' := hid (hb2'.out.below hB)
  clear hB
  go_wp2
  go_loopw [6, 8] (fun v i wr => ∃ (j : Nat) (A : Option Addr) (cc m : Nat), j ≤ n ∧ i = .int .i64 (j : Nat) ∧ v = .slice A m cc ∧ (cat (ss.take j) (xs.take j)).length = m ∧ IsBytes wr A (cat (ss.take j) (xs.take j)) ∧ IsNums .u64 wr a l ∧ IsBytes wr a2 l2 ∧ Below w.heap.size w wr) (fun _ i _ => n - (intOf i).toNat)
  case atStart => exact ⟨0, none, 0, 0, by omega, rfl, rfl, rfl, IsBytes.nil _ _, hb'.out, hb2'.out, HB.out⟩
  case round =>
    obtain ⟨j, A, cc, m, hj, rfl, rfl, hm, hA, hx1, hy1, hB1⟩ := hrel
    have HA := hid hA
    have Hm := hid hm
    have Hxx := hid hx1
    have Hyy := hid hy1
    have HB2 := hid hB1
    clear hx1 hy1 hB1 hb' hb2' HB hA hm
    by_cases hjn : j < n
    · have hj1 : j < l.length := by omega
      have hj2 : j < l2.length := by omega
      have hm8 : m ≤ 8 * 50 := by
        have := cat_length (ss.take j) (xs.take j) 50 8 (fun s h => Hsm.out s (List.mem_of_mem_take h)) (by rw [List.length_take]; omega)
        have := Hm.out
        omega
      obtain ⟨b1, o1, e1, g1⟩ := Hxx.out
      obtain rfl := e1 (by rintro rfl; simp at hj1)
      obtain ⟨b2, o2, e2, g2⟩ := Hyy.out
      obtain rfl := e2 (by rintro rfl; simp at hj2)
      have k1 := fun (W : World) (h : Below wr.heap.size wr W) => (h.cell (World.block_lt_of_cell? wr _ (g1 j hj1))).trans (g1 j hj1)
      have k2 := fun (W : World) (h : Below wr.heap.size wr W) => (h.cell (World.block_lt_of_cell? wr _ (g2 j hj2))).trans (g2 j hj2)
      obtain ⟨q1, q2⟩ := Hx.out j hj1
      obtain ⟨q3, q4⟩ := Hs.out j hj2
      have hcat := cat_take ss xs j (by rw [hsl.out]; exact hj2) (by rw [hxl.out]; exact hj1)
      rw [q1] at k1
      have Hcat := hid hcat
      have h8 := n8_bd l2[j]
      have q5 : IntKind.i64.wrap ((n8 l2[j]).tmod 9) = ((ss[j]'(by rw [hsl.out]; exact hj2) : Nat) : Int) := by
        rw [Int.tmod_eq_emod_of_nonneg h8.1, q3, IntKind.wrap_i64]
        omega
      clear e1 g1 e2 g2 q1 q3 hcat
      generalize l2[j] = C at *
      generalize xs[j]'_ = x at *
      generalize ss[j]'_ = s at *
      go_wp2
      go_region_held3 (fun W => Below wr.heap.size wr W) (first | exact (Below.refl _ _).drew | exact hBx.out) ((go_at_call 10; refine (put_val Hm.out (by omega) (HA.out.below (Below.refl _ _).drew) (s : Int) x q2 (cat (ss.take (j + 1)) (xs.take (j + 1))) _ (by rw [Hcat.out, cl_of s 8 q4]) rfl).mono ?_; rintro e w3 ⟨A1, c1, rfl, hlen, hown, hB⟩; have hBx := hid ((Below.refl wr.heap.size wr).drew.trans hB); clear hB))
      have hr : IsBytes w3 A1 (cat (ss.take (j + 1)) (xs.take (j + 1))) ∧ IsNums .u64 w3 _ l ∧ IsBytes w3 _ l2 ∧ Below w.heap.size w w3 := ⟨hown.row.bytes, Hxx.out.below hBx.out, Hyy.out.below hBx.out, HB2.out.trans (hBx.out.mono HB2.out.size)⟩
      have Hr := hid hr
      clear hr hown hBx k1 k2 hlen
      go_wp2
      go_roundw
      case rel => exact ⟨j + 1, A1, c1, _, by omega, by go_num, rfl, rfl, Hr.out⟩
      case measure => simp [intOf]; omega
    · obtain rfl : j = n := by omega
      have hm8 : m ≤ 8 * 50 := by
        have := cat_length (ss.take j) (xs.take j) 50 8 (fun s h => Hsm.out s (List.mem_of_mem_take h)) (by rw [List.length_take]; omega)
        have := Hm.out
        omega
      go_wp2_with fail
      refine (read_any _ m Hm.out _ _ _ (by omega) HA.out).mono ?_
      rintro e w3 ⟨r, rfl, hr1, hr2, hB⟩
      have Hrge := hid (Nat.le_trans HB2.out.size hr1)
      have HB3 := hid (HB2.out.trans (hB.mono HB2.out.size))
      have hx3 := hid (Hxx.out.below hB)
      have hy3 := hid (Hyy.out.below hB)
      have HR := hid hr2
      clear hB hr1 hr2 HA HB2 Hxx Hyy Hm
      obtain ⟨xs', hxs'⟩ : ∃ xs', xs' = xs.take j := ⟨_, rfl⟩
      obtain ⟨ss', hss'⟩ : ∃ ss', ss' = ss.take j := ⟨_, rfl⟩
      rw [← hxs', ← hss'] at HR
      have hxl' := hid (show xs'.length = j by rw [hxs', List.length_take, hxl.out]; omega)
      have hsl' := hid (show ss'.length = j by rw [hss', List.length_take, hsl.out]; omega)
      have Hx' := hid (fun i (h : i < j) => (show l[i]'(by omega) = ((xs'[i]'(by rw [hxl'.out]; exact h) : Nat) : Int) ∧ (xs'[i]'(by rw [hxl'.out]; exact h)) < 18446744073709551616 by subst hxs'; rw [List.getElem_take]; exact Hx.out i (by omega)))
      have Hs' := hid (fun i (h : i < j) => (show n8 (l2[i]'(by omega)) % 9 = ((ss'[i]'(by rw [hsl'.out]; exact h) : Nat) : Int) ∧ (ss'[i]'(by rw [hsl'.out]; exact h)) ≤ 8 by subst hss'; rw [List.getElem_take]; exact Hs.out i (by omega)))
      clear hxs' hss' Hx Hs hxl hsl Hsm
      go_wp2
      go_loopw [10] (fun i wr => ∃ (k : Nat), k ≤ j ∧ i = .int .i64 (k : Nat) ∧ IsReader wr r (cat (ss'.drop k) (xs'.drop k)) false ∧ IsNums .u64 wr a l ∧ IsBytes wr a2 l2 ∧ Below w.heap.size w wr) (fun i _ => j - (intOf i).toNat)
      case atStart => exact ⟨0, by omega, rfl, by rw [List.drop_zero, List.drop_zero]; exact HR.out, hx3.out, hy3.out, HB3.out⟩
      case round =>
        obtain ⟨k, hk, rfl, hr, hx1, hy1, hB1⟩ := hrel
        have HR := hid hr
        have Hxx := hid hx1
        have Hyy := hid hy1
        have HB2 := hid hB1
        clear hx1 hy1 hB1 hr hx3 hy3 HB3
        by_cases hkj : k < j
        · have hj1 : k < l.length := by omega
          have hj2 : k < l2.length := by omega
          obtain ⟨b1, o1, e1, g1⟩ := Hxx.out
          obtain rfl := e1 (by rintro rfl; simp at hj1)
          obtain ⟨b2, o2, e2, g2⟩ := Hyy.out
          obtain rfl := e2 (by rintro rfl; simp at hj2)
          have g1' := g1 k hj1
          have g2' := g2 k hj2
          obtain ⟨q1, q2⟩ := Hx'.out k hkj
          obtain ⟨q3, q4⟩ := Hs'.out k hkj
          have hcat := cat_drop ss' xs' k (by rw [hsl'.out]; exact hkj) (by rw [hxl'.out]; exact hkj)
          rw [q1] at g1'
          have h8 := n8_bd l2[k]
          have Hcat := hid hcat
          clear e1 g1 e2 g2 q1 hcat
          generalize l2[k] = C at *
          generalize xs'[k]'_ = x at *
          generalize ss'[k]'_ = s at *
          obtain ⟨e5, e6, e7⟩ := rd_append (le s x) (cat (ss'.drop (k + 1)) (xs'.drop (k + 1))) s (le_length _ _) false
          have Hrd := hid (show rdB (cat (ss'.drop k) (xs'.drop k)) (cl (s : Int) 8) = le s x ∧ rdL (cat (ss'.drop k) (xs'.drop k)) (cl (s : Int) 8) = cat (ss'.drop (k + 1)) (xs'.drop (k + 1)) ∧ rdS (cat (ss'.drop k) (xs'.drop k)) (cl (s : Int) 8) false = false by rw [cl_of s 8 q4, Hcat.out]; exact ⟨e5, e6, e7⟩)
          clear e5 e6 e7 Hcat
          by_cases hs8 : s < 8
          · have hmk := low_mask x s q2 hs8
            have Hn := hid (num_le s x)
            generalize x % 256 ^ s = y at *
            go_wp2_with fail
            refine (number_val HR.out (y : Nat) _ _ (by rw [Hrd.out.1, Hn.out]) Hrd.out.2.1 Hrd.out.2.2).mono ?_
            rintro e w4 ⟨rfl, hr, hkp⟩
            have fin := hid (⟨hr, Hxx.out.keep_kept HR.out hkp, Hyy.out.kept HR.out hkp, HB2.out.trans (hkp.below _ Hrge.out HB2.out.size)⟩ : IsReader w4 r (cat (ss'.drop (k + 1)) (xs'.drop (k + 1))) false ∧ IsNums .u64 w4 _ l ∧ IsBytes w4 _ l2 ∧ Below w.heap.size w w4)
            clear hr hkp
            go_wp2_with fail
            refine (fine_any _ _ r _ fin.out.1).mono ?_
            rintro e w5 ⟨rfl, rfl⟩
            go_wp2
            go_roundw
            case rel => exact ⟨k + 1, by omega, by go_num, fin.out⟩
            case measure => simp [intOf]; omega
          · have Hn := hid (num_le8 x s q2 hs8 q4)
            go_wp2_with fail
            refine (number_val HR.out (x : Nat) _ _ (by rw [Hrd.out.1, Hn.out]) Hrd.out.2.1 Hrd.out.2.2).mono ?_
            rintro e w4 ⟨rfl, hr, hkp⟩
            have fin := hid (⟨hr, Hxx.out.keep_kept HR.out hkp, Hyy.out.kept HR.out hkp, HB2.out.trans (hkp.below _ Hrge.out HB2.out.size)⟩ : IsReader w4 r (cat (ss'.drop (k + 1)) (xs'.drop (k + 1))) false ∧ IsNums .u64 w4 _ l ∧ IsBytes w4 _ l2 ∧ Below w.heap.size w w4)
            clear hr hkp
            go_wp2_with fail
            refine (fine_any _ _ r _ fin.out.1).mono ?_
            rintro e w5 ⟨rfl, rfl⟩
            go_wp2
            go_roundw
            case rel => exact ⟨k + 1, by omega, by go_num, fin.out⟩
            case measure => simp [intOf]; omega
        · obtain rfl : k = j := by omega
          have he : cat (ss'.drop k) (xs'.drop k) = [] := by
            rw [List.drop_of_length_le (by rw [hsl'.out]; exact Nat.le_refl _)]
            rfl
          rw [he] at HR
          go_wp2_with fail
          refine (left_any _ _ r _ HR.out).mono ?_
          rintro e w4 ⟨rfl, rfl⟩
          go_wp2
          go_ret
          exact ⟨rfl, HB2.out⟩
end Go.Proofs.Ytacjfebkabkmcaa
