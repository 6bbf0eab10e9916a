/- The walk of NamesLong. -/
import Derived.Test.YtpnhmcckdpdilaaRefS
namespace Go.Proofs.Ytpnhmcckdpdilaa
open Go.RowKit
set_option linter.unusedVariables false

theorem str_app' (l m : List UInt8) : (⟨l.toArray⟩ : ByteArray) ++ ⟨m.toArray⟩ = ⟨(l ++ m).toArray⟩ := by
  apply ByteArray.ext
  simp
theorem nm_ns (N : Nat) (h : 1 ≤ N) (h2 : N ≤ 28) : nm (List.replicate N 110) = true := by
  unfold nm
  rw [decide_eq_true_eq]
  simp only [List.length_replicate, List.mem_replicate]
  refine ⟨h, h2, fun h => absurd h.2 (by decide), fun h => absurd h.2 (by decide), fun h => ?_, fun h => ?_⟩
  · have : (46 : UInt8) ∈ List.replicate N 110 := by rw [h]; simp
    rw [List.mem_replicate] at this
    exact absurd this.2 (by decide)
  · have : (46 : UInt8) ∈ List.replicate N 110 := by rw [h]; simp
    rw [List.mem_replicate] at this
    exact absurd this.2 (by decide)
theorem all_rep {M : List UInt8} (h : nm M = true) (j : Nat) : (List.replicate j M).all nm = true := by
  rw [List.all_eq_true]
  intro x hx
  rw [List.mem_replicate] at hx
  rw [hx.2, h]
theorem jpath_rep (M : List UInt8) (j : Nat) : (jpath (List.replicate j M)).length = j * (M.length + 1) := by
  induction j with
  | zero => simp [jpath]
  | succ j ih =>
    rw [List.replicate_succ, jpath, List.length_append, ih, List.length_cons, Nat.succ_mul, Nat.add_comm]
theorem long_fits {M : List UInt8} (hM : nm M = true) {n p : Nat} (hn : 1 ≤ n) (hp : n * (M.length + 1) = p) (h : p ≤ 1000) : joinR (List.replicate n M) = jpath (List.replicate n M) ∧ splitR (jpath (List.replicate n M)) = some (List.replicate n M) := by
  have hl : (jpath (List.replicate n M)).length ≤ 1000 := by rw [jpath_rep, hp]; exact h
  have e : joinR (List.replicate n M) = jpath (List.replicate n M) := by
    unfold joinR
    rw [if_neg (by intro h; have := congrArg List.length h; simp at this; omega), all_rep hM, decide_eq_true hl]
    rfl
  refine ⟨e, ?_⟩
  have := split_join (all_rep hM n) hl
  rwa [e] at this
theorem long_not {M : List UInt8} (hM : nm M = true) {n p : Nat} (hn : 1 ≤ n) (hp : n * (M.length + 1) = p) (h : 1000 < p) : joinR (List.replicate n M) = [] ∧ splitR (jpath (List.replicate n M)) = none := by
  have hl : 1000 < (jpath (List.replicate n M)).length := by rw [jpath_rep, hp]; exact h
  refine ⟨?_, ?_⟩
  · unfold joinR
    rw [if_neg (by intro h; have := congrArg List.length h; simp at this; omega), decide_eq_false (by omega), Bool.and_false]
    rfl
  · unfold splitR
    rw [if_neg (by intro h; have := congrArg List.length h; simp only [List.length_cons, List.length_nil] at this; omega), if_pos (.inr (.inl hl))]

set_option maxRecDepth 20000 in
set_option maxHeartbeats 4000000 in
theorem walk_NamesLong (w : World) (z : Int) (hz : -9223372036854775808 ≤ z ∧ z ≤ 9223372036854775807) (y : Int) (hy : -9223372036854775808 ≤ y ∧ y ≤ 9223372036854775807) :
    Calls Try.prog 6 #[.int .i64 z, .int .i64 y] w fun e w' => e = .returned (.bool true) ∧ Below w.heap.size w w' := by
  obtain ⟨m, hmask, hm⟩ := and_mask z 65535 65535 rfl (by omega)
  obtain ⟨m2, hmask2, hm2⟩ := and_mask y 65535 65535 rfl (by omega)
  obtain ⟨N, hN, hN1, hN2⟩ : ∃ N : Nat, 1 + (m : Int) % 120 = (N : Int) ∧ 1 ≤ N ∧ N ≤ 120 := ⟨1 + m % 120, by omega, by omega, by omega⟩
  obtain ⟨S, hS, hS1, hS2⟩ : ∃ S : Nat, 1 + (m2 : Int) % 28 = (S : Int) ∧ 1 ≤ S ∧ S ≤ 28 := ⟨1 + m2 % 28, by omega, by omega, by omega⟩
  go_enter Try.func6, Try.ntmps6
  go_wp2_with fail
  refine (shown_any w).mono ?_
  rintro e w1 ⟨rfl, hB⟩
  have HB := hid hB
  clear hB
  go_wp2_with fail
  go_loopw [6, 7] (fun s i wr => ∃ (j : Nat), j ≤ S ∧ i = .int .i64 j ∧ s = .string ⟨(List.replicate j 110).toArray⟩ ∧ Below w.heap.size w wr) (fun _ i _ => S - (intOf i).toNat)
  case atStart => exact ⟨0, by omega, rfl, rfl, HB.out⟩
  case round =>
    obtain ⟨j, hj, rfl, rfl, hB⟩ := hrel
    have HB := hid hB
    clear hB
    by_cases hjn : j < S
    · have hcat : (⟨(List.replicate j 110).toArray⟩ : ByteArray) ++ ⟨#[110]⟩ = ⟨(List.replicate (j + 1) 110).toArray⟩ := by
        rw [List.replicate_succ']
        exact str_app' _ [110]
      have Hcat := hid hcat
      clear hcat
      have hlr : (List.replicate j (110 : UInt8)).length = j := List.length_replicate
      generalize List.replicate j (110 : UInt8) = R at *
      have hn1 : ¬ 9223372036854775807 < R.length + 1 := by omega
      clear hlr
      go_wp2
      go_roundw
      case rel => exact ⟨j + 1, by omega, by go_num, by rw [Hcat.out], HB.out⟩
      case measure => simp [intOf]; omega
    · obtain rfl : j = S := by omega
      have hnm := nm_ns j hS1 hS2
      have hlr : (List.replicate j (110 : UInt8)).length = j := List.length_replicate
      generalize List.replicate j (110 : UInt8) = M at *
      have Hnm := hid hnm
      have Hlr := hid hlr
      clear hnm hlr
      go_wp2_with fail
      obtain ⟨w0, rfl⟩ : ∃ w0 : World, w0 = wr := ⟨_, rfl⟩
      go_loopw [8, 9, 10] (fun s o i wr => ∃ (k : Nat) (A : Option Addr) (cc : Nat), k ≤ N ∧ i = .int .i64 k ∧ s = .string ⟨(jpath (List.replicate k M)).toArray⟩ ∧ o = .slice A k cc ∧ Own 9 w.heap.size wr A cc ((List.replicate k M).map strV) ∧ Below w.heap.size w wr) (fun _ _ i _ => N - (intOf i).toNat)
      case atStart => exact ⟨0, none, 0, by omega, rfl, rfl, rfl, Own.nothing, HB.out⟩
      case round =>
        obtain ⟨k, A, cc, hk, rfl, rfl, rfl, hown, hB⟩ := hrel
        have HO := hid hown
        have HB := hid hB
        clear hown hB
        by_cases hkn : k < N
        · have hcat : (⟨(jpath (List.replicate k M)).toArray⟩ : ByteArray) ++ ⟨#[47]⟩ ++ ⟨M.toArray⟩ = ⟨(jpath (List.replicate (k + 1) M)).toArray⟩ := by
            rw [List.replicate_succ', jpath_snoc]
            apply ByteArray.ext
            simp
          have Hcat := hid hcat
          have hlp : (jpath (List.replicate k M)).length ≤ 29 * 120 := by
            have h1 := jpath_all _ (all_rep Hnm.out k)
            rw [List.length_replicate] at h1
            omega
          have hlm : M.length ≤ 28 := by rw [Hlr.out]; omega
          clear hcat
          generalize jpath (List.replicate k M) = R at *
          have hn1 : ¬ 9223372036854775807 < R.length + 1 := by omega
          have hn2 : ¬ 9223372036854775807 < R.length + 1 + M.length := by omega
          have hlr : (List.replicate k M).length = k := List.length_replicate
          obtain ⟨A', c', w3, hap, hown3, hB3⟩ := append_run elemStr 23 (n := k) (m := 1) (c2 := 1) (w := wr.alloc (.cells #[.string ⟨M.toArray⟩] 9)) (HO.out.keep ((Below.refl _ _).alloc (Nat.le_refl _) _)) (by rw [List.length_map]; exact hlr) (IsRow.alloc_new wr #[.string ⟨M.toArray⟩] 9 (0, 0) [.string ⟨M.toArray⟩] rfl) rfl (by intro u hu; simp at hu; subst hu; rfl) (by omega) (by omega) (by simp; have := HB.out.size; omega)
          have H3 := hid (show Own 9 w.heap.size w3 A' c' ((List.replicate (k + 1) M).map strV) by
            rw [List.replicate_succ', List.map_append, List.map_singleton]
            exact hown3)
          have HB3 := hid (((HB.out.alloc HB.out.size _).trans hB3))
          clear hown3 hB3 hlr hlp hlm
          go_wp2_with (at_builtin; refine wpList_append_run _ _ hap rfl rfl rfl rfl ?_)
          go_roundw
          case rel => exact ⟨k + 1, A', c', by omega, by go_num, by rw [Hcat.out], rfl, H3.out, HB3.out⟩
          case measure => simp [intOf]; omega
        · obtain rfl : k = N := by omega
          obtain ⟨p, hp⟩ : ∃ p, k * (M.length + 1) = p := ⟨_, rfl⟩
          have hp2 : p ≤ 3480 := by
            rw [← hp, Hlr.out]
            exact Nat.le_trans (Nat.mul_le_mul hN2 (Nat.add_le_add_right hS2 1)) (by decide)
          have hp3 : (k : Int) * ((j : Int) + 1) = (p : Int) := by
            rw [← hp, Hlr.out]
            simp
          have Hp := hid hp
          clear hp
          have hlr : ((List.replicate k M)).length = k := List.length_replicate
          by_cases hfit : p ≤ 1000
          · obtain ⟨hj, hs⟩ := long_fits Hnm.out hN1 Hp.out hfit
            have hd : decide ((p : Int) ≤ 1000) = true := decide_eq_true (by omega)
            generalize List.replicate k M = X at *
            have Hlx := hid hlr
            have Hj := hid hj
            have Hs := hid hs
            clear hlr hj hs
            go_wp2_with fail
            refine (split_yes Hs.out Hlx.out _).mono ?_
            rintro e w3 ⟨a3, c3, rfl, hr, hB⟩
            have HO3 := hid (HO.out.keep hB)
            have HB3 := hid (HB.out.trans (hB.mono HB.out.size))
            have HR3 := hid hr
            clear hB hr
            go_wp2_with fail
            refine (same_is (b := true) Hlx.out Hlx.out (by simp) _ _ _ _ _ HR3.out HO3.out.row (by omega)).mono ?_
            rintro e w4 ⟨rfl, hB⟩
            have HO4 := hid (HO3.out.keep hB)
            have HB4 := hid (HB3.out.trans (hB.mono HB3.out.size))
            clear hB
            go_wp2_with fail
            refine (join_is Hlx.out Hj.out _ _ _ HO4.out.row).mono ?_
            rintro e w5 ⟨rfl, hB⟩
            have HB5 := hid (HB4.out.trans (hB.mono HB4.out.size))
            clear hB
            go_wp2_with fail
            go_ret
            exact ⟨rfl, HB5.out⟩
          · obtain ⟨hj, hs⟩ := long_not Hnm.out hN1 Hp.out (by omega)
            have hd : decide ((p : Int) ≤ 1000) = false := decide_eq_false (by omega)
            generalize List.replicate k M = X at *
            have Hlx := hid hlr
            have Hj := hid hj
            have Hs := hid hs
            clear hlr hj hs
            go_wp2_with fail
            refine (split_no Hs.out _).mono ?_
            rintro e w3 ⟨rfl, hB⟩
            have HO3 := hid (HO.out.keep hB)
            have HB3 := hid (HB.out.trans (hB.mono HB.out.size))
            clear hB
            go_wp2_with fail
            refine (join_is Hlx.out Hj.out _ _ _ HO3.out.row).mono ?_
            rintro e w5 ⟨rfl, hB⟩
            have HB5 := hid (HB3.out.trans (hB.mono HB3.out.size))
            clear hB
            go_wp2_with fail
            go_ret
            exact ⟨rfl, HB5.out⟩
end Go.Proofs.Ytpnhmcckdpdilaa
