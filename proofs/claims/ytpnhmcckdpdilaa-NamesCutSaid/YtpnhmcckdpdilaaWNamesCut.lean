/- The walk of NamesCut. -/
import Derived.Test.YtpnhmcckdpdilaaRefS
namespace Go.Proofs.Ytpnhmcckdpdilaa
open Go.RowKit
set_option linter.unusedVariables false

theorem jpath_scan (t : List UInt8) : ∀ acc, jpath (scan acc t) = 47 :: (acc ++ t) := by
  induction t with
  | nil => intro acc; simp [scan, jpath]
  | cons b r ih =>
    intro acc
    by_cases h : b = 47
    · subst h
      rw [scan_cons_eq, jpath, ih]
      simp
    · rw [scan_cons_ne _ _ h, ih]
      simp
/-- What the names of a path say of it. -/
theorem split_facts {l : List UInt8} {D : List (List UInt8)} (h : splitR l = some D) : D.all nm = true ∧ l.length ≤ 1000 ∧ (D ≠ [] → jpath D = l) := by
  unfold splitR at h
  split at h
  · rename_i h1
    subst h1
    cases h
    exact ⟨rfl, by simp, fun h => absurd rfl h⟩
  · split at h
    · cases h
    · rename_i h2
      split at h
      · rename_i h3
        injection h with h
        subst h
        refine ⟨h3, ?_, fun _ => ?_⟩
        · apply Decidable.byContradiction
          intro h3
          exact h2 (.inr (.inl (by omega)))
        · rw [jpath_scan]
          have h4 : l.head? = some 47 := by
            apply Decidable.byContradiction
            intro h4
            exact h2 (.inr (.inr h4))
          match l, h4 with
          | b :: r, h4 =>
            simp at h4
            subst h4
            simp
      · cases h
theorem jpath_take (D : List (List UInt8)) (k : Nat) : jpath (D.take k) <+: jpath D := by
  refine ⟨jpath (D.drop k), ?_⟩
  rw [← jpath_app, List.take_append_drop]
theorem all_take {D : List (List UInt8)} (h : D.all nm = true) (k : Nat) : (D.take k).all nm = true := by
  rw [List.all_eq_true] at h ⊢
  intro x hx
  exact h x (List.mem_of_mem_take hx)
theorem cut_facts {l : List UInt8} {D : List (List UInt8)} (h : splitR l = some D) (k : Nat) (hk : k ≤ D.length) :
    ∃ T, joinR (D.take k) = T ∧ splitR T = some (D.take k) ∧ (k ≠ 0 → l.take T.length = T ∧ T.length ≤ l.length) := by
  obtain ⟨ha, hl, hj⟩ := split_facts h
  by_cases h0 : k = 0
  · subst h0
    exact ⟨[47], rfl, rfl, fun h => absurd rfl h⟩
  · have hD : D ≠ [] := by rintro rfl; simp at hk; exact h0 hk
    have hD2 : D.take k ≠ [] := by
      intro h
      have := congrArg List.length h
      rw [List.length_take] at this
      simp only [List.length_nil] at this
      omega
    have hp := jpath_take D k
    rw [hj hD] at hp
    have hlen := hp.length_le
    have e : joinR (D.take k) = jpath (D.take k) := by
      unfold joinR
      rw [if_neg hD2, all_take ha k, decide_eq_true (show (jpath (D.take k)).length ≤ 1000 by omega)]
      rfl
    refine ⟨_, rfl, ?_, fun _ => ?_⟩
    · exact split_join (all_take ha k) (by omega)
    · rw [e]
      exact ⟨(List.prefix_iff_eq_take.1 hp).symm, hlen⟩

set_option maxRecDepth 20000 in
set_option maxHeartbeats 4000000 in
theorem walk_NamesCut (w : World) (s : ByteArray) (hs : s.size ≤ maxLen) (z : Int) (hz : -9223372036854775808 ≤ z ∧ z ≤ 9223372036854775807) :
    Calls Try.prog 7 #[.string s, .int .i64 z] w fun e w' => e = .returned (.bool true) ∧ Below w.heap.size w w' := by
  unfold maxLen at hs
  obtain ⟨m, hmask, hm⟩ := and_mask z 65535 65535 rfl (by omega)
  obtain ⟨l, rfl, hl⟩ := str_list s
  rw [← hl] at hs
  clear hl
  have hx2 := str_min l 1000 1000 rfl
  generalize l.take 1000 = l' at *
  go_enter Try.func7, Try.ntmps7
  go_wp2_with fail
  refine (shown_any w).mono ?_
  rintro e w1 ⟨rfl, hB⟩
  have HB := hid hB
  clear hB
  rcases hsp : splitR l' with _ | D
  · have Hs := hid hsp
    clear hsp
    go_wp2_with fail
    refine (split_no Hs.out _).mono ?_
    rintro e w2 ⟨rfl, hB⟩
    replace HB := hid (HB.out.trans (hB.mono HB.out.size))
    clear hB
    go_wp2_with fail
    go_ret
    exact ⟨rfl, HB.out⟩
  · have Hs := hid hsp
    clear hsp
    obtain ⟨n, hn⟩ : ∃ n, D.length = n := ⟨_, rfl⟩
    have hn1 : n ≤ 1000 := hn ▸ split_len Hs.out
    have Hn := hid hn
    clear hn
    obtain ⟨k, hk, hkn⟩ : ∃ k : Nat, (m : Int) % ((n : Int) + 1) = (k : Int) ∧ k ≤ n := ⟨m % (n + 1), mod_nat _ _, by have := Nat.mod_lt m (show 0 < n + 1 by omega); omega⟩
    obtain ⟨T, hT, hsT, hpre⟩ := cut_facts Hs.out k (by rw [Hn.out]; exact hkn)
    have HT := hid hT
    have HsT := hid hsT
    clear hT hsT
    have Htl := hid (show (D.take k).length = k by rw [List.length_take, Hn.out]; omega)
    go_wp2_with fail
    refine (split_cap Hs.out Hn.out _).mono ?_
    rintro e w2 ⟨a, c, rfl, hr, ⟨hnc, hcm⟩, hB⟩
    unfold maxLen at hcm
    have HR := hid hr
    replace HB := hid (HB.out.trans (hB.mono HB.out.size))
    clear hB hr
    have HRk := hid (show ∀ W, Below w2.heap.size w2 W → IsRow W a ((D.take k).map strV) from fun W hW => by
      obtain ⟨b, off, h1, h2⟩ := HR.out.below hW
      refine ⟨b, off, fun hne => h1 (by intro h; apply hne; rw [List.map_take, h, List.take_nil]), fun i hi => ?_⟩
      rw [List.length_map, List.length_take] at hi
      rw [h2 i (by rw [List.length_map]; omega)]
      simp)
    go_wp2_with fail
    refine (join_is Htl.out HT.out _ _ _ (HRk.out _ (Below.refl _ _))).mono ?_
    rintro e w3 ⟨rfl, hB3⟩
    have HB3 := hid hB3
    replace HB := hid (HB.out.trans (hB3.mono HB.out.size))
    clear hB3
    go_wp2_with fail
    refine (split_yes HsT.out Htl.out _).mono ?_
    rintro e w4 ⟨a4, c4, rfl, hr, hB⟩
    have HR4 := hid hr
    have HB4 := hid (HB3.out.trans (hB.mono HB3.out.size))
    replace HB := hid (HB.out.trans (hB.mono HB.out.size))
    clear hB hr
    go_wp2_with fail
    refine (same_is (b := true) Htl.out Htl.out (by simp) _ _ _ _ _ HR4.out (HRk.out _ HB4.out) (by omega)).mono ?_
    rintro e w5 ⟨rfl, hB⟩
    replace HB := hid (HB.out.trans (hB.mono HB.out.size))
    clear hB
    by_cases hk0 : k = 0
    · subst hk0
      go_wp2_with fail
      go_ret
      exact ⟨rfl, HB.out⟩
    · have hki : ((k : Int) == 0) = false := by rw [beq_eq_false_iff_ne]; omega
      obtain ⟨h1, h2⟩ := hpre hk0
      have hx4 : (⟨l'.toArray⟩ : ByteArray).extract 0 T.length = ⟨T.toArray⟩ := by rw [str_take, h1]
      have h3 : (T.length : Int) ≤ (l'.length : Int) := by omega
      clear hpre h1
      go_wp2_with fail
      go_ret
      exact ⟨rfl, HB.out⟩
end Go.Proofs.Ytpnhmcckdpdilaa
