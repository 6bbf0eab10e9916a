/- The walk of NamesTells. -/
import Derived.Test.YtpnhmcckdpdilaaRefS
namespace Go.Proofs.Ytpnhmcckdpdilaa
open Go.RowKit
set_option linter.unusedVariables false

set_option maxHeartbeats 4000000 in
theorem walk_NamesTells (w : World) (s : ByteArray) (hs : s.size ≤ maxLen) :
    Calls Try.prog 3 #[.string s] w fun e w' => e = .returned (.bool true) ∧ Below w.heap.size w w' := by
  unfold maxLen at hs
  obtain ⟨l, rfl, hl⟩ := str_list s
  rw [← hl] at hs
  clear hl
  have hx2 := str_min l 1200 1200 rfl
  have hlen : (l.take 1200).length ≤ 1200 := by rw [List.length_take]; omega
  generalize l.take 1200 = l' at *
  have Hlen := hid hlen
  clear hlen
  obtain ⟨b, hb⟩ : ∃ b, nm l' = b := ⟨_, rfl⟩
  have Hb := hid hb
  clear hb
  go_enter Try.func3, Try.ntmps3
  go_wp2_with fail
  refine (shown_any w).mono ?_
  rintro e w1 ⟨rfl, hB⟩
  have HB := hid hB
  clear hB
  rcases hsp : splitR l' with _ | D
  · have Hs := hid hsp
    clear hsp
    go_wp2_with fail
    refine (split_no Hs.out _).mono ?_
    rintro e w2 ⟨rfl, hB⟩
    replace HB := hid (HB.out.trans (hB.mono HB.out.size))
    clear hB
    go_wp2_with fail
    refine (refsplit_no Hs.out _).mono ?_
    rintro e w3 ⟨rfl, hB⟩
    replace HB := hid (HB.out.trans (hB.mono HB.out.size))
    clear hB
    go_wp2_with fail
    refine (name_is Hb.out _).mono ?_
    rintro e w4 ⟨rfl, rfl⟩
    go_wp2_with fail
    refine (refname_is Hb.out (by have := Hlen.out; omega) _).mono ?_
    rintro e w4 ⟨rfl, rfl⟩
    go_wp2_with fail
    refine (same_is (X := []) (Y := []) (n := 0) (m := 0) rfl rfl rfl _ _ _ _ _ (IsRow.nil _ _) (IsRow.nil _ _) (by omega)).mono ?_
    rintro e w4 ⟨rfl, hB⟩
    replace HB := hid (HB.out.trans (hB.mono HB.out.size))
    clear hB
    go_wp2_with fail
    go_ret
    exact ⟨rfl, HB.out⟩
  · have Hs := hid hsp
    clear hsp
    obtain ⟨m, hm⟩ : ∃ m, D.length = m := ⟨_, rfl⟩
    have hm1 : m ≤ 1000 := hm ▸ split_len Hs.out
    have Hm := hid hm
    clear hm
    go_wp2_with fail
    refine (split_yes Hs.out Hm.out _).mono ?_
    rintro e w2 ⟨a, c, rfl, hr, hB⟩
    have HR := hid hr
    replace HB := hid (HB.out.trans (hB.mono HB.out.size))
    clear hB hr
    go_wp2_with fail
    refine (refsplit_yes Hs.out Hm.out _).mono ?_
    rintro e w3 ⟨a2, c2, rfl, hr, hB⟩
    replace HR := hid (HR.out.below hB)
    have HR2 := hid hr
    replace HB := hid (HB.out.trans (hB.mono HB.out.size))
    clear hB hr
    go_wp2_with fail
    refine (name_is Hb.out _).mono ?_
    rintro e w4 ⟨rfl, rfl⟩
    go_wp2_with fail
    refine (refname_is Hb.out (by have := Hlen.out; omega) _).mono ?_
    rintro e w4 ⟨rfl, rfl⟩
    go_wp2_with fail
    refine (same_is (b := true) Hm.out Hm.out (by simp) _ _ _ _ _ HR.out HR2.out (by omega)).mono ?_
    rintro e w4 ⟨rfl, hB⟩
    replace HB := hid (HB.out.trans (hB.mono HB.out.size))
    clear hB
    go_wp2_with fail
    go_ret
    exact ⟨rfl, HB.out⟩
end Go.Proofs.Ytpnhmcckdpdilaa
