/- What names.Split answers, by cases; the walk of the laws' common head. -/
import Derived.Test.YtpnhmcckdpdilaaSplitN
namespace Go.Proofs.Ytpnhmcckdpdilaa
open Go.RowKit
set_option linter.unusedVariables false

theorem split_no {l : List UInt8} (h : splitR l = none) (w : World) :
    Calls Try.prog 10 #[.string ⟨l.toArray⟩] w fun e w' => e = .returned (.tuple #[.slice none 0 0, .int .i64 1]) ∧ Below w.heap.size w w' :=
  (split_any l w).mono fun e w' ⟨⟨v, he, ha⟩, hB⟩ => by
    unfold answersN at ha
    rw [h] at ha
    exact ⟨by rw [he, ha], hB⟩
theorem split_yes {l : List UInt8} {D : List (List UInt8)} {n : Nat} (h : splitR l = some D) (hn : D.length = n) (w : World) :
    Calls Try.prog 10 #[.string ⟨l.toArray⟩] w fun e w' => ∃ a c, e = .returned (.tuple #[.slice a n c, .int .i64 0]) ∧ IsRow w' a (D.map strV) ∧ Below w.heap.size w w' :=
  (split_any l w).mono fun e w' ⟨⟨v, he, ha⟩, hB⟩ => by
    subst hn
    unfold answersN at ha
    rw [h] at ha
    obtain ⟨a, c, rfl, hr, _⟩ := ha
    exact ⟨a, c, he, hr, hB⟩
theorem split_cap {l : List UInt8} {D : List (List UInt8)} {n : Nat} (h : splitR l = some D) (hn : D.length = n) (w : World) :
    Calls Try.prog 10 #[.string ⟨l.toArray⟩] w fun e w' => ∃ a c, e = .returned (.tuple #[.slice a n c, .int .i64 0]) ∧ IsRow w' a (D.map strV) ∧ (n ≤ c ∧ c ≤ maxLen) ∧ Below w.heap.size w w' :=
  (split_any l w).mono fun e w' ⟨⟨v, he, ha⟩, hB⟩ => by
    subst hn
    unfold answersN at ha
    rw [h] at ha
    obtain ⟨a, c, rfl, hr, hl⟩ := ha
    exact ⟨a, c, he, hr, hl, hB⟩
theorem name_is {l : List UInt8} {b : Bool} (h : nm l = b) (w : World) : Calls Try.prog 12 #[.string ⟨l.toArray⟩] w fun e w' => e = .returned (.bool b) ∧ w = w' := h ▸ name_any l w

theorem sh1 : splitR [47, 97, 47, 98, 99] = some [[97], [98, 99]] := by decide +kernel
theorem sh2 : splitR [47] = some [] := rfl
theorem sh3 : splitR [47, 97, 47] = none := by decide +kernel
theorem sh4 : splitR [97] = none := by decide +kernel
theorem sh5 : splitR [47, 46, 47, 97] = none := by decide +kernel
theorem sh6 : joinR [[97], [98, 99]] = [47, 97, 47, 98, 99] := by decide +kernel
theorem sh7 : joinR [] = [47] := rfl

set_option maxRecDepth 20000 in
set_option maxHeartbeats 4000000 in
theorem shown_any (w : World) : Calls Try.prog 9 #[] w fun e w' => e = .returned (.bool true) ∧ Below w.heap.size w w' := by
  go_enter Try.func9, Try.ntmps9
  go_wp2_with fail
  refine (split_yes (n := 2) sh1 rfl _).mono ?_
  rintro e w1 ⟨a, c, rfl, hr, hB⟩
  have HR := hid hr
  have HB := hid hB
  clear hr hB
  go_wp2_with fail
  refine (split_yes (n := 0) sh2 rfl _).mono ?_
  rintro e w2 ⟨a2, c2, rfl, hr, hB⟩
  replace HR := hid (HR.out.below hB)
  replace HB := hid (HB.out.trans (hB.mono HB.out.size))
  clear hr hB
  go_wp2_with fail
  refine (split_no sh3 _).mono ?_
  rintro e w3 ⟨rfl, hB⟩
  replace HR := hid (HR.out.below hB)
  replace HB := hid (HB.out.trans (hB.mono HB.out.size))
  clear hB
  go_wp2_with fail
  refine (split_no sh4 _).mono ?_
  rintro e w4 ⟨rfl, hB⟩
  replace HR := hid (HR.out.below hB)
  replace HB := hid (HB.out.trans (hB.mono HB.out.size))
  clear hB
  go_wp2_with fail
  refine (split_no sh5 _).mono ?_
  rintro e w5 ⟨rfl, hB⟩
  replace HR := hid (HR.out.below hB)
  replace HB := hid (HB.out.trans (hB.mono HB.out.size))
  clear hB
  obtain ⟨b, off, ha, hcell⟩ := HR.out
  obtain rfl := ha (by simp)
  have k0 : w5.cell? ⟨b, off, none⟩ = some (.string ⟨#[97]⟩) := hcell 0 (by simp)
  have k1 : w5.cell? ⟨b, off + 1, none⟩ = some (.string ⟨#[98, 99]⟩) := hcell 1 (by simp)
  clear hcell ha
  go_wp2_with fail
  refine (name_is (l := [46, 46, 46]) (b := true) (by decide +kernel) _).mono ?_
  rintro e w6 ⟨rfl, rfl⟩
  go_wp2_with fail
  refine (name_is (l := [46, 46]) (b := false) (by decide +kernel) _).mono ?_
  rintro e w6 ⟨rfl, rfl⟩
  go_wp2_with fail
  refine (name_is (l := []) (b := false) (by decide +kernel) _).mono ?_
  rintro e w6 ⟨rfl, rfl⟩
  go_wp2_with fail
  refine (name_is (l := [97, 98, 99, 100, 101, 102, 103, 104, 105, 106, 107, 108, 109, 110, 111, 112, 113, 114, 115, 116, 117, 118, 119, 120, 121, 122, 46, 120]) (b := true) (by decide +kernel) _).mono ?_
  rintro e w6 ⟨rfl, rfl⟩
  go_wp2_with fail
  refine (name_is (l := [97, 98, 99, 100, 101, 102, 103, 104, 105, 106, 107, 108, 109, 110, 111, 112, 113, 114, 115, 116, 117, 118, 119, 120, 121, 122, 46, 120, 121]) (b := false) (by decide +kernel) _).mono ?_
  rintro e w6 ⟨rfl, rfl⟩
  clear k0 k1
  go_wp2_with fail
  refine (join_any [[97], [98, 99]] _ _ _ HR.out).mono ?_
  rintro e w7 ⟨rfl, hB⟩
  rw [sh6]
  replace HB := hid (HB.out.trans (hB.mono HB.out.size))
  clear hB
  go_wp2_with fail
  refine (join_any [] _ _ _ (IsRow.nil _ _)).mono ?_
  rintro e w8 ⟨rfl, hB⟩
  rw [sh7]
  replace HB := hid (HB.out.trans (hB.mono HB.out.size))
  clear hB
  go_wp2_with fail
  go_ret
  exact ⟨rfl, HB.out⟩
end Go.Proofs.Ytpnhmcckdpdilaa
