/- The walk of the laws' common head. -/
import Derived.Test.YtacjfebkabkmcaaOct2
import Derived.Lib.SlBytesConst
namespace Go.Proofs.Ytacjfebkabkmcaa
open Go.RowKit O

theorem str_any {l : List UInt8} {n : Nat} (hl : l.length = n) {w : World} {a : Option Addr} {c : Nat} (hb : IsBytes w a l) :
    (convert 22 9 (.slice a n c)).run Try.prog w = .ok (.string ⟨l.toArray⟩) w :=
  str_back Try.underlying22 Try.underlying5 Try.underlying9 l n hl w a c hb

theorem shown_any (w : World) : Calls Try.prog 9 #[] w fun e w' => e = .returned (.bool true) ∧ Below w.heap.size w w' := by
  have kc := fun (w : World) (C : Array Value) (n c : Nat) => Lib.run_convert_bytes_const (P := Try.prog) w 22 5 C n c Try.underlying22 Try.underlying5
  go_enter Try.func9, Try.ntmps9
  go_wp2_with fail
  refine (read_any [2, 1, 7, 9] 4 rfl _ _ _ (by omega) (by exact IsBytes.alloc_new _ _ _ _ _ rfl)).mono ?_
  rintro e w1 ⟨r, rfl, hr1, hr2, hB1⟩
  have hB : Below w.heap.size w w1 := ((Below.refl _ _).alloc (Nat.le_refl _) _).trans (hB1.mono (by simp))
  have hrge : w.heap.size ≤ r := Nat.le_trans (by simp) hr1
  clear hB1 hr1
  have HB := hid hB
  have HR := hid hr2
  clear hB hr2
  go_wp2_with fail
  refine (number_val HR.out 258 [7, 9] false (by decide) (by decide) (by decide)).mono ?_
  rintro e w2 ⟨rfl, hr, hk⟩
  replace HB := hid (HB.out.trans (hk.below _ hrge HB.out.size))
  replace HR := hid hr
  clear hr hk
  go_wp2_with fail
  refine (bytes_val HR.out (by decide) [7] [9] false 1 (by decide) (by decide) (by decide) rfl).mono ?_
  rintro e w3 ⟨A, c, rfl, hown, hr, hk⟩
  replace HB := hid (HB.out.trans (hk.below _ hrge HB.out.size))
  replace HR := hid hr
  have HO := hid hown
  clear hr hk hown
  go_wp2_with fail
  refine (left_any _ _ r _ HR.out).mono ?_
  rintro e w4 ⟨rfl, rfl⟩
  go_wp2_with fail
  refine (number_val HR.out 0 [] true (by decide) (by decide) (by decide)).mono ?_
  rintro e w4 ⟨rfl, hr, hk⟩
  have hb4 := HO.out.row.bytes.kept HR.out hk
  replace HB := hid (HB.out.trans (hk.below _ hrge HB.out.size))
  replace HR := hid hr
  have Hb4 := hid hb4
  clear hr hk hb4 HO
  go_wp2_with fail
  refine (fine_any _ _ r _ HR.out).mono ?_
  rintro e w5 ⟨rfl, rfl⟩
  go_wp2_with fail
  refine (put_val (l := []) (n := 0) rfl (by omega) (IsBytes.nil _ _) 2 258 (by omega) [2, 1] 2 (by decide) rfl).mono ?_
  rintro e w5 ⟨A1, c1, rfl, -, hown, hB⟩
  have hs := str_any (n := 2) (c := c1) (l := [2, 1]) rfl hown.row.bytes
  replace HB := hid (HB.out.trans (hB.mono HB.out.size))
  replace HR := hid (HR.out.below hB)
  replace Hb4 := hid (Hb4.out.below hB)
  clear hown hB
  go_wp2_with fail
  refine (field_val (l := [5]) (n := 1) rfl (by exact IsBytes.alloc_new _ _ _ _ _ rfl) 3 [5, 0, 0] 3 (by decide) rfl).mono ?_
  rintro e w6 ⟨A2, c2, rfl, -, hown, hB⟩
  have hB6 : Below w5.heap.size w5 w6 := ((Below.refl _ _).alloc (Nat.le_refl _) _).trans (hB.mono (by simp))
  clear hs
  have hs := str_any (n := 3) (c := c2) (l := [5, 0, 0]) rfl hown.row.bytes
  replace HB := hid (HB.out.trans (hB6.mono HB.out.size))
  replace HR := hid (HR.out.below hB6)
  have hs2 := str_any (n := 1) (c := c) (l := [7]) rfl (Hb4.out.below hB6)
  clear hown hB hB6 Hb4
  go_wp2_with fail
  refine (left_any _ _ r _ HR.out).mono ?_
  rintro e w7 ⟨rfl, rfl⟩
  go_wp2_with fail
  refine (put_val (l := [120]) (n := 1) rfl (by omega) (by exact IsBytes.alloc_new _ _ _ _ _ rfl) 9 1 (by omega) [120, 1, 0, 0, 0, 0, 0, 0, 0] 9 (by decide) rfl).mono ?_
  rintro e w7 ⟨A3, c3, rfl, -, hown, hB⟩
  have hB7 : Below w6.heap.size w6 w7 := ((Below.refl _ _).alloc (Nat.le_refl _) _).trans (hB.mono (by simp))
  clear hs hs2
  have hs := str_any (n := 9) (c := c3) (l := [120, 1, 0, 0, 0, 0, 0, 0, 0]) rfl hown.row.bytes
  replace HB := hid (HB.out.trans (hB7.mono HB.out.size))
  clear hown hB hB7
  go_wp2
  go_ret
  exact ⟨rfl, HB.out⟩
end Go.Proofs.Ytacjfebkabkmcaa
