/- The walk of OctetsParts. -/
import Derived.Test.YtacjfebkabkmcaaShown
import Derived.Test.YtacjfebkabkmcaaLaw
import Derived.Deep.QuietTactic
import Derived.BigQuiet
namespace Go.Proofs.Ytacjfebkabkmcaa
open Go.RowKit O
set_option linter.unusedVariables false

theorem mod16 (c : UInt8) : ∃ q : Nat, n8 c % 16 = (q : Int) ∧ q < 16 := ⟨c.toNat % 16, by unfold n8; omega, by omega⟩

theorem walk_OctetsParts (w : World) (a : Option Addr) (l : List UInt8) (c : Nat) (hb : IsBytes w a l) (hlc : l.length ≤ c) (hc : c ≤ maxLen)
    (a2 : Option Addr) (l2 : List UInt8) (c2 : Nat) (hb2 : IsBytes w a2 l2) (hlc2 : l2.length ≤ c2) (hc2 : c2 ≤ maxLen) :
    Calls Try.prog 7 #[.slice a l.length c, .slice a2 l2.length c2] w fun e w' => e = .returned (.bool true) ∧ Below w.heap.size w w' := by
  unfold maxLen at hc hc2
  obtain ⟨k, hmin, hlen, hk, hkc⟩ := cut_min l 200 200 rfl hlc
  have hb' := hid (hb.take 200)
  have hlen' := hid hlen
  generalize l.take 200 = l' at *
  have hb2' := hid hb2
  clear hb hb2 hlen
  go_enter Try.func7, Try.ntmps7
  go_wp2_with fail
  refine (shown_any w).mono ?_
  rintro e w1 ⟨rfl, hB⟩
  have HB := hid hB
  replace hb' := hid (hb'.out.below hB)
  replace hb2' := hid (hb2'.out.below hB)
  clear hB
  go_wp2_with fail
  refine (read_any l' k hlen'.out _ _ _ (by omega) hb'.out).mono ?_
  rintro e w2 ⟨r, rfl, hr1, hr2, hB⟩
  have Hrge := hid (Nat.le_trans HB.out.size hr1)
  replace HB := hid (HB.out.trans (hB.mono HB.out.size))
  replace hb' := hid (hb'.out.below hB)
  replace hb2' := hid (hb2'.out.below hB)
  have HR := hid hr2
  clear hB hr1 hr2
  go_wp2
  go_loopw [7, 8] (fun p i wr => ∃ (p' j : Nat), p' ≤ k ∧ j ≤ l2.length ∧ i = .int .i64 (j : Nat) ∧ p = .int .i64 (p' : Nat) ∧ IsReader wr r (l'.drop p') false ∧ IsBytes wr a l' ∧ IsBytes wr a2 l2 ∧ Below w.heap.size w wr) (fun _ i _ => l2.length - (intOf i).toNat)
  case atStart => exact ⟨0, 0, by omega, by omega, rfl, rfl, by rw [List.drop_zero]; exact HR.out, hb'.out, hb2'.out, HB.out⟩
  case round =>
    obtain ⟨p, j, hp, hj, rfl, rfl, hr, hx1, hy1, hB1⟩ := hrel
    have Hr := hid hr
    have Hx := hid hx1
    have Hy := hid hy1
    have HB2 := hid hB1
    clear hr hx1 hy1 hB1 hb' hb2' HB HR
    have hdl : (l'.drop p).length = k - p := by rw [List.length_drop, hlen'.out]
    have Hdl := hid hdl
    clear hdl
    by_cases hjn : j < l2.length ∧ j < 100
    · obtain ⟨hj1, hj2⟩ := hjn
      obtain ⟨b2, o2, e2, g2⟩ := Hy.out
      obtain rfl := e2 (by rintro rfl; simp at hj1)
      have g2' := g2 j hj1
      obtain ⟨q, hq, hq16⟩ := mod16 l2[j]
      have h8 := n8_bd l2[j]
      clear e2 g2
      generalize l2[j] = C at *
      by_cases hqp : q ≤ k - p
      · go_wp2_with fail
        refine (bytes_val Hr.out (by rw [Hdl.out]; omega) ((l'.drop p).take q) (l'.drop (p + q)) false q (by simp only [rdB, Int.toNat_natCast]; rw [if_pos (by rw [Hdl.out]; omega)]) (by simp only [rdL, Int.toNat_natCast]; rw [if_pos (by rw [Hdl.out]; omega), List.drop_drop]) (by simp only [rdS, Int.toNat_natCast]; rw [if_pos (by rw [Hdl.out]; omega)]) (by rw [List.length_take, Hdl.out]; omega)).mono ?_
        rintro e w3 ⟨A1, c1, rfl, hown, hr, hkp⟩
        have hx3 := Hx.out.kept Hr.out hkp
        have hy3 := Hy.out.kept Hr.out hkp
        have hB3 := HB2.out.trans (hkp.below _ Hrge.out HB2.out.size)
        have hfine := hid (fineQ hr true rfl)
        have hs1 := fun j => str_any (w := w3.drewN j) (n := q) (c := c1) (by rw [List.length_take, Hdl.out]; omega) (hown.row.bytes.below (below_drewN (Below.refl _ _) j))
        have hs2 := fun j => str_any (w := w3.drewN j) (n := q) (c := c - p) (l := (l'.drop p).take q) (by rw [List.length_take, Hdl.out]; omega) (((hx3.below (below_drewN (Below.refl _ _) j)).drop p c (by rw [hlen'.out]; omega) (by rw [hlen'.out]; omega)).take q)
        have fin := hid (fun t => (⟨hr.below (below_drewN (Below.refl _ _) t), hx3.below (below_drewN (Below.refl _ _) t), hy3.below (below_drewN (Below.refl _ _) t), below_drewN hB3 t⟩ : IsReader (w3.drewN t) r (l'.drop (p + q)) false ∧ IsBytes (w3.drewN t) a l' ∧ IsBytes (w3.drewN t) _ l2 ∧ Below w.heap.size w (w3.drewN t)))
        clear hown hr hkp hx3 hy3 hB3
        generalize (l'.drop p).take q = Y at *
        go_wp2
        go_quiet ((with_reducible exact hfine.out _))
        go_wp2
        go_roundw
        case rel => exact ⟨p + q, j + 1, by omega, by omega, by go_num, by go_num, fin.out _⟩
        case measure => simp [intOf]; omega
      · go_wp2_with fail
        refine (bytes_val Hr.out (by rw [Hdl.out]; omega) [] [] true 0 (by simp only [rdB, Int.toNat_natCast]; rw [if_neg (by rw [Hdl.out]; omega)]) (by simp only [rdL, Int.toNat_natCast]; rw [if_neg (by rw [Hdl.out]; omega)]) (by simp only [rdS, Int.toNat_natCast]; rw [if_neg (by rw [Hdl.out]; omega)]) rfl).mono ?_
        rintro e w3 ⟨A1, c1, rfl, hown, hr, hkp⟩
        have hB3 := hid (HB2.out.trans (hkp.below _ Hrge.out HB2.out.size))
        have Hr3 := hid hr
        clear hown hr hkp
        go_wp2_with fail
        refine (left_any _ _ r _ Hr3.out).mono ?_
        rintro e w4 ⟨rfl, rfl⟩
        go_wp2_with fail
        refine (fine_any _ _ r _ Hr3.out).mono ?_
        rintro e w4 ⟨rfl, rfl⟩
        go_wp2
        go_ret
        exact ⟨rfl, hB3.out⟩
    · by_cases hj1 : j < l2.length
      all_goals
        go_wp2_with fail
        refine (left_any _ _ r _ Hr.out).mono ?_
        rintro e w4 ⟨rfl, rfl⟩
        rw [Hdl.out]
        go_wp2
        go_ret
        exact ⟨ret_bool (by simp; omega), HB2.out⟩
end Go.Proofs.Ytacjfebkabkmcaa
