/- The walk of the document's names.Split (harrowref17). -/
import Derived.Test.YtpnhmcckdpdilaaSplitR
namespace Go.Proofs.Ytpnhmcckdpdilaa
open Go.RowKit
set_option linter.unusedVariables false

theorem split_none {l : List UInt8} (hr : ¬ l = [47]) (h0 : l.length ≠ 0) (h1 : l.length ≤ 1000) (hh : l.head? = some 47) (h : (scan [] l.tail).all nm = false) : splitR l = none := by
  unfold splitR
  rw [if_neg hr, if_neg (by rintro (h' | h' | h'); exact h0 (by rw [h']; rfl); omega; exact h' hh), if_neg (by rw [h]; simp)]
theorem split_some {l : List UInt8} {D : List (List UInt8)} {x : List UInt8} (hr : ¬ l = [47]) (h0 : l.length ≠ 0) (h1 : l.length ≤ 1000) (hh : l.head? = some 47) (h : told l (l.length + 1) D x) : splitR l = some D := by
  obtain ⟨_, _, h3, h4⟩ := h
  rcases h4 with ⟨h4, _⟩ | ⟨_, h4⟩
  · omega
  · unfold splitR
    rw [if_neg hr, if_neg (by rintro (h' | h' | h'); exact h0 (by rw [h']; rfl); omega; exact h' hh), h4, if_pos h3]
theorem str_at {l : List UInt8} {j : Nat} (acc : List UInt8) (hj : j < l.length) : (⟨acc.toArray⟩ : ByteArray) ++ (⟨l.toArray⟩ : ByteArray).extract j (j + 1) = ⟨(acc ++ [l[j]]).toArray⟩ := by
  apply ByteArray.ext
  have h : l.toArray.extract j (j + 1) = #[l[j]] := by
    apply Array.ext
    · simp; omega
    · intro i h1 h2
      simp at h2
      subst h2
      simp
  rw [ByteArray.data_append, ByteArray.data_extract, h]
  simp

set_option maxHeartbeats 4000000 in
set_option maxRecDepth 20000 in
theorem refsplit_any (l : List UInt8) (w : World) :
    Calls Try.prog 11 #[.string ⟨l.toArray⟩] w fun e w' => (∃ v, e = .returned v ∧ answersR l w.heap.size v w') ∧ Below w.heap.size w w' := by
  obtain ⟨n, hsz⟩ : ∃ n, l.length = n := ⟨_, rfl⟩
  have Hsz := hid hsz
  by_cases hroot : l = [47]
  · subst hroot
    go_enter Try.func11, Try.ntmps11
    go_wp2
    go_ret2
    exact ⟨⟨_, rfl, _, _, rfl, IsRow.nil _ _⟩, (Below.refl _ _).alloc (Nat.le_refl _) _⟩
  · have hne : (l == [47]) = false := by rw [beq_eq_false_iff_ne]; exact hroot
    by_cases hbad : n = 0 ∨ 1000 < n ∨ l.head? ≠ some 47
    · have E := hid (show splitR l = none by
        unfold splitR
        rw [if_neg hroot, if_pos (by rcases hbad with h | h | h; exact .inl (List.eq_nil_of_length_eq_zero (hsz.trans h)); exact .inr (.inl (by omega)); exact .inr (.inr h))])
      have fin : ∀ w', answersR l w.heap.size (.tuple #[.slice none 0 0, .bool false]) w' := fun w' => by unfold answersR; rw [E.out]
      have Fin := hid fin
      clear fin
      by_cases h0 : n = 0
      · have hz : ((n : Int) == 0) = true := by rw [h0]; rfl
        go_enter Try.func11, Try.ntmps11
        go_wp2
        go_ret2
        exact ⟨⟨.tuple #[.slice none 0 0, .bool false], rfl, Fin.out _⟩, (Below.refl _ _).alloc (Nat.le_refl _) _⟩
      · have hz : ((n : Int) == 0) = false := by rw [beq_eq_false_iff_ne]; omega
        by_cases h1 : 1000 < n
        · go_enter Try.func11, Try.ntmps11
          go_wp2
          go_ret2
          exact ⟨⟨.tuple #[.slice none 0 0, .bool false], rfl, Fin.out _⟩, (Below.refl _ _).alloc (Nat.le_refl _) _⟩
        · have hh := (hbad.resolve_left h0).resolve_left h1
          have hl0 : 0 < l.length := by omega
          obtain ⟨x, hx⟩ : ∃ x, (l[0]'hl0).toNat = x := ⟨_, rfl⟩
          have hxb : ∀ h : 0 < (ByteArray.mk l.toArray).size, ((ByteArray.mk l.toArray)[0]'h).toNat = x := fun h => hx
          have hx47 : ((x : Int) == 47) = false := by
            rw [beq_eq_false_iff_ne]
            intro h
            apply hh
            rw [List.head?_eq_getElem?, List.getElem?_eq_getElem hl0]
            congr 1
            exact UInt8.toNat_inj.1 (by rw [hx]; show x = 47; omega)
          have hx47' : ((x : Int) != 47) = true := by rw [bne, hx47]; rfl
          go_enter Try.func11, Try.ntmps11
          go_wp2
          go_ret2
          exact ⟨⟨.tuple #[.slice none 0 0, .bool false], rfl, Fin.out _⟩, (Below.refl _ _).alloc (Nat.le_refl _) _⟩
    · have h0 : n ≠ 0 := fun h => hbad (.inl h)
      have h1 : n ≤ 1000 := by
        apply Decidable.byContradiction
        intro h
        exact hbad (.inr (.inl (by omega)))
      have hh : l.head? = some 47 := by
        apply Decidable.byContradiction
        intro h
        exact hbad (.inr (.inr h))
      have hl0 : 0 < l.length := by omega
      have hxb : ∀ h : 0 < (ByteArray.mk l.toArray).size, ((ByteArray.mk l.toArray)[0]'h).toNat = 47 := fun h => by
        rw [List.head?_eq_getElem?, List.getElem?_eq_getElem hl0] at hh
        injection hh with hh
        show (l[0]'hl0).toNat = 47
        rw [hh]
        rfl
      have hz : ((n : Int) == 0) = false := by rw [beq_eq_false_iff_ne]; omega
      have Hroot := hid hroot
      have Hh := hid hh
      clear hbad hh hroot
      have HO0 := hid (Own.empty (base := w.heap.size) 9 w (Nat.le_refl _))
      go_enter Try.func11, Try.ntmps11
      go_wp2_with fail
      go_loopw [4, 5, 6] (fun o p i wr => ∃ (j : Nat) (D : List (List UInt8)) (acc : List UInt8) (A : Option Addr) (cc : Nat), 1 ≤ j ∧ j ≤ n + 1 ∧ i = .int .i64 j ∧ o = .slice A D.length cc ∧ p = .string ⟨acc.toArray⟩ ∧ told l j D acc ∧ Own 9 w.heap.size wr A cc (D.map strV) ∧ Below w.heap.size w wr) (fun _ _ i _ => n + 1 - (intOf i).toNat)
      case atStart => exact ⟨1, [], [], _, _, by omega, by omega, rfl, rfl, rfl, told_start l hl0, HO0.out, (Below.refl _ _).alloc (Nat.le_refl _) _⟩
      case round =>
        obtain ⟨j, D, acc, A, cc, hj1, hj, rfl, rfl, rfl, ht, hown, hB⟩ := hrel
        have Ht := hid ht
        have HO := hid hown
        have HB := hid hB
        have hal : acc.length ≤ 1001 := by have := ht.1; omega
        have hdl : D.length ≤ 1001 := by have := ht.2.1; omega
        clear ht hown hB
        by_cases hjn : j < n
        · have hjl : j < l.length := by omega
          obtain ⟨x, hx⟩ : ∃ x, (l[j]'hjl).toNat = x := ⟨_, rfl⟩
          have Hx := hid hx
          have hxb2 : ∀ h : j < (ByteArray.mk l.toArray).size, ((ByteArray.mk l.toArray)[j]'h).toNat = x := fun h => hx
          clear hx
          by_cases h47 : x = 47
          · have hi1 : ((x : Int) != 47) = false := by rw [h47]; rfl
            have Hb := hid (show ∀ h : j < l.length, l[j] = 47 from fun h => UInt8.toNat_inj.1 (by rw [Hx.out, h47]; rfl))
            go_wp2_with fail
            refine (refname_any acc (by omega) _).mono ?_
            rintro e w2 ⟨rfl, rfl⟩
            rcases hnm : nm acc with _ | _
            · have E := hid (show splitR l = none from split_none Hroot.out (by rw [Hsz.out]; exact h0) (by rw [Hsz.out]; exact h1) Hh.out (told_bad Ht.out (by omega) Hb.out hnm))
              clear hnm
              go_wp2
              go_ret2
              exact ⟨⟨.tuple #[.slice none 0 0, .bool false], rfl, by unfold answersR; rw [E.out]⟩, HB.out⟩
            · have Ht2 := hid (told_name Ht.out (by omega) Hb.out hnm)
              clear hnm
              obtain ⟨A', c', w3, hap, hown3, hB3⟩ := append_run elemStr 23 (n := D.length) (m := 1) (c2 := 1) (w := wr.alloc (.cells #[.string ⟨acc.toArray⟩] 9)) (HO.out.keep ((Below.refl _ _).alloc (Nat.le_refl _) _)) (by simp) (IsRow.alloc_new wr #[.string ⟨acc.toArray⟩] 9 (0, 0) [.string ⟨acc.toArray⟩] rfl) rfl (by intro u hu; simp at hu; subst hu; rfl) (by omega) (by omega) (by simp; have := HB.out.size; omega)
              have H3 := hid (show Own 9 w.heap.size w3 A' c' ((D ++ [acc]).map strV) by
                rw [List.map_append, List.map_singleton]
                exact hown3)
              have HB3 := hid (((HB.out.alloc HB.out.size _).trans hB3))
              clear hown3 hB3
              go_wp2_with (at_builtin; refine wpList_append_run _ _ hap rfl rfl rfl rfl ?_)
              go_roundw
              case rel => exact ⟨j + 1, D ++ [acc], [], A', c', by omega, by omega, by go_num, by simp, rfl, Ht2.out, H3.out, HB3.out⟩
              case measure => simp [intOf] <;> omega
          · have hi1 : ((x : Int) != 47) = true := by rw [bne_iff_ne]; omega
            have Ht2 := hid (told_more Ht.out hjl (by intro h; apply h47; rw [← Hx.out, h]; rfl))
            have Hst := hid (str_at acc hjl)
            go_wp2_with fail
            go_roundw
            case rel => exact ⟨j + 1, D, acc ++ [l[j]], A, cc, by omega, by omega, by go_num, rfl, by rw [Hst.out], Ht2.out, HO.out, HB.out⟩
            case measure => simp [intOf] <;> omega
        · by_cases hjn2 : j = n
          · subst hjn2
            have Hb := hid (show ∀ h : j < l.length, l[j] = 47 from fun h => by omega)
            go_wp2_with fail
            refine (refname_any acc (by omega) _).mono ?_
            rintro e w2 ⟨rfl, rfl⟩
            rcases hnm : nm acc with _ | _
            · have E := hid (show splitR l = none from split_none Hroot.out (by rw [Hsz.out]; exact h0) (by rw [Hsz.out]; exact h1) Hh.out (told_bad Ht.out (by omega) Hb.out hnm))
              clear hnm
              go_wp2
              go_ret2
              exact ⟨⟨.tuple #[.slice none 0 0, .bool false], rfl, by unfold answersR; rw [E.out]⟩, HB.out⟩
            · have Ht2 := hid (told_name Ht.out (by omega) Hb.out hnm)
              clear hnm
              obtain ⟨A', c', w3, hap, hown3, hB3⟩ := append_run elemStr 23 (n := D.length) (m := 1) (c2 := 1) (w := wr.alloc (.cells #[.string ⟨acc.toArray⟩] 9)) (HO.out.keep ((Below.refl _ _).alloc (Nat.le_refl _) _)) (by simp) (IsRow.alloc_new wr #[.string ⟨acc.toArray⟩] 9 (0, 0) [.string ⟨acc.toArray⟩] rfl) rfl (by intro u hu; simp at hu; subst hu; rfl) (by omega) (by omega) (by simp; have := HB.out.size; omega)
              have H3 := hid (show Own 9 w.heap.size w3 A' c' ((D ++ [acc]).map strV) by
                rw [List.map_append, List.map_singleton]
                exact hown3)
              have HB3 := hid (((HB.out.alloc HB.out.size _).trans hB3))
              clear hown3 hB3
              go_wp2_with (at_builtin; refine wpList_append_run _ _ hap rfl rfl rfl rfl ?_)
              go_roundw
              case rel => exact ⟨j + 1, D ++ [acc], [], A', c', by omega, by omega, by go_num, by simp, rfl, Ht2.out, H3.out, HB3.out⟩
              case measure => simp [intOf] <;> omega
          · obtain rfl : j = n + 1 := by omega
            have E := hid (show splitR l = some D from split_some Hroot.out (by rw [Hsz.out]; exact h0) (by rw [Hsz.out]; exact h1) Hh.out (by rw [Hsz.out]; exact Ht.out))
            go_wp2_with fail
            go_ret2
            exact ⟨⟨.tuple #[.slice A D.length cc, .bool true], rfl, by unfold answersR; rw [E.out]; exact ⟨A, cc, rfl, HO.out.row⟩⟩, HB.out⟩
end Go.Proofs.Ytpnhmcckdpdilaa
