/- The walk of the document's names.Join (harrowref17). -/
import Derived.Test.YtpnhmcckdpdilaaJoin
import Derived.Test.YtpnhmcckdpdilaaNameR
namespace Go.Proofs.Ytpnhmcckdpdilaa
open Go.RowKit
set_option linter.unusedVariables false

theorem joinR_good {L : List (List UInt8)} (h : L.all nm = true) : joinR L = if L = [] then [47] else if 1000 < (jpath L).length then [] else jpath L := by
  unfold joinR
  rw [h, Bool.true_and]
  by_cases h1 : L = []
  · rw [if_pos h1, if_pos h1]
  · rw [if_neg h1, if_neg h1]
    by_cases h2 : 1000 < (jpath L).length
    · rw [if_pos h2, decide_eq_false (by omega)]; rfl
    · rw [if_neg h2, decide_eq_true (by omega)]; rfl
theorem jpath_all (L : List (List UInt8)) (h : L.all nm = true) : (jpath L).length ≤ 29 * L.length := by
  induction L with
  | nil => simp [jpath]
  | cons y L ih =>
    rw [List.all_cons, Bool.and_eq_true] at h
    have h1 := ih h.2
    have h2 := h.1
    unfold nm at h2
    rw [decide_eq_true_eq] at h2
    simp only [jpath, List.length_cons, List.length_append]
    omega

set_option maxHeartbeats 4000000 in
set_option maxRecDepth 20000 in
theorem refjoin_any (L : List (List UInt8)) (hs : ∀ x ∈ L, x.length ≤ 9223372036854775806) (hL : L.length ≤ 140737488355328) (w : World) (a : Option Addr) (c : Nat) (hb : IsRow w a (L.map strV)) :
    Calls Try.prog 16 #[.slice a L.length c] w fun e w' => e = .returned (.string ⟨(joinR L).toArray⟩) ∧ Below w.heap.size w w' := by
  obtain ⟨n, hn⟩ : ∃ n, n = L.length := ⟨_, rfl⟩
  rw [← hn] at hL
  rw [← hn]
  have Hn := hid hn
  have Hb := hid hb
  have Hs := hid hs
  clear hn hb hs
  go_enter Try.func16, Try.ntmps16
  go_wp2_with fail
  go_loopw [3, 4] (fun p i wr => ∃ (j : Nat), j ≤ n ∧ i = .int .i64 j ∧ p = .string ⟨(jpath (L.take j)).toArray⟩ ∧ Below w.heap.size w wr ∧ (L.take j).all nm = true) (fun _ i _ => n - (intOf i).toNat)
  case atStart => exact ⟨0, by omega, rfl, rfl, Below.refl _ _, rfl⟩
  case round =>
    obtain ⟨j, hj, rfl, rfl, hB, hall⟩ := hrel
    have HB := hid hB
    have Hall := hid hall
    clear hB hall
    by_cases hjn : j < n
    · have hjl : j < L.length := by have := Hn.out; omega
      obtain ⟨b, off, ha, hcell⟩ := Hb.out.below HB.out
      obtain rfl := ha (by intro h; have := congrArg List.length h; simp at this; rw [this] at hjl; simp at hjl)
      have hc := hcell j (by simpa using hjl)
      rw [List.getElem_map] at hc
      obtain ⟨x, hx⟩ : ∃ x, x = L[j]'hjl := ⟨_, rfl⟩
      rw [← hx] at hc
      have Hx := hid hx
      have hxs : x.length ≤ 9223372036854775806 := by rw [Hx.out]; exact Hs.out _ (List.getElem_mem hjl)
      have hc' : wr.cell? ⟨b, off + j, none⟩ = some (.string ⟨x.toArray⟩) := hc
      clear hc hcell ha hx
      go_wp2_with fail
      refine (refname_any x hxs _).mono ?_
      rintro e w2 ⟨rfl, rfl⟩
      rcases hnm : nm x with _ | _
      · have E := hid (show joinR L = [] from join_bad1 hjl (by rw [← Hx.out]; exact hnm))
        clear hnm
        go_wp2
        go_ret
        exact ⟨by rw [E.out]; rfl, HB.out⟩
      · have Hnm := hid hnm
        clear hnm
        have hx28 : x.length ≤ 28 := by
          have h1 := Hnm.out
          unfold nm at h1
          rw [decide_eq_true_eq] at h1
          exact h1.2.1
        have hP : (jpath (L.take j)).length ≤ 29 * 140737488355328 := by
          have h1 := jpath_all _ Hall.out
          rw [List.length_take] at h1
          omega
        have hn1 : ¬ 9223372036854775807 < (jpath (L.take j)).length + 1 := by omega
        have hn2 : ¬ 9223372036854775807 < (jpath (L.take j)).length + 1 + x.length := by omega
        have Hsn := hid (show (⟨(jpath (L.take j)).toArray⟩ : ByteArray) ++ ⟨#[47]⟩ ++ ⟨x.toArray⟩ = ⟨(jpath (L.take (j + 1))).toArray⟩ by
          rw [← List.take_append_getElem hjl, jpath_snoc, ← Hx.out]
          apply ByteArray.ext
          simp)
        have Hall5 := hid (show (L.take (j + 1)).all nm = true by
          rw [← List.take_append_getElem hjl, List.all_append, Hall.out, ← Hx.out]
          simp [Hnm.out])
        go_wp2
        go_roundw
        case rel => exact ⟨j + 1, by omega, by go_num, by rw [Hsn.out], HB.out, Hall5.out⟩
        case measure => simp [intOf]; omega
    · have hjn' : j = n := by omega
      subst hjn'
      have ht : L.take j = L := List.take_of_length_le (by rw [← Hn.out]; exact Nat.le_refl _)
      rw [ht] at Hall
      have E := hid (joinR_good Hall.out)
      have Hl := hid (jpath_all L Hall.out)
      simp only [ht]
      clear ht
      have Hz := hid (show j = 0 ↔ L = [] by rw [Hn.out]; exact List.length_eq_zero_iff)
      have Hj0 := hid (show L = [] → (jpath L).length = 0 by rintro rfl; rfl)
      go_wp2
      · rename_i hgt
        have e : joinR L = [] := by
          rw [E.out, if_neg (by intro h; have := Hj0.out h; omega), if_pos (by omega)]
        go_ret
        exact ⟨by rw [e]; rfl, HB.out⟩
      · rename_i hle hz
        have e : joinR L = [47] := by
          rw [E.out, if_pos (Hz.out.1 (by rw [beq_iff_eq] at hz; omega))]
        go_ret
        exact ⟨by rw [e]; rfl, HB.out⟩
      · rename_i hle hz
        have e : joinR L = jpath L := by
          rw [E.out, if_neg (by intro h; rw [beq_eq_false_iff_ne] at hz; have := Hz.out.2 h; omega), if_neg (by omega)]
        go_ret
        exact ⟨by rw [e]; rfl, HB.out⟩
end Go.Proofs.Ytpnhmcckdpdilaa
