/- The walk of NamesOne. -/
import Derived.Test.YtpnhmcckdpdilaaRefS
namespace Go.Proofs.Ytpnhmcckdpdilaa
open Go.RowKit
set_option linter.unusedVariables false

theorem str_app2 (l m : List UInt8) : (⟨l.toArray⟩ : ByteArray) ++ ⟨m.toArray⟩ = ⟨(l ++ m).toArray⟩ := by
  apply ByteArray.ext
  simp
/-- A text without its slashes. -/
def ns (l : List UInt8) : List UInt8 := l.filter (fun b => b ≠ 47)
theorem ns_mem (l : List UInt8) : (47 : UInt8) ∉ ns l := by
  unfold ns
  rw [List.mem_filter]
  rintro ⟨_, h⟩
  simp at h
theorem ns_len (l : List UInt8) : (ns l).length ≤ l.length := List.length_filter_le _ _
theorem ns_more {x : List UInt8} {k : Nat} (h : k < x.length) (hb : x[k] ≠ 47) : ns (x.take (k + 1)) = ns (x.take k) ++ [x[k]] := by
  unfold ns
  rw [← List.take_append_getElem h, List.filter_append]
  congr 1
  simp [hb]
theorem ns_same {x : List UInt8} {k : Nat} (h : k < x.length) (hb : x[k] = 47) : ns (x.take (k + 1)) = ns (x.take k) := by
  unfold ns
  rw [← List.take_append_getElem h, List.filter_append]
  simp [hb]
def cl (x : List UInt8) : List UInt8 := ns (x.take 30)
theorem cl_len (x : List UInt8) : (cl x).length ≤ 30 := Nat.le_trans (ns_len _) (by rw [List.length_take]; omega)
theorem jpath_ns (L : List (List UInt8)) (h : ∀ x ∈ L, (47 : UInt8) ∉ x) : ∀ acc, scan acc (jpath L) = acc :: L := by
  induction L with
  | nil => intro acc; rfl
  | cons x L ih =>
    intro acc
    rw [jpath, List.cons_append, scan_cons_eq, scan_text (h x (by simp)), List.nil_append, ih (fun y hy => h y (by simp [hy])) x]
theorem jpath_small (L : List (List UInt8)) (h : ∀ x ∈ L, x.length ≤ 30) : (jpath L).length ≤ 31 * L.length := by
  induction L with
  | nil => simp [jpath]
  | cons x L ih =>
    have h1 := ih (fun y hy => h y (by simp [hy]))
    have h2 := h x (by simp)
    simp only [jpath, List.length_append, List.length_cons]
    omega
theorem jpath_root {L : List (List UInt8)} (h : jpath L = [47]) : L = [[]] := by
  match L, h with
  | x :: L, h =>
    rw [jpath, List.cons_append] at h
    injection h with _ h
    rw [List.append_eq_nil_iff] at h
    obtain ⟨rfl, h⟩ := h
    match L, h with
    | [], _ => rfl
theorem split_ns {L : List (List UInt8)} (h : ∀ x ∈ L, (47 : UInt8) ∉ x) (h30 : ∀ x ∈ L, x.length ≤ 30) (h10 : L.length ≤ 10) (h0 : L ≠ []) (h1 : L ≠ [[]]) : splitR (jpath L) = if L.all nm then some L else none := by
  have hl := jpath_small L h30
  have hs : scan [] (jpath L).tail = L := by
    match L, h0 with
    | x :: L, _ =>
      rw [jpath, List.cons_append, List.tail_cons, scan_text (h x (by simp)), List.nil_append, jpath_ns L (fun y hy => h y (by simp [hy]))]
  unfold splitR
  rw [if_neg (fun hh => h1 (jpath_root hh)), if_neg, hs]
  rintro (h2 | h2 | h2)
  · match L, h0 with
    | x :: L, _ => cases h2
  · omega
  · match L, h0 with
    | x :: L, _ => exact h2 rfl

set_option maxRecDepth 20000 in
set_option maxHeartbeats 4000000 in
theorem walk_NamesOne (w : World) (a : Option Addr) (L : List (List UInt8)) (c : Nat) (hb : IsRow w a (L.map strV)) (hlc : L.length ≤ c) (hc : c ≤ maxLen) (hw : ∀ x ∈ L, x.length ≤ maxLen) :
    Calls Try.prog 8 #[.slice a L.length c] w fun e w' => e = .returned (.bool true) ∧ Below w.heap.size w w' := by
  unfold maxLen at hc hw
  obtain ⟨n, hn⟩ : ∃ n, n = L.length := ⟨_, rfl⟩
  rw [← hn] at hlc
  rw [← hn]
  have Hn := hid hn
  have Hb := hid hb
  have Hw := hid hw
  clear hn hb hw
  go_enter Try.func8, Try.ntmps8
  go_wp2_with fail
  refine (shown_any w).mono ?_
  rintro e w1 ⟨rfl, hB⟩
  have HB := hid hB
  clear hB
  go_wp2_with fail
  go_loopw [4, 5, 6, 7] (fun p b m i wr => ∃ (j : Nat), j ≤ n ∧ j ≤ 10 ∧ i = .int .i64 j ∧ m = .int .i64 j ∧ p = .string ⟨(jpath ((L.take j).map cl)).toArray⟩ ∧ b = .bool (((L.take j).map cl).all nm) ∧ Below w.heap.size w wr) (fun _ _ _ i _ => n - (intOf i).toNat)
  case atStart => exact ⟨0, by omega, by omega, rfl, rfl, rfl, rfl, HB.out⟩
  case round =>
    obtain ⟨j, hj, hj10, rfl, rfl, rfl, rfl, hB⟩ := hrel
    have HB := hid hB
    clear hB
    rcases (show (j < n ∧ j < 10) ∨ (n ≤ j) ∨ (j < n ∧ 10 ≤ j) by omega) with ⟨hjn, hj9⟩ | hend
    · have hjl : j < L.length := by have := Hn.out; omega
      obtain ⟨b, off, ha, hcell⟩ := Hb.out
      obtain rfl := ha (by intro h; have := congrArg List.length h; simp at this; rw [this] at hjl; simp at hjl)
      have hc0 := hcell j (by simpa using hjl)
      rw [List.getElem_map] at hc0
      obtain ⟨x, hx⟩ : ∃ x, x = L[j]'hjl := ⟨_, rfl⟩
      rw [← hx] at hc0
      have hxl : x.length ≤ 9223372036854775807 := by rw [hx]; exact Hw.out _ (List.getElem_mem hjl)
      have Hx := hid hx
      have hc' : w.cell? ⟨b, off + j, none⟩ = some (.string ⟨x.toArray⟩) := hc0
      have HK := hid (show ∀ W, Below w.heap.size w W → W.cell? ⟨b, off + j, none⟩ = some (.string ⟨x.toArray⟩) from fun W h => (h.cell (p := ⟨b, off + j, none⟩) (World.block_lt_of_cell? w _ hc')).trans hc')
      have Hsn := hid (show (L.take (j + 1)).map cl = (L.take j).map cl ++ [cl x] by rw [← List.take_append_getElem hjl, List.map_append, ← Hx.out]; rfl)
      have hpl : (jpath ((L.take j).map cl)).length ≤ 310 := by
        have := jpath_small ((L.take j).map cl) (fun y hy => by obtain ⟨z, _, rfl⟩ := List.mem_map.1 hy; exact cl_len z)
        rw [List.length_map, List.length_take] at this
        omega
      clear hcell ha hx hc0 hc'
      generalize (L.take j).map cl = X at *
      obtain ⟨P, hP⟩ : ∃ P, P = jpath X := ⟨_, rfl⟩
      obtain ⟨B, hBq⟩ : ∃ B, B = X.all nm := ⟨_, rfl⟩
      rw [← hP] at hpl ⊢
      rw [← hBq]
      have HP := hid hP
      have HBq := hid hBq
      clear hP hBq
      go_wp2_with fail
      obtain ⟨w0, rfl⟩ : ∃ w0 : World, w0 = wr := ⟨_, rfl⟩
      go_loopw [8, 9] (fun s i wr => ∃ (k : Nat), k ≤ x.length ∧ k ≤ 30 ∧ i = .int .i64 k ∧ s = .string ⟨(ns (x.take k)).toArray⟩ ∧ Below w.heap.size w wr) (fun _ i _ => x.length - (intOf i).toNat)
      case atStart => exact ⟨0, by omega, by omega, rfl, rfl, HB.out⟩
      case round =>
        obtain ⟨k, hk, hk3, rfl, rfl, hB⟩ := hrel
        have HB := hid hB
        have hcr := HK.out wr hB
        clear hB
        rcases (show (k < x.length ∧ k < 30) ∨ (x.length ≤ k) ∨ (k < x.length ∧ 30 ≤ k) by omega) with ⟨hkx, hk30⟩ | hstop
        · obtain ⟨y, hy⟩ : ∃ y, (x[k]'hkx).toNat = y := ⟨_, rfl⟩
          have Hy := hid hy
          have hyb : ∀ h : k < (ByteArray.mk x.toArray).size, ((ByteArray.mk x.toArray)[k]'h).toNat = y := fun h => hy
          have hnl : (ns (x.take k)).length ≤ 30 := Nat.le_trans (ns_len _) (by rw [List.length_take]; omega)
          clear hy
          by_cases hy47 : y = 47
          · have hi : ((y : Int) != 47) = false := by rw [hy47]; rfl
            have Hs := hid (ns_same hkx (UInt8.toNat_inj.1 (by rw [Hy.out, hy47]; rfl)))
            go_wp2
            go_roundw
            case rel => exact ⟨k + 1, by omega, by omega, by go_num, by rw [Hs.out], HB.out⟩
            case measure => simp [intOf]; omega
          · have hi : ((y : Int) != 47) = true := by rw [bne_iff_ne]; omega
            have Hs := hid (ns_more hkx (by intro h; apply hy47; rw [← Hy.out, h]; rfl))
            have Hst := hid (str_app2 (ns (x.take k)) [x[k]])
            have hks : (⟨x.toArray⟩ : ByteArray).extract k (k + 1) = ⟨#[x[k]]⟩ := str_cut x k (k + 1) [x[k]] (by
              rw [← List.take_append_getElem hkx, List.drop_append]
              simp [List.length_take, Nat.min_eq_left (Nat.le_of_lt hkx)])
            go_wp2
            go_roundw
            case rel => exact ⟨k + 1, by omega, by omega, by go_num, by rw [Hs.out]; exact congrArg Value.string Hst.out, HB.out⟩
            case measure => simp [intOf]; omega
        · have hcl : ns (x.take k) = cl x := by
            unfold cl
            congr 1
            rw [List.take_eq_take_iff]
            omega
          rw [hcl]
          clear hcl
          have hsl := cl_len x
          obtain ⟨q, hq⟩ : ∃ q, nm (cl x) = q := ⟨_, rfl⟩
          have Hq := hid hq
          have Hcat := hid (show (⟨P.toArray⟩ : ByteArray) ++ ⟨#[47]⟩ ++ ⟨(cl x).toArray⟩ = ⟨(jpath ((L.take (j + 1)).map cl)).toArray⟩ by
            rw [Hsn.out, jpath_snoc, ← HP.out]
            apply ByteArray.ext
            simp)
          have Hall := hid (show (((L.take (j + 1)).map cl).all nm) = (B && q) by
            rw [Hsn.out, List.all_append, ← HBq.out, ← hq]
            simp)
          clear hq
          generalize cl x = C at *
          have hn1 : ¬ 9223372036854775807 < P.length + 1 := by omega
          have hn2 : ¬ 9223372036854775807 < P.length + 1 + C.length := by omega
          cases B <;> rcases hstop with hstop | ⟨hstop, hstop2⟩
          all_goals
            go_wp2_with fail
            refine (name_is Hq.out _).mono ?_
            rintro e w4 ⟨rfl, rfl⟩
            go_wp2_with fail
            go_roundw
            case rel => exact ⟨j + 1, by omega, by omega, by go_num, by go_num, by rw [Hcat.out], by rw [Hall.out]; rfl, HB.out⟩
            case measure => simp [intOf]; omega
    · have hXl : ((L.take j).map cl).length = j := by rw [List.length_map, List.length_take, ← Hn.out]; omega
      have hns : ∀ y ∈ (L.take j).map cl, (47 : UInt8) ∉ y := fun y hy => by obtain ⟨z, _, rfl⟩ := List.mem_map.1 hy; exact ns_mem _
      have h30 : ∀ y ∈ (L.take j).map cl, y.length ≤ 30 := fun y hy => by obtain ⟨z, _, rfl⟩ := List.mem_map.1 hy; exact cl_len z
      generalize (L.take j).map cl = X at *
      have hsp := split_ns (L := X) hns h30 (by rw [hXl]; exact hj10)
      have hroot := @jpath_root X
      have Hsp := hid hsp
      have Hroot := hid hroot
      have HXl := hid hXl
      clear hsp hroot hXl hns h30
      by_cases hX1 : X = [[]]
      · subst hX1
        obtain rfl : j = 1 := HXl.out.symm
        rcases hend with hend | ⟨hend, hend2⟩
        · go_wp2_with fail
          refine (split_yes (n := 0) sh2 rfl _).mono ?_
          rintro e w2 ⟨a2, c2, rfl, hr, hB⟩
          replace HB := hid (HB.out.trans (hB.mono HB.out.size))
          clear hr hB
          go_wp2_with fail
          go_ret
          exact ⟨rfl, HB.out⟩
        · omega
      · by_cases hX0 : X = []
        · subst hX0
          obtain rfl : j = 0 := HXl.out.symm
          rcases hend with hend | ⟨hend, hend2⟩
          · go_wp2_with fail
            refine (split_no (l := []) rfl _).mono ?_
            rintro e w2 ⟨rfl, hB⟩
            replace HB := hid (HB.out.trans (hB.mono HB.out.size))
            clear hB
            go_wp2_with fail
            go_ret
            exact ⟨rfl, HB.out⟩
          · omega
        · have hj1 : 1 ≤ j := by
            have := HXl.out
            match X, hX0 with
            | y :: X, _ => simp at this; omega
          have hspl := Hsp.out hX0 hX1
          have hP47 : (jpath X == [47]) = false := by
            rw [beq_eq_false_iff_ne]
            exact fun h => hX1 (Hroot.out h)
          obtain ⟨P, hP⟩ : ∃ P, P = jpath X := ⟨_, rfl⟩
          rw [← hP] at hspl hP47 ⊢
          clear hP
          rcases hall : X.all nm with _ | _
          · rw [hall] at hspl
            have Hs := hid (show splitR P = none by rw [hspl]; rfl)
            clear hspl hall
            rcases (show j = 1 ∨ 1 < j by omega) with rfl | hj2
            all_goals
              rcases hend with hend | ⟨hend, hend2⟩
              all_goals
                try (exfalso; omega)
              all_goals
                go_wp2_with fail
                refine (split_no Hs.out _).mono ?_
                rintro e w2 ⟨rfl, hB⟩
                have HB2 := hid (HB.out.trans (hB.mono HB.out.size))
                clear hB
                go_wp2_with fail
                all_goals (go_ret; exact ⟨rfl, HB2.out⟩)
          · rw [hall] at hspl
            have Hs := hid (show splitR P = some X by rw [hspl]; rfl)
            clear hspl hall
            rcases (show j = 1 ∨ 1 < j by omega) with rfl | hj2
            all_goals
              rcases hend with hend | ⟨hend, hend2⟩
              all_goals
                try (exfalso; omega)
              all_goals
                go_wp2_with fail
                refine (split_yes Hs.out HXl.out _).mono ?_
                rintro e w2 ⟨a2, c2, rfl, hr, hB⟩
                have HB2 := hid (HB.out.trans (hB.mono HB.out.size))
                clear hB hr
                go_wp2_with fail
                all_goals (go_ret; exact ⟨rfl, HB2.out⟩)
end Go.Proofs.Ytpnhmcckdpdilaa
