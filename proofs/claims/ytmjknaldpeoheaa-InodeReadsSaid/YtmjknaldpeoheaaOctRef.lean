/- The walks of the document's octets (harrowref03): Put and Field. -/
import Derived.Test.YtmjknaldpeoheaaOct
namespace Go.Proofs.Ytmjknaldpeoheaa
open Go.RowKit O

theorem field_snoc (l : List UInt8) (j : Nat) : field l (j + 1) = field l j ++ [l.getD j 0] := by
  apply List.ext_getElem?
  intro i
  rcases Nat.lt_trichotomy i j with h | h | h
  · rw [field_get _ _ _ (by omega), List.getElem?_append_left (by rw [field_length]; exact h), field_get _ _ _ h]
  · subst h
    rw [field_get _ _ _ (by omega), List.getElem?_append_right (by rw [field_length]; exact Nat.le_refl _), field_length]
    simp
  · rw [List.getElem?_eq_none (by rw [field_length]; omega), List.getElem?_eq_none (by rw [List.length_append, field_length]; simp; omega)]
theorem cl_lt (z : Int) (m j : Nat) : j < cl z m ↔ (j : Int) < z ∧ j < m := by unfold cl; omega

theorem byte_val2 (q : Nat) : Value.int .u8 ((q : Int) % 256 % 256) = byteV (UInt8.ofNat q) := by
  rw [Int.emod_emod_of_dvd _ (by decide), byte_val]

theorem refput_any (l : List UInt8) (n : Nat) (hnl : l.length = n) (w : World) (a : Option Addr) (c : Nat) (hn : n ≤ 140737488000000) (hb : IsBytes w a l) (z : Int) (x : Nat) (hx : x < 18446744073709551616) :
    Calls Try.prog 29 #[.slice a n c, .int .i64 z, .int .u64 (x : Int)] w (Out w (l ++ le (cl z 8) x)) := by
  have hk := cl_le z 8
  have hkl := hid (cl_lt z 8)
  generalize cl z 8 = k at *
  obtain ⟨A1, c1, w2, hap, hown2, hB2⟩ := append_run elemU8 27 (n := 0) (base := w.heap.size) (w := w.alloc (.cells #[] 5)) (c2 := c) (Own.empty 5 w (Nat.le_refl _)) rfl ((hb.below ((Below.refl _ _).alloc (Nat.le_refl _) _)).row) (by simpa using hnl) (byteV_one _) (by omega) (by omega) (by simp)
  rw [Nat.zero_add] at hap
  rw [List.nil_append] at hown2
  have H2 := hid (show Own 5 w.heap.size w2 A1 c1 ((l ++ le 0 x).map byteV) by simpa [le] using hown2)
  have HB := hid ((((Below.refl w.heap.size w).alloc (Nat.le_refl _) _).trans hB2))
  clear hown2 hB2
  go_enter Try.func29, Try.ntmps29
  go_wp2_with (at_builtin; refine wpList_append_run _ _ hap rfl rfl rfl rfl ?_)
  clear hap
  go_loopw [7, 2, 8] (fun v y i wr => ∃ (j : Nat) (A : Option Addr) (cc : Nat), j ≤ k ∧ i = .int .i64 j ∧ y = .int .u64 ((x / 256 ^ j : Nat) : Int) ∧ v = .slice A (n + j) cc ∧ Own 5 w.heap.size wr A cc ((l ++ le j x).map byteV) ∧ Below w.heap.size w wr) (fun _ _ i _ => k - (intOf i).toNat)
  case atStart => exact ⟨0, A1, c1, by omega, rfl, by simp, rfl, H2.out, HB.out⟩
  case round =>
    obtain ⟨j, A, cc, hj, rfl, rfl, rfl, hown, hBr⟩ := hrel
    by_cases hjk : j < k
    · obtain ⟨hz1, hz2⟩ := (hkl.out j).1 hjk
      have hd : x / 256 ^ (j + 1) = x / 256 ^ j / 256 := by rw [Nat.pow_succ, Nat.div_div_eq_div_mul]
      have hs := le_snoc j x
      have hq : x / 256 ^ j < 18446744073709551616 := Nat.lt_of_le_of_lt (Nat.div_le_self _ _) hx
      have Hd := hid hd
      have Hs := hid hs
      have hlen := hid (le_length j x)
      clear hd hs
      generalize x / 256 ^ j = q at *
      obtain ⟨A', c', w3, hap, hown3, hB3⟩ := append_run elemU8 27 (n := n + j) (m := 1) (c2 := 1) (w := wr.alloc (.cells #[.int .u8 ((q : Int) % 256)] 5)) (hown.keep ((Below.refl _ _).alloc (Nat.le_refl _) _)) (by simp [hnl, hlen.out]) (IsRow.alloc_new wr #[.int .u8 ((q : Int) % 256)] 5 (0, 0) [.int .u8 ((q : Int) % 256)] rfl) rfl (by intro u hu; simp at hu; subst hu; rfl) (by omega) (by omega) (by simp; have := hBr.size; omega)
      have H3 := hid (show Own 5 w.heap.size w3 A' c' ((l ++ le (j + 1) x).map byteV) by
        rw [Hs.out, ← List.append_assoc, List.map_append (l₁ := l ++ le j x), List.map_singleton, ← byte_val]
        exact hown3)
      have HB3 := hid (((hBr.alloc hBr.size _).trans hB3))
      clear hown hBr hown3 hB3 hlen
      go_wp2_with (at_builtin; refine wpList_append_run _ _ hap rfl rfl rfl rfl ?_)
      go_roundw
      case rel => exact ⟨j + 1, A', c', by omega, by go_num, by rw [Hd.out]; go_num, rfl, H3.out, HB3.out⟩
      case measure => simp [intOf]; omega
    · obtain rfl : j = k := by omega
      have hno := mt (hkl.out j).2 (by omega)
      by_cases hz1 : (j : Int) < z
      · have hz2 : ¬ j < 8 := fun h => hno ⟨hz1, h⟩
        go_wp2
        go_ret
        exact ⟨A, cc, n + j, rfl, by simp [hnl, le_length], hown, hBr⟩
      · go_wp2
        go_ret
        exact ⟨A, cc, n + j, rfl, by simp [hnl, le_length], hown, hBr⟩

set_option maxRecDepth 20000 in
theorem reffield_any (l : List UInt8) (n : Nat) (hnl : l.length = n) (w : World) (a : Option Addr) (c : Nat) (hb : IsBytes w a l) (z : Int) :
    Calls Try.prog 30 #[.slice a n c, .int .i64 z] w (Out w (field l (cl z 4096))) := by
  have hk := cl_le z 4096
  have hkl := hid (cl_lt z 4096)
  have hb' := hid hb
  generalize cl z 4096 = k at *
  clear hb
  go_enter Try.func30, Try.ntmps30
  go_wp2
  go_loopw [5, 6] (fun v i wr => ∃ (j : Nat) (A : Option Addr) (cc : Nat), j ≤ k ∧ i = .int .i64 j ∧ v = .slice A j cc ∧ Own 5 w.heap.size wr A cc ((field l j).map byteV) ∧ Below w.heap.size w wr) (fun _ i _ => k - (intOf i).toNat)
  case atStart => exact ⟨0, _, 0, by omega, rfl, rfl, by simpa [field] using Own.empty 5 w (Nat.le_refl _), (Below.refl _ _).alloc (Nat.le_refl _) _⟩
  case round =>
    obtain ⟨j, A, cc, hj, rfl, rfl, hown, hBr⟩ := hrel
    by_cases hjk : j < k
    · obtain ⟨hz1, hz2⟩ := (hkl.out j).1 hjk
      have hs := hid (field_snoc l j)
      have hlen := hid (field_length l j)
      have step := fun (C : UInt8) => append_run elemU8 27 (n := j) (m := 1) (c2 := 1) (w := wr.alloc (.cells #[.int .u8 (n8 C)] 5)) (hown.keep ((Below.refl _ _).alloc (Nat.le_refl _) _)) (by simp [hlen.out]) (IsRow.alloc_new wr #[.int .u8 (n8 C)] 5 (0, 0) [.int .u8 (n8 C)] rfl) rfl (by intro u hu; simp at hu; subst hu; rfl) (by omega) (by omega) (by simp; have := hBr.size; omega)
      by_cases hjn : j < n
      · have h1 : j < l.length := by omega
        obtain ⟨b1, o1, e1, g1⟩ := hb'.out.below hBr
        obtain rfl := e1 (by rintro rfl; simp at h1)
        have g1' := g1 j h1
        have e : l.getD j 0 = l[j] := by simp [h1]
        rw [e] at hs
        obtain ⟨A', c', w3, hap, hown3, hB3⟩ := step l[j]
        have H3 := hid (show Own 5 w.heap.size w3 A' c' ((field l (j + 1)).map byteV) by
          rw [hs.out, List.map_append, List.map_singleton]
          exact hown3)
        have HB3 := hid (((hBr.alloc hBr.size _).trans hB3))
        clear hown hBr hown3 hB3 hlen e1 g1 e hs step
        generalize l[j] = C at *
        clear h1
        go_wp2_with (at_builtin; refine wpList_append_run _ _ hap rfl rfl rfl rfl ?_)
        go_roundw
        case rel => exact ⟨j + 1, A', c', by omega, by go_num, rfl, H3.out, HB3.out⟩
        case measure => simp [intOf]; omega
      · have e : l.getD j 0 = 0 := by
          rw [List.getD_eq_getElem?_getD, List.getElem?_eq_none (by omega)]
          rfl
        rw [e] at hs
        obtain ⟨A', c', w3, hap, hown3, hB3⟩ := step 0
        have H3 := hid (show Own 5 w.heap.size w3 A' c' ((field l (j + 1)).map byteV) by
          rw [hs.out, List.map_append, List.map_singleton]
          exact hown3)
        have HB3 := hid (((hBr.alloc hBr.size _).trans hB3))
        rw [show n8 0 = 0 from rfl] at hap
        clear hown hBr hown3 hB3 hlen e hs step
        go_wp2_with (at_builtin; refine wpList_append_run _ _ hap rfl rfl rfl rfl ?_)
        go_roundw
        case rel => exact ⟨j + 1, A', c', by omega, by go_num, rfl, H3.out, HB3.out⟩
        case measure => simp [intOf]; omega
    · obtain rfl : j = k := by omega
      have hno := mt (hkl.out j).2 (by omega)
      by_cases hz1 : (j : Int) < z
      · have hz2 : ¬ j < 4096 := fun h => hno ⟨hz1, h⟩
        go_wp2
        go_ret
        exact ⟨A, cc, j, rfl, field_length _ _, hown, hBr⟩
      · go_wp2
        go_ret
        exact ⟨A, cc, j, rfl, field_length _ _, hown, hBr⟩

theorem refput_val {l : List UInt8} {n : Nat} (hnl : l.length = n) {w : World} {a : Option Addr} {c : Nat} (hn : n ≤ 140737488000000) (hb : IsBytes w a l) (z : Int) (x : Nat) (hx : x < 18446744073709551616) (b : List UInt8) (m : Nat) (he : l ++ le (cl z 8) x = b) (hm : b.length = m) :
    Calls Try.prog 29 #[.slice a n c, .int .i64 z, .int .u64 (x : Int)] w fun e w' => ∃ A c, e = .returned (.slice A m c) ∧ Own 5 w.heap.size w' A c (b.map byteV) ∧ Below w.heap.size w w' := by
  subst he hm
  refine (refput_any l n hnl w a c hn hb z x hx).mono ?_
  rintro e w' ⟨A, c, n, rfl, hn, h⟩
  subst hn
  exact ⟨A, c, rfl, h⟩
theorem reffield_val {l : List UInt8} {n : Nat} (hnl : l.length = n) {w : World} {a : Option Addr} {c : Nat} (hb : IsBytes w a l) (z : Int) (b : List UInt8) (m : Nat) (he : field l (cl z 4096) = b) (hm : b.length = m) :
    Calls Try.prog 30 #[.slice a n c, .int .i64 z] w fun e w' => ∃ A c, e = .returned (.slice A m c) ∧ Own 5 w.heap.size w' A c (b.map byteV) ∧ Below w.heap.size w w' := by
  subst he hm
  refine (reffield_any l n hnl w a c hb z).mono ?_
  rintro e w' ⟨A, c, n, rfl, hn, h⟩
  subst hn
  exact ⟨A, c, rfl, h⟩
end Go.Proofs.Ytmjknaldpeoheaa
