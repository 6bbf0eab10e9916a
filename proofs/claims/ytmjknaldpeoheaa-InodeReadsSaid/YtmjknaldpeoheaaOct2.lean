/- The walks of package octets, on: numbers out of bytes, and a reader's answers. -/
import Derived.Test.YtmjknaldpeoheaaOct
namespace Go.Proofs.Ytmjknaldpeoheaa
open Go.RowKit O

theorem or_shl (v c k : Nat) (hv : v < 256 ^ k) (hc : c < 256) (hk : k ≤ 7) : bits .or .u64 (v : Int) ((c * 2 ^ (8 * k) : Nat) : Int) = ((v + 256 ^ k * c : Nat) : Int) := by
  have hp : 256 ^ k = 2 ^ (8 * k) := by rw [Nat.pow_mul]
  have hp7 : 256 ^ k ≤ 256 ^ 7 := Nat.pow_le_pow_right (by omega) hk
  have h1 : c * 2 ^ (8 * k) ≤ 255 * 256 ^ 7 := by
    rw [← hp]
    exact Nat.mul_le_mul (by omega) hp7
  have e7 : 256 ^ 7 = 72057594037927936 := by decide
  rw [e7] at h1 hp7
  rw [u64_or_nat v (c * 2 ^ (8 * k)) (by omega) (by omega)]
  congr 1
  rw [← Nat.shiftLeft_eq, Nat.or_comm, ← Nat.shiftLeft_add_eq_or_of_lt (by rw [← hp]; exact hv), Nat.shiftLeft_eq, hp, Nat.mul_comm, Nat.add_comm]

theorem or_shl_walk (v k : Nat) (c : UInt8) (hv : v < 256 ^ k) (hk : k ≤ 7) : bits .or .u64 (v : Int) (IntKind.u64.wrap (n8 c * 2 ^ (8 * k))) = ((v + 256 ^ k * c.toNat : Nat) : Int) := by
  have hc := c.toNat_lt
  have hp : 256 ^ k = 2 ^ (8 * k) := by rw [Nat.pow_mul]
  have hp7 : 256 ^ k ≤ 256 ^ 7 := Nat.pow_le_pow_right (by omega) hk
  have h1 : c.toNat * 2 ^ (8 * k) ≤ 255 * 256 ^ 7 := by
    rw [← hp]
    exact Nat.mul_le_mul (by omega) hp7
  have e7 : 256 ^ 7 = 72057594037927936 := by decide
  rw [e7] at h1
  have e : n8 c * 2 ^ (8 * k) = ((c.toNat * 2 ^ (8 * k) : Nat) : Int) := by unfold n8; simp
  rw [e, IntKind.wrap_u64, Int.emod_eq_of_lt (by omega) (by omega)]
  exact or_shl v c.toNat k hv hc hk

theorem with_any (v k : Nat) (c : UInt8) (hv : v < 256 ^ k) (hk : k ≤ 7) (w : World) :
    Calls Try.prog 43 #[.agg #[.int .u64 (v : Int), .int .u64 (8 * (k : Int))], .int .u8 (n8 c)] w fun e w' => e = .returned (.agg #[.int .u64 ((v + 256 ^ k * c.toNat : Nat) : Int), .int .u64 (8 * (k : Int) + 8)]) ∧ Below w.heap.size w w' := by
  have h8 := n8_bd c
  have ho := or_shl_walk v k c hv hk
  generalize v + 256 ^ k * c.toNat = u at *
  clear hv
  go_enter Try.func43, Try.ntmps43
  go_wp2
  exact bodyPost_ret (v := .agg #[.int .u64 (u : Int), .int .u64 (8 * (k : Int) + 8)]) (by simp [results, Try.results43, go_sem]) rfl ⟨rfl, ((Below.refl _ _).alloc (Nat.le_refl _) _).alloc (by simp) _⟩

theorem take_any (l : List UInt8) (n : Nat) (hnl : l.length = n) (hn8 : n ≤ 8) (w : World) (a : Option Addr) (c : Nat) (hb : IsBytes w a l) :
    Calls Try.prog 41 #[.slice a n c] w fun e w' => e = .returned (.int .u64 ((num l : Nat) : Int)) ∧ Below w.heap.size w w' := by
  subst hnl
  go_enter Try.func41, Try.ntmps41
  go_wp2
  go_loopw [8] (fun i wr => ∃ (k : Nat), k ≤ l.length ∧ i = .int .i64 k ∧ wr.heap[w.heap.size]? = some (.cells #[.int .u64 ((num (l.take k) : Nat) : Int), .int .u64 (8 * (k : Int))] 77 (0, 0)) ∧ Below w.heap.size w wr) (fun i _ => l.length - (intOf i).toNat)
  case atStart => exact ⟨0, by omega, rfl, heap_alloc_new _ _, (Below.refl _ _).alloc (Nat.le_refl _) _⟩
  case round =>
    obtain ⟨k, hk, rfl, hblk, hB⟩ := hrel
    have g0 := cell_of_row wr w.heap.size 0 _ _ _ hblk
    have g1 := cell_of_row wr w.heap.size 1 _ _ _ hblk
    have f0 := free_of_row 0 hblk
    have f1 := free_of_row 1 hblk
    simp only [List.getElem?_toArray, List.getElem?_cons_zero, List.getElem?_cons_succ] at g0 g1
    have HB := hid hB
    have Hblk := hid hblk
    clear hB hblk
    by_cases hkn : k < l.length
    · obtain ⟨b, off, ha, hcell⟩ := hb.below HB.out
      obtain rfl := ha (by rintro rfl; simp at hkn)
      have hc := hcell k hkn
      have h8 := n8_bd l[k]
      have hv : num (l.take k) < 256 ^ k := by
        have := num_lt (l.take k)
        rwa [List.length_take, Nat.min_eq_left hk] at this
      have hs : num (l.take (k + 1)) = num (l.take k) + 256 ^ k * l[k].toNat := by
        rw [List.take_succ_eq_append_getElem hkn, num_snoc, List.length_take, Nat.min_eq_left hk]
      have Hs := hid hs
      clear hcell ha hs
      generalize num (l.take k) = v at *
      go_wp2_with fail
      refine (with_any v k l[k] hv (by omega) _).mono ?_
      rintro e w2 ⟨rfl, hB2⟩
      have hblk2 := (hB2.block w.heap.size (Array.getElem?_eq_some_iff.1 Hblk.out).1).trans Hblk.out
      have g0' := cell_of_row w2 w.heap.size 0 _ _ _ hblk2
      have g1' := cell_of_row w2 w.heap.size 1 _ _ _ hblk2
      have f0' := free_of_row 0 hblk2
      have f1' := free_of_row 1 hblk2
      simp only [List.getElem?_toArray, List.getElem?_cons_zero, List.getElem?_cons_succ] at g0' g1'
      have HB2 := hid hB2
      have Hblk2 := hid hblk2
      clear hB2 hblk2
      go_wp2
      go_roundw
      case rel =>
        refine ⟨k + 1, by omega, by go_num, ?_, ((HB.out.trans (HB2.out.mono HB.out.size)).setCell (Nat.le_refl _) _).setCell (Nat.le_refl _) _⟩
        rw [Hs.out, block_setCell (block_setCell Hblk2.out 0 _) 1 _]
        simp
        omega
      case measure => simp [intOf]; omega
    · obtain rfl : k = l.length := by omega
      go_wp2
      go_ret
      refine ⟨?_, HB.out⟩
      simp

theorem number_any (l : List UInt8) (s : Bool) (r : Nat) (z : Int) (w : World) (hr : IsReader w r l s) :
    Calls Try.prog 32 #[.pointer (some ⟨r, 0, none⟩), .int .i64 z] w fun e w' => e = .returned (.int .u64 ((num (rdB l (cl z 8)) : Nat) : Int)) ∧ IsReader w' r (rdL l (cl z 8)) (rdS l (cl z 8) s) ∧ Kept r w w' := by
  have hk := cl_le z 8
  have hwi := hid (fun w => within_any z 8 (by omega) w)
  generalize cl z 8 = k at *
  have Hr := hid hr
  clear hr
  by_cases hkl : k ≤ l.length
  · have e1 := hid (show rdB l k = l.take k ∧ rdL l k = l.drop k ∧ rdS l k s = s by simp [rdB, rdL, rdS, hkl])
    go_enter Try.func32, Try.ntmps32
    go_wp2_with fail
    refine (hwi.out _).mono ?_
    rintro e w0 ⟨rfl, rfl⟩
    go_wp2_with fail
    refine (next_yes l s r k w Hr.out hkl).mono ?_
    rintro e w1 ⟨A, rfl, hA, hr1, hk1⟩
    have HA := hid hA
    have Hr1 := hid hr1
    have Hk1 := hid hk1
    clear hA hr1 hk1
    go_wp2_with fail
    refine (take_any (l.take k) k (by simp [hkl]) hk _ A k HA.out).mono ?_
    rintro e w2 ⟨rfl, hB⟩
    go_wp2
    go_ret
    rw [e1.out.1, e1.out.2.1, e1.out.2.2]
    exact ⟨rfl, Hr1.out.below hB, Hk1.out.trans (Kept.of_below hB)⟩
  · have e1 := hid (show rdB l k = [] ∧ rdL l k = [] ∧ rdS l k s = true by simp [rdB, rdL, rdS, hkl])
    go_enter Try.func32, Try.ntmps32
    go_wp2_with fail
    refine (hwi.out _).mono ?_
    rintro e w0 ⟨rfl, rfl⟩
    go_wp2_with fail
    refine (next_no l s r k w Hr.out (by omega)).mono ?_
    rintro e w1 ⟨rfl, hr1, hk1⟩
    go_wp2
    go_ret
    rw [e1.out.1, e1.out.2.1, e1.out.2.2]
    exact ⟨rfl, hr1, hk1⟩

theorem bytes_any (l : List UInt8) (s : Bool) (r : Nat) (z : Int) (w : World) (hr : IsReader w r l s) (hl : l.length ≤ 140737488000000) :
    Calls Try.prog 34 #[.pointer (some ⟨r, 0, none⟩), .int .i64 z] w fun e w' => ∃ A c n, e = .returned (.slice A n c) ∧ (rdB l z.toNat).length = n ∧ Own 5 w.heap.size w' A c ((rdB l z.toNat).map byteV) ∧ IsReader w' r (rdL l z.toNat) (rdS l z.toNat s) ∧ Kept r w w' := by
  obtain ⟨k, hk⟩ : ∃ k, k = z.toNat := ⟨_, rfl⟩
  have hmx : ∀ ts t W, (Builtin.max_ ts t #[.int .i64 z, .int .i64 0]).run Try.prog W = .ok (.int .i64 (k : Int)) W := fun ts t W => by
    subst hk
    simp [Builtin.max_, Builtin.max2]
    split <;> omega
  rw [← hk]
  clear hk
  have Hr := hid hr
  clear hr
  by_cases hkl : k ≤ l.length
  · have e1 := hid (show rdB l k = l.take k ∧ rdL l k = l.drop k ∧ rdS l k s = s by simp [rdB, rdL, rdS, hkl])
    go_enter Try.func34, Try.ntmps34
    go_wp2_with fail
    refine (next_yes l s r k w Hr.out hkl).mono ?_
    rintro e w1 ⟨A, rfl, hA, hr1, hk1⟩
    obtain ⟨A1, c1, w2, hap, hown2, hB2⟩ := append_run elemU8 27 (base := w1.heap.size) (w := w1) (A := none) (n := 0) (c := 0) (m := k) (c2 := k) Own.nothing rfl hA.row (by simp [hkl]) (byteV_one _) (by omega) (by omega) (Nat.le_refl _)
    rw [Nat.zero_add] at hap
    rw [List.nil_append] at hown2
    have Hr1 := hid (hr1.below hB2)
    have Hk1 := hid (hk1.trans (Kept.of_below hB2))
    have H2 := hid (hown2.mono hk1.size)
    clear hA hr1 hk1 hown2 hB2
    go_wp2_with (at_builtin; refine wpList_append_run _ _ hap rfl rfl rfl rfl ?_)
    go_ret
    rw [e1.out.1, e1.out.2.1, e1.out.2.2]
    exact ⟨A1, c1, k, rfl, by simp [hkl], H2.out, Hr1.out, Hk1.out⟩
  · have e1 := hid (show rdB l k = [] ∧ rdL l k = [] ∧ rdS l k s = true by simp [rdB, rdL, rdS, hkl])
    go_enter Try.func34, Try.ntmps34
    go_wp2_with fail
    refine (next_no l s r k w Hr.out (by omega)).mono ?_
    rintro e w1 ⟨rfl, hr1, hk1⟩
    go_wp2
    go_ret
    rw [e1.out.1, e1.out.2.1, e1.out.2.2]
    exact ⟨none, 0, 0, rfl, rfl, Own.nothing, hr1, hk1⟩

theorem left_any (l : List UInt8) (s : Bool) (r : Nat) (w : World) (hr : IsReader w r l s) :
    Calls Try.prog 35 #[.pointer (some ⟨r, 0, none⟩)] w fun e w' => e = .returned (.int .i64 (l.length : Nat)) ∧ w = w' := by
  obtain ⟨A, c, hb, hA, hlc, hcm⟩ := hr
  have c0 := cell_of_row w r 0 _ _ _ hb
  simp only [List.getElem?_toArray, List.getElem?_cons_zero] at c0
  clear hb hA
  go_enter Try.func35, Try.ntmps35
  go_wp2
  go_ret
  exact ⟨rfl, rfl⟩
/-! ### The same, told by what comes out -/
theorem number_val {l : List UInt8} {s : Bool} {r : Nat} {z : Int} {w : World} (hr : IsReader w r l s) (v : Int) (m : List UInt8) (t : Bool) (hv : ((num (rdB l (cl z 8)) : Nat) : Int) = v) (hm : rdL l (cl z 8) = m) (ht : rdS l (cl z 8) s = t) :
    Calls Try.prog 32 #[.pointer (some ⟨r, 0, none⟩), .int .i64 z] w fun e w' => e = .returned (.int .u64 v) ∧ IsReader w' r m t ∧ Kept r w w' := by
  subst hv hm ht
  exact number_any l s r z w hr
theorem bytes_val {l : List UInt8} {s : Bool} {r : Nat} {z : Int} {w : World} (hr : IsReader w r l s) (hl : l.length ≤ 140737488000000) (b m : List UInt8) (t : Bool) (n : Nat) (hb : rdB l z.toNat = b) (hm : rdL l z.toNat = m) (ht : rdS l z.toNat s = t) (hn : b.length = n) :
    Calls Try.prog 34 #[.pointer (some ⟨r, 0, none⟩), .int .i64 z] w fun e w' => ∃ A c, e = .returned (.slice A n c) ∧ Own 5 w.heap.size w' A c (b.map byteV) ∧ IsReader w' r m t ∧ Kept r w w' := by
  subst hb hm ht hn
  refine (bytes_any l s r z w hr hl).mono ?_
  rintro e w' ⟨A, c, n, rfl, hn, hown, hr, hk⟩
  subst hn
  exact ⟨A, c, rfl, hown, hr, hk⟩
/-- What a call leaves that hands back n bytes, these. -/
def OutV (w : World) (n : Nat) (l : List UInt8) (e : Ending) (w' : World) : Prop :=
  ∃ A c, e = .returned (.slice A n c) ∧ l.length = n ∧ Own 5 w.heap.size w' A c (l.map byteV) ∧ Below w.heap.size w w'
theorem put_val {l : List UInt8} {n : Nat} (hnl : l.length = n) {w : World} {a : Option Addr} {c : Nat} (hn : n ≤ 140737488000000) (hb : IsBytes w a l) (z : Int) (x : Nat) (hx : x < 18446744073709551616) (b : List UInt8) (m : Nat) (he : l ++ le (cl z 8) x = b) (hm : b.length = m) :
    Calls Try.prog 25 #[.slice a n c, .int .i64 z, .int .u64 (x : Int)] w (OutV w m b) := by
  subst he hm
  refine (put_any l n hnl w a c hn hb z x hx).mono ?_
  rintro e w' ⟨A, c, n, rfl, hn, h⟩
  subst hn
  exact ⟨A, c, rfl, rfl, h⟩
theorem field_val {l : List UInt8} {n : Nat} (hnl : l.length = n) {w : World} {a : Option Addr} {c : Nat} (hb : IsBytes w a l) (z : Int) (b : List UInt8) (m : Nat) (he : field l (cl z 4096) = b) (hm : b.length = m) :
    Calls Try.prog 27 #[.slice a n c, .int .i64 z] w (OutV w m b) := by
  subst he hm
  refine (field_any l n hnl w a c hb z).mono ?_
  rintro e w' ⟨A, c, n, rfl, hn, h⟩
  subst hn
  exact ⟨A, c, rfl, rfl, h⟩
theorem IsReader.drewN {w : World} {r : Nat} {l : List UInt8} {s : Bool} (h : IsReader w r l s) (j : Nat) : IsReader (w.drewN j) r l s := h.below (below_drewN (Below.refl _ _) j)
theorem IsBytes.drewN {w : World} {a : Option Addr} {l : List UInt8} (h : IsBytes w a l) (j : Nat) : IsBytes (w.drewN j) a l := h.below (below_drewN (Below.refl _ _) j)
end Go.Proofs.Ytmjknaldpeoheaa
