/- The walks of package octets: what each function leaves, for whatever it is handed. -/
import Derived.Test.YtmjknaldpeoheaaRows
import Derived.Test.YtmjknaldpeoheaaBase
import Derived.Test.YtmjknaldpeoheaaOwn2
import Derived.Test.YtmjknaldpeoheaaWords
import Derived.Test.YtmjknaldpeoheaaLe
import Derived.Outline
namespace Go.Proofs.Ytmjknaldpeoheaa
open Go.RowKit O

theorem elemU8 : ElemOf Try.prog 27 5 (.int .u8 0) 1 := ⟨Try.underlying27, by kernel_rfl, rfl⟩

theorem ret_int {k : IntKind} {a b : Int} (h : a = b) : Ending.returned (.int k a) = .returned (.int k b) := by rw [h]
theorem ret_bool {a b : Bool} (h : a = b) : Ending.returned (.bool a) = .returned (.bool b) := by rw [h]
theorem within_any (z : Int) (m : Nat) (hm : m ≤ 65536) (w : World) :
    Calls Try.prog 39 #[.int .i64 z, .int .i64 (m : Int)] w fun e w' => e = .returned (.int .i64 (cl z m : Nat)) ∧ w = w' := by
  go_enter Try.func39, Try.ntmps39
  go_wp2
  all_goals (go_ret; refine ⟨ret_int ?_, rfl⟩; unfold cl; omega)

/-- What a call leaves that hands back bytes in memory of its own. -/
def Out (w : World) (l : List UInt8) (e : Ending) (w' : World) : Prop :=
  ∃ A c n, e = .returned (.slice A n c) ∧ l.length = n ∧ Own 5 w.heap.size w' A c (l.map byteV) ∧ Below w.heap.size w w'

theorem byte_val (q : Nat) : Value.int .u8 ((q : Int) % 256) = byteV (UInt8.ofNat q) := by
  unfold byteV n8
  rw [UInt8.toNat_ofNat']
  congr 1

theorem put_any (l : List UInt8) (n : Nat) (hnl : l.length = n) (w : World) (a : Option Addr) (c : Nat) (hn : n ≤ 140737488000000) (hb : IsBytes w a l) (z : Int) (x : Nat) (hx : x < 18446744073709551616) :
    Calls Try.prog 25 #[.slice a n c, .int .i64 z, .int .u64 (x : Int)] w (Out w (l ++ le (cl z 8) x)) := by
  have hk := cl_le z 8
  have hwi := hid (fun w => within_any z 8 (by omega) w)
  generalize cl z 8 = k at *
  obtain ⟨w1, hmk, hown1, hB1, hs1⟩ := make0_run elemU8 (base := w.heap.size) (w := w) .i64 .i64 (n + k) (by omega) (by omega) (Nat.le_refl _)
  rw [Int.natCast_add] at hmk
  obtain ⟨A1, c1, w2, hap, hown2, hB2⟩ := append_run elemU8 27 (n := 0) (c2 := c) hown1 rfl ((hb.below hB1).row) (by simpa using hnl) (byteV_one _) (by omega) (by omega) hB1.size
  rw [Nat.zero_add] at hap
  rw [List.nil_append] at hown2
  have H2 := hid (show Own 5 w.heap.size w2 A1 c1 ((l ++ le 0 x).map byteV) by simpa [le] using hown2)
  have HB := hid (hB1.trans hB2)
  clear hown1 hown2 hB1 hB2
  go_enter Try.func25, Try.ntmps25
  go_wp2_with fail
  refine (hwi.out _).mono ?_
  rintro e w0 ⟨rfl, rfl⟩
  go_wp2_with (first | (at_make; refine wpList_make_run hmk rfl rfl rfl rfl ?_) | (at_builtin; refine wpList_append_run _ _ hap rfl rfl rfl rfl ?_))
  clear hmk hap
  go_loopw [7, 2, 19] (fun v y i wr => ∃ (j : Nat) (A : Option Addr) (cc : Nat), j ≤ k ∧ i = .int .i64 j ∧ y = .int .u64 ((x / 256 ^ j : Nat) : Int) ∧ v = .slice A (n + j) cc ∧ Own 5 w.heap.size wr A cc ((l ++ le j x).map byteV) ∧ Below w.heap.size w wr) (fun _ _ i _ => k - (intOf i).toNat)
  case atStart => exact ⟨0, A1, c1, by omega, rfl, by simp, rfl, H2.out, HB.out⟩
  case round =>
    obtain ⟨j, A, cc, hj, rfl, rfl, rfl, hown, hBr⟩ := hrel
    by_cases hjk : j < k
    · have hd : x / 256 ^ (j + 1) = x / 256 ^ j / 256 := by rw [Nat.pow_succ, Nat.div_div_eq_div_mul]
      have hs := le_snoc j x
      have hq : x / 256 ^ j < 18446744073709551616 := Nat.lt_of_le_of_lt (Nat.div_le_self _ _) hx
      have Hd := hid hd
      have Hs := hid hs
      have hlen := hid (le_length j x)
      clear hd hs
      generalize x / 256 ^ j = q at *
      obtain ⟨A', c', w3, hap, hown3, hB3⟩ := append_run elemU8 27 (n := n + j) (m := 1) (c2 := 1) (w := wr.alloc (.cells #[.int .u8 ((q : Int) % 256)] 5)) (hown.keep ((Below.refl _ _).alloc (Nat.le_refl _) _)) (by simp [hnl, hlen.out]) (IsRow.alloc_new wr #[.int .u8 ((q : Int) % 256)] 5 (0, 0) [.int .u8 ((q : Int) % 256)] rfl) rfl (by intro u hu; simp at hu; subst hu; rfl) (by omega) (by omega) (by simp; have := hBr.size; omega)
      have H3 := hid (show Own 5 w.heap.size w3 A' c' ((l ++ le (j + 1) x).map byteV) by
        rw [Hs.out, ← List.append_assoc, List.map_append (l₁ := l ++ le j x), List.map_singleton, ← byte_val]
        exact hown3)
      have HB3 := hid (((hBr.alloc hBr.size _).trans hB3))
      clear hown hBr hown3 hB3 hlen
      go_wp2_with (at_builtin; refine wpList_append_run _ _ hap rfl rfl rfl rfl ?_)
      go_roundw
      case rel => exact ⟨j + 1, A', c', by omega, by go_num, by rw [Hd.out]; go_num, rfl, H3.out, HB3.out⟩
      case measure => simp [intOf]; omega
    · obtain rfl : j = k := by omega
      go_wp2
      go_ret
      exact ⟨A, cc, n + j, rfl, by simp [hnl, le_length], hown, hBr⟩

theorem field_any (l : List UInt8) (n : Nat) (hnl : l.length = n) (w : World) (a : Option Addr) (c : Nat) (hb : IsBytes w a l) (z : Int) :
    Calls Try.prog 27 #[.slice a n c, .int .i64 z] w (Out w (field l (cl z 4096))) := by
  have hk := cl_le z 4096
  have hwi := hid (fun w => within_any z 4096 (by omega) w)
  generalize cl z 4096 = k at *
  obtain ⟨w1, hmk, hown1, hB1, hs1⟩ := make_run elemU8 (base := w.heap.size) (w := w) .i64 .i64 k (by omega) (by omega) (Nat.le_refl _)
  obtain ⟨w2, hcp, hown2, hB2, hs2⟩ := copy_run elemU8 3 (n := k) (c2 := c) hown1 (by simp) ((hb.below hB1).row) (by simpa using hnl) (byteV_one _)
  have H2 := hid (show Own 5 w.heap.size w2 (some ⟨w.heap.size, 0, none⟩) k ((field l k).map byteV) by
    rw [rep_byteV, ← List.map_take, ← List.map_drop, ← List.map_append] at hown2
    unfold field
    rw [hnl]
    rw [List.drop_replicate] at hown2
    exact hown2)
  have HB := hid (hB1.trans hB2)
  clear hown1 hown2 hB1 hB2
  go_enter Try.func27, Try.ntmps27
  go_wp2_with fail
  refine (hwi.out _).mono ?_
  rintro e w0 ⟨rfl, rfl⟩
  go_wp2_with (first | (at_make; refine wpList_make_run hmk rfl rfl rfl rfl ?_) | (refine wpList_copy_run (.tmp 9) (.tmp 10) hcp rfl rfl rfl rfl ?_))
  go_ret
  exact ⟨_, k, k, rfl, field_length _ _, H2.out, HB.out⟩

/-! ### Readers -/
/-- At block r lies a reader that has the bytes l left; s: it was asked for more than there was. -/
def IsReader (w : World) (r : Nat) (l : List UInt8) (s : Bool) : Prop :=
  ∃ A c, w.heap[r]? = some (.cells #[.slice A l.length c, .bool s] 71 (0, 0)) ∧ IsBytes w A l ∧ l.length ≤ c ∧ c ≤ maxLen

/-- Bytes lie in no reader's block. -/
theorem IsBytes.kept {w w' : World} {r : Nat} {a : Option Addr} {l m : List UInt8} {s : Bool} (h : IsBytes w a l) (hr : IsReader w r m s) (hk : Kept r w w') : IsBytes w' a l := by
  obtain ⟨b, off, h1, h2⟩ := h
  obtain ⟨A, c, hb, -⟩ := hr
  refine ⟨b, off, h1, fun i hi => ?_⟩
  have h3 := h2 i hi
  rw [← h3]
  refine World.cell?_of_block (hk.block b (World.block_lt_of_cell? w _ h3) ?_)
  rintro rfl
  rw [cell_of_row w b (off + i) _ _ _ hb] at h3
  rcases h : off + i with _ | _ | k
  · rw [h] at h3; cases h3
  · rw [h] at h3; cases h3
  · rw [h] at h3; simp at h3
theorem IsNums.keep_kept {K : IntKind} {w w' : World} {r : Nat} {a : Option Addr} {l : List Int} {m : List UInt8} {s : Bool} (h : IsNums K w a l) (hr : IsReader w r m s) (hk : Kept r w w') : IsNums K w' a l := by
  obtain ⟨b, off, h1, h2⟩ := h
  obtain ⟨A, c, hb, -⟩ := hr
  refine ⟨b, off, h1, fun i hi => ?_⟩
  have h3 := h2 i hi
  rw [← h3]
  refine World.cell?_of_block (hk.block b (World.block_lt_of_cell? w _ h3) ?_)
  rintro rfl
  rw [cell_of_row w b (off + i) _ _ _ hb] at h3
  rcases h : off + i with _ | _ | k
  · rw [h] at h3; cases h3
  · rw [h] at h3; cases h3
  · rw [h] at h3; simp at h3
theorem IsReader.below {w w' : World} {r : Nat} {l : List UInt8} {s : Bool} (h : IsReader w r l s) (hb : Below w.heap.size w w') : IsReader w' r l s := by
  obtain ⟨A, c, h1, h2, h3⟩ := h
  exact ⟨A, c, (hb.block r (Array.getElem?_eq_some_iff.1 h1).1).trans h1, h2.below hb, h3⟩
theorem IsReader.lt {w : World} {r : Nat} {l : List UInt8} {s : Bool} (h : IsReader w r l s) : r < w.heap.size := by
  obtain ⟨A, c, h1, h2, h3⟩ := h
  exact (Array.getElem?_eq_some_iff.1 h1).1

theorem read_any (l : List UInt8) (n : Nat) (hnl : l.length = n) (w : World) (a : Option Addr) (c : Nat) (hn : n ≤ 140737488000000) (hb : IsBytes w a l) :
    Calls Try.prog 31 #[.slice a n c] w fun e w' => ∃ r, e = .returned (.pointer (some ⟨r, 0, none⟩)) ∧ w.heap.size ≤ r ∧ IsReader w' r l false ∧ Below w.heap.size w w' := by
  obtain ⟨A1, c1, w2, hap, hown2, hB2⟩ := append_run elemU8 27 (base := w.heap.size) (w := w) (A := none) (n := 0) (c := 0) (c2 := c) Own.nothing rfl hb.row (by simpa using hnl) (byteV_one _) (by omega) (by omega) (Nat.le_refl _)
  rw [Nat.zero_add] at hap
  rw [List.nil_append] at hown2
  have H2 := hid hown2
  have HB := hid hB2
  clear hown2 hB2
  go_enter Try.func31, Try.ntmps31
  go_wp2_with (at_builtin; refine wpList_append_run _ _ hap rfl rfl rfl rfl ?_)
  go_ret
  refine ⟨w2.heap.size, rfl, HB.out.size, ⟨A1, c1, ?_, ?_, ?_⟩, HB.out.alloc HB.out.size _⟩
  · rw [hnl]; exact heap_alloc_new _ _
  · exact H2.out.row.bytes.below ((Below.refl _ _).alloc (Nat.le_refl _) _)
  · have := H2.out.len
    simpa using this

theorem block_setCell {w : World} {r : Nat} {C : Array Value} {T : TypeId} (h : w.heap[r]? = some (.cells C T (0, 0))) (o : Nat) (u : Value) : (w.setCell ⟨r, o, none⟩ u).heap[r]? = some (.cells (C.setIfInBounds o u) T (0, 0)) := by
  have hlt := (Array.getElem?_eq_some_iff.1 h).1
  have h' : w.heap[r] = .cells C T (0, 0) := by simpa [Array.getElem?_eq_getElem hlt] using h
  show (w.heap.modify r _)[r]? = _
  rw [Array.getElem?_eq_getElem (by simpa using hlt), Array.getElem_modify_self, h']
  rfl
theorem free_of_row {w : World} {g : Nat} (j : Nat) {cs : Array Value} {t : TypeId} (hg : w.heap[g]? = some (.cells cs t (0, 0))) : w.frozen? ⟨g, j, none⟩ = false := by simp [World.frozen?, hg]

theorem next_fin {w : World} {r k c : Nat} {l : List UInt8} {s : Bool} {A : Option Addr} (hr : IsReader w r l s) (hb : w.heap[r]? = some (.cells #[.slice A l.length c, .bool s] 71 (0, 0)))
    (hA : IsBytes w A l) (hlc : l.length ≤ c) (hcm : c ≤ maxLen) (hk : k ≤ l.length) (B : Option Addr) (n' c' : Nat) (hB : B = if c = k then A else A.map (·.add k)) (hn' : n' = l.length - k) (hc' : c' = c - k) :
    IsBytes (w.setCell ⟨r, 0, none⟩ (.slice B n' c')) A (l.take k) ∧ IsReader (w.setCell ⟨r, 0, none⟩ (.slice B n' c')) r (l.drop k) s ∧ Kept r w (w.setCell ⟨r, 0, none⟩ (.slice B n' c')) := by
  subst hB hn' hc'
  have hkp : ∀ v, Kept r w (w.setCell ⟨r, 0, none⟩ v) := fun v => Kept.setCell w 0 v
  refine ⟨(hA.take k).kept hr (hkp _), ⟨_, c - k, ?_, (hA.drop k c hk hlc).kept hr (hkp _), ?_, ?_⟩, hkp _⟩
  · rw [block_setCell hb, List.length_drop]
    rfl
  · rw [List.length_drop]; omega
  · unfold maxLen at *; omega

theorem next_yes (l : List UInt8) (s : Bool) (r k : Nat) (w : World) (hr : IsReader w r l s) (hk : k ≤ l.length) :
    Calls Try.prog 40 #[.pointer (some ⟨r, 0, none⟩), .int .i64 (k : Int)] w fun e w' => ∃ A, e = .returned (.tuple #[.slice A k k, .bool true]) ∧ IsBytes w' A (l.take k) ∧ IsReader w' r (l.drop k) s ∧ Kept r w w' := by
  have hr0 := hid hr
  obtain ⟨A, c, hb, hA, hlc, hcm⟩ := hr
  have hcm' := hcm
  unfold maxLen at hcm
  have c0 := cell_of_row w r 0 _ _ _ hb
  have c1 := cell_of_row w r 1 _ _ _ hb
  have f0 := free_of_row 0 hb
  simp only [List.getElem?_toArray, List.getElem?_cons_zero, List.getElem?_cons_succ] at c0 c1
  have Hb := hid hb
  have HA := hid hA
  clear hb hA
  go_enter Try.func40, Try.ntmps40
  go_wp2
  · go_ret2
    rename_i h
    exact ⟨_, rfl, next_fin hr0.out Hb.out HA.out hlc hcm' hk A _ _ (by rw [if_pos h]) rfl (by omega)⟩
  · go_ret2
    rename_i h
    exact ⟨_, rfl, next_fin hr0.out Hb.out HA.out hlc hcm' hk _ _ _ (by rw [if_neg h]) rfl rfl⟩
theorem next_no (l : List UInt8) (s : Bool) (r k : Nat) (w : World) (hr : IsReader w r l s) (hk : l.length < k) :
    Calls Try.prog 40 #[.pointer (some ⟨r, 0, none⟩), .int .i64 (k : Int)] w fun e w' => e = .returned (.tuple #[.slice none 0 0, .bool false]) ∧ IsReader w' r [] true ∧ Kept r w w' := by
  obtain ⟨A, c, hb, hA, hlc, hcm⟩ := hr
  have c0 := cell_of_row w r 0 _ _ _ hb
  have c1 := cell_of_row w r 1 _ _ _ hb
  have f0 := free_of_row 0 hb
  have f1 := free_of_row 1 hb
  simp only [List.getElem?_toArray, List.getElem?_cons_zero, List.getElem?_cons_succ] at c0 c1
  have Hb := hid hb
  clear hb hA
  go_enter Try.func40, Try.ntmps40
  go_wp2
  go_ret2
  refine ⟨rfl, ⟨none, 0, ?_, IsBytes.nil _ _, by simp, by simp [maxLen]⟩, (Kept.setCell w 0 _).trans (Kept.setCell _ 1 _)⟩
  have h1 := block_setCell Hb.out 0 (.slice none 0 0)
  have h2 := block_setCell h1 1 (.bool true)
  rw [h2]
  rfl
end Go.Proofs.Ytmjknaldpeoheaa
