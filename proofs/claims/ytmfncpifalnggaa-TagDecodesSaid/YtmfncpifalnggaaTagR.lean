/- The walks of the document's tags (harrowref05): low, number. -/
import Derived.Test.YtmfncpifalnggaaTagR0
namespace Go.Proofs.Ytmfncpifalnggaa
open Go.RowKit O
set_option linter.unusedVariables false

theorem str_app (a b : List UInt8) : (⟨a.toArray⟩ : ByteArray) ++ ⟨b.toArray⟩ = ⟨(a ++ b).toArray⟩ := by
  apply ByteArray.ext
  simp
theorem low_any (x : Nat) (hx : x < 18446744073709551616) (k : Nat) (hk : k ≤ 8) (w : World) :
    Calls Try.prog 16 #[.int .u64 (x : Int), .int .i64 (k : Int)] w fun v w' => v = .returned (.string ⟨(le k x).toArray⟩) ∧ Below w.heap.size w w' := by
  go_enter Try.func16, Try.ntmps16
  go_wp2
  go_loopw [0, 5, 6] (fun n s i wr => ∃ (j : Nat), j ≤ k ∧ i = .int .i64 j ∧ n = .int .u64 ((x / 256 ^ j : Nat) : Int) ∧ s = .string ⟨(le j x).toArray⟩ ∧ Below w.heap.size w wr) (fun _ _ i _ => k - (intOf i).toNat)
  case atStart => exact ⟨0, by omega, rfl, by simp, rfl, Below.refl _ _⟩
  case round =>
    obtain ⟨j, hj, rfl, rfl, rfl, hB⟩ := hrel
    have HB := hid hB
    clear hB
    by_cases hjk : j < k
    · have Hd := hid (show x / 256 ^ (j + 1) = x / 256 ^ j / 256 by rw [Nat.pow_succ, Nat.div_div_eq_div_mul])
      have Hs := hid (le_snoc j x)
      have hq : x / 256 ^ j < 18446744073709551616 := Nat.lt_of_le_of_lt (Nat.div_le_self _ _) hx
      generalize x / 256 ^ j = y at *
      have hcv := str_any (l := [UInt8.ofNat y]) (n := 1) (c := 1) rfl (w := wr.alloc (.cells #[.int .u8 ((y : Int) % 256)] 5)) (a := some ⟨wr.heap.size, 0, none⟩) ⟨wr.heap.size, 0, fun _ => rfl, fun i hi => by
        obtain rfl : i = 0 := by simpa using hi
        rw [Nat.zero_add, World.cell?_alloc_mark]
        show some (Value.int .u8 ((y : Int) % 256)) = some (byteV (UInt8.ofNat y))
        rw [byte_val]⟩
      have hno : ¬ 9223372036854775807 < (le j x).length + 1 := by rw [le_length]; omega
      have HB2 := hid (HB.out.alloc HB.out.size (.cells #[.int .u8 ((y : Int) % 256)] 5))
      go_wp2
      go_roundw
      case rel => exact ⟨j + 1, by omega, by go_num, by rw [Hd.out]; go_num, by rw [Hs.out, ← str_app], HB2.out⟩
      case measure => simp [intOf]; omega
    · obtain rfl : j = k := by omega
      go_wp2
      go_ret
      exact ⟨rfl, HB.out⟩

theorem num_rev (l : List UInt8) (i : Nat) (h : i < l.length) : num (l.drop i) = (l[i]).toNat + 256 * num (l.drop (i + 1)) := by
  rw [List.drop_eq_getElem_cons h]
  rfl
theorem number_any (l : List UInt8) (n : Nat) (hl : l.length = n) (hn : n ≤ 7) (w : World) :
    Calls Try.prog 18 #[.string ⟨l.toArray⟩] w fun v w' => v = .returned (.int .u64 (num l : Nat)) ∧ Below w.heap.size w w' := by
  have Hl := hid hl
  obtain ⟨B, hB⟩ : ∃ B : ByteArray, B = ⟨l.toArray⟩ := ⟨_, rfl⟩
  have hsz : B.size = n := by rw [hB]; exact hl
  have HBe := hid hB
  rw [← hB]
  clear hl hB
  go_enter Try.func18, Try.ntmps18
  go_wp2
  go_loopw [3, 4] (fun v i wr => ∃ (j : Nat), j ≤ n ∧ i = .int .i64 j ∧ v = .int .u64 ((num (l.drop j) : Nat) : Int) ∧ wr = w) (fun _ i _ => (intOf i).toNat)
  case atStart => exact ⟨n, by omega, rfl, by rw [List.drop_of_length_le (by rw [Hl.out]; exact Nat.le_refl _)]; rfl, rfl⟩
  case round =>
    obtain ⟨j, hj, rfl, rfl, rfl⟩ := hrel
    by_cases h0 : j = 0
    · subst h0
      go_wp2
      go_ret
      exact ⟨rfl, Below.refl _ _⟩
    · obtain ⟨i, rfl⟩ : ∃ i, j = i + 1 := ⟨j - 1, by omega⟩
      have hi : i < B.size := by omega
      have Hnx := hid (num_rev l i (by rw [Hl.out]; omega))
      have hlt : num (l.drop (i + 1)) < 281474976710656 := by
        have h1 := num_lt (l.drop (i + 1))
        have h2 : (l.drop (i + 1)).length ≤ 6 := by rw [List.length_drop, Hl.out]; omega
        exact Nat.lt_of_lt_of_le h1 (Nat.le_trans (Nat.pow_le_pow_right (by omega) h2) (by decide))
      have hbi : ∀ h : i < B.size, B[i].toNat = (l[i]'(by rw [Hl.out]; omega)).toNat := fun h => by
        have := HBe.out
        subst this
        rfl
      have hc := (l[i]'(by rw [Hl.out]; omega)).toNat_lt
      have Hval := hid (show ∀ h : i < B.size, Value.int .u64 (IntKind.u64.wrap (IntKind.u64.wrap ((num (l.drop (i + 1)) : Int) * 256) + IntKind.u64.wrap (B[i].toNat : Int))) = .int .u64 ((num (l.drop i) : Nat) : Int) from fun h => by
        rw [Hnx.out, hbi h, IntKind.wrap_u64, IntKind.wrap_u64, IntKind.wrap_u64]
        congr 1
        omega)
      clear hlt hbi hc
      go_wp2
      go_roundw
      case rel => exact ⟨i, by omega, rfl, Hval.out hi, trivial⟩
      case measure => simp [intOf]
end Go.Proofs.Ytmfncpifalnggaa
