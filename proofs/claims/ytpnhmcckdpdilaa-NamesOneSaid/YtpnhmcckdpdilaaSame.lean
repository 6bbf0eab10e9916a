/- The walk of the laws' 'same' (rows of texts). -/
import Derived.Test.YtpnhmcckdpdilaaSplitR2
import Derived.BigQuiet
namespace Go.Proofs.Ytpnhmcckdpdilaa
open Go.RowKit
set_option linter.unusedVariables false

theorem take_eq_step {X Y : List (List UInt8)} {j : Nat} (hx : j < X.length) (hy : j < Y.length) (h : X.take j = Y.take j) (e : X[j] = Y[j]) : X.take (j + 1) = Y.take (j + 1) := by
  rw [← List.take_append_getElem hx, ← List.take_append_getElem hy, h, e]

set_option maxHeartbeats 4000000 in
set_option maxRecDepth 20000 in
theorem same_any (X Y : List (List UInt8)) (w : World) (a b : Option Addr) (c d : Nat) (ha : IsRow w a (X.map strV)) (hb : IsRow w b (Y.map strV)) (hlim : X.length ≤ 140737488355328) :
    Calls Try.prog 14 #[.slice a X.length c, .slice b Y.length d] w fun e w' => e = .returned (.bool (decide (X = Y))) ∧ Below w.heap.size w w' := by
  obtain ⟨n, hn⟩ : ∃ n, n = X.length := ⟨_, rfl⟩
  obtain ⟨m, hm⟩ : ∃ m, m = Y.length := ⟨_, rfl⟩
  rw [← hn] at hlim
  rw [← hn, ← hm]
  have Hn := hid hn
  have Hm := hid hm
  have Ha := hid ha
  have Hb := hid hb
  clear hn hm ha hb
  by_cases hnm : n = m
  · subst hnm
    have hnn : ((n : Int) != n) = false := by simp
    go_enter Try.func14, Try.ntmps14
    go_wp2_with fail
    go_loopw [5] (fun i wr => ∃ (j : Nat), j ≤ n ∧ i = .int .i64 j ∧ X.take j = Y.take j ∧ Below w.heap.size w wr) (fun i _ => n - (intOf i).toNat)
    case atStart => exact ⟨0, by omega, rfl, rfl, Below.refl _ _⟩
    case round =>
      obtain ⟨j, hj, rfl, ht, hB⟩ := hrel
      have Ht := hid ht
      have HB := hid hB
      clear ht hB
      by_cases hjn : j < n
      · have hjx : j < X.length := by have := Hn.out; omega
        have hjy : j < Y.length := by have := Hm.out; omega
        obtain ⟨b1, o1, ha1, hc1⟩ := Ha.out.below HB.out
        obtain ⟨b2, o2, ha2, hc2⟩ := Hb.out.below HB.out
        obtain rfl := ha1 (by intro h; have := congrArg List.length h; simp at this; rw [this] at hjx; simp at hjx)
        obtain rfl := ha2 (by intro h; have := congrArg List.length h; simp at this; rw [this] at hjy; simp at hjy)
        have c1 := hc1 j (by simpa using hjx)
        have c2 := hc2 j (by simpa using hjy)
        rw [List.getElem_map] at c1 c2
        obtain ⟨x, hx⟩ : ∃ x, x = X[j]'hjx := ⟨_, rfl⟩
        obtain ⟨y, hy⟩ : ∃ y, y = Y[j]'hjy := ⟨_, rfl⟩
        rw [← hx] at c1
        rw [← hy] at c2
        have Hx := hid hx
        have Hy := hid hy
        have c1' : wr.cell? ⟨b1, o1 + j, none⟩ = some (.string ⟨x.toArray⟩) := c1
        have c2' : wr.cell? ⟨b2, o2 + j, none⟩ = some (.string ⟨y.toArray⟩) := c2
        clear hc1 hc2 c1 c2 ha1 ha2 hx hy
        by_cases hxy : x = y
        · have hq : (x == y) = true := by simp [hxy]
          have Ht2 := hid (take_eq_step hjx hjy Ht.out (by rw [← Hx.out, ← Hy.out, hxy]))
          clear hxy
          go_wp2_with fail
          go_quiet (fail)
          go_wp2_with fail
          go_roundw
          case rel => exact ⟨j + 1, by omega, by go_num, Ht2.out, below_drewN HB.out _⟩
          case measure => simp [intOf] <;> omega
        · have hq : (x == y) = false := by rw [beq_eq_false_iff_ne]; exact hxy
          have E := hid (show decide (X = Y) = false from decide_eq_false (by rintro rfl; exact hxy (by rw [Hx.out, Hy.out])))
          go_wp2_with fail
          go_quiet (fail)
          go_wp2_with fail
          go_ret
          exact ⟨by rw [E.out]; rfl, below_drewN HB.out _⟩
      · obtain rfl : j = n := by omega
        have E := hid (show decide (X = Y) = true from decide_eq_true (by
          have h := Ht.out
          rwa [List.take_of_length_le (by rw [← Hn.out]; exact Nat.le_refl _), List.take_of_length_le (by rw [← Hm.out]; exact Nat.le_refl _)] at h))
        go_wp2_with fail
        go_ret
        exact ⟨by rw [E.out]; rfl, HB.out⟩
  · have hnn : ((n : Int) != m) = true := by rw [bne_iff_ne]; omega
    have E := hid (show decide (X = Y) = false from decide_eq_false (by rintro rfl; exact hnm (Hn.out.trans Hm.out.symm)))
    go_enter Try.func14, Try.ntmps14
    go_wp2_with fail
    go_ret
    exact ⟨by rw [E.out]; rfl, Below.refl _ _⟩
end Go.Proofs.Ytpnhmcckdpdilaa
