/- Plain laws of numbers as bytes. No program in sight. -/
import Derived.Test.YtacjfebkabkmcaaLe
namespace Go.Proofs.Ytacjfebkabkmcaa.O

theorem num_mid (p s : List UInt8) (c : UInt8) : num (p ++ c :: s) = num p + 256 ^ p.length * (c.toNat + 256 * num s) := by
  rw [num_append]
  rfl
theorem num_cmp (p q s : List UInt8) (c d : UInt8) (h : p.length = q.length) (hcd : c.toNat < d.toNat) : num (p ++ c :: s) < num (q ++ d :: s) := by
  rw [num_mid, num_mid, ← h]
  have h1 := num_lt p
  have h2 : 256 ^ p.length * (c.toNat + 256 * num s) + 256 ^ p.length ≤ 256 ^ p.length * (d.toNat + 256 * num s) := by
    rw [← Nat.mul_succ]
    exact Nat.mul_le_mul_left _ (by omega)
  omega
/-- Where two rows of as many bytes are unlike last. -/
theorem num_last {l m : List UInt8} (hl : l.length = m.length) (j : Nat) (hj : j < l.length) (hd : l.drop (j + 1) = m.drop (j + 1)) (hlt : l[j].toNat < (m[j]'(by omega)).toNat) : num l < num m := by
  have e1 : l = l.take j ++ l[j] :: l.drop (j + 1) := by rw [← List.drop_eq_getElem_cons hj, List.take_append_drop]
  have e2 : m = m.take j ++ (m[j]'(by omega)) :: m.drop (j + 1) := by rw [← List.drop_eq_getElem_cons (by omega), List.take_append_drop]
  rw [e1, e2, ← hd]
  exact num_cmp _ _ _ _ _ (by simp; omega) hlt
theorem drop_more {l m : List UInt8} (hl : l.length = m.length) (j : Nat) (hj : j < l.length) (hd : l.drop (j + 1) = m.drop (j + 1)) (he : l[j] = (m[j]'(by omega))) : l.drop j = m.drop j := by
  rw [List.drop_eq_getElem_cons hj, List.drop_eq_getElem_cons (l := m) (by omega), hd, he]
end Go.Proofs.Ytacjfebkabkmcaa.O
