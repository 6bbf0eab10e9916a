/- Plain laws of numbers as bytes. No program in sight. -/
import Derived.Test.YtacjfebkabkmcaaLe
namespace Go.Proofs.Ytacjfebkabkmcaa.O

theorem num_mid (p s : List UInt8) (c : UInt8) : num (p ++ c :: s) = num p + 256 ^ p.length * (c.toNat + 256 * num s) := by
  rw [num_append]
  rfl
theorem num_cmp (p q s : List UInt8) (c d : UInt8) (h : p.length = q.length) (hcd : c.toNat < d.toNat) : num (p ++ c :: s) < num (q ++ d :: s) := by
  rw [num_mid, num_mid, ← h]
  have h1 := num_lt p
  have h2 : 256 ^ p.length * (c.toNat + 256 * num s) + 256 ^ p.length ≤ 256 ^ p.length * (d.toNat + 256 * num s) := by
    rw [← Nat.mul_succ]
    exact Nat.mul_le_mul_left _ (by omega)
  omega
/-- Where two rows of as many bytes are unlike last. -/
theorem num_last {l m : List UInt8} (hl : l.length = m.length) (j : Nat) (hj : j < l.length) (hd : l.drop (j + 1) = m.drop (j + 1)) (hlt : l[j].toNat < (m[j]'(by omega)).toNat) : num l < num m := by
  have e1 : l = l.take j ++ l[j] :: l.drop (j + 1) := by rw [← List.drop_eq_getElem_cons hj, List.take_append_drop]
  have e2 : m = m.take j ++ (m[j]'(by omega)) :: m.drop (j + 1) := by rw [← List.drop_eq_getElem_cons (by omega), List.take_append_drop]
  rw [e1, e2, ← hd]
  exact num_cmp _ _ _ _ _ (by simp; omega) hlt
theorem drop_more {l m : List UInt8} (hl : l.length = m.length) (j : Nat) (hj : j < l.length) (hd : l.drop (j + 1) = m.drop (j + 1)) (he : l[j] = (m[j]'(by omega))) : l.drop j = m.drop j := by
  rw [List.drop_eq_getElem_cons hj, List.drop_eq_getElem_cons (l := m) (by omega), hd, he]

theorem field_ext {l m : List UInt8} {n : Nat} (h : ∀ i, i < n → l.getD i 0 = m.getD i 0) : field l n = field m n := by
  apply List.ext_getElem?
  intro i
  by_cases hi : i < n
  · rw [field_get _ _ _ hi, field_get _ _ _ hi, h i hi]
  · rw [List.getElem?_eq_none (by rw [field_length]; omega), List.getElem?_eq_none (by rw [field_length]; omega)]
theorem field_getD (l : List UInt8) (n i : Nat) : (field l n).getD i 0 = if i < n then l.getD i 0 else 0 := by
  split
  · rename_i h
    rw [List.getD_eq_getElem?_getD, field_get _ _ _ h]
    rfl
  · rw [List.getD_eq_getElem?_getD, List.getElem?_eq_none (by rw [field_length]; omega)]
    rfl
theorem field_field (l : List UInt8) (n m : Nat) : field (field l (min n m)) m = field (field l n) m := by
  apply field_ext
  intro i hi
  rw [field_getD, field_getD]
  by_cases h : i < n
  · rw [if_pos h, if_pos (by omega)]
  · rw [if_neg h, if_neg (by omega)]

/-- Numbers, each with its size, one behind the other. -/
def cat : List Nat → List Nat → List UInt8
  | s :: ss, x :: xs => le s x ++ cat ss xs
  | _, _ => []
theorem cat_take (ss xs : List Nat) (k : Nat) (hs : k < ss.length) (hx : k < xs.length) : cat (ss.take (k + 1)) (xs.take (k + 1)) = cat (ss.take k) (xs.take k) ++ le ss[k] xs[k] := by
  induction k generalizing ss xs with
  | zero =>
    match ss, xs, hs, hx with
    | s :: ss, x :: xs, _, _ => simp [cat]
  | succ k ih =>
    match ss, xs, hs, hx with
    | s :: ss, x :: xs, hs, hx =>
      simp only [List.take_succ_cons, cat, List.getElem_cons_succ]
      rw [ih ss xs (by simpa using hs) (by simpa using hx), List.append_assoc]
theorem cat_drop (ss xs : List Nat) (k : Nat) (hs : k < ss.length) (hx : k < xs.length) : cat (ss.drop k) (xs.drop k) = le ss[k] xs[k] ++ cat (ss.drop (k + 1)) (xs.drop (k + 1)) := by
  rw [List.drop_eq_getElem_cons hs, List.drop_eq_getElem_cons hx, cat]
theorem cat_length (ss xs : List Nat) (n m : Nat) (h : ∀ s ∈ ss, s ≤ m) (hn : ss.length ≤ n) : (cat ss xs).length ≤ n * m := by
  induction ss generalizing xs n with
  | nil => simp [cat]
  | cons s ss ih =>
    cases xs with
    | nil => simp [cat]
    | cons x xs =>
      simp only [cat, List.length_append, le_length]
      simp only [List.length_cons] at hn
      have h1 := ih xs (n - 1) (fun s hs => h s (by simp [hs])) (by omega)
      have h2 := h s (by simp)
      have h3 : (n - 1) * m + m = n * m := by
        obtain ⟨k, rfl⟩ : ∃ k, n = k + 1 := ⟨n - 1, by omega⟩
        rw [Nat.add_sub_cancel, Nat.succ_mul]
      omega
theorem rd_append (l m : List UInt8) (k : Nat) (h : l.length = k) (s : Bool) : rdB (l ++ m) k = l ∧ rdL (l ++ m) k = m ∧ rdS (l ++ m) k s = s := by
  subst h
  simp [rdB, rdL, rdS]
end Go.Proofs.Ytacjfebkabkmcaa.O
