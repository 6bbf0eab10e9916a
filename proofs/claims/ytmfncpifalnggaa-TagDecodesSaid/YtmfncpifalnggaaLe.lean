/- Plain mathematics of numbers as bytes, the lowest first. No program in sight. -/
namespace Go.Proofs.Ytmfncpifalnggaa.O

/-- The k lowest bytes of x, the lowest first. -/
def le : Nat → Nat → List UInt8
  | 0, _ => []
  | k + 1, x => UInt8.ofNat x :: le k (x / 256)
/-- The number whose bytes these are, the lowest first. -/
def num : List UInt8 → Nat
  | [] => 0
  | c :: l => c.toNat + 256 * num l

theorem le_length (k x : Nat) : (le k x).length = k := by
  induction k generalizing x with
  | zero => rfl
  | succ k ih => simp [le, ih]
theorem le_snoc (k x : Nat) : le (k + 1) x = le k x ++ [UInt8.ofNat (x / 256 ^ k)] := by
  induction k generalizing x with
  | zero => simp [le]
  | succ k ih =>
    rw [le, ih, Nat.div_div_eq_div_mul]
    conv => rhs; rw [le]
    rw [Nat.pow_succ, Nat.mul_comm (256 ^ k)]
    rfl
theorem num_lt (l : List UInt8) : num l < 256 ^ l.length := by
  induction l with
  | nil => simp [num]
  | cons c l ih =>
    have := c.toNat_lt
    simp only [num, List.length_cons, Nat.pow_succ]
    omega
theorem num_append (l m : List UInt8) : num (l ++ m) = num l + 256 ^ l.length * num m := by
  induction l with
  | nil => simp [num]
  | cons c l ih =>
    simp only [List.cons_append, num, ih, List.length_cons, Nat.pow_succ]
    rw [Nat.mul_add, Nat.mul_comm (256 ^ l.length) 256, Nat.mul_assoc]
    omega
theorem num_snoc (l : List UInt8) (c : UInt8) : num (l ++ [c]) = num l + 256 ^ l.length * c.toNat := by
  rw [num_append]
  simp [num]
theorem num_le (k x : Nat) : num (le k x) = x % 256 ^ k := by
  induction k generalizing x with
  | zero => simp [le, num, Nat.mod_one]
  | succ k ih =>
    simp only [le, num, ih, UInt8.toNat_ofNat']
    have e : 256 ^ (k + 1) = 256 * 256 ^ k := by rw [Nat.pow_succ, Nat.mul_comm]
    rw [e, Nat.mod_mul]
theorem le_num (l : List UInt8) : le l.length (num l) = l := by
  induction l with
  | nil => rfl
  | cons c l ih =>
    have h := c.toNat_lt
    have e1 : UInt8.ofNat (c.toNat + 256 * num l) = c := by
      apply UInt8.toNat_inj.1
      rw [UInt8.toNat_ofNat']
      omega
    have e2 : (c.toNat + 256 * num l) / 256 = num l := by omega
    simp only [num, List.length_cons, le, e1, e2, ih]
theorem le_mod (k x : Nat) : le k (x % 256 ^ k) = le k x := by
  have h := le_num (le k x)
  rw [le_length, num_le] at h
  exact h
theorem num_inj {l m : List UInt8} (h : l.length = m.length) (e : num l = num m) : l = m := by
  rw [← le_num l, ← le_num m, h, e]
theorem le_take (k j x : Nat) (h : j ≤ k) : (le k x).take j = le j x := by
  induction k generalizing j x with
  | zero => obtain rfl : j = 0 := by omega
            rfl
  | succ k ih =>
    cases j with
    | zero => rfl
    | succ j => simp only [le, List.take_succ_cons, ih j _ (by omega)]

/-- An int, cut to what may be from 0 to m. -/
def cl (z : Int) (m : Nat) : Nat := (min (max z 0) (m : Int)).toNat
theorem cl_le (z : Int) (m : Nat) : cl z m ≤ m := by unfold cl; omega
theorem cl_of (z k : Nat) (h : z ≤ k) : cl (z : Int) k = z := by unfold cl; omega

/-- n bytes: those of l, and noughts. -/
def field (l : List UInt8) (n : Nat) : List UInt8 := l.take n ++ List.replicate (n - l.length) 0
theorem field_length (l : List UInt8) (n : Nat) : (field l n).length = n := by
  simp only [field, List.length_append, List.length_take, List.length_replicate]
  omega
theorem field_get (l : List UInt8) (n i : Nat) (h : i < n) : (field l n)[i]? = some (l.getD i 0) := by
  unfold field
  by_cases hl : i < l.length
  · rw [List.getElem?_append_left (by simp; omega), List.getElem?_take, if_pos h]
    simp [hl]
  · rw [List.getElem?_append_right (by simp; omega)]
    simp
    rw [List.getElem?_replicate, if_pos (by omega)]
    simp [List.getElem?_eq_none (Nat.le_of_not_lt hl)]

/-- What a reader that has the bytes l is asked for k bytes: the bytes, what is left, whether it is spoiled. -/
def rdB (l : List UInt8) (k : Nat) : List UInt8 := if k ≤ l.length then l.take k else []
def rdL (l : List UInt8) (k : Nat) : List UInt8 := if k ≤ l.length then l.drop k else []
def rdS (l : List UInt8) (k : Nat) (s : Bool) : Bool := if k ≤ l.length then s else true
end Go.Proofs.Ytmfncpifalnggaa.O
