/- Plain mathematics: the document's sum, bit by bit with the highest power ahead, is the program's, half a byte at a time with the lowest power ahead. No program in sight. -/
import Derived.Test.YtnbcnhhonleepaaDoorMath
namespace Go.Proofs.YtnbcnhhonleepaaDoor.M

def bitstep (x : B) : B := if x.getLsbD 0 then x >>> 1 ^^^ 3988292384#32 else x >>> 1
def b32 (b : Bool) : B := if b then 1#32 else 0#32
theorem bitstep_xor (x y : B) : bitstep (x ^^^ y) = bitstep x ^^^ bitstep y := by
  unfold bitstep
  rw [BitVec.getLsbD_xor, BitVec.ushiftRight_xor_distrib]
  cases x.getLsbD 0 <;> cases y.getLsbD 0 <;> simp
  · rw [BitVec.xor_assoc]
  · rw [BitVec.xor_assoc, BitVec.xor_assoc]
    congr 1
    rw [BitVec.xor_comm]
  · have : x >>> 1 ^^^ 3988292384#32 ^^^ (y >>> 1 ^^^ 3988292384#32) = x >>> 1 ^^^ y >>> 1 ^^^ (3988292384#32 ^^^ 3988292384#32) := by ac_rfl
    rw [this, BitVec.xor_self, BitVec.xor_zero]
def bs : Nat → B → B
  | 0, x => x
  | k + 1, x => bitstep (bs k x)
theorem bs_xor (k : Nat) (x y : B) : bs k (x ^^^ y) = bs k x ^^^ bs k y := by
  induction k with
  | zero => rfl
  | succ k ih => simp only [bs, ih, bitstep_xor]
theorem bs_add (k j : Nat) (x : B) : bs (k + j) x = bs j (bs k x) := by
  induction j with
  | zero => rfl
  | succ j ih => rw [← Nat.add_assoc]; simp only [bs, ih]
theorem bit_shl (y : B) (h : y.toNat < 2147483648) : bitstep (y <<< 1) = y := by
  unfold bitstep
  have h0 : (y <<< 1).getLsbD 0 = false := by simp
  rw [h0, if_neg (by simp)]
  apply BitVec.eq_of_toNat_eq
  simp only [BitVec.toNat_ushiftRight, BitVec.toNat_shiftLeft, Nat.shiftLeft_eq, Nat.shiftRight_eq_div_pow]
  omega
theorem bs_shl (k : Nat) (y : B) (h : y.toNat * 2 ^ k < 4294967296) : bs k (y <<< k) = y := by
  induction k generalizing y with
  | zero => simp [bs]
  | succ k ih =>
    have e : bs (k + 1) (y <<< (k + 1)) = bs k (bitstep (y <<< (k + 1))) := by rw [Nat.add_comm, bs_add]; rfl
    have hp : 2 ^ (k + 1) = 2 * 2 ^ k := by rw [Nat.pow_succ, Nat.mul_comm]
    rw [hp] at h
    have h1 : 1 ≤ 2 ^ k := Nat.one_le_two_pow
    have h2 : y.toNat * (2 * 2 ^ k) = 2 * (y.toNat * 2 ^ k) := by rw [← Nat.mul_assoc, Nat.mul_comm y.toNat 2, Nat.mul_assoc]
    rw [h2] at h
    rw [e, BitVec.shiftLeft_add, bit_shl]
    · exact ih y (by omega)
    · rw [BitVec.toNat_shiftLeft, Nat.shiftLeft_eq, Nat.mod_eq_of_lt (by omega)]; omega
theorem bs4_low : ∀ n : BitVec 4, bs 4 (n.setWidth 32) = hf n := by decide +kernel
theorem split4 (x : B) : x = (x >>> 4) <<< 4 ^^^ (x.setWidth 4).setWidth 32 := by
  apply BitVec.eq_of_getLsbD_eq
  intro i hi
  simp only [BitVec.getLsbD_xor, BitVec.getLsbD_shiftLeft, BitVec.getLsbD_ushiftRight, BitVec.getLsbD_setWidth]
  by_cases h : i < 4
  · simp [h, hi]
  · have : 4 + (i - 4) = i := by omega
    simp [h, hi, this]
theorem bs4 (x : B) : bs 4 x = nib x := by
  conv => lhs; rw [split4 x, bs_xor]
  rw [bs4_low, bs_shl]
  · rfl
  · have := x.isLt
    simp only [BitVec.toNat_ushiftRight, Nat.shiftRight_eq_div_pow]
    omega
theorem bs8 (x : B) : bs 8 x = Z x := by
  rw [show 8 = 4 + 4 from rfl, bs_add, bs4, bs4]
  rfl

/-- The bits of a byte, as the document takes them. -/
def stp : Nat → B → UInt8 → B
  | 0, s, _ => s
  | k + 1, s, c => bitstep (stp k s c ^^^ b32 (c.toBitVec.getLsbD k))
def low : Nat → BitVec 8 → B
  | 0, _ => 0#32
  | k + 1, c => low k c ^^^ b32 (c.getLsbD k) <<< k
theorem low8 : ∀ c : BitVec 8, low 8 c = c.setWidth 32 := by decide +kernel
theorem bs_bit : ∀ k : Fin 8, ∀ b : Bool, bs k (b32 b <<< (k : Nat)) = b32 b := by decide +kernel
theorem stp_bs (k : Nat) (hk : k ≤ 8) (s : B) (c : UInt8) : stp k s c = bs k (s ^^^ low k c.toBitVec) := by
  induction k with
  | zero => simp [stp, bs, low]
  | succ k ih =>
    have h := bs_bit ⟨k, by omega⟩ (c.toBitVec.getLsbD k)
    simp only at h
    simp only [stp, low]
    rw [ih (by omega), ← h, ← bs_xor, h, BitVec.xor_assoc]
    rfl
theorem stp8 (s : B) (c : UInt8) : stp 8 s c = byteStep s c := by
  rw [stp_bs 8 (by omega), bs8, low8]
  rfl

/-- The document's state: turned. -/
def refStep (X : B) (b : Bool) : B := if X.getLsbD 31 != b then X <<< 1 ^^^ 79764919#32 else X <<< 1
theorem rev_bit (x : B) (i : Nat) (h : i < 32) : x.reverse.getLsbD i = x.getLsbD (31 - i) := by
  rw [BitVec.getLsbD_reverse, BitVec.getMsbD_eq_getLsbD]
  simp [h]
theorem rev_xor (x y : B) : (x ^^^ y).reverse = x.reverse ^^^ y.reverse := by
  apply BitVec.eq_of_getLsbD_eq
  intro i hi
  rw [rev_bit _ _ hi, BitVec.getLsbD_xor, BitVec.getLsbD_xor, rev_bit _ _ hi, rev_bit _ _ hi]
theorem rev_shr (x : B) : (x >>> 1).reverse = x.reverse <<< 1 := by
  apply BitVec.eq_of_getLsbD_eq
  intro i hi
  rw [rev_bit _ _ hi, BitVec.getLsbD_ushiftRight, BitVec.getLsbD_shiftLeft]
  by_cases h : i = 0
  · subst h
    simp
  · rw [rev_bit _ _ (by omega)]
    have e : 1 + (31 - i) = 31 - (i - 1) := by omega
    simp [h, hi, e]
theorem rev_poly : (3988292384#32).reverse = 79764919#32 := by decide +kernel
theorem rev_ones : (~~~(0#32)).reverse = 4294967295#32 := by decide +kernel
theorem refStep_eq (s : B) (b : Bool) : refStep s.reverse b = (bitstep (s ^^^ b32 b)).reverse := by
  have h1 : (s ^^^ b32 b) >>> 1 = s >>> 1 := by
    rw [BitVec.ushiftRight_xor_distrib]
    have : b32 b >>> 1 = 0#32 := by cases b <;> decide
    rw [this, BitVec.xor_zero]
  have h2 : (s ^^^ b32 b).getLsbD 0 = (s.getLsbD 0 != b) := by
    rw [BitVec.getLsbD_xor]
    cases b <;> simp [b32]
  unfold refStep bitstep
  rw [h1, h2, rev_bit _ _ (by omega)]
  show (if (s.getLsbD 0 != b) = true then _ else _) = _
  split
  · rw [rev_xor, rev_shr, rev_poly]
  · rw [rev_shr]

/-- The last loop: the state, turned once more. -/
theorem out_succ (n k : Nat) (hk : k < 32) : n / 2 ^ (32 - (k + 1)) = 2 * (n / 2 ^ (32 - k)) + n / 2 ^ (31 - k) % 2 := by
  have e1 : 32 - (k + 1) = 31 - k := by omega
  have e2 : 32 - k = (31 - k) + 1 := by omega
  rw [e1, e2, Nat.pow_succ, ← Nat.div_div_eq_div_mul]
  omega
theorem out_bit (x : B) (k : Nat) (hk : k < 32) : x.toNat / 2 ^ (31 - k) % 2 = (x.reverse.getLsbD k).toNat := by
  rw [rev_bit _ _ hk, BitVec.getLsbD, Nat.testBit, Nat.shiftRight_eq_div_pow]
  have := Nat.mod_two_eq_zero_or_one (x.toNat / 2 ^ (31 - k))
  rw [Nat.and_comm, Nat.and_one_is_mod]
  rcases this with h | h <;> rw [h] <;> rfl
end Go.Proofs.YtnbcnhhonleepaaDoor.M
