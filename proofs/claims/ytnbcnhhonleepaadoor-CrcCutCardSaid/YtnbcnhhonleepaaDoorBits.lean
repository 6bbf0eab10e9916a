/- How the walk's numbers read: bytes of a 32-bit number, its lowest 24 bits. -/
import Derived.Test.YtnbcnhhonleepaaDoorBase
import Derived.Test.YtnbcnhhonleepaaDoorMore
namespace Go.Proofs.YtnbcnhhonleepaaDoor
open Go.RowKit M

theorem u32_byte (x : B) (k : Nat) (m : Int) (hm : m = ((2 ^ k : Nat) : Int)) : n32 x / m % (256 : Int) = n8 (byteAt x k) := by
  subst hm
  unfold n32 n8 byteAt
  simp only [UInt8.toNat_ofBitVec, BitVec.toNat_setWidth, BitVec.toNat_ushiftRight, Nat.shiftRight_eq_div_pow]
  rw [← Int.natCast_ediv]
  generalize x.toNat / 2 ^ k = q
  omega
theorem u32_byte0 (x : B) : n32 x % (256 : Int) = n8 (byteAt x 0) := by
  have := u32_byte x 0 1 rfl
  rwa [Int.ediv_one] at this
theorem u32_byte8 (x : B) : n32 x / (256 : Int) % (256 : Int) = n8 (byteAt x 8) := u32_byte x 8 _ rfl
theorem u32_byte16 (x : B) : n32 x / (65536 : Int) % (256 : Int) = n8 (byteAt x 16) := u32_byte x 16 _ rfl
theorem u32_byte24 (x : B) : n32 x / (16777216 : Int) % (256 : Int) = n8 (byteAt x 24) := u32_byte x 24 _ rfl
theorem u32_and24 (x : B) : bits .and .u32 (n32 x) 16777215 = n32 (x &&& 16777215#32) := by
  have h := u32_and_nat x.toNat 16777215 x.isLt (by decide)
  unfold n32
  simp only [BitVec.toNat_and]
  exact h
theorem u8_xor_n8 (x y : UInt8) : bits .xor .u8 (n8 x) (n8 y) = n8 (x ^^^ y) := by
  unfold n8
  rw [u8_xor_nat x.toNat y.toNat x.toNat_lt y.toNat_lt, UInt8.toNat_xor]
end Go.Proofs.YtnbcnhhonleepaaDoor
