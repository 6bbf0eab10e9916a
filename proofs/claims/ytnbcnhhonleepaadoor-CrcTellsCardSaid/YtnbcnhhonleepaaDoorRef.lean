/- The walk of the document's sum (harrowref02.Sum). -/
import Derived.Test.YtnbcnhhonleepaaDoorCards
import Derived.Test.YtnbcnhhonleepaaDoorTie
import Derived.Test.YtnbcnhhonleepaaDoorBase
import Derived.Test.YtnbcnhhonleepaaDoorRefM
import Derived.Outline
namespace Go.Proofs.YtnbcnhhonleepaaDoor
open Go.RowKit M

theorem excl_nat (x y : B) : (x.toNat ||| y.toNat) = (x ^^^ y).toNat + (x.toNat &&& y.toNat) := by
  have h : (x ^^^ y) &&& (x &&& y) = 0#32 := by
    apply BitVec.eq_of_getLsbD_eq
    intro i hi
    simp only [BitVec.getLsbD_and, BitVec.getLsbD_xor]
    cases x.getLsbD i <;> cases y.getLsbD i <;> simp
  have h2 : (x ^^^ y) + (x &&& y) = x ||| y := by
    rw [BitVec.add_eq_or_of_and_eq_zero _ _ h]
    apply BitVec.eq_of_getLsbD_eq
    intro i hi
    simp only [BitVec.getLsbD_and, BitVec.getLsbD_xor, BitVec.getLsbD_or]
    cases x.getLsbD i <;> cases y.getLsbD i <;> simp
  have h3 := congrArg BitVec.toNat h2
  rw [BitVec.toNat_or, BitVec.toNat_add_of_and_eq_zero h, BitVec.toNat_and] at h3
  exact h3.symm
theorem u64_or32 (x y : B) : bits .or .u64 (n32 x) (n32 y) = n32 (x ^^^ y) + n32 (x &&& y) := by
  unfold n32
  rw [u64_or_nat x.toNat y.toNat (by have := x.isLt; omega) (by have := y.isLt; omega), excl_nat, BitVec.toNat_and]
  omega
theorem u64_and32 (x y : B) : bits .and .u64 (n32 x) (n32 y) = n32 (x &&& y) := by
  unfold n32
  rw [u64_and_nat x.toNat y.toNat (by have := x.isLt; omega) (by have := y.isLt; omega), BitVec.toNat_and]
attribute [local go_sem] u64_or32 u64_and32
theorem exclusive_any (x y : B) (w : World) :
    Calls Tryd.prog 15 #[.int .u64 (n32 x), .int .u64 (n32 y)] w fun e w' => e = .returned (.int .u64 (n32 (x ^^^ y))) ∧ w = w' := by
  have h1 := n32_bd (x ^^^ y)
  have h2 := n32_bd (x &&& y)
  go_enter Tryd.func15, Tryd.ntmps15
  go_wp2
  go_ret
  refine ⟨?_, rfl⟩
  simp

theorem excl_poly (x : B) (w : World) :
    Calls Tryd.prog 15 #[.int .u64 (n32 x), .int .u64 79764919] w fun e w' => e = .returned (.int .u64 (n32 (x ^^^ 79764919#32))) ∧ w = w' :=
  exclusive_any x 79764919#32 w
def nb (b : Bool) : Int := if b then 1 else 0
def bitB (x : B) (i : Nat) : Bool := x.getLsbD i
def bitC (c : UInt8) (i : Nat) : Bool := c.toBitVec.getLsbD i
theorem nb_bd (b : Bool) : 0 ≤ nb b ∧ nb b ≤ 1 := by cases b <;> decide
theorem nb_ne (a b : Bool) : (nb a != nb b) = (a != b) := by cases a <;> cases b <;> rfl
theorem nb_mod (n j : Nat) : ((n / 2 ^ j % 2 : Nat) : Int) = nb (n.testBit j) := by
  rw [Nat.testBit, Nat.shiftRight_eq_div_pow, Nat.and_comm, Nat.and_one_is_mod]
  rcases Nat.mod_two_eq_zero_or_one (n / 2 ^ j) with h | h <;> rw [h] <;> rfl
theorem top31 (x : B) : n32 x / (2147483648 : Int) = nb (bitB x 31) := by
  unfold bitB
  have h := nb_mod x.toNat 31
  have := x.isLt
  rw [BitVec.getLsbD, ← h]
  unfold n32
  omega
theorem and_one64 (n j : Nat) (h : n < 4294967296) : bits .and .u64 ((n : Int) / (2 : Int) ^ j) 1 = nb (n.testBit j) := by
  have e : ((n : Int) / (2 : Int) ^ j) = ((n / 2 ^ j : Nat) : Int) := by simp
  have hl : n / 2 ^ j ≤ n := Nat.div_le_self _ _
  have := u64_and_nat (n / 2 ^ j) 1 (by omega) (by omega)
  rw [e, show (1 : Int) = ((1 : Nat) : Int) from rfl, this, Nat.and_one_is_mod, nb_mod]
theorem bit8 (c : UInt8) (j : Nat) : bits .and .u64 (n8 c / (2 : Int) ^ j) 1 = nb (bitC c j) := by
  have := c.toNat_lt
  exact and_one64 c.toNat j (by omega)
theorem bit32 (x : B) (j : Nat) : bits .and .u64 (n32 x / (2 : Int) ^ j) 1 = nb (bitB x j) := and_one64 x.toNat j x.isLt
theorem shl1 (x : B) : bits .and .u64 (IntKind.u64.wrap (n32 x * 2)) 4294967295 = n32 (x <<< 1) := by
  have h := x.isLt
  have e : IntKind.u64.wrap (n32 x * 2) = ((x.toNat * 2 : Nat) : Int) := by
    rw [IntKind.wrap_u64]
    unfold n32
    omega
  have := u64_and_nat (x.toNat * 2) 4294967295 (by omega) (by omega)
  rw [e, show (4294967295 : Int) = ((4294967295 : Nat) : Int) from rfl, this]
  have h2 := Nat.and_two_pow_sub_one_eq_mod (x.toNat * 2) 32
  simp at h2
  unfold n32
  simp [Nat.shiftLeft_eq, h2]
theorem shl1' (x : B) : bits .and .u64 (n32 x * 2) 4294967295 = n32 (x <<< 1) := by
  have h := shl1 x
  have h2 := n32_bd x
  rw [IntKind.wrap_u64] at h
  rwa [Int.emod_eq_of_lt (by omega) (by omega)] at h
attribute [local go_sem] top31 bit8 bit32 shl1 shl1' nb_ne
theorem run_take_succ (x : B) (l : List UInt8) (k : Nat) (h : k < l.length) : run x (l.take (k + 1)) = byteStep (run x (l.take k)) l[k] := by
  rw [List.take_succ_eq_append_getElem h, run_append]
  rfl
theorem stp_succ (j : Nat) (s : B) (c : UInt8) : (stp (j + 1) s c).reverse = refStep (stp j s c).reverse (bitC c j) := by
  rw [refStep_eq]
  rfl
theorem refStep_pos (x : B) (b : Bool) (h : (bitB x 31 != b) = true) : refStep x b = x <<< 1 ^^^ 79764919#32 := by
  unfold bitB at h
  unfold refStep
  rw [h, if_pos rfl]
theorem refStep_neg (x : B) (b : Bool) (h : (bitB x 31 != b) = false) : refStep x b = x <<< 1 := by
  unfold bitB at h
  unfold refStep
  rw [h, if_neg (by simp)]

theorem out_val (q : Nat) (b : Bool) (h : 2 * q + b.toNat < 4294967296) : Value.int .u32 ((q : Int) * 2 % 4294967296 + nb b) = .int .u32 ((2 * q + b.toNat : Nat) : Int) := by
  congr 1
  have e : nb b = (b.toNat : Int) := by cases b <;> rfl
  rw [e]
  omega
theorem out_end (R : B) : Ending.returned (.int .u32 (4294967295 - (R.toNat : Int))) = .returned (.int .u32 (n32 (~~~R))) := by
  congr 2
  have := R.isLt
  unfold n32
  rw [BitVec.toNat_not]
  omega

theorem refsum_any (l : List UInt8) (n : Nat) (hnl : l.length = n) (w : World) (a : Option Addr) (c : Nat) (hn : n ≤ 9223372036854775807) (hb : IsBytes w a l) :
    Calls Tryd.prog 13 #[.slice a n c] w fun e w' => e = .returned (.int .u32 (n32 (sum l))) ∧ w = w' := by
  subst hnl
  obtain ⟨z, hz⟩ : ∃ z : B, z = ~~~0#32 := ⟨_, rfl⟩
  have Hz := hid hz
  clear hz
  go_enter Tryd.func13, Tryd.ntmps13
  go_wp2
  go_loop [3, 4] (fun s i => ∃ (k : Nat), k ≤ l.length ∧ i = .int .i64 k ∧ s = .int .u64 (n32 (run z (l.take k)).reverse)) (fun _ i => l.length - (intOf i).toNat)
  case atStart => exact ⟨0, Nat.zero_le _, rfl, by rw [List.take_zero, run_nil, Hz.out, rev_ones]; rfl⟩
  case round =>
    obtain ⟨k, hk, rfl, rfl⟩ := hrel
    by_cases hkn : k < l.length
    · obtain ⟨b, off, ha, hcell⟩ := hb
      have hl : l ≠ [] := by rintro rfl; simp at hkn
      obtain rfl := ha hl
      have hc := hcell k hkn
      have h8 := n8_bd l[k]
      clear hcell ha hl
      go_wp2
      go_loop [3, 5] (fun s i => ∃ j : Nat, j ≤ 8 ∧ i = .int .i64 j ∧ s = .int .u64 (n32 (stp j (run z (l.take k)) l[k]).reverse)) (fun _ i => 8 - (intOf i).toNat)
      case atStart => exact ⟨0, by omega, rfl, rfl⟩
      case round =>
        obtain ⟨j, hj, rfl, rfl⟩ := hrel
        by_cases hj8 : j < 8
        · have hs := stp_succ j (run z (l.take k)) l[k]
          have Hs := hid hs
          clear hs
          generalize (stp j (run z (l.take k)) l[k]).reverse = X at *
          have hx := n32_bd X
          rcases hq : (bitB X 31 != bitC l[k] j) with _ | _
          · go_wp2_with fail
            go_round
            case rel => exact ⟨j + 1, by omega, by go_num, by rw [Hs.out, refStep_neg _ _ hq]⟩
            case measure => simp [intOf]; omega
          · go_wp2_with (go_at_call 15; refine (excl_poly _ _).mono ?_; rintro e w' ⟨rfl, rfl⟩)
            go_round
            case rel => exact ⟨j + 1, by omega, by go_num, by rw [Hs.out, refStep_pos _ _ hq]⟩
            case measure => simp [intOf]; omega
        · obtain rfl : j = 8 := by omega
          go_wp2
          go_round
          case rel => exact ⟨k + 1, by omega, by go_num, by rw [stp8, run_take_succ _ _ _ hkn]⟩
          case measure => simp [intOf]; omega
    · obtain rfl : k = l.length := by omega
      have hr : sum l = ~~~ run z l := by rw [Hz.out]; simp [sum, more]
      have Hr := hid hr
      clear hr
      rw [List.take_length]
      generalize run z l = R at *
      go_wp2
      go_loop [8, 9] (fun s i => ∃ j : Nat, j ≤ 32 ∧ i = .int .i64 j ∧ s = .int .u32 ((R.toNat / 2 ^ (32 - j) : Nat) : Int)) (fun _ i => 32 - (intOf i).toNat)
      case atStart => exact ⟨0, by omega, rfl, by have := R.isLt; simp; omega⟩
      case round =>
        obtain ⟨j, hj, rfl, rfl⟩ := hrel
        by_cases hj8 : j < 32
        · have hs := out_succ R.toNat j hj8
          rw [out_bit _ _ hj8] at hs
          have hl : R.toNat / 2 ^ (32 - (j + 1)) < 4294967296 := Nat.lt_of_le_of_lt (Nat.div_le_self _ _) R.isLt
          have Hs := hid hs
          have Hl := hid hl
          clear hs hl
          generalize R.toNat / 2 ^ (32 - j) = q at *
          have hb1 := nb_bd (bitB R.reverse j)
          go_wp2
          go_round
          case rel =>
            refine ⟨j + 1, by omega, by go_num, ?_⟩
            have h1 := Hs.out
            have h2 := Hl.out
            rw [h1] at h2 ⊢
            exact out_val q _ h2
          case measure => simp [intOf]; omega
        · obtain rfl : j = 32 := by omega
          go_wp2
          go_ret
          refine ⟨?_, rfl⟩
          rw [Hr.out]
          exact out_end R
end Go.Proofs.YtnbcnhhonleepaaDoor
