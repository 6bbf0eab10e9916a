/- The walks of crc.More, crc.Sum and of the laws' common head. -/
import Derived.Test.YtnbcnhhonleepaaDoorCards
import Derived.Test.YtnbcnhhonleepaaDoorTie
import Derived.Test.YtnbcnhhonleepaaDoorBase
import Derived.Test.YtnbcnhhonleepaaDoorMath
import Derived.Test.YtnbcnhhonleepaaDoorOwn
import Derived.Deep.DeepHandedRow
import Derived.Lib.LaidTab
import Derived.Lib.SlBytesConst
namespace Go.Proofs.YtnbcnhhonleepaaDoor
open Go.RowKit M

theorem elemU8 : ElemOf Tryd.prog 22 5 (.int .u8 0) 1 := ⟨Tryd.underlying22, by kernel_rfl, rfl⟩
def n4 (c : BitVec 4) : Int := (c.toNat : Int)
theorem n4_bd (c : BitVec 4) : 0 ≤ n4 c ∧ n4 c < 16 := by have := c.isLt; unfold n4; omega
theorem u32_xor_n8 (x : B) (c : UInt8) : bits .xor .u32 (n32 x) (n8 c) = n32 (x ^^^ wide c) := by
  have := c.toNat_lt
  unfold n32 n8
  rw [u32_xor_nat x.toNat c.toNat x.isLt (by omega)]
  simp [wide]
theorem u32_xor_n32 (x y : B) : bits .xor .u32 (n32 x) (n32 y) = n32 (x ^^^ y) := by
  unfold n32
  rw [u32_xor_nat x.toNat y.toNat x.isLt y.isLt]
  simp
theorem u32_not (x : B) : bits .xor .u32 IntKind.u32.max (n32 x) = n32 (~~~ x) := by
  have e : IntKind.u32.max = ((4294967295 : Nat) : Int) := by decide
  unfold n32
  rw [e, u32_xor_nat 4294967295 x.toNat (by decide) x.isLt, ← BitVec.allOnes_xor]
  simp
theorem u32_and15 (x : B) : bits .and .u32 (n32 x) 15 = n4 (x.setWidth 4) := by
  unfold n32 n4
  have := u32_and_nat x.toNat 15 x.isLt (by decide)
  simp at this
  rw [this]
  have := Nat.and_two_pow_sub_one_eq_mod x.toNat 4
  simp at this
  simp [BitVec.toNat_setWidth]
  omega
theorem u32_shr4 (x : B) : n32 x / (16 : Int) = n32 (x >>> 4) := by
  unfold n32
  simp [Nat.shiftRight_eq_div_pow]
attribute [local go_sem] u32_xor_n8 u32_xor_n32 u32_not u32_and15 u32_shr4

/-- The table of the program's text lies in its variable. -/
def HasTable (w : World) : Prop := ∀ y : BitVec 4, w.cell? ⟨0, (n4 y).toNat, none⟩ = some (.int .u32 (n32 (hf y)))
theorem HasTable.keep {w w' : World} (h : HasTable w) (hk : ∀ p : Addr, p.block < w.heap.size → w'.cell? p = w.cell? p) : HasTable w' :=
  fun y => (hk _ (World.block_lt_of_cell? w _ (h y))).trans (h y)
theorem HasTable.below {w w' : World} (h : HasTable w) (hb : Below w.heap.size w w') : HasTable w' := h.keep fun _ hp => hb.cell hp

def nibs : Nat → B → B
  | 0, x => x
  | j + 1, x => nib (nibs j x)
theorem run_snoc (x : B) (l : List UInt8) (k : Nat) (h : k < l.length) : run x (l.take (k + 1)) = nibs 2 (run x (l.take k) ^^^ wide l[k]) := by
  rw [List.take_succ_eq_append_getElem h, run_append]
  rfl

theorem more_any (x : B) (l : List UInt8) (n : Nat) (hnl : l.length = n) (w : World) (a : Option Addr) (c : Nat) (hn : n ≤ 9223372036854775807) (hb : IsBytes w a l) (hT : HasTable w) :
    Calls Tryd.prog 14 #[.int .u32 (n32 x), .slice a n c] w fun e w' => e = .returned (.int .u32 (n32 (more x l))) ∧ w = w' := by
  subst hnl
  go_enter Tryd.func14, Tryd.ntmps14
  go_wp2
  go_loop [5, 11] (fun s i => ∃ (k : Nat), k ≤ l.length ∧ i = .int .i64 k ∧ s = .int .u32 (n32 (run (~~~ x) (l.take k)))) (fun _ i => l.length - (intOf i).toNat)
  case atStart => exact ⟨0, Nat.zero_le _, rfl, by rfl⟩
  case round =>
    obtain ⟨k, hk, rfl, rfl⟩ := hrel
    by_cases hkn : k < l.length
    · obtain ⟨b, off, ha, hcell⟩ := hb
      have hl : l ≠ [] := by rintro rfl; simp at hkn
      obtain rfl := ha hl
      have hc := hcell k hkn
      have h8 := n8_bd l[k]
      clear hcell ha hl
      go_wp2
      go_loop [5, 21] (fun s i => ∃ j : Nat, j ≤ 2 ∧ i = .int .i64 j ∧ s = .int .u32 (n32 (nibs j (run (~~~ x) (l.take k) ^^^ wide l[k])))) (fun _ i => 2 - (intOf i).toNat)
      case atStart => exact ⟨0, by omega, rfl, rfl⟩
      case round =>
        obtain ⟨j, hj, rfl, rfl⟩ := hrel
        have hT' := hT
        unfold HasTable at hT'
        have h4 := n4_bd ((nibs j (run (~~~ x) (l.take k) ^^^ wide l[k])).setWidth 4)
        by_cases hj2 : j < 2
        · go_wp2
          go_round
          case rel => exact ⟨j + 1, by omega, by go_num, rfl⟩
          case measure => simp [intOf]; omega
        · obtain rfl : j = 2 := by omega
          go_wp2
          go_round
          case rel => exact ⟨k + 1, by omega, by go_num, by rw [run_snoc _ _ _ hkn]⟩
          case measure => simp [intOf]; omega
    · obtain rfl : k = l.length := by omega
      go_wp2
      go_ret
      refine ⟨?_, rfl⟩
      simp [more]

theorem sum_any (l : List UInt8) (n : Nat) (hnl : l.length = n) (w : World) (a : Option Addr) (c : Nat) (hn : n ≤ 9223372036854775807) (hb : IsBytes w a l) (hT : HasTable w) :
    Calls Tryd.prog 12 #[.slice a n c] w fun e w' => e = .returned (.int .u32 (n32 (sum l))) ∧ w = w' := by
  have h0 : (0 : Int) = n32 0#32 := rfl
  go_enter Tryd.func12, Tryd.ntmps12
  go_wp2_with fail
  refine (more_any 0#32 l n hnl w a c hn hb hT).mono ?_
  rintro e w' ⟨rfl, rfl⟩
  go_wp2
  go_ret
  exact ⟨rfl, rfl⟩
theorem HasTable.alloc {w : World} (h : HasTable w) (o : Obj) : HasTable (w.alloc o) := h.keep fun p hp => World.cell?_alloc_lt w o p hp
theorem c1 : (n32 (sum [49, 50, 51, 52, 53, 54, 55, 56, 57]) == (3421780262 : Int)) = true := by decide +kernel
theorem c2 : (n32 (sum []) == (0 : Int)) = true := by decide +kernel
theorem c3 : (n32 (more (sum [49, 50, 51, 52]) [53, 54, 55, 56, 57]) == (3421780262 : Int)) = true := by decide +kernel
theorem c4 : (n32 (sum [0]) == (3523407757 : Int)) = true := by decide +kernel

/-- What is known of the world on the way: the table, and nothing that was there has turned. -/
def Ok (w w1 : World) : Prop := HasTable w1 ∧ Below w.heap.size w w1
theorem Ok.alloc {w w1 : World} (h : Ok w w1) (o : Obj) : Ok w (w1.alloc o) := ⟨h.1.alloc o, h.2.alloc h.2.size o⟩
theorem Ok.step {w w1 w2 : World} (h : Ok w w1) (hb : Below w1.heap.size w1 w2) : Ok w w2 := ⟨h.1.below hb, h.2.trans (hb.mono h.2.size)⟩
theorem Ok.of_eq {w w1 w2 : World} (h : Ok w w1) (e : w1 = w2) : Ok w w2 := e ▸ h

theorem shown_any (w : World) (hT : HasTable w) : Calls Tryd.prog 11 #[] w fun e w' => e = .returned (.bool true) ∧ Below w.heap.size w w' := by
  have kc := fun (w : World) (C : Array Value) (n c : Nat) => Lib.run_convert_bytes_const (P := Tryd.prog) w 22 5 C n c Tryd.underlying22 Tryd.underlying5
  have e1 := c1
  have e2 := c2
  have e3 := c3
  have e4 := c4
  have hO : Ok w w := ⟨hT, Below.refl _ _⟩
  clear hT
  go_enter Tryd.func11, Tryd.ntmps11
  go_wp2_with fail
  refine (sum_any [49, 50, 51, 52, 53, 54, 55, 56, 57] 9 rfl _ _ _ (by omega) (by exact IsBytes.alloc_new _ _ _ _ _ rfl) (hO.alloc _).1).mono ?_
  rintro e w1 ⟨rfl, hw⟩
  replace hO := (hO.alloc _).of_eq hw
  clear hw
  go_wp2_with fail
  refine (sum_any [] 0 rfl _ _ _ (by omega) (IsBytes.nil _ _) hO.1).mono ?_
  rintro e w2 ⟨rfl, hw⟩
  replace hO := hO.of_eq hw
  clear hw
  go_wp2_with fail
  refine (sum_any [49, 50, 51, 52] 4 rfl _ _ _ (by omega) (by exact IsBytes.alloc_new _ _ _ _ _ rfl) (hO.alloc _).1).mono ?_
  rintro e w3 ⟨rfl, hw⟩
  replace hO := (hO.alloc _).of_eq hw
  clear hw
  go_wp2_with fail
  refine (more_any (sum [49, 50, 51, 52]) [53, 54, 55, 56, 57] 5 rfl _ _ _ (by omega) (by exact IsBytes.alloc_new _ _ _ _ _ rfl) (hO.alloc _).1).mono ?_
  rintro e w4 ⟨rfl, hw⟩
  replace hO := (hO.alloc _).of_eq hw
  clear hw
  go_wp2_with fail
  refine (sum_any [0] 1 rfl _ _ _ (by omega) (by exact IsBytes.alloc_new _ _ _ _ _ rfl) (hO.alloc _).1).mono ?_
  rintro e w5 ⟨rfl, hw⟩
  replace hO := (hO.alloc _).of_eq hw
  clear hw
  go_wp2_with fail
  go_ret
  exact ⟨rfl, hO.2⟩
theorem sumQ (w : World) (hT : HasTable w) (l : List UInt8) (n : Nat) (hnl : l.length = n) (a : Option Addr) (c : Nat) (hn : n ≤ 9223372036854775807) (hb : IsBytes w a l) :
    ∀ j, Calls Tryd.prog 12 #[.slice a n c] (w.drewN j) fun e w'' => e = .returned (.int .u32 (n32 (sum l))) ∧ ∃ m, w'' = w.drewN m :=
  fun j => (sum_any l n hnl (w.drewN j) a c hn hb hT).mono fun _ _ ⟨he, hw⟩ => ⟨he, j, hw.symm⟩
theorem moreQ (w : World) (hT : HasTable w) (x : B) (l : List UInt8) (n : Nat) (hnl : l.length = n) (a : Option Addr) (c : Nat) (hn : n ≤ 9223372036854775807) (hb : IsBytes w a l) :
    ∀ j, Calls Tryd.prog 14 #[.int .u32 (n32 x), .slice a n c] (w.drewN j) fun e w'' => e = .returned (.int .u32 (n32 (more x l))) ∧ ∃ m, w'' = w.drewN m :=
  fun j => (more_any x l n hnl (w.drewN j) a c hn hb hT).mono fun _ _ ⟨he, hw⟩ => ⟨he, j, hw.symm⟩
end Go.Proofs.YtnbcnhhonleepaaDoor
