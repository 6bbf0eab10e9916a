/- Plain mathematics of the checksum: linear maps over 32 bits. No program in sight. -/
namespace Go.Proofs.YtnbcnhhonleepaaDoor.M

abbrev B := BitVec 32

/-- The table, as the program's text has it. -/
def halfL : List Nat := [0, 498536548, 997073096, 651767980, 1994146192, 1802195444, 1303535960, 1342533948, 3988292384, 4027552580, 3604390888, 3412177804, 2607071920, 2262029012, 2685067896, 3183342108]
def hf (n : BitVec 4) : B := BitVec.ofNat 32 (halfL.getD n.toNat 0)

theorem hf_xor : ∀ a b : BitVec 4, hf (a ^^^ b) = hf a ^^^ hf b := by decide +kernel
theorem hf_top : ∀ a : BitVec 4, hf a >>> 28 = 0#32 → a = 0#4 := by decide +kernel
theorem hf_zero : hf 0#4 = 0#32 := by decide +kernel

/-- Half a byte's step. -/
def nib (x : B) : B := x >>> 4 ^^^ hf (x.setWidth 4)
/-- A byte's step where the byte is 0. -/
def Z (x : B) : B := nib (nib x)
def wide (c : UInt8) : B := c.toBitVec.setWidth 32
def byteStep (x : B) (c : UInt8) : B := Z (x ^^^ wide c)
def run (x : B) (l : List UInt8) : B := l.foldl byteStep x
def more (s : B) (l : List UInt8) : B := ~~~ run (~~~ s) l
def sum (l : List UInt8) : B := more 0#32 l

theorem nib_xor (x y : B) : nib (x ^^^ y) = nib x ^^^ nib y := by
  unfold nib
  rw [BitVec.setWidth_xor, hf_xor, BitVec.ushiftRight_xor_distrib]
  ac_rfl
theorem nib_zero : nib 0#32 = 0#32 := by decide +kernel
theorem nib_inj0 (x : B) (h : nib x = 0#32) : x = 0#32 := by
  unfold nib at h
  have h1 : (x >>> 4 ^^^ hf (x.setWidth 4)) >>> 28 = 0#32 := by rw [h]; decide
  rw [BitVec.ushiftRight_xor_distrib] at h1
  have h2 : (x >>> 4) >>> 28 = 0#32 := by
    apply BitVec.eq_of_toNat_eq
    have := x.isLt
    simp only [BitVec.toNat_ushiftRight, Nat.shiftRight_eq_div_pow, BitVec.toNat_ofNat]
    omega
  rw [h2, BitVec.zero_xor] at h1
  have h3 := hf_top _ h1
  rw [h3, hf_zero, BitVec.xor_zero] at h
  apply BitVec.eq_of_toNat_eq
  have h4 := congrArg BitVec.toNat h
  have h5 := congrArg BitVec.toNat h3
  simp only [BitVec.toNat_ushiftRight, Nat.shiftRight_eq_div_pow, BitVec.toNat_ofNat, BitVec.toNat_setWidth] at h4 h5 ⊢
  omega
theorem Z_xor (x y : B) : Z (x ^^^ y) = Z x ^^^ Z y := by unfold Z; rw [nib_xor, nib_xor]
theorem Z_zero : Z 0#32 = 0#32 := by decide +kernel
theorem Z_inj0 (x : B) (h : Z x = 0#32) : x = 0#32 := nib_inj0 _ (nib_inj0 _ h)

theorem xor_eq_zero {x y : B} : x ^^^ y = 0#32 ↔ x = y := by
  constructor
  · intro h
    have : x ^^^ y ^^^ y = 0#32 ^^^ y := by rw [h]
    rwa [BitVec.xor_assoc, BitVec.xor_self, BitVec.xor_zero, BitVec.zero_xor] at this
  · rintro rfl; exact BitVec.xor_self

theorem Z_inj {x y : B} (h : Z x = Z y) : x = y := by
  rw [← xor_eq_zero] at h ⊢
  rw [← Z_xor] at h
  exact Z_inj0 _ h

theorem run_nil (x : B) : run x [] = x := rfl
theorem run_cons (x : B) (c : UInt8) (l : List UInt8) : run x (c :: l) = run (byteStep x c) l := rfl
theorem run_append (x : B) (l m : List UInt8) : run x (l ++ m) = run (run x l) m := by simp [run, List.foldl_append]

/-- Two states that are run through the same bytes stay as far apart as they were. -/
theorem run_inj {x y : B} (l : List UInt8) (h : run x l = run y l) : x = y := by
  induction l generalizing x y with
  | nil => exact h
  | cons c l ih =>
    have := Z_inj (ih h)
    have h2 : x ^^^ wide c ^^^ wide c = y ^^^ wide c ^^^ wide c := by rw [this]
    simpa [BitVec.xor_assoc] using h2
theorem not_inj {x y : B} (h : ~~~ x = ~~~ y) : x = y := by
  have : ~~~ ~~~ x = ~~~ ~~~ y := by rw [h]
  simpa using this
theorem not_not (x : B) : ~~~ ~~~ x = x := by simp

theorem more_append (s : B) (l m : List UInt8) : more (more s l) m = more s (l ++ m) := by
  unfold more; rw [not_not, run_append]
theorem more_nil (s : B) : more s [] = s := by simp [more, run]
theorem more_inj {s t : B} (l : List UInt8) (h : more s l = more t l) : s = t := not_inj (run_inj l (not_inj h))
theorem sum_append (l m : List UInt8) : sum (l ++ m) = more (sum l) m := by unfold sum; rw [more_append]
end Go.Proofs.YtnbcnhhonleepaaDoor.M
