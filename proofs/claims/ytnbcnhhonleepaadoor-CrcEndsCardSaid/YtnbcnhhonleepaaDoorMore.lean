/- Plain laws of the checksum: four bytes and three bytes as one number, noughts, differences of three rows, two bytes turned. No program in sight. -/
import Derived.Test.YtnbcnhhonleepaaDoorMath
namespace Go.Proofs.YtnbcnhhonleepaaDoor.M

theorem shl4 (y : B) (h : y.toNat < 268435456) : nib (y <<< 4) = y := by
  unfold nib
  have h1 : (y <<< 4).setWidth 4 = 0#4 := by
    apply BitVec.eq_of_toNat_eq
    simp only [BitVec.toNat_setWidth, BitVec.toNat_shiftLeft, Nat.shiftLeft_eq, BitVec.toNat_ofNat]
    omega
  rw [h1, hf_zero, BitVec.xor_zero]
  apply BitVec.eq_of_toNat_eq
  simp only [BitVec.toNat_ushiftRight, BitVec.toNat_shiftLeft, Nat.shiftLeft_eq, Nat.shiftRight_eq_div_pow]
  omega
theorem Z_shl (y : B) (h : y.toNat < 16777216) : Z (y <<< 8) = y := by
  have h2 : y <<< 8 = y <<< 4 <<< 4 := by
    apply BitVec.eq_of_toNat_eq
    simp only [BitVec.toNat_shiftLeft, Nat.shiftLeft_eq]
    omega
  unfold Z
  rw [h2, shl4, shl4 y (by omega)]
  simp only [BitVec.toNat_shiftLeft, Nat.shiftLeft_eq]
  omega

theorem wide_lt (c : UInt8) : (wide c).toNat < 256 := by
  have := c.toNat_lt
  simp only [wide, BitVec.toNat_setWidth, UInt8.toNat_toBitVec]
  omega
theorem wide_xor (a b : UInt8) : wide (a ^^^ b) = wide a ^^^ wide b := by simp [wide]
theorem wide_zero : wide 0 = 0#32 := by decide

theorem shl_lt (c : B) (k m : Nat) (h : c.toNat < 256) (hk : m = 256 * 2 ^ k) : (c <<< k).toNat < m := by
  simp only [BitVec.toNat_shiftLeft, Nat.shiftLeft_eq]
  refine Nat.lt_of_le_of_lt (Nat.mod_le _ _) ?_
  rw [hk]
  exact Nat.mul_lt_mul_of_pos_right h (Nat.pow_pos (by omega))
theorem shl_shl (c : B) (k : Nat) : c <<< (k + 8) = c <<< k <<< 8 := by rw [BitVec.shiftLeft_add]

/-- Four bytes as a number, the lowest first. -/
def quad (a b c d : UInt8) : B := wide a ^^^ wide b <<< 8 ^^^ wide c <<< 16 ^^^ wide d <<< 24
def tri (a b c : UInt8) : B := wide a ^^^ wide b <<< 8 ^^^ wide c <<< 16

theorem z1 (c : UInt8) : Z (wide c <<< 8) = wide c := Z_shl _ (by have := wide_lt c; omega)
theorem z2 (c : UInt8) : Z (wide c <<< 16) = wide c <<< 8 := by
  rw [show (16 : Nat) = 8 + 8 from rfl, shl_shl]
  exact Z_shl _ (by have := shl_lt _ 8 65536 (wide_lt c) rfl; omega)
theorem z3 (c : UInt8) : Z (wide c <<< 24) = wide c <<< 16 := by
  rw [show (24 : Nat) = 16 + 8 from rfl, shl_shl]
  exact Z_shl _ (by have := shl_lt _ 16 16777216 (wide_lt c) rfl; omega)

theorem run_quad (x : B) (a b c d : UInt8) : run x [a, b, c, d] = Z (Z (Z (Z (x ^^^ quad a b c d)))) := by
  simp only [run, List.foldl_cons, List.foldl_nil, byteStep, quad, Z_xor, z1, z2, z3]
  ac_rfl
theorem run_tri (x : B) (a b c : UInt8) : run x [a, b, c] = Z (Z (Z (x ^^^ tri a b c))) := by
  simp only [run, List.foldl_cons, List.foldl_nil, byteStep, tri, Z_xor, z1, z2]
  ac_rfl
theorem quad_xor (a b c d a' b' c' d' : UInt8) : quad (a ^^^ a') (b ^^^ b') (c ^^^ c') (d ^^^ d') = quad a b c d ^^^ quad a' b' c' d' := by
  unfold quad
  rw [wide_xor, wide_xor, wide_xor, wide_xor, BitVec.shiftLeft_xor_distrib, BitVec.shiftLeft_xor_distrib, BitVec.shiftLeft_xor_distrib]
  generalize wide a = A
  generalize wide a' = A'
  generalize wide b <<< 8 = X
  generalize wide b' <<< 8 = X'
  generalize wide c <<< 16 = C
  generalize wide c' <<< 16 = C'
  generalize wide d <<< 24 = D
  generalize wide d' <<< 24 = D'
  ac_rfl

/-- The byte at a place of a number. -/
def byteAt (v : B) (k : Nat) : UInt8 := UInt8.ofBitVec ((v >>> k).setWidth 8)
theorem wide_byteAt (v : B) (k : Nat) : wide (byteAt v k) = (v >>> k) &&& 255#32 := by
  apply BitVec.eq_of_toNat_eq
  have h : (v >>> k).toNat % 256 = (v >>> k).toNat &&& 255 := by
    have := Nat.and_two_pow_sub_one_eq_mod (v >>> k).toNat 8
    simpa using this.symm
  have h2 : (255 : Nat) % 2 ^ 32 = 255 := by decide
  simp only [wide, byteAt, BitVec.toNat_setWidth, BitVec.toNat_and, BitVec.toNat_ofNat, h2]
  omega
theorem quad_bytes (v : B) : quad (byteAt v 0) (byteAt v 8) (byteAt v 16) (byteAt v 24) = v := by
  unfold quad
  simp only [wide_byteAt]
  apply BitVec.eq_of_getLsbD_eq
  intro i hi
  simp only [BitVec.getLsbD_xor, BitVec.getLsbD_shiftLeft, BitVec.getLsbD_and, BitVec.getLsbD_ushiftRight]
  have h255 : ∀ j, (255#32).getLsbD j = decide (j < 8) := by
    intro j
    by_cases hj : j < 32
    · have : ∀ j : Fin 32, (255#32).getLsbD j = decide ((j : Nat) < 8) := by decide
      exact this ⟨j, hj⟩
    · rw [BitVec.getLsbD_of_ge _ _ (by omega)]
      simp; omega
  simp only [h255, hi, decide_true, Bool.true_and]
  rcases (show i < 8 ∨ (8 ≤ i ∧ i < 16) ∨ (16 ≤ i ∧ i < 24) ∨ (24 ≤ i ∧ i < 32) by omega) with h | h | h | h
  · simp [show i < 8 by omega, show i < 16 by omega, show i < 24 by omega]
  · simp [show ¬ i < 8 by omega, show i < 16 by omega, show i < 24 by omega, show i - 8 < 8 by omega, show 8 + (i - 8) = i by omega]
  · simp [show ¬ i < 8 by omega, show ¬ i < 16 by omega, show i < 24 by omega, show ¬ i - 8 < 8 by omega, show i - 16 < 8 by omega, show 16 + (i - 16) = i by omega]
  · simp [show ¬ i < 8 by omega, show ¬ i < 16 by omega, show ¬ i < 24 by omega, show ¬ i - 8 < 8 by omega, show ¬ i - 16 < 8 by omega, show i - 24 < 8 by omega, show 24 + (i - 24) = i by omega]
theorem tri_bytes (v : B) : tri (byteAt v 0) (byteAt v 8) (byteAt v 16) = v &&& 16777215#32 := by
  unfold tri
  simp only [wide_byteAt]
  apply BitVec.eq_of_getLsbD_eq
  intro i hi
  simp only [BitVec.getLsbD_xor, BitVec.getLsbD_shiftLeft, BitVec.getLsbD_and, BitVec.getLsbD_ushiftRight]
  have h255 : ∀ j, (255#32).getLsbD j = decide (j < 8) := by
    intro j
    by_cases hj : j < 32
    · have : ∀ j : Fin 32, (255#32).getLsbD j = decide ((j : Nat) < 8) := by decide
      exact this ⟨j, hj⟩
    · rw [BitVec.getLsbD_of_ge _ _ (by omega)]
      simp; omega
  have hm : ∀ j, (16777215#32).getLsbD j = decide (j < 24) := by
    intro j
    by_cases hj : j < 32
    · have : ∀ j : Fin 32, (16777215#32).getLsbD j = decide ((j : Nat) < 24) := by decide
      exact this ⟨j, hj⟩
    · rw [BitVec.getLsbD_of_ge _ _ (by omega)]
      simp; omega
  simp only [h255, hm, hi, decide_true, Bool.true_and]
  rcases (show i < 8 ∨ (8 ≤ i ∧ i < 16) ∨ (16 ≤ i ∧ i < 24) ∨ (24 ≤ i ∧ i < 32) by omega) with h | h | h | h
  · simp [show i < 8 by omega, show i < 16 by omega, show i < 24 by omega]
  · simp [show ¬ i < 8 by omega, show i < 16 by omega, show i < 24 by omega, show i - 8 < 8 by omega, show 8 + (i - 8) = i by omega]
  · simp [show ¬ i < 8 by omega, show ¬ i < 16 by omega, show i < 24 by omega, show ¬ i - 8 < 8 by omega, show i - 16 < 8 by omega, show 16 + (i - 16) = i by omega]
  · simp [show ¬ i < 8 by omega, show ¬ i < 16 by omega, show ¬ i < 24 by omega, show ¬ i - 8 < 8 by omega, show ¬ i - 16 < 8 by omega]

theorem Z4_inj {x y : B} (h : Z (Z (Z (Z x))) = Z (Z (Z (Z y)))) : x = y := Z_inj (Z_inj (Z_inj (Z_inj h)))
theorem Z3_inj {x y : B} (h : Z (Z (Z x)) = Z (Z (Z y))) : x = y := Z_inj (Z_inj (Z_inj h))
theorem xor_left_inj {x y z : B} (h : x ^^^ y = x ^^^ z) : y = z := by
  have : x ^^^ (x ^^^ y) = x ^^^ (x ^^^ z) := by rw [h]
  rwa [← BitVec.xor_assoc, ← BitVec.xor_assoc, BitVec.xor_self, BitVec.zero_xor, BitVec.zero_xor] at this

/-- CrcChanges: four bytes that are changed. -/
theorem changes (p r : List UInt8) (a b c d : UInt8) (v : B) :
    (sum (p ++ [a ^^^ byteAt v 0, b ^^^ byteAt v 8, c ^^^ byteAt v 16, d ^^^ byteAt v 24] ++ r) = sum (p ++ [a, b, c, d] ++ r)) ↔ v = 0#32 := by
  constructor
  · intro h
    rw [sum_append, sum_append, sum_append, sum_append] at h
    have h1 := more_inj r h
    unfold more at h1
    have h2 := not_inj h1
    rw [run_quad, run_quad, quad_xor, quad_bytes] at h2
    have h3 := xor_left_inj (Z4_inj h2)
    have h4 : quad a b c d ^^^ v = quad a b c d ^^^ 0#32 := by rw [h3, BitVec.xor_zero]
    exact xor_left_inj h4
  · rintro rfl
    have e : ∀ k, byteAt 0#32 k = 0 := by
      intro k
      simp only [byteAt, BitVec.zero_ushiftRight]
      rfl
    rw [e, e, e, e]
    simp

/-- The bytes l with the first k of four from p on changed. -/
def chg (l : List UInt8) (p : Nat) (v : B) : Nat → List UInt8
  | 0 => l
  | k + 1 => (chg l p v k).set (p + k) ((chg l p v k).getD (p + k) 0 ^^^ byteAt v (8 * k))
theorem chg_len (l : List UInt8) (p : Nat) (v : B) (k : Nat) : (chg l p v k).length = l.length := by
  induction k with
  | zero => rfl
  | succ k ih => simp [chg, ih]
theorem chg_append (pre q : List UInt8) (v : B) (k : Nat) : chg (pre ++ q) pre.length v k = pre ++ chg q 0 v k := by
  induction k with
  | zero => rfl
  | succ k ih =>
    simp only [chg, ih, Nat.zero_add]
    rw [List.set_append_right _ _ (by omega)]
    simp [List.getElem?_append_right]
theorem chg_four (l : List UInt8) (p : Nat) (hp : p + 4 ≤ l.length) (v : B) : (sum (chg l p v 4) = sum l) ↔ v = 0#32 := by
  have hl : l = l.take p ++ l.drop p := (List.take_append_drop p l).symm
  have hlen : (l.take p).length = p := by rw [List.length_take]; omega
  have hd : 4 ≤ (l.drop p).length := by rw [List.length_drop]; omega
  generalize l.take p = pre at hl hlen
  generalize l.drop p = q at hl hd
  subst hl hlen
  match q, hd with
  | a :: b :: c :: d :: r, _ =>
    rw [chg_append]
    have h1 : chg (a :: b :: c :: d :: r) 0 v 4 = [a ^^^ byteAt v 0, b ^^^ byteAt v 8, c ^^^ byteAt v 16, d ^^^ byteAt v 24] ++ r := rfl
    have h2 : a :: b :: c :: d :: r = [a, b, c, d] ++ r := rfl
    rw [h1, h2, ← List.append_assoc, ← List.append_assoc]
    exact changes pre r a b c d v

/-- CrcEnds: bytes with their own sum behind them. -/
theorem ends (l : List UInt8) : sum (l ++ [byteAt (sum l) 0, byteAt (sum l) 8, byteAt (sum l) 16, byteAt (sum l) 24]) = 558161692#32 := by
  rw [sum_append]
  unfold more
  rw [run_quad, quad_bytes]
  have h : ~~~ sum l ^^^ sum l = BitVec.allOnes 32 := by
    rw [← BitVec.allOnes_xor, BitVec.xor_assoc, BitVec.xor_self, BitVec.xor_zero]
  rw [h]
  decide +kernel

/-- CrcCut: three bytes between. -/
theorem cut (s x y : B) (r : List UInt8) :
    (more (more s [byteAt x 0, byteAt x 8, byteAt x 16]) r = more (more s [byteAt y 0, byteAt y 8, byteAt y 16]) r) ↔ x &&& 16777215#32 = y &&& 16777215#32 := by
  constructor
  · intro h
    have h1 := more_inj r h
    unfold more at h1
    have h2 := not_inj h1
    rw [run_tri, run_tri, tri_bytes, tri_bytes] at h2
    exact xor_left_inj (Z3_inj h2)
  · intro h
    have h1 : more s [byteAt x 0, byteAt x 8, byteAt x 16] = more s [byteAt y 0, byteAt y 8, byteAt y 16] := by
      unfold more
      rw [run_tri, run_tri, tri_bytes, tri_bytes, h]
    rw [h1]

/-- CrcApart: the differences of three rows. -/
def xor3 : List UInt8 → List UInt8 → List UInt8 → List UInt8
  | a :: as_, b :: bs, c :: cs => (a ^^^ b ^^^ c) :: xor3 as_ bs cs
  | _, _, _ => []
/-- The differences of three rows, as far as k. -/
theorem xor3_take (a b c : List UInt8) (k : Nat) (ha : k < a.length) (hb : k < b.length) (hc : k < c.length) :
    xor3 (a.take (k + 1)) (b.take (k + 1)) (c.take (k + 1)) = xor3 (a.take k) (b.take k) (c.take k) ++ [a[k] ^^^ b[k] ^^^ c[k]] := by
  induction k generalizing a b c with
  | zero =>
    match a, b, c, ha, hb, hc with
    | x :: a, y :: b, z :: c, _, _, _ => rfl
  | succ k ih =>
    cases a with
    | nil => simp at ha
    | cons x a =>
      cases b with
      | nil => simp at hb
      | cons y b =>
        cases c with
        | nil => simp at hc
        | cons z c =>
          simp only [List.take_succ_cons, xor3, List.cons_append, List.getElem_cons_succ]
          rw [ih a b c (by simpa using ha) (by simpa using hb) (by simpa using hc)]
theorem xor3_len (a b c : List UInt8) (k : Nat) (ha : a.length = k) (hb : b.length = k) (hc : c.length = k) : (xor3 a b c).length = k := by
  induction a generalizing b c k with
  | nil => simpa [xor3] using ha
  | cons x a ih =>
    match b, c, hb, hc with
    | [], _, hb, _ => simp at ha hb; omega
    | _ :: _, [], _, hc => simp at ha hc; omega
    | y :: b, z :: c, hb, hc =>
      simp only [xor3, List.length_cons] at *
      rw [ih b c (k - 1) (by omega) (by omega) (by omega)]
      omega
theorem xor3_set (a b c : List UInt8) (k n : Nat) (ha : k < a.length) (hb : k < b.length) (hc : k < c.length) (hn : k < n) :
    (xor3 (a.take k) (b.take k) (c.take k) ++ List.replicate (n - k) 0).set k (a[k] ^^^ b[k] ^^^ c[k]) = xor3 (a.take (k + 1)) (b.take (k + 1)) (c.take (k + 1)) ++ List.replicate (n - (k + 1)) 0 := by
  have hl := xor3_len (a.take k) (b.take k) (c.take k) k (by simp; omega) (by simp; omega) (by simp; omega)
  rw [xor3_take a b c k ha hb hc, List.set_append_right _ _ (by omega), hl, Nat.sub_self]
  obtain ⟨m, hm⟩ : ∃ m, n - k = m + 1 := ⟨n - k - 1, by omega⟩
  rw [hm, show n - (k + 1) = m by omega, List.replicate_succ, List.set_cons_zero]
  simp
theorem run_xor3 : ∀ (a b c : List UInt8) (x y z : B), a.length = b.length → b.length = c.length → run (x ^^^ y ^^^ z) (xor3 a b c) = run x a ^^^ run y b ^^^ run z c
  | [], [], [], _, _, _, _, _ => rfl
  | a :: as_, b :: bs, c :: cs, x, y, z, h1, h2 => by
    simp only [xor3, run_cons]
    have : byteStep (x ^^^ y ^^^ z) (a ^^^ b ^^^ c) = byteStep x a ^^^ byteStep y b ^^^ byteStep z c := by
      unfold byteStep
      rw [← Z_xor, ← Z_xor, wide_xor, wide_xor]
      congr 1
      ac_rfl
    rw [this]
    exact run_xor3 as_ bs cs _ _ _ (by simpa using h1) (by simpa using h2)
  | [], _ :: _, _, _, _, _, h, _ => by simp at h
  | _ :: _, [], _, _, _, _, h, _ => by simp at h
  | [], [], _ :: _, _, _, _, _, h => by simp at h
  | _ :: _, _ :: _, [], _, _, _, _, h => by simp at h
theorem not_xor3 (x y z : B) : ~~~ (x ^^^ y ^^^ z) = ~~~ x ^^^ ~~~ y ^^^ ~~~ z := by
  rw [← BitVec.allOnes_xor, ← BitVec.allOnes_xor, ← BitVec.allOnes_xor, ← BitVec.allOnes_xor]
  have : BitVec.allOnes 32 ^^^ x ^^^ (BitVec.allOnes 32 ^^^ y) ^^^ (BitVec.allOnes 32 ^^^ z) = (BitVec.allOnes 32 ^^^ BitVec.allOnes 32) ^^^ (BitVec.allOnes 32 ^^^ (x ^^^ y ^^^ z)) := by ac_rfl
  rw [this, BitVec.xor_self, BitVec.zero_xor]
theorem apart (a b c : List UInt8) (h1 : a.length = b.length) (h2 : b.length = c.length) : sum (xor3 a b c) = sum a ^^^ sum b ^^^ sum c := by
  unfold sum more
  rw [← not_xor3, ← run_xor3 a b c _ _ _ h1 h2]
  congr 2

/-- CrcNoughts. -/
theorem zeros_ne (n : Nat) : sum (List.replicate (n + 1) 0) ≠ sum (List.replicate n 0) := by
  intro h
  have e : List.replicate (n + 1) (0 : UInt8) = [0] ++ List.replicate n 0 := rfl
  rw [e, sum_append] at h
  unfold sum at h
  have := more_inj _ h
  exact absurd this (by decide +kernel)
theorem noughts_ne (n : Nat) (l : List UInt8) : more (sum (List.replicate n 0)) l ≠ more (sum (List.replicate (n + 1) 0)) l := fun h => zeros_ne n (more_inj l h).symm

/-- CrcTurned. -/
def lin : Nat → B → B
  | 0, x => x
  | k + 1, x => lin k (Z x)
theorem lin_xor (k : Nat) (x y : B) : lin k (x ^^^ y) = lin k x ^^^ lin k y := by
  induction k generalizing x y with
  | zero => rfl
  | succ k ih => simp only [lin, Z_xor, ih]
theorem lin_Z (k : Nat) (x : B) : lin k (Z x) = Z (lin k x) := by
  induction k generalizing x with
  | zero => rfl
  | succ k ih => simp only [lin, ih]
theorem run_diff (l : List UInt8) (x y : B) : run x l ^^^ run y l = lin l.length (x ^^^ y) := by
  induction l generalizing x y with
  | nil => rfl
  | cons c l ih =>
    simp only [run_cons, List.length_cons, lin, ih]
    congr 1
    unfold byteStep
    rw [← Z_xor]
    congr 1
    have : x ^^^ wide c ^^^ (y ^^^ wide c) = (wide c ^^^ wide c) ^^^ (x ^^^ y) := by ac_rfl
    rw [this, BitVec.xor_self, BitVec.zero_xor]
theorem small_ne : ∀ k : Fin 3, ∀ d : BitVec 8, d ≠ 0#8 → lin (k + 1) (d.setWidth 32) ≠ d.setWidth 32 := by decide +kernel
theorem turned (x y : UInt8) (l : List UInt8) (hl : l.length ≤ 2) : more (more (sum [x]) l) [y] = more (more (sum [y]) l) [x] → x = y := by
  intro h
  unfold sum at h
  rw [more_append, more_append, more_append, more_append] at h
  unfold more at h
  have h1 := not_inj h
  simp only [run_append] at h1
  have hd : run (run (~~~0#32) [x]) l ^^^ run (run (~~~0#32) [y]) l = lin (l.length + 1) (wide x ^^^ wide y) := by
    rw [run_diff]
    simp only [lin]
    congr 1
    simp only [run_cons, run_nil]
    unfold byteStep
    rw [← Z_xor]
    congr 1
    have : ~~~0#32 ^^^ wide x ^^^ (~~~0#32 ^^^ wide y) = (~~~0#32 ^^^ ~~~0#32) ^^^ (wide x ^^^ wide y) := by ac_rfl
    rw [this, BitVec.xor_self, BitVec.zero_xor]
  generalize run (run (~~~0#32) [x]) l = p at h1 hd
  generalize run (run (~~~0#32) [y]) l = q at h1 hd
  simp only [run_cons, run_nil] at h1
  unfold byteStep at h1
  have h2 : p ^^^ wide y = q ^^^ wide x := Z_inj h1
  have h3 : p ^^^ q = wide x ^^^ wide y := by
    have e : (p ^^^ wide y) ^^^ (q ^^^ wide x) = (p ^^^ q) ^^^ (wide x ^^^ wide y) := by ac_rfl
    rw [h2, BitVec.xor_self] at e
    exact xor_eq_zero.1 e.symm
  rw [h3, ← wide_xor] at hd
  have h4 := small_ne ⟨l.length, by omega⟩ (x ^^^ y).toBitVec
  by_cases hz : (x ^^^ y).toBitVec = 0#8
  · have h5 : x.toBitVec ^^^ y.toBitVec = 0#8 := by simpa using hz
    have h6 : x.toBitVec ^^^ y.toBitVec ^^^ y.toBitVec = 0#8 ^^^ y.toBitVec := by rw [h5]
    rw [BitVec.xor_assoc, BitVec.xor_self, BitVec.xor_zero, BitVec.zero_xor] at h6
    exact UInt8.toBitVec_inj.1 h6
  · exact absurd hd.symm (h4 hz)
end Go.Proofs.YtnbcnhhonleepaaDoor.M
