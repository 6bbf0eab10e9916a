/- Plain mathematics of nodes: which are right, and what bytes tell them. No program in sight. -/
import Derived.Test.YtmjknaldpeoheaaLe
namespace Go.Proofs.Ytmjknaldpeoheaa.O

/-- How many blocks so many bytes need. -/
def blk (s : Int) : Nat := (cl s 122880 + 479) / 480
theorem blk_le (s : Int) : blk s ≤ 256 := by have := cl_le s 122880; unfold blk; omega

/-- A pointer, or 0. -/
def ptrOk (p : Int) : Bool := decide (0 ≤ p ∧ p < 3840)
/-- A node: kind, links, size, sixteen pointers, row. -/
def nd (k l s : Int) (D : List Int) (r : Int) : List Int := k :: l :: s :: (D ++ [r])
def emptyFrom (b : Nat) (D : List Int) : Bool := (D.drop b).all (fun p => p == 0)
theorem emptyFrom_of (b : Nat) (D : List Int) (h : ∀ i, i < D.length → b ≤ i → D.getD i 0 = 0) : emptyFrom b D = true := by
  unfold emptyFrom
  rw [List.all_eq_true]
  intro x hx
  obtain ⟨i, hi, rfl⟩ := List.getElem_of_mem hx
  rw [List.length_drop] at hi
  have := h (b + i) (by omega) (by omega)
  rw [List.getElem_drop]
  have hlt : b + i < D.length := by omega
  simpa [hlt] using this
theorem emptyFrom_not (b : Nat) (D : List Int) (i : Nat) (hi : i < D.length) (hb : b ≤ i) (h : D.getD i 0 ≠ 0) : emptyFrom b D = false := by
  rw [← Bool.not_eq_true]
  unfold emptyFrom
  rw [List.all_eq_true]
  intro h2
  have h3 := h2 (D[i]) (by rw [List.mem_iff_getElem]; exact ⟨i - b, by rw [List.length_drop]; omega, by rw [List.getElem_drop]; congr 1; omega⟩)
  apply h
  simpa [hi] using h3
def right (k l s : Int) (D : List Int) (r : Int) : Bool :=
  (k == 1 || k == 2) && decide (0 ≤ l ∧ l ≤ 65535) && decide (0 ≤ s ∧ s ≤ 122880) && D.all ptrOk && ptrOk r && (decide (16 < blk s) || r == 0) && emptyFrom (blk s) D

theorem nd_length (k l s : Int) (D : List Int) (r : Int) (h : D.length = 16) : (nd k l s D r).length = 20 := by simp [nd, h]
theorem nd0 (k l s : Int) (D : List Int) (r : Int) : (nd k l s D r)[0]? = some k := rfl
theorem nd1 (k l s : Int) (D : List Int) (r : Int) : (nd k l s D r)[1]? = some l := rfl
theorem nd2 (k l s : Int) (D : List Int) (r : Int) : (nd k l s D r)[2]? = some s := rfl
theorem nd19 (k l s : Int) (D : List Int) (r : Int) (h : D.length = 16) : (nd k l s D r)[19]? = some r := by
  simp only [nd, List.getElem?_cons_succ]
  rw [List.getElem?_append_right (by omega), h]
  rfl
theorem nd_mid (k l s : Int) (D : List Int) (r : Int) (h : D.length = 16) : D = ((nd k l s D r).drop 3).take 16 := by
  simp only [nd, List.drop_succ_cons, List.drop_zero]
  rw [← h, List.take_left]
theorem nd_ptr (k l s : Int) (D : List Int) (r : Int) (h : D.length = 16) (i : Nat) (hi : i < 16) : (nd k l s D r)[3 + i]? = some (D.getD i 0) := by
  rw [Nat.add_comm]
  simp only [nd, List.getElem?_cons_succ]
  rw [List.getElem?_append_left (by omega), List.getElem?_eq_getElem (by omega)]
  simp [h, hi]
/-- Every row of twenty is a node. -/
theorem nd_of (N : List Int) (h : N.length = 20) : ∃ k l s D r, D.length = 16 ∧ N = nd k l s D r := by
  match N, h with
  | [k, l, s, a0, a1, a2, a3, a4, a5, a6, a7, a8, a9, a10, a11, a12, a13, a14, a15, r], _ =>
    exact ⟨k, l, s, [a0, a1, a2, a3, a4, a5, a6, a7, a8, a9, a10, a11, a12, a13, a14, a15], r, rfl, rfl⟩
theorem nd_inj {k l s r k' l' s' r' : Int} {D D' : List Int} (hD : D.length = 16) (hD' : D'.length = 16) : nd k l s D r = nd k' l' s' D' r' ↔ k = k' ∧ l = l' ∧ s = s' ∧ D = D' ∧ r = r' := by
  unfold nd
  simp only [List.cons.injEq]
  constructor
  · rintro ⟨h1, h2, h3, h4⟩
    obtain ⟨h5, h6⟩ := List.append_inj h4 (by omega)
    simp at h6
    exact ⟨h1, h2, h3, h5, h6⟩
  · rintro ⟨rfl, rfl, rfl, rfl, rfl⟩
    exact ⟨rfl, rfl, rfl, rfl⟩

/-- The bytes of pointers, two each. -/
def le2s : List Int → List UInt8
  | [] => []
  | p :: D => le 2 p.toNat ++ le2s D
theorem le2s_length (D : List Int) : (le2s D).length = 2 * D.length := by
  induction D with
  | nil => rfl
  | cons p D ih => simp only [le2s, List.length_append, le_length, ih, List.length_cons]; omega
theorem le2s_append (D E : List Int) : le2s (D ++ E) = le2s D ++ le2s E := by
  induction D with
  | nil => rfl
  | cons p D ih => simp only [List.cons_append, le2s, ih, List.append_assoc]
/-- The bytes of a node. -/
def told (k l s : Int) (D : List Int) (r : Int) : List UInt8 := le 1 k.toNat ++ le 2 l.toNat ++ le 4 s.toNat ++ le2s D ++ le2s [r]
def enc (k l s : Int) (D : List Int) (r : Int) : List UInt8 := field (told k l s D r) 480
theorem told_length (k l s : Int) (D : List Int) (r : Int) (h : D.length = 16) : (told k l s D r).length = 41 := by
  simp [told, le_length, le2s_length, h]

/-- Numbers of two bytes each. -/
def nums2 (l : List UInt8) : Nat → List Int
  | 0 => []
  | n + 1 => ((num (l.take 2) : Nat) : Int) :: nums2 (l.drop 2) n
theorem nums2_length (l : List UInt8) (n : Nat) : (nums2 l n).length = n := by
  induction n generalizing l with
  | zero => rfl
  | succ n ih => simp [nums2, ih]
theorem nums2_snoc (l : List UInt8) (n : Nat) : nums2 l (n + 1) = nums2 l n ++ [((num ((l.drop (2 * n)).take 2) : Nat) : Int)] := by
  induction n generalizing l with
  | zero => rfl
  | succ n ih =>
    rw [nums2, ih (l.drop 2)]
    conv => rhs; rw [nums2]
    rw [List.drop_drop, List.cons_append, show 2 + 2 * n = 2 * (n + 1) by omega]
/-- A row, some of it written over. -/
def over (N : List Int) (off : Nat) (vs : List Int) : List Int := N.take off ++ vs ++ N.drop (off + vs.length)
theorem over_length (N : List Int) (off : Nat) (vs : List Int) (h : off + vs.length ≤ N.length) : (over N off vs).length = N.length := by
  simp only [over, List.length_append, List.length_take, List.length_drop]
  omega
theorem over_nil (N : List Int) (off : Nat) : over N off [] = N := by simp [over]
theorem over_snoc (N : List Int) (off : Nat) (vs : List Int) (x : Int) (h : off + vs.length < N.length) : (over N off vs).set (off + vs.length) x = over N off (vs ++ [x]) := by
  unfold over
  have h1 : (N.take off ++ vs).length = off + vs.length := by simp; omega
  rw [List.set_append_right _ _ (by omega), h1, Nat.sub_self, List.drop_eq_getElem_cons h, List.set_cons_zero]
  simp [Nat.add_assoc]
theorem num2_lt (l : List UInt8) : num (l.take 2) < 65536 := by
  have h := num_lt (l.take 2)
  have h2 : (l.take 2).length ≤ 2 := by simp; omega
  have h3 : 256 ^ (l.take 2).length ≤ 256 ^ 2 := Nat.pow_le_pow_right (by omega) h2
  have : 256 ^ 2 = 65536 := by decide
  omega

/-- The node that has nothing. -/
def zeroN : List Int := nd 0 0 0 (List.replicate 16 0) 0
def some8 (l : List UInt8) : Bool := l.any (fun c => c != 0)
def dK (l : List UInt8) : Int := ((num (l.take 1) : Nat) : Int)
def dL (l : List UInt8) : Int := ((num ((l.drop 1).take 2) : Nat) : Int)
def dS (l : List UInt8) : Int := ((num ((l.drop 3).take 4) : Nat) : Int)
def dD (l : List UInt8) : List Int := nums2 (l.drop 7) 16
def dR (l : List UInt8) : Int := ((num ((l.drop 39).take 2) : Nat) : Int)
/-- The node that bytes tell, if they tell one. -/
def decOk (l : List UInt8) : Bool := decide (l.length = 480) && right (dK l) (dL l) (dS l) (dD l) (dR l) && !some8 (l.drop 41)
def decN (l : List UInt8) : List Int := if decOk l then nd (dK l) (dL l) (dS l) (dD l) (dR l) else zeroN
def decE (l : List UInt8) : Int := if decOk l then 0 else 4
theorem dD_length (l : List UInt8) : (dD l).length = 16 := nums2_length _ _
theorem decN_length (l : List UInt8) : (decN l).length = 20 := by
  unfold decN
  split
  · exact nd_length _ _ _ _ _ (dD_length l)
  · rfl
theorem nd_over (k l s : Int) (Z D : List Int) (r : Int) (hZ : Z.length = 16) (hD : D.length = 16) : over (nd k l s Z r) 3 D = nd k l s D r := by
  unfold over nd
  rw [hD, List.drop_succ_cons, List.drop_succ_cons, List.drop_succ_cons, List.take_succ_cons, List.take_succ_cons, List.take_succ_cons, List.take_zero]
  have h2 : (Z ++ [r]).drop (3 + 13) = [r] := by
    rw [show 3 + 13 = Z.length from hZ.symm, List.drop_left]
  rw [h2]
  rfl
theorem nd_set19 (k l s : Int) (D : List Int) (r x : Int) (hD : D.length = 16) : (nd k l s D r).set 19 x = nd k l s D x := by
  unfold nd
  simp only [List.set_cons_succ]
  rw [List.set_append_right _ _ (by omega), hD]
  rfl

theorem cl_add (s a K : Nat) : cl ((s : Int) + (a : Int)) K = min (s + a) K := by unfold cl; omega
theorem blk_of (s : Nat) (h : s ≤ 122880) : blk (s : Int) = (s + 479) / 480 := by
  unfold blk
  rw [cl_of s 122880 h]
theorem blk_more (s : Nat) (h : s ≤ 122880) : blk ((s : Int) + ((480 : Nat) : Int)) = min ((s + 479) / 480 + 1) 256 := by
  unfold blk
  rw [cl_add]
  generalize hK : (122880 : Nat) = K at *
  have e : K = 256 * 480 := hK.symm
  omega
end Go.Proofs.Ytmjknaldpeoheaa.O
