/- Plain mathematics of nodes, on: what is told is read as it was. No program in sight. -/
import Derived.Test.YtmjknaldpeoheaaInoM
namespace Go.Proofs.Ytmjknaldpeoheaa.O

/-- The right nodes. -/
theorem right_len {k l s r : Int} {D : List Int} (h : right k l s D r = true) : (k = 1 ∨ k = 2) ∧ (0 ≤ l ∧ l ≤ 65535) ∧ (0 ≤ s ∧ s ≤ 122880) ∧ (∀ p ∈ D, 0 ≤ p ∧ p ≤ 3839) ∧ (0 ≤ r ∧ r ≤ 3839) := by
  unfold right at h
  simp only [Bool.and_eq_true, Bool.or_eq_true, beq_iff_eq, decide_eq_true_eq, List.all_eq_true] at h
  obtain ⟨⟨⟨⟨⟨⟨h1, h2⟩, h3⟩, h4⟩, h5⟩, -⟩, -⟩ := h
  refine ⟨h1, h2, h3, fun p hp => ?_, ?_⟩
  · have := h4 p hp
    simp [ptrOk] at this
    omega
  · simp [ptrOk] at h5
    omega
theorem num_le_of (k x : Nat) (h : x < 256 ^ k) : num (le k x) = x := by rw [num_le, Nat.mod_eq_of_lt h]
theorem nums2_le2s (D : List Int) (hD : ∀ p ∈ D, 0 ≤ p ∧ p ≤ 65535) (rest : List UInt8) : nums2 (le2s D ++ rest) D.length = D := by
  induction D with
  | nil => rfl
  | cons p D ih =>
    obtain ⟨h1, h2⟩ := hD p (by simp)
    simp only [List.length_cons, nums2, le2s]
    have e1 : ((le 2 p.toNat ++ le2s D) ++ rest).take 2 = le 2 p.toNat := by
      rw [List.append_assoc, List.take_append_of_le_length (by rw [le_length]; omega), List.take_of_length_le (by rw [le_length]; omega)]
    have e2 : ((le 2 p.toNat ++ le2s D) ++ rest).drop 2 = le2s D ++ rest := by
      rw [List.append_assoc, List.drop_append, List.drop_of_length_le (by rw [le_length]; omega), le_length]
      simp
    rw [e1, e2, ih (fun q hq => hD q (by simp [hq])), num_le_of 2 _ (by omega)]
    congr 1
    omega
/-- A node's bytes, part by part. -/
theorem enc_eq {k l s r : Int} {D : List Int} (hD : D.length = 16) : enc k l s D r = le 1 k.toNat ++ (le 2 l.toNat ++ (le 4 s.toNat ++ (le2s D ++ (le 2 r.toNat ++ List.replicate 439 0)))) := by
  unfold enc field
  rw [told_length _ _ _ _ _ hD, List.take_of_length_le (by rw [told_length _ _ _ _ _ hD]; omega)]
  unfold told
  have e : le2s [r] = le 2 r.toNat := by simp [le2s]
  have e2 : List.replicate (480 - 41) (0 : UInt8) = List.replicate 439 0 := rfl
  rw [e, e2]
  generalize List.replicate 439 (0 : UInt8) = z
  simp only [List.append_assoc]
theorem drop_left' {α : Type} (a b : List α) (n m : Nat) (h : a.length = n) : (a ++ b).drop (n + m) = b.drop m := by
  subst h
  rw [← List.drop_drop, List.drop_left]
theorem take_left' {α : Type} (a b : List α) (n : Nat) (h : a.length = n) : (a ++ b).take n = a := by
  subst h
  exact List.take_left ..
theorem dec_enc {k l s r : Int} {D : List Int} (hD : D.length = 16) (h : right k l s D r = true) :
    dK (enc k l s D r) = k ∧ dL (enc k l s D r) = l ∧ dS (enc k l s D r) = s ∧ dD (enc k l s D r) = D ∧ dR (enc k l s D r) = r ∧ (enc k l s D r).drop 41 = List.replicate 439 0 := by
  obtain ⟨hk, hl, hs, hDb, hr⟩ := right_len h
  rw [enc_eq hD]
  have p1 : 256 ^ 1 = 256 := by decide
  have p2 : 256 ^ 2 = 65536 := by decide
  have p4 : 256 ^ 4 = 4294967296 := by decide
  have l1 := le_length 1 k.toNat
  have l2 := le_length 2 l.toNat
  have l3 := le_length 4 s.toNat
  have l4 : (le2s D).length = 32 := by rw [le2s_length, hD]
  have l5 := le_length 2 r.toNat
  refine ⟨?_, ?_, ?_, ?_, ?_, ?_⟩
  · unfold dK
    rw [take_left' _ _ 1 l1, num_le_of 1 _ (by omega)]
    omega
  · unfold dL
    rw [show (1 : Nat) = 1 + 0 from rfl, drop_left' _ _ 1 0 l1, List.drop_zero, take_left' _ _ 2 l2, num_le_of 2 _ (by omega)]
    omega
  · unfold dS
    rw [show (3 : Nat) = 1 + 2 from rfl, drop_left' _ _ 1 2 l1, show (2 : Nat) = 2 + 0 from rfl, drop_left' _ _ 2 0 l2, List.drop_zero, take_left' _ _ 4 l3, num_le_of 4 _ (by omega)]
    omega
  · unfold dD
    rw [show (7 : Nat) = 1 + (2 + (4 + 0)) from rfl, drop_left' _ _ 1 _ l1, drop_left' _ _ 2 _ l2, drop_left' _ _ 4 _ l3, List.drop_zero]
    have := nums2_le2s D (fun p hp => by have := hDb p hp; omega) (le 2 r.toNat ++ List.replicate 439 0)
    rwa [hD] at this
  · unfold dR
    rw [show (39 : Nat) = 1 + (2 + (4 + (32 + 0))) from rfl, drop_left' _ _ 1 _ l1, drop_left' _ _ 2 _ l2, drop_left' _ _ 4 _ l3, drop_left' _ _ 32 _ l4, List.drop_zero, take_left' _ _ 2 l5, num_le_of 2 _ (by omega)]
    omega
  · rw [show (41 : Nat) = 1 + (2 + (4 + (32 + (2 + 0)))) from rfl, drop_left' _ _ 1 _ l1, drop_left' _ _ 2 _ l2, drop_left' _ _ 4 _ l3, drop_left' _ _ 32 _ l4, drop_left' _ _ 2 _ l5, List.drop_zero]
theorem some8_zero (n : Nat) : some8 (List.replicate n 0) = false := by
  rw [← Bool.not_eq_true]
  unfold some8
  rw [List.any_eq_true]
  rintro ⟨x, hx, h⟩
  rw [List.eq_of_mem_replicate hx] at h
  cases h
theorem decOk_enc {k l s r : Int} {D : List Int} (hD : D.length = 16) (h : right k l s D r = true) : decOk (enc k l s D r) = true := by
  obtain ⟨h1, h2, h3, h4, h5, h6⟩ := dec_enc hD h
  unfold decOk
  rw [h1, h2, h3, h4, h5, h6, h, some8_zero]
  simp only [Bool.not_false, Bool.and_true, decide_eq_true_eq]
  exact field_length _ _
theorem decN_enc {k l s r : Int} {D : List Int} (hD : D.length = 16) (h : right k l s D r = true) : decN (enc k l s D r) = nd k l s D r ∧ decE (enc k l s D r) = 0 := by
  obtain ⟨h1, h2, h3, h4, h5, h6⟩ := dec_enc hD h
  unfold decN decE
  rw [decOk_enc hD h, h1, h2, h3, h4, h5]
  exact ⟨rfl, rfl⟩
/-- Unlike nodes have unlike bytes. -/
theorem enc_inj {k l s r k' l' s' r' : Int} {D D' : List Int} (hD : D.length = 16) (h : right k l s D r = true) (hD' : D'.length = 16) (h' : right k' l' s' D' r' = true) : enc k l s D r = enc k' l' s' D' r' ↔ nd k l s D r = nd k' l' s' D' r' := by
  constructor
  · intro e
    rw [← (decN_enc hD h).1, e, (decN_enc hD' h').1]
  · intro e
    obtain ⟨rfl, rfl, rfl, rfl, rfl⟩ := (nd_inj hD hD').1 e
    rfl
end Go.Proofs.Ytmjknaldpeoheaa.O
