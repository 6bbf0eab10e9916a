/- Plain mathematics of nodes, on: bytes that tell a node are that node's. No program in sight. -/
import Derived.Test.YtmjknaldpeoheaaInoM2
namespace Go.Proofs.Ytmjknaldpeoheaa.O

theorem le_take_num (m : List UInt8) (k : Nat) (h : k ≤ m.length) : le k (num (m.take k)) = m.take k := by
  have := le_num (m.take k)
  rwa [List.length_take, Nat.min_eq_left h] at this
theorem le2s_nums2 (n : Nat) (m : List UInt8) (h : 2 * n ≤ m.length) : le2s (nums2 m n) = m.take (2 * n) := by
  induction n generalizing m with
  | zero => simp [nums2, le2s]
  | succ n ih =>
    simp only [nums2, le2s, Int.toNat_natCast]
    rw [le_take_num m 2 (by omega), ih (m.drop 2) (by rw [List.length_drop]; omega), show 2 * (n + 1) = 2 + 2 * n by omega, List.take_add]
theorem all_zero (m : List UInt8) (h : some8 m = false) : m = List.replicate m.length 0 := by
  apply List.eq_replicate_iff.2 ⟨rfl, fun x hx => ?_⟩
  by_cases hz : x = 0
  · exact hz
  · have : some8 m = true := by
      unfold some8
      rw [List.any_eq_true]
      exact ⟨x, hx, by simpa using hz⟩
    rw [h] at this
    cases this
theorem enc_dec {m : List UInt8} (h : decOk m = true) : m = enc (dK m) (dL m) (dS m) (dD m) (dR m) := by
  unfold decOk at h
  simp only [Bool.and_eq_true, decide_eq_true_eq, Bool.not_eq_true'] at h
  obtain ⟨⟨hl, -⟩, hz⟩ := h
  rw [enc_eq (dD_length m)]
  unfold dK dL dS dD dR
  simp only [Int.toNat_natCast]
  rw [le_take_num m 1 (by omega), le_take_num (m.drop 1) 2 (by rw [List.length_drop]; omega), le_take_num (m.drop 3) 4 (by rw [List.length_drop]; omega), le_take_num (m.drop 39) 2 (by rw [List.length_drop]; omega),
    le2s_nums2 16 (m.drop 7) (by rw [List.length_drop]; omega)]
  have hr := all_zero _ hz
  rw [List.length_drop, hl] at hr
  have hr' : m.drop 41 = List.replicate 439 0 := hr
  rw [← hr']
  have e1 : m = m.take 1 ++ m.drop 1 := (List.take_append_drop 1 m).symm
  have e2 : m.drop 1 = (m.drop 1).take 2 ++ m.drop 3 := by
    have := (List.take_append_drop 2 (m.drop 1)).symm
    rwa [List.drop_drop] at this
  have e3 : m.drop 3 = (m.drop 3).take 4 ++ m.drop 7 := by
    have := (List.take_append_drop 4 (m.drop 3)).symm
    rwa [List.drop_drop] at this
  have e4 : m.drop 7 = (m.drop 7).take (2 * 16) ++ m.drop 39 := by
    have := (List.take_append_drop 32 (m.drop 7)).symm
    rwa [List.drop_drop] at this
  have e5 : m.drop 39 = (m.drop 39).take 2 ++ m.drop 41 := by
    have := (List.take_append_drop 2 (m.drop 39)).symm
    rwa [List.drop_drop] at this
  rw [← e5, ← e4, ← e3, ← e2]
  exact e1
theorem decN_inj {k l s r : Int} {D : List Int} (hD : D.length = 16) (h : right k l s D r = true) {m : List UInt8} (hm : decOk m = true) : decN m = nd k l s D r ↔ m = enc k l s D r := by
  constructor
  · intro e
    unfold decN at e
    rw [if_pos hm] at e
    obtain ⟨h1, h2, h3, h4, h5⟩ := (nd_inj (dD_length m) hD).1 e
    rw [enc_dec hm, h1, h2, h3, h4, h5]
  · rintro rfl
    exact (decN_enc hD h).1
theorem xor_self_iff (c d : UInt8) : c ^^^ d = c ↔ d = 0 := by
  constructor
  · intro h
    have h2 : c ^^^ (c ^^^ d) = c ^^^ c := by rw [h]
    rw [← UInt8.xor_assoc, UInt8.xor_self, UInt8.zero_xor] at h2
    exact h2
  · rintro rfl
    exact UInt8.xor_zero
theorem set_iff {m : List UInt8} {i : Nat} {c d : UInt8} (hc : m[i]? = some c) : m.set i (c ^^^ d) = m ↔ d = 0 := by
  obtain ⟨hi, rfl⟩ := List.getElem?_eq_some_iff.1 hc
  rw [← xor_self_iff m[i] d]
  constructor
  · intro h
    have h1 : (m.set i (m[i] ^^^ d))[i]? = m[i]? := by rw [h]
    rw [List.getElem?_set_self hi, List.getElem?_eq_getElem hi] at h1
    exact Option.some.inj h1
  · intro h
    rw [h]
    simp
end Go.Proofs.Ytmjknaldpeoheaa.O
