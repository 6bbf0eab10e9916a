/- Plain mathematics of rows of blocks. No program in sight. -/
import Derived.Test.YtmjknaldpeoheaaInoRow
import Derived.Test.YtmjknaldpeoheaaInoM3
namespace Go.Proofs.Ytmjknaldpeoheaa
open Go.RowKit O
set_option linter.unusedVariables false

theorem le2s_get : ∀ (L : List Int) (t : Nat) (x : Int), L[t]? = some x → (le2s L)[2 * t]? = some (UInt8.ofNat x.toNat) ∧ (le2s L)[2 * t + 1]? = some (UInt8.ofNat (x.toNat / 256))
  | [], t, x, h => by simp at h
  | y :: L, 0, x, h => by
    simp only [List.getElem?_cons_zero, Option.some.injEq] at h
    subst h
    exact ⟨rfl, rfl⟩
  | y :: L, t + 1, x, h => by
    have := le2s_get L t x (by simpa using h)
    rw [show 2 * (t + 1) = 2 * t + 1 + 1 by omega]
    exact this
theorem le2s_set : ∀ (L : List Int) (t : Nat) (x : Int), ((le2s L).set (2 * t) (UInt8.ofNat x.toNat)).set (2 * t + 1) (UInt8.ofNat (x.toNat / 256)) = le2s (L.set t x)
  | [], t, x => rfl
  | y :: L, 0, x => rfl
  | y :: L, t + 1, x => by
    rw [show 2 * (t + 1) = 2 * t + 1 + 1 by omega, List.set_cons_succ]
    show _ :: _ :: _ = _ :: _ :: _
    congr 2
    exact le2s_set L t x
theorem zero480 : le2s zeroL = List.replicate 480 0 := by unfold zeroL; decide +kernel
theorem rowOk480 : rowOk (List.replicate 480 0) = true := by decide +kernel
theorem rowN480 : rowN (List.replicate 480 0) = zeroL := by unfold zeroL; decide +kernel
theorem rowE480 : rowE (List.replicate 480 0) = 0 := by unfold rowE; rw [rowOk480]; rfl
theorem rep_set (n t : Nat) : (List.replicate n (0 : Int)).set t 0 = List.replicate n 0 := by
  apply List.ext_getElem (by rw [List.length_set])
  intro i h1 h2
  rw [List.getElem_set, List.getElem_replicate]
  split <;> rfl
theorem zero_set (t : Nat) (ht : t < 240) : zeroL.set t 0 = zeroL := by
  unfold zeroL
  exact rep_set 240 t
/-- One pointer, and no other. -/
theorem one_ok (t x : Nat) (hx : x < 3840) : (zeroL.set t (x : Int)).all ptrOk = true := by
  rw [List.all_eq_true]
  intro p hp
  unfold ptrOk
  rw [decide_eq_true_iff]
  rcases List.mem_or_eq_of_mem_set hp with h | h
  · unfold zeroL at h
    have := List.eq_of_mem_replicate h
    omega
  · omega
theorem one_off (t x : Nat) (ht : t < 240) : ((le2s (zeroL.set t (x : Int))).set (2 * t) 0).set (2 * t + 1) 0 = List.replicate 480 0 := by
  have := le2s_set (zeroL.set t (x : Int)) t 0
  rw [List.set_set, zero_set t ht, zero480] at this
  exact this
theorem one_get (t x : Nat) (ht : t < 240) (hx : x < 3840) : ∃ c d : UInt8, (le2s (zeroL.set t (x : Int)))[2 * t]? = some c ∧ (le2s (zeroL.set t (x : Int)))[2 * t + 1]? = some d ∧ n8 c + 256 * n8 d = (x : Int) := by
  obtain ⟨h1, h2⟩ := le2s_get (zeroL.set t (x : Int)) t x (by rw [List.getElem?_set_self (by rw [zeroL_length]; exact ht)])
  refine ⟨_, _, h1, h2, ?_⟩
  unfold n8
  simp only [Int.toNat_natCast, UInt8.toNat_ofNat']
  omega
end Go.Proofs.Ytmjknaldpeoheaa
