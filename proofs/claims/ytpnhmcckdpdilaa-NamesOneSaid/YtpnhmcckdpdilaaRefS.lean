/- What the document's Split answers, by cases; pieces of texts. -/
import Derived.Test.YtpnhmcckdpdilaaShown
namespace Go.Proofs.Ytpnhmcckdpdilaa
open Go.RowKit
set_option linter.unusedVariables false

theorem refsplit_no {l : List UInt8} (h : splitR l = none) (w : World) :
    Calls Try.prog 11 #[.string ⟨l.toArray⟩] w fun e w' => e = .returned (.tuple #[.slice none 0 0, .bool false]) ∧ Below w.heap.size w w' :=
  (refsplit_any l w).mono fun e w' ⟨⟨v, he, ha⟩, hB⟩ => by
    unfold answersR at ha
    rw [h] at ha
    exact ⟨by rw [he, ha], hB⟩
theorem refsplit_yes {l : List UInt8} {D : List (List UInt8)} {n : Nat} (h : splitR l = some D) (hn : D.length = n) (w : World) :
    Calls Try.prog 11 #[.string ⟨l.toArray⟩] w fun e w' => ∃ a c, e = .returned (.tuple #[.slice a n c, .bool true]) ∧ IsRow w' a (D.map strV) ∧ Below w.heap.size w w' :=
  (refsplit_any l w).mono fun e w' ⟨⟨v, he, ha⟩, hB⟩ => by
    subst hn
    unfold answersR at ha
    rw [h] at ha
    obtain ⟨a, c, rfl, hr⟩ := ha
    exact ⟨a, c, he, hr, hB⟩
theorem refname_is {l : List UInt8} {b : Bool} (h : nm l = b) (hl : l.length ≤ 9223372036854775806) (w : World) : Calls Try.prog 13 #[.string ⟨l.toArray⟩] w fun e w' => e = .returned (.bool b) ∧ w = w' := h ▸ refname_any l hl w
theorem same_is {X Y : List (List UInt8)} {n m : Nat} {b : Bool} (hX : X.length = n) (hY : Y.length = m) (h : decide (X = Y) = b) (w : World) (p q : Option Addr) (c d : Nat) (ha : IsRow w p (X.map strV)) (hb : IsRow w q (Y.map strV)) (hlim : n ≤ 140737488355328) :
    Calls Try.prog 14 #[.slice p n c, .slice q m d] w fun e w' => e = .returned (.bool b) ∧ Below w.heap.size w w' := by
  subst hX hY h
  exact same_any X Y w p q c d ha hb hlim
theorem split_len {l : List UInt8} {D : List (List UInt8)} (h : splitR l = some D) : D.length ≤ 1000 := by
  unfold splitR at h
  split at h
  · cases h; simp
  · rename_i h1
    split at h
    · cases h
    · rename_i h2
      split at h
      · injection h with h
        subst h
        have := scan_len l.tail []
        have h3 : l.length ≤ 1000 := by
          apply Decidable.byContradiction
          intro h3
          exact h2 (.inr (.inl (by omega)))
        have h4 : l ≠ [] := fun h4 => h2 (.inl h4)
        have h5 : l.tail.length + 1 = l.length := by
          cases l
          · exact absurd rfl h4
          · simp
        omega
      · cases h
theorem str_take (l : List UInt8) (k : Nat) : (⟨l.toArray⟩ : ByteArray).extract 0 k = ⟨(l.take k).toArray⟩ := str_cut l 0 k _ (by simp)
theorem str_list (s : ByteArray) : ∃ l : List UInt8, s = ⟨l.toArray⟩ ∧ l.length = s.size := ⟨s.data.toList, by cases s; rfl, Array.length_toList⟩
theorem str_min (l : List UInt8) (K : Nat) (KI : Int) (h : KI = (K : Int)) : (⟨l.toArray⟩ : ByteArray).extract 0 (min (l.length : Int) KI).toNat = ⟨(l.take K).toArray⟩ := by
  subst h
  rw [str_take, show (min (l.length : Int) (K : Int)).toNat = min l.length K by omega]
  congr 2
  rw [List.take_eq_take_iff]
  omega
theorem join_is {X : List (List UInt8)} {n : Nat} {J : List UInt8} (hX : X.length = n) (hJ : joinR X = J) (w : World) (a : Option Addr) (c : Nat) (hb : IsRow w a (X.map strV)) :
    Calls Try.prog 15 #[.slice a n c] w fun e w' => e = .returned (.string ⟨J.toArray⟩) ∧ Below w.heap.size w w' := by
  subst hX hJ
  exact join_any X w a c hb
theorem refjoin_is {X : List (List UInt8)} {n : Nat} {J : List UInt8} (hX : X.length = n) (hJ : joinR X = J) (hs : ∀ x ∈ X, x.length ≤ 9223372036854775806) (hL : n ≤ 140737488355328) (w : World) (a : Option Addr) (c : Nat) (hb : IsRow w a (X.map strV)) :
    Calls Try.prog 16 #[.slice a n c] w fun e w' => e = .returned (.string ⟨J.toArray⟩) ∧ Below w.heap.size w w' := by
  subst hX hJ
  exact refjoin_any X hs hL w a c hb
end Go.Proofs.Ytpnhmcckdpdilaa
