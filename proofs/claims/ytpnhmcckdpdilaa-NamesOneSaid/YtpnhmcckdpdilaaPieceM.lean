/- Plain mathematics of a path's pieces: what 'parts' yields. No program in sight. -/
import Derived.Test.YtpnhmcckdpdilaaSame
namespace Go.Proofs.Ytpnhmcckdpdilaa

/-- How long the first piece of a text is. -/
def cut (t : List UInt8) : Nat := (t.takeWhile (fun b => b ≠ 47)).length
theorem cut_le (t : List UInt8) : cut t ≤ t.length := List.Sublist.length_le (List.takeWhile_sublist _)
/-- What a whole path yields. -/
def pieces : List UInt8 → List (List UInt8)
  | [] => []
  | _ :: t => scan [] t
theorem scan_piece (t : List UInt8) : ∀ acc, scan acc t = (acc ++ t.take (cut t)) :: pieces (t.drop (cut t)) := by
  induction t with
  | nil => intro acc; simp [scan, cut, pieces]
  | cons b r ih =>
    intro acc
    by_cases h : b = 47
    · subst h
      rw [scan_cons_eq]
      simp [cut, pieces]
    · rw [scan_cons_ne _ _ h, ih]
      have hc : cut (b :: r) = cut r + 1 := by
        unfold cut
        rw [List.takeWhile_cons_of_pos (by simp [h])]
        rfl
      rw [hc, List.take_succ_cons, List.drop_succ_cons, List.append_assoc, List.singleton_append]
/-- One round of parts. -/
theorem pieces_round (b : UInt8) (t : List UInt8) : pieces (b :: t) = t.take (cut t) :: pieces (t.drop (cut t)) := by
  rw [pieces, scan_piece, List.nil_append]
/-- IndexByte tells the cut, or that there is none. -/
theorem cut_index (t : List UInt8) : (if Go.Lib.indexByte t 47 < 0 then (t.length : Int) else Go.Lib.indexByte t 47) = cut t := by
  have hall : ∀ (m : Nat) (t : List UInt8), (∀ k, k < m → (h : k < t.length) → t[k] ≠ 47) → m ≤ t.length → (m = t.length ∨ ∃ h : m < t.length, t[m] = 47) → cut t = m := by
    intro m
    induction m with
    | zero =>
      intro t _ _ h
      match t, h with
      | [], _ => rfl
      | b :: r, .inr ⟨_, h⟩ =>
        have h' : b = 47 := h
        simp [cut, h']
    | succ m ih =>
      intro t hk hm h
      match t, hk, hm, h with
      | b :: r, hk, hm, h =>
        have hb : b ≠ 47 := hk 0 (by omega) (by simp)
        have hc : cut (b :: r) = cut r + 1 := by
          unfold cut
          rw [List.takeWhile_cons_of_pos (by simp [hb])]
          rfl
        rw [hc, ih r (fun k h1 h2 => hk (k + 1) (by omega) (by simp; omega)) (by simp at hm; omega) (by
          rcases h with h | ⟨h1, h2⟩
          · left; simp at h; omega
          · right; exact ⟨by simp at h1; omega, h2⟩)]
  have h0 := Go.Lib.indexByte_ge t 47
  by_cases h : Go.Lib.indexByte t 47 < 0
  · have hn : Go.Lib.indexByte t 47 = -1 := by omega
    rw [if_pos h, hall t.length t (fun k h1 h2 e => Go.Lib.indexByte_none hn k (by rw [List.getElem?_eq_getElem h2, e])) (Nat.le_refl _) (.inl rfl)]
  · rw [if_neg h]
    obtain ⟨o, ho⟩ : ∃ o : Nat, Go.Lib.indexByte t 47 = (o : Int) := ⟨(Go.Lib.indexByte t 47).toNat, by omega⟩
    have hs := Go.Lib.indexByte_some ho
    obtain ⟨hol, e⟩ := List.getElem?_eq_some_iff.1 hs.1
    rw [ho, hall o t (fun k h1 h2 e => hs.2 k h1 (by rw [List.getElem?_eq_getElem h2, e])) (by omega) (.inr ⟨hol, e⟩)]
end Go.Proofs.Ytpnhmcckdpdilaa
