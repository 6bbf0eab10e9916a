/- The walk of the document's names.Split (harrowref17). -/
import Derived.Test.YtpnhmcckdpdilaaPathM
namespace Go.Proofs.Ytpnhmcckdpdilaa
open Go.RowKit
set_option linter.unusedVariables false

theorem elemStr : ElemOf Try.prog 23 9 (.string ⟨#[]⟩) 16 := ⟨rfl, by kernel_rfl, rfl⟩
theorem strV_one (L : List (List UInt8)) : ∀ u ∈ L.map strV, u.oneCell' = true := by
  intro u hu
  rw [List.mem_map] at hu
  obtain ⟨l, _, rfl⟩ := hu
  rfl
/-- What the loop has told so far: at the start of byte i. -/
def told (l : List UInt8) (i : Nat) (D : List (List UInt8)) (acc : List UInt8) : Prop :=
  acc.length ≤ i ∧ D.length ≤ i ∧ D.all nm = true ∧ ((i ≤ l.length ∧ scan [] l.tail = D ++ scan acc (l.drop i)) ∨ (i = l.length + 1 ∧ scan [] l.tail = D))
theorem told_start (l : List UInt8) (h : 1 ≤ l.length) : told l 1 [] [] := ⟨by simp, by simp, rfl, .inl ⟨h, by rw [List.nil_append, List.drop_one]⟩⟩
theorem told_more {l : List UInt8} {i : Nat} {D : List (List UInt8)} {acc : List UInt8} (h : told l i D acc) (hi : i < l.length) (hb : l[i] ≠ 47) : told l (i + 1) D (acc ++ [l[i]]) := by
  obtain ⟨h1, h2, h3, h4⟩ := h
  refine ⟨by simp; omega, by omega, h3, .inl ⟨by omega, ?_⟩⟩
  rcases h4 with ⟨_, h4⟩ | ⟨h4, _⟩
  · rw [h4, List.drop_eq_getElem_cons hi, scan_cons_ne _ _ hb]
  · omega
theorem told_name {l : List UInt8} {i : Nat} {D : List (List UInt8)} {acc : List UInt8} (h : told l i D acc) (hi : i ≤ l.length) (hb : ∀ h : i < l.length, l[i] = 47) (hn : nm acc = true) : told l (i + 1) (D ++ [acc]) [] := by
  obtain ⟨h1, h2, h3, h4⟩ := h
  refine ⟨by simp, by simp; omega, by simp [List.all_append, h3, hn], ?_⟩
  rcases h4 with ⟨_, h4⟩ | ⟨h4, _⟩
  · by_cases hl : i < l.length
    · exact .inl ⟨by omega, by rw [h4, List.drop_eq_getElem_cons hl, hb hl, scan_cons_eq]; simp⟩
    · exact .inr ⟨by omega, by rw [h4, List.drop_eq_nil_of_le (by omega)]; simp [scan]⟩
  · omega
theorem told_bad {l : List UInt8} {i : Nat} {D : List (List UInt8)} {acc : List UInt8} (h : told l i D acc) (hi : i ≤ l.length) (hb : ∀ h : i < l.length, l[i] = 47) (hn : nm acc = false) : (scan [] l.tail).all nm = false := by
  obtain ⟨h1, h2, h3, h4⟩ := h
  rcases h4 with ⟨_, h4⟩ | ⟨h4, _⟩
  · by_cases hl : i < l.length
    · rw [h4, List.drop_eq_getElem_cons hl, hb hl, scan_cons_eq]
      simp [hn]
    · rw [h4, List.drop_eq_nil_of_le (by omega)]
      simp [scan, hn]
  · omega
/-- What Split answers. -/
def answersR (l : List UInt8) (B : Nat) (v : Value) (w : World) : Prop :=
  match splitR l with
  | none => v = .tuple #[.slice none 0 0, .bool false]
  | some D => ∃ a c, v = .tuple #[.slice a D.length c, .bool true] ∧ IsRow w a (D.map strV)
end Go.Proofs.Ytpnhmcckdpdilaa
