/- Plain mathematics of names: which texts are names. No program in sight. -/
import Derived.Lib.IndexLaws
namespace Go.Proofs.Ytpnhmcckdpdilaa

/-- Is a text a name? -/
def nm (l : List UInt8) : Bool := decide (1 ≤ l.length ∧ l.length ≤ 28 ∧ (47 : UInt8) ∉ l ∧ (0 : UInt8) ∉ l ∧ l ≠ [46] ∧ l ≠ [46, 46])
theorem idx_mem (l : List UInt8) (c : UInt8) : (0 ≤ Go.Lib.indexByte l c) ↔ c ∈ l := by
  have h0 := Go.Lib.indexByte_ge l c
  constructor
  · intro h
    obtain ⟨o, ho⟩ : ∃ o : Nat, Go.Lib.indexByte l c = (o : Int) := ⟨(Go.Lib.indexByte l c).toNat, by omega⟩
    exact List.mem_of_getElem? (Go.Lib.indexByte_some ho).1
  · intro h
    have h2 : Go.Lib.indexByte l c ≠ -1 := by
      intro h3
      obtain ⟨k, hk, e⟩ := List.getElem_of_mem h
      exact Go.Lib.indexByte_none h3 k (by rw [List.getElem?_eq_getElem hk, e])
    omega
end Go.Proofs.Ytpnhmcckdpdilaa
