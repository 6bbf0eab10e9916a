/- Numbers of 64 bits, and slices of numbers, that came in. No program in sight. -/
import Derived.Test.YtmfncpifalnggaaBase
namespace Go.Proofs.Ytmfncpifalnggaa
open Go.RowKit Go.WideShapes Go.ChangeShapes

theorem nat64_of_wf {n : Int} (h : (Lit.int .u64 n).wf = true) : ∃ x : Nat, n = (x : Int) ∧ x < 18446744073709551616 := by
  have hb : 0 ≤ n ∧ n ≤ 18446744073709551615 := by simpa [Lit.wf, IntKind.min, IntKind.max, IntKind.signed, IntKind.bits] using h
  exact ⟨n.toNat, by omega, by omega⟩
theorem nat32_of_wf {n : Int} (h : (Lit.int .u32 n).wf = true) : ∃ x : Nat, n = (x : Int) ∧ x < 4294967296 := by
  have hb : 0 ≤ n ∧ n ≤ 4294967295 := by simpa [Lit.wf, IntKind.min, IntKind.max, IntKind.signed, IntKind.bits] using h
  exact ⟨n.toNat, by omega, by omega⟩

/-- The numbers l, of kind K, lie at the address a (whatever a, if there are none). -/
def IsNums (K : IntKind) (w : World) (a : Option Addr) (l : List Int) : Prop :=
  ∃ b off, (l ≠ [] → a = some ⟨b, off, none⟩) ∧ ∀ i, (h : i < l.length) → w.cell? ⟨b, off + i, none⟩ = some (.int K l[i])
theorem IsNums.nil (K : IntKind) (w : World) (a : Option Addr) : IsNums K w a [] := ⟨0, 0, fun h => absurd rfl h, fun _ h => absurd h (by simp)⟩
theorem IsNums.keep {K : IntKind} {w w' : World} {a : Option Addr} {l : List Int} (h : IsNums K w a l) (hk : ∀ p : Addr, p.block < w.heap.size → w'.cell? p = w.cell? p) : IsNums K w' a l := by
  obtain ⟨b, off, h1, h2⟩ := h
  exact ⟨b, off, h1, fun i hi => (hk _ (World.block_lt_of_cell? w _ (h2 i hi))).trans (h2 i hi)⟩
theorem IsNums.below {K : IntKind} {w w' : World} {a : Option Addr} {l : List Int} (h : IsNums K w a l) (hb : Below w.heap.size w w') : IsNums K w' a l := h.keep fun _ hp => hb.cell hp

section
variable {H : Type} {enc : TypeId × Value → H} {P : Program}
/-- A slice of integers that came in. -/
theorem open_nums {K : IntKind} {W : World} {t e : TypeId} {base : Nat} {v : Value} {d : DataW H} {p : List MemPlace} (ht : P.underlying t = some (.slice e)) (he : P.underlying e = some (.int K)) (hc : P.cellsOf e = 1)
    (hval : Value.okWide P W .any base t v) (h : DataW.Trod enc P W 0 (fun _ => true) true t v d p) :
    ∃ (a : Option Addr) (l : List Int) (c : Nat), v = .slice a l.length c ∧ IsNums K W a l ∧ l.length ≤ c ∧ c ≤ maxLen ∧ ∀ x ∈ l, (Lit.int K x).wf = true := by
  obtain ⟨a0, len, cap, rfl⟩ := okWide_slice ht hval
  obtain ⟨fuel, hf⟩ := h
  rcases open_ints ht he hc hf with ⟨hcs, _⟩ | ⟨a, len', cap', zs, hcs, _, hl, hm, hz, _, hcell, hwz⟩
  · simp [Value.cells] at hcs
    obtain ⟨rfl, rfl, rfl⟩ := hcs
    exact ⟨none, [], 0, rfl, IsNums.nil _ _ _, by simp, by simp [maxLen], by simp⟩
  · simp [Value.cells] at hcs
    obtain ⟨rfl, rfl, rfl⟩ := hcs
    simp at hz
    refine ⟨some a, zs.take len, cap, by rw [List.length_take, Nat.min_eq_left (by omega)], ?_, by rw [List.length_take, Nat.min_eq_left (by omega)]; exact hl, hm, fun x hx => hwz x (List.mem_of_mem_take hx)⟩
    by_cases h0 : len = 0
    · subst h0; rw [List.take_zero]; exact IsNums.nil _ _ _
    · have hs : a.spot = none := by
        have := hcell 0 (by omega)
        cases hsp : a.spot with
        | none => rfl
        | some s =>
          simp only [World.cell?, Addr.add, if_true, hsp, Option.isSome_some] at this
          split at this <;> cases this
      refine ⟨a.block, a.off, fun _ => by cases a; simp_all, fun i hi => ?_⟩
      rw [List.length_take] at hi
      have hci := hcell i (by omega)
      have ha : a.add i = ⟨a.block, a.off + i, none⟩ := by
        unfold Addr.add
        split
        · rename_i h; subst h; cases a; simp_all
        · rfl
      rw [ha] at hci
      rw [hci, List.getElem_take]
      have hi' : i < zs.length := by omega
      simp [hi']
end
end Go.Proofs.Ytmfncpifalnggaa
