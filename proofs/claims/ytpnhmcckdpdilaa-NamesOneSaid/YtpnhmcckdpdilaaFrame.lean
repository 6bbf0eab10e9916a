/- What all rows of this seat share: closed facts; texts that came in. -/
import Derived.Test.YtpnhmcckdpdilaaRows
import Derived.Test.YtpnhmcckdpdilaaJoin
import Derived.SliceStrings
import Derived.Deep.DeepHandedRow
namespace Go.Proofs.Ytpnhmcckdpdilaa
open Go.ChangeShapes Go.WideShapes Go.ChangeAt Go.RowKit

theorem own : ownKnob Try.prog.godebug = none := by kernel_rfl
theorem Try.cellsU8 : Try.prog.cellsOf 5 = 1 := by kernel_rfl
theorem Try.cellsStr : Try.prog.cellsOf 9 = 1 := by kernel_rfl
theorem Try.laidOut' : laidOutB Try.prog = true := by kernel_rfl

section
variable {H : Type} {enc : TypeId × Value → H} {P : Program}
/-- Texts that came in. -/
theorem open_texts {W : World} {t e : TypeId} {base : Nat} {v : Value} {d : DataW H} {p : List MemPlace} (ht : P.underlying t = some (.slice e)) (he : P.underlying e = some .string) (hc : P.cellsOf e = 1)
    (hval : Value.okWide P W .any base t v) (h : DataW.Trod enc P W 0 (fun _ => true) true t v d p) :
    ∃ (a : Option Addr) (L : List (List UInt8)) (c : Nat), v = .slice a L.length c ∧ IsRow W a (L.map strV) ∧ L.length ≤ c ∧ c ≤ maxLen ∧ ∀ x ∈ L, x.length ≤ maxLen := by
  obtain ⟨a0, len, cap, rfl⟩ := okWide_slice ht hval
  obtain ⟨fuel, hf⟩ := h
  rcases open_strings ht he hc hf with ⟨hcs, _⟩ | ⟨a, len', cap', ss, hcs, _, hl, hm, hz, _, hcell, hws⟩
  · simp [Value.cells] at hcs
    obtain ⟨rfl, rfl, rfl⟩ := hcs
    exact ⟨none, [], 0, rfl, IsRow.nil _ _, by simp, by simp [maxLen], by simp⟩
  · simp [Value.cells] at hcs
    obtain ⟨rfl, rfl, rfl⟩ := hcs
    simp at hz
    have hlen : ((ss.take len).map (fun s => s.data.toList)).length = len := by rw [List.length_map, List.length_take, Nat.min_eq_left (by omega)]
    refine ⟨some a, (ss.take len).map (fun s => s.data.toList), cap, by rw [hlen], ?_, by rw [hlen]; exact hl, hm, ?_⟩
    · by_cases h0 : len = 0
      · subst h0; rw [List.take_zero]; exact IsRow.nil _ _
      · have hs : a.spot = none := by
          have := hcell 0 (by omega)
          cases hsp : a.spot with
          | none => rfl
          | some s =>
            simp only [World.cell?, Addr.add, if_true, hsp, Option.isSome_some] at this
            split at this <;> cases this
        refine ⟨a.block, a.off, fun _ => by cases a; simp_all, fun i hi => ?_⟩
        have hi' : i < len := by rw [List.length_map, hlen] at hi; exact hi
        have hci := hcell i (by omega)
        have ha : a.add i = ⟨a.block, a.off + i, none⟩ := by
          unfold Addr.add
          split
          · rename_i h; subst h; cases a; simp_all
          · rfl
        rw [ha] at hci
        rw [hci]
        have hi2 : i < ss.length := by omega
        simp [strV, hi2]
    · intro x hx
      obtain ⟨s, hs, rfl⟩ := List.mem_map.1 hx
      have := hws s (List.mem_of_mem_take hs)
      rw [Array.length_toList]
      exact this
end
end Go.Proofs.Ytpnhmcckdpdilaa
