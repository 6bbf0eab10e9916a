/- What all rows of this seat share: closed facts; a node that came in. -/
import Derived.Test.YtmjknaldpeoheaaRows
import Derived.Test.YtmjknaldpeoheaaNode
import Derived.Test.YtmjknaldpeoheaaInoM
import Derived.Deep.DeepHandedRow
import Derived.Lib.SmallJoins
namespace Go.Proofs.Ytmjknaldpeoheaa
open Go.ChangeShapes Go.WideShapes Go.ChangeAt Go.RowKit

theorem own : ownKnob Try.prog.godebug = none := by kernel_rfl
theorem Try.cellsU8 : Try.prog.cellsOf 5 = 1 := by kernel_rfl
theorem Try.cellsInt : Try.prog.cellsOf 3 = 1 := by kernel_rfl
theorem cellsArr : Try.prog.cellsOf 22 = 16 := by kernel_rfl
theorem cellsNode : Try.prog.cellsOf 24 = 20 := by kernel_rfl
theorem Try.laidOut' : laidOutB Try.prog = true := by kernel_rfl

section
variable {H : Type} {enc : TypeId × Value → H} {P : Program}
theorem cell_int {W : World} {base n o : Nat} {sp : Nat → Bool} {held : Bool} {t : TypeId} {k : IntKind} {cs : List Value} {y : DataW H × List MemPlace} (ht : P.underlying t = some (.int k)) (h : DataW.trod enc P W base sp held n t ((cs.drop o).take 1) = some y) :
    ∃ x, cs[o]? = some (.int k x) ∧ (Lit.int k x).wf = true := by
  obtain ⟨x, h1, _, h3⟩ := DataW.trod_int ht h
  refine ⟨x, ?_, h3⟩
  have h4 : ((cs.drop o).take 1)[0]? = some (.int k x) := by rw [h1]; rfl
  rw [List.getElem?_take, if_pos (by omega), List.getElem?_drop] at h4
  simpa using h4
/-- Rows whose every cell is an integer. -/
theorem ints_of (cs : Array Value) (n : Nat) (hn : cs.size = n) (h : ∀ j, j < n → ∃ x, cs.toList[j]? = some (.int .i64 x) ∧ (Lit.int .i64 x).wf = true) : ∃ N : List Int, N.length = n ∧ cs = nodeC N ∧ ∀ x ∈ N, (Lit.int .i64 x).wf = true := by
  have h' : ∀ j : Nat, ∃ x, j < n → cs.toList[j]? = some (.int .i64 x) ∧ (Lit.int .i64 x).wf = true := fun j => by
    by_cases hj : j < n
    · obtain ⟨x, hx⟩ := h j hj
      exact ⟨x, fun _ => hx⟩
    · exact ⟨0, fun h => absurd h hj⟩
  refine ⟨(List.range n).map (fun j => (h' j).choose), by simp, ?_, fun x hx => ?_⟩
  · apply Array.ext'
    unfold nodeC nodeL
    rw [List.map_map]
    apply List.ext_getElem?
    intro j
    by_cases hj : j < n
    · rw [((h' j).choose_spec hj).1, List.getElem?_map, List.getElem?_range hj]
      rfl
    · rw [List.getElem?_eq_none (by simp; omega), List.getElem?_eq_none (by simp; omega)]
  · obtain ⟨j, hj, rfl⟩ := List.mem_map.1 hx
    exact ((h' j).choose_spec (by simpa using hj)).2
end

/-- A node that came in. -/
theorem open_node {H : Type} {enc : TypeId × Value → H} {W : World} {base : Nat} {v : Value} {d : DataW H} {p : List MemPlace} (hval : Value.okWide Try.prog W .any base 24 v) (h : DataW.Trod enc Try.prog W 0 (fun _ => true) true 24 v d p) :
    ∃ k l s D r, D.length = 16 ∧ v = .agg (nodeC (O.nd k l s D r)) ∧ ∀ x ∈ O.nd k l s D r, (Lit.int .i64 x).wf = true := by
  obtain ⟨cs, rfl, hsz⟩ := okWide_struct Try.underlying24 hval
  rw [cellsNode] at hsz
  obtain ⟨fuel, hf⟩ := h
  obtain ⟨xs, n, _, _, _, hlen, hfs⟩ := DataW.trod_struct Try.underlying24 hf
  have hlen5 : xs.length = 5 := hlen
  have get : ∀ i, i < 5 → ∃ y, xs[i]? = some y := fun i hi => ⟨_, List.getElem?_eq_getElem (by omega)⟩
  have hcells : (Value.agg cs).cells.toList = cs.toList := rfl
  rw [hcells] at hfs
  have hint : ∀ (i o : Nat) (nm : String) (bo : Nat), (#[{ name := "Kind", type := 3, offset := 0, embedded := false, tag := "", pkgPath := "", byteOffset := 0 }, { name := "Links", type := 3, offset := 1, embedded := false, tag := "", pkgPath := "", byteOffset := 8 }, { name := "Size", type := 3, offset := 2, embedded := false, tag := "", pkgPath := "", byteOffset := 16 }, { name := "Direct", type := 22, offset := 3, embedded := false, tag := "", pkgPath := "", byteOffset := 24 }, { name := "Row", type := 3, offset := 19, embedded := false, tag := "", pkgPath := "", byteOffset := 152 }] : Array Field)[i]? = some { name := nm, type := 3, offset := o, embedded := false, tag := "", pkgPath := "", byteOffset := bo } → i < 5 → ∃ x, cs.toList[o]? = some (.int .i64 x) ∧ (Lit.int .i64 x).wf = true := by
    intro i o nm bo hi hi5
    obtain ⟨y, hy⟩ := get i hi5
    have h1 := hfs i _ hi
    rw [hy, Try.cellsInt] at h1
    exact cell_int Try.underlying3 h1
  have h0 := hint 0 0 _ _ rfl (by omega)
  have h1 := hint 1 1 _ _ rfl (by omega)
  have h2 := hint 2 2 _ _ rfl (by omega)
  have h19 := hint 4 19 _ _ rfl (by omega)
  have hmid : ∀ i, i < 16 → ∃ x, cs.toList[3 + i]? = some (.int .i64 x) ∧ (Lit.int .i64 x).wf = true := by
    obtain ⟨y, hy⟩ := get 3 (by omega)
    have h3 : DataW.trod enc Try.prog W 0 (fun _ => true) true n 22 ((cs.toList.drop 3).take (Try.prog.cellsOf 22)) = xs[3]? := hfs 3 _ rfl
    rw [hy, cellsArr] at h3
    obtain ⟨zs, m, _, _, _, hzl, hz⟩ := DataW.trod_array Try.underlying22 h3
    intro i hi
    have h4 := hz i hi
    rw [List.getElem?_eq_getElem (by omega), Try.cellsInt, Nat.mul_one] at h4
    obtain ⟨x, hx, hw⟩ := cell_int Try.underlying3 h4
    rw [List.getElem?_take, if_pos hi, List.getElem?_drop] at hx
    exact ⟨x, hx, hw⟩
  obtain ⟨N, hN, rfl, hwf⟩ := ints_of cs 20 hsz (fun j hj => by
    rcases (show j = 0 ∨ j = 1 ∨ j = 2 ∨ j = 19 ∨ ∃ i, i < 16 ∧ j = 3 + i from by
      by_cases h3 : j < 3
      · omega
      · by_cases h19 : j = 19
        · omega
        · exact .inr (.inr (.inr (.inr ⟨j - 3, by omega, by omega⟩)))) with rfl | rfl | rfl | rfl | ⟨i, hi, rfl⟩
    · exact h0
    · exact h1
    · exact h2
    · exact h19
    · exact hmid i hi)
  obtain ⟨k, l, s, D, r, hD, rfl⟩ := O.nd_of N hN
  exact ⟨k, l, s, D, r, hD, rfl, hwf⟩
end Go.Proofs.Ytmjknaldpeoheaa
