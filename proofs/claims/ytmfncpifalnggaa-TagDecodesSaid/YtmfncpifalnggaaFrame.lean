/- What all rows of this seat share: closed facts; a tag that came in. -/
import Derived.Test.YtmfncpifalnggaaRows
import Derived.Test.YtmfncpifalnggaaTagM
import Derived.Deep.DeepHandedRow
import Derived.Lib.SmallJoins
namespace Go.Proofs.Ytmfncpifalnggaa
open Go.ChangeShapes Go.WideShapes Go.ChangeAt Go.RowKit

theorem own : ownKnob Try.prog.godebug = none := by kernel_rfl
theorem Try.cellsU8 : Try.prog.cellsOf 5 = 1 := by kernel_rfl
theorem Try.cellsInt : Try.prog.cellsOf 3 = 1 := by kernel_rfl
theorem Try.cellsU32 : Try.prog.cellsOf 22 = 1 := by kernel_rfl
theorem Try.cellsU64 : Try.prog.cellsOf 23 = 1 := by kernel_rfl
theorem cellsTag : Try.prog.cellsOf 25 = 7 := by kernel_rfl
theorem Try.laidOut' : laidOutB Try.prog = true := by kernel_rfl

section
variable {H : Type} {enc : TypeId × Value → H} {P : Program}
theorem cell_int {W : World} {base n o : Nat} {sp : Nat → Bool} {held : Bool} {t : TypeId} {k : IntKind} {cs : List Value} {y : DataW H × List MemPlace} (ht : P.underlying t = some (.int k)) (h : DataW.trod enc P W base sp held n t ((cs.drop o).take 1) = some y) :
    ∃ x, cs[o]? = some (.int k x) ∧ (Lit.int k x).wf = true := by
  obtain ⟨x, h1, _, h3⟩ := DataW.trod_int ht h
  refine ⟨x, ?_, h3⟩
  have h4 : ((cs.drop o).take 1)[0]? = some (.int k x) := by rw [h1]; rfl
  rw [List.getElem?_take, if_pos (by omega), List.getElem?_drop] at h4
  simpa using h4
end
theorem nat64_of_wf {n : Int} (h : (Lit.int .u64 n).wf = true) : ∃ x : Nat, n = (x : Int) ∧ x < 18446744073709551616 := by
  have hb : 0 ≤ n ∧ n ≤ 18446744073709551615 := by simpa [Lit.wf, IntKind.min, IntKind.max, IntKind.signed, IntKind.bits] using h
  exact ⟨n.toNat, by omega, by omega⟩
theorem nat32_of_wf {n : Int} (h : (Lit.int .u32 n).wf = true) : ∃ x : Nat, n = (x : Int) ∧ x < 4294967296 := by
  have hb : 0 ≤ n ∧ n ≤ 4294967295 := by simpa [Lit.wf, IntKind.min, IntKind.max, IntKind.signed, IntKind.bits] using h
  exact ⟨n.toNat, by omega, by omega⟩

/-- A tag that came in. -/
theorem open_tag {H : Type} {enc : TypeId × Value → H} {W : World} {base : Nat} {v : Value} {d : DataW H} {p : List MemPlace} (hval : Value.okWide Try.prog W .any base 25 v) (h : DataW.Trod enc Try.prog W 0 (fun _ => true) true 25 v d p) :
    ∃ (e s q f : Nat) (i c d : Int), v = .agg (tagV e s q f i c d) ∧ e < 4294967296 ∧ (s < 18446744073709551616 ∧ q < 18446744073709551616 ∧ f < 18446744073709551616) ∧ (-9223372036854775808 ≤ i ∧ i ≤ 9223372036854775807) ∧ (-9223372036854775808 ≤ c ∧ c ≤ 9223372036854775807) ∧ (-9223372036854775808 ≤ d ∧ d ≤ 9223372036854775807) := by
  obtain ⟨cs, rfl, hsz⟩ := okWide_struct Try.underlying25 hval
  rw [cellsTag] at hsz
  obtain ⟨fuel, hf⟩ := h
  obtain ⟨xs, n, _, _, _, hlen, hfs⟩ := DataW.trod_struct Try.underlying25 hf
  have hlen5 : xs.length = 7 := hlen
  have get : ∀ i, i < 7 → ∃ y, xs[i]? = some y := fun i hi => ⟨_, List.getElem?_eq_getElem (by omega)⟩
  have hcells : (Value.agg cs).cells.toList = cs.toList := rfl
  rw [hcells] at hfs
  obtain ⟨y0, hy0⟩ := get 0 (by omega)
  obtain ⟨y1, hy1⟩ := get 1 (by omega)
  obtain ⟨y2, hy2⟩ := get 2 (by omega)
  obtain ⟨y3, hy3⟩ := get 3 (by omega)
  obtain ⟨y4, hy4⟩ := get 4 (by omega)
  obtain ⟨y5, hy5⟩ := get 5 (by omega)
  obtain ⟨y6, hy6⟩ := get 6 (by omega)
  have h0 : DataW.trod enc Try.prog W 0 (fun _ => true) true n 22 ((cs.toList.drop 0).take (Try.prog.cellsOf 22)) = xs[0]? := hfs 0 _ rfl
  have h1 : DataW.trod enc Try.prog W 0 (fun _ => true) true n 23 ((cs.toList.drop 1).take (Try.prog.cellsOf 23)) = xs[1]? := hfs 1 _ rfl
  have h2 : DataW.trod enc Try.prog W 0 (fun _ => true) true n 23 ((cs.toList.drop 2).take (Try.prog.cellsOf 23)) = xs[2]? := hfs 2 _ rfl
  have h3 : DataW.trod enc Try.prog W 0 (fun _ => true) true n 23 ((cs.toList.drop 3).take (Try.prog.cellsOf 23)) = xs[3]? := hfs 3 _ rfl
  have h4 : DataW.trod enc Try.prog W 0 (fun _ => true) true n 3 ((cs.toList.drop 4).take (Try.prog.cellsOf 3)) = xs[4]? := hfs 4 _ rfl
  have h5 : DataW.trod enc Try.prog W 0 (fun _ => true) true n 3 ((cs.toList.drop 5).take (Try.prog.cellsOf 3)) = xs[5]? := hfs 5 _ rfl
  have h6 : DataW.trod enc Try.prog W 0 (fun _ => true) true n 3 ((cs.toList.drop 6).take (Try.prog.cellsOf 3)) = xs[6]? := hfs 6 _ rfl
  rw [hy0, Try.cellsU32] at h0
  rw [hy1, Try.cellsU64] at h1
  rw [hy2, Try.cellsU64] at h2
  rw [hy3, Try.cellsU64] at h3
  rw [hy4, Try.cellsInt] at h4
  rw [hy5, Try.cellsInt] at h5
  rw [hy6, Try.cellsInt] at h6
  obtain ⟨x0, g0, w0⟩ := cell_int Try.underlying22 h0
  obtain ⟨x1, g1, w1⟩ := cell_int Try.underlying23 h1
  obtain ⟨x2, g2, w2⟩ := cell_int Try.underlying23 h2
  obtain ⟨x3, g3, w3⟩ := cell_int Try.underlying23 h3
  obtain ⟨x4, g4, w4⟩ := cell_int Try.underlying3 h4
  obtain ⟨x5, g5, w5⟩ := cell_int Try.underlying3 h5
  obtain ⟨x6, g6, w6⟩ := cell_int Try.underlying3 h6
  obtain ⟨e, rfl, he⟩ := nat32_of_wf w0
  obtain ⟨s, rfl, hs⟩ := nat64_of_wf w1
  obtain ⟨q, rfl, hq⟩ := nat64_of_wf w2
  obtain ⟨f, rfl, hf3⟩ := nat64_of_wf w3
  refine ⟨e, s, q, f, x4, x5, x6, ?_, he, ⟨hs, hq, hf3⟩, i64_of_wf w4, i64_of_wf w5, i64_of_wf w6⟩
  congr 1
  apply Array.ext'
  have hl : cs.toList.length = 7 := by simpa using hsz
  generalize cs.toList = L at *
  match L, hl with
  | [a0, a1, a2, a3, a4, a5, a6], _ =>
    simp only [List.getElem?_cons_zero, List.getElem?_cons_succ, Option.some.injEq] at g0 g1 g2 g3 g4 g5 g6
    subst g0 g1 g2 g3 g4 g5 g6
    rfl
end Go.Proofs.Ytmfncpifalnggaa
