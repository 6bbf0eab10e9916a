/- The walks of package tag's fields: how each is made. -/
import Derived.Test.YtmfncpifalnggaaTag
import Derived.Test.YtmfncpifalnggaaRowV
namespace Go.Proofs.Ytmfncpifalnggaa
open Go.RowKit O
set_option linter.unusedVariables false

theorem cell_new1 (w : World) (v : Value) (t : TypeId) (o2 : Obj) : ((w.alloc (.cells #[v] t)).alloc o2).cell? ⟨w.heap.size, 0, none⟩ = some v := by
  rw [World.cell?_alloc_lt _ _ _ (by simp), World.cell?_alloc_mark]
  rfl
theorem Kept.block1 {r : Nat} {w w' : World} (h : Kept r w w') {b i : Nat} (hb : b < w.heap.size) (hr : b ≠ r) : w'.cell? ⟨b, i, none⟩ = w.cell? ⟨b, i, none⟩ := World.cell?_of_block (h.block b hb hr)
/-- What the making of a field leaves: a value in a box of its own. -/
def Made (w : World) (sz : Int) (g s : Fn) (v : Value) (cap : Bool) (e : Ending) (w' : World) : Prop :=
  e = .returned (.agg #[.int .i64 sz, .func g #[] #[.pointer (some ⟨w.heap.size, 0, none⟩)], .func s #[] (if cap then #[.pointer (some ⟨w.heap.size, 0, none⟩)] else #[])]) ∧
    w'.cell? ⟨w.heap.size, 0, none⟩ = some v ∧ w'.heap.size = w.heap.size + 2 ∧ Below w.heap.size w w'
def nilF : List Value := [.int .i64 0, .nilFunc, .nilFunc]
theorem zeroF : (Try.prog.info? 46).map (·.zero) = some (some (.agg nilF.toArray)) := by kernel_rfl
theorem sizeF : (Try.prog.info? 46).map (·.size) = some 3 := by kernel_rfl
theorem fixed_any (n : Int) (x : Nat) (w : World) :
    Calls Try.prog 19 #[.int .i64 n, .int .u64 (x : Int)] w (Made w n (.func 30) (.func 31) (.int .u64 (x : Int)) false) := by
  obtain ⟨vs, hvs⟩ : ∃ vs : List Value, vs = [.int .i64 n, .func (.func 30) #[] #[.pointer (some ⟨w.heap.size, 0, none⟩)], .func (.func 31) #[] #[]] := ⟨_, rfl⟩
  have Hvs := hid hvs
  have h1 := hid (show ∀ v ∈ vs, v.oneCell' = true by rw [hvs]; intro v hv; simp at hv; rcases hv with rfl | rfl | rfl <;> rfl)
  clear hvs
  go_enter Try.func19, Try.ntmps19
  go_wp2_with (first
    | (refine wpList_store_V 46 (.tmp 4) (.tmp 7) rfl (w.heap.size + 1) vs nilF 46 rfl (by rw [Hvs.out]; rfl) (IsV.at (by simp) _ nilF) (by rw [Hvs.out]; rfl) (by rw [Hvs.out]; exact sizeF) h1.out (by rfl) ?_; intro w2 hN hK hS; have HN := hid hN; have HK := hid hK; have HS := hid hS; clear hN hK hS))
  have hB : Below w.heap.size w w2 := (below2 w _ _).trans (HK.out.below _ (by omega) (by simp; omega))
  exact bodyPost_ret (v := .agg vs.toArray) (results_V Try.results19 rfl HN.out Try.underlying46 rfl (by rw [Hvs.out]; exact sizeF)) rfl ⟨by rw [Hvs.out]; rfl, by rw [HK.out.block1 (by simp; omega) (by omega)]; exact cell_new1 _ _ _ _, by rw [HS.out]; simp, hB⟩
theorem long_any (k : Nat) (w : World) :
    Calls Try.prog 22 #[.func (.func k) #[] #[]] w (Made w 6 (.func 32) (.func 33) (.func (.func k) #[] #[]) true) := by
  obtain ⟨vs, hvs⟩ : ∃ vs : List Value, vs = [.int .i64 6, .func (.func 32) #[] #[.pointer (some ⟨w.heap.size, 0, none⟩)], .func (.func 33) #[] #[.pointer (some ⟨w.heap.size, 0, none⟩)]] := ⟨_, rfl⟩
  have Hvs := hid hvs
  have h1 := hid (show ∀ v ∈ vs, v.oneCell' = true by rw [hvs]; intro v hv; simp at hv; rcases hv with rfl | rfl | rfl <;> rfl)
  clear hvs
  go_enter Try.func22, Try.ntmps22
  go_wp2_with (first
    | (refine wpList_store_V 46 (.tmp 2) (.tmp 5) rfl (w.heap.size + 1) vs nilF 46 rfl (by rw [Hvs.out]; rfl) (IsV.at (by simp) _ nilF) (by rw [Hvs.out]; rfl) (by rw [Hvs.out]; exact sizeF) h1.out (by rfl) ?_; intro w2 hN hK hS; have HN := hid hN; have HK := hid hK; have HS := hid hS; clear hN hK hS))
  have hB : Below w.heap.size w w2 := (below2 w _ _).trans (HK.out.below _ (by omega) (by simp; omega))
  exact bodyPost_ret (v := .agg vs.toArray) (results_V Try.results22 rfl HN.out Try.underlying46 rfl (by rw [Hvs.out]; exact sizeF)) rfl ⟨by rw [Hvs.out]; rfl, by rw [HK.out.block1 (by simp; omega) (by omega)]; exact cell_new1 _ _ _ _, by rw [HS.out]; simp, hB⟩
theorem small_any (n : Int) (k : Nat) (w : World) :
    Calls Try.prog 26 #[.int .i64 n, .func (.func k) #[] #[]] w (Made w n (.func 34) (.func 35) (.func (.func k) #[] #[]) true) := by
  obtain ⟨vs, hvs⟩ : ∃ vs : List Value, vs = [.int .i64 n, .func (.func 34) #[] #[.pointer (some ⟨w.heap.size, 0, none⟩)], .func (.func 35) #[] #[.pointer (some ⟨w.heap.size, 0, none⟩)]] := ⟨_, rfl⟩
  have Hvs := hid hvs
  have h1 := hid (show ∀ v ∈ vs, v.oneCell' = true by rw [hvs]; intro v hv; simp at hv; rcases hv with rfl | rfl | rfl <;> rfl)
  clear hvs
  go_enter Try.func26, Try.ntmps26
  go_wp2_with (first
    | (refine wpList_store_V 46 (.tmp 4) (.tmp 8) rfl (w.heap.size + 1) vs nilF 46 rfl (by rw [Hvs.out]; rfl) (IsV.at (by simp) _ nilF) (by rw [Hvs.out]; rfl) (by rw [Hvs.out]; exact sizeF) h1.out (by rfl) ?_; intro w2 hN hK hS; have HN := hid hN; have HK := hid hK; have HS := hid hS; clear hN hK hS))
  have hB : Below w.heap.size w w2 := (below2 w _ _).trans (HK.out.below _ (by omega) (by simp; omega))
  exact bodyPost_ret (v := .agg vs.toArray) (results_V Try.results26 rfl HN.out Try.underlying46 rfl (by rw [Hvs.out]; exact sizeF)) rfl ⟨by rw [Hvs.out]; rfl, by rw [HK.out.block1 (by simp; omega) (by omega)]; exact cell_new1 _ _ _ _, by rw [HS.out]; simp, hB⟩
end Go.Proofs.Ytmfncpifalnggaa
