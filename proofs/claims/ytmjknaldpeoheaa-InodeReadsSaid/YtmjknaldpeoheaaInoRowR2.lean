/- The walks of the document's reading of numbers of two bytes, and of rows (harrowref13): two, DecodeRow. -/
import Derived.Test.YtmjknaldpeoheaaInoRow
import Derived.Test.YtmjknaldpeoheaaHeld
namespace Go.Proofs.Ytmjknaldpeoheaa
open Go.RowKit O
set_option linter.unusedVariables false

theorem num2 (l : List UInt8) (k : Nat) (h : k + 1 < l.length) : ((num ((l.drop k).take 2) : Nat) : Int) = n8 (l[k]'(by omega)) + 256 * n8 (l[k + 1]'h) := by
  rw [List.drop_eq_getElem_cons (by omega), List.drop_eq_getElem_cons h]
  simp only [List.take_succ_cons, List.take_zero, num]
  unfold n8
  omega

set_option maxRecDepth 20000 in
theorem two_any (l : List UInt8) (hnl : l.length = 480) (w : World) (a : Option Addr) (c : Nat) (hb : IsBytes w a l) (k : Nat) (hk : k < 479) (x : Int) (hx : ((num ((l.drop k).take 2) : Nat) : Int) = x) :
    Calls Try.prog 38 #[.slice a 480 c, .int .i64 (k : Int)] w fun e w' => e = .returned (.int .i64 x) ∧ Below w.heap.size w w' := by
  obtain ⟨b, off, ha, hcell⟩ := hb
  obtain rfl := ha (by intro h; rw [h] at hnl; simp at hnl)
  have hd0 : ∀ W, Below w.heap.size w W → W.cell? ⟨b, off + k, none⟩ = some (.int .u8 (n8 (l[k]'(by omega)))) := fun W hW => by
    have := hcell k (by omega)
    rw [← this]
    exact hW.cell (World.block_lt_of_cell? w _ this)
  have hd1 : ∀ W, Below w.heap.size w W → W.cell? ⟨b, off + (k + 1), none⟩ = some (.int .u8 (n8 (l[k + 1]'(by omega)))) := fun W hW => by
    have := hcell (k + 1) (by omega)
    rw [← this]
    exact hW.cell (World.block_lt_of_cell? w _ this)
  rw [num2 l k (by omega)] at hx
  have Hl := hid hnl
  generalize l[k]'(by omega) = cc0 at hd0 hx
  generalize l[k + 1]'(by omega) = cc1 at hd1 hx
  have b0 : 0 ≤ n8 cc0 ∧ n8 cc0 ≤ 255 := by have := cc0.toNat_lt; unfold n8; omega
  have b1 : 0 ≤ n8 cc1 ∧ n8 cc1 ≤ 255 := by have := cc1.toNat_lt; unfold n8; omega
  have hwc0 : IntKind.i64.wrap (n8 cc0) = n8 cc0 := IntWalk.i64_in _ ⟨by omega, by omega⟩
  have hwc1 : IntKind.i64.wrap (n8 cc1) = n8 cc1 := IntWalk.i64_in _ ⟨by omega, by omega⟩
  have hwa : IntKind.i64.wrap (256 * n8 cc1) = 256 * n8 cc1 := IntWalk.i64_in _ ⟨by omega, by omega⟩
  have hwb : IntKind.i64.wrap (n8 cc0 + 256 * n8 cc1) = x := by rw [hx]; exact IntWalk.i64_in _ ⟨by omega, by omega⟩
  have hw2 : IntKind.i64.wrap ((k : Int) + 1) = (k : Int) + 1 := IntWalk.i64_in _ ⟨by omega, by omega⟩
  have hm3 : (k : Int) < 480 := by omega
  have hm4 : (k : Int) + 1 < 480 := by omega
  have hm5 : 0 ≤ (k : Int) + 1 := by omega
  clear hcell ha hnl hx b0 b1
  go_enter Try.func38, Try.ntmps38
  go_wp2
  refine wp_region_noPanic ?_
  refine wp_region_held_drew (S := (fun W => Below w.heap.size w W)) (by kernel_rfl) (Below.refl _ _).drew (fun hS0 => ?_)
  refine take_at (i := 0) (v := ?v0) rfl (by kernel_rfl) (by kernel_rfl) (by kernel_rfl) (fun _ _ _ h => h) hS0 (by rfl) ?h0 ?r0
  case h0 => (intro W hSW; (try dsimp only at hSW); go_simp; (try with_reducible rfl))
  try simp only [Act.put, List.setIfInBounds_toArray, List.set_cons_zero, List.set_cons_succ]
  refine take_at (i := 1) (v := ?v1) rfl (by kernel_rfl) (by kernel_rfl) (by kernel_rfl) (fun _ _ _ h => h) hS0 (by rfl) ?h1 ?r1
  case h1 => (intro W hSW; (try dsimp only at hSW); go_simp; (try with_reducible rfl))
  try simp only [Act.put, List.setIfInBounds_toArray, List.set_cons_zero, List.set_cons_succ]
  refine take_at (i := 2) (v := ?v2) rfl (by kernel_rfl) (by kernel_rfl) (by kernel_rfl) (fun _ _ _ h => h) hS0 (by rfl) ?h2 ?r2
  case h2 => (intro W hSW; (try dsimp only at hSW); go_simp; (try with_reducible rfl))
  try simp only [Act.put, List.setIfInBounds_toArray, List.set_cons_zero, List.set_cons_succ]
  refine take_at (i := 3) (v := ?v3) rfl (by kernel_rfl) (by kernel_rfl) (by kernel_rfl) (fun _ _ _ h => h) hS0 (by rfl) ?h3 ?r3
  case h3 => (intro W hSW; (try dsimp only at hSW); go_simp; (try with_reducible rfl))
  try simp only [Act.put, List.setIfInBounds_toArray, List.set_cons_zero, List.set_cons_succ]
  refine take_at (i := 4) (v := ?v4) rfl (by kernel_rfl) (by kernel_rfl) (by kernel_rfl) (fun _ _ _ h => h) hS0 (by rfl) ?h4 ?r4
  case h4 => (intro W hSW; (try dsimp only at hSW); go_simp; (try with_reducible rfl))
  try simp only [Act.put, List.setIfInBounds_toArray, List.set_cons_zero, List.set_cons_succ]
  refine take_at (i := 5) (v := ?v5) rfl (by kernel_rfl) (by kernel_rfl) (by kernel_rfl) (fun _ _ _ h => h) hS0 (by rfl) ?h5 ?r5
  case h5 => (intro W hSW; (try dsimp only at hSW); go_simp; (try with_reducible rfl))
  try simp only [Act.put, List.setIfInBounds_toArray, List.set_cons_zero, List.set_cons_succ]
  refine take_at (i := 6) (v := ?v6) rfl (by kernel_rfl) (by kernel_rfl) (by kernel_rfl) (fun _ _ _ h => h) hS0 (by rfl) ?h6 ?r6
  case h6 => (intro W hSW; (try dsimp only at hSW); go_simp; (try with_reducible rfl))
  try simp only [Act.put, List.setIfInBounds_toArray, List.set_cons_zero, List.set_cons_succ]
  refine take_at (i := 7) (v := ?v7) rfl (by kernel_rfl) (by kernel_rfl) (by kernel_rfl) (fun _ _ _ h => h) hS0 (by rfl) ?h7 ?r7
  case h7 => (intro W hSW; (try dsimp only at hSW); go_simp; (try with_reducible rfl))
  try simp only [Act.put, List.setIfInBounds_toArray, List.set_cons_zero, List.set_cons_succ]
  refine take_at (i := 8) (v := ?v8) rfl (by kernel_rfl) (by kernel_rfl) (by kernel_rfl) (fun _ _ _ h => h) hS0 (by rfl) ?h8 ?r8
  case h8 => (intro W hSW; (try dsimp only at hSW); go_simp; (try with_reducible rfl))
  try simp only [Act.put, List.setIfInBounds_toArray, List.set_cons_zero, List.set_cons_succ]
  refine take_at (i := 9) (v := ?v9) rfl (by kernel_rfl) (by kernel_rfl) (by kernel_rfl) (fun _ _ _ h => h) hS0 (by rfl) ?h9 ?r9
  case h9 => (intro W hSW; (try dsimp only at hSW); go_simp; (try with_reducible rfl))
  try simp only [Act.put, List.setIfInBounds_toArray, List.set_cons_zero, List.set_cons_succ]
  refine take_at (i := 10) (v := ?v10) rfl (by kernel_rfl) (by kernel_rfl) (by kernel_rfl) (fun _ _ _ h => h) hS0 (by rfl) ?h10 ?r10
  case h10 => (intro W hSW; (try dsimp only at hSW); go_simp; (try with_reducible rfl))
  try simp only [Act.put, List.setIfInBounds_toArray, List.set_cons_zero, List.set_cons_succ]
  refine take_at (i := 11) (v := ?v11) rfl (by kernel_rfl) (by kernel_rfl) (by kernel_rfl) (fun _ _ _ h => h) hS0 (by rfl) ?h11 ?r11
  case h11 => (intro W hSW; (try dsimp only at hSW); go_simp; (try with_reducible rfl))
  try simp only [Act.put, List.setIfInBounds_toArray, List.set_cons_zero, List.set_cons_succ]
  refine take_at (i := 12) (v := ?v12) rfl (by kernel_rfl) (by kernel_rfl) (by kernel_rfl) (fun _ _ _ h => h) hS0 (by rfl) ?h12 ?r12
  case h12 => (intro W hSW; (try dsimp only at hSW); go_simp; (try with_reducible rfl))
  try simp only [Act.put, List.setIfInBounds_toArray, List.set_cons_zero, List.set_cons_succ]
  refine ready_at (i := 13) rfl (by kernel_rfl) (fun K hK => ?_)
  go_simp
  refine hK.out _ _ hS0 (fun hS1 => ?_)
  clear hK K
  try simp only [Act.put, List.setIfInBounds_toArray, List.set_cons_zero, List.set_cons_succ]
  refine wpAnyH_done (by kernel_rfl) ?_ _
  refine NoPanic.normal ?_
  go_wp2
  go_ret
  exact ⟨rfl, (Below.refl _ _).drew⟩
end Go.Proofs.Ytmjknaldpeoheaa
