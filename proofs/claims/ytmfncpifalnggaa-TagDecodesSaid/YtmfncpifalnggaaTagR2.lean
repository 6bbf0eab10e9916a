/- The walk of the document's Encode (harrowref05). -/
import Derived.Test.YtmfncpifalnggaaTagR
import Derived.Test.YtmfncpifalnggaaHeld
namespace Go.Proofs.Ytmfncpifalnggaa
open Go.RowKit O
set_option linter.unusedVariables false

theorem exec_concat {P : Program} {o : Oper} {a : Act} {w : World} {t t2 : TypeId} {l m : List UInt8} (x y : Operand) (ho : o.op = .binOp .add t x y t2) (hx : a.eval x = .string ⟨l.toArray⟩) (hy : a.eval y = .string ⟨m.toArray⟩) (hlen : l.length + m.length ≤ 9223372036854775807) :
    (execOp a.eval o).run P w = .ok (.value (.string ⟨(l ++ m).toArray⟩)) w := by
  have h1 : ¬ 9223372036854775807 < l.length + m.length := by omega
  unfold execOp
  simp only [ho, hx, hy, Sem.run_bind]
  simp [go_sem, h1, str_app]

set_option maxHeartbeats 4000000 in
set_option maxRecDepth 20000 in
theorem refencode_any (e s q f i c d : Nat) (he : e < 4294967296) (hr : right e s q f i c d = true) (l : List UInt8) (hl : l.length ≤ 1000) (w : World) :
    Calls Try.prog 12 #[.agg (tagV e s q f i c d), .string ⟨l.toArray⟩] w fun x w' => x = .returned (.string ⟨(head e s q f i c d ++ l).toArray⟩) ∧ Below w.heap.size w w' := by
  obtain ⟨-, a1, a2, a3, a4, a5, a6, a7, a8, a9, aa⟩ := right_of hr
  have ba : e < 18446744073709551616 ∧ s < 18446744073709551616 ∧ q < 18446744073709551616 ∧ f < 18446744073709551616 := ⟨by omega, by omega, by omega, by omega⟩
  have bi : i < 72 ∧ c ≤ 72 ∧ d < 3840 := ⟨by omega, by omega, by omega⟩
  have hwe : IntKind.u64.wrap (e : Int) = (e : Int) := by rw [IntKind.wrap_u64]; omega
  have hwi : IntKind.u64.wrap (i : Int) = (i : Int) := by rw [IntKind.wrap_u64]; omega
  have hwc : IntKind.u64.wrap (c : Int) = (c : Int) := by rw [IntKind.wrap_u64]; omega
  have hwd : IntKind.u64.wrap (d : Int) = (d : Int) := by rw [IntKind.wrap_u64]; omega
  have Ba := hid ba
  have Bi := hid bi
  have Hhead := hid (show ((((((((([72, 82, 82, 87] ++ le 4 e) ++ le 6 q) ++ le 6 f) ++ le 6 s) ++ le 1 i) ++ le 1 c) ++ le 2 d) ++ [0, 0]) ++ l) = head e s q f i c d ++ l by
    rw [show ([72, 82, 82, 87] : List UInt8) = le 4 1465012808 from by decide, show ([0, 0] : List UInt8) = le 2 0 from by decide]
    simp only [head, List.append_assoc])
  have Hl := hid hl
  clear a1 a2 a3 a4 a5 a6 a7 a8 a9 aa ba bi hl hr
  obtain ⟨w1, hw1⟩ : ∃ w1, w1 = w.alloc (.cells (tagV e s q f i c d) 28) := ⟨_, rfl⟩
  have HB1 := hid (show Below w.heap.size w w1 by rw [hw1]; exact below1 _ _)
  have HT := hid (show IsV w1 w.heap.size 28 (tagL e s q f i c d) by rw [hw1]; exact IsV.new w _ (tagL e s q f i c d))
  have hd0 : ∀ W, Below w1.heap.size w1 W → W.cell? ⟨w.heap.size, 0, none⟩ = some (.int .u32 (e : Int)) := fun W h => (HT.out.below h).cell 0
  have hd1 : ∀ W, Below w1.heap.size w1 W → W.cell? ⟨w.heap.size, 1, none⟩ = some (.int .u64 (s : Int)) := fun W h => (HT.out.below h).cell 1
  have hd2 : ∀ W, Below w1.heap.size w1 W → W.cell? ⟨w.heap.size, 2, none⟩ = some (.int .u64 (q : Int)) := fun W h => (HT.out.below h).cell 2
  have hd3 : ∀ W, Below w1.heap.size w1 W → W.cell? ⟨w.heap.size, 3, none⟩ = some (.int .u64 (f : Int)) := fun W h => (HT.out.below h).cell 3
  have hd4 : ∀ W, Below w1.heap.size w1 W → W.cell? ⟨w.heap.size, 4, none⟩ = some (.int .i64 (i : Int)) := fun W h => (HT.out.below h).cell 4
  have hd5 : ∀ W, Below w1.heap.size w1 W → W.cell? ⟨w.heap.size, 5, none⟩ = some (.int .i64 (c : Int)) := fun W h => (HT.out.below h).cell 5
  have hd6 : ∀ W, Below w1.heap.size w1 W → W.cell? ⟨w.heap.size, 6, none⟩ = some (.int .i64 (d : Int)) := fun W h => (HT.out.below h).cell 6
  go_enter Try.func12, Try.ntmps12
  go_wp2_with fail
  rw [← hw1]
  clear hw1
  have HB := hid (show Below w1.heap.size w1 w1.drew from (Below.refl _ _).drew)
  refine wp_region_noPanic ?_
  refine wp_region_held_drew (S := fun W => Below w1.heap.size w1 W) (by kernel_rfl) HB.out (fun hS => ?_)
  refine take_at (i := 0) (v := ?va0) rfl (by kernel_rfl) (by kernel_rfl) (by kernel_rfl) (fun _ _ _ h => h) hS (by rfl) ?ha0 ?ra0
  case ha0 => (intro W hSW; (try dsimp only at hSW); go_simp; (try with_reducible rfl))
  try simp only [Act.put, List.setIfInBounds_toArray, List.set_cons_zero, List.set_cons_succ]
  refine take_at (i := 1) (v := ?va1) rfl (by kernel_rfl) (by kernel_rfl) (by kernel_rfl) (fun _ _ _ h => h) hS (by rfl) ?ha1 ?ra1
  case ha1 => (intro W hSW; (try dsimp only at hSW); go_simp; (try with_reducible rfl))
  try simp only [Act.put, List.setIfInBounds_toArray, List.set_cons_zero, List.set_cons_succ]
  refine take_at (i := 2) (v := ?va2) rfl (by kernel_rfl) (by kernel_rfl) (by kernel_rfl) (fun _ _ _ h => h) hS (by rfl) ?ha2 ?ra2
  case ha2 => (intro W hSW; (try dsimp only at hSW); go_simp; (try with_reducible rfl))
  try simp only [Act.put, List.setIfInBounds_toArray, List.set_cons_zero, List.set_cons_succ]
  refine take_at (i := 5) (v := ?va5) rfl (by kernel_rfl) (by kernel_rfl) (by kernel_rfl) (fun _ _ _ h => h) hS (by rfl) ?ha5 ?ra5
  case ha5 => (intro W hSW; (try dsimp only at hSW); go_simp; (try with_reducible rfl))
  try simp only [Act.put, List.setIfInBounds_toArray, List.set_cons_zero, List.set_cons_succ]
  refine take_at (i := 6) (v := ?va6) rfl (by kernel_rfl) (by kernel_rfl) (by kernel_rfl) (fun _ _ _ h => h) hS (by rfl) ?ha6 ?ra6
  case ha6 => (intro W hSW; (try dsimp only at hSW); go_simp; (try with_reducible rfl))
  try simp only [Act.put, List.setIfInBounds_toArray, List.set_cons_zero, List.set_cons_succ]
  refine take_at (i := 9) (v := ?va9) rfl (by kernel_rfl) (by kernel_rfl) (by kernel_rfl) (fun _ _ _ h => h) hS (by rfl) ?ha9 ?ra9
  case ha9 => (intro W hSW; (try dsimp only at hSW); go_simp; (try with_reducible rfl))
  try simp only [Act.put, List.setIfInBounds_toArray, List.set_cons_zero, List.set_cons_succ]
  refine take_at (i := 10) (v := ?va10) rfl (by kernel_rfl) (by kernel_rfl) (by kernel_rfl) (fun _ _ _ h => h) hS (by rfl) ?ha10 ?ra10
  case ha10 => (intro W hSW; (try dsimp only at hSW); go_simp; (try with_reducible rfl))
  try simp only [Act.put, List.setIfInBounds_toArray, List.set_cons_zero, List.set_cons_succ]
  refine take_at (i := 13) (v := ?va13) rfl (by kernel_rfl) (by kernel_rfl) (by kernel_rfl) (fun _ _ _ h => h) hS (by rfl) ?ha13 ?ra13
  case ha13 => (intro W hSW; (try dsimp only at hSW); go_simp; (try with_reducible rfl))
  try simp only [Act.put, List.setIfInBounds_toArray, List.set_cons_zero, List.set_cons_succ]
  refine take_at (i := 14) (v := ?va14) rfl (by kernel_rfl) (by kernel_rfl) (by kernel_rfl) (fun _ _ _ h => h) hS (by rfl) ?ha14 ?ra14
  case ha14 => (intro W hSW; (try dsimp only at hSW); go_simp; (try with_reducible rfl))
  try simp only [Act.put, List.setIfInBounds_toArray, List.set_cons_zero, List.set_cons_succ]
  refine ready_at (i := 3) rfl (by kernel_rfl) (fun K hK => ?_)
  go_simp
  refine (low_any e Ba.out.1 4 (by omega) _).mono ?_
  rintro x v1 ⟨rfl, hB⟩
  replace HB := hid (HB.out.trans (hB.mono HB.out.size))
  clear hB
  go_wp2_with fail
  refine hK.out _ _ HB.out (fun hS => ?_)
  clear hK K
  try simp only [Act.put, List.setIfInBounds_toArray, List.set_cons_zero, List.set_cons_succ]
  refine take_at (i := 4) (v := .string ⟨([72, 82, 82, 87] ++ le 4 e).toArray⟩) rfl (by kernel_rfl) (by kernel_rfl) (by kernel_rfl) (fun _ _ _ h => h) hS (by rfl) ?ha4 ?ra4
  case ha4 => (intro W hSW; (try dsimp only at hSW); exact exec_concat (l := [72, 82, 82, 87]) (m := le 4 e) (.const (.string ⟨#[72, 82, 82, 87]⟩)) (.tmp 9) rfl rfl rfl (by simp only [le_length, List.length_cons, List.length_nil]; have := Hl.out; omega))
  try simp only [Act.put, List.setIfInBounds_toArray, List.set_cons_zero, List.set_cons_succ]
  refine ready_at (i := 7) rfl (by kernel_rfl) (fun K hK => ?_)
  go_simp
  refine (low_any q Ba.out.2.2.1 6 (by omega) _).mono ?_
  rintro x v2 ⟨rfl, hB⟩
  replace HB := hid (HB.out.trans (hB.mono HB.out.size))
  clear hB
  go_wp2_with fail
  refine hK.out _ _ HB.out (fun hS => ?_)
  clear hK K
  try simp only [Act.put, List.setIfInBounds_toArray, List.set_cons_zero, List.set_cons_succ]
  refine take_at (i := 8) (v := .string ⟨(([72, 82, 82, 87] ++ le 4 e) ++ le 6 q).toArray⟩) rfl (by kernel_rfl) (by kernel_rfl) (by kernel_rfl) (fun _ _ _ h => h) hS (by rfl) ?ha8 ?ra8
  case ha8 => (intro W hSW; (try dsimp only at hSW); exact exec_concat (l := ([72, 82, 82, 87] ++ le 4 e)) (m := le 6 q) (.tmp 10) (.tmp 13) rfl rfl rfl (by simp only [List.length_append, le_length, List.length_cons, List.length_nil]; have := Hl.out; omega))
  try simp only [Act.put, List.setIfInBounds_toArray, List.set_cons_zero, List.set_cons_succ]
  refine ready_at (i := 11) rfl (by kernel_rfl) (fun K hK => ?_)
  go_simp
  refine (low_any f Ba.out.2.2.2 6 (by omega) _).mono ?_
  rintro x v3 ⟨rfl, hB⟩
  replace HB := hid (HB.out.trans (hB.mono HB.out.size))
  clear hB
  go_wp2_with fail
  refine hK.out _ _ HB.out (fun hS => ?_)
  clear hK K
  try simp only [Act.put, List.setIfInBounds_toArray, List.set_cons_zero, List.set_cons_succ]
  refine take_at (i := 12) (v := .string ⟨((([72, 82, 82, 87] ++ le 4 e) ++ le 6 q) ++ le 6 f).toArray⟩) rfl (by kernel_rfl) (by kernel_rfl) (by kernel_rfl) (fun _ _ _ h => h) hS (by rfl) ?ha12 ?ra12
  case ha12 => (intro W hSW; (try dsimp only at hSW); exact exec_concat (l := (([72, 82, 82, 87] ++ le 4 e) ++ le 6 q)) (m := le 6 f) (.tmp 14) (.tmp 17) rfl rfl rfl (by simp only [List.length_append, le_length, List.length_cons, List.length_nil]; have := Hl.out; omega))
  try simp only [Act.put, List.setIfInBounds_toArray, List.set_cons_zero, List.set_cons_succ]
  refine ready_at (i := 15) rfl (by kernel_rfl) (fun K hK => ?_)
  go_simp
  refine (low_any s Ba.out.2.1 6 (by omega) _).mono ?_
  rintro x v4 ⟨rfl, hB⟩
  replace HB := hid (HB.out.trans (hB.mono HB.out.size))
  clear hB
  go_wp2_with fail
  refine hK.out _ _ HB.out (fun hS => ?_)
  clear hK K
  try simp only [Act.put, List.setIfInBounds_toArray, List.set_cons_zero, List.set_cons_succ]
  refine take_at (i := 16) (v := .string ⟨(((([72, 82, 82, 87] ++ le 4 e) ++ le 6 q) ++ le 6 f) ++ le 6 s).toArray⟩) rfl (by kernel_rfl) (by kernel_rfl) (by kernel_rfl) (fun _ _ _ h => h) hS (by rfl) ?ha16 ?ra16
  case ha16 => (intro W hSW; (try dsimp only at hSW); exact exec_concat (l := ((([72, 82, 82, 87] ++ le 4 e) ++ le 6 q) ++ le 6 f)) (m := le 6 s) (.tmp 18) (.tmp 21) rfl rfl rfl (by simp only [List.length_append, le_length, List.length_cons, List.length_nil]; have := Hl.out; omega))
  try simp only [Act.put, List.setIfInBounds_toArray, List.set_cons_zero, List.set_cons_succ]
  refine ready_at (i := 17) rfl (by kernel_rfl) (fun K hK => ?_)
  go_simp
  refine hK.out _ _ hS (fun hS => ?_)
  clear hK K
  try simp only [Act.put, List.setIfInBounds_toArray, List.set_cons_zero, List.set_cons_succ]
  refine wpAnyH_done (by kernel_rfl) ?_ _
  refine NoPanic.normal ?_
  go_wp2_with fail
  have HBd := hid HB.out.drew
  clear HB
  have HB := HBd
  refine wp_region_noPanic ?_
  refine wp_region_held_drew (S := fun W => Below w1.heap.size w1 W) (by kernel_rfl) HB.out (fun hS => ?_)
  refine take_at (i := 0) (v := ?vb0) rfl (by kernel_rfl) (by kernel_rfl) (by kernel_rfl) (fun _ _ _ h => h) hS (by rfl) ?hb0 ?rb0
  case hb0 => (intro W hSW; (try dsimp only at hSW); go_simp; (try with_reducible rfl))
  try simp only [Act.put, List.setIfInBounds_toArray, List.set_cons_zero, List.set_cons_succ]
  refine take_at (i := 1) (v := ?vb1) rfl (by kernel_rfl) (by kernel_rfl) (by kernel_rfl) (fun _ _ _ h => h) hS (by rfl) ?hb1 ?rb1
  case hb1 => (intro W hSW; (try dsimp only at hSW); go_simp; (try with_reducible rfl))
  try simp only [Act.put, List.setIfInBounds_toArray, List.set_cons_zero, List.set_cons_succ]
  refine take_at (i := 2) (v := ?vb2) rfl (by kernel_rfl) (by kernel_rfl) (by kernel_rfl) (fun _ _ _ h => h) hS (by rfl) ?hb2 ?rb2
  case hb2 => (intro W hSW; (try dsimp only at hSW); go_simp; (try with_reducible rfl))
  try simp only [Act.put, List.setIfInBounds_toArray, List.set_cons_zero, List.set_cons_succ]
  refine take_at (i := 3) (v := ?vb3) rfl (by kernel_rfl) (by kernel_rfl) (by kernel_rfl) (fun _ _ _ h => h) hS (by rfl) ?hb3 ?rb3
  case hb3 => (intro W hSW; (try dsimp only at hSW); go_simp; (try with_reducible rfl))
  try simp only [Act.put, List.setIfInBounds_toArray, List.set_cons_zero, List.set_cons_succ]
  refine take_at (i := 6) (v := ?vb6) rfl (by kernel_rfl) (by kernel_rfl) (by kernel_rfl) (fun _ _ _ h => h) hS (by rfl) ?hb6 ?rb6
  case hb6 => (intro W hSW; (try dsimp only at hSW); go_simp; (try with_reducible rfl))
  try simp only [Act.put, List.setIfInBounds_toArray, List.set_cons_zero, List.set_cons_succ]
  refine take_at (i := 7) (v := ?vb7) rfl (by kernel_rfl) (by kernel_rfl) (by kernel_rfl) (fun _ _ _ h => h) hS (by rfl) ?hb7 ?rb7
  case hb7 => (intro W hSW; (try dsimp only at hSW); go_simp; (try with_reducible rfl))
  try simp only [Act.put, List.setIfInBounds_toArray, List.set_cons_zero, List.set_cons_succ]
  refine take_at (i := 8) (v := ?vb8) rfl (by kernel_rfl) (by kernel_rfl) (by kernel_rfl) (fun _ _ _ h => h) hS (by rfl) ?hb8 ?rb8
  case hb8 => (intro W hSW; (try dsimp only at hSW); go_simp; (try with_reducible rfl))
  try simp only [Act.put, List.setIfInBounds_toArray, List.set_cons_zero, List.set_cons_succ]
  refine take_at (i := 11) (v := ?vb11) rfl (by kernel_rfl) (by kernel_rfl) (by kernel_rfl) (fun _ _ _ h => h) hS (by rfl) ?hb11 ?rb11
  case hb11 => (intro W hSW; (try dsimp only at hSW); go_simp; (try with_reducible rfl))
  try simp only [Act.put, List.setIfInBounds_toArray, List.set_cons_zero, List.set_cons_succ]
  refine take_at (i := 12) (v := ?vb12) rfl (by kernel_rfl) (by kernel_rfl) (by kernel_rfl) (fun _ _ _ h => h) hS (by rfl) ?hb12 ?rb12
  case hb12 => (intro W hSW; (try dsimp only at hSW); go_simp; (try with_reducible rfl))
  try simp only [Act.put, List.setIfInBounds_toArray, List.set_cons_zero, List.set_cons_succ]
  refine take_at (i := 13) (v := ?vb13) rfl (by kernel_rfl) (by kernel_rfl) (by kernel_rfl) (fun _ _ _ h => h) hS (by rfl) ?hb13 ?rb13
  case hb13 => (intro W hSW; (try dsimp only at hSW); go_simp; (try with_reducible rfl))
  try simp only [Act.put, List.setIfInBounds_toArray, List.set_cons_zero, List.set_cons_succ]
  refine take_at (i := 17) (v := ?vb17) rfl (by kernel_rfl) (by kernel_rfl) (by kernel_rfl) (fun _ _ _ h => h) hS (by rfl) ?hb17 ?rb17
  case hb17 => (intro W hSW; (try dsimp only at hSW); go_simp; (try with_reducible rfl))
  try simp only [Act.put, List.setIfInBounds_toArray, List.set_cons_zero, List.set_cons_succ]
  refine ready_at (i := 4) rfl (by kernel_rfl) (fun K hK => ?_)
  go_simp
  refine (low_any i (by have := Bi.out.1; omega) 1 (by omega) _).mono ?_
  rintro x v5 ⟨rfl, hB⟩
  replace HB := hid (HB.out.trans (hB.mono HB.out.size))
  clear hB
  go_wp2_with fail
  refine hK.out _ _ HB.out (fun hS => ?_)
  clear hK K
  try simp only [Act.put, List.setIfInBounds_toArray, List.set_cons_zero, List.set_cons_succ]
  refine take_at (i := 5) (v := .string ⟨((((([72, 82, 82, 87] ++ le 4 e) ++ le 6 q) ++ le 6 f) ++ le 6 s) ++ le 1 i).toArray⟩) rfl (by kernel_rfl) (by kernel_rfl) (by kernel_rfl) (fun _ _ _ h => h) hS (by rfl) ?hb5 ?rb5
  case hb5 => (intro W hSW; (try dsimp only at hSW); exact exec_concat (l := (((([72, 82, 82, 87] ++ le 4 e) ++ le 6 q) ++ le 6 f) ++ le 6 s)) (m := le 1 i) (.tmp 23) (.tmp 27) rfl rfl rfl (by simp only [List.length_append, le_length, List.length_cons, List.length_nil]; have := Hl.out; omega))
  try simp only [Act.put, List.setIfInBounds_toArray, List.set_cons_zero, List.set_cons_succ]
  refine ready_at (i := 9) rfl (by kernel_rfl) (fun K hK => ?_)
  go_simp
  refine (low_any c (by have := Bi.out.2.1; omega) 1 (by omega) _).mono ?_
  rintro x v6 ⟨rfl, hB⟩
  replace HB := hid (HB.out.trans (hB.mono HB.out.size))
  clear hB
  go_wp2_with fail
  refine hK.out _ _ HB.out (fun hS => ?_)
  clear hK K
  try simp only [Act.put, List.setIfInBounds_toArray, List.set_cons_zero, List.set_cons_succ]
  refine take_at (i := 10) (v := .string ⟨(((((([72, 82, 82, 87] ++ le 4 e) ++ le 6 q) ++ le 6 f) ++ le 6 s) ++ le 1 i) ++ le 1 c).toArray⟩) rfl (by kernel_rfl) (by kernel_rfl) (by kernel_rfl) (fun _ _ _ h => h) hS (by rfl) ?hb10 ?rb10
  case hb10 => (intro W hSW; (try dsimp only at hSW); exact exec_concat (l := ((((([72, 82, 82, 87] ++ le 4 e) ++ le 6 q) ++ le 6 f) ++ le 6 s) ++ le 1 i)) (m := le 1 c) (.tmp 28) (.tmp 32) rfl rfl rfl (by simp only [List.length_append, le_length, List.length_cons, List.length_nil]; have := Hl.out; omega))
  try simp only [Act.put, List.setIfInBounds_toArray, List.set_cons_zero, List.set_cons_succ]
  refine ready_at (i := 14) rfl (by kernel_rfl) (fun K hK => ?_)
  go_simp
  refine (low_any d (by have := Bi.out.2.2; omega) 2 (by omega) _).mono ?_
  rintro x v7 ⟨rfl, hB⟩
  replace HB := hid (HB.out.trans (hB.mono HB.out.size))
  clear hB
  go_wp2_with fail
  refine hK.out _ _ HB.out (fun hS => ?_)
  clear hK K
  try simp only [Act.put, List.setIfInBounds_toArray, List.set_cons_zero, List.set_cons_succ]
  refine take_at (i := 15) (v := .string ⟨((((((([72, 82, 82, 87] ++ le 4 e) ++ le 6 q) ++ le 6 f) ++ le 6 s) ++ le 1 i) ++ le 1 c) ++ le 2 d).toArray⟩) rfl (by kernel_rfl) (by kernel_rfl) (by kernel_rfl) (fun _ _ _ h => h) hS (by rfl) ?hb15 ?rb15
  case hb15 => (intro W hSW; (try dsimp only at hSW); exact exec_concat (l := (((((([72, 82, 82, 87] ++ le 4 e) ++ le 6 q) ++ le 6 f) ++ le 6 s) ++ le 1 i) ++ le 1 c)) (m := le 2 d) (.tmp 33) (.tmp 37) rfl rfl rfl (by simp only [List.length_append, le_length, List.length_cons, List.length_nil]; have := Hl.out; omega))
  try simp only [Act.put, List.setIfInBounds_toArray, List.set_cons_zero, List.set_cons_succ]
  refine take_at (i := 16) (v := .string ⟨(((((((([72, 82, 82, 87] ++ le 4 e) ++ le 6 q) ++ le 6 f) ++ le 6 s) ++ le 1 i) ++ le 1 c) ++ le 2 d) ++ [0, 0]).toArray⟩) rfl (by kernel_rfl) (by kernel_rfl) (by kernel_rfl) (fun _ _ _ h => h) hS (by rfl) ?hb16 ?rb16
  case hb16 => (intro W hSW; (try dsimp only at hSW); exact exec_concat (l := ((((((([72, 82, 82, 87] ++ le 4 e) ++ le 6 q) ++ le 6 f) ++ le 6 s) ++ le 1 i) ++ le 1 c) ++ le 2 d)) (m := [0, 0]) (.tmp 38) (.const (.string ⟨#[0, 0]⟩)) rfl rfl rfl (by simp only [List.length_append, le_length, List.length_cons, List.length_nil]; have := Hl.out; omega))
  try simp only [Act.put, List.setIfInBounds_toArray, List.set_cons_zero, List.set_cons_succ]
  refine take_at (i := 18) (v := .string ⟨((((((((([72, 82, 82, 87] ++ le 4 e) ++ le 6 q) ++ le 6 f) ++ le 6 s) ++ le 1 i) ++ le 1 c) ++ le 2 d) ++ [0, 0]) ++ l).toArray⟩) rfl (by kernel_rfl) (by kernel_rfl) (by kernel_rfl) (fun _ _ _ h => h) hS (by rfl) ?hb18 ?rb18
  case hb18 => (intro W hSW; (try dsimp only at hSW); exact exec_concat (l := (((((((([72, 82, 82, 87] ++ le 4 e) ++ le 6 q) ++ le 6 f) ++ le 6 s) ++ le 1 i) ++ le 1 c) ++ le 2 d) ++ [0, 0])) (m := l) (.tmp 39) (.tmp 40) rfl rfl rfl (by simp only [List.length_append, le_length, List.length_cons, List.length_nil]; have := Hl.out; omega))
  try simp only [Act.put, List.setIfInBounds_toArray, List.set_cons_zero, List.set_cons_succ]
  refine ready_at (i := 19) rfl (by kernel_rfl) (fun K hK => ?_)
  go_simp
  refine hK.out _ _ hS (fun hS => ?_)
  clear hK K
  try simp only [Act.put, List.setIfInBounds_toArray, List.set_cons_zero, List.set_cons_succ]
  refine wpAnyH_done (by kernel_rfl) ?_ _
  refine NoPanic.normal ?_
  go_wp2_with fail
  go_ret
  exact ⟨by rw [← Hhead.out]; simp, HB1.out.trans (HB.out.mono HB1.out.size)⟩
end Go.Proofs.Ytmfncpifalnggaa
