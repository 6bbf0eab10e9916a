/- The walk of package tag's fields: all nine. -/
import Derived.Test.YtmfncpifalnggaaTag2
namespace Go.Proofs.Ytmfncpifalnggaa
open Go.RowKit O
set_option linter.unusedVariables false

def fieldsL (p0 p2 p3 p4 p5 p6 p7 p8 : Nat) : List Value := [.int .i64 4, .func (.func 30) #[] #[.pointer (some ⟨p0, 0, none⟩)], .func (.func 31) #[] #[], .int .i64 4, .func (.func 20) #[] #[], .func (.func 21) #[] #[], .int .i64 6, .func (.func 32) #[] #[.pointer (some ⟨p2, 0, none⟩)], .func (.func 33) #[] #[.pointer (some ⟨p2, 0, none⟩)], .int .i64 6, .func (.func 32) #[] #[.pointer (some ⟨p3, 0, none⟩)], .func (.func 33) #[] #[.pointer (some ⟨p3, 0, none⟩)], .int .i64 6, .func (.func 32) #[] #[.pointer (some ⟨p4, 0, none⟩)], .func (.func 33) #[] #[.pointer (some ⟨p4, 0, none⟩)], .int .i64 1, .func (.func 34) #[] #[.pointer (some ⟨p5, 0, none⟩)], .func (.func 35) #[] #[.pointer (some ⟨p5, 0, none⟩)], .int .i64 1, .func (.func 34) #[] #[.pointer (some ⟨p6, 0, none⟩)], .func (.func 35) #[] #[.pointer (some ⟨p6, 0, none⟩)], .int .i64 2, .func (.func 34) #[] #[.pointer (some ⟨p7, 0, none⟩)], .func (.func 35) #[] #[.pointer (some ⟨p7, 0, none⟩)], .int .i64 2, .func (.func 30) #[] #[.pointer (some ⟨p8, 0, none⟩)], .func (.func 31) #[] #[]]
/-- The boxes of the fields' functions. -/
structure Boxes (w : World) (p0 p2 p3 p4 p5 p6 p7 p8 : Nat) : Prop where
  c0 : w.cell? ⟨p0, 0, none⟩ = some (.int .u64 1465012808)
  c2 : w.cell? ⟨p2, 0, none⟩ = some (.func (.func 23) #[] #[])
  c3 : w.cell? ⟨p3, 0, none⟩ = some (.func (.func 24) #[] #[])
  c4 : w.cell? ⟨p4, 0, none⟩ = some (.func (.func 25) #[] #[])
  c5 : w.cell? ⟨p5, 0, none⟩ = some (.func (.func 27) #[] #[])
  c6 : w.cell? ⟨p6, 0, none⟩ = some (.func (.func 28) #[] #[])
  c7 : w.cell? ⟨p7, 0, none⟩ = some (.func (.func 29) #[] #[])
  c8 : w.cell? ⟨p8, 0, none⟩ = some (.int .u64 0)
theorem Boxes.below {w w' : World} {p0 p2 p3 p4 p5 p6 p7 p8 : Nat} (h : Boxes w p0 p2 p3 p4 p5 p6 p7 p8) (hb : Below w.heap.size w w') : Boxes w' p0 p2 p3 p4 p5 p6 p7 p8 :=
  ⟨(hb.cell (p := ⟨p0, 0, none⟩) (World.block_lt_of_cell? w _ h.c0)).trans h.c0, (hb.cell (p := ⟨p2, 0, none⟩) (World.block_lt_of_cell? w _ h.c2)).trans h.c2, (hb.cell (p := ⟨p3, 0, none⟩) (World.block_lt_of_cell? w _ h.c3)).trans h.c3, (hb.cell (p := ⟨p4, 0, none⟩) (World.block_lt_of_cell? w _ h.c4)).trans h.c4, (hb.cell (p := ⟨p5, 0, none⟩) (World.block_lt_of_cell? w _ h.c5)).trans h.c5, (hb.cell (p := ⟨p6, 0, none⟩) (World.block_lt_of_cell? w _ h.c6)).trans h.c6, (hb.cell (p := ⟨p7, 0, none⟩) (World.block_lt_of_cell? w _ h.c7)).trans h.c7, (hb.cell (p := ⟨p8, 0, none⟩) (World.block_lt_of_cell? w _ h.c8)).trans h.c8⟩
theorem built47 (x0 y0 z0 x1 y1 z1 x2 y2 z2 x3 y3 z3 x4 y4 z4 x5 y5 z5 x6 y6 z6 x7 y7 z7 x8 y8 z8 : Value) : Try.prog.built 47 [(0, .agg #[x0, y0, z0]), (1, .agg #[x1, y1, z1]), (2, .agg #[x2, y2, z2]), (3, .agg #[x3, y3, z3]), (4, .agg #[x4, y4, z4]), (5, .agg #[x5, y5, z5]), (6, .agg #[x6, y6, z6]), (7, .agg #[x7, y7, z7]), (8, .agg #[x8, y8, z8])] = some #[x0, y0, z0, x1, y1, z1, x2, y2, z2, x3, y3, z3, x4, y4, z4, x5, y5, z5, x6, y6, z6, x7, y7, z7, x8, y8, z8] := by kernel_rfl
def nil9 : List Value := [(.int .i64 0), .nilFunc, .nilFunc, (.int .i64 0), .nilFunc, .nilFunc, (.int .i64 0), .nilFunc, .nilFunc, (.int .i64 0), .nilFunc, .nilFunc, (.int .i64 0), .nilFunc, .nilFunc, (.int .i64 0), .nilFunc, .nilFunc, (.int .i64 0), .nilFunc, .nilFunc, (.int .i64 0), .nilFunc, .nilFunc, (.int .i64 0), .nilFunc, .nilFunc]
theorem zero47 : (Try.prog.info? 47).map (·.zero) = some (some (.agg nil9.toArray)) := by kernel_rfl
theorem size47 : (Try.prog.info? 47).map (·.size) = some 27 := by kernel_rfl
theorem exec_build47 {o : Oper} {a : Act} {w : World} {x0 y0 z0 x1 y1 z1 x2 y2 z2 x3 y3 z3 x4 y4 z4 x5 y5 z5 x6 y6 z6 x7 y7 z7 x8 y8 z8 : Value} (o0 o1 o2 o3 o4 o5 o6 o7 o8 : Operand) (ho : o.op = .build 47 #[(0, o0), (1, o1), (2, o2), (3, o3), (4, o4), (5, o5), (6, o6), (7, o7), (8, o8)]) (h0 : a.eval o0 = .agg #[x0, y0, z0]) (h1 : a.eval o1 = .agg #[x1, y1, z1]) (h2 : a.eval o2 = .agg #[x2, y2, z2]) (h3 : a.eval o3 = .agg #[x3, y3, z3]) (h4 : a.eval o4 = .agg #[x4, y4, z4]) (h5 : a.eval o5 = .agg #[x5, y5, z5]) (h6 : a.eval o6 = .agg #[x6, y6, z6]) (h7 : a.eval o7 = .agg #[x7, y7, z7]) (h8 : a.eval o8 = .agg #[x8, y8, z8]) :
    (execOp a.eval o).run Try.prog w = .ok (.value (.agg #[x0, y0, z0, x1, y1, z1, x2, y2, z2, x3, y3, z3, x4, y4, z4, x5, y5, z5, x6, y6, z6, x7, y7, z7, x8, y8, z8])) w := by
  unfold execOp
  simp only [ho, List.map_toArray, List.map_cons, List.map_nil, h0, h1, h2, h3, h4, h5, h6, h7, h8, Sem.run_bind, run_build w 47 _ _ (built47 x0 y0 z0 x1 y1 z1 x2 y2 z2 x3 y3 z3 x4 y4 z4 x5 y5 z5 x6 y6 z6 x7 y7 z7 x8 y8 z8), Result.andThen_ok]
  rfl
theorem fieldsL_one (p0 p2 p3 p4 p5 p6 p7 p8 : Nat) : ∀ v ∈ fieldsL p0 p2 p3 p4 p5 p6 p7 p8, v.oneCell' = true := by
  intro v hv
  unfold fieldsL at hv
  simp only [List.mem_cons, List.not_mem_nil, or_false] at hv
  rcases hv with rfl | rfl | rfl | rfl | rfl | rfl | rfl | rfl | rfl | rfl | rfl | rfl | rfl | rfl | rfl | rfl | rfl | rfl | rfl | rfl | rfl | rfl | rfl | rfl | rfl | rfl | rfl <;> rfl

set_option maxHeartbeats 2000000 in
theorem fields_any (w : World) :
    Calls Try.prog 15 #[] w fun e w' => ∃ p0 p2 p3 p4 p5 p6 p7 p8, e = .returned (.agg (fieldsL p0 p2 p3 p4 p5 p6 p7 p8).toArray) ∧ Boxes w' p0 p2 p3 p4 p5 p6 p7 p8 ∧ Below w.heap.size w w' := by
  go_enter Try.func15, Try.ntmps15
  go_wp2_with (refine wpList_alloc_V (w := w) rfl rfl zero47 ?_; intro w1 hN hB hS; have HR := hid hN; have HB := hid hB; clear hN hB hS)
  refine (fixed_any 4 1465012808 _).mono ?_
  rintro e v0 ⟨rfl, hc, hs, hB⟩
  have HC0 := hid hc
  have HL0 := hid HR.out.lt
  replace HR := hid (HR.out.below hB)
  replace HB := hid (HB.out.trans (hB.mono HB.out.size))
  clear hc hs hB
  go_wp2_with fail
  refine (long_any 23 _).mono ?_
  rintro e v2 ⟨rfl, hc, hs, hB⟩
  have HC2 := hid hc
  have HL2 := hid HR.out.lt
  replace HC0 := hid ((hB.cell (p := ⟨_, 0, none⟩) (World.block_lt_of_cell? _ _ HC0.out)).trans HC0.out)
  replace HR := hid (HR.out.below hB)
  replace HB := hid (HB.out.trans (hB.mono HB.out.size))
  clear hc hs hB
  go_wp2_with fail
  refine (long_any 24 _).mono ?_
  rintro e v3 ⟨rfl, hc, hs, hB⟩
  have HC3 := hid hc
  have HL3 := hid HR.out.lt
  replace HC0 := hid ((hB.cell (p := ⟨_, 0, none⟩) (World.block_lt_of_cell? _ _ HC0.out)).trans HC0.out)
  replace HC2 := hid ((hB.cell (p := ⟨_, 0, none⟩) (World.block_lt_of_cell? _ _ HC2.out)).trans HC2.out)
  replace HR := hid (HR.out.below hB)
  replace HB := hid (HB.out.trans (hB.mono HB.out.size))
  clear hc hs hB
  go_wp2_with fail
  refine (long_any 25 _).mono ?_
  rintro e v4 ⟨rfl, hc, hs, hB⟩
  have HC4 := hid hc
  have HL4 := hid HR.out.lt
  replace HC0 := hid ((hB.cell (p := ⟨_, 0, none⟩) (World.block_lt_of_cell? _ _ HC0.out)).trans HC0.out)
  replace HC2 := hid ((hB.cell (p := ⟨_, 0, none⟩) (World.block_lt_of_cell? _ _ HC2.out)).trans HC2.out)
  replace HC3 := hid ((hB.cell (p := ⟨_, 0, none⟩) (World.block_lt_of_cell? _ _ HC3.out)).trans HC3.out)
  replace HR := hid (HR.out.below hB)
  replace HB := hid (HB.out.trans (hB.mono HB.out.size))
  clear hc hs hB
  go_wp2_with fail
  refine (small_any 1 27 _).mono ?_
  rintro e v5 ⟨rfl, hc, hs, hB⟩
  have HC5 := hid hc
  have HL5 := hid HR.out.lt
  replace HC0 := hid ((hB.cell (p := ⟨_, 0, none⟩) (World.block_lt_of_cell? _ _ HC0.out)).trans HC0.out)
  replace HC2 := hid ((hB.cell (p := ⟨_, 0, none⟩) (World.block_lt_of_cell? _ _ HC2.out)).trans HC2.out)
  replace HC3 := hid ((hB.cell (p := ⟨_, 0, none⟩) (World.block_lt_of_cell? _ _ HC3.out)).trans HC3.out)
  replace HC4 := hid ((hB.cell (p := ⟨_, 0, none⟩) (World.block_lt_of_cell? _ _ HC4.out)).trans HC4.out)
  replace HR := hid (HR.out.below hB)
  replace HB := hid (HB.out.trans (hB.mono HB.out.size))
  clear hc hs hB
  go_wp2_with fail
  refine (small_any 1 28 _).mono ?_
  rintro e v6 ⟨rfl, hc, hs, hB⟩
  have HC6 := hid hc
  have HL6 := hid HR.out.lt
  replace HC0 := hid ((hB.cell (p := ⟨_, 0, none⟩) (World.block_lt_of_cell? _ _ HC0.out)).trans HC0.out)
  replace HC2 := hid ((hB.cell (p := ⟨_, 0, none⟩) (World.block_lt_of_cell? _ _ HC2.out)).trans HC2.out)
  replace HC3 := hid ((hB.cell (p := ⟨_, 0, none⟩) (World.block_lt_of_cell? _ _ HC3.out)).trans HC3.out)
  replace HC4 := hid ((hB.cell (p := ⟨_, 0, none⟩) (World.block_lt_of_cell? _ _ HC4.out)).trans HC4.out)
  replace HC5 := hid ((hB.cell (p := ⟨_, 0, none⟩) (World.block_lt_of_cell? _ _ HC5.out)).trans HC5.out)
  replace HR := hid (HR.out.below hB)
  replace HB := hid (HB.out.trans (hB.mono HB.out.size))
  clear hc hs hB
  go_wp2_with fail
  refine (small_any 2 29 _).mono ?_
  rintro e v7 ⟨rfl, hc, hs, hB⟩
  have HC7 := hid hc
  have HL7 := hid HR.out.lt
  replace HC0 := hid ((hB.cell (p := ⟨_, 0, none⟩) (World.block_lt_of_cell? _ _ HC0.out)).trans HC0.out)
  replace HC2 := hid ((hB.cell (p := ⟨_, 0, none⟩) (World.block_lt_of_cell? _ _ HC2.out)).trans HC2.out)
  replace HC3 := hid ((hB.cell (p := ⟨_, 0, none⟩) (World.block_lt_of_cell? _ _ HC3.out)).trans HC3.out)
  replace HC4 := hid ((hB.cell (p := ⟨_, 0, none⟩) (World.block_lt_of_cell? _ _ HC4.out)).trans HC4.out)
  replace HC5 := hid ((hB.cell (p := ⟨_, 0, none⟩) (World.block_lt_of_cell? _ _ HC5.out)).trans HC5.out)
  replace HC6 := hid ((hB.cell (p := ⟨_, 0, none⟩) (World.block_lt_of_cell? _ _ HC6.out)).trans HC6.out)
  replace HR := hid (HR.out.below hB)
  replace HB := hid (HB.out.trans (hB.mono HB.out.size))
  clear hc hs hB
  go_wp2_with fail
  refine (fixed_any 2 0 _).mono ?_
  rintro e v8 ⟨rfl, hc, hs, hB⟩
  have HC8 := hid hc
  have HL8 := hid HR.out.lt
  replace HC0 := hid ((hB.cell (p := ⟨_, 0, none⟩) (World.block_lt_of_cell? _ _ HC0.out)).trans HC0.out)
  replace HC2 := hid ((hB.cell (p := ⟨_, 0, none⟩) (World.block_lt_of_cell? _ _ HC2.out)).trans HC2.out)
  replace HC3 := hid ((hB.cell (p := ⟨_, 0, none⟩) (World.block_lt_of_cell? _ _ HC3.out)).trans HC3.out)
  replace HC4 := hid ((hB.cell (p := ⟨_, 0, none⟩) (World.block_lt_of_cell? _ _ HC4.out)).trans HC4.out)
  replace HC5 := hid ((hB.cell (p := ⟨_, 0, none⟩) (World.block_lt_of_cell? _ _ HC5.out)).trans HC5.out)
  replace HC6 := hid ((hB.cell (p := ⟨_, 0, none⟩) (World.block_lt_of_cell? _ _ HC6.out)).trans HC6.out)
  replace HC7 := hid ((hB.cell (p := ⟨_, 0, none⟩) (World.block_lt_of_cell? _ _ HC7.out)).trans HC7.out)
  replace HR := hid (HR.out.below hB)
  replace HB := hid (HB.out.trans (hB.mono HB.out.size))
  clear hc hs hB
  go_wp2_with (first
    | (refine wpList_exec (.agg (fieldsL (w1.heap.size) (v0.heap.size) (v2.heap.size) (v3.heap.size) (v4.heap.size) (v5.heap.size) (v6.heap.size) (v7.heap.size)).toArray) (by rfl) (exec_build47 (.tmp 1) (.tmp 2) (.tmp 3) (.tmp 4) (.tmp 5) (.tmp 6) (.tmp 7) (.tmp 8) (.tmp 9) rfl rfl rfl rfl rfl rfl rfl rfl rfl rfl) ?_)
    | (refine wpList_store_V 47 (.tmp 0) (.tmp 10) rfl w.heap.size (fieldsL (w1.heap.size) (v0.heap.size) (v2.heap.size) (v3.heap.size) (v4.heap.size) (v5.heap.size) (v6.heap.size) (v7.heap.size)) nil9 47 rfl rfl HR.out rfl size47 (fieldsL_one _ _ _ _ _ _ _ _) (by rfl) ?_; intro w9 hN hK hS; have HN := hid hN; have HK := hid hK; clear hN hK hS))
  exact bodyPost_ret (v := .agg (fieldsL (w1.heap.size) (v0.heap.size) (v2.heap.size) (v3.heap.size) (v4.heap.size) (v5.heap.size) (v6.heap.size) (v7.heap.size)).toArray) (results_V Try.results15 rfl HN.out Try.underlying47 rfl size47) rfl ⟨w1.heap.size, v0.heap.size, v2.heap.size, v3.heap.size, v4.heap.size, v5.heap.size, v6.heap.size, v7.heap.size, rfl, ⟨(HK.out.block1 (World.block_lt_of_cell? _ _ HC0.out) (Nat.ne_of_gt HL0.out)).trans HC0.out, (HK.out.block1 (World.block_lt_of_cell? _ _ HC2.out) (Nat.ne_of_gt HL2.out)).trans HC2.out, (HK.out.block1 (World.block_lt_of_cell? _ _ HC3.out) (Nat.ne_of_gt HL3.out)).trans HC3.out, (HK.out.block1 (World.block_lt_of_cell? _ _ HC4.out) (Nat.ne_of_gt HL4.out)).trans HC4.out, (HK.out.block1 (World.block_lt_of_cell? _ _ HC5.out) (Nat.ne_of_gt HL5.out)).trans HC5.out, (HK.out.block1 (World.block_lt_of_cell? _ _ HC6.out) (Nat.ne_of_gt HL6.out)).trans HC6.out, (HK.out.block1 (World.block_lt_of_cell? _ _ HC7.out) (Nat.ne_of_gt HL7.out)).trans HC7.out, (HK.out.block1 (World.block_lt_of_cell? _ _ HC8.out) (Nat.ne_of_gt HL8.out)).trans HC8.out⟩, HB.out.trans (HK.out.below _ (Nat.le_refl _) HB.out.size)⟩
end Go.Proofs.Ytmfncpifalnggaa
