/- Rows of integers as one value (an array, a struct of integers): their cells, loads and stores of the whole, equality. No program in sight. -/
import Derived.Test.YtmfncpifalnggaaOwn2
import Derived.Test.YtmfncpifalnggaaWords
import Derived.Deep.MidRow
import Derived.ChangeKeysEq
import Derived.Laws.StructEq
import Derived.Laws.ResultCell
namespace Go.Proofs.Ytmfncpifalnggaa
open Go.RowKit

def nodeL (N : List Int) : List Value := N.map (Value.int .i64)
def nodeC (N : List Int) : Array Value := (nodeL N).toArray
theorem nodeL_length (N : List Int) : (nodeL N).length = N.length := by simp [nodeL]
theorem nodeC_size (N : List Int) : (nodeC N).size = N.length := by simp [nodeC, nodeL]
theorem nodeC_get (N : List Int) (i : Nat) : (nodeC N)[i]? = N[i]?.map (Value.int .i64) := by simp [nodeC, nodeL]
theorem nodeC_at (N : List Int) (i : Nat) (x : Int) (h : N[i]? = some x) : (nodeC N)[i]? = some (.int .i64 x) := by rw [nodeC_get, h]; rfl
theorem nodeC_set (N : List Int) (i : Nat) (x : Int) : (nodeC N).setIfInBounds i (.int .i64 x) = nodeC (N.set i x) := by
  simp only [nodeC, nodeL, List.setIfInBounds_toArray, List.map_set]
theorem nodeC_inj {N M : List Int} (h : nodeC N = nodeC M) : N = M := by
  have h1 : nodeL N = nodeL M := by simpa [nodeC] using h
  unfold nodeL at h1
  have : ∀ (N M : List Int), N.map (Value.int .i64) = M.map (Value.int .i64) → N = M := by
    intro N
    induction N with
    | nil => intro M h; cases M with
      | nil => rfl
      | cons _ _ => simp at h
    | cons x N ih => intro M h; cases M with
      | nil => simp at h
      | cons y M =>
        simp only [List.map_cons, List.cons.injEq, Value.int.injEq, true_and] at h
        rw [h.1, ih M h.2]
  exact this N M h1
theorem nodeL_one (N : List Int) : ∀ u ∈ nodeL N, u.oneCell' = true := by
  intro u hu
  obtain ⟨x, _, rfl⟩ := List.mem_map.1 hu
  rfl
theorem nodeC_one (N : List Int) : (nodeC N).all (·.oneCell') = true := all_oneCell_toArray (nodeL_one N)

/-- A block that is a row of integers. -/
def IsNode (w : World) (b : Nat) (T : TypeId) (N : List Int) : Prop := w.heap[b]? = some (.cells (nodeC N) T (0, 0))
theorem IsNode.cell {w : World} {b : Nat} {T : TypeId} {N : List Int} (h : IsNode w b T N) (i : Nat) (x : Int) (hx : N[i]? = some x) : w.cell? ⟨b, i, none⟩ = some (.int .i64 x) := by
  rw [cell_of_row w b i _ _ _ h, nodeC_at N i x hx]
theorem IsNode.free {w : World} {b : Nat} {T : TypeId} {N : List Int} (h : IsNode w b T N) (i : Nat) : w.frozen? ⟨b, i, none⟩ = false := by
  unfold IsNode at h
  simp [World.frozen?, h]
theorem IsNode.lt {w : World} {b : Nat} {T : TypeId} {N : List Int} (h : IsNode w b T N) : b < w.heap.size := (Array.getElem?_eq_some_iff.1 h).1
theorem IsNode.below {w w' : World} {b : Nat} {T : TypeId} {N : List Int} (h : IsNode w b T N) (hb : Below w.heap.size w w') : IsNode w' b T N := (hb.block b h.lt).trans h
theorem IsNode.kept {w w' : World} {b r : Nat} {T : TypeId} {N : List Int} (h : IsNode w b T N) (hk : Kept r w w') (hr : b ≠ r) : IsNode w' b T N := (hk.block b h.lt hr).trans h
theorem IsNode.new (w : World) (T : TypeId) (N : List Int) : IsNode (w.alloc (.cells (nodeC N) T)) w.heap.size T N := heap_alloc_new _ _
theorem IsNode.range {w : World} {b : Nat} {T : TypeId} {N : List Int} (h : IsNode w b T N) : w.rangeAt b 0 (nodeL N) := fun j v hv => by
  rw [Nat.zero_add, cell_of_row w b j _ _ _ h]
  simpa [nodeC] using hv
/-- Some of a row's cells, as a range. -/
theorem IsNode.part {w : World} {b : Nat} {T : TypeId} {N : List Int} (h : IsNode w b T N) (o n : Nat) (D : List Int) (hD : D = (N.drop o).take n) : w.rangeAt b o (nodeL D) := fun j v hv => by
  subst hD
  have hj : j < (nodeL ((N.drop o).take n)).length := (List.getElem?_eq_some_iff.1 hv).1
  rw [nodeL_length, List.length_take, List.length_drop] at hj
  rw [cell_of_row w b (o + j) _ _ _ h, nodeC_get]
  rw [nodeL, List.getElem?_map, List.getElem?_take, if_pos (by omega), List.getElem?_drop] at hv
  exact hv

section
variable {P : Program}
theorem load_node {w : World} {b : Nat} {T T' : TypeId} {N : List Int} {d : TypeDesc} (h : IsNode w b T' N) (hu : P.underlying T = some d) (hd : d.isRow = true) (hi : (P.info? T).map (·.size) = some N.length) :
    (Instr.loadAt T (.pointer (some ⟨b, 0, none⟩))).run P w = .ok (.agg (nodeC N)) w := run_loadAt_mid w b 0 T (nodeL N) d h.range hu hd (by rw [nodeL_length]; exact hi)
theorem loadVar_node {w : World} {b : Nat} {T T' : TypeId} {N : List Int} {d : TypeDesc} (h : IsNode w b T' N) (hu : P.underlying T = some d) (hd : d.isRow = true) (hi : (P.info? T).map (·.size) = some N.length) :
    (loadVar T ⟨b, 0, none⟩).run P w = .ok (.agg (nodeC N)) w := run_loadVar_mid w b 0 T (nodeL N) d h.range hu hd (by rw [nodeL_length]; exact hi)

/-- The whole of a block is stored. -/
theorem setCells_whole (w : World) (b : Nat) (T : TypeId) : ∀ (vs : List Value) (o : Nat) (Z : List Value), w.heap[b]? = some (.cells Z.toArray T (0, 0)) → o + vs.length = Z.length →
    (w.setCells b o vs).heap[b]? = some (.cells (Z.take o ++ vs).toArray T (0, 0))
  | [], o, Z, h, hl => by
    rw [World.setCells, List.append_nil, List.take_of_length_le (by simp at hl; omega)]
    exact h
  | v :: vs, o, Z, h, hl => by
    rw [World.setCells]
    have hlt : b < w.heap.size := (Array.getElem?_eq_some_iff.1 h).1
    have h1 : (w.setCell ⟨b, o, none⟩ v).heap[b]? = some (.cells (Z.set o v).toArray T (0, 0)) := by
      have h' : w.heap[b] = .cells Z.toArray T (0, 0) := by simpa [Array.getElem?_eq_getElem hlt] using h
      show (w.heap.modify b _)[b]? = _
      rw [Array.getElem?_eq_getElem (by simpa using hlt), Array.getElem_modify_self, h']
      simp
    simp only [List.length_cons] at hl
    rw [setCells_whole _ b T vs (o + 1) (Z.set o v) h1 (by simp; omega)]
    congr 3
    rw [List.take_succ_eq_append_getElem (by simp; omega), List.getElem_set_self, List.append_assoc, List.take_set_of_le (Nat.le_refl _)]
    rfl
theorem setCells_other (b : Nat) : ∀ (vs : List Value) (o : Nat) (w : World) (k : Nat), k ≠ b → (w.setCells b o vs).heap[k]? = w.heap[k]?
  | [], _, _, _, _ => rfl
  | v :: vs, o, w, k, h => by
    rw [World.setCells, setCells_other b vs (o + 1) _ k h]
    exact Below.heap_setCell _ _ _ _ h
theorem setCells_size (b : Nat) : ∀ (vs : List Value) (o : Nat) (w : World), (w.setCells b o vs).heap.size = w.heap.size
  | [], _, _ => rfl
  | v :: vs, o, w => by
    rw [World.setCells, setCells_size b vs (o + 1) _]
    simp [World.setCell]
theorem setCells_below (b : Nat) : ∀ (vs : List Value) (o : Nat) (w : World) (B : Nat), B ≤ b → Below B w (w.setCells b o vs)
  | [], _, _, _, _ => Below.refl _ _
  | v :: vs, o, w, B, h => by
    rw [World.setCells]
    exact ((Below.refl _ _).setCell (p := ⟨b, o, none⟩) h v).trans (setCells_below b vs (o + 1) _ B h)

/-- What a store of a whole row into a block leaves. -/
theorem wpList_store_node {ops : Array Oper} {rest : List Oper} {op : Oper} {a : Act} {w : World} {Q : Exit → Act → World → Prop} (hgd : op.guard = none) (ty : TypeId) (x y : Operand) (ho : op.op = .store ty x y)
    (b : Nat) (N : List Int) (Z : List Value) (T : TypeId) (hx : a.eval x = .pointer (some ⟨b, 0, none⟩)) (hy : a.eval y = .agg (nodeC N)) (hZ : w.heap[b]? = some (.cells Z.toArray T (0, 0))) (hl : Z.length = N.length)
    (hi : (P.info? ty).map (·.size) = some N.length)
    (h : ∀ w', IsNode w' b T N → Kept b w w' → w'.heap.size = w.heap.size → wpList P ops Q rest (a.put op.dst undef) w') : wpList P ops Q (op :: rest) a w := by
  have hcell : ∀ j, w.cell? ⟨b, j, none⟩ = Z[j]? := fun j => by rw [cell_of_row w b j _ _ _ hZ]; simp
  refine wpList_store_mid hgd ty x y ho b 0 (nodeC N) hx hy (fun j hj => ?_) (by rw [nodeC_size]; exact hi) (nodeC_one N) (h _ ?_ ⟨by rw [setCells_size]; exact Nat.le_refl _, fun k _ hk => setCells_other b _ 0 w k hk, fun B hB _ => setCells_below b _ 0 w B hB⟩ (setCells_size _ _ _ _))
  · rw [nodeC_size] at hj
    rw [Nat.zero_add, hcell]
    exact ⟨by rw [List.getElem?_eq_getElem (by omega)]; rfl, free_of_row_one hZ j⟩
  · have := setCells_whole w b T (nodeL N) 0 Z hZ (by rw [nodeL_length]; omega)
    rw [List.take_zero, List.nil_append] at this
    exact this
where
  free_of_row_one {w : World} {g : Nat} {cs : Array Value} {t : TypeId} (hg : w.heap[g]? = some (.cells cs t (0, 0))) (j : Nat) : w.frozen? ⟨g, j, none⟩ = false := by simp [World.frozen?, hg]

/-! ### Equality -/
theorem part_int {e : TypeId} (he : P.underlying e = some (.int .i64)) {xs : Array Value} {off : Nat} {v : Value} (hx : xs[off]? = some v) (w : World) : (part e xs off).run P w = .ok v w := by
  simp [part, isAgg, run_underlying he, hx]
theorem eqItems_ints (d : Nat) {e : TypeId} (he : P.underlying e = some (.int .i64)) (w : World) (N M : List Int) : ∀ (is : List Nat), (∀ i ∈ is, i < N.length ∧ i < M.length) →
    (Op.eqItems (d + 1) e 1 (nodeC N) (nodeC M) is).run P w = .ok (is.all (fun i => N.getD i 0 == M.getD i 0)) w
  | [], _ => by simp [Op.eqItems]
  | i :: is, h => by
    obtain ⟨h1, h2⟩ := h i (by simp)
    have g1 := nodeC_at N i _ (List.getElem?_eq_getElem h1)
    have g2 := nodeC_at M i _ (List.getElem?_eq_getElem h2)
    have ih := eqItems_ints d he w N M is (fun j hj => h j (by simp [hj]))
    simp only [Op.eqItems, Nat.mul_one, Sem.run_bind, part_int he g1, part_int he g2, Result.andThen_ok, run_equalIn_int w d e .i64 .i64 _ _ he]
    have e1 : N.getD i 0 = N[i] := by simp [h1]
    have e2 : M.getD i 0 = M[i] := by simp [h2]
    rw [List.all_cons, e1, e2]
    cases hq : (N[i] == M[i])
    · simp
    · simpa using ih
theorem all_getD {N M : List Int} {n : Nat} (hN : N.length = n) (hM : M.length = n) : (List.range n).all (fun i => N.getD i 0 == M.getD i 0) = decide (N = M) := by
  rw [Bool.eq_iff_iff, List.all_eq_true, decide_eq_true_iff]
  constructor
  · intro h
    apply List.ext_getElem (by omega)
    intro i h1 h2
    have := h i (by simp; omega)
    simpa [h1, h2] using this
  · rintro rfl i _
    simp
/-- Rows of as many integers are the same just if they are. -/
theorem eq_ints (d : Nat) {t e : TypeId} {n : Nat} {i : TypeInfo} (ht : P.underlying t = some (.array n e)) (he : P.underlying e = some (.int .i64)) (hi : P.info? e = some i) (hc : P.cellsOf e = 1) (w : World) (N M : List Int) (hN : N.length = n) (hM : M.length = n) :
    (Op.equalIn (d + 2) t (.agg (nodeC N)) (.agg (nodeC M))).run P w = .ok (decide (N = M)) w := by
  rw [run_equalIn_array w (d + 1) _ _ ht hi, hc, eqItems_ints d he w N M _ (fun i hi => by simp at hi; omega), all_getD hN hM]
end
/-- An element of a row. -/
theorem index_ints {P : Program} {t e : TypeId} {n : Nat} {i : TypeInfo} (ht : P.underlying t = some (.array n e)) (he : P.underlying e = some (.int .i64)) (hi : P.info? e = some i) (hs : i.size = 1) (N : List Int) (j : Nat) (hj : j < n) (x : Int) (hx : N[j]? = some x) (w : World) :
    (Instr.index t (.agg (nodeC N)) (.int .i64 (j : Int))).run P w = .ok (.int .i64 x) w := by
  unfold Instr.index
  have g := nodeC_at N j x hx
  have hsz : (sizeOf e).run P w = .ok 1 w := by simp [sizeOf, typeInfo, hi, hs]
  simp only [asIntOf, Sem.run_bind, Sem.run_pure, Result.andThen_ok, run_underlying ht]
  have hc : 0 ≤ (j : Int) ∧ (j : Int) < (n : Int) := by omega
  rw [if_pos hc]
  simp only [Sem.run_bind, hsz, Result.andThen_ok, Nat.mul_one, Int.toNat_natCast]
  exact part_int he g w
theorem IsNums.alloc_new (w : World) (N : List Int) (e : TypeId) (fr : Nat × Nat) (C : Array Value) (h : C.toList = nodeL N) : IsNums .i64 (w.alloc (.cells C e fr)) (some ⟨w.heap.size, 0, none⟩) N := by
  refine ⟨w.heap.size, 0, fun _ => rfl, fun i hi => ?_⟩
  rw [Nat.zero_add, World.cell?_alloc_mark, ← Array.getElem?_toList, h, nodeL, List.getElem?_map, List.getElem?_eq_getElem hi]
  rfl
theorem IsNode.nums {w : World} {b : Nat} {T : TypeId} {N : List Int} (h : IsNode w b T N) (o n : Nat) (D : List Int) (hD : D = (N.drop o).take n) : IsNums .i64 w (some ⟨b, o, none⟩) D :=
  ⟨b, o, fun _ => rfl, fun i hi => h.part o n D hD i _ (by rw [nodeL, List.getElem?_map, List.getElem?_eq_getElem hi]; rfl)⟩
theorem IsNums.alloc_at {w : World} {g : Nat} (hg : g = w.heap.size) (N : List Int) {e : TypeId} {fr : Nat × Nat} {C : Array Value} (h : C.toList = nodeL N) : IsNums .i64 (w.alloc (.cells C e fr)) (some ⟨g, 0, none⟩) N := by
  subst hg
  exact IsNums.alloc_new w N e fr C h
theorem IsBytes.alloc_at {w : World} {g : Nat} (hg : g = w.heap.size) (l : List UInt8) {e : TypeId} {fr : Nat × Nat} {C : Array Value} (h : C.toList = l.map (fun c => Value.int .u8 (n8 c))) : IsBytes (w.alloc (.cells C e fr)) (some ⟨g, 0, none⟩) l := by
  subst hg
  exact IsBytes.alloc_new w C e fr l h
theorem IsNode.at {w : World} {g : Nat} (hg : g = w.heap.size) (T : TypeId) (N : List Int) {C : Array Value} (h : C = nodeC N) : IsNode (w.alloc (.cells C T)) g T N := by
  subst hg h
  exact IsNode.new w T N
theorem below1 (w : World) (o1 : Obj) : Below w.heap.size w (w.alloc o1) := (Below.refl _ _).alloc (Nat.le_refl _) o1
theorem below2 (w : World) (o1 o2 : Obj) : Below w.heap.size w ((w.alloc o1).alloc o2) := (below1 w o1).alloc (by simp) o2
theorem below3 (w : World) (o1 o2 o3 : Obj) : Below w.heap.size w (((w.alloc o1).alloc o2).alloc o3) := (below2 w o1 o2).alloc (by simp; omega) o3
/-- A load of a row of integers. -/
theorem wpList_load_ints {P : Program} {ops : Array Oper} {rest : List Oper} {op : Oper} {a : Act} {w : World} {Q : Exit → Act → World → Prop} (hgd : op.guard = none) (ty : TypeId) (x : Operand) (ho : op.op = .load ty x)
    (b o : Nat) (hx : a.eval x = .pointer (some ⟨b, o, none⟩)) (D : List Int) (d : TypeDesc) (hc : w.rangeAt b o (nodeL D))
    (hu : P.underlying ty = some d) (hd : d.isRow = true) (hi : (P.info? ty).map (·.size) = some D.length)
    (h : wpList P ops Q rest (a.put op.dst (.agg (nodeC D))) w) : wpList P ops Q (op :: rest) a w :=
  wpList_load_mid hgd ty x ho b o hx (nodeL D) d hc hu hd (by rw [nodeL_length]; exact hi) h
/-- Two results, the first one a struct that lies in memory. -/
theorem results_cell {fn : Func} {p u : Tmp} {ty : TypeId} (h : fn.results = #[.cell p ty, .tmp u]) {P : Program} {w : World} {a : Addr} {C v : Value} {tmps : Array Value} (h1 : tmps.getD p undef = .pointer (some a)) (h2 : tmps.getD u undef = v) (hld : (loadVar ty a).run P w = .ok C w) :
    (results fn tmps).run P w = .ok (.tuple #[C, v]) w := by
  rw [results_cell_tmp h, h1, h2]
  simp [asAddr, hld, Result.andThen]
/-- Bytes lie in no row of integers. -/
theorem IsBytes.keptN {w w' : World} {g : Nat} {T : TypeId} {N : List Int} {a : Option Addr} {l : List UInt8} (h : IsBytes w a l) (hg : IsNode w g T N) (hk : Kept g w w') : IsBytes w' a l := by
  obtain ⟨b, o, e1, e2⟩ := h
  refine ⟨b, o, e1, fun i hi => ?_⟩
  have e3 := e2 i hi
  have hbg : b ≠ g ∨ b = g := by omega
  rcases hbg with hbg | rfl
  · rw [← e3]
    exact World.cell?_of_block (hk.block b (World.block_lt_of_cell? _ _ e3) hbg)
  · rw [cell_of_row _ b _ _ _ _ hg, nodeC_get] at e3
    cases hq : N[o + i]? with
    | none => rw [hq] at e3; cases e3
    | some v => rw [hq] at e3; cases e3
/-- A load of a row of integers, guarded. -/
theorem wpList_load_intsG {P : Program} {ops : Array Oper} {rest : List Oper} {op : Oper} {a : Act} {w : World} {Q : Exit → Act → World → Prop} (hgd : Region.wanted op (yielded ops a.tmps) = true) (ty : TypeId) (x : Operand) (ho : op.op = .load ty x)
    (b o : Nat) (hx : a.eval x = .pointer (some ⟨b, o, none⟩)) (D : List Int) (d : TypeDesc) (hc : w.rangeAt b o (nodeL D))
    (hu : P.underlying ty = some d) (hd : d.isRow = true) (hi : (P.info? ty).map (·.size) = some D.length)
    (h : wpList P ops Q rest (a.put op.dst (.agg (nodeC D))) w) : wpList P ops Q (op :: rest) a w :=
  wpList_step fun _ hK => by
    rw [if_pos hgd]
    exact wp_load_mid ty x ho b o hx (nodeL D) d hc hu hd (by rw [nodeL_length]; exact hi) (hK _ _ h)
end Go.Proofs.Ytmfncpifalnggaa
