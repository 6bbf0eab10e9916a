/- Slices that the call itself makes: append, make, a store, as run equations over a world of which only this is known. One-cell elements. No program in sight. -/
import Derived.Test.YtpnhmcckdpdilaaBase
import Derived.Maps.AppendAt
namespace Go.Proofs.Ytpnhmcckdpdilaa
open Go.RowKit

def byteV (c : UInt8) : Value := .int .u8 (n8 c)

/-- The values xs lie at the address a (whatever a, if there are none). -/
def IsRow (w : World) (a : Option Addr) (xs : List Value) : Prop :=
  ∃ b off, (xs ≠ [] → a = some ⟨b, off, none⟩) ∧ ∀ i, (h : i < xs.length) → w.cell? ⟨b, off + i, none⟩ = some xs[i]

theorem IsBytes.row {w : World} {a : Option Addr} {l : List UInt8} (h : IsBytes w a l) : IsRow w a (l.map byteV) := by
  obtain ⟨b, off, h1, h2⟩ := h
  refine ⟨b, off, fun hn => h1 (by rintro rfl; simp at hn), fun i hi => ?_⟩
  rw [h2 i (by simpa using hi)]
  simp [byteV]
theorem IsRow.bytes {w : World} {a : Option Addr} {l : List UInt8} (h : IsRow w a (l.map byteV)) : IsBytes w a l := by
  obtain ⟨b, off, h1, h2⟩ := h
  refine ⟨b, off, fun hn => h1 (by simpa using hn), fun i hi => ?_⟩
  rw [h2 i (by simpa using hi)]
  simp [byteV]
theorem IsRow.nil (w : World) (a : Option Addr) : IsRow w a [] := ⟨0, 0, fun h => absurd rfl h, fun _ h => absurd h (by simp)⟩
theorem IsRow.keep {w w' : World} {a : Option Addr} {xs : List Value} (h : IsRow w a xs) (hk : ∀ p : Addr, p.block < w.heap.size → w'.cell? p = w.cell? p) : IsRow w' a xs := by
  obtain ⟨b, off, h1, h2⟩ := h
  exact ⟨b, off, h1, fun i hi => (hk _ (World.block_lt_of_cell? w _ (h2 i hi))).trans (h2 i hi)⟩
theorem IsRow.below {w w' : World} {a : Option Addr} {xs : List Value} (h : IsRow w a xs) (hb : Below w.heap.size w w') : IsRow w' a xs := h.keep fun _ hp => hb.cell hp
theorem IsRow.alloc_new (w : World) (C : Array Value) (e : TypeId) (fr : Nat × Nat) (xs : List Value) (h : C.toList = xs) : IsRow (w.alloc (.cells C e fr)) (some ⟨w.heap.size, 0, none⟩) xs := by
  refine ⟨w.heap.size, 0, fun _ => rfl, fun i hi => ?_⟩
  rw [Nat.zero_add, World.cell?_alloc_mark, ← Array.getElem?_toList, h]
  simp [hi]

/-- The slice at A, of capacity c, owns the cells xs, in a block from base on. -/
def Own (e : TypeId) (base : Nat) (w : World) (A : Option Addr) (c : Nat) (xs : List Value) : Prop := w.ownsRow base e 1 (.slice A xs.length c) xs.length xs

section
variable {e : TypeId} {base : Nat} {w : World} {A : Option Addr} {c : Nat} {xs : List Value}

theorem Own.row (h : Own e base w A c xs) : IsRow w A xs := by
  rcases h.2 with ⟨hv, hn⟩ | ⟨g, cap, cur, hv, hb, hg, hnc, hcm, hcs, ht⟩
  · have : xs = [] := List.eq_nil_of_length_eq_zero hn
    subst this
    exact IsRow.nil _ _
  · injection hv with hv _ hc
    subst hv hc
    refine ⟨g, 0, fun _ => rfl, fun i hi => ?_⟩
    rw [Nat.zero_add, cell_of_row w g i cur e (0, 0) hg]
    have hx : xs[i]? = some xs[i] := List.getElem?_eq_getElem hi
    rw [← hx]
    conv => rhs; rw [← ht]
    rw [List.getElem?_take, if_pos (by omega), Array.getElem?_toList]
theorem Own.len (h : Own e base w A c xs) : xs.length ≤ c ∧ c ≤ maxLen := by
  rcases h.2 with ⟨hv, hn⟩ | ⟨g, cap, cur, hv, hb, hg, hnc, hcm, hcs, ht⟩
  · injection hv with _ _ hc
    subst hc
    exact ⟨by omega, by simp [maxLen]⟩
  · injection hv with hv _ hc
    subst hc
    exact ⟨hnc, hcm⟩
theorem Own.form (h : Own e base w A c xs) (hn : xs ≠ []) : ∃ g, A = some ⟨g, 0, none⟩ ∧ base ≤ g ∧ g < w.heap.size := by
  rcases h.2 with ⟨hv, hn'⟩ | ⟨g, cap, cur, hv, hb, hg, hnc, hcm, hcs, ht⟩
  · exact absurd (List.eq_nil_of_length_eq_zero hn') hn
  · injection hv with hv _ hc
    exact ⟨g, hv, hb, (Array.getElem?_eq_some_iff.1 hg).1⟩
theorem Own.keep {w' : World} (h : Own e base w A c xs) (hb : Below w.heap.size w w') : Own e base w' A c xs := by
  refine ⟨h.1, ?_⟩
  rcases h.2 with hn | ⟨g, cap, cur, hv, hbg, hg, r⟩
  · exact .inl hn
  · exact .inr ⟨g, cap, cur, hv, hbg, (hb.block g (Array.getElem?_eq_some_iff.1 hg).1).trans hg, r⟩
theorem Own.mono {base' : Nat} (h : Own e base w A c xs) (hb : base' ≤ base) : Own e base' w A c xs := by
  refine ⟨h.1, ?_⟩
  rcases h.2 with hn | ⟨g, cap, cur, hv, hbg, r⟩
  · exact .inl hn
  · exact .inr ⟨g, cap, cur, hv, by omega, r⟩
theorem Own.empty (e : TypeId) (w : World) (hb : base ≤ w.heap.size) : Own e base (w.alloc (.cells #[] e)) (some ⟨w.heap.size, 0, none⟩) 0 [] :=
  World.ownsRow_made w #[] 0 hb (by simp [maxLen]) rfl
theorem Own.nothing : Own e base w none 0 [] := World.ownsRow_nil _ _ _ _
theorem Own.lit (e : TypeId) (w : World) (C : Array Value) (hb : base ≤ w.heap.size) (hC : C.toList = xs) (hm : xs.length ≤ maxLen) : Own e base (w.alloc (.cells C e)) (some ⟨w.heap.size, 0, none⟩) xs.length xs := by
  have hs : C.size = xs.length := by rw [← hC]; simp
  exact ⟨by simp, .inr ⟨w.heap.size, xs.length, C, rfl, hb, heap_alloc_new w _, Nat.le_refl _, hm, by omega, by rw [hC]; simp⟩⟩

/-- A store. -/
theorem Own.set {g : Nat} (h : Own e base w (some ⟨g, 0, none⟩) c xs) (j : Nat) (u : Value) : Own e base (w.setCell ⟨g, j, none⟩ u) (some ⟨g, 0, none⟩) c (xs.set j u) := by
  have := (World.ownsRow.stored h j u).1
  unfold Own
  rwa [List.length_set]
theorem Own.unfrozen {g : Nat} (h : Own e base w (some ⟨g, 0, none⟩) c xs) (j : Nat) : w.frozen? ⟨g, j, none⟩ = false := World.ownsRow.frozenAt h j
theorem Own.cell {g : Nat} (h : Own e base w (some ⟨g, 0, none⟩) c xs) (j : Nat) (hj : j < xs.length) : w.cell? ⟨g, j, none⟩ = some xs[j] := by
  have hc := h.cells (g := g) rfl j _ (List.getElem?_eq_getElem hj)
  have ha : (⟨g, 0, none⟩ : Addr).add j = ⟨g, j, none⟩ := by unfold Addr.add; split <;> simp_all
  rwa [ha] at hc
end

/-- What a type's row of the table says of an element of one cell. -/
structure ElemOf (P : Program) (t e : TypeId) (z : Value) (bytes : Nat) : Prop where
  slice : P.underlying t = some (.slice e)
  info : (P.info? e).map (fun i => (i.zero, i.size, i.bytes)) = some (some z, 1, bytes)
  one : z.cells = #[z]

section
variable {P : Program} {t e : TypeId} {z : Value} {bytes : Nat}

/-- append: whatever room there is. -/
theorem append_run (E : ElemOf P t e z bytes) (ty : TypeId) {base : Nat} {w : World} {A A2 : Option Addr} {n c m c2 : Nat} {xs ys : List Value} (hown : Own e base w A c xs) (hn : xs.length = n)
    (hr : IsRow w A2 ys) (hm : ys.length = m) (h1 : ∀ u ∈ ys, u.oneCell' = true) (hbytes : (n + m) * bytes ≤ 140737488355328) (h63 : n + m ≤ 140737488355328) (hbase : base ≤ w.heap.size) :
    ∃ A' c' w', (Builtin.append_ #[t, t] ty #[.slice A n c, .slice A2 m c2]).run P w = .ok (.slice A' (n + m) c') w' ∧ Own e base w' A' c' (xs ++ ys) ∧ Below base w w' := by
  subst hn hm
  obtain ⟨i, hi, hz, hs, hb⟩ := info_parts E.info
  have hmax : xs.length + ys.length ≤ maxLen := by simp only [maxLen]; omega
  have fin : ∀ v' w', w'.ownsRow base e 1 v' (xs.length + ys.length) (xs ++ ys) → w.grownBy w' (Value.slice A xs.length c).ownBlock →
      (Builtin.append_ #[t, t] ty #[.slice A xs.length c, .slice A2 ys.length c2]).run P w = .ok v' w' →
      ∃ A' c' w', (Builtin.append_ #[t, t] ty #[.slice A xs.length c, .slice A2 ys.length c2]).run P w = .ok (.slice A' (xs.length + ys.length) c') w' ∧ Own e base w' A' c' (xs ++ ys) ∧ Below base w w' := by
    intro v' w' ho hg hrun
    have hbl : Below base w w' := (Below.refl base w).grown hg hbase (fun k hk => (hown.lt k hk).1)
    rcases ho.2 with ⟨hv, h0⟩ | ⟨g, cap, cur, hv, r⟩
    · subst hv
      have h0' : xs.length + ys.length = 0 := h0
      refine ⟨none, 0, w', by rw [hrun, h0'], ?_, hbl⟩
      unfold Own
      rw [List.length_append, h0']
      rw [h0'] at ho
      exact ho
    · subst hv
      refine ⟨_, _, w', hrun, ?_, hbl⟩
      unfold Own
      rw [List.length_append]
      exact ho
  obtain ⟨b, off, ha, hc⟩ := hr
  by_cases hy : ys = []
  · subst hy
    cases A2 with
    | none =>
      have hrun : (Builtin.append_ #[t, t] ty #[.slice A xs.length c, .slice none ([] : List Value).length c2]).run P w = .ok (.slice A xs.length c) w := by
        rcases hown.2 with ⟨hv, hn⟩ | ⟨g, cap, cur, hv, _, _, hnc, _⟩
        · injection hv with h1 h2 h3
          subst h1 h3
          rw [h2]
          simp [Builtin.append_, run_underlying E.slice, sizeOf, typeInfo, hi, Builtin.lenOf, Builtin.firstCells]
        · injection hv with h1 h2 h3
          subst h1 h3
          simp [Builtin.append_, run_underlying E.slice, sizeOf, typeInfo, hi, Builtin.lenOf, Builtin.firstCells, hnc, storeCells]
      exact ⟨A, c, w, hrun, by simpa [Own] using hown, Below.refl _ _⟩
    | some ad =>
      obtain ⟨v', w', hrun, ho, hg, _, _⟩ := run_append_own_at (P := P) w base t ty e i z 1 bytes E.slice hi hz hs hb (by rw [E.one]; rfl) (by omega) _ _ xs hown ad 0 c2 [] rfl (by simp) (by simp) (by simpa using hmax) (by simpa using hbytes) hbase
      exact fin v' w' ho hg hrun
  · have := ha hy
    subst this
    obtain ⟨v', w', hrun, ho, hg, _, _⟩ := run_append_own_at (P := P) w base t ty e i z 1 bytes E.slice hi hz hs hb (by rw [E.one]; rfl) (by omega) _ _ xs hown ⟨b, off, none⟩ ys.length c2 ys (by simp)
      (fun j u hu => by
        obtain ⟨hj, rfl⟩ := List.getElem?_eq_some_iff.1 hu
        have h2 : (⟨b, off, none⟩ : Addr).add j = ⟨b, off + j, none⟩ := by unfold Addr.add; split <;> simp_all
        rw [h2]
        exact hc j hj) h1 hmax hbytes hbase
    exact fin v' w' ho hg hrun

/-- make([]T, n) -/
theorem make_run (E : ElemOf P t e z bytes) {base : Nat} {w : World} (kl kc : IntKind) (n : Nat) (hbytes : bytes * n ≤ 281474976710656) (h63 : n ≤ 140737488355328) (hbase : base ≤ w.heap.size) :
    ∃ w', (Instr.makeSlice t (.int kl (n : Int)) (.int kc (n : Int))).run P w = .ok (.slice (some ⟨w.heap.size, 0, none⟩) n n) w' ∧
      Own e base w' (some ⟨w.heap.size, 0, none⟩) n (List.replicate n z) ∧ Below w.heap.size w w' ∧ w'.heap.size = w.heap.size + 1 := by
  obtain ⟨i, hi, hz, hs, hb⟩ := info_parts E.info
  have hmax : n ≤ maxLen := by simp only [maxLen]; omega
  have hr := run_make (P := P) w t e i z E.slice hi hz kl kc n n (by omega) (Int.le_refl _) (by
    rw [hb]
    have h : ((bytes * n : Nat) : Int) ≤ 281474976710656 := by omega
    rwa [Int.natCast_mul] at h) (by omega)
  simp only [Int.toNat_natCast, E.one, hs, Nat.mul_one] at hr
  refine ⟨_, hr, ?_, (Below.refl _ _).alloc (Nat.le_refl _) _, by simp⟩
  have := Own.lit (xs := List.replicate n z) e w (madeCells #[z] n) hbase (toList_madeCells_one z n) (by simpa using hmax)
  rwa [List.length_replicate] at this

/-- make([]T, 0, n) -/
theorem make0_run (E : ElemOf P t e z bytes) {base : Nat} {w : World} (kl kc : IntKind) (n : Nat) (hbytes : bytes * n ≤ 281474976710656) (h63 : n ≤ 140737488355328) (hbase : base ≤ w.heap.size) :
    ∃ w', (Instr.makeSlice t (.int kl 0) (.int kc (n : Int))).run P w = .ok (.slice (some ⟨w.heap.size, 0, none⟩) 0 n) w' ∧
      Own e base w' (some ⟨w.heap.size, 0, none⟩) n [] ∧ Below w.heap.size w w' ∧ w'.heap.size = w.heap.size + 1 := by
  obtain ⟨i, hi, hz, hs, hb⟩ := info_parts E.info
  have hmax : n ≤ maxLen := by simp only [maxLen]; omega
  have hr := run_make (P := P) w t e i z E.slice hi hz kl kc 0 n (by omega) (by omega) (by
    rw [hb]
    have h : ((bytes * n : Nat) : Int) ≤ 281474976710656 := by omega
    rwa [Int.natCast_mul] at h) (by omega)
  simp only [Int.toNat_natCast, Int.toNat_zero, E.one, hs, Nat.mul_one] at hr
  exact ⟨_, hr, World.ownsRow_made w _ n hbase hmax (by rw [size_madeCells, Nat.mul_one]), (Below.refl _ _).alloc (Nat.le_refl _) _, by simp⟩
end

/-- The walk's step at an append (a copy) whose run is known. -/
theorem wpList_append_run {P : Program} {ops : Array Oper} {rest : List Oper} {o : Oper} {a : Act} {Q : Exit → Act → World → Prop} {w w' : World} (s x : Operand) {t t' : TypeId} {v y v' : Value}
    (hrun : (Builtin.append_ #[t, t'] o.type #[v, y]).run P w = .ok v' w')
    (hw : Region.wanted o (yielded ops a.tmps) = true) (ho : o.op = .call { callee := .builtin .append, args := #[s, x], argTypes := #[t, t'] })
    (hs : a.eval s = v) (hx : a.eval x = y) (h : wpList P ops Q rest (a.put o.dst v') w') : wpList P ops Q (o :: rest) a w := by
  refine wpList_step fun K hK => ?_
  rw [if_pos hw]
  unfold Oper.wp execOp
  simp only [ho, resolve, invoke, builtin, Sem.run_bind, Sem.run_pure, Result.andThen_ok, List.map_toArray, List.map_cons, List.map_nil, hs, hx, hrun]
  exact hK _ _ h
theorem wpList_copy_run {P : Program} {ops : Array Oper} {rest : List Oper} {o : Oper} {a : Act} {Q : Exit → Act → World → Prop} {w w' : World} (s x : Operand) {t t' : TypeId} {v y v' : Value}
    (hrun : (Builtin.copy_ #[t, t'] o.type #[v, y]).run P w = .ok v' w')
    (hw : Region.wanted o (yielded ops a.tmps) = true) (ho : o.op = .call { callee := .builtin .copy, args := #[s, x], argTypes := #[t, t'] })
    (hs : a.eval s = v) (hx : a.eval x = y) (h : wpList P ops Q rest (a.put o.dst v') w') : wpList P ops Q (o :: rest) a w := by
  refine wpList_step fun K hK => ?_
  rw [if_pos hw]
  unfold Oper.wp execOp
  simp only [ho, resolve, invoke, builtin, Sem.run_bind, Sem.run_pure, Result.andThen_ok, List.map_toArray, List.map_cons, List.map_nil, hs, hx, hrun]
  exact hK _ _ h
theorem wpList_make_run {P : Program} {ops : Array Oper} {rest : List Oper} {o : Oper} {a : Act} {Q : Exit → Act → World → Prop} {w w' : World} {l c : Operand} {t : TypeId} {lv cv v' : Value}
    (hrun : (Instr.makeSlice t lv cv).run P w = .ok v' w')
    (hw : Region.wanted o (yielded ops a.tmps) = true) (ho : o.op = .makeSlice t l c)
    (hl : a.eval l = lv) (hc : a.eval c = cv) (h : wpList P ops Q rest (a.put o.dst v') w') : wpList P ops Q (o :: rest) a w := by
  refine wpList_step fun K hK => ?_
  rw [if_pos hw]
  unfold Oper.wp execOp
  simp only [ho, hl, hc, Sem.run_bind, Sem.run_pure, Result.andThen_ok, hrun]
  exact hK _ _ h

theorem rep_byteV (n : Nat) : List.replicate n (Value.int .u8 0) = (List.replicate n (0 : UInt8)).map byteV := by
  rw [List.map_replicate]
  rfl
theorem min4 (P : Program) (n1 n2 n3 K : Nat) (KI : Int) (hK : KI = (K : Int)) : ∃ n : Nat, (∀ (ts : Array TypeId) (t : TypeId) (W : World), (Builtin.min_ ts t #[.int .i64 (n1 : Int), .int .i64 (n2 : Int), .int .i64 (n3 : Int), .int .i64 KI]).run P W = .ok (.int .i64 (n : Int)) W) ∧ n ≤ n1 ∧ n ≤ n2 ∧ n ≤ n3 ∧ n ≤ K := by
  subst hK
  refine ⟨min (min (min n1 n2) n3) K, fun ts t W => ?_, by omega, by omega, by omega, by omega⟩
  simp [Builtin.min_, Builtin.min2]
  split <;> split <;> (try split) <;> omega
theorem byteV_one : ∀ (l : List UInt8), ∀ u ∈ l.map byteV, u.oneCell' = true := by
  intro l u hu
  obtain ⟨c, _, rfl⟩ := List.mem_map.1 hu
  rfl
end Go.Proofs.Ytpnhmcckdpdilaa
