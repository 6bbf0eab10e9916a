/- More on slices that the call itself makes: copy; append and copy as one step of a region that draws its order; what is kept where one block alone is written. No program in sight. -/
import Derived.Test.YtpnhmcckdpdilaaOwn
import Derived.Laws.CopyOwn
import Derived.OneCell
namespace Go.Proofs.Ytpnhmcckdpdilaa
open Go.RowKit

section
variable {P : Program} {t e : TypeId} {z : Value} {bytes : Nat}

/-- copy: whatever is shorter. -/
theorem copy_run (E : ElemOf P t e z bytes) (ty : TypeId) {base : Nat} {w : World} {A A2 : Option Addr} {n c m c2 : Nat} {xs ys : List Value} (hown : Own e base w A c xs) (hn : xs.length = n)
    (hr : IsRow w A2 ys) (hm : ys.length = m) (h1 : ∀ u ∈ ys, u.oneCell' = true) :
    ∃ w', (Builtin.copy_ #[t, t] ty #[.slice A n c, .slice A2 m c2]).run P w = .ok (.int .i64 ((min m n : Nat) : Int)) w' ∧ Own e base w' A c (ys.take n ++ xs.drop m) ∧ Below base w w' ∧ w'.heap.size = w.heap.size := by
  subst hn hm
  have hsz : (P.info? e).map (·.size) = some 1 := by
    obtain ⟨i, hi, hz, hs, hb⟩ := info_parts E.info
    rw [hi]; simp [hs]
  by_cases h0 : Nat.min ys.length xs.length = 0
  · refine ⟨w, ?_, ?_, Below.refl _ _, rfl⟩
    · have := run_copy_none (P := P) w t t ty e A A2 xs.length c ys.length c2 E.slice hsz h0
      rw [this]
      have h0' : min ys.length xs.length = 0 := h0
      rw [h0']
      rfl
    · rcases Nat.eq_zero_or_pos ys.length with h | h
      · have : ys = [] := List.eq_nil_of_length_eq_zero h
        subst this
        simpa using hown
      · have hx : xs.length = 0 := by
          have h0' : min ys.length xs.length = 0 := h0
          omega
        have : xs = [] := List.eq_nil_of_length_eq_zero hx
        subst this
        simpa using hown
  · have h0' : min ys.length xs.length ≠ 0 := h0
    rcases hown.2 with ⟨hv, hn⟩ | ⟨g, cap, cur, hv, hb, hg, hnc, hcm, hcs, ht⟩
    · omega
    · injection hv with hv _ hc
      subst hv hc
      obtain ⟨b, off, ha, hcell⟩ := hr
      have := ha (by rintro rfl; simp at h0')
      subst this
      have hl : (ys.take xs.length).length = Nat.min ys.length xs.length := by
        rw [List.length_take]
        exact Nat.min_comm _ _
      have hcs' : cur.size = c := by omega
      have hrun := run_copy_row (P := P) w t t ty e g 0 xs.length c ⟨b, off, none⟩ ys.length c2 cur e (ys.take xs.length) E.slice hsz hg hl
        (fun j u hu => by
          obtain ⟨hj, rfl⟩ := List.getElem?_eq_some_iff.1 hu
          have h2 : (⟨b, off, none⟩ : Addr).add j = ⟨b, off + j, none⟩ := by unfold Addr.add; split <;> simp_all
          rw [h2, List.getElem_take]
          exact hcell j (by simp at hj; omega))
        (by rw [List.length_take]; omega) (fun u hu => h1 u (List.mem_of_mem_take hu))
      rw [hl, show Nat.min ys.length xs.length = min ys.length xs.length from rfl] at hrun
      refine ⟨_, hrun, ?_, below_setRow (Below.refl _ _) hb _, by simp⟩
      have hlen : (ys.take xs.length ++ xs.drop ys.length).length = xs.length := by
        rw [List.length_append, List.length_take, List.length_drop]
        omega
      have hx : ∀ j, j < xs.length → xs[j]? = cur.toList[j]? := fun j hj => by
        conv => lhs; rw [← ht]
        rw [List.getElem?_take, if_pos (by omega)]
      unfold Own
      rw [hlen]
      refine ⟨by rw [hlen, Nat.mul_one], .inr ⟨g, c, _, rfl, hb, setRow_heap w g cur _ e (0, 0) hg, hnc, hcm, ?_, ?_⟩⟩
      · simp only [List.take_zero, List.nil_append, Nat.zero_add, List.size_toArray, List.length_append, List.length_take, List.length_drop, Array.length_toList]
        omega
      · simp only [List.take_zero, List.nil_append, Nat.zero_add, Nat.mul_one]
        rw [List.take_append, List.take_of_length_le (by rw [List.length_take]; omega)]
        congr 1
        apply List.ext_getElem?
        intro i
        rw [List.getElem?_take, List.getElem?_drop, List.getElem?_drop, List.length_take]
        by_cases h2 : ys.length + i < xs.length
        · rw [if_pos (by omega), hx _ h2, show min ys.length xs.length = ys.length by omega]
        · rw [if_neg (by omega), List.getElem?_eq_none (l := xs) (by omega)]
end

/-- An append (a copy) whose run is known, as one step of a region that draws its order. -/
theorem step_append_run {P : Program} {ops : Array Oper} {o : Oper} {a : Act} {w w' : World} {K : Act → World → Prop} {Q : Exit → Act → World → Prop} {E : Prop} (s x : Operand) {t t' : TypeId} {v y v' : Value}
    (hrun : (Builtin.append_ #[t, t'] o.type #[v, y]).run P w = .ok v' w')
    (hw : Region.wanted o (yielded ops a.tmps) = true) (ho : o.op = .call { callee := .builtin .append, args := #[s, x], argTypes := #[t, t'] })
    (hs : a.eval s = v) (hx : a.eval x = y) (hK : K (a.put o.dst v') w') : if Region.wanted o (yielded ops a.tmps) = true then Oper.wp P o a w K Q else E := by
  rw [if_pos hw]
  unfold Oper.wp execOp
  simp only [ho, resolve, invoke, builtin, Sem.run_bind, Sem.run_pure, Result.andThen_ok, List.map_toArray, List.map_cons, List.map_nil, hs, hx, hrun]
  exact hK

/-! ### One block alone is written -/
/-- Of what was there, block r alone may have turned; and below r (and below whatever is ahead of it) nothing has. -/
structure Kept (r : Nat) (w w' : World) : Prop where
  size : w.heap.size ≤ w'.heap.size
  block : ∀ k, k < w.heap.size → k ≠ r → w'.heap[k]? = w.heap[k]?
  below : ∀ B, B ≤ r → B ≤ w.heap.size → Below B w w'
theorem Kept.refl (r : Nat) (w : World) : Kept r w w := ⟨Nat.le_refl _, fun _ _ _ => rfl, fun _ _ _ => Below.refl _ _⟩
theorem Kept.trans {r : Nat} {a b c : World} (h : Kept r a b) (k : Kept r b c) : Kept r a c :=
  ⟨Nat.le_trans h.size k.size, fun i hi hr => (k.block i (Nat.lt_of_lt_of_le hi h.size) hr).trans (h.block i hi hr), fun B h1 h2 => (h.below B h1 h2).trans (k.below B h1 (Nat.le_trans h2 h.size))⟩
theorem Kept.of_below {r : Nat} {w w' : World} (h : Below w.heap.size w w') : Kept r w w' := ⟨h.size, fun k hk _ => h.block k hk, fun _ _ h2 => h.mono h2⟩
theorem Kept.setCell {r : Nat} (w : World) (o : Nat) (v : Value) : Kept r w (w.setCell ⟨r, o, none⟩ v) :=
  ⟨by simp [World.setCell], fun k _ hr => Below.heap_setCell _ _ _ _ hr, fun _ h1 _ => (Below.refl _ _).setCell h1 _⟩
theorem IsRow.kept {r : Nat} {w w' : World} {a : Option Addr} {xs : List Value} (h : IsRow w a xs) (hk : Kept r w w') (hr : xs ≠ [] → ∀ b off, a = some ⟨b, off, none⟩ → b ≠ r) : IsRow w' a xs := by
  obtain ⟨b, off, h1, h2⟩ := h
  refine ⟨b, off, h1, fun i hi => ?_⟩
  have hne : xs ≠ [] := by rintro rfl; simp at hi
  rw [← h2 i hi]
  exact World.cell?_of_block (hk.block b (World.block_lt_of_cell? w _ (h2 i hi)) (hr hne b off (h1 hne)))
theorem Own.kept {r : Nat} {e : TypeId} {base : Nat} {w w' : World} {A : Option Addr} {c : Nat} {xs : List Value} (h : Own e base w A c xs) (hk : Kept r w w') (hr : ∀ g, A = some ⟨g, 0, none⟩ → g ≠ r) : Own e base w' A c xs := by
  refine ⟨h.1, ?_⟩
  rcases h.2 with hn | ⟨g, cap, cur, hv, hbg, hg, rest⟩
  · exact .inl hn
  · injection hv with hv _ _
    subst hv
    exact .inr ⟨g, cap, cur, by simp_all, hbg, (hk.block g (Array.getElem?_eq_some_iff.1 hg).1 (hr g rfl)).trans hg, rest⟩
end Go.Proofs.Ytpnhmcckdpdilaa
