/- A slice that is made with room and filled in place: append into a row. No program in sight. -/
import Derived.Test.YtmfncpifalnggaaRowV
import Derived.ArgAppend
namespace Go.Proofs.Ytmfncpifalnggaa
open Go.RowKit

theorem setCells_part (w : World) (b : Nat) (T : TypeId) : ∀ (vs : List Value) (o : Nat) (Z : List Value), w.heap[b]? = some (.cells Z.toArray T (0, 0)) → o + vs.length ≤ Z.length →
    (w.setCells b o vs).heap[b]? = some (.cells (Z.take o ++ vs ++ Z.drop (o + vs.length)).toArray T (0, 0))
  | [], o, Z, h, hl => by
    rw [World.setCells, List.append_nil, List.length_nil, Nat.add_zero, List.take_append_drop]
    exact h
  | v :: vs, o, Z, h, hl => by
    rw [World.setCells]
    have h1 : (w.setCell ⟨b, o, none⟩ v).heap[b]? = some (.cells (Z.set o v).toArray T (0, 0)) := IsV.setC h o v
    simp only [List.length_cons] at hl
    rw [setCells_part _ b T vs (o + 1) (Z.set o v) h1 (by simp; omega)]
    congr 3
    rw [List.take_succ_eq_append_getElem (by simp; omega), List.getElem_set_self, List.take_set_of_le (Nat.le_refl _), List.drop_set_of_lt (by omega), List.length_cons, show o + 1 + vs.length = o + (vs.length + 1) by omega]
    simp
theorem IsV.bytes {w : World} {g : Nat} {T : TypeId} {l : List UInt8} (h : IsV w g T (l.map byteV)) : IsBytes w (some ⟨g, 0, none⟩) l :=
  ⟨g, 0, fun _ => rfl, fun i hi => by
    rw [Nat.zero_add, h.cell, List.getElem?_map, List.getElem?_eq_getElem hi]
    rfl⟩
theorem IsV.bytes_left {w : World} {g : Nat} {T : TypeId} {l : List UInt8} {Z : List Value} (h : IsV w g T (l.map byteV ++ Z)) : IsBytes w (some ⟨g, 0, none⟩) l :=
  ⟨g, 0, fun _ => rfl, fun i hi => by
    rw [Nat.zero_add, h.cell, List.getElem?_append_left (by simpa using hi), List.getElem?_map, List.getElem?_eq_getElem hi]
    rfl⟩

section
variable {P : Program} {t e : TypeId} {z : Value} {bytes : Nat}
theorem buf_append (E : ElemOf P t e z bytes) (ty : TypeId) {w : World} {g n m c2 N : Nat} {T : TypeId} {A2 : Addr} {xs Z ys : List Value} (hb : IsV w g T (xs ++ Z)) (hn : xs.length = n) (hN : n + Z.length = N)
    (hr : IsRow w (some A2) ys) (hm : ys.length = m) (hle : m ≤ Z.length) (hne : ys ≠ []) (h1 : ∀ u ∈ ys, u.oneCell' = true) :
    ∃ w', (Builtin.append_ #[t, t] ty #[.slice (some ⟨g, 0, none⟩) n N, .slice (some A2) m c2]).run P w = .ok (.slice (some ⟨g, 0, none⟩) (n + m) N) w' ∧ IsV w' g T (xs ++ ys ++ Z.drop m) ∧ Kept g w w' ∧ w'.heap.size = w.heap.size := by
  subst hn hm
  obtain ⟨i, hi, hz, hs, hby⟩ := info_parts E.info
  obtain ⟨b, off, ha, hc⟩ := hr
  have := ha hne
  injection this with this
  subst this
  have hrun := run_append_room_cells (P := P) (w := w) t ty e i E.slice hi g 0 xs.length N ⟨b, off, none⟩ ys.length c2 ys (by rw [hs, Nat.mul_one]) (fun j u hu => by
      obtain ⟨hj, rfl⟩ := List.getElem?_eq_some_iff.1 hu
      have h2 : (⟨b, off, none⟩ : Addr).add j = ⟨b, off + j, none⟩ := by unfold Addr.add; split <;> simp_all
      rw [h2]
      exact hc j hj) h1 (by omega) (fun j hj => by rw [hb.cell, List.getElem?_eq_getElem (by simp [hs]; omega)]; rfl) (fun j hj => hb.free _)
  refine ⟨_, hrun, ?_, ⟨by rw [setCells_size]; exact Nat.le_refl _, fun k _ hk => setCells_other g _ _ w k hk, fun B hB _ => setCells_below g _ _ w B hB⟩, setCells_size _ _ _ _⟩
  rw [hs, Nat.zero_add, Nat.mul_one]
  have := setCells_part w g T ys xs.length (xs ++ Z) hb (by simp; omega)
  rw [List.take_left, List.drop_append, List.drop_of_length_le (by omega), show xs.length + ys.length - xs.length = ys.length by omega] at this
  exact this
theorem make0_V (E : ElemOf P t e z bytes) {w : World} (kl kc : IntKind) (n : Nat) (hbytes : bytes * n ≤ 281474976710656) (h63 : n ≤ 140737488355328) :
    ∃ w', (Instr.makeSlice t (.int kl 0) (.int kc (n : Int))).run P w = .ok (.slice (some ⟨w.heap.size, 0, none⟩) 0 n) w' ∧
      IsV w' w.heap.size e (List.replicate n z) ∧ Below w.heap.size w w' ∧ w'.heap.size = w.heap.size + 1 := by
  obtain ⟨i, hi, hz, hs, hb⟩ := info_parts E.info
  have hr := run_make (P := P) w t e i z E.slice hi hz kl kc 0 n (by omega) (by omega) (by
    rw [hb]
    have h : ((bytes * n : Nat) : Int) ≤ 281474976710656 := by omega
    rwa [Int.natCast_mul] at h) (by omega)
  simp only [Int.toNat_natCast, Int.toNat_zero, E.one, hs, Nat.mul_one] at hr
  refine ⟨_, hr, ?_, below1 w _, by simp⟩
  have h2 : madeCells #[z] n = (List.replicate n z).toArray := by
    apply Array.ext'
    rw [toList_madeCells_one]
  rw [h2]
  exact IsV.new w e _
theorem make_V (E : ElemOf P t e z bytes) {w : World} (kl kc : IntKind) (n : Nat) (hbytes : bytes * n ≤ 281474976710656) (h63 : n ≤ 140737488355328) :
    ∃ w', (Instr.makeSlice t (.int kl (n : Int)) (.int kc (n : Int))).run P w = .ok (.slice (some ⟨w.heap.size, 0, none⟩) n n) w' ∧
      IsV w' w.heap.size e (List.replicate n z) ∧ Below w.heap.size w w' ∧ w'.heap.size = w.heap.size + 1 := by
  obtain ⟨i, hi, hz, hs, hb⟩ := info_parts E.info
  have hr := run_make (P := P) w t e i z E.slice hi hz kl kc n n (by omega) (Int.le_refl _) (by
    rw [hb]
    have h : ((bytes * n : Nat) : Int) ≤ 281474976710656 := by omega
    rwa [Int.natCast_mul] at h) (by omega)
  simp only [Int.toNat_natCast, E.one, hs, Nat.mul_one] at hr
  refine ⟨_, hr, ?_, below1 w _, by simp⟩
  have h2 : madeCells #[z] n = (List.replicate n z).toArray := by
    apply Array.ext'
    rw [toList_madeCells_one]
  rw [h2]
  exact IsV.new w e _
theorem exec_index {o : Oper} {a : Act} {w : World} {t : TypeId} {X Y v : Value} (x y : Operand) (ho : o.op = .index t x y) (hx : a.eval x = X) (hy : a.eval y = Y) (hr : (Instr.index t X Y).run P w = .ok v w) :
    (execOp a.eval o).run P w = .ok (.value v) w := by
  unfold execOp
  simp only [ho, hx, hy, Sem.run_bind, hr, Result.andThen_ok]
  rfl
end
end Go.Proofs.Ytmfncpifalnggaa
