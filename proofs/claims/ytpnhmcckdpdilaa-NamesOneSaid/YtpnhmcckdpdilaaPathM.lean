/- Plain mathematics of paths: which names stand in a path. No program in sight. -/
import Derived.Test.YtpnhmcckdpdilaaJoinR
namespace Go.Proofs.Ytpnhmcckdpdilaa

/-- The parts of a text between slashes; what stands before. -/
def scan : List UInt8 → List UInt8 → List (List UInt8)
  | acc, [] => [acc]
  | acc, b :: r => if b = 47 then acc :: scan [] r else scan (acc ++ [b]) r
/-- The names of a path. -/
def splitR (l : List UInt8) : Option (List (List UInt8)) :=
  if l = [47] then some []
  else if l = [] ∨ 1000 < l.length ∨ l.head? ≠ some 47 then none
  else if (scan [] l.tail).all nm then some (scan [] l.tail) else none
theorem scan_cons_eq (acc r : List UInt8) : scan acc (47 :: r) = acc :: scan [] r := by
  rw [scan, if_pos rfl]
theorem scan_cons_ne (acc r : List UInt8) {b : UInt8} (h : b ≠ 47) : scan acc (b :: r) = scan (acc ++ [b]) r := by
  rw [scan, if_neg h]
theorem scan_len (l : List UInt8) : ∀ acc, (scan acc l).length ≤ l.length + 1 := by
  induction l with
  | nil => intro acc; simp [scan]
  | cons b r ih =>
    intro acc
    by_cases h : b = 47
    · subst h
      rw [scan_cons_eq]
      have := ih []
      simp
      omega
    · rw [scan_cons_ne _ _ h]
      have := ih (acc ++ [b])
      simp
      omega
/-- The parts of a path of names are the names. -/
theorem scan_text {x : List UInt8} (hx : (47 : UInt8) ∉ x) : ∀ (acc r : List UInt8), scan acc (x ++ r) = scan (acc ++ x) r := by
  induction x with
  | nil => intro acc r; simp
  | cons b x ih =>
    intro acc r
    have hb : b ≠ 47 := by rintro rfl; simp at hx
    have hx' : (47 : UInt8) ∉ x := fun h => hx (List.mem_cons_of_mem _ h)
    rw [List.cons_append, scan_cons_ne _ _ hb, ih hx', List.append_assoc, List.singleton_append]
theorem nm_noslash {x : List UInt8} (h : nm x = true) : (47 : UInt8) ∉ x := by
  unfold nm at h
  rw [decide_eq_true_eq] at h
  exact h.2.2.1
theorem scan_jpath : ∀ (L : List (List UInt8)) (acc : List UInt8), L.all nm = true → scan acc (jpath L) = acc :: L := by
  intro L
  induction L with
  | nil => intro acc _; rfl
  | cons x L ih =>
    intro acc h
    rw [List.all_cons, Bool.and_eq_true] at h
    rw [jpath, List.cons_append, scan_cons_eq, scan_text (nm_noslash h.1), List.nil_append, ih x h.2]
theorem split_join {L : List (List UInt8)} (h : L.all nm = true) (hl : (jpath L).length ≤ 1000) : splitR (joinR L) = some L := by
  match L, h, hl with
  | [], _, _ => rfl
  | x :: L, h, hl =>
    have hj : joinR (x :: L) = jpath (x :: L) := by
      unfold joinR
      rw [if_neg (by simp), h, decide_eq_true hl]
      rfl
    rw [List.all_cons, Bool.and_eq_true] at h
    have hx := h.1
    have hx1 : x ≠ [] := by
      rintro rfl
      simp [nm] at hx
    have hs : scan [] (jpath (x :: L)).tail = x :: L := by
      rw [jpath, List.cons_append, List.tail_cons, scan_text (nm_noslash hx), List.nil_append, scan_jpath L x h.2]
    rw [hj]
    unfold splitR
    rw [if_neg (by rw [jpath]; intro hh; simp at hh; exact hx1 hh.1), if_neg (by rw [jpath] at hl ⊢; simp at hl ⊢; omega), hs, if_pos (by rw [List.all_cons, hx, h.2]; rfl)]
end Go.Proofs.Ytpnhmcckdpdilaa
