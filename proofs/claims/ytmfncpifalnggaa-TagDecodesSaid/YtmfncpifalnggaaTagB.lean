/- Plain mathematics of tags: what is written is read as it is. -/
import Derived.Test.YtmfncpifalnggaaTagE
namespace Go.Proofs.Ytmfncpifalnggaa
open Go.RowKit O
set_option linter.unusedVariables false

theorem nb_at (a m b : List UInt8) (L k : Nat) (ha : a.length = L) (hm : m.length = k) : nb (a ++ (m ++ b)) L k = num m := by
  unfold nb
  subst ha hm
  rw [List.drop_left, List.take_left]
theorem num_le_of (k x : Nat) (h : x < 256 ^ k) : num (le k x) = x := by rw [num_le, Nat.mod_eq_of_lt h]
theorem back_fn {e s q f i c d : Nat} (he : e < 4294967296) (h : right e s q f i c d = true) (l : List UInt8) :
    fn (head e s q f i c d ++ l) 1 = e ∧ fn (head e s q f i c d ++ l) 4 = s ∧ fn (head e s q f i c d ++ l) 2 = q ∧ fn (head e s q f i c d ++ l) 3 = f ∧ fn (head e s q f i c d ++ l) 5 = i ∧ fn (head e s q f i c d ++ l) 6 = c ∧ fn (head e s q f i c d ++ l) 7 = d := by
  obtain ⟨-, a1, a2, a3, a4, a5, a6, a7, a8, a9, aa⟩ := right_of h
  have e4 : 256 ^ 4 = 4294967296 := by decide
  have e6 : 256 ^ 6 = 281474976710656 := by decide
  have e1 : 256 ^ 1 = 256 := by decide
  have e2 : 256 ^ 2 = 65536 := by decide
  refine ⟨?_, ?_, ?_, ?_, ?_, ?_, ?_⟩
  · have h1 : head e s q f i c d ++ l = le 4 1465012808 ++ (le 4 e ++ (le 6 q ++ (le 6 f ++ (le 6 s ++ (le 1 i ++ (le 1 c ++ (le 2 d ++ (le 2 0 ++ l)))))))) := by unfold head; simp only [List.append_assoc]
    rw [h1]
    exact (nb_at _ _ _ 4 4 (by simp [le_length]) (le_length _ _)).trans (num_le_of 4 e (by omega))
  · have h1 : head e s q f i c d ++ l = (le 4 1465012808 ++ (le 4 e ++ (le 6 q ++ le 6 f))) ++ (le 6 s ++ (le 1 i ++ (le 1 c ++ (le 2 d ++ (le 2 0 ++ l))))) := by unfold head; simp only [List.append_assoc]
    rw [h1]
    exact (nb_at _ _ _ 20 6 (by simp [le_length]) (le_length _ _)).trans (num_le_of 6 s (by omega))
  · have h1 : head e s q f i c d ++ l = (le 4 1465012808 ++ le 4 e) ++ (le 6 q ++ (le 6 f ++ (le 6 s ++ (le 1 i ++ (le 1 c ++ (le 2 d ++ (le 2 0 ++ l))))))) := by unfold head; simp only [List.append_assoc]
    rw [h1]
    exact (nb_at _ _ _ 8 6 (by simp [le_length]) (le_length _ _)).trans (num_le_of 6 q (by omega))
  · have h1 : head e s q f i c d ++ l = (le 4 1465012808 ++ (le 4 e ++ le 6 q)) ++ (le 6 f ++ (le 6 s ++ (le 1 i ++ (le 1 c ++ (le 2 d ++ (le 2 0 ++ l)))))) := by unfold head; simp only [List.append_assoc]
    rw [h1]
    exact (nb_at _ _ _ 14 6 (by simp [le_length]) (le_length _ _)).trans (num_le_of 6 f (by omega))
  · have h1 : head e s q f i c d ++ l = (le 4 1465012808 ++ (le 4 e ++ (le 6 q ++ (le 6 f ++ le 6 s)))) ++ (le 1 i ++ (le 1 c ++ (le 2 d ++ (le 2 0 ++ l)))) := by unfold head; simp only [List.append_assoc]
    rw [h1]
    exact (nb_at _ _ _ 26 1 (by simp [le_length]) (le_length _ _)).trans (num_le_of 1 i (by omega))
  · have h1 : head e s q f i c d ++ l = (le 4 1465012808 ++ (le 4 e ++ (le 6 q ++ (le 6 f ++ (le 6 s ++ le 1 i))))) ++ (le 1 c ++ (le 2 d ++ (le 2 0 ++ l))) := by unfold head; simp only [List.append_assoc]
    rw [h1]
    exact (nb_at _ _ _ 27 1 (by simp [le_length]) (le_length _ _)).trans (num_le_of 1 c (by omega))
  · have h1 : head e s q f i c d ++ l = (le 4 1465012808 ++ (le 4 e ++ (le 6 q ++ (le 6 f ++ (le 6 s ++ (le 1 i ++ le 1 c)))))) ++ (le 2 d ++ (le 2 0 ++ l)) := by unfold head; simp only [List.append_assoc]
    rw [h1]
    exact (nb_at _ _ _ 28 2 (by simp [le_length]) (le_length _ _)).trans (num_le_of 2 d (by omega))
theorem head_drop (e s q f i c d : Nat) (l : List UInt8) : (head e s q f i c d ++ l).drop 32 = l := by
  rw [← head_length e s q f i c d, List.drop_left]
theorem back_ok {e s q f i c d : Nat} (he : e < 4294967296) (h : right e s q f i c d = true) (l : List UInt8) (hl : l.length = 480) : tagOk (head e s q f i c d ++ l) = true := by
  obtain ⟨r1, r2, r3, r4, r5, r6, r7⟩ := back_fn he h l
  unfold tagOk
  rw [r1, r2, r3, r4, r5, r6, r7, h, head_drop, decide_eq_true (show (head e s q f i c d ++ l).length = 512 by rw [List.length_append, head_length, hl])]
  simp
theorem back_tk {e s q f i c d : Nat} (he : e < 4294967296) (h : right e s q f i c d = true) (l : List UInt8) : tk (head e s q f i c d ++ l) 9 = tagL e s q f i c d := by
  obtain ⟨r1, r2, r3, r4, r5, r6, r7⟩ := back_fn he h l
  rw [tk_all, r1, r2, r3, r4, r5, r6, r7]
theorem ok_head {l : List UInt8} (h : tagOk l = true) : head (fn l 1) (fn l 4) (fn l 2) (fn l 3) (fn l 5) (fn l 6) (fn l 7) ++ l.drop 32 = l ∧ right (fn l 1) (fn l 4) (fn l 2) (fn l 3) (fn l 5) (fn l 6) (fn l 7) = true ∧ l.length = 512 := by
  unfold tagOk at h
  simp only [Bool.and_eq_true, decide_eq_true_eq] at h
  exact ⟨h.2.2, h.2.1, h.1⟩
/-- One byte of the head otherwise: another tag, or none. -/
theorem turned_head {e s q f i c d : Nat} (l : List UInt8) (m : Nat) (hm : m < 32) (x ch : UInt8) (hx : (head e s q f i c d ++ l)[m]? = some x) (hch : ch ≠ 0) (hok : tagOk ((head e s q f i c d ++ l).set m (x + ch)) = true) :
    decide (fn ((head e s q f i c d ++ l).set m (x + ch)) 1 = e ∧ fn ((head e s q f i c d ++ l).set m (x + ch)) 4 = s ∧ fn ((head e s q f i c d ++ l).set m (x + ch)) 2 = q ∧ fn ((head e s q f i c d ++ l).set m (x + ch)) 3 = f ∧ ((fn ((head e s q f i c d ++ l).set m (x + ch)) 5 : Nat) : Int) = (i : Int) ∧ ((fn ((head e s q f i c d ++ l).set m (x + ch)) 6 : Nat) : Int) = (c : Int) ∧ ((fn ((head e s q f i c d ++ l).set m (x + ch)) 7 : Nat) : Int) = (d : Int)) = false := by
  rw [decide_eq_false_iff_not]
  rintro ⟨r1, r2, r3, r4, r5, r6, r7⟩
  have r5' : fn ((head e s q f i c d ++ l).set m (x + ch)) 5 = i := by omega
  have r6' : fn ((head e s q f i c d ++ l).set m (x + ch)) 6 = c := by omega
  have r7' : fn ((head e s q f i c d ++ l).set m (x + ch)) 7 = d := by omega
  obtain ⟨h1, -, -⟩ := ok_head hok
  rw [r1, r2, r3, r4, r5', r6', r7'] at h1
  have hml : m < (head e s q f i c d).length := by rw [head_length]; exact hm
  have h2 := congrArg (fun z => z[m]?) h1
  rw [List.getElem?_append_left hml, List.getElem?_set_self (by rw [List.length_append]; omega)] at h2
  rw [List.getElem?_append_left hml, h2] at hx
  injection hx with hx
  apply hch
  have h3 := congrArg UInt8.toNat hx
  rw [UInt8.toNat_add] at h3
  apply UInt8.toNat_inj.1
  have := ch.toNat_lt
  have := x.toNat_lt
  show ch.toNat = 0
  omega
theorem nat_of_right {e s q f : Nat} {i c d : Int} (h : right e s q f i c d = true) : ∃ i' c' d' : Nat, i = (i' : Int) ∧ c = (c' : Int) ∧ d = (d' : Int) := by
  have := right_of h
  exact ⟨i.toNat, c.toNat, d.toNat, by omega, by omega, by omega⟩
theorem u8_add (x ch : UInt8) : IntKind.u8.wrap (n8 x + n8 ch) = n8 (x + ch) := by
  unfold n8
  rw [UInt8.toNat_add]
  simp [IntKind.wrap, IntKind.bits, IntKind.signed]
end Go.Proofs.Ytmfncpifalnggaa
