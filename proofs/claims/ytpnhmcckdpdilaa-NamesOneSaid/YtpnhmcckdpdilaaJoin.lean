/- The walk of names.Join. -/
import Derived.Test.YtpnhmcckdpdilaaBld2
namespace Go.Proofs.Ytpnhmcckdpdilaa
open Go.RowKit
set_option linter.unusedVariables false

def strV (l : List UInt8) : Value := .string ⟨l.toArray⟩
/-- A slash ahead of each. -/
def jpath : List (List UInt8) → List UInt8
  | [] => []
  | x :: L => 47 :: x ++ jpath L
def joinR (L : List (List UInt8)) : List UInt8 := if L = [] then [47] else if L.all nm && decide ((jpath L).length ≤ 1000) then jpath L else []
theorem jpath_snoc (L : List (List UInt8)) (x : List UInt8) : jpath (L ++ [x]) = jpath L ++ (47 :: x) := by
  induction L with
  | nil => simp [jpath]
  | cons y L ih => simp [jpath, ih]
theorem jpath_app (L M : List (List UInt8)) : jpath (L ++ M) = jpath L ++ jpath M := by
  induction L with
  | nil => simp [jpath]
  | cons y L ih => simp [jpath, ih]
theorem jpath_len (L : List (List UInt8)) : L.length ≤ (jpath L).length := by
  induction L with
  | nil => simp
  | cons y L ih => simp [jpath]; omega
theorem bytes_snoc (l : List UInt8) (x : List UInt8) : Lib.byteCells l ++ [Value.int .u8 47] ++ Lib.strCells ⟨x.toArray⟩ = Lib.byteCells (l ++ (47 :: x)) := by
  simp [Lib.byteCells, Lib.strCells]
theorem join_bad1 {L : List (List UInt8)} {j : Nat} (hj : j < L.length) (h : nm L[j] = false) : joinR L = [] := by
  unfold joinR
  have hne : L ≠ [] := by rintro rfl; simp at hj
  have : L.all nm = false := by
    rw [← Bool.not_eq_true, List.all_eq_true]
    intro h2
    have := h2 _ (List.getElem_mem hj)
    rw [h] at this
    cases this
  rw [if_neg hne, this]
  rfl
theorem join_bad2 {L : List (List UInt8)} {j : Nat} (hj : j < L.length) (h : 1000 < (jpath (L.take j)).length + 1 + L[j].length) : joinR L = [] := by
  unfold joinR
  have hne : L ≠ [] := by rintro rfl; simp at hj
  have h2 : ¬ (jpath L).length ≤ 1000 := by
    have h3 : L = L.take j ++ (L[j] :: L.drop (j + 1)) := by
      rw [← List.drop_eq_getElem_cons hj, List.take_append_drop]
    have h4 : (jpath L).length = (jpath (L.take j)).length + (1 + L[j].length + (jpath (L.drop (j + 1))).length) := by
      conv => lhs; rw [h3]
      rw [jpath_app, List.length_append, jpath]
      simp
      omega
    omega
  rw [if_neg hne, decide_eq_false h2, Bool.and_false]
  rfl

set_option maxHeartbeats 4000000 in
set_option maxRecDepth 20000 in
theorem join_any (L : List (List UInt8)) (w : World) (a : Option Addr) (c : Nat) (hb : IsRow w a (L.map strV)) :
    Calls Try.prog 15 #[.slice a L.length c] w fun e w' => e = .returned (.string ⟨(joinR L).toArray⟩) ∧ Below w.heap.size w w' := by
  obtain ⟨n, hn⟩ : ∃ n, n = L.length := ⟨_, rfl⟩
  rw [← hn]
  have Hn := hid hn
  have Hb := hid hb
  clear hn hb
  by_cases h0 : n = 0
  · subst h0
    have hL : L = [] := List.eq_nil_of_length_eq_zero Hn.out.symm
    subst hL
    go_enter Try.func15, Try.ntmps15
    go_wp2
    go_ret
    exact ⟨rfl, Below.refl _ _⟩
  · have hn0 : ((n : Int) == 0) = false := by rw [beq_eq_false_iff_ne]; omega
    have HI0 := hid (show Lib.IsBuilder 43 5 w.heap.size w.heap.size (Lib.byteCells (jpath (L.take 0))) (w.alloc (.cells #[.pointer none, .slice none 0 0] 43)) from
      .inl ⟨Nat.le_refl _, .slice none 0 0, heap_alloc_new _ _, World.ownsRow_nil _ _ _ _, by simp [Value.ownBlock]⟩)
    go_enter Try.func15, Try.ntmps15
    go_wp2_with fail
    go_loopw [11] (fun i wr => ∃ (j : Nat), j ≤ n ∧ i = .int .i64 j ∧ Lib.IsBuilder 43 5 w.heap.size w.heap.size (Lib.byteCells (jpath (L.take j))) wr ∧ Below w.heap.size w wr ∧ (L.take j).all nm = true ∧ (jpath (L.take j)).length ≤ 1000) (fun i _ => n - (intOf i).toNat)
    case atStart => exact ⟨0, by omega, rfl, HI0.out, (Below.refl _ _).alloc (Nat.le_refl _) _, rfl, by simp [jpath]⟩
    case round =>
      obtain ⟨j, hj, rfl, hI, hB, hall, hlen⟩ := hrel
      have HI := hid hI
      have HB := hid hB
      have Hall := hid hall
      have Hlen := hid hlen
      clear hI hB hall hlen
      by_cases hjn : j < n
      · have hjl : j < L.length := by have := Hn.out; omega
        obtain ⟨b, off, ha, hcell⟩ := Hb.out.below HB.out
        obtain rfl := ha (by intro h; have := congrArg List.length h; simp at this; rw [this] at hjl; simp at hjl)
        have hc := hcell j (by simpa using hjl)
        rw [List.getElem_map] at hc
        obtain ⟨x, hx⟩ : ∃ x, x = L[j]'hjl := ⟨_, rfl⟩
        rw [← hx] at hc
        have Hx := hid hx
        have hc' : wr.cell? ⟨b, off + j, none⟩ = some (.string ⟨x.toArray⟩) := hc
        clear hc hcell ha hx
        go_wp2_with fail
        refine (name_any x _).mono ?_
        rintro e w2 ⟨rfl, rfl⟩
        rcases hnm : nm x with _ | _
        · have E := hid (show joinR L = [] from join_bad1 hjl (by rw [← Hx.out]; exact hnm))
          clear hnm
          go_wp2
          go_ret
          exact ⟨by rw [E.out]; rfl, HB.out⟩
        · have Hnm := hid hnm
          clear hnm
          obtain ⟨P, hP⟩ : ∃ P, P = jpath (L.take j) := ⟨_, rfl⟩
          have HP := hid hP
          rw [← hP] at HI Hlen
          clear hP
          obtain ⟨m, hm⟩ : ∃ m, m = P.length := ⟨_, rfl⟩
          obtain ⟨k, hk⟩ : ∃ k, k = x.length := ⟨_, rfl⟩
          have Hm := hid hm
          have Hk := hid hk
          clear hm hk
          go_wp2_with fail
          refine (Try.Builder_Len w.heap.size w.heap.size _ wr HI.out).mono ?_
          rintro e w3 ⟨rfl, rfl⟩
          have hk28 : k ≤ 28 := by
            have h1 := Hnm.out
            unfold nm at h1
            rw [decide_eq_true_eq] at h1
            rw [Hk.out]
            exact h1.2.1
          have hbl : (Lib.byteCells P).length = m := by rw [Hm.out]; simp [Lib.byteCells]
          have hm1 : m ≤ 1000 := by rw [Hm.out]; exact Hlen.out
          have hxl : x.length = k := Hk.out.symm
          have e1 : wrap64 ((m : Int) + 1) = m + 1 := by unfold wrap64; omega
          have e2 : wrap64 ((m : Int) + 1 + k) = m + 1 + k := by unfold wrap64; omega
          go_wp2_with fail
          · rename_i hgt
            have hgt' : 1000 < m + 1 + k := by
              omega
            have E := hid (show joinR L = [] from join_bad2 hjl (by rw [← HP.out, ← Hx.out, ← Hm.out, hxl]; exact hgt'))
            go_ret
            exact ⟨by rw [E.out]; rfl, HB.out⟩
          · rename_i hle
            have hle' : m + 1 + k ≤ 1000 := by
              omega
            refine (writeByte_any w.heap.size w.heap.size _ 47 w3 HI.out (by rw [hbl]; omega) HB.out.size).mono ?_
            rintro e w4 ⟨rfl, hI4, hB4⟩
            have HI4 := hid (show Lib.IsBuilder 43 5 w.heap.size w.heap.size (Lib.byteCells P ++ [Value.int .u8 47]) w4 from .inr hI4)
            have HB4 := hid (HB.out.trans hB4)
            clear hI4 hB4
            go_wp2_with fail
            refine (writeString_any w.heap.size w.heap.size _ ⟨x.toArray⟩ w4 HI4.out (by simp [hbl, ByteArray.size]; omega) HB4.out.size).mono ?_
            rintro e w5 ⟨rfl, hI5, hB5⟩
            rw [bytes_snoc] at hI5
            have hsn : P ++ (47 :: x) = jpath (L.take (j + 1)) := by
              rw [← List.take_append_getElem hjl, jpath_snoc, ← HP.out, ← Hx.out]
            have hlen5 : (jpath (L.take (j + 1))).length ≤ 1000 := by
              rw [← hsn]
              simp only [List.length_append, List.length_cons]
              rw [← Hm.out, hxl]
              omega
            have hall5 : (L.take (j + 1)).all nm = true := by
              rw [← List.take_append_getElem hjl, List.all_append, Hall.out, ← Hx.out]
              simp [Hnm.out]
            rw [hsn] at hI5
            have HI5 := hid (show Lib.IsBuilder 43 5 w.heap.size w.heap.size _ w5 from .inr hI5)
            have HB5 := hid (HB4.out.trans hB5)
            have Hlen5 := hid hlen5
            have Hall5 := hid hall5
            have hj63 : j ≤ 1000 := by
              have h1 := jpath_len (L.take (j + 1))
              rw [List.length_take] at h1
              omega
            clear hI5 hB5 hlen5 hall5 hsn
            go_wp2
            go_roundw
            case rel => exact ⟨j + 1, by omega, by go_num, HI5.out, HB5.out, Hall5.out, Hlen5.out⟩
            case measure => simp [intOf]; omega
      · have hjn' : j = n := by omega
        subst hjn'
        go_wp2_with fail
        refine (Try.Builder_String_any w.heap.size w.heap.size _ wr HI.out HB.out.size).mono ?_
        rintro e w2 ⟨rfl, hB2⟩
        have E := hid (show joinR L = jpath (L.take j) from by
          have ht : L.take j = L := List.take_of_length_le (by rw [← Hn.out]; exact Nat.le_refl _)
          have ha := Hall.out
          have hl := Hlen.out
          rw [ht] at ha hl ⊢
          unfold joinR
          rw [if_neg (by rintro rfl; exact h0 Hn.out), ha, decide_eq_true hl]
          rfl)
        have HB2 := hid (HB.out.trans hB2)
        clear hB2
        go_wp2_with fail
        go_ret
        exact ⟨by rw [E.out]; rfl, HB2.out⟩
end Go.Proofs.Ytpnhmcckdpdilaa
