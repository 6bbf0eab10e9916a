/- The walk of what names.parts yields (the closure's contract). -/
import Derived.RangeFuncNested
import Derived.RangeFuncBound
import Derived.RangeFuncCalls
import Derived.RangeFuncLeaves
import Derived.Shelf.Abstract
import Derived.Shelf.RegionOpen
import Derived.WalkKit
import Derived.OwnWalkIn
import Derived.TacticsInMore
import Derived.LoopNIn
import Derived.LoopIn
import Derived.Test.YtpnhmcckdpdilaaPieceM
namespace Go.Proofs.Ytpnhmcckdpdilaa
open Go.RowKit Go.Shelf
attribute [local go_sem] Oper.semAt_some
set_option linter.unusedVariables false

theorem str_cut (l : List UInt8) (i j : Nat) (m : List UInt8) (h : (l.take j).drop i = m) : (⟨l.toArray⟩ : ByteArray).extract i j = ⟨m.toArray⟩ := by
  apply ByteArray.ext
  rw [ByteArray.data_extract, ← h]
  rw [List.extract_toArray, List.extract_eq_drop_take']

def lenOf : Value → Nat
  | .string b => b.size
  | _ => 0

set_option maxRecDepth 100000 in
set_option maxHeartbeats 2000000 in
theorem parts_stops (n : Nat) (hn : 1 ≤ n) (Bs n₀ : Nat) (l : List UInt8) (hl : l.length ≤ 1000) (w : World) (hBs : Bs < w.heap.size) (hc : w.cell? ⟨Bs, 0, none⟩ = some (.string ⟨l.toArray⟩)) :
    SeqStopsK Fence.wide n Try.prog 23 #[.pointer (some ⟨Bs, 0, none⟩)] (fun x : List UInt8 => #[strV x]) (Below n₀) (fun ys => ys = pieces l) (fun pre => pre <+: pieces l) (pieces l).length w := fun ll J Jx W hW _ _ hY h0 => by
  have hc' := (hW.cell (p := ⟨Bs, 0, none⟩) hBs).trans hc
  refine callsIn_of_wp Try.func23 rfl trivial ?_ rfl
  simp only [Try.ntmps23, List.size_toArray, List.length_cons, List.length_nil, Nat.reduceAdd, Nat.reduceSub, Array.replicate_succ, Array.replicate_zero, List.push_toArray, List.append_toArray, List.nil_append, List.cons_append]
  gi_wp2
  gi_loopw [3] (fun v wr => ∃ (pre : List (List UInt8)) (r : List UInt8), v = .string ⟨r.toArray⟩ ∧ r.length ≤ 1000 ∧ pre ++ pieces r = pieces l ∧ J pre wr) (fun v _ => lenOf v)
  case atStart => exact ⟨[], l, rfl, hl, rfl, h0⟩
  case round =>
    obtain ⟨pre, r, rfl, hr, hp, hJ⟩ := hrel
    match r, hr, hp with
    | [], hr, hp =>
      gi_wp2
      go_end0
      exact ⟨⟨_, rfl⟩, .inl ⟨_, by rw [← hp]; simp [pieces], hJ⟩⟩
    | b :: t, hr, hp =>
      rw [pieces_round] at hp
      obtain ⟨fn, tmps, assign, body, hy, hR⟩ := hY pre (t.take (cut t)) wr hJ (by rw [← hp]; simp)
      dsimp only [strV] at hy
      have hx1 : (⟨(b :: t).toArray⟩ : ByteArray).extract 1 (t.length + 1) = ⟨t.toArray⟩ := str_cut (b :: t) 1 (t.length + 1) t (by simp)
      have hx2 : ∀ k, (⟨t.toArray⟩ : ByteArray).extract 0 k = ⟨(t.take k).toArray⟩ := fun k => str_cut t 0 k _ (by simp)
      have hx3 : ∀ k, (⟨t.toArray⟩ : ByteArray).extract k t.length = ⟨(t.drop k).toArray⟩ := fun k => str_cut t k t.length _ (by simp)
      have hci := cut_index t
      have hcl := cut_le t
      simp at hr
      gi_wp2
      refine ⟨trivial, (callsIn_wide.2 (Try.strings_IndexByte _ 47 _)).mono ?_⟩
      rintro e w2 ⟨rfl, rfl⟩
      show _
      have hq0 : (Go.Lib.indexByte (⟨t.toArray⟩ : ByteArray).data.toList (47 : Int).toNat.toUInt8) = Go.Lib.indexByte t 47 := rfl
      rw [hq0]
      by_cases hq : Go.Lib.indexByte t 47 < 0
      · rw [if_pos hq] at hci
        gi_wp2
        refine hR.mono ?_
        rintro e W3 (⟨rfl, hJ3, hk3⟩ | ⟨rfl, hJx3⟩)
        · gi_wp2
          go_roundw
          case rel => exact ⟨pre ++ [t.take (cut t)], t.drop (cut t), rfl, by rw [List.length_drop]; omega, by rw [List.append_assoc]; exact hp, hJ3⟩
          case measure => simp [lenOf, ByteArray.size] <;> omega
        · gi_wp2
          refine bodyPost_ret (results_none rfl _ _ _) rfl ?_
          exact ⟨⟨_, rfl⟩, .inr ⟨_, ⟨_, by rw [← hp, List.append_assoc]; rfl⟩, hJx3⟩⟩
      · rw [if_neg hq] at hci
        rw [hci]
        gi_wp2
        refine hR.mono ?_
        rintro e W3 (⟨rfl, hJ3, hk3⟩ | ⟨rfl, hJx3⟩)
        · gi_wp2
          go_roundw
          case rel => exact ⟨pre ++ [t.take (cut t)], t.drop (cut t), rfl, by rw [List.length_drop]; omega, by rw [List.append_assoc]; exact hp, hJ3⟩
          case measure => simp [lenOf, ByteArray.size] <;> omega
        · gi_wp2
          refine bodyPost_ret (results_none rfl _ _ _) rfl ?_
          exact ⟨⟨_, rfl⟩, .inr ⟨_, ⟨_, by rw [← hp, List.append_assoc]; rfl⟩, hJx3⟩⟩
end Go.Proofs.Ytpnhmcckdpdilaa
