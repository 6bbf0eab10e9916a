/- The walk of inode.Decode. -/
import Derived.Test.YtmjknaldpeoheaaIno3
namespace Go.Proofs.Ytmjknaldpeoheaa
open Go.RowKit O
set_option linter.unusedVariables false

theorem IsReader.keptN {w w' : World} {r g : Nat} {T : TypeId} {N : List Int} {l : List UInt8} {s : Bool} (h : IsReader w r l s) (hg : IsNode w g T N) (hk : Kept g w w') (hne : r ≠ g) : IsReader w' r l s := by
  obtain ⟨A, c, h1, h2, h3⟩ := h
  refine ⟨A, c, (hk.block r (Array.getElem?_eq_some_iff.1 h1).1 hne).trans h1, ?_, h3⟩
  obtain ⟨b, o, e1, e2⟩ := h2
  refine ⟨b, o, e1, fun i hi => ?_⟩
  have e3 := e2 i hi
  have hbg : b ≠ g ∨ b = g := by omega
  rcases hbg with hbg | rfl
  · rw [← e3]
    exact World.cell?_of_block (hk.block b (World.block_lt_of_cell? _ _ e3) hbg)
  · rw [cell_of_row _ b _ _ _ _ hg, nodeC_get] at e3
    cases hq : N[o + i]? with
    | none => rw [hq] at e3; cases e3
    | some v => rw [hq] at e3; cases e3
theorem IsNode.setC {w : World} {g : Nat} {T : TypeId} {N : List Int} (h : IsNode w g T N) (i : Nat) (x : Int) : IsNode (w.setCell ⟨g, i, none⟩ (.int .i64 x)) g T (N.set i x) := by
  have h1 := block_setCell h i (.int .i64 x)
  rw [nodeC_set] at h1
  exact h1
theorem setB {B g : Nat} {w0 w : World} (h : Below B w0 w) (hB : B ≤ g) (i : Nat) (v : Value) : Below B w0 (w.setCell ⟨g, i, none⟩ v) := h.setCell hB v

theorem decode_short (l : List UInt8) (n : Nat) (hnl : l.length = n) (hn : n ≠ 480) (w : World) (a : Option Addr) (c : Nat) :
    Calls Try.prog 19 #[.slice a n c] w fun e w' => e = .returned (.tuple #[.agg (nodeC (decN l)), .int .i64 (decE l)]) ∧ Below w.heap.size w w' := by
  have hd : decOk l = false := by
    unfold decOk
    rw [decide_eq_false (show ¬ l.length = 480 by omega)]
    rfl
  have e1 := hid (show decN l = zeroN by unfold decN; rw [hd]; rfl)
  have e2 := hid (show decE l = 4 by unfold decE; rw [hd]; rfl)
  clear hd
  have hn' : ((n : Int) != 480) = true := by simp; omega
  have hinf := hid (show (Try.prog.info? 24).map (·.size) = some zeroN.length by kernel_rfl)
  go_enter Try.func19, Try.ntmps19
  go_wp2_with (refine wpList_store_node rfl 24 _ _ rfl w.heap.size zeroN (nodeL zeroN) 24 rfl rfl (IsNode.new w 24 zeroN) (nodeL_length _) hinf.out ?_; intro w1 hN hK hS; have HN := hid hN; have HK := hid hK; clear hN hK hS)
  have hld := loadVar_node (P := Try.prog) (T := 24) HN.out Try.underlying24 rfl hinf.out
  rw [e1.out, e2.out]
  exact bodyPost_ret (v := .tuple #[.agg (nodeC zeroN), .int .i64 4]) (results_cell Try.results19 rfl rfl hld) rfl ⟨rfl, (below1 w _).trans (HK.out.below _ (Nat.le_refl _) (by simp))⟩
end Go.Proofs.Ytmjknaldpeoheaa
