/- The walks of package inode: Blocks, pointers, Right. -/
import Derived.Test.YtmjknaldpeoheaaOct2
import Derived.Test.YtmjknaldpeoheaaNode
import Derived.Test.YtmjknaldpeoheaaInoM
namespace Go.Proofs.Ytmjknaldpeoheaa
open Go.RowKit O
set_option linter.unusedVariables false

theorem clI_run (P : Program) (z : Int) (m : Nat) (mI : Int) (hm : mI = (m : Int)) : ∃ M : Int, (∀ (ts : Array TypeId) (t : TypeId) (W : World), (Builtin.max_ ts t #[.int .i64 z, .int .i64 0]).run P W = .ok (.int .i64 M) W) ∧ (∀ (ts : Array TypeId) (t : TypeId) (W : World), (Builtin.min_ ts t #[.int .i64 M, .int .i64 mI]).run P W = .ok (.int .i64 ((cl z m : Nat) : Int)) W) := by
  subst hm
  refine ⟨max z 0, fun ts t W => ?_, fun ts t W => ?_⟩
  · simp [Builtin.max_, Builtin.max2]
    omega
  · simp [Builtin.min_, Builtin.min2]
    unfold cl
    omega

theorem blocks_any (s : Int) (w : World) :
    Calls Try.prog 17 #[.int .i64 s] w fun e w' => e = .returned (.int .i64 ((blk s : Nat) : Int)) ∧ w = w' := by
  obtain ⟨M, hmx, hmn⟩ := clI_run Try.prog s 122880 122880 rfl
  have hb := hid (show blk s = (cl s 122880 + 479) / 480 from rfl)
  have hk := cl_le s 122880
  generalize cl s 122880 = k at *
  go_enter Try.func17, Try.ntmps17
  go_wp2
  go_ret
  refine ⟨ret_int ?_, rfl⟩
  rw [hb.out]
  omega

theorem pointers_any (D : List Int) (n : Nat) (hn : D.length = n) (hn2 : n ≤ 140737488000000) (w : World) (a : Option Addr) (c : Nat) (hD : IsNums .i64 w a D) :
    Calls Try.prog 28 #[.slice a n c] w fun e w' => e = .returned (.bool (D.all ptrOk)) ∧ w = w' := by
  subst hn
  go_enter Try.func28, Try.ntmps28
  go_wp2
  go_loop [7] (fun i => ∃ (k : Nat), k ≤ D.length ∧ i = .int .i64 k ∧ (D.take k).all ptrOk = true) (fun i => D.length - (intOf i).toNat)
  case atStart => exact ⟨0, Nat.zero_le _, rfl, rfl⟩
  case round =>
    obtain ⟨k, hk, rfl, hall⟩ := hrel
    have Hall := hid hall
    clear hall
    by_cases hkn : k < D.length
    · obtain ⟨b, off, ha, hcell⟩ := hD
      obtain rfl := ha (by rintro rfl; simp at hkn)
      have hc := hcell k hkn
      have hs := hid (show (D.take (k + 1)).all ptrOk = ptrOk D[k] by rw [List.take_succ_eq_append_getElem hkn, List.all_append, Hall.out]; simp)
      have hf := hid (fun h : ptrOk D[k] = false => (show D.all ptrOk = false by
        rw [← Bool.not_eq_true, List.all_eq_true]
        intro h2
        have := h2 _ (List.getElem_mem hkn)
        rw [h] at this
        cases this))
      clear hcell ha
      generalize D[k] = p at *
      by_cases h0 : p < 0
      · go_wp2
        go_ret
        exact ⟨ret_bool (hf.out (by unfold ptrOk; simp; omega)).symm, rfl⟩
      · by_cases h1 : 3840 ≤ p
        · go_wp2
          go_ret
          exact ⟨ret_bool (hf.out (by unfold ptrOk; simp; omega)).symm, rfl⟩
        · go_wp2
          go_round
          case rel => exact ⟨k + 1, by omega, by go_num, by rw [hs.out]; unfold ptrOk; simp; omega⟩
          case measure => simp [intOf]; omega
    · obtain rfl : k = D.length := by omega
      go_wp2
      go_ret
      exact ⟨ret_bool (by rw [List.take_length] at Hall; exact Hall.out.symm), rfl⟩

theorem info16 : (Try.prog.info? 22).map (·.size) = some 16 := by kernel_rfl
theorem info3' : (Try.prog.info? 3).map (fun i => (i.zero, i.size, i.bytes)) = some (some (.int .i64 0), 1, 8) := by kernel_rfl
theorem info3 : ∃ i, Try.prog.info? 3 = some i ∧ i.size = 1 := by
  obtain ⟨i, hi, _, hs, _⟩ := info_parts info3'
  exact ⟨i, hi, hs⟩

set_option maxHeartbeats 1000000 in
theorem right_any (k l s : Int) (D : List Int) (r : Int) (hD : D.length = 16) (w : World) :
    Calls Try.prog 15 #[.agg (nodeC (nd k l s D r))] w fun e w' => e = .returned (.bool (right k l s D r)) ∧ Below w.heap.size w w' := by
  have g0 := nodeC_at _ _ _ (nd0 k l s D r)
  have g1 := nodeC_at _ _ _ (nd1 k l s D r)
  have g2 := nodeC_at _ _ _ (nd2 k l s D r)
  have g19 := nodeC_at _ _ _ (nd19 k l s D r hD)
  have HN := hid (fun (w : World) => IsNode.new w 24 (nd k l s D r))
  obtain ⟨C, hC⟩ : ∃ C, C = nodeC (nd k l s D r) := ⟨_, rfl⟩
  rw [← hC] at g0 g1 g2 g19 ⊢
  have HC := hid hC
  clear hC
  have hcase : (k ≠ 1 ∧ k ≠ 2) ∨ ((k = 1 ∨ k = 2) ∧ (l < 0 ∨ (0 ≤ l ∧ 65535 < l) ∨ (0 ≤ l ∧ l ≤ 65535 ∧ s < 0) ∨ (0 ≤ l ∧ l ≤ 65535 ∧ 0 ≤ s ∧ 122880 < s))) ∨ ((k = 1 ∨ k = 2) ∧ 0 ≤ l ∧ l ≤ 65535 ∧ 0 ≤ s ∧ s ≤ 122880) := by omega
  rcases hcase with ⟨h1, h2⟩ | ⟨h1, h2⟩ | ⟨h1, hl0, hl1, hs0, hs1⟩
  · have e1 : (k != 1) = true := by simpa using h1
    have e2 : (k != 2) = true := by simpa using h2
    go_enter Try.func15, Try.ntmps15
    go_wp2
    go_ret
    exact ⟨ret_bool (by unfold right; simp [h1, h2]), (Below.refl _ _).alloc (Nat.le_refl _) _⟩
  · rcases h1 with rfl | rfl <;> rcases h2 with h2 | h2 | h2 | h2
    all_goals
      go_enter Try.func15, Try.ntmps15
      go_wp2
      go_ret
      exact ⟨ret_bool (by unfold right; simp; omega), (Below.refl _ _).alloc (Nat.le_refl _) _⟩
  · have hkk : (k == 1 || k == 2) = true := by simpa using h1
    have hN1 := hid ((HN.out w).nums 3 16 D (nd_mid k l s D r hD))
    have hR := hid (show right k l s D r = (D.all ptrOk && ptrOk r && (decide (16 < blk s) || r == 0) && emptyFrom (blk s) D) by
      unfold right
      rw [hkk, decide_eq_true (show 0 ≤ l ∧ l ≤ 65535 from ⟨hl0, hl1⟩), decide_eq_true (show 0 ≤ s ∧ s ≤ 122880 from ⟨hs0, hs1⟩)]
      simp)
    have HN2 := hid (HN.out w)
    rw [← HC.out] at hN1 HN2
    clear hkk HN
    rcases h1 with rfl | rfl
    all_goals
      go_enter Try.func15, Try.ntmps15
      go_wp2_with fail
      refine (pointers_any D 16 hD (by omega) _ _ _ hN1.out).mono ?_
      rintro e w1 ⟨rfl, rfl⟩
      rcases hp1 : D.all ptrOk with _ | _
      · go_wp2
        go_ret
        exact ⟨ret_bool (by rw [hR.out, hp1]; rfl), (Below.refl _ _).alloc (Nat.le_refl _) _⟩
      · go_wp2_with fail
        refine (pointers_any [r] 1 rfl (by omega) _ _ _ (by exact IsNums.alloc_at (by simp) _ rfl)).mono ?_
        rintro e w1 ⟨rfl, hw1⟩
        have hB1 := hid (show Below w.heap.size w w1 by rw [← hw1]; exact below2 _ _ _)
        have hn1 := hid (show IsNode w1 w.heap.size 24 (nd _ l s D r) by rw [← hw1]; exact HN2.out.below (below1 _ _))
        have hg0 := hn1.out.cell 0 _ (nd0 _ l s D r)
        have hg2 := hn1.out.cell 2 _ (nd2 _ l s D r)
        have hg19 := hn1.out.cell 19 _ (nd19 _ l s D r hD)
        have hpr : [r].all ptrOk = ptrOk r := by simp
        rw [hpr]
        clear hw1 hpr g0 g1 g2 g19
        rcases hp2 : ptrOk r with _ | _
        · go_wp2
          go_ret
          exact ⟨ret_bool (by rw [hR.out, hp1, hp2]; rfl), hB1.out⟩
        · go_wp2_with fail
          refine (blocks_any s w1).mono ?_
          rintro e w2 ⟨rfl, rfl⟩
          have hbs := blk_le s
          generalize blk s = b at *
          have hrange := hn1.out.part 3 16 D (nd_mid _ l s D r hD)
          have hinf : (Try.prog.info? 22).map (·.size) = some D.length := by rw [hD]; exact info16
          have Hrange := hid hrange
          have Hinf := hid hinf
          clear hrange hinf
          by_cases hbr : b ≤ 16 ∧ r ≠ 0
          · obtain ⟨hb16, hr0⟩ := hbr
            have e1 : (r != 0) = true := by simpa using hr0
            go_wp2
            go_ret
            exact ⟨ret_bool (by rw [hR.out, hp1, hp2]; simp; omega), hB1.out⟩
          · have hcs : (16 < b) ∨ (b ≤ 16 ∧ r = 0) := by omega
            have hR2 := hid (show right _ l s D r = emptyFrom b D by
              rw [hR.out, hp1, hp2]
              have : (decide (16 < b) || r == 0) = true := by simpa using (by omega : 16 < b ∨ r = 0)
              rw [this]
              simp)
            clear hbr hg0 hR
            rcases hcs with hcs | ⟨hcs, hr0⟩
            all_goals
              try have e1 : (r != 0) = false := by simp [hr0]
              try clear hr0
              go_wp2_with (refine wpList_load_ints rfl 22 _ rfl w.heap.size 3 rfl D _ Hrange.out Try.underlying22 rfl Hinf.out ?_)
              go_loop [50] (fun i => ∃ (j : Nat), j ≤ 16 ∧ i = .int .i64 j ∧ ∀ i, i < j → b ≤ i → D.getD i 0 = 0) (fun i => 16 - (intOf i).toNat)
              case atStart => exact ⟨0, Nat.zero_le _, rfl, fun i hi => by omega⟩
              case round =>
                obtain ⟨j, hj, rfl, hz⟩ := hrel
                have Hz := hid hz
                clear hz
                by_cases hj16 : j < 16
                · have hx : D[j]? = some (D.getD j 0) := by
                    have : j < D.length := by omega
                    simp [this]
                  have hidx := fun (W : World) => index_ints Try.underlying22 Try.underlying3 (by exact info3.choose_spec.1) info3.choose_spec.2 D j hj16 _ hx W
                  have hne := hid (emptyFrom_not b D j (by omega))
                  obtain ⟨p, hp⟩ : ∃ p, p = D.getD j 0 := ⟨_, rfl⟩
                  rw [← hp] at hidx hne
                  have Hp := hid hp
                  clear hp
                  clear hx
                  by_cases hbj : b ≤ j
                  · first
                    | (exfalso; omega)
                    | (
                        by_cases hp0 : p = 0
                        · have e2 : (p != 0) = false := by simp [hp0]
                          have Hp0 := hid hp0
                          clear hp0
                          go_wp2
                          go_round
                          case rel =>
                            refine ⟨j + 1, by omega, by go_num, fun i hi hbi => ?_⟩
                            rcases Nat.lt_or_ge i j with h | h
                            · exact Hz.out i h hbi
                            · obtain rfl : i = j := by omega
                              rw [← Hp.out, Hp0.out]
                          case measure => simp [intOf]; omega
                        · have e2 : (p != 0) = true := by simpa using hp0
                          have hend := hid (hne.out hbj hp0)
                          clear hp0
                          go_wp2
                          go_ret
                          exact ⟨ret_bool (by rw [hR2.out]; exact hend.out.symm), hB1.out⟩)
                  · go_wp2
                    go_round
                    case rel =>
                      refine ⟨j + 1, by omega, by go_num, fun i hi hbi => ?_⟩
                      exact Hz.out i (by omega) hbi
                    case measure => simp [intOf]; omega
                · have hend := hid (emptyFrom_of b D (fun i hi hbi => Hz.out i (by omega) hbi))
                  go_wp2
                  go_ret
                  exact ⟨ret_bool (by rw [hR2.out]; exact hend.out.symm), hB1.out⟩
end Go.Proofs.Ytmjknaldpeoheaa
