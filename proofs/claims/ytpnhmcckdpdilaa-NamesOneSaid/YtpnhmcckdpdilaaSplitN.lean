/- The walk of names.Split. -/
import Derived.Test.YtpnhmcckdpdilaaPartsF
namespace Go.Proofs.Ytpnhmcckdpdilaa
open Go.RowKit Go.Shelf
attribute [local go_sem] Oper.semAt_some
set_option linter.unusedVariables false

/-- What names.Split answers. -/
def answersN (l : List UInt8) (v : Value) (w : World) : Prop :=
  match splitR l with
  | none => v = .tuple #[.slice none 0 0, .int .i64 1]
  | some D => ∃ a c, v = .tuple #[.slice a D.length c, .int .i64 0] ∧ IsRow w a (D.map strV) ∧ D.length ≤ c ∧ c ≤ maxLen

theorem own_of {e : TypeId} {base n : Nat} {w : World} {v : Value} {xs : List Value} (hn : xs.length = n) (h : w.ownsRow base e 1 v n xs) : ∃ A c, v = .slice A n c ∧ Own e base w A c xs := by
  subst hn
  have hh := h
  rcases h.2 with ⟨rfl, h0⟩ | ⟨g, cap, cur, rfl, _⟩
  · have : xs = [] := List.eq_nil_of_length_eq_zero h0
    subst this
    exact ⟨none, 0, rfl, Own.nothing⟩
  · exact ⟨_, cap, rfl, hh⟩

set_option maxRecDepth 100000 in
set_option maxHeartbeats 2000000 in
theorem split_any (l : List UInt8) (w : World) :
    Calls Try.prog 10 #[.string ⟨l.toArray⟩] w fun e w' => (∃ v, e = .returned v ∧ answersN l v w') ∧ Below w.heap.size w w' := by
  obtain ⟨n, hsz⟩ : ∃ n, l.length = n := ⟨_, rfl⟩
  have hempty : (l == []) = decide (n = 0) := by
    rw [Bool.eq_iff_iff, beq_iff_eq, decide_eq_true_eq, ← hsz]
    exact List.length_eq_zero_iff.symm
  refine (callsIn_wide (n := 3)).1 ?_
  by_cases h1 : 1000 < n
  · have E : splitR l = none := by
      unfold splitR
      rw [if_neg (by rintro rfl; simp at hsz; omega), if_pos (.inr (.inl (by omega)))]
    refine callsIn_of_wp_marks Try.func10 rfl trivial ?_ rfl
    simp only [Try.ntmps10, List.size_toArray, List.length_cons, List.length_nil, Nat.reduceAdd, Nat.reduceSub, Array.replicate_succ, Array.replicate_zero, List.push_toArray, List.append_toArray, List.nil_append, List.cons_append]
    gi_wp2
    refine ⟨.tuple #[.slice none 0 0, .int .i64 1], ?_, ⟨_, rfl, by unfold answersN; rw [E]⟩, ((Below.refl _ _).alloc (Nat.le_refl _) _).alloc (by simp) _⟩
    simp [results, Try.f10, go_sem]
  · by_cases hroot : l = [47]
    · subst hroot
      have hx : n = 1 := by simpa using hsz.symm
      subst hx
      refine callsIn_of_wp_marks Try.func10 rfl trivial ?_ rfl
      simp only [Try.ntmps10, List.size_toArray, List.length_cons, List.length_nil, Nat.reduceAdd, Nat.reduceSub, Array.replicate_succ, Array.replicate_zero, List.push_toArray, List.append_toArray, List.nil_append, List.cons_append]
      gi_wp2
      refine ⟨.tuple #[.slice none 0 0, .int .i64 0], ?_, ⟨_, rfl, none, 0, rfl, IsRow.nil _ _, Nat.le_refl _, by simp [maxLen]⟩, ((Below.refl _ _).alloc (Nat.le_refl _) _).alloc (by simp) _⟩
      simp [results, Try.f10, go_sem]
    · by_cases h0 : n = 0
      · have hl : l = [] := List.eq_nil_of_length_eq_zero (hsz.trans h0)
        subst hl
        subst h0
        have E : splitR [] = none := rfl
        refine callsIn_of_wp_marks Try.func10 rfl trivial ?_ rfl
        simp only [Try.ntmps10, List.size_toArray, List.length_cons, List.length_nil, Nat.reduceAdd, Nat.reduceSub, Array.replicate_succ, Array.replicate_zero, List.push_toArray, List.append_toArray, List.nil_append, List.cons_append]
        gi_wp2
        refine ⟨.tuple #[.slice none 0 0, .int .i64 1], ?_, ⟨_, rfl, by unfold answersN; rw [E]⟩, ((Below.refl _ _).alloc (Nat.le_refl _) _).alloc (by simp) _⟩
        simp [results, Try.f10, go_sem]
      · have hl0 : 0 < l.length := by omega
        have hne : (l == []) = false := by rw [hempty]; simp [h0]
        obtain ⟨x, hx⟩ : ∃ x, (l[0]'hl0).toNat = x := ⟨_, rfl⟩
        have hxb : ∀ h : 0 < (ByteArray.mk l.toArray).size, ((ByteArray.mk l.toArray)[0]'h).toNat = x := fun h => hx
        by_cases h47 : x = 47
        · have hne47 : (l == [47]) = false := by rw [beq_eq_false_iff_ne]; exact hroot
          have hi : ((x : Int) == 47) = true := by rw [h47]; rfl
          have hi2 : ((x : Int) != 47) = false := by rw [bne, hi]; rfl
          refine callsIn_of_wp_marks Try.func10 rfl trivial ?_ rfl
          simp only [Try.ntmps10, List.size_toArray, List.length_cons, List.length_nil, Nat.reduceAdd, Nat.reduceSub, Array.replicate_succ, Array.replicate_zero, List.push_toArray, List.append_toArray, List.nil_append, List.cons_append]
          gi_wp2_with (refine ⟨trivial, ?_⟩; gi_at_call 17; refine (callsIn_wide.2 (parts_any l _)).mono ?_; rintro e w' ⟨rfl, rfl⟩)
          obtain ⟨i0, hi0, hz0, hz1, hz2⟩ := info_parts elemStr.info
          have b0 := Boxed.new w 23 (.slice none 0 0)
          have b1 := Boxed.new (w.alloc (.cells #[.slice none 0 0] 23)) 24 (.int .i64 0)
          have b2 := Boxed.new ((w.alloc (.cells #[.slice none 0 0] 23)).alloc (.cells #[.int .i64 0] 24)) 23 (.slice none 0 0)
          have b3 := Boxed.new (((w.alloc (.cells #[.slice none 0 0] 23)).alloc (.cells #[.int .i64 0] 24)).alloc (.cells #[.slice none 0 0] 23)) 9 (.string ⟨l.toArray⟩)
          have hB0 : Below w.heap.size w ((((w.alloc (.cells #[.slice none 0 0] 23)).alloc (.cells #[.int .i64 0] 24)).alloc (.cells #[.slice none 0 0] 23)).alloc (.cells #[.string ⟨l.toArray⟩] 9)) := ((((Below.refl _ w).alloc (Nat.le_refl _) _).alloc (by simp) _).alloc (by simp; omega) _).alloc (by simp; omega) _
          have c0 := ((b0.alloc (.cells #[.int .i64 0] 24)).alloc (.cells #[.slice none 0 0] 23)).alloc (.cells #[.string ⟨l.toArray⟩] 9)
          have c1 := (b1.alloc (.cells #[.slice none 0 0] 23)).alloc (.cells #[.string ⟨l.toArray⟩] 9)
          have c2 := b2.alloc (.cells #[.string ⟨l.toArray⟩] 9)
          clear b0 b1 b2
          simp only [World.size_alloc] at c1 c2 b3
          obtain ⟨W0, hW0⟩ : ∃ W0, ((((w.alloc (.cells #[.slice none 0 0] 23)).alloc (.cells #[.int .i64 0] 24)).alloc (.cells #[.slice none 0 0] 23)).alloc (.cells #[.string ⟨l.toArray⟩] 9)) = W0 := ⟨_, rfl⟩
          have hs0 : W0.heap.size = w.heap.size + 4 := by rw [← hW0]; simp
          rw [hW0] at c0 c1 c2 b3 hB0 ⊢
          clear hW0
          have hbn : decide (1000 < (n : Int)) = false := decide_eq_false (by omega)
          simp only [hbn]
          rename_i _ _ _ _ K hKr
          obtain ⟨t, ht⟩ : ∃ t, l = 47 :: t := by
            match l, hl0, hx with
            | b :: t, _, hx => exact ⟨t, by
                have hx' : b.toNat = x := hx
                rw [show b = 47 from UInt8.toNat_inj.1 (by rw [hx', h47]; rfl)]⟩
          have Hp := hid (show pieces l = scan [] l.tail by rw [ht]; rfl)
          have Hlen := hid (show (pieces l).length ≤ 1000 by
            rw [Hp.out, ht]
            have := scan_len t []
            rw [ht] at hsz
            simp only [List.length_cons, List.tail_cons] at *
            omega)
          have Hsp := hid (show splitR l = if (pieces l).all nm then some (pieces l) else none by
            unfold splitR
            rw [if_neg hroot, if_neg (by rintro (h' | h' | h'); exact h0 (by rw [← hsz, h']; rfl); omega; exact h' (by rw [ht]; rfl)), Hp.out])
          have hl1 : l.length ≤ 1000 := by omega
          have hsto := parts_stops (3 - 1) (by decide) (w.heap.size + 1 + 1 + 1) w.heap.size l hl1 W0 (by omega) b3.cell
          clear hsz hempty hx hxb ht h0 hroot hne hne47 hi hi2 h47 hl0
          refine wpIn_rangeFunc_ownF (n := 3) rfl (by decide) (gf := 23) (lb := #[.pointer (some ⟨w.heap.size + 1 + 1 + 1, 0, none⟩)]) rfl trivial (enters_of Try.func23 (by kernel_rfl) rfl)
            hsto belowK_t (belowK_b (by omega)) (Below.refl _ _) (fun _ => rfl)
            (fun pre W => (∃ v, Boxed W (w.heap.size + 1 + 1) 23 v ∧ W.ownsRow w.heap.size 9 1 v pre.length (pre.map strV) ∧ (pre.all nm = true ∧ True)) ∧ (Boxed W w.heap.size 23 (.slice none 0 0) ∧ Boxed W (w.heap.size + 1) 24 (.int .i64 0)) ∧ Below w.heap.size w W)
            (fun c pre W => (c = .ret ∧ pre.all nm = false) ∧ (Boxed W w.heap.size 23 (.slice none 0 0) ∧ Boxed W (w.heap.size + 1) 24 (.int .i64 1)) ∧ Below w.heap.size w W)
            ?hI ?hIx ?h0
            (fun x => { tmps := #[.string ⟨l.toArray⟩, undef, .pointer (some ⟨w.heap.size, 0, none⟩), .pointer (some ⟨w.heap.size + 1, 0, none⟩), .pointer (some ⟨w.heap.size + 1 + 1, 0, none⟩), strV x, .string ⟨l.toArray⟩, .int .i64 n, .bool false, .bool false, .string ⟨l.toArray⟩, .bool false, .bool false, .bool false, .string ⟨l.toArray⟩, .int .u8 47, .bool false, .bool false, .string ⟨l.toArray⟩, .bool false, .string ⟨l.toArray⟩, .func (.func 23) #[] #[.pointer (some ⟨w.heap.size + 1 + 1 + 1, 0, none⟩)], strV x, undef, undef, undef, undef, undef, undef, undef, undef], defers := [] }) ?assign ?body ?done ?stop
          case hI => exact OwnFrom.and (Own.from (holdsRow_own w.heap.size (w.heap.size + 1 + 1) 23 9 1 (fun pre : List (List UInt8) => pre.length) (fun pre => pre.map strV) (fun pre _ => pre.all nm = true ∧ True)) _) (OwnFrom.and (OwnFrom.and (Own.from (boxed_own _ _ _) _) (Own.from (boxed_own _ _ _) _)) (ownFrom_below (Nat.le_refl _) (by omega)))
          case hIx => exact fun c => OwnFrom.and (ownFrom_pure _ _) (OwnFrom.and (OwnFrom.and (Own.from (boxed_own _ _ _) _) (Own.from (boxed_own _ _ _) _)) (ownFrom_below (Nat.le_refl _) (by omega)))
          case h0 => exact ⟨⟨_, c2, World.ownsRow_nil _ _ _ _, rfl, trivial⟩, ⟨c0, c1⟩, hB0⟩
          case assign =>
            intro lr x W K hK
            gi_wp2
            exact hK
          case body =>
            rintro lr pre x W ⟨⟨v, hv, hrow, hall, -⟩, ⟨hb0, hb1⟩, hB⟩ hlt
            have hc := hv.cell
            rcases hnm : nm x with _ | _
            · have HN := hnm ▸ name_any x
              dsimp only [strV]
              have d0 := hb0.cell
              have d1 := hb1.cell
              have f0 := hb0.frozen
              have f1 := hb1.frozen
              gi_wp2_with (refine ⟨trivial, ?_⟩; gi_at_call 12; refine (CallsIn.inRound lr (callsIn_wide.2 (HN _))).mono ?_; rintro e w' ⟨rfl, rfl⟩)
              exact ⟨(KeepsOthers.setCell _ _ _).trans (KeepsOthers.setCell _ _ _), ⟨rfl, by simp [hnm]⟩, ⟨(hb0.set _).other (by omega) _, (hb1.other (by omega) _).set _⟩, (hB.setCell (p := ⟨w.heap.size, 0, none⟩) (Nat.le_refl _) _).setCell (p := ⟨w.heap.size + 1, 0, none⟩) (by simp) _⟩
            · have HN := hnm ▸ name_any x
              dsimp only [strV]
              have Hlt := Hlen.out
              have hpl : pre.length ≤ 1000 := by omega
              gi_wp2_with (first
                | (refine ⟨trivial, ?_⟩; gi_at_call 12; refine (CallsIn.inRound lr (callsIn_wide.2 (HN _))).mono ?_; rintro e w' ⟨rfl, rfl⟩)
                | (gi_at_builtin; refine wpListIn_append_own _ rfl _ _ 23 rfl w.heap.size 9 i0 (.string ⟨#[]⟩) 1 16 Try.underlying23 hi0 hz0 hz1 hz2 rfl (by decide) _ _ _ rfl (hrow.alloc _) ⟨W.heap.size, 0, none⟩ 1 1 [strV x] rfl rfl (cell_one_new _ _ _) (by simp [Value.oneCell', strV]) (by unfold maxLen; omega) (by omega) (by have := hB.size; simp; omega) ?_; intro v' w1 hown' hgrow _; obtain ⟨g', cap', rfl⟩ := ownsRow_succ hown'; obtain ⟨hv1, hv2, hr2, hk2, hb2⟩ := hv.appended (by decide) hrow hB.size (by omega) hown' hgrow; have hc1 := hv1.cell; have hf1 := hv1.frozen))
              have k0 := ((hb0.alloc (.cells #[strV x] 9)).kept hgrow (hb0.not_row (by decide) hrow)).other (B' := w.heap.size + 1 + 1) (by omega) (.slice (some ⟨g', 0, none⟩) (pre.length + 1) cap')
              have k1 := ((hb1.alloc (.cells #[strV x] 9)).kept hgrow (hb1.not_row (by decide) hrow)).other (B' := w.heap.size + 1 + 1) (by omega) (.slice (some ⟨g', 0, none⟩) (pre.length + 1) cap')
              exact ⟨hk2, hb2, ⟨_, hv2, by simpa using hr2, by simp [hall, hnm], trivial⟩, ⟨k0, k1⟩, hB.trans hb2⟩
          case done =>
            rintro D ys W hD rfl ⟨⟨v, hv, hrow, hall, -⟩, ⟨hb0, hb1⟩, hB⟩ hK
            have hr1 := hrow.kept (grownBy_setCell' W w.heap.size v) (.inr (hb0.not_row (by decide) hrow).symm)
            have e1 := hb1.other (B' := w.heap.size) (by omega) v
            have hr2 := hr1.kept (grownBy_setCell' _ (w.heap.size + 1) (.int .i64 0)) (.inr (e1.not_row (by decide) hr1).symm)
            have e0 := (hb0.set v).other (B' := w.heap.size + 1) (by omega) (.int .i64 0)
            have e2 := e1.set (.int .i64 0)
            have hK' := ((KeepsOthers.setCell W ⟨w.heap.size, 0, none⟩ v).trans (KeepsOthers.setCell _ ⟨w.heap.size + 1, 0, none⟩ (.int .i64 0))).same D _ hK rfl
            have hr3 := ownsRow_putObj hr2 (.deferred none) hK' rfl
            have g0 := cell_kept e0.cell (grownBy_putObj' _ D (.deferred none)) (fun r e => by cases e; exact ⟨_, hK', rfl⟩)
            have g1 := cell_kept e2.cell (grownBy_putObj' _ D (.deferred none)) (fun r e => by cases e; exact ⟨_, hK', rfl⟩)
            have hB' := ((hB.setCell (p := ⟨w.heap.size, 0, none⟩) (Nat.le_refl _) v).setCell (p := ⟨w.heap.size + 1, 0, none⟩) (by simp) (.int .i64 0)).trans (belowK_b (w := w) (Nat.le_refl _) _ D _ (.deferred none) (by omega) hK' rfl rfl)
            obtain ⟨A, c, rfl, hown⟩ := own_of (by simp) hr3
            have hrow' := hown.row
            have Hlen3 := hid hown.len
            rw [List.length_map] at Hlen3
            have H3 := hid hrow'
            have HB' := hid hB'
            have G0 := hid g0
            have G1 := hid g1
            have HK' := hid hK'
            have hc := hv.cell
            have d0 := hb0.cell
            have d1 := hb1.cell
            have f0 := hb0.frozen
            have f1 := hb1.frozen
            clear hr1 hr2 hr3 e0 e1 e2 g0 g1 hB' hown hrow' hrow hK'
            refine hKr _ _ ?_
            gi_wp2
            refine ⟨by simp, .inl ⟨_, _, rfl, run_takeDeferred HK'.out, ?_⟩⟩
            refine ⟨.tuple #[.slice A (pieces l).length c, .int .i64 0], ?_, ⟨_, rfl, ?_⟩, HB'.out⟩
            · have g0 := G0.out
              have g1 := G1.out
              simp [results, Try.f10, go_sem, g0, g1]
            · unfold answersN
              rw [Hsp.out, if_pos hall]
              exact ⟨A, c, rfl, H3.out, Hlen3.out⟩
          case stop =>
            rintro D c pre W hD hpre ⟨⟨rfl, hbad⟩, ⟨hb0, hb1⟩, hB⟩ hK
            have g0 := cell_kept hb0.cell (grownBy_putObj' _ D (.deferred none)) (fun r e => by cases e; exact ⟨_, hK, rfl⟩)
            have g1 := cell_kept hb1.cell (grownBy_putObj' _ D (.deferred none)) (fun r e => by cases e; exact ⟨_, hK, rfl⟩)
            gi_wp2
            refine ⟨by simp, .inl ⟨_, _, rfl, run_takeDeferred hK, ?_⟩⟩
            refine ⟨.tuple #[.slice none 0 0, .int .i64 1], ?_, ⟨_, rfl, ?_⟩, hB.trans (belowK_b (w := w) (Nat.le_refl _) W D _ _ (by omega) hK rfl rfl)⟩
            · simp [results, Try.f10, go_sem, g0, g1]
            · have hno : ¬ (pieces l).all nm = true := by
                obtain ⟨r, hr⟩ := hpre
                rw [← hr, List.all_append, hbad]
                simp
              unfold answersN
              rw [Hsp.out, if_neg hno]
        · have hh : l.head? ≠ some 47 := by
            intro h
            rw [List.head?_eq_getElem?, List.getElem?_eq_getElem hl0] at h
            injection h with h
            exact h47 (by rw [← hx, h]; rfl)
          have E : splitR l = none := by
            unfold splitR
            rw [if_neg hroot, if_pos (.inr (.inr hh))]
          have hi : ((x : Int) == 47) = false := by rw [beq_eq_false_iff_ne]; omega
          have hi2 : ((x : Int) != 47) = true := by rw [bne, hi]; rfl
          refine callsIn_of_wp_marks Try.func10 rfl trivial ?_ rfl
          simp only [Try.ntmps10, List.size_toArray, List.length_cons, List.length_nil, Nat.reduceAdd, Nat.reduceSub, Array.replicate_succ, Array.replicate_zero, List.push_toArray, List.append_toArray, List.nil_append, List.cons_append]
          gi_wp2
          refine ⟨.tuple #[.slice none 0 0, .int .i64 1], ?_, ⟨_, rfl, by unfold answersN; rw [E]⟩, ((Below.refl _ _).alloc (Nat.le_refl _) _).alloc (by simp) _⟩
          simp [results, Try.f10, go_sem]
end Go.Proofs.Ytpnhmcckdpdilaa
