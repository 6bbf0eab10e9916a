/- The walk of the document's reading of nodes (harrowref13): Decode. -/
import Derived.Test.YtmjknaldpeoheaaInoRowR3
import Derived.Test.YtmjknaldpeoheaaInoR2
import Derived.Test.YtmjknaldpeoheaaIno5
import Derived.Test.YtmjknaldpeoheaaZero2
import Derived.Test.YtmjknaldpeoheaaHeld2
namespace Go.Proofs.Ytmjknaldpeoheaa
open Go.RowKit O
set_option linter.unusedVariables false

theorem built26 (k l s r : Int) : Try.prog.built 26 [(0, .int .i64 k), (1, .int .i64 l), (2, .int .i64 s), (4, .int .i64 r)] = some (nodeC (nd k l s (List.replicate 16 0) r)) := by kernel_rfl
theorem zero26 : (Try.prog.info? 26).map (·.zero) = some (some (.agg (nodeC zeroN))) := by kernel_rfl
theorem built26z : Try.prog.built 26 [] = some (nodeC zeroN) := by kernel_rfl
theorem exec_build26 {o : Oper} {a : Act} {w : World} {k l s r : Int} (x1 x2 x3 x4 : Operand) (ho : o.op = .build 26 #[(0, x1), (1, x2), (2, x3), (4, x4)]) (h1 : a.eval x1 = .int .i64 k) (h2 : a.eval x2 = .int .i64 l) (h3 : a.eval x3 = .int .i64 s) (h4 : a.eval x4 = .int .i64 r) :
    (execOp a.eval o).run Try.prog w = .ok (.value (.agg (nodeC (nd k l s (List.replicate 16 0) r)))) w := by
  unfold execOp
  simp only [ho, List.map_toArray, List.map_cons, List.map_nil, h1, h2, h3, h4, Sem.run_bind, run_build w 26 _ _ (built26 k l s r), Result.andThen_ok]
  rfl

theorem refdecode_short (l : List UInt8) (n : Nat) (hnl : l.length = n) (hn : n ≠ 480) (w : World) (a : Option Addr) (c : Nat) :
    Calls Try.prog 20 #[.slice a n c] w fun e w' => e = .returned (.tuple #[.agg (nodeC (decN l)), .bool (decOk l)]) ∧ Below w.heap.size w w' := by
  have hok : decOk l = false := by unfold decOk; rw [decide_eq_false (show ¬ l.length = 480 by omega)]; rfl
  have e1 : decN l = zeroN := by unfold decN; rw [hok]; rfl
  rw [e1, hok]
  clear e1 hok hnl
  have hn' : ((n : Int) != 480) = true := by simp; omega
  have hinf := hid (infoR 0 0 0 (List.replicate 16 0) 0 rfl)
  clear hn
  go_enter Try.func20, Try.ntmps20
  go_wp2_with (first
    | (refine wpList_alloc_ints (w := w) rfl rfl zero26 ?_; intro w1 hN hB hS; have HN1 := hid hN; have HB1 := hid hB; clear hN hB hS)
    | (refine wpList_exec _ rfl (exec_build_ints rfl built26z) ?_)
    | (refine wpList_store_node rfl 26 _ _ rfl w.heap.size zeroN (nodeL zeroN) 26 rfl rfl HN1.out (nodeL_length _) hinf.out ?_; intro w4 hN hK hS; have HN := hid hN; have HB := hid (HB1.out.trans (hK.below _ (Nat.le_refl _) HB1.out.size)); clear hN hK hS))
  have hld := loadVar_node (P := Try.prog) (T := 26) HN.out Try.underlying26 rfl hinf.out
  exact bodyPost_ret (v := .tuple #[.agg (nodeC zeroN), .bool false]) (results_cell Try.results20 rfl rfl hld) rfl ⟨rfl, HB.out⟩

theorem node_g {w : World} {r : Nat} {T : TypeId} {N : List Int} (h : IsNode w r T N) : ∃ g, g = w.heap.size := ⟨_, rfl⟩
theorem num1 (l : List UInt8) (h : 0 < l.length) : ((num (l.take 1) : Nat) : Int) = n8 (l[0]'h) := by
  cases l with
  | nil => simp at h
  | cons x l => simp [num, n8]
theorem num4 (l : List UInt8) (h : 4 ≤ l.length) : ((num (l.take 4) : Nat) : Int) = ((num (l.take 2) : Nat) : Int) + 65536 * ((num ((l.drop 2).take 2) : Nat) : Int) := by
  match l, h with
  | a :: b :: c :: d :: l, _ =>
    simp only [List.take_succ_cons, List.take_zero, List.drop_succ_cons, List.drop_zero, num]
    omega
theorem some8_snoc (l : List UInt8) (k : Nat) (h : k < l.length) : some8 (l.take (k + 1)) = (some8 (l.take k) || l[k] != 0) := by
  unfold some8
  rw [List.take_succ_eq_append_getElem h, List.any_append]
  simp

theorem ok_no {rt a b : Bool} (h : false = (rt && !a)) : false = (rt && !(a || b)) := by cases rt <;> cases a <;> cases b <;> first | rfl | exact h
theorem ok_yes {rt a : Bool} {c : UInt8} (h : true = (rt && !a)) : (c == 0) = (rt && !(a || c != 0)) := by
  have h1 : rt = true := by cases rt <;> first | rfl | (cases h)
  have h2 : a = false := by subst h1; cases a <;> first | rfl | (cases h)
  subst h1 h2
  simp [bne]
theorem some8_part (l : List UInt8) (o j : Nat) (h1 : o ≤ j) (h2 : j < l.length) : some8 ((l.take (j + 1)).drop o) = (some8 ((l.take j).drop o) || l[j] != 0) := by
  unfold some8
  rw [List.take_succ_eq_append_getElem h2, List.drop_append_of_le_length (by rw [List.length_take]; omega), List.any_append]
  simp

set_option maxHeartbeats 4000000 in
set_option maxRecDepth 20000 in
theorem refdecode_full (l : List UInt8) (hnl : l.length = 480) (w : World) (a : Option Addr) (c : Nat) (hb : IsBytes w a l) (q : Bool) (hq : decOk l = q) (N : List Int) (hN : decN l = N) :
    Calls Try.prog 20 #[.slice a 480 c] w fun e w' => e = .returned (.tuple #[.agg (nodeC N), .bool q]) ∧ Below w.heap.size w w' := by
  have hl := hid hnl
  have Hb := hid hb
  have Hq := hid hq
  have HNl := hid hN
  have hinf := hid (infoR 0 0 0 (List.replicate 16 0) 0 rfl)
  obtain ⟨b, off, ha, hcell⟩ := hb
  obtain rfl := ha (by intro h; rw [h] at hnl; simp at hnl)
  have hd0 : ∀ W, Below w.heap.size w W → W.cell? ⟨b, off, none⟩ = some (.int .u8 (n8 (l[0]'(by omega)))) := fun W hW => by
    have := hcell 0 (by omega)
    rw [← this]
    exact hW.cell (World.block_lt_of_cell? w _ this)
  obtain ⟨xk, hxk⟩ : ∃ xk, dK l = xk := ⟨_, rfl⟩
  obtain ⟨xl, hxl⟩ : ∃ xl, ((num ((l.drop 1).take 2) : Nat) : Int) = xl := ⟨_, rfl⟩
  obtain ⟨xs0, hxs0⟩ : ∃ xs0, ((num ((l.drop 3).take 2) : Nat) : Int) = xs0 := ⟨_, rfl⟩
  obtain ⟨xs1, hxs1⟩ : ∃ xs1, ((num ((l.drop 5).take 2) : Nat) : Int) = xs1 := ⟨_, rfl⟩
  obtain ⟨xr, hxr⟩ : ∃ xr, ((num ((l.drop 39).take 2) : Nat) : Int) = xr := ⟨_, rfl⟩
  obtain ⟨xs, hxs⟩ : ∃ xs, xs0 + 65536 * xs1 = xs := ⟨_, rfl⟩
  have b0 : 0 ≤ xs0 ∧ xs0 < 65536 := by have := num2_lt (l.drop 3); omega
  have b1 : 0 ≤ xs1 ∧ xs1 < 65536 := by have := num2_lt (l.drop 5); omega
  have hk0 : n8 (l[0]'(by omega)) = xk := by rw [← hxk]; unfold dK; exact (num1 l (by omega)).symm
  have hS0 : dS l = xs := by
    unfold dS
    rw [num4 (l.drop 3) (by rw [List.length_drop]; omega), List.drop_drop, hxs0, hxs1, hxs]
  rw [hk0] at hd0
  have bk : 0 ≤ xk ∧ xk ≤ 255 := by rw [← hk0]; have := (l[0]'(by omega)).toNat_lt; unfold n8; omega
  have hwk : IntKind.i64.wrap xk = xk := IntWalk.i64_in _ ⟨by omega, by omega⟩
  have hws1 : IntKind.i64.wrap (65536 * xs1) = 65536 * xs1 := IntWalk.i64_in _ ⟨by omega, by omega⟩
  have hws : IntKind.i64.wrap (xs0 + 65536 * xs1) = xs := by rw [← hxs]; exact IntWalk.i64_in _ ⟨by omega, by omega⟩
  have hdk := hid (show dK l = xk ∧ dL l = xl ∧ dS l = xs ∧ dR l = xr from ⟨hxk, hxl, hS0, hxr⟩)
  replace hxl := hid hxl
  replace hxs0 := hid hxs0
  replace hxs1 := hid hxs1
  replace hxr := hid hxr
  have Hcell := hid hcell
  clear hnl hq hN hcell ha hxk hk0 hS0 bk b0 b1 hxs
  go_enter Try.func20, Try.ntmps20
  go_wp2_with (first
    | (refine wpList_alloc_ints (w := w) rfl rfl zero26 ?_; intro w1 hN hB hS; have HR1 := hid hN; have HB1 := hid hB; clear hN hB hS))
  have HB := hid HB1.out.drew
  have HR := hid (HR1.out.below (Below.refl _ _).drew)
  clear HB1 HR1
  refine Code.wp_mono (Q := NoPanic fun e a W => ∃ g W8, e = .normal ∧ W = W8 ∧ a = { tmps := #[.slice (some ⟨b, off, none⟩) 480 c, undef, .pointer (some ⟨w.heap.size, 0, none⟩), .bool false, .pointer (some ⟨g, 0, none⟩), undef, undef, undef, .slice (some ⟨b, off, none⟩) 480 c, .int .i64 480, .bool false, undef, .slice (some ⟨b, off, none⟩) 480 c, .pointer (some ⟨b, off, none⟩), .int .u8 xk, .int .i64 xk, .slice (some ⟨b, off, none⟩) 480 c, .int .i64 xl, .slice (some ⟨b, off, none⟩) 480 c, .int .i64 xs0, .slice (some ⟨b, off, none⟩) 480 c, .int .i64 xs1, .int .i64 (65536 * xs1), .int .i64 xs, .slice (some ⟨b, off, none⟩) 480 c, .int .i64 xr, .agg (nodeC (nd xk xl xs (List.replicate 16 0) xr)), undef, undef, undef, undef, undef, undef, undef, undef, undef, undef, undef, undef, undef, undef, undef, undef, undef, undef, undef, undef, undef, undef, undef, undef, undef, undef, undef, undef, undef, undef], defers := [] } ∧ IsNode W8 w.heap.size 26 zeroN ∧ IsNode W8 g 26 (nd xk xl xs (List.replicate 16 0) xr) ∧ w.heap.size < g ∧ Below w.heap.size w W8) ?post ?reg
  case reg =>
    refine wp_region_held_drew (S := (fun W => Below w.heap.size w W)) (by kernel_rfl) HB.out (fun hS => ?_)
    refine take_at (i := 0) (v := ?v0_1) rfl (by kernel_rfl) (by kernel_rfl) (by kernel_rfl) (fun _ _ _ h => h) hS (by rfl) ?h0_1 ?r0_1
    case h0_1 => (intro W hSW; (try dsimp only at hSW); go_simp; (try with_reducible rfl))
    try simp only [Act.put, List.setIfInBounds_toArray, List.set_cons_zero, List.set_cons_succ]
    refine take_at (i := 1) (v := ?v1_2) rfl (by kernel_rfl) (by kernel_rfl) (by kernel_rfl) (fun _ _ _ h => h) hS (by rfl) ?h1_2 ?r1_2
    case h1_2 => (intro W hSW; (try dsimp only at hSW); go_simp; (try with_reducible rfl))
    try simp only [Act.put, List.setIfInBounds_toArray, List.set_cons_zero, List.set_cons_succ]
    refine take_at (i := 2) (v := ?v2_3) rfl (by kernel_rfl) (by kernel_rfl) (by kernel_rfl) (fun _ _ _ h => h) hS (by rfl) ?h2_3 ?r2_3
    case h2_3 => (intro W hSW; (try dsimp only at hSW); go_simp; (try with_reducible rfl))
    try simp only [Act.put, List.setIfInBounds_toArray, List.set_cons_zero, List.set_cons_succ]
    refine take_at (i := 3) (v := ?v3_4) rfl (by kernel_rfl) (by kernel_rfl) (by kernel_rfl) (fun _ _ _ h => h) hS (by rfl) ?h3_4 ?r3_4
    case h3_4 => (intro W hSW; (try dsimp only at hSW); go_simp; (try with_reducible rfl))
    try simp only [Act.put, List.setIfInBounds_toArray, List.set_cons_zero, List.set_cons_succ]
    refine take_at (i := 4) (v := ?v4_5) rfl (by kernel_rfl) (by kernel_rfl) (by kernel_rfl) (fun _ _ _ h => h) hS (by rfl) ?h4_5 ?r4_5
    case h4_5 => (intro W hSW; (try dsimp only at hSW); go_simp; (try with_reducible rfl))
    try simp only [Act.put, List.setIfInBounds_toArray, List.set_cons_zero, List.set_cons_succ]
    refine take_at (i := 6) (v := ?v6_6) rfl (by kernel_rfl) (by kernel_rfl) (by kernel_rfl) (fun _ _ _ h => h) hS (by rfl) ?h6_6 ?r6_6
    case h6_6 => (intro W hSW; (try dsimp only at hSW); go_simp; (try with_reducible rfl))
    try simp only [Act.put, List.setIfInBounds_toArray, List.set_cons_zero, List.set_cons_succ]
    refine take_at (i := 8) (v := ?v8_7) rfl (by kernel_rfl) (by kernel_rfl) (by kernel_rfl) (fun _ _ _ h => h) hS (by rfl) ?h8_7 ?r8_7
    case h8_7 => (intro W hSW; (try dsimp only at hSW); go_simp; (try with_reducible rfl))
    try simp only [Act.put, List.setIfInBounds_toArray, List.set_cons_zero, List.set_cons_succ]
    refine take_at (i := 12) (v := ?v12_8) rfl (by kernel_rfl) (by kernel_rfl) (by kernel_rfl) (fun _ _ _ h => h) hS (by rfl) ?h12_8 ?r12_8
    case h12_8 => (intro W hSW; (try dsimp only at hSW); go_simp; (try with_reducible rfl))
    try simp only [Act.put, List.setIfInBounds_toArray, List.set_cons_zero, List.set_cons_succ]
    refine ready2_at (i := 5) (j := 15) rfl rfl (by kernel_rfl) (fun K hK => ?_) (fun K hK => ?_)
    · go_simp
      refine (two_any l hl.out _ _ _ (Hb.out.below HB.out) 1 (by omega) xl hxl.out).mono ?_
      rintro e W0 ⟨rfl, hB⟩
      replace HB := hid (HB.out.trans (hB.mono HB.out.size))
      replace HR := hid (HR.out.below hB)
      clear hB
      go_wp2_with fail
      refine hK.out _ _ HB.out (fun hS => ?_)
      clear hK K
      try simp only [Act.put, List.setIfInBounds_toArray, List.set_cons_zero, List.set_cons_succ]
      refine ready2_at (i := 7) (j := 15) rfl rfl (by kernel_rfl) (fun K hK => ?_) (fun K hK => ?_)
      · go_simp
        refine (two_any l hl.out _ _ _ (Hb.out.below HB.out) 3 (by omega) xs0 hxs0.out).mono ?_
        rintro e W1 ⟨rfl, hB⟩
        replace HB := hid (HB.out.trans (hB.mono HB.out.size))
        replace HR := hid (HR.out.below hB)
        clear hB
        go_wp2_with fail
        refine hK.out _ _ HB.out (fun hS => ?_)
        clear hK K
        try simp only [Act.put, List.setIfInBounds_toArray, List.set_cons_zero, List.set_cons_succ]
        refine ready2_at (i := 9) (j := 15) rfl rfl (by kernel_rfl) (fun K hK => ?_) (fun K hK => ?_)
        · go_simp
          refine (two_any l hl.out _ _ _ (Hb.out.below HB.out) 5 (by omega) xs1 hxs1.out).mono ?_
          rintro e W2 ⟨rfl, hB⟩
          replace HB := hid (HB.out.trans (hB.mono HB.out.size))
          replace HR := hid (HR.out.below hB)
          clear hB
          go_wp2_with fail
          refine hK.out _ _ HB.out (fun hS => ?_)
          clear hK K
          try simp only [Act.put, List.setIfInBounds_toArray, List.set_cons_zero, List.set_cons_succ]
          refine take_at (i := 10) (v := ?v10_9) rfl (by kernel_rfl) (by kernel_rfl) (by kernel_rfl) (fun _ _ _ h => h) hS (by rfl) ?h10_9 ?r10_9
          case h10_9 => (intro W hSW; (try dsimp only at hSW); go_simp; (try with_reducible rfl))
          try simp only [Act.put, List.setIfInBounds_toArray, List.set_cons_zero, List.set_cons_succ]
          refine take_at (i := 11) (v := ?v11_10) rfl (by kernel_rfl) (by kernel_rfl) (by kernel_rfl) (fun _ _ _ h => h) hS (by rfl) ?h11_10 ?r11_10
          case h11_10 => (intro W hSW; (try dsimp only at hSW); go_simp; (try with_reducible rfl))
          try simp only [Act.put, List.setIfInBounds_toArray, List.set_cons_zero, List.set_cons_succ]
          refine ready2_at (i := 13) (j := 15) rfl rfl (by kernel_rfl) (fun K hK => ?_) (fun K hK => ?_)
          · go_simp
            refine (two_any l hl.out _ _ _ (Hb.out.below HB.out) 39 (by omega) xr hxr.out).mono ?_
            rintro e W3 ⟨rfl, hB⟩
            replace HB := hid (HB.out.trans (hB.mono HB.out.size))
            replace HR := hid (HR.out.below hB)
            clear hB
            go_wp2_with fail
            refine hK.out _ _ HB.out (fun hS => ?_)
            clear hK K
            try simp only [Act.put, List.setIfInBounds_toArray, List.set_cons_zero, List.set_cons_succ]
            refine take_at (i := 14) (v := (.agg (nodeC (nd xk xl xs (List.replicate 16 0) xr)))) rfl (by kernel_rfl) (by kernel_rfl) (by kernel_rfl) (fun _ _ _ h => h) hS (by rfl) ?h14_11 ?r14_11
            case h14_11 => (intro W hSW; (try dsimp only at hSW); exact exec_build26 _ _ _ _ rfl rfl rfl rfl rfl)
            try simp only [Act.put, List.setIfInBounds_toArray, List.set_cons_zero, List.set_cons_succ]
            refine ready_at (i := 15) rfl (by kernel_rfl) (fun K hK => ?_)
            obtain ⟨g, hg⟩ := node_g HR.out
            have HG := hid (IsNode.at hg 26 zeroN rfl)
            have Hlt := hid (hg ▸ HR.out.lt)
            replace HR := hid (HR.out.below (below1 _ (.cells (nodeC zeroN) 26)))
            replace HB := hid (HB.out.alloc HB.out.size (.cells (nodeC zeroN) 26))
            refine step_exec _ (exec_alloc_ints rfl zero26) rfl ?_
            rw [← hg]
            refine hK.out _ _ HB.out (fun hS => ?_)
            clear hK K hg
            try simp only [Act.put, List.setIfInBounds_toArray, List.set_cons_zero, List.set_cons_succ]
            refine ready_at (i := 16) rfl (by kernel_rfl) (fun K hK => ?_)
            refine step_store_node 26 (.tmp 4) (.tmp 26) rfl g (nd xk xl xs (List.replicate 16 0) xr) (nodeL zeroN) 26 rfl rfl rfl HG.out (by rfl) (infoR _ _ _ _ _ (by rfl)) ?_
            intro W8 hN hK8 hS8
            replace HR := hid (HR.out.kept hK8 (Nat.ne_of_lt Hlt.out))
            replace HB := hid (HB.out.trans (hK8.below _ (Nat.le_of_lt Hlt.out) HB.out.size))
            have HN := hid hN
            clear hN hK8 hS8
            refine hK.out _ _ HB.out (fun hS => ?_)
            clear hK K
            try simp only [Act.put]
            refine wpAnyH_done (by kernel_rfl) ?_ _
            exact NoPanic.normal ⟨g, W8, rfl, rfl, rfl, HR.out, HN.out, Hlt.out, HB.out⟩
          · obtain ⟨g, hg⟩ := node_g HR.out
            have HG := hid (IsNode.at hg 26 zeroN rfl)
            have Hlt := hid (hg ▸ HR.out.lt)
            replace HR := hid (HR.out.below (below1 _ (.cells (nodeC zeroN) 26)))
            replace HB := hid (HB.out.alloc HB.out.size (.cells (nodeC zeroN) 26))
            refine step_exec _ (exec_alloc_ints rfl zero26) rfl ?_
            rw [← hg]
            refine hK.out _ _ HB.out (fun hS => ?_)
            clear hK K hg
            try simp only [Act.put, List.setIfInBounds_toArray, List.set_cons_zero, List.set_cons_succ]
            refine ready_at (i := 13) rfl (by kernel_rfl) (fun K hK => ?_)
            go_simp
            refine (two_any l hl.out _ _ _ (Hb.out.below HB.out) 39 (by omega) xr hxr.out).mono ?_
            rintro e W3 ⟨rfl, hB⟩
            replace HB := hid (HB.out.trans (hB.mono HB.out.size))
            replace HR := hid (HR.out.below hB)
            replace HG := hid (HG.out.below hB)
            clear hB
            go_wp2_with fail
            refine hK.out _ _ HB.out (fun hS => ?_)
            clear hK K
            try simp only [Act.put, List.setIfInBounds_toArray, List.set_cons_zero, List.set_cons_succ]
            refine take_at (i := 14) (v := (.agg (nodeC (nd xk xl xs (List.replicate 16 0) xr)))) rfl (by kernel_rfl) (by kernel_rfl) (by kernel_rfl) (fun _ _ _ h => h) hS (by rfl) ?h14_12 ?r14_12
            case h14_12 => (intro W hSW; (try dsimp only at hSW); exact exec_build26 _ _ _ _ rfl rfl rfl rfl rfl)
            try simp only [Act.put, List.setIfInBounds_toArray, List.set_cons_zero, List.set_cons_succ]
            refine ready_at (i := 16) rfl (by kernel_rfl) (fun K hK => ?_)
            refine step_store_node 26 (.tmp 4) (.tmp 26) rfl g (nd xk xl xs (List.replicate 16 0) xr) (nodeL zeroN) 26 rfl rfl rfl HG.out (by rfl) (infoR _ _ _ _ _ (by rfl)) ?_
            intro W8 hN hK8 hS8
            replace HR := hid (HR.out.kept hK8 (Nat.ne_of_lt Hlt.out))
            replace HB := hid (HB.out.trans (hK8.below _ (Nat.le_of_lt Hlt.out) HB.out.size))
            have HN := hid hN
            clear hN hK8 hS8
            refine hK.out _ _ HB.out (fun hS => ?_)
            clear hK K
            try simp only [Act.put]
            refine wpAnyH_done (by kernel_rfl) ?_ _
            exact NoPanic.normal ⟨g, W8, rfl, rfl, rfl, HR.out, HN.out, Hlt.out, HB.out⟩
        · obtain ⟨g, hg⟩ := node_g HR.out
          have HG := hid (IsNode.at hg 26 zeroN rfl)
          have Hlt := hid (hg ▸ HR.out.lt)
          replace HR := hid (HR.out.below (below1 _ (.cells (nodeC zeroN) 26)))
          replace HB := hid (HB.out.alloc HB.out.size (.cells (nodeC zeroN) 26))
          refine step_exec _ (exec_alloc_ints rfl zero26) rfl ?_
          rw [← hg]
          refine hK.out _ _ HB.out (fun hS => ?_)
          clear hK K hg
          try simp only [Act.put, List.setIfInBounds_toArray, List.set_cons_zero, List.set_cons_succ]
          refine ready_at (i := 9) rfl (by kernel_rfl) (fun K hK => ?_)
          go_simp
          refine (two_any l hl.out _ _ _ (Hb.out.below HB.out) 5 (by omega) xs1 hxs1.out).mono ?_
          rintro e W2 ⟨rfl, hB⟩
          replace HB := hid (HB.out.trans (hB.mono HB.out.size))
          replace HR := hid (HR.out.below hB)
          replace HG := hid (HG.out.below hB)
          clear hB
          go_wp2_with fail
          refine hK.out _ _ HB.out (fun hS => ?_)
          clear hK K
          try simp only [Act.put, List.setIfInBounds_toArray, List.set_cons_zero, List.set_cons_succ]
          refine take_at (i := 10) (v := ?v10_13) rfl (by kernel_rfl) (by kernel_rfl) (by kernel_rfl) (fun _ _ _ h => h) hS (by rfl) ?h10_13 ?r10_13
          case h10_13 => (intro W hSW; (try dsimp only at hSW); go_simp; (try with_reducible rfl))
          try simp only [Act.put, List.setIfInBounds_toArray, List.set_cons_zero, List.set_cons_succ]
          refine take_at (i := 11) (v := ?v11_14) rfl (by kernel_rfl) (by kernel_rfl) (by kernel_rfl) (fun _ _ _ h => h) hS (by rfl) ?h11_14 ?r11_14
          case h11_14 => (intro W hSW; (try dsimp only at hSW); go_simp; (try with_reducible rfl))
          try simp only [Act.put, List.setIfInBounds_toArray, List.set_cons_zero, List.set_cons_succ]
          refine ready_at (i := 13) rfl (by kernel_rfl) (fun K hK => ?_)
          go_simp
          refine (two_any l hl.out _ _ _ (Hb.out.below HB.out) 39 (by omega) xr hxr.out).mono ?_
          rintro e W3 ⟨rfl, hB⟩
          replace HB := hid (HB.out.trans (hB.mono HB.out.size))
          replace HR := hid (HR.out.below hB)
          replace HG := hid (HG.out.below hB)
          clear hB
          go_wp2_with fail
          refine hK.out _ _ HB.out (fun hS => ?_)
          clear hK K
          try simp only [Act.put, List.setIfInBounds_toArray, List.set_cons_zero, List.set_cons_succ]
          refine take_at (i := 14) (v := (.agg (nodeC (nd xk xl xs (List.replicate 16 0) xr)))) rfl (by kernel_rfl) (by kernel_rfl) (by kernel_rfl) (fun _ _ _ h => h) hS (by rfl) ?h14_15 ?r14_15
          case h14_15 => (intro W hSW; (try dsimp only at hSW); exact exec_build26 _ _ _ _ rfl rfl rfl rfl rfl)
          try simp only [Act.put, List.setIfInBounds_toArray, List.set_cons_zero, List.set_cons_succ]
          refine ready_at (i := 16) rfl (by kernel_rfl) (fun K hK => ?_)
          refine step_store_node 26 (.tmp 4) (.tmp 26) rfl g (nd xk xl xs (List.replicate 16 0) xr) (nodeL zeroN) 26 rfl rfl rfl HG.out (by rfl) (infoR _ _ _ _ _ (by rfl)) ?_
          intro W8 hN hK8 hS8
          replace HR := hid (HR.out.kept hK8 (Nat.ne_of_lt Hlt.out))
          replace HB := hid (HB.out.trans (hK8.below _ (Nat.le_of_lt Hlt.out) HB.out.size))
          have HN := hid hN
          clear hN hK8 hS8
          refine hK.out _ _ HB.out (fun hS => ?_)
          clear hK K
          try simp only [Act.put]
          refine wpAnyH_done (by kernel_rfl) ?_ _
          exact NoPanic.normal ⟨g, W8, rfl, rfl, rfl, HR.out, HN.out, Hlt.out, HB.out⟩
      · obtain ⟨g, hg⟩ := node_g HR.out
        have HG := hid (IsNode.at hg 26 zeroN rfl)
        have Hlt := hid (hg ▸ HR.out.lt)
        replace HR := hid (HR.out.below (below1 _ (.cells (nodeC zeroN) 26)))
        replace HB := hid (HB.out.alloc HB.out.size (.cells (nodeC zeroN) 26))
        refine step_exec _ (exec_alloc_ints rfl zero26) rfl ?_
        rw [← hg]
        refine hK.out _ _ HB.out (fun hS => ?_)
        clear hK K hg
        try simp only [Act.put, List.setIfInBounds_toArray, List.set_cons_zero, List.set_cons_succ]
        refine ready_at (i := 7) rfl (by kernel_rfl) (fun K hK => ?_)
        go_simp
        refine (two_any l hl.out _ _ _ (Hb.out.below HB.out) 3 (by omega) xs0 hxs0.out).mono ?_
        rintro e W1 ⟨rfl, hB⟩
        replace HB := hid (HB.out.trans (hB.mono HB.out.size))
        replace HR := hid (HR.out.below hB)
        replace HG := hid (HG.out.below hB)
        clear hB
        go_wp2_with fail
        refine hK.out _ _ HB.out (fun hS => ?_)
        clear hK K
        try simp only [Act.put, List.setIfInBounds_toArray, List.set_cons_zero, List.set_cons_succ]
        refine ready_at (i := 9) rfl (by kernel_rfl) (fun K hK => ?_)
        go_simp
        refine (two_any l hl.out _ _ _ (Hb.out.below HB.out) 5 (by omega) xs1 hxs1.out).mono ?_
        rintro e W2 ⟨rfl, hB⟩
        replace HB := hid (HB.out.trans (hB.mono HB.out.size))
        replace HR := hid (HR.out.below hB)
        replace HG := hid (HG.out.below hB)
        clear hB
        go_wp2_with fail
        refine hK.out _ _ HB.out (fun hS => ?_)
        clear hK K
        try simp only [Act.put, List.setIfInBounds_toArray, List.set_cons_zero, List.set_cons_succ]
        refine take_at (i := 10) (v := ?v10_16) rfl (by kernel_rfl) (by kernel_rfl) (by kernel_rfl) (fun _ _ _ h => h) hS (by rfl) ?h10_16 ?r10_16
        case h10_16 => (intro W hSW; (try dsimp only at hSW); go_simp; (try with_reducible rfl))
        try simp only [Act.put, List.setIfInBounds_toArray, List.set_cons_zero, List.set_cons_succ]
        refine take_at (i := 11) (v := ?v11_17) rfl (by kernel_rfl) (by kernel_rfl) (by kernel_rfl) (fun _ _ _ h => h) hS (by rfl) ?h11_17 ?r11_17
        case h11_17 => (intro W hSW; (try dsimp only at hSW); go_simp; (try with_reducible rfl))
        try simp only [Act.put, List.setIfInBounds_toArray, List.set_cons_zero, List.set_cons_succ]
        refine ready_at (i := 13) rfl (by kernel_rfl) (fun K hK => ?_)
        go_simp
        refine (two_any l hl.out _ _ _ (Hb.out.below HB.out) 39 (by omega) xr hxr.out).mono ?_
        rintro e W3 ⟨rfl, hB⟩
        replace HB := hid (HB.out.trans (hB.mono HB.out.size))
        replace HR := hid (HR.out.below hB)
        replace HG := hid (HG.out.below hB)
        clear hB
        go_wp2_with fail
        refine hK.out _ _ HB.out (fun hS => ?_)
        clear hK K
        try simp only [Act.put, List.setIfInBounds_toArray, List.set_cons_zero, List.set_cons_succ]
        refine take_at (i := 14) (v := (.agg (nodeC (nd xk xl xs (List.replicate 16 0) xr)))) rfl (by kernel_rfl) (by kernel_rfl) (by kernel_rfl) (fun _ _ _ h => h) hS (by rfl) ?h14_18 ?r14_18
        case h14_18 => (intro W hSW; (try dsimp only at hSW); exact exec_build26 _ _ _ _ rfl rfl rfl rfl rfl)
        try simp only [Act.put, List.setIfInBounds_toArray, List.set_cons_zero, List.set_cons_succ]
        refine ready_at (i := 16) rfl (by kernel_rfl) (fun K hK => ?_)
        refine step_store_node 26 (.tmp 4) (.tmp 26) rfl g (nd xk xl xs (List.replicate 16 0) xr) (nodeL zeroN) 26 rfl rfl rfl HG.out (by rfl) (infoR _ _ _ _ _ (by rfl)) ?_
        intro W8 hN hK8 hS8
        replace HR := hid (HR.out.kept hK8 (Nat.ne_of_lt Hlt.out))
        replace HB := hid (HB.out.trans (hK8.below _ (Nat.le_of_lt Hlt.out) HB.out.size))
        have HN := hid hN
        clear hN hK8 hS8
        refine hK.out _ _ HB.out (fun hS => ?_)
        clear hK K
        try simp only [Act.put]
        refine wpAnyH_done (by kernel_rfl) ?_ _
        exact NoPanic.normal ⟨g, W8, rfl, rfl, rfl, HR.out, HN.out, Hlt.out, HB.out⟩
    · obtain ⟨g, hg⟩ := node_g HR.out
      have HG := hid (IsNode.at hg 26 zeroN rfl)
      have Hlt := hid (hg ▸ HR.out.lt)
      replace HR := hid (HR.out.below (below1 _ (.cells (nodeC zeroN) 26)))
      replace HB := hid (HB.out.alloc HB.out.size (.cells (nodeC zeroN) 26))
      refine step_exec _ (exec_alloc_ints rfl zero26) rfl ?_
      rw [← hg]
      refine hK.out _ _ HB.out (fun hS => ?_)
      clear hK K hg
      try simp only [Act.put, List.setIfInBounds_toArray, List.set_cons_zero, List.set_cons_succ]
      refine ready_at (i := 5) rfl (by kernel_rfl) (fun K hK => ?_)
      go_simp
      refine (two_any l hl.out _ _ _ (Hb.out.below HB.out) 1 (by omega) xl hxl.out).mono ?_
      rintro e W0 ⟨rfl, hB⟩
      replace HB := hid (HB.out.trans (hB.mono HB.out.size))
      replace HR := hid (HR.out.below hB)
      replace HG := hid (HG.out.below hB)
      clear hB
      go_wp2_with fail
      refine hK.out _ _ HB.out (fun hS => ?_)
      clear hK K
      try simp only [Act.put, List.setIfInBounds_toArray, List.set_cons_zero, List.set_cons_succ]
      refine ready_at (i := 7) rfl (by kernel_rfl) (fun K hK => ?_)
      go_simp
      refine (two_any l hl.out _ _ _ (Hb.out.below HB.out) 3 (by omega) xs0 hxs0.out).mono ?_
      rintro e W1 ⟨rfl, hB⟩
      replace HB := hid (HB.out.trans (hB.mono HB.out.size))
      replace HR := hid (HR.out.below hB)
      replace HG := hid (HG.out.below hB)
      clear hB
      go_wp2_with fail
      refine hK.out _ _ HB.out (fun hS => ?_)
      clear hK K
      try simp only [Act.put, List.setIfInBounds_toArray, List.set_cons_zero, List.set_cons_succ]
      refine ready_at (i := 9) rfl (by kernel_rfl) (fun K hK => ?_)
      go_simp
      refine (two_any l hl.out _ _ _ (Hb.out.below HB.out) 5 (by omega) xs1 hxs1.out).mono ?_
      rintro e W2 ⟨rfl, hB⟩
      replace HB := hid (HB.out.trans (hB.mono HB.out.size))
      replace HR := hid (HR.out.below hB)
      replace HG := hid (HG.out.below hB)
      clear hB
      go_wp2_with fail
      refine hK.out _ _ HB.out (fun hS => ?_)
      clear hK K
      try simp only [Act.put, List.setIfInBounds_toArray, List.set_cons_zero, List.set_cons_succ]
      refine take_at (i := 10) (v := ?v10_19) rfl (by kernel_rfl) (by kernel_rfl) (by kernel_rfl) (fun _ _ _ h => h) hS (by rfl) ?h10_19 ?r10_19
      case h10_19 => (intro W hSW; (try dsimp only at hSW); go_simp; (try with_reducible rfl))
      try simp only [Act.put, List.setIfInBounds_toArray, List.set_cons_zero, List.set_cons_succ]
      refine take_at (i := 11) (v := ?v11_20) rfl (by kernel_rfl) (by kernel_rfl) (by kernel_rfl) (fun _ _ _ h => h) hS (by rfl) ?h11_20 ?r11_20
      case h11_20 => (intro W hSW; (try dsimp only at hSW); go_simp; (try with_reducible rfl))
      try simp only [Act.put, List.setIfInBounds_toArray, List.set_cons_zero, List.set_cons_succ]
      refine ready_at (i := 13) rfl (by kernel_rfl) (fun K hK => ?_)
      go_simp
      refine (two_any l hl.out _ _ _ (Hb.out.below HB.out) 39 (by omega) xr hxr.out).mono ?_
      rintro e W3 ⟨rfl, hB⟩
      replace HB := hid (HB.out.trans (hB.mono HB.out.size))
      replace HR := hid (HR.out.below hB)
      replace HG := hid (HG.out.below hB)
      clear hB
      go_wp2_with fail
      refine hK.out _ _ HB.out (fun hS => ?_)
      clear hK K
      try simp only [Act.put, List.setIfInBounds_toArray, List.set_cons_zero, List.set_cons_succ]
      refine take_at (i := 14) (v := (.agg (nodeC (nd xk xl xs (List.replicate 16 0) xr)))) rfl (by kernel_rfl) (by kernel_rfl) (by kernel_rfl) (fun _ _ _ h => h) hS (by rfl) ?h14_21 ?r14_21
      case h14_21 => (intro W hSW; (try dsimp only at hSW); exact exec_build26 _ _ _ _ rfl rfl rfl rfl rfl)
      try simp only [Act.put, List.setIfInBounds_toArray, List.set_cons_zero, List.set_cons_succ]
      refine ready_at (i := 16) rfl (by kernel_rfl) (fun K hK => ?_)
      refine step_store_node 26 (.tmp 4) (.tmp 26) rfl g (nd xk xl xs (List.replicate 16 0) xr) (nodeL zeroN) 26 rfl rfl rfl HG.out (by rfl) (infoR _ _ _ _ _ (by rfl)) ?_
      intro W8 hN hK8 hS8
      replace HR := hid (HR.out.kept hK8 (Nat.ne_of_lt Hlt.out))
      replace HB := hid (HB.out.trans (hK8.below _ (Nat.le_of_lt Hlt.out) HB.out.size))
      have HN := hid hN
      clear hN hK8 hS8
      refine hK.out _ _ HB.out (fun hS => ?_)
      clear hK K
      try simp only [Act.put]
      refine wpAnyH_done (by kernel_rfl) ?_ _
      exact NoPanic.normal ⟨g, W8, rfl, rfl, rfl, HR.out, HN.out, Hlt.out, HB.out⟩
  case post =>
    intro e a W hq0
    obtain ⟨g, W8, rfl, rfl, rfl, hr, hn, hlt, hb⟩ := NoPanic.imp e a W hq0
    have HR := hid hr
    have HN := hid hn
    have Hlt := hid hlt
    have HB := hid hb
    clear hr hn hlt hb hd0 hwk hws1 hws
    go_wp2_with fail
    go_loopw [5] (fun i wr => ∃ (j : Nat), j ≤ 16 ∧ i = .int .i64 j ∧ IsNode wr w.heap.size 26 zeroN ∧ IsNode wr g 26 (over (nd xk xl xs (List.replicate 16 0) xr) 3 (nums2 (l.drop 7) j)) ∧ Below w.heap.size w wr) (fun i _ => 16 - (intOf i).toNat)
    case atStart => exact ⟨0, by omega, rfl, HR.out, by rw [nums2, over_nil]; exact HN.out, HB.out⟩
    case round =>
      obtain ⟨j, hj, rfl, hR, hN, hBr⟩ := hrel
      clear HR HN HB
      have HR := hid hR
      have HN := hid hN
      have HB := hid hBr
      clear hR hN hBr
      by_cases hj16 : j < 16
      · obtain ⟨m, hm⟩ : ∃ m, 2 * j = m := ⟨_, rfl⟩
        have hm' : 2 * (j : Int) = (m : Int) := by omega
        obtain ⟨k, hk⟩ : ∃ k, 7 + m = k := ⟨_, rfl⟩
        have hk' : 7 + (m : Int) = (k : Int) := by omega
        have hm2 : m < 31 := by omega
        have hk2 : k < 40 := by omega
        obtain ⟨x, hx⟩ : ∃ x : Int, ((num ((l.drop k).take 2) : Nat) : Int) = x := ⟨_, rfl⟩
        have Hx := hid hx
        have Hk2 := hid hk2
        have hfl := hid (show (over (nd xk xl xs (List.replicate 16 0) xr) 3 (nums2 (l.drop 7) j)).length = 20 by rw [over_length _ _ _ (by rw [nd_length _ _ _ _ _ (by rfl), nums2_length]; omega), nd_length _ _ _ _ _ (by rfl)])
        have hst := hid (show (over (nd xk xl xs (List.replicate 16 0) xr) 3 (nums2 (l.drop 7) j)).set (3 + j) x = over (nd xk xl xs (List.replicate 16 0) xr) 3 (nums2 (l.drop 7) (j + 1)) by
          have := over_snoc (nd xk xl xs (List.replicate 16 0) xr) 3 (nums2 (l.drop 7) j) x (by rw [nums2_length, nd_length _ _ _ _ _ (by rfl)]; omega)
          rw [nums2_length] at this
          rw [this, nums2_snoc, List.drop_drop, hm, hk, hx])
        clear hm hk hx
        go_wp2_with fail
        refine (two_any l hl.out _ _ _ (Hb.out.below HB.out) k (by have := Hk2.out; omega) x Hx.out).mono ?_
        rintro e w5 ⟨rfl, hB⟩
        have HR5 := hid (HR.out.below hB)
        have hl5 := HN.out.below hB
        obtain ⟨u, hu⟩ : ∃ u, (over (nd xk xl xs (List.replicate 16 0) xr) 3 (nums2 (l.drop 7) j))[3 + j]? = some u := ⟨_, List.getElem?_eq_getElem (by rw [hfl.out]; omega)⟩
        have hcu := hl5.cell (3 + j) _ hu
        have hfu := hl5.free (3 + j)
        have HL6 := hid (hl5.setC (3 + j) x)
        have HR6 := hid (HR5.out.kept (Kept.setCell w5 (3 + j) (.int .i64 x)) (Nat.ne_of_lt Hlt.out) : IsNode (w5.setCell ⟨g, 3 + j, none⟩ (.int .i64 x)) w.heap.size 26 zeroN)
        have HB6 := hid ((HB.out.trans (hB.mono HB.out.size)).setCell (p := ⟨g, 3 + j, none⟩) (Nat.le_of_lt Hlt.out) (.int .i64 x))
        rw [hst.out] at HL6
        clear hB hl5 hu hm' hk' hst hk2 Hk2
        go_wp2
        go_roundw
        case rel => exact ⟨j + 1, by omega, by go_num, HR6.out, HL6.out, HB6.out⟩
        case measure => simp [intOf]; omega
      · obtain rfl : j = 16 := by omega
        obtain ⟨D, hD⟩ : ∃ D, D = nums2 (l.drop 7) 16 := ⟨_, rfl⟩
        have hDl := hid (show D.length = 16 by rw [hD, nums2_length])
        have HD := hid (show D = dD l from hD)
        have hn := HN.out
        rw [← hD, nd_over _ _ _ _ _ _ (by rfl) hDl.out] at hn
        have HM := hid hn
        have hinfD := hid (infoR xk xl xs D xr hDl.out)
        clear hn hD HN
        go_wp2_with (refine wpList_load_ints rfl 26 (.tmp 4) rfl g 0 rfl (nd xk xl xs D xr) _ HM.out.range Try.underlying26 rfl hinfD.out ?_)
        refine (refright_any _ _ _ _ _ hDl.out _).mono ?_
        rintro e w6 ⟨rfl, hB⟩
        replace HR := hid (HR.out.below hB)
        replace HM := hid (HM.out.below hB)
        replace HB := hid (HB.out.trans (hB.mono HB.out.size))
        clear hB
        obtain ⟨rt, hrt⟩ : ∃ rt, rt = right xk xl xs D xr := ⟨_, rfl⟩
        rw [← hrt]
        have Hrt := hid hrt
        have hbs := hid (Hb.out.below HB.out)
        clear hrt
        go_wp2_with fail
        go_loopw [6, 7] (fun ok i wr => ∃ (j : Nat) (v : Bool), 41 ≤ j ∧ j ≤ 480 ∧ i = .int .i64 j ∧ ok = .bool v ∧ v = (rt && !some8 ((l.take j).drop 41)) ∧ wr = w6) (fun _ i _ => 480 - (intOf i).toNat)
        case atStart => exact ⟨41, rt, by omega, by omega, rfl, rfl, by rw [List.drop_of_length_le (by rw [List.length_take]; omega)]; simp [some8], rfl⟩
        case round =>
          obtain ⟨j, v, hj1, hj2, rfl, rfl, hv, rfl⟩ := hrel
          have Hv := hid hv
          clear hv
          by_cases hj : j < 480
          · obtain ⟨b', off', ha', hcell⟩ := hbs.out
            have hne : l ≠ [] := by intro h; have := hl.out; rw [h] at this; cases this
            have hab := ha' hne
            injection hab with hab
            injection hab with hab1 hab2 _
            subst hab1 hab2
            have hc := hcell j (by rw [hl.out]; exact hj)
            have hs := hid (show some8 ((l.take (j + 1)).drop 41) = (some8 ((l.take j).drop 41) || (l[j]'(by rw [hl.out]; exact hj)) != 0) from some8_part l 41 j hj1 (by rw [hl.out]; exact hj))
            clear hcell ha' hne
            obtain ⟨cc, hcc⟩ : ∃ cc, cc = l[j]'(by rw [hl.out]; exact hj) := ⟨_, rfl⟩
            rw [← hcc] at hc hs
            clear hcc
            have h8 : (n8 cc == 0) = (cc == 0) := n8_beq cc 0
            cases v with
            | false =>
              go_wp2
              go_roundw
              case rel => exact ⟨j + 1, false, by omega, by omega, by go_num, rfl, by rw [hs.out]; exact ok_no Hv.out, trivial⟩
              case measure => simp [intOf]; omega
            | true =>
              go_wp2
              go_roundw
              case rel => exact ⟨j + 1, cc == 0, by omega, by omega, by go_num, by rw [← h8], by rw [hs.out]; exact ok_yes Hv.out, trivial⟩
              case measure => simp [intOf]; omega
          · obtain rfl : j = 480 := by omega
            have htk : l.take 480 = l := List.take_of_length_le (by rw [hl.out]; exact Nat.le_refl _)
            have hok : decOk l = v := by
              rw [Hv.out, htk, Hrt.out]
              unfold decOk
              rw [decide_eq_true hl.out, hdk.out.1, hdk.out.2.1, hdk.out.2.2.1, hdk.out.2.2.2, HD.out, Bool.true_and]
            have E1 := hid (Hq.out.symm.trans hok)
            clear htk hok Hv
            cases v with
            | false =>
              have E2 := hid (show N = zeroN by rw [← HNl.out]; unfold decN; rw [Hq.out, E1.out]; rfl)
              go_wp2_with (first
                | (refine wpList_exec _ rfl (exec_build_ints rfl built26z) ?_)
                | (refine wpList_store_node rfl 26 _ _ rfl w.heap.size zeroN (nodeL zeroN) 26 rfl rfl HR.out (nodeL_length _) hinf.out ?_; intro w7 hN hK hS; have HN7 := hid hN; have HB7 := hid (HB.out.trans (hK.below _ (Nat.le_refl _) HB.out.size)); clear hN hK hS))
              have hld := loadVar_node (P := Try.prog) (T := 26) HN7.out Try.underlying26 rfl hinf.out
              exact bodyPost_ret (v := .tuple #[.agg (nodeC zeroN), .bool false]) (results_cell Try.results20 rfl rfl hld) rfl ⟨by rw [E1.out, E2.out], HB7.out⟩
            | true =>
              have E2 := hid (show N = nd xk xl xs D xr by rw [← HNl.out]; unfold decN; rw [Hq.out, E1.out, hdk.out.1, hdk.out.2.1, hdk.out.2.2.1, hdk.out.2.2.2, HD.out]; rfl)
              go_wp2_with (first
                | (refine wpList_load_ints rfl 26 (.tmp 4) rfl g 0 rfl (nd xk xl xs D xr) _ HM.out.range Try.underlying26 rfl hinfD.out ?_)
                | (refine wpList_store_node rfl 26 _ _ rfl w.heap.size (nd xk xl xs D xr) (nodeL zeroN) 26 rfl rfl HR.out (by rw [nodeL_length, nd_length _ _ _ _ _ hDl.out]; rfl) hinfD.out ?_; intro w7 hN hK hS; have HN7 := hid hN; have HB7 := hid (HB.out.trans (hK.below _ (Nat.le_refl _) HB.out.size)); clear hN hK hS))
              have hld := loadVar_node (P := Try.prog) (T := 26) HN7.out Try.underlying26 rfl hinfD.out
              exact bodyPost_ret (v := .tuple #[.agg (nodeC (nd xk xl xs D xr)), .bool true]) (results_cell Try.results20 rfl rfl hld) rfl ⟨by rw [E1.out, E2.out], HB7.out⟩

theorem refdecode_any (l : List UInt8) (n : Nat) (hnl : l.length = n) (w : World) (a : Option Addr) (c : Nat) (hb : IsBytes w a l) :
    Calls Try.prog 20 #[.slice a n c] w fun e w' => e = .returned (.tuple #[.agg (nodeC (decN l)), .bool (decOk l)]) ∧ Below w.heap.size w w' := by
  by_cases h : n = 480
  · subst h
    exact refdecode_full l hnl w a c hb _ rfl _ rfl
  · exact refdecode_short l n hnl h w a c
end Go.Proofs.Ytmjknaldpeoheaa
