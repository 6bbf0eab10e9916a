/- The walk of the document's Decode (harrowref05). -/
import Derived.Test.YtmfncpifalnggaaTagR2
import Derived.Test.YtmfncpifalnggaaTagB
import Derived.Test.YtmfncpifalnggaaHeld2
import Derived.Test.YtmfncpifalnggaaZero2
namespace Go.Proofs.Ytmfncpifalnggaa
open Go.RowKit O
set_option linter.unusedVariables false

theorem zero28 : (Try.prog.info? 28).map (·.zero) = some (some (.agg zeroT.toArray)) := by kernel_rfl
theorem size28 : (Try.prog.info? 28).map (·.size) = some 7 := by kernel_rfl
theorem built28z : Try.prog.built 28 [] = some zeroT.toArray := by kernel_rfl
theorem built28 (a b c d : Int) : Try.prog.built 28 [(0, .int .u32 a), (2, .int .u64 b), (3, .int .u64 c), (1, .int .u64 d)] = some #[.int .u32 a, .int .u64 d, .int .u64 b, .int .u64 c, .int .i64 0, .int .i64 0, .int .i64 0] := by kernel_rfl
theorem exec_build28 {o : Oper} {a : Act} {w : World} {p q r s : Int} (x1 x2 x3 x4 : Operand) (ho : o.op = .build 28 #[(0, x1), (2, x2), (3, x3), (1, x4)]) (h1 : a.eval x1 = .int .u32 p) (h2 : a.eval x2 = .int .u64 q) (h3 : a.eval x3 = .int .u64 r) (h4 : a.eval x4 = .int .u64 s) :
    (execOp a.eval o).run Try.prog w = .ok (.value (.agg #[.int .u32 p, .int .u64 s, .int .u64 q, .int .u64 r, .int .i64 0, .int .i64 0, .int .i64 0])) w := by
  unfold execOp
  simp only [ho, List.map_toArray, List.map_cons, List.map_nil, h1, h2, h3, h4, Sem.run_bind, run_build w 28 _ _ (built28 p q r s), Result.andThen_ok]
  rfl
theorem v_g {w : World} {r : Nat} {T : TypeId} {vs : List Value} (h : IsV w r T vs) : ∃ g, g = w.heap.size := ⟨_, rfl⟩

theorem refdecode_short (l : List UInt8) (hn : l.length ≠ 512) (w : World) :
    Calls Try.prog 14 #[.string ⟨l.toArray⟩] w fun x w' => x = .returned (.tuple #[.agg zeroT.toArray, .string ⟨#[]⟩, .bool false]) ∧ Below w.heap.size w w' := by
  obtain ⟨B, hB⟩ : ∃ B : ByteArray, B = ⟨l.toArray⟩ := ⟨_, rfl⟩
  obtain ⟨n, hsz⟩ : ∃ n, B.size = n := ⟨_, rfl⟩
  have hn' : ((n : Int) != 512) = true := by
    have : B.size = l.length := by rw [hB]; rfl
    simp
    omega
  rw [← hB]
  clear hB hn
  go_enter Try.func14, Try.ntmps14
  go_wp2_with (first
    | (refine wpList_alloc_V rfl rfl zero28 ?_; intro w1 hN hB hS; have HN := hid hN; have HB := hid hB; clear hN hB hS)
    | (refine wpList_exec (.agg zeroT.toArray) (by rfl) (exec_build0 rfl built28z) ?_)
    | (refine wpList_store_V 28 (.tmp 2) (.tmp 10) rfl w.heap.size zeroT zeroT 28 rfl rfl HN.out rfl size28 zeroT_one (by rfl) ?_; intro w2 hN hK hS; have HN2 := hid hN; have HB2 := hid (HB.out.trans (hK.below _ (Nat.le_refl _) HB.out.size)); clear hN hK hS))
  have hld := loadVar_V (P := Try.prog) (T := 28) HN2.out Try.underlying28 rfl size28
  exact bodyPost_ret (v := .tuple #[.agg zeroT.toArray, .string ⟨#[]⟩, .bool false]) (results_cell2 Try.results14 rfl rfl rfl hld) rfl ⟨rfl, HB2.out⟩

theorem byte_at {B : ByteArray} {l : List UInt8} (hB : B = ⟨l.toArray⟩) (k : Nat) (h : k < B.size) (n : Nat) (hn : n = nb l k 1) : (B[k]'h).toNat = n := by
  subst hB
  have hk : k < l.length := h
  rw [hn]
  unfold nb
  rw [List.drop_eq_getElem_cons hk]
  show _ = (l[k]).toNat + 256 * 0
  rw [Nat.mul_zero, Nat.add_zero]
  rfl
theorem exec_neq_str {P : Program} {o : Oper} {a : Act} {w : World} {t t2 : TypeId} {X Y : List UInt8} (x y : Operand) (ho : o.op = .binOp .neq t x y t2) (hx : a.eval x = .string ⟨X.toArray⟩) (hy : a.eval y = .string ⟨Y.toArray⟩) :
    (execOp a.eval o).run P w = .ok (.value (.bool (!decide (X = Y)))) w := by
  unfold execOp
  simp only [ho, hx, hy, Sem.run_bind]
  simp [go_sem]
  rw [Bool.eq_iff_iff]
  simp
theorem ex_part (l : List UInt8) (i j : Nat) (hj : j ≤ l.length) (hij : i ≤ j) : (⟨l.toArray⟩ : ByteArray).extract i j = ⟨((l.drop i).take (j - i)).toArray⟩ := by
  apply ByteArray.ext
  rw [ByteArray.data_extract]
  simp [List.extract_toArray, List.extract_eq_take_drop]

set_option maxHeartbeats 8000000 in
set_option maxRecDepth 20000 in
theorem refdecode_full (l : List UInt8) (hl : l.length = 512) (w : World) :
    Calls Try.prog 14 #[.string ⟨l.toArray⟩] w fun x w' =>
      ((tagOk l = false ∧ x = .returned (.tuple #[.agg zeroT.toArray, .string ⟨#[]⟩, .bool false])) ∨
       (tagOk l = true ∧ x = .returned (.tuple #[.agg (tk l 9).toArray, .string ⟨(l.drop 32).toArray⟩, .bool true]))) ∧ Below w.heap.size w w' := by
  have Hl := hid hl
  obtain ⟨B, hB⟩ : ∃ B : ByteArray, B = ⟨l.toArray⟩ := ⟨_, rfl⟩
  have hsz : B.size = 512 := by rw [hB]; exact hl
  obtain ⟨L1, hL1⟩ : ∃ L1, L1 = (l.drop 4).take 4 := ⟨_, rfl⟩
  obtain ⟨L2, hL2⟩ : ∃ L2, L2 = (l.drop 8).take 6 := ⟨_, rfl⟩
  obtain ⟨L3, hL3⟩ : ∃ L3, L3 = (l.drop 14).take 6 := ⟨_, rfl⟩
  obtain ⟨L4, hL4⟩ : ∃ L4, L4 = (l.drop 20).take 6 := ⟨_, rfl⟩
  obtain ⟨L5, hL5⟩ : ∃ L5, L5 = (l.drop 28).take 2 := ⟨_, rfl⟩
  obtain ⟨n1, hn1⟩ : ∃ n1, n1 = fn l 1 := ⟨_, rfl⟩
  obtain ⟨n2, hn2⟩ : ∃ n2, n2 = fn l 2 := ⟨_, rfl⟩
  obtain ⟨n3, hn3⟩ : ∃ n3, n3 = fn l 3 := ⟨_, rfl⟩
  obtain ⟨n4, hn4⟩ : ∃ n4, n4 = fn l 4 := ⟨_, rfl⟩
  obtain ⟨n5, hn5⟩ : ∃ n5, n5 = fn l 5 := ⟨_, rfl⟩
  obtain ⟨n6, hn6⟩ : ∃ n6, n6 = fn l 6 := ⟨_, rfl⟩
  obtain ⟨n7, hn7⟩ : ∃ n7, n7 = fn l 7 := ⟨_, rfl⟩
  have hx1 : B.extract 4 8 = ⟨L1.toArray⟩ := by rw [hB, hL1]; exact ex_part l 4 8 (by omega) (by omega)
  have hx2 : B.extract 8 14 = ⟨L2.toArray⟩ := by rw [hB, hL2]; exact ex_part l 8 14 (by omega) (by omega)
  have hx3 : B.extract 14 20 = ⟨L3.toArray⟩ := by rw [hB, hL3]; exact ex_part l 14 20 (by omega) (by omega)
  have hx4 : B.extract 20 26 = ⟨L4.toArray⟩ := by rw [hB, hL4]; exact ex_part l 20 26 (by omega) (by omega)
  have hx5 : B.extract 28 30 = ⟨L5.toArray⟩ := by rw [hB, hL5]; exact ex_part l 28 30 (by omega) (by omega)
  have Hn1 := hid (show L1.length = 4 ∧ num L1 = n1 from ⟨by rw [hL1, List.length_take, List.length_drop]; omega, by rw [hL1, hn1]; rfl⟩)
  have Hn2 := hid (show L2.length = 6 ∧ num L2 = n2 from ⟨by rw [hL2, List.length_take, List.length_drop]; omega, by rw [hL2, hn2]; rfl⟩)
  have Hn3 := hid (show L3.length = 6 ∧ num L3 = n3 from ⟨by rw [hL3, List.length_take, List.length_drop]; omega, by rw [hL3, hn3]; rfl⟩)
  have Hn4 := hid (show L4.length = 6 ∧ num L4 = n4 from ⟨by rw [hL4, List.length_take, List.length_drop]; omega, by rw [hL4, hn4]; rfl⟩)
  have Hn5 := hid (show L5.length = 2 ∧ num L5 = n7 from ⟨by rw [hL5, List.length_take, List.length_drop]; omega, by rw [hL5, hn7]; rfl⟩)
  have hw1 : IntKind.u32.wrap (n1 : Int) = (n1 : Int) := by
    have : n1 < 256 ^ 4 := by rw [hn1]; exact num_bnd _ _ _
    have e4 : 256 ^ 4 = 4294967296 := by decide
    simp [IntKind.wrap, IntKind.bits, IntKind.signed]
    omega
  obtain ⟨R1, hR1⟩ : ∃ R1 : List Value, R1 = [.int .u32 (n1 : Int), .int .u64 (n4 : Int), .int .u64 (n2 : Int), .int .u64 (n3 : Int), .int .i64 0, .int .i64 0, .int .i64 0] := ⟨_, rfl⟩
  have HR1 := hid hR1
  have HR1l := hid (show zeroT.length = R1.length ∧ (Try.prog.info? 28).map (·.size) = some R1.length by rw [hR1]; exact ⟨rfl, size28⟩)
  have HR1o := hid (show ∀ v ∈ R1, v.oneCell' = true by rw [hR1]; intro v hv; simp only [List.mem_cons, List.not_mem_nil, or_false] at hv; rcases hv with rfl | rfl | rfl | rfl | rfl | rfl | rfl <;> rfl)
  have Hns := hid (And.intro hn1 (And.intro hn2 (And.intro hn3 (And.intro hn4 (And.intro hn5 (And.intro hn6 hn7))))))
  have HBe := hid hB
  rw [← hB]
  clear hl hB hL1 hL2 hL3 hL4 hL5 hn1 hn2 hn3 hn4 hn5 hn6 hn7 hR1
  go_enter Try.func14, Try.ntmps14
  go_wp2_with (first
    | (refine wpList_alloc_V rfl rfl zero28 ?_; intro w1 hN hB hS; have HRA := hid hN; have HBA := hid hB; clear hN hB hS))
  have HB := hid HBA.out.drew
  have HR := hid (HRA.out.below (Below.refl _ _).drew)
  clear HRA HBA
  refine Code.wp_mono (Q := NoPanic fun e a W => ∃ g W8, e = .normal ∧ W = W8 ∧ a = { tmps := #[.string B, undef, .pointer (some ⟨w.heap.size, 0, none⟩), .string ⟨#[]⟩, .bool false, .pointer (some ⟨g, 0, none⟩), undef, .string B, .int .i64 512, .bool false, undef, .string B, .string ⟨L1.toArray⟩, .int .u64 (n1 : Int), .int .u32 (n1 : Int), .string B, .string ⟨L2.toArray⟩, .int .u64 (n2 : Int), .string B, .string ⟨L3.toArray⟩, .int .u64 (n3 : Int), .string B, .string ⟨L4.toArray⟩, .int .u64 (n4 : Int), .agg R1.toArray, undef, undef, undef, undef, undef, undef, undef, undef, undef, undef, undef, undef, undef, undef, undef, undef, undef, undef, undef, undef, undef, undef, undef, undef, undef, undef, undef, undef, undef], defers := [] } ∧ IsV W8 w.heap.size 28 zeroT ∧ IsV W8 g 28 R1 ∧ w.heap.size < g ∧ Below w.heap.size w W8) ?post ?reg
  case reg =>
    refine wp_region_held_drew (S := (fun W => Below w.heap.size w W)) (by kernel_rfl) HB.out (fun hS => ?_)
    refine take_at (i := 0) (v := ?v0_1) rfl (by kernel_rfl) (by kernel_rfl) (by kernel_rfl) (fun _ _ _ h => h) hS (by rfl) ?h0_1 ?r0_1
    case h0_1 => (intro W hSW; (try dsimp only at hSW); go_simp; (try with_reducible rfl))
    try simp only [Act.put, List.setIfInBounds_toArray, List.set_cons_zero, List.set_cons_succ]
    refine take_at (i := 1) (v := ?v1_2) rfl (by kernel_rfl) (by kernel_rfl) (by kernel_rfl) (fun _ _ _ h => h) hS (by rfl) ?h1_2 ?r1_2
    case h1_2 => (intro W hSW; (try dsimp only at hSW); go_simp; (try with_reducible rfl))
    try simp only [Act.put, List.setIfInBounds_toArray, List.set_cons_zero, List.set_cons_succ]
    refine take_at (i := 4) (v := ?v4_3) rfl (by kernel_rfl) (by kernel_rfl) (by kernel_rfl) (fun _ _ _ h => h) hS (by rfl) ?h4_3 ?r4_3
    case h4_3 => (intro W hSW; (try dsimp only at hSW); go_simp; (try with_reducible rfl))
    try simp only [Act.put, List.setIfInBounds_toArray, List.set_cons_zero, List.set_cons_succ]
    refine take_at (i := 5) (v := ?v5_4) rfl (by kernel_rfl) (by kernel_rfl) (by kernel_rfl) (fun _ _ _ h => h) hS (by rfl) ?h5_4 ?r5_4
    case h5_4 => (intro W hSW; (try dsimp only at hSW); go_simp; (try with_reducible rfl))
    try simp only [Act.put, List.setIfInBounds_toArray, List.set_cons_zero, List.set_cons_succ]
    refine take_at (i := 7) (v := ?v7_5) rfl (by kernel_rfl) (by kernel_rfl) (by kernel_rfl) (fun _ _ _ h => h) hS (by rfl) ?h7_5 ?r7_5
    case h7_5 => (intro W hSW; (try dsimp only at hSW); go_simp; (try with_reducible rfl))
    try simp only [Act.put, List.setIfInBounds_toArray, List.set_cons_zero, List.set_cons_succ]
    refine take_at (i := 8) (v := ?v8_6) rfl (by kernel_rfl) (by kernel_rfl) (by kernel_rfl) (fun _ _ _ h => h) hS (by rfl) ?h8_6 ?r8_6
    case h8_6 => (intro W hSW; (try dsimp only at hSW); go_simp; (try with_reducible rfl))
    try simp only [Act.put, List.setIfInBounds_toArray, List.set_cons_zero, List.set_cons_succ]
    refine take_at (i := 10) (v := ?v10_7) rfl (by kernel_rfl) (by kernel_rfl) (by kernel_rfl) (fun _ _ _ h => h) hS (by rfl) ?h10_7 ?r10_7
    case h10_7 => (intro W hSW; (try dsimp only at hSW); go_simp; (try with_reducible rfl))
    try simp only [Act.put, List.setIfInBounds_toArray, List.set_cons_zero, List.set_cons_succ]
    refine take_at (i := 11) (v := ?v11_8) rfl (by kernel_rfl) (by kernel_rfl) (by kernel_rfl) (fun _ _ _ h => h) hS (by rfl) ?h11_8 ?r11_8
    case h11_8 => (intro W hSW; (try dsimp only at hSW); go_simp; (try with_reducible rfl))
    try simp only [Act.put, List.setIfInBounds_toArray, List.set_cons_zero, List.set_cons_succ]
    refine ready2_at (i := 2) (j := 14) rfl rfl (by kernel_rfl) (fun K hK => ?_) (fun K hK => ?_)
    · go_simp
      refine (number_any L1 4 Hn1.out.1 (by omega) _).mono ?_
      rintro x W0 ⟨rfl, hB⟩
      rw [Hn1.out.2]
      replace HB := hid (HB.out.trans (hB.mono HB.out.size))
      replace HR := hid (HR.out.below hB)
      clear hB
      go_wp2_with fail
      refine hK.out _ _ HB.out (fun hS => ?_)
      clear hK K
      try simp only [Act.put, List.setIfInBounds_toArray, List.set_cons_zero, List.set_cons_succ]
      refine take_at (i := 3) (v := ?v3_9) rfl (by kernel_rfl) (by kernel_rfl) (by kernel_rfl) (fun _ _ _ h => h) hS (by rfl) ?h3_9 ?r3_9
      case h3_9 => (intro W hSW; (try dsimp only at hSW); go_simp; (try with_reducible rfl))
      try simp only [Act.put, List.setIfInBounds_toArray, List.set_cons_zero, List.set_cons_succ]
      refine ready2_at (i := 6) (j := 14) rfl rfl (by kernel_rfl) (fun K hK => ?_) (fun K hK => ?_)
      · go_simp
        refine (number_any L2 6 Hn2.out.1 (by omega) _).mono ?_
        rintro x W1 ⟨rfl, hB⟩
        rw [Hn2.out.2]
        replace HB := hid (HB.out.trans (hB.mono HB.out.size))
        replace HR := hid (HR.out.below hB)
        clear hB
        go_wp2_with fail
        refine hK.out _ _ HB.out (fun hS => ?_)
        clear hK K
        try simp only [Act.put, List.setIfInBounds_toArray, List.set_cons_zero, List.set_cons_succ]
        refine ready2_at (i := 9) (j := 14) rfl rfl (by kernel_rfl) (fun K hK => ?_) (fun K hK => ?_)
        · go_simp
          refine (number_any L3 6 Hn3.out.1 (by omega) _).mono ?_
          rintro x W2 ⟨rfl, hB⟩
          rw [Hn3.out.2]
          replace HB := hid (HB.out.trans (hB.mono HB.out.size))
          replace HR := hid (HR.out.below hB)
          clear hB
          go_wp2_with fail
          refine hK.out _ _ HB.out (fun hS => ?_)
          clear hK K
          try simp only [Act.put, List.setIfInBounds_toArray, List.set_cons_zero, List.set_cons_succ]
          refine ready2_at (i := 12) (j := 14) rfl rfl (by kernel_rfl) (fun K hK => ?_) (fun K hK => ?_)
          · go_simp
            refine (number_any L4 6 Hn4.out.1 (by omega) _).mono ?_
            rintro x W3 ⟨rfl, hB⟩
            rw [Hn4.out.2]
            replace HB := hid (HB.out.trans (hB.mono HB.out.size))
            replace HR := hid (HR.out.below hB)
            clear hB
            go_wp2_with fail
            refine hK.out _ _ HB.out (fun hS => ?_)
            clear hK K
            try simp only [Act.put, List.setIfInBounds_toArray, List.set_cons_zero, List.set_cons_succ]
            refine take_at (i := 13) (v := (.agg R1.toArray)) rfl (by kernel_rfl) (by kernel_rfl) (by kernel_rfl) (fun _ _ _ h => h) hS (by rfl) ?h13_10 ?r13_10
            case h13_10 => (intro W hSW; (try dsimp only at hSW); rw [HR1.out]; exact exec_build28 _ _ _ _ rfl rfl rfl rfl rfl)
            try simp only [Act.put, List.setIfInBounds_toArray, List.set_cons_zero, List.set_cons_succ]
            refine ready_at (i := 14) rfl (by kernel_rfl) (fun K hK => ?_)
            obtain ⟨g, hg⟩ := v_g HR.out
            have HG := hid (IsV.at hg 28 zeroT)
            have Hlt := hid (hg ▸ HR.out.lt)
            replace HR := hid (HR.out.below (below1 _ (.cells zeroT.toArray 28)))
            replace HB := hid (HB.out.alloc HB.out.size (.cells zeroT.toArray 28))
            refine step_exec _ (exec_alloc_V rfl zero28) rfl ?_
            rw [← hg]
            refine hK.out _ _ HB.out (fun hS => ?_)
            clear hK K hg
            try simp only [Act.put, List.setIfInBounds_toArray, List.set_cons_zero, List.set_cons_succ]
            refine ready_at (i := 15) rfl (by kernel_rfl) (fun K hK => ?_)
            refine wp_store_V 28 (.tmp 5) (.tmp 24) rfl g R1 zeroT 28 rfl rfl HG.out HR1l.out.1 HR1l.out.2 HR1o.out (by rfl) ?_
            intro W8 hN hK8 hS8
            replace HR := hid (HR.out.kept hK8 (Nat.ne_of_lt Hlt.out))
            replace HB := hid (HB.out.trans (hK8.below _ (Nat.le_of_lt Hlt.out) HB.out.size))
            have HN := hid hN
            clear hN hK8 hS8
            refine hK.out _ _ HB.out (fun hS => ?_)
            clear hK K
            try simp only [Act.put]
            refine wpAnyH_done (by kernel_rfl) ?_ _
            exact NoPanic.normal ⟨g, W8, rfl, rfl, rfl, HR.out, HN.out, Hlt.out, HB.out⟩
          · obtain ⟨g, hg⟩ := v_g HR.out
            have HG := hid (IsV.at hg 28 zeroT)
            have Hlt := hid (hg ▸ HR.out.lt)
            replace HR := hid (HR.out.below (below1 _ (.cells zeroT.toArray 28)))
            replace HB := hid (HB.out.alloc HB.out.size (.cells zeroT.toArray 28))
            refine step_exec _ (exec_alloc_V rfl zero28) rfl ?_
            rw [← hg]
            refine hK.out _ _ HB.out (fun hS => ?_)
            clear hK K hg
            try simp only [Act.put, List.setIfInBounds_toArray, List.set_cons_zero, List.set_cons_succ]
            refine ready_at (i := 12) rfl (by kernel_rfl) (fun K hK => ?_)
            go_simp
            refine (number_any L4 6 Hn4.out.1 (by omega) _).mono ?_
            rintro x W3 ⟨rfl, hB⟩
            rw [Hn4.out.2]
            replace HB := hid (HB.out.trans (hB.mono HB.out.size))
            replace HR := hid (HR.out.below hB)
            replace HG := hid (HG.out.below hB)
            clear hB
            go_wp2_with fail
            refine hK.out _ _ HB.out (fun hS => ?_)
            clear hK K
            try simp only [Act.put, List.setIfInBounds_toArray, List.set_cons_zero, List.set_cons_succ]
            refine take_at (i := 13) (v := (.agg R1.toArray)) rfl (by kernel_rfl) (by kernel_rfl) (by kernel_rfl) (fun _ _ _ h => h) hS (by rfl) ?h13_11 ?r13_11
            case h13_11 => (intro W hSW; (try dsimp only at hSW); rw [HR1.out]; exact exec_build28 _ _ _ _ rfl rfl rfl rfl rfl)
            try simp only [Act.put, List.setIfInBounds_toArray, List.set_cons_zero, List.set_cons_succ]
            refine ready_at (i := 15) rfl (by kernel_rfl) (fun K hK => ?_)
            refine wp_store_V 28 (.tmp 5) (.tmp 24) rfl g R1 zeroT 28 rfl rfl HG.out HR1l.out.1 HR1l.out.2 HR1o.out (by rfl) ?_
            intro W8 hN hK8 hS8
            replace HR := hid (HR.out.kept hK8 (Nat.ne_of_lt Hlt.out))
            replace HB := hid (HB.out.trans (hK8.below _ (Nat.le_of_lt Hlt.out) HB.out.size))
            have HN := hid hN
            clear hN hK8 hS8
            refine hK.out _ _ HB.out (fun hS => ?_)
            clear hK K
            try simp only [Act.put]
            refine wpAnyH_done (by kernel_rfl) ?_ _
            exact NoPanic.normal ⟨g, W8, rfl, rfl, rfl, HR.out, HN.out, Hlt.out, HB.out⟩
        · obtain ⟨g, hg⟩ := v_g HR.out
          have HG := hid (IsV.at hg 28 zeroT)
          have Hlt := hid (hg ▸ HR.out.lt)
          replace HR := hid (HR.out.below (below1 _ (.cells zeroT.toArray 28)))
          replace HB := hid (HB.out.alloc HB.out.size (.cells zeroT.toArray 28))
          refine step_exec _ (exec_alloc_V rfl zero28) rfl ?_
          rw [← hg]
          refine hK.out _ _ HB.out (fun hS => ?_)
          clear hK K hg
          try simp only [Act.put, List.setIfInBounds_toArray, List.set_cons_zero, List.set_cons_succ]
          refine ready_at (i := 9) rfl (by kernel_rfl) (fun K hK => ?_)
          go_simp
          refine (number_any L3 6 Hn3.out.1 (by omega) _).mono ?_
          rintro x W2 ⟨rfl, hB⟩
          rw [Hn3.out.2]
          replace HB := hid (HB.out.trans (hB.mono HB.out.size))
          replace HR := hid (HR.out.below hB)
          replace HG := hid (HG.out.below hB)
          clear hB
          go_wp2_with fail
          refine hK.out _ _ HB.out (fun hS => ?_)
          clear hK K
          try simp only [Act.put, List.setIfInBounds_toArray, List.set_cons_zero, List.set_cons_succ]
          refine ready_at (i := 12) rfl (by kernel_rfl) (fun K hK => ?_)
          go_simp
          refine (number_any L4 6 Hn4.out.1 (by omega) _).mono ?_
          rintro x W3 ⟨rfl, hB⟩
          rw [Hn4.out.2]
          replace HB := hid (HB.out.trans (hB.mono HB.out.size))
          replace HR := hid (HR.out.below hB)
          replace HG := hid (HG.out.below hB)
          clear hB
          go_wp2_with fail
          refine hK.out _ _ HB.out (fun hS => ?_)
          clear hK K
          try simp only [Act.put, List.setIfInBounds_toArray, List.set_cons_zero, List.set_cons_succ]
          refine take_at (i := 13) (v := (.agg R1.toArray)) rfl (by kernel_rfl) (by kernel_rfl) (by kernel_rfl) (fun _ _ _ h => h) hS (by rfl) ?h13_12 ?r13_12
          case h13_12 => (intro W hSW; (try dsimp only at hSW); rw [HR1.out]; exact exec_build28 _ _ _ _ rfl rfl rfl rfl rfl)
          try simp only [Act.put, List.setIfInBounds_toArray, List.set_cons_zero, List.set_cons_succ]
          refine ready_at (i := 15) rfl (by kernel_rfl) (fun K hK => ?_)
          refine wp_store_V 28 (.tmp 5) (.tmp 24) rfl g R1 zeroT 28 rfl rfl HG.out HR1l.out.1 HR1l.out.2 HR1o.out (by rfl) ?_
          intro W8 hN hK8 hS8
          replace HR := hid (HR.out.kept hK8 (Nat.ne_of_lt Hlt.out))
          replace HB := hid (HB.out.trans (hK8.below _ (Nat.le_of_lt Hlt.out) HB.out.size))
          have HN := hid hN
          clear hN hK8 hS8
          refine hK.out _ _ HB.out (fun hS => ?_)
          clear hK K
          try simp only [Act.put]
          refine wpAnyH_done (by kernel_rfl) ?_ _
          exact NoPanic.normal ⟨g, W8, rfl, rfl, rfl, HR.out, HN.out, Hlt.out, HB.out⟩
      · obtain ⟨g, hg⟩ := v_g HR.out
        have HG := hid (IsV.at hg 28 zeroT)
        have Hlt := hid (hg ▸ HR.out.lt)
        replace HR := hid (HR.out.below (below1 _ (.cells zeroT.toArray 28)))
        replace HB := hid (HB.out.alloc HB.out.size (.cells zeroT.toArray 28))
        refine step_exec _ (exec_alloc_V rfl zero28) rfl ?_
        rw [← hg]
        refine hK.out _ _ HB.out (fun hS => ?_)
        clear hK K hg
        try simp only [Act.put, List.setIfInBounds_toArray, List.set_cons_zero, List.set_cons_succ]
        refine ready_at (i := 6) rfl (by kernel_rfl) (fun K hK => ?_)
        go_simp
        refine (number_any L2 6 Hn2.out.1 (by omega) _).mono ?_
        rintro x W1 ⟨rfl, hB⟩
        rw [Hn2.out.2]
        replace HB := hid (HB.out.trans (hB.mono HB.out.size))
        replace HR := hid (HR.out.below hB)
        replace HG := hid (HG.out.below hB)
        clear hB
        go_wp2_with fail
        refine hK.out _ _ HB.out (fun hS => ?_)
        clear hK K
        try simp only [Act.put, List.setIfInBounds_toArray, List.set_cons_zero, List.set_cons_succ]
        refine ready_at (i := 9) rfl (by kernel_rfl) (fun K hK => ?_)
        go_simp
        refine (number_any L3 6 Hn3.out.1 (by omega) _).mono ?_
        rintro x W2 ⟨rfl, hB⟩
        rw [Hn3.out.2]
        replace HB := hid (HB.out.trans (hB.mono HB.out.size))
        replace HR := hid (HR.out.below hB)
        replace HG := hid (HG.out.below hB)
        clear hB
        go_wp2_with fail
        refine hK.out _ _ HB.out (fun hS => ?_)
        clear hK K
        try simp only [Act.put, List.setIfInBounds_toArray, List.set_cons_zero, List.set_cons_succ]
        refine ready_at (i := 12) rfl (by kernel_rfl) (fun K hK => ?_)
        go_simp
        refine (number_any L4 6 Hn4.out.1 (by omega) _).mono ?_
        rintro x W3 ⟨rfl, hB⟩
        rw [Hn4.out.2]
        replace HB := hid (HB.out.trans (hB.mono HB.out.size))
        replace HR := hid (HR.out.below hB)
        replace HG := hid (HG.out.below hB)
        clear hB
        go_wp2_with fail
        refine hK.out _ _ HB.out (fun hS => ?_)
        clear hK K
        try simp only [Act.put, List.setIfInBounds_toArray, List.set_cons_zero, List.set_cons_succ]
        refine take_at (i := 13) (v := (.agg R1.toArray)) rfl (by kernel_rfl) (by kernel_rfl) (by kernel_rfl) (fun _ _ _ h => h) hS (by rfl) ?h13_13 ?r13_13
        case h13_13 => (intro W hSW; (try dsimp only at hSW); rw [HR1.out]; exact exec_build28 _ _ _ _ rfl rfl rfl rfl rfl)
        try simp only [Act.put, List.setIfInBounds_toArray, List.set_cons_zero, List.set_cons_succ]
        refine ready_at (i := 15) rfl (by kernel_rfl) (fun K hK => ?_)
        refine wp_store_V 28 (.tmp 5) (.tmp 24) rfl g R1 zeroT 28 rfl rfl HG.out HR1l.out.1 HR1l.out.2 HR1o.out (by rfl) ?_
        intro W8 hN hK8 hS8
        replace HR := hid (HR.out.kept hK8 (Nat.ne_of_lt Hlt.out))
        replace HB := hid (HB.out.trans (hK8.below _ (Nat.le_of_lt Hlt.out) HB.out.size))
        have HN := hid hN
        clear hN hK8 hS8
        refine hK.out _ _ HB.out (fun hS => ?_)
        clear hK K
        try simp only [Act.put]
        refine wpAnyH_done (by kernel_rfl) ?_ _
        exact NoPanic.normal ⟨g, W8, rfl, rfl, rfl, HR.out, HN.out, Hlt.out, HB.out⟩
    · obtain ⟨g, hg⟩ := v_g HR.out
      have HG := hid (IsV.at hg 28 zeroT)
      have Hlt := hid (hg ▸ HR.out.lt)
      replace HR := hid (HR.out.below (below1 _ (.cells zeroT.toArray 28)))
      replace HB := hid (HB.out.alloc HB.out.size (.cells zeroT.toArray 28))
      refine step_exec _ (exec_alloc_V rfl zero28) rfl ?_
      rw [← hg]
      refine hK.out _ _ HB.out (fun hS => ?_)
      clear hK K hg
      try simp only [Act.put, List.setIfInBounds_toArray, List.set_cons_zero, List.set_cons_succ]
      refine ready_at (i := 2) rfl (by kernel_rfl) (fun K hK => ?_)
      go_simp
      refine (number_any L1 4 Hn1.out.1 (by omega) _).mono ?_
      rintro x W0 ⟨rfl, hB⟩
      rw [Hn1.out.2]
      replace HB := hid (HB.out.trans (hB.mono HB.out.size))
      replace HR := hid (HR.out.below hB)
      replace HG := hid (HG.out.below hB)
      clear hB
      go_wp2_with fail
      refine hK.out _ _ HB.out (fun hS => ?_)
      clear hK K
      try simp only [Act.put, List.setIfInBounds_toArray, List.set_cons_zero, List.set_cons_succ]
      refine take_at (i := 3) (v := ?v3_14) rfl (by kernel_rfl) (by kernel_rfl) (by kernel_rfl) (fun _ _ _ h => h) hS (by rfl) ?h3_14 ?r3_14
      case h3_14 => (intro W hSW; (try dsimp only at hSW); go_simp; (try with_reducible rfl))
      try simp only [Act.put, List.setIfInBounds_toArray, List.set_cons_zero, List.set_cons_succ]
      refine ready_at (i := 6) rfl (by kernel_rfl) (fun K hK => ?_)
      go_simp
      refine (number_any L2 6 Hn2.out.1 (by omega) _).mono ?_
      rintro x W1 ⟨rfl, hB⟩
      rw [Hn2.out.2]
      replace HB := hid (HB.out.trans (hB.mono HB.out.size))
      replace HR := hid (HR.out.below hB)
      replace HG := hid (HG.out.below hB)
      clear hB
      go_wp2_with fail
      refine hK.out _ _ HB.out (fun hS => ?_)
      clear hK K
      try simp only [Act.put, List.setIfInBounds_toArray, List.set_cons_zero, List.set_cons_succ]
      refine ready_at (i := 9) rfl (by kernel_rfl) (fun K hK => ?_)
      go_simp
      refine (number_any L3 6 Hn3.out.1 (by omega) _).mono ?_
      rintro x W2 ⟨rfl, hB⟩
      rw [Hn3.out.2]
      replace HB := hid (HB.out.trans (hB.mono HB.out.size))
      replace HR := hid (HR.out.below hB)
      replace HG := hid (HG.out.below hB)
      clear hB
      go_wp2_with fail
      refine hK.out _ _ HB.out (fun hS => ?_)
      clear hK K
      try simp only [Act.put, List.setIfInBounds_toArray, List.set_cons_zero, List.set_cons_succ]
      refine ready_at (i := 12) rfl (by kernel_rfl) (fun K hK => ?_)
      go_simp
      refine (number_any L4 6 Hn4.out.1 (by omega) _).mono ?_
      rintro x W3 ⟨rfl, hB⟩
      rw [Hn4.out.2]
      replace HB := hid (HB.out.trans (hB.mono HB.out.size))
      replace HR := hid (HR.out.below hB)
      replace HG := hid (HG.out.below hB)
      clear hB
      go_wp2_with fail
      refine hK.out _ _ HB.out (fun hS => ?_)
      clear hK K
      try simp only [Act.put, List.setIfInBounds_toArray, List.set_cons_zero, List.set_cons_succ]
      refine take_at (i := 13) (v := (.agg R1.toArray)) rfl (by kernel_rfl) (by kernel_rfl) (by kernel_rfl) (fun _ _ _ h => h) hS (by rfl) ?h13_15 ?r13_15
      case h13_15 => (intro W hSW; (try dsimp only at hSW); rw [HR1.out]; exact exec_build28 _ _ _ _ rfl rfl rfl rfl rfl)
      try simp only [Act.put, List.setIfInBounds_toArray, List.set_cons_zero, List.set_cons_succ]
      refine ready_at (i := 15) rfl (by kernel_rfl) (fun K hK => ?_)
      refine wp_store_V 28 (.tmp 5) (.tmp 24) rfl g R1 zeroT 28 rfl rfl HG.out HR1l.out.1 HR1l.out.2 HR1o.out (by rfl) ?_
      intro W8 hN hK8 hS8
      replace HR := hid (HR.out.kept hK8 (Nat.ne_of_lt Hlt.out))
      replace HB := hid (HB.out.trans (hK8.below _ (Nat.le_of_lt Hlt.out) HB.out.size))
      have HN := hid hN
      clear hN hK8 hS8
      refine hK.out _ _ HB.out (fun hS => ?_)
      clear hK K
      try simp only [Act.put]
      refine wpAnyH_done (by kernel_rfl) ?_ _
      exact NoPanic.normal ⟨g, W8, rfl, rfl, rfl, HR.out, HN.out, Hlt.out, HB.out⟩
  case post =>
    intro e a W hq0
    obtain ⟨g, W8, rfl, rfl, rfl, hr, hn, hlt, hb⟩ := NoPanic.imp e a W hq0
    clear hq0 HB HR
    have HR := hid hr
    have HN := hid hn
    have Hlt := hid hlt
    have HB := hid hb
    clear hr hn hlt hb hw1 hx1 hx2 hx3 hx4
    have hb5 : n5 < 256 := by rw [Hns.out.2.2.2.2.1]; exact num_bnd _ _ _
    have hb6 : n6 < 256 := by rw [Hns.out.2.2.2.2.2.1]; exact num_bnd _ _ _
    have hb7 : n7 < 65536 := by rw [Hns.out.2.2.2.2.2.2]; exact num_bnd _ _ _
    have q5 : IntKind.i64.wrap (n5 : Int) = (n5 : Int) := IntWalk.i64_in _ ⟨by omega, by omega⟩
    have q6 : IntKind.i64.wrap (n6 : Int) = (n6 : Int) := IntWalk.i64_in _ ⟨by omega, by omega⟩
    have q7 : IntKind.i64.wrap (n7 : Int) = (n7 : Int) := IntWalk.i64_in _ ⟨by omega, by omega⟩
    have h26 : (B[26]'(by omega)).toNat = n5 := byte_at HBe.out 26 (by omega) n5 Hns.out.2.2.2.2.1
    have h27 : (B[27]'(by omega)).toNat = n6 := byte_at HBe.out 27 (by omega) n6 Hns.out.2.2.2.2.2.1
    have hc4 : W.cell? ⟨g, 4, none⟩ = some (.int .i64 0) := by rw [HN.out.cell, HR1.out]; rfl
    have hf4 := HN.out.free 4
    have HNa := hid (HN.out.setC 4 (.int .i64 (n5 : Int)))
    have hc5 : (W.setCell ⟨g, 4, none⟩ (.int .i64 (n5 : Int))).cell? ⟨g, 5, none⟩ = some (.int .i64 0) := by rw [HNa.out.cell, HR1.out]; rfl
    have hf5 := HNa.out.free 5
    have HNb := hid (HNa.out.setC 5 (.int .i64 (n6 : Int)))
    have HRb := hid ((HR.out.kept (Kept.setCell W 4 (.int .i64 (n5 : Int))) (Nat.ne_of_lt Hlt.out)).kept (Kept.setCell (W.setCell ⟨g, 4, none⟩ (.int .i64 (n5 : Int))) 5 (.int .i64 (n6 : Int))) (Nat.ne_of_lt Hlt.out))
    have HBb := hid ((HB.out.setCell (p := ⟨g, 4, none⟩) (Nat.le_of_lt Hlt.out) (.int .i64 (n5 : Int))).setCell (p := ⟨g, 5, none⟩) (Nat.le_of_lt Hlt.out) (.int .i64 (n6 : Int)))
    go_wp2_with fail
    refine (number_any L5 2 Hn5.out.1 (by omega) _).mono ?_
    rintro x w9 ⟨rfl, hB⟩
    rw [Hn5.out.2]
    have hn9 := HNb.out.below hB
    have hc6 : w9.cell? ⟨g, 6, none⟩ = some (.int .i64 0) := by rw [hn9.cell, HR1.out]; rfl
    have hf6 := hn9.free 6
    have HNc := hid (show IsV (w9.setCell ⟨g, 6, none⟩ (.int .i64 (n7 : Int))) g 28 (tagL n1 n4 n2 n3 n5 n6 n7) by
      have := hn9.setC 6 (.int .i64 (n7 : Int))
      rw [HR1.out] at this
      exact this)
    have HRc := hid ((HRb.out.below hB).kept (Kept.setCell w9 6 (.int .i64 (n7 : Int))) (Nat.ne_of_lt Hlt.out))
    have HBc := hid ((HBb.out.trans (hB.mono HBb.out.size)).setCell (p := ⟨g, 6, none⟩) (Nat.le_of_lt Hlt.out) (.int .i64 (n7 : Int)))
    obtain ⟨wc, hwc⟩ : ∃ wc, wc = w9.setCell ⟨g, 6, none⟩ (.int .i64 (n7 : Int)) := ⟨_, rfl⟩
    rw [← hwc] at HNc HRc HBc
    clear hB hn9 HN HR HB HNa HNb HRb HBb hc4 hc5 hf4 hf5 h26 h27 q5 q6 hx5
    obtain ⟨T, hT⟩ : ∃ T, T = tagL n1 n4 n2 n3 n5 n6 n7 := ⟨_, rfl⟩
    rw [← hT] at HNc
    have HTV := hid (show T.toArray = tagV n1 n4 n2 n3 n5 n6 n7 by rw [hT]; rfl)
    have HTk := hid (show tk l 9 = T by rw [tk_all, hT, ← Hns.out.1, ← Hns.out.2.1, ← Hns.out.2.2.1, ← Hns.out.2.2.2.1, ← Hns.out.2.2.2.2.1, ← Hns.out.2.2.2.2.2.1, ← Hns.out.2.2.2.2.2.2])
    have hlT := hid (show (Try.prog.info? 28).map (·.size) = some T.length by rw [hT]; exact size28)
    have hl7 := hid (show zeroT.length = T.length by rw [hT]; rfl)
    have hone := hid (show ∀ v ∈ T, v.oneCell' = true by rw [hT]; exact tagL_one _ _ _ _ _ _ _)
    have Htok := hid (show tagOk l = (right n1 n4 n2 n3 n5 n6 n7 && decide (head n1 n4 n2 n3 n5 n6 n7 ++ l.drop 32 = l)) by
      unfold tagOk
      rw [decide_eq_true Hl.out, Bool.true_and, ← Hns.out.1, ← Hns.out.2.1, ← Hns.out.2.2.1, ← Hns.out.2.2.2.1, ← Hns.out.2.2.2.2.1, ← Hns.out.2.2.2.2.2.1, ← Hns.out.2.2.2.2.2.2])
    have he1 : n1 < 4294967296 := by rw [Hns.out.1]; exact num_bnd _ _ _
    clear hT
    have HWc := hid hwc
    go_wp2_with (refine wpList_load_V (.tmp 5) rfl g rfl T _ (HWc.out ▸ HNc.out) Try.underlying28 rfl hlT.out (by rfl) ?_)
    rw [← hwc]
    clear hwc HWc hc6 hf6
    rw [HTV.out]
    refine (refright_any n1 n4 n2 n3 n5 n6 n7 _).mono ?_
    rintro x wd ⟨rfl, hB⟩
    rw [← HTV.out]
    have HNd := hid (HNc.out.below hB)
    have HRd := hid (HRc.out.below hB)
    have HBd := hid (HBc.out.trans (hB.mono HBc.out.size))
    clear hB HNc HRc HBc
    rcases hq : right n1 n4 n2 n3 n5 n6 n7 with _ | _
    · have Hno := hid (show tagOk l = false by rw [Htok.out, hq]; rfl)
      clear hq
      go_wp2_with fail
      refine wp_region_noPanic ?_
      refine wp_region_held_drew (S := fun W => Below wd.heap.size wd W) (by kernel_rfl) (Below.refl _ _).drew (fun hS => ?_)
      refine take_at (i := 0) (v := ?v0_16) rfl (by kernel_rfl) (by kernel_rfl) (by kernel_rfl) (fun _ _ _ h => h) hS (by rfl) ?h0_16 ?r0_16
      case h0_16 => (intro W hSW; (try dsimp only at hSW); go_simp; (try with_reducible rfl))
      try simp only [Act.put, List.setIfInBounds_toArray, List.set_cons_zero, List.set_cons_succ]
      refine take_at (i := 1) (v := ?v1_17) rfl (by kernel_rfl) (by kernel_rfl) (by kernel_rfl) (fun _ _ _ h => h) hS (by rfl) ?h1_17 ?r1_17
      case h1_17 => (intro W hSW; (try dsimp only at hSW); go_simp; (try with_reducible rfl))
      try simp only [Act.put, List.setIfInBounds_toArray, List.set_cons_zero, List.set_cons_succ]
      refine take_at (i := 2) (v := ?v2_18) rfl (by kernel_rfl) (by kernel_rfl) (by kernel_rfl) (fun _ _ _ h => h) hS (by rfl) ?h2_18 ?r2_18
      case h2_18 => (intro W hSW; (try dsimp only at hSW); go_simp; (try with_reducible rfl))
      try simp only [Act.put, List.setIfInBounds_toArray, List.set_cons_zero, List.set_cons_succ]
      refine skip_at (i := 3) rfl (by kernel_rfl) (by kernel_rfl) (by kernel_rfl) (fun _ _ _ h => h) hS (by rfl) ?_
      try simp only [Act.put, List.setIfInBounds_toArray, List.set_cons_zero, List.set_cons_succ]
      refine skip_at (i := 4) rfl (by kernel_rfl) (by kernel_rfl) (by kernel_rfl) (fun _ _ _ h => h) hS (by rfl) ?_
      try simp only [Act.put, List.setIfInBounds_toArray, List.set_cons_zero, List.set_cons_succ]
      refine skip_at (i := 5) rfl (by kernel_rfl) (by kernel_rfl) (by kernel_rfl) (fun _ _ _ h => h) hS (by rfl) ?_
      try simp only [Act.put, List.setIfInBounds_toArray, List.set_cons_zero, List.set_cons_succ]
      refine skip_at (i := 6) rfl (by kernel_rfl) (by kernel_rfl) (by kernel_rfl) (fun _ _ _ h => h) hS (by rfl) ?_
      try simp only [Act.put, List.setIfInBounds_toArray, List.set_cons_zero, List.set_cons_succ]
      refine skip_at (i := 7) rfl (by kernel_rfl) (by kernel_rfl) (by kernel_rfl) (fun _ _ _ h => h) hS (by rfl) ?_
      try simp only [Act.put, List.setIfInBounds_toArray, List.set_cons_zero, List.set_cons_succ]
      refine skip_at (i := 8) rfl (by kernel_rfl) (by kernel_rfl) (by kernel_rfl) (fun _ _ _ h => h) hS (by rfl) ?_
      try simp only [Act.put, List.setIfInBounds_toArray, List.set_cons_zero, List.set_cons_succ]
      refine take_at (i := 9) (v := ?v9_19) rfl (by kernel_rfl) (by kernel_rfl) (by kernel_rfl) (fun _ _ _ h => h) hS (by rfl) ?h9_19 ?r9_19
      case h9_19 => (intro W hSW; (try dsimp only at hSW); go_simp; (try with_reducible rfl))
      try simp only [Act.put, List.setIfInBounds_toArray, List.set_cons_zero, List.set_cons_succ]
      refine wpAnyH_done (by kernel_rfl) ?_ _
      refine NoPanic.normal ?_
      have HRe := hid (HRd.out.below hS)
      have HBe := hid (HBd.out.trans (hS.mono HBd.out.size))
      obtain ⟨we, hwe⟩ : ∃ we, we = wd.drew := ⟨_, rfl⟩
      rw [← hwe] at HRe HBe ⊢
      clear hwe hS
      go_wp2_with (first
        | (refine wpList_exec (.agg zeroT.toArray) (by rfl) (exec_build0 rfl built28z) ?_)
        | (refine wpList_store_V 28 (.tmp 2) (.tmp 50) rfl w.heap.size zeroT zeroT 28 rfl rfl HRe.out rfl size28 zeroT_one (by rfl) ?_; intro wz hN hK hS; have HNz := hid hN; have HBz := hid (HBe.out.trans (hK.below _ (Nat.le_refl _) HBe.out.size)); clear hN hK hS))
      have hld := loadVar_V (P := Try.prog) (T := 28) HNz.out Try.underlying28 rfl size28
      exact bodyPost_ret (v := .tuple #[.agg zeroT.toArray, .string ⟨#[]⟩, .bool false]) (results_cell2 Try.results14 rfl rfl rfl hld) rfl ⟨.inl ⟨Hno.out, rfl⟩, HBz.out⟩
    · obtain ⟨M, hM⟩ : ∃ M, M = l.drop 32 := ⟨_, rfl⟩
      have hx6 : B.extract 32 512 = ⟨M.toArray⟩ := by
        rw [HBe.out, hM, ex_part l 32 512 (by rw [Hl.out]; omega) (by omega), List.take_of_length_le (by rw [List.length_drop, Hl.out]; omega)]
      have HMl := hid (show M.length ≤ 1000 by rw [hM, List.length_drop, Hl.out]; omega)
      have HM := hid hM
      obtain ⟨Y, hY⟩ : ∃ Y, Y = head n1 n4 n2 n3 n5 n6 n7 ++ M := ⟨_, rfl⟩
      have Htok1 := hid (show tagOk l = decide (Y = l) by rw [Htok.out, hq, hY, hM]; rfl)
      have Hq := hid hq
      have HY := hid hY
      clear hM hY hq
      go_wp2_with fail
      refine wp_region_noPanic ?_
      refine wp_region_held_drew (S := fun W => Below wd.heap.size wd W) (by kernel_rfl) (Below.refl _ _).drew (fun hS => ?_)
      refine take_at (i := 0) (v := ?v0_20) rfl (by kernel_rfl) (by kernel_rfl) (by kernel_rfl) (fun _ _ _ h => h) hS (by rfl) ?h0_20 ?r0_20
      case h0_20 => (intro W hSW; (try dsimp only at hSW); go_simp; (try with_reducible rfl))
      try simp only [Act.put, List.setIfInBounds_toArray, List.set_cons_zero, List.set_cons_succ]
      refine take_at (i := 1) (v := ?v1_21) rfl (by kernel_rfl) (by kernel_rfl) (by kernel_rfl) (fun _ _ _ h => h) hS (by rfl) ?h1_21 ?r1_21
      case h1_21 => (intro W hSW; (try dsimp only at hSW); go_simp; (try with_reducible rfl))
      try simp only [Act.put, List.setIfInBounds_toArray, List.set_cons_zero, List.set_cons_succ]
      refine take_at (i := 2) (v := ?v2_22) rfl (by kernel_rfl) (by kernel_rfl) (by kernel_rfl) (fun _ _ _ h => h) hS (by rfl) ?h2_22 ?r2_22
      case h2_22 => (intro W hSW; (try dsimp only at hSW); go_simp; (try with_reducible rfl))
      try simp only [Act.put, List.setIfInBounds_toArray, List.set_cons_zero, List.set_cons_succ]
      refine take_at (i := 3) (v := .agg T.toArray) rfl (by kernel_rfl) (by kernel_rfl) (by kernel_rfl) (fun _ _ _ h => h) hS (by rfl) ?he3 ?re3
      case he3 => (intro W hSW; (try dsimp only at hSW); exact exec_load_V (.tmp 5) rfl g rfl T _ (HNd.out.below hSW) Try.underlying28 rfl hlT.out)
      try simp only [Act.put, List.setIfInBounds_toArray, List.set_cons_zero, List.set_cons_succ]
      refine take_at (i := 4) (v := ?v4_23) rfl (by kernel_rfl) (by kernel_rfl) (by kernel_rfl) (fun _ _ _ h => h) hS (by rfl) ?h4_23 ?r4_23
      case h4_23 => (intro W hSW; (try dsimp only at hSW); go_simp; (try with_reducible rfl))
      try simp only [Act.put, List.setIfInBounds_toArray, List.set_cons_zero, List.set_cons_succ]
      refine take_at (i := 5) (v := ?v5_24) rfl (by kernel_rfl) (by kernel_rfl) (by kernel_rfl) (fun _ _ _ h => h) hS (by rfl) ?h5_24 ?r5_24
      case h5_24 => (intro W hSW; (try dsimp only at hSW); go_simp; (try with_reducible rfl))
      try simp only [Act.put, List.setIfInBounds_toArray, List.set_cons_zero, List.set_cons_succ]
      refine take_at (i := 7) (v := ?v7_25) rfl (by kernel_rfl) (by kernel_rfl) (by kernel_rfl) (fun _ _ _ h => h) hS (by rfl) ?h7_25 ?r7_25
      case h7_25 => (intro W hSW; (try dsimp only at hSW); go_simp; (try with_reducible rfl))
      try simp only [Act.put, List.setIfInBounds_toArray, List.set_cons_zero, List.set_cons_succ]
      refine ready_at (i := 6) rfl (by kernel_rfl) (fun K hK => ?_)
      go_simp
      rw [HTV.out]
      refine (refencode_any n1 n4 n2 n3 n5 n6 n7 he1 Hq.out M HMl.out _).mono ?_
      rintro x wf ⟨rfl, hB⟩
      rw [← HTV.out, ← HY.out]
      have HBf := hid (hS.trans (hB.mono hS.size))
      clear hB
      go_wp2_with fail
      refine hK.out _ _ HBf.out (fun hS => ?_)
      clear hK K
      try simp only [Act.put, List.setIfInBounds_toArray, List.set_cons_zero, List.set_cons_succ]
      refine take_at (i := 8) (v := .bool (!decide (Y = l))) rfl (by kernel_rfl) (by kernel_rfl) (by kernel_rfl) (fun _ _ _ h => h) hS (by rfl) ?he8 ?re8
      case he8 => (intro W hSW; (try dsimp only at hSW); exact exec_neq_str (X := Y) (Y := l) (.tmp 46) (.tmp 47) rfl rfl (by rw [← HBe.out]; rfl))
      try simp only [Act.put, List.setIfInBounds_toArray, List.set_cons_zero, List.set_cons_succ]
      refine take_at (i := 9) (v := ?v9_26) rfl (by kernel_rfl) (by kernel_rfl) (by kernel_rfl) (fun _ _ _ h => h) hS (by rfl) ?h9_26 ?r9_26
      case h9_26 => (intro W hSW; (try dsimp only at hSW); go_simp; (try with_reducible rfl))
      try simp only [Act.put, List.setIfInBounds_toArray, List.set_cons_zero, List.set_cons_succ]
      refine wpAnyH_done (by kernel_rfl) ?_ _
      refine NoPanic.normal ?_
      have HRf := hid (HRd.out.below hS)
      have HNf := hid (HNd.out.below hS)
      have HBg := hid (HBd.out.trans (hS.mono HBd.out.size))
      clear hS
      rcases heq : decide (Y = l) with _ | _
      · have Hno := hid (Htok1.out.trans heq)
        clear heq
        go_wp2_with (first
          | (refine wpList_exec (.agg zeroT.toArray) (by rfl) (exec_build0 rfl built28z) ?_)
          | (refine wpList_store_V 28 (.tmp 2) (.tmp 50) rfl w.heap.size zeroT zeroT 28 rfl rfl HRf.out rfl size28 zeroT_one (by rfl) ?_; intro wz hN hK hS; have HNz := hid hN; have HBz := hid (HBg.out.trans (hK.below _ (Nat.le_refl _) HBg.out.size)); clear hN hK hS))
        have hld := loadVar_V (P := Try.prog) (T := 28) HNz.out Try.underlying28 rfl size28
        exact bodyPost_ret (v := .tuple #[.agg zeroT.toArray, .string ⟨#[]⟩, .bool false]) (results_cell2 Try.results14 rfl rfl rfl hld) rfl ⟨.inl ⟨Hno.out, rfl⟩, HBz.out⟩
      · have Hyes := hid (Htok1.out.trans heq)
        clear heq
        go_wp2_with fail
        refine wp_region_noPanic ?_
        refine wp_region_held_drew (S := fun W => IsV W g 28 T) (by kernel_rfl) (HNf.out.below (Below.refl _ _).drew) (fun hS => ?_)
        refine take_at (i := 0) (v := .agg T.toArray) rfl (by kernel_rfl) (by kernel_rfl) (by kernel_rfl) (fun _ _ _ h => h) hS (by rfl) ?hf0 ?rf0
        case hf0 => (intro W hSW; (try dsimp only at hSW); exact exec_load_V (.tmp 5) rfl g rfl T _ hSW Try.underlying28 rfl hlT.out)
        try simp only [Act.put, List.setIfInBounds_toArray, List.set_cons_zero, List.set_cons_succ]
        refine take_at (i := 1) (v := ?v1_27) rfl (by kernel_rfl) (by kernel_rfl) (by kernel_rfl) (fun _ _ _ h => h) hS (by rfl) ?h1_27 ?r1_27
        case h1_27 => (intro W hSW; (try dsimp only at hSW); go_simp; (try with_reducible rfl))
        try simp only [Act.put, List.setIfInBounds_toArray, List.set_cons_zero, List.set_cons_succ]
        refine take_at (i := 2) (v := ?v2_28) rfl (by kernel_rfl) (by kernel_rfl) (by kernel_rfl) (fun _ _ _ h => h) hS (by rfl) ?h2_28 ?r2_28
        case h2_28 => (intro W hSW; (try dsimp only at hSW); go_simp; (try with_reducible rfl))
        try simp only [Act.put, List.setIfInBounds_toArray, List.set_cons_zero, List.set_cons_succ]
        refine ready_at (i := 3) rfl (by kernel_rfl) (fun K hK => ?_)
        refine wp_store_V 28 (.tmp 2) (.tmp 51) rfl w.heap.size T zeroT 28 rfl rfl (HRf.out.below (Below.refl _ _).drew) hl7.out hlT.out hone.out (by rfl) ?_
        intro wz hN hK2 hS2
        have HNz := hid hN
        have HTz := hid (hS.kept hK2 (Nat.ne_of_gt Hlt.out))
        have HBz := hid (HBg.out.trans (((Below.refl _ _).drew).trans (hK2.below w.heap.size (Nat.le_refl _) (by have := HBg.out.size; simpa using this))))
        clear hN hK2 hS2
        refine hK.out _ _ HTz.out (fun hS => ?_)
        clear hK K
        try simp only [Act.put]
        refine ready_at (i := 4) rfl (by kernel_rfl) (fun K hK => ?_)
        go_simp
        refine hK.out _ _ HTz.out (fun hS => ?_)
        clear hK K
        try simp only [Act.put, List.setIfInBounds_toArray, List.set_cons_zero, List.set_cons_succ]
        refine ready_at (i := 5) rfl (by kernel_rfl) (fun K hK => ?_)
        go_simp
        refine hK.out _ _ HTz.out (fun hS => ?_)
        clear hK K
        try simp only [Act.put, List.setIfInBounds_toArray, List.set_cons_zero, List.set_cons_succ]
        refine wpAnyH_done (by kernel_rfl) ?_ _
        refine NoPanic.normal ?_
        go_wp2_with fail
        have hld := loadVar_V (P := Try.prog) (T := 28) HNz.out Try.underlying28 rfl hlT.out
        exact bodyPost_ret (v := .tuple #[.agg T.toArray, .string ⟨M.toArray⟩, .bool true]) (results_cell2 Try.results14 rfl rfl rfl hld) rfl ⟨.inr ⟨Hyes.out, by rw [HTk.out, HM.out]⟩, HBz.out⟩
end Go.Proofs.Ytmfncpifalnggaa
