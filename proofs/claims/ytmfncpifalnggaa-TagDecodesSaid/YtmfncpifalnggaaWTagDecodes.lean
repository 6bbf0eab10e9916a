/- The walk of TagDecodes. -/
import Derived.Test.YtmfncpifalnggaaShown
import Derived.Test.YtmfncpifalnggaaTagR3
namespace Go.Proofs.Ytmfncpifalnggaa
open Go.RowKit O
set_option linter.unusedVariables false

theorem guard28 : Try.prog.eqGuardType Try.prog.depth 28 = false := by kernel_rfl
theorem fields28 : (Try.prog.fieldsOf 28).toList.map (fun f => (f.name, f.type, f.offset)) = [("Epoch", 22, 0), ("Start", 23, 1), ("Seq", 23, 2), ("Floor", 23, 3), ("Index", 3, 4), ("Count", 3, 5), ("ID", 3, 6)] := by kernel_rfl
theorem struct28 : Try.prog.underlying 28 = some (.struct (Try.prog.fieldsOf 28)) := by kernel_rfl
theorem stood28 : Try.prog.stoodInHeld 28 = false := by kernel_rfl
theorem eq_tag28 (e s q f : Nat) (i c d : Int) (e' s' q' f' : Nat) (i' c' d' : Int) (w : World) :
    (Op.equalIn 10000 28 (.agg (tagV e s q f i c d)) (.agg (tagV e' s' q' f' i' c' d'))).run Try.prog w = .ok (decide (e = e' ∧ s = s' ∧ q = q' ∧ f = f' ∧ i = i' ∧ c = c' ∧ d = d')) w := by
  rw [run_equalIn_struct w 9999 _ _ _ struct28 stood28]
  have hf := fields28
  generalize (Try.prog.fieldsOf 28).toList = fs at hf
  have hl : fs.length = 7 := by simpa using congrArg List.length hf
  match fs, hl, hf with
  | [f0, f1, f2, f3, f4, f5, f6], _, hf =>
    simp only [List.map_cons, List.map_nil, List.cons.injEq, Prod.mk.injEq, and_true] at hf
    obtain ⟨⟨n0, t0, o0⟩, ⟨n1, t1, o1⟩, ⟨n2, t2, o2⟩, ⟨n3, t3, o3⟩, ⟨n4, t4, o4⟩, ⟨n5, t5, o5⟩, ⟨n6, t6, o6⟩⟩ := hf
    have p0 := fun (e s q f : Nat) (i c d : Int) (w : World) => part_intk (P := Try.prog) Try.underlying22 (show (tagV e s q f i c d)[0]? = some (.int .u32 (e : Int)) from rfl) w
    have p1 := fun (e s q f : Nat) (i c d : Int) (w : World) => part_intk (P := Try.prog) Try.underlying23 (show (tagV e s q f i c d)[1]? = some (.int .u64 (s : Int)) from rfl) w
    have p2 := fun (e s q f : Nat) (i c d : Int) (w : World) => part_intk (P := Try.prog) Try.underlying23 (show (tagV e s q f i c d)[2]? = some (.int .u64 (q : Int)) from rfl) w
    have p3 := fun (e s q f : Nat) (i c d : Int) (w : World) => part_intk (P := Try.prog) Try.underlying23 (show (tagV e s q f i c d)[3]? = some (.int .u64 (f : Int)) from rfl) w
    have p4 := fun (e s q f : Nat) (i c d : Int) (w : World) => part_intk (P := Try.prog) Try.underlying3 (show (tagV e s q f i c d)[4]? = some (.int .i64 i) from rfl) w
    have p5 := fun (e s q f : Nat) (i c d : Int) (w : World) => part_intk (P := Try.prog) Try.underlying3 (show (tagV e s q f i c d)[5]? = some (.int .i64 c) from rfl) w
    have p6 := fun (e s q f : Nat) (i c d : Int) (w : World) => part_intk (P := Try.prog) Try.underlying3 (show (tagV e s q f i c d)[6]? = some (.int .i64 d) from rfl) w
    have e32 := fun (a b : Int) (w : World) => run_equalIn_int (P := Try.prog) w 9998 22 .u32 .u32 a b Try.underlying22
    have e64 := fun (a b : Int) (w : World) => run_equalIn_int (P := Try.prog) w 9998 23 .u64 .u64 a b Try.underlying23
    have ei := fun (a b : Int) (w : World) => run_equalIn_int (P := Try.prog) w 9998 3 .i64 .i64 a b Try.underlying3
    have h0 : ("Epoch" : String) ≠ "_" := by decide
    have h1 : ("Start" : String) ≠ "_" := by decide
    have h2 : ("Seq" : String) ≠ "_" := by decide
    have h3 : ("Floor" : String) ≠ "_" := by decide
    have h4 : ("Index" : String) ≠ "_" := by decide
    have h5 : ("Count" : String) ≠ "_" := by decide
    have h6 : ("ID" : String) ≠ "_" := by decide
    simp only [Op.eqFields, n0, n1, n2, n3, n4, n5, n6, t0, t1, t2, t3, t4, t5, t6, o0, o1, o2, o3, o4, o5, o6, h0, h1, h2, h3, h4, h5, h6, ne_eq, not_false_eq_true, if_true, Sem.run_bind, Sem.run_ite, Sem.run_pure, p0, p1, p2, p3, p4, p5, p6, e32, e64, ei, Result.andThen_ok]
    rw [show decide (e = e' ∧ s = s' ∧ q = q' ∧ f = f' ∧ i = i' ∧ c = c' ∧ d = d') = (((e : Int) == (e' : Int)) && (((s : Int) == (s' : Int)) && (((q : Int) == (q' : Int)) && (((f : Int) == (f' : Int)) && ((i == i') && ((c == c') && (d == d'))))))) by
      rw [Bool.eq_iff_iff, decide_eq_true_iff]
      simp
      omega]
    cases ((e : Int) == (e' : Int)) <;> cases ((s : Int) == (s' : Int)) <;> cases ((q : Int) == (q' : Int)) <;> cases ((f : Int) == (f' : Int)) <;> cases (i == i') <;> cases (c == c') <;> cases (d == d') <;> simp


theorem decode_any (l : List UInt8) (n : Nat) (hnl : l.length = n) (w : World) (a : Option Addr) (c : Nat) (hb : IsBytes w a l) (hlc : n ≤ c) :
    Calls Try.prog 13 #[.slice a n c] w fun x w' =>
      ((tagOk l = false ∧ x = .returned (.tuple #[.agg zeroT.toArray, .slice none 0 0, .int .i64 4])) ∨
       (tagOk l = true ∧ ∃ A cc, x = .returned (.tuple #[.agg (tk l 9).toArray, .slice A 480 cc, .int .i64 0]) ∧ Own 5 w.heap.size w' A cc ((l.drop 32).map byteV))) ∧ Below w.heap.size w w' := by
  by_cases h : n = 512
  · subst h
    exact decode_full l hnl w a c hb hlc
  · refine (decode_short l n hnl h w a c).mono ?_
    rintro x w' ⟨rfl, hB⟩
    exact ⟨.inl ⟨by unfold tagOk; rw [decide_eq_false (show ¬ l.length = 512 by omega)]; rfl, rfl⟩, hB⟩
theorem refdecode_any (l : List UInt8) (w : World) :
    Calls Try.prog 14 #[.string ⟨l.toArray⟩] w fun x w' =>
      ((tagOk l = false ∧ x = .returned (.tuple #[.agg zeroT.toArray, .string ⟨#[]⟩, .bool false])) ∨
       (tagOk l = true ∧ x = .returned (.tuple #[.agg (tk l 9).toArray, .string ⟨(l.drop 32).toArray⟩, .bool true]))) ∧ Below w.heap.size w w' := by
  by_cases h : l.length = 512
  · exact refdecode_full l h w
  · refine (refdecode_short l h w).mono ?_
    rintro x w' ⟨rfl, hB⟩
    exact ⟨.inl ⟨by unfold tagOk; rw [decide_eq_false h]; rfl, rfl⟩, hB⟩

set_option maxHeartbeats 8000000 in
set_option maxRecDepth 20000 in
theorem walk_TagDecodes (w : World) (a : Option Addr) (l0 : List UInt8) (c0 : Nat) (hbl0 : IsBytes w a l0) (hlc : l0.length ≤ c0) (hcm : c0 ≤ maxLen) :
    Calls Try.prog 4 #[.slice a l0.length c0] w fun x w' => x = .returned (.bool true) ∧ Below w.heap.size w w' := by
  unfold maxLen at hcm
  obtain ⟨k, hmin, hlen, hk, hkc⟩ := cut_min l0 600 600 rfl hlc
  have hmin2 : min (l0.length : Int) 600 = (k : Int) := by rw [List.length_take] at hlen; omega
  have Hbl := hid (hbl0.take 600)
  have Hln := hid hlen
  generalize l0.take 600 = l at *
  have Hkc := hid (show k ≤ c0 by omega)
  clear hbl0 hlen
  have Hz25 := hid (fun (W : World) => show (Op.equalIn 10000 25 (.agg zeroT.toArray) (.agg zeroT.toArray)).run Try.prog W = .ok true W from by
    have := eq_tag 0 0 0 0 0 0 0 0 0 0 0 0 0 0 W
    rwa [decide_eq_true (by simp)] at this)
  go_enter Try.func4, Try.ntmps4
  go_wp2_with fail
  refine (shown_any _).mono ?_
  rintro x w1 ⟨rfl, hB⟩
  have HB1 := hid hB
  have Hbl1 := hid (Hbl.out.below hB)
  clear hB Hbl
  go_wp2_with fail
  clear hmin hmin2
  refine (decode_any l k Hln.out _ _ _ Hbl1.out Hkc.out).mono ?_
  rintro x w2 ⟨⟨h, rfl⟩ | ⟨h, A, cc, rfl, hown⟩, hB⟩
  · have HB2 := hid (HB1.out.trans (hB.mono HB1.out.size))
    have Hbl2 := hid (Hbl1.out.below hB)
    have Hno := hid h
    clear hB h HB1 Hbl1
    go_wp2_with (first
      | (refine wpList_alloc_V rfl rfl zero25 ?_; intro w3 hN hB hS; have HN3 := hid hN; have HB3 := hid hB; clear hN hB hS)
      | (refine wpList_store_V 25 (.tmp 4) (.tmp 19) rfl w2.heap.size zeroT zeroT 25 rfl rfl HN3.out rfl size25 zeroT_one (by rfl) ?_; intro w4 hN hK hS; have hB4 : Below w2.heap.size w2 w4 := HB3.out.trans (hK.below _ (Nat.le_refl _) HB3.out.size); have HT4 := hid hN; have HB4 := hid (HB2.out.trans (hB4.mono HB2.out.size)); have hs4 := str_any (c := c0) Hln.out (Hbl2.out.below hB4); clear hN hK hS hB4))
    refine (refdecode_any l _).mono ?_
    rintro x w5 ⟨⟨-, rfl⟩ | ⟨h2, -⟩, hB⟩
    · have HB5 := hid (HB4.out.trans (hB.mono HB4.out.size))
      have HT5 := hid (HT4.out.below hB)
      clear hB hs4
      go_wp2_with (first
        | (refine wpList_alloc_V rfl rfl zero28 ?_; intro w6 hN hB hS; have HN6 := hid hN; have HB6 := hid hB; clear hN hB hS)
        | (refine wpList_store_V 28 (.tmp 7) (.tmp 26) rfl w5.heap.size zeroT zeroT 28 rfl rfl HN6.out rfl size28 zeroT_one (by rfl) ?_; intro w7 hN hK hS; have hB7 : Below w5.heap.size w5 w7 := HB6.out.trans (hK.below _ (Nat.le_refl _) HB6.out.size); have HT7 := hid (HT5.out.below hB7); have HB7 := hid (HB5.out.trans (hB7.mono HB5.out.size)); clear hN hK hS hB7)
        | (refine wpList_load_V (.tmp 4) rfl w2.heap.size rfl zeroT _ HT7.out Try.underlying25 rfl size25 (by rfl) ?_)
        | (refine wpList_exec (.agg zeroT.toArray) (by rfl) (exec_build0 rfl built25z) ?_)
        | (refine wpList_exec (.bool true) (by rfl) (exec_eql (.tmp 33) (.tmp 34) rfl rfl rfl guard25 (Hz25.out _)) ?_))
      go_ret
      exact ⟨rfl, HB7.out⟩
    · rw [Hno.out] at h2
      cases h2
  · have HB2 := hid (HB1.out.trans (hB.mono HB1.out.size))
    have Hbl2 := hid (Hbl1.out.below hB)
    have Hyes := hid h
    have h9 := hid (show zeroT.length = (tk l 9).length by rw [tk_length]; rfl)
    have hl9 := hid (show (Try.prog.info? 25).map (·.size) = some (tk l 9).length by rw [tk_length]; exact size25)
    have hr9 := hid (show (Try.prog.info? 28).map (·.size) = some (tk l 9).length by rw [tk_length]; exact size28)
    have ho9 := hid (show ∀ v ∈ tk l 9, v.oneCell' = true by rw [tk_all]; exact tagL_one _ _ _ _ _ _ _)
    have Heq := hid (fun (W : World) => show (Op.equalIn 10000 28 (.agg (tk l 9).toArray) (.agg (tk l 9).toArray)).run Try.prog W = .ok true W from by
      have := eq_tag28 (fn l 1) (fn l 4) (fn l 2) (fn l 3) (fn l 5) (fn l 6) (fn l 7) (fn l 1) (fn l 4) (fn l 2) (fn l 3) (fn l 5) (fn l 6) (fn l 7) W
      rw [decide_eq_true (by simp)] at this
      rw [tk_all]
      exact this)
    have HMl := hid (show (l.drop 32).length = 480 by
      have := (ok_head h).2.2
      rw [List.length_drop]
      omega)
    have HOb := hid hown.row.bytes
    obtain ⟨R, hR⟩ : ∃ R, R = tk l 9 := ⟨_, rfl⟩
    obtain ⟨M, hM⟩ : ∃ M, M = l.drop 32 := ⟨_, rfl⟩
    have HRe := hid hR
    have HMe := hid hM
    rw [← hR] at h9 hl9 hr9 ho9 Heq ⊢
    rw [← hM] at HMl HOb
    clear hB h HB1 Hbl1 hown hR hM
    go_wp2_with (first
      | (refine wpList_alloc_V rfl rfl zero25 ?_; intro w3 hN hB hS; have HN3 := hid hN; have HB3 := hid hB; clear hN hB hS)
      | (refine wpList_store_V 25 (.tmp 4) (.tmp 19) rfl w2.heap.size R zeroT 25 rfl rfl HN3.out h9.out hl9.out ho9.out (by rfl) ?_; intro w4 hN hK hS; have hB4 : Below w2.heap.size w2 w4 := HB3.out.trans (hK.below _ (Nat.le_refl _) HB3.out.size); have HT4 := hid hN; have HB4 := hid (HB2.out.trans (hB4.mono HB2.out.size)); have HO4 := hid (HOb.out.below hB4); have hs4 := str_any (c := c0) Hln.out (Hbl2.out.below hB4); clear hN hK hS hB4))
    refine (refdecode_any l _).mono ?_
    rintro x w5 ⟨⟨h2, -⟩ | ⟨-, rfl⟩, hB⟩
    · rw [Hyes.out] at h2
      cases h2
    · rw [← HRe.out, ← HMe.out]
      have HB5 := hid (HB4.out.trans (hB.mono HB4.out.size))
      have HT5 := hid (HT4.out.below hB)
      have HO5 := hid (HO4.out.below hB)
      clear hB hs4
      go_wp2_with (first
        | (refine wpList_alloc_V rfl rfl zero28 ?_; intro w6 hN hB hS; have HN6 := hid hN; have HB6 := hid hB; clear hN hB hS)
        | (refine wpList_store_V 28 (.tmp 7) (.tmp 26) rfl w5.heap.size R zeroT 28 rfl rfl HN6.out h9.out hr9.out ho9.out (by rfl) ?_; intro w7 hN hK hS; have hB7 : Below w5.heap.size w5 w7 := HB6.out.trans (hK.below _ (Nat.le_refl _) HB6.out.size); have HU7 := hid hN; have HT7 := hid (HT5.out.below hB7); have hs7 := str_any (c := cc) HMl.out (HO5.out.below hB7); have HB7 := hid (HB5.out.trans (hB7.mono HB5.out.size)); clear hN hK hS hB7)
        | (refine wpList_load_V (.tmp 4) rfl w2.heap.size rfl R _ HT7.out Try.underlying25 rfl hl9.out (by rfl) ?_)
        | (refine wpList_load_V (.tmp 7) rfl w5.heap.size rfl R _ HU7.out Try.underlying28 rfl hr9.out (by rfl) ?_)
        | (refine wpList_exec (.bool true) (by rfl) (exec_eql (.tmp 48) (.tmp 49) rfl rfl rfl guard28 (Heq.out _)) ?_))
      go_ret
      exact ⟨ret_bool (by simp), HB7.out⟩
end Go.Proofs.Ytmfncpifalnggaa
