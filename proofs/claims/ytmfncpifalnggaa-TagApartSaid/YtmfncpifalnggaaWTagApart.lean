/- The walk of TagApart. -/
import Derived.Test.YtmfncpifalnggaaShown
import Derived.Test.YtmfncpifalnggaaTagE
namespace Go.Proofs.Ytmfncpifalnggaa
open Go.RowKit O
set_option linter.unusedVariables false

set_option maxHeartbeats 8000000 in
set_option maxRecDepth 20000 in
theorem walk_TagApart (w : World) (e s q f : Nat) (i c d : Int) (he : e < 4294967296) (hb : s < 18446744073709551616 ∧ q < 18446744073709551616 ∧ f < 18446744073709551616) (hi : -9223372036854775808 ≤ i ∧ i ≤ 9223372036854775807) (hc : -9223372036854775808 ≤ c ∧ c ≤ 9223372036854775807) (hd : -9223372036854775808 ≤ d ∧ d ≤ 9223372036854775807)
    (e' s' q' f' : Nat) (i' c' d' : Int) (he' : e' < 4294967296) (hb' : s' < 18446744073709551616 ∧ q' < 18446744073709551616 ∧ f' < 18446744073709551616) (hi' : -9223372036854775808 ≤ i' ∧ i' ≤ 9223372036854775807) (hc' : -9223372036854775808 ≤ c' ∧ c' ≤ 9223372036854775807) (hd' : -9223372036854775808 ≤ d' ∧ d' ≤ 9223372036854775807) :
    Calls Try.prog 6 #[.agg (tagV e s q f i c d), .agg (tagV e' s' q' f' i' c' d')] w fun x w' => x = .returned (.bool true) ∧ Below w.heap.size w w' := by
  clear hb hi hc hd hb' hi' hc' hd'
  obtain ⟨w0, hw0⟩ : ∃ w0, w0 = (w.alloc (.cells (tagL e s q f i c d).toArray 25)).alloc (.cells (tagL e' s' q' f' i' c' d').toArray 25) := ⟨_, rfl⟩
  have HB0 := hid (show Below w.heap.size w w0 by rw [hw0]; exact below2 _ _ _)
  have HA := hid (show IsV w0 w.heap.size 25 (tagL e s q f i c d) by rw [hw0]; exact (IsV.new w _ _).below (below1 _ _))
  have HC := hid (show IsV w0 (w.heap.size + 1) 25 (tagL e' s' q' f' i' c' d') by rw [hw0]; exact IsV.at (by simp) _ _)
  obtain ⟨T, hT⟩ : ∃ T, T = tagL e s q f i c d := ⟨_, rfl⟩
  obtain ⟨T', hT'⟩ : ∃ T', T' = tagL e' s' q' f' i' c' d' := ⟨_, rfl⟩
  rw [show tagV e s q f i c d = T.toArray by rw [hT]; rfl, show tagV e' s' q' f' i' c' d' = T'.toArray by rw [hT']; rfl]
  rw [← hT] at HA hw0
  rw [← hT'] at HC hw0
  have HT := hid hT
  have HT' := hid hT'
  have hlT := hid (show (Try.prog.info? 25).map (·.size) = some T.length by rw [hT]; exact size25)
  have hlT' := hid (show (Try.prog.info? 25).map (·.size) = some T'.length by rw [hT']; exact size25)
  clear hT hT'
  go_enter Try.func6, Try.ntmps6
  go_wp2_with fail
  rw [← hw0]
  clear hw0
  refine (shown_any _).mono ?_
  rintro x w1 ⟨rfl, hB⟩
  have HB1 := hid (HB0.out.trans (hB.mono HB0.out.size))
  replace HA := hid (HA.out.below hB)
  replace HC := hid (HC.out.below hB)
  clear hB HB0
  go_wp2_with fail
  rcases hq : right e s q f i c d with _ | _
  · obtain ⟨wm, hmk, hm, hBm, hSm⟩ := make_V (t := 26) elemU8 (w := w1.drew) .i64 .i64 480 (by omega) (by omega)
    rw [rep_byteV] at hm
    rw [show w1.drew.heap.size = w1.heap.size by simp] at hmk hm
    have Hm := hid hm.bytes
    have HBm := hid (show Below w1.heap.size w1 wm from (Below.refl _ _).drew.trans (hBm.mono (by simp)))
    clear hm hBm hSm
    refine wp_region_noPanic ?_
    refine wp_region_held_drew (S := fun W => Below w1.heap.size w1 W) (by kernel_rfl) (Below.refl _ _).drew (fun hS => ?_)
    refine take_at (i := 0) (v := .agg (T).toArray) rfl (by kernel_rfl) (by kernel_rfl) (by kernel_rfl) (fun _ _ _ h => h) hS (by rfl) ?haz ?raz
    case haz => (intro W hSW; exact exec_load_V (.tmp 2) rfl w.heap.size rfl (T) _ (HA.out.below hSW) Try.underlying25 rfl hlT.out)
    try simp only [Act.put, List.setIfInBounds_toArray, List.set_cons_zero, List.set_cons_succ]
    refine ready_at (i := 1) rfl (by kernel_rfl) (fun K hK => ?_)
    refine step_make_run hmk rfl rfl rfl rfl ?_
    refine hK.out _ _ HBm.out (fun hS => ?_)
    clear hK K
    try simp only [Act.put, List.setIfInBounds_toArray, List.set_cons_zero, List.set_cons_succ]
    refine ready_at (i := 2) rfl (by kernel_rfl) (fun K hK => ?_)
    go_simp
    rw [HT.out, show (tagL e s q f i c d).toArray = tagV e s q f i c d from rfl]
    refine (encode_no e s q f i c d 480 (.inl hq) _ _ _).mono ?_
    rintro x w2 ⟨rfl, hB⟩
    have HBew2 := hid (show Below w1.heap.size w1 w2 from HBm.out.trans (hB.mono HBm.out.size))
    clear hB
    go_wp2_with fail
    refine hK.out _ _ HBew2.out (fun hS => ?_)
    clear hK K
    try simp only [Act.put, List.setIfInBounds_toArray, List.set_cons_zero, List.set_cons_succ]
    refine take_at (i := 3) (v := ?va3) rfl (by kernel_rfl) (by kernel_rfl) (by kernel_rfl) (fun _ _ _ h => h) hS (by rfl) ?ha3 ?ra3
    case ha3 => (intro W hSW; (try dsimp only at hSW); go_simp; (try with_reducible rfl))
    try simp only [Act.put, List.setIfInBounds_toArray, List.set_cons_zero, List.set_cons_succ]
    refine take_at (i := 4) (v := ?va4) rfl (by kernel_rfl) (by kernel_rfl) (by kernel_rfl) (fun _ _ _ h => h) hS (by rfl) ?ha4 ?ra4
    case ha4 => (intro W hSW; (try dsimp only at hSW); go_simp; (try with_reducible rfl))
    try simp only [Act.put, List.setIfInBounds_toArray, List.set_cons_zero, List.set_cons_succ]
    refine take_at (i := 5) (v := ?va5) rfl (by kernel_rfl) (by kernel_rfl) (by kernel_rfl) (fun _ _ _ h => h) hS (by rfl) ?ha5 ?ra5
    case ha5 => (intro W hSW; (try dsimp only at hSW); go_simp; (try with_reducible rfl))
    try simp only [Act.put, List.setIfInBounds_toArray, List.set_cons_zero, List.set_cons_succ]
    refine ready_at (i := 6) rfl (by kernel_rfl) (fun K hK => ?_)
    go_simp
    refine hK.out _ _ hS (fun hS => ?_)
    clear hK K
    try simp only [Act.put, List.setIfInBounds_toArray, List.set_cons_zero, List.set_cons_succ]
    refine ready_at (i := 7) rfl (by kernel_rfl) (fun K hK => ?_)
    go_simp
    refine hK.out _ _ hS (fun hS => ?_)
    clear hK K
    try simp only [Act.put, List.setIfInBounds_toArray, List.set_cons_zero, List.set_cons_succ]
    refine wpAnyH_done (by kernel_rfl) ?_ _
    refine NoPanic.normal ?_
    replace HC := hid (HC.out.below HBew2.out)
    have HB2 := hid (HB1.out.trans (HBew2.out.mono HB1.out.size))
    clear hmk Hm HBm
    go_wp2_with fail
    rcases hq' : right e' s' q' f' i' c' d' with _ | _
    · obtain ⟨wm, hmk, hm, hBm, hSm⟩ := make_V (t := 26) elemU8 (w := w2.drew) .i64 .i64 480 (by omega) (by omega)
      rw [rep_byteV] at hm
      rw [show w2.drew.heap.size = w2.heap.size by simp] at hmk hm
      have Hm := hid hm.bytes
      have HBm := hid (show Below w2.heap.size w2 wm from (Below.refl _ _).drew.trans (hBm.mono (by simp)))
      clear hm hBm hSm
      refine wp_region_noPanic ?_
      refine wp_region_held_drew (S := fun W => Below w2.heap.size w2 W) (by kernel_rfl) (Below.refl _ _).drew (fun hS => ?_)
      refine take_at (i := 0) (v := .agg (T').toArray) rfl (by kernel_rfl) (by kernel_rfl) (by kernel_rfl) (fun _ _ _ h => h) hS (by rfl) ?hbz ?rbz
      case hbz => (intro W hSW; exact exec_load_V (.tmp 3) rfl (w.heap.size + 1) rfl (T') _ (HC.out.below hSW) Try.underlying25 rfl hlT'.out)
      try simp only [Act.put, List.setIfInBounds_toArray, List.set_cons_zero, List.set_cons_succ]
      refine ready_at (i := 1) rfl (by kernel_rfl) (fun K hK => ?_)
      refine step_make_run hmk rfl rfl rfl rfl ?_
      refine hK.out _ _ HBm.out (fun hS => ?_)
      clear hK K
      try simp only [Act.put, List.setIfInBounds_toArray, List.set_cons_zero, List.set_cons_succ]
      refine ready_at (i := 2) rfl (by kernel_rfl) (fun K hK => ?_)
      go_simp
      rw [HT'.out, show (tagL e' s' q' f' i' c' d').toArray = tagV e' s' q' f' i' c' d' from rfl]
      refine (encode_no e' s' q' f' i' c' d' 480 (.inl hq') _ _ _).mono ?_
      rintro x w3 ⟨rfl, hB⟩
      have HBew3 := hid (show Below w2.heap.size w2 w3 from HBm.out.trans (hB.mono HBm.out.size))
      clear hB
      go_wp2_with fail
      refine hK.out _ _ HBew3.out (fun hS => ?_)
      clear hK K
      try simp only [Act.put, List.setIfInBounds_toArray, List.set_cons_zero, List.set_cons_succ]
      refine take_at (i := 3) (v := ?vb3) rfl (by kernel_rfl) (by kernel_rfl) (by kernel_rfl) (fun _ _ _ h => h) hS (by rfl) ?hb3 ?rb3
      case hb3 => (intro W hSW; (try dsimp only at hSW); go_simp; (try with_reducible rfl))
      try simp only [Act.put, List.setIfInBounds_toArray, List.set_cons_zero, List.set_cons_succ]
      refine take_at (i := 4) (v := ?vb4) rfl (by kernel_rfl) (by kernel_rfl) (by kernel_rfl) (fun _ _ _ h => h) hS (by rfl) ?hb4 ?rb4
      case hb4 => (intro W hSW; (try dsimp only at hSW); go_simp; (try with_reducible rfl))
      try simp only [Act.put, List.setIfInBounds_toArray, List.set_cons_zero, List.set_cons_succ]
      refine take_at (i := 5) (v := ?vb5) rfl (by kernel_rfl) (by kernel_rfl) (by kernel_rfl) (fun _ _ _ h => h) hS (by rfl) ?hb5 ?rb5
      case hb5 => (intro W hSW; (try dsimp only at hSW); go_simp; (try with_reducible rfl))
      try simp only [Act.put, List.setIfInBounds_toArray, List.set_cons_zero, List.set_cons_succ]
      refine ready_at (i := 6) rfl (by kernel_rfl) (fun K hK => ?_)
      go_simp
      refine hK.out _ _ hS (fun hS => ?_)
      clear hK K
      try simp only [Act.put, List.setIfInBounds_toArray, List.set_cons_zero, List.set_cons_succ]
      refine ready_at (i := 7) rfl (by kernel_rfl) (fun K hK => ?_)
      go_simp
      refine hK.out _ _ hS (fun hS => ?_)
      clear hK K
      try simp only [Act.put, List.setIfInBounds_toArray, List.set_cons_zero, List.set_cons_succ]
      refine wpAnyH_done (by kernel_rfl) ?_ _
      refine NoPanic.normal ?_
      go_wp2
      go_ret
      exact ⟨rfl, HB2.out.trans (HBew3.out.mono HB2.out.size)⟩
    · obtain ⟨i', rfl⟩ : ∃ n : Nat, i' = (n : Int) := ⟨i'.toNat, by have := right_of hq'; omega⟩
      obtain ⟨c', rfl⟩ : ∃ n : Nat, c' = (n : Int) := ⟨c'.toNat, by have := right_of hq'; omega⟩
      obtain ⟨d', rfl⟩ : ∃ n : Nat, d' = (n : Int) := ⟨d'.toNat, by have := right_of hq'; omega⟩
      obtain ⟨wm, hmk, hm, hBm, hSm⟩ := make_V (t := 26) elemU8 (w := w2.drew) .i64 .i64 480 (by omega) (by omega)
      rw [rep_byteV] at hm
      rw [show w2.drew.heap.size = w2.heap.size by simp] at hmk hm
      have Hm := hid hm.bytes
      have HBm := hid (show Below w2.heap.size w2 wm from (Below.refl _ _).drew.trans (hBm.mono (by simp)))
      clear hm hBm hSm
      refine wp_region_noPanic ?_
      refine wp_region_held_drew (S := fun W => Below w2.heap.size w2 W) (by kernel_rfl) (Below.refl _ _).drew (fun hS => ?_)
      refine take_at (i := 0) (v := .agg (T').toArray) rfl (by kernel_rfl) (by kernel_rfl) (by kernel_rfl) (fun _ _ _ h => h) hS (by rfl) ?hcz ?rcz
      case hcz => (intro W hSW; exact exec_load_V (.tmp 3) rfl (w.heap.size + 1) rfl (T') _ (HC.out.below hSW) Try.underlying25 rfl hlT'.out)
      try simp only [Act.put, List.setIfInBounds_toArray, List.set_cons_zero, List.set_cons_succ]
      refine ready_at (i := 1) rfl (by kernel_rfl) (fun K hK => ?_)
      refine step_make_run hmk rfl rfl rfl rfl ?_
      refine hK.out _ _ HBm.out (fun hS => ?_)
      clear hK K
      try simp only [Act.put, List.setIfInBounds_toArray, List.set_cons_zero, List.set_cons_succ]
      refine ready_at (i := 2) rfl (by kernel_rfl) (fun K hK => ?_)
      go_simp
      rw [HT'.out, show (tagL e' s' q' f' i' c' d').toArray = tagV e' s' q' f' i' c' d' from rfl]
      refine (encode_yes e' s' q' f' i' c' d' he' hq' (List.replicate 480 0) (by rw [List.length_replicate]) _ _ _ Hm.out).mono ?_
      rintro x w3 ⟨gw3, rfl, hge, hE, hB⟩
      have HEw3 := hid hE
      have HBew3 := hid (show Below w2.heap.size w2 w3 from HBm.out.trans (hB.mono HBm.out.size))
      clear hB hE hge
      go_wp2_with fail
      refine hK.out _ _ HBew3.out (fun hS => ?_)
      clear hK K
      try simp only [Act.put, List.setIfInBounds_toArray, List.set_cons_zero, List.set_cons_succ]
      refine take_at (i := 3) (v := ?vc3) rfl (by kernel_rfl) (by kernel_rfl) (by kernel_rfl) (fun _ _ _ h => h) hS (by rfl) ?hc3 ?rc3
      case hc3 => (intro W hSW; (try dsimp only at hSW); go_simp; (try with_reducible rfl))
      try simp only [Act.put, List.setIfInBounds_toArray, List.set_cons_zero, List.set_cons_succ]
      refine take_at (i := 4) (v := ?vc4) rfl (by kernel_rfl) (by kernel_rfl) (by kernel_rfl) (fun _ _ _ h => h) hS (by rfl) ?hc4 ?rc4
      case hc4 => (intro W hSW; (try dsimp only at hSW); go_simp; (try with_reducible rfl))
      try simp only [Act.put, List.setIfInBounds_toArray, List.set_cons_zero, List.set_cons_succ]
      refine take_at (i := 5) (v := ?vc5) rfl (by kernel_rfl) (by kernel_rfl) (by kernel_rfl) (fun _ _ _ h => h) hS (by rfl) ?hc5 ?rc5
      case hc5 => (intro W hSW; (try dsimp only at hSW); go_simp; (try with_reducible rfl))
      try simp only [Act.put, List.setIfInBounds_toArray, List.set_cons_zero, List.set_cons_succ]
      refine ready_at (i := 6) rfl (by kernel_rfl) (fun K hK => ?_)
      go_simp
      refine hK.out _ _ hS (fun hS => ?_)
      clear hK K
      try simp only [Act.put, List.setIfInBounds_toArray, List.set_cons_zero, List.set_cons_succ]
      refine ready_at (i := 7) rfl (by kernel_rfl) (fun K hK => ?_)
      go_simp
      refine hK.out _ _ hS (fun hS => ?_)
      clear hK K
      try simp only [Act.put, List.setIfInBounds_toArray, List.set_cons_zero, List.set_cons_succ]
      refine wpAnyH_done (by kernel_rfl) ?_ _
      refine NoPanic.normal ?_
      go_wp2
      go_ret
      exact ⟨rfl, HB2.out.trans (HBew3.out.mono HB2.out.size)⟩
  · obtain ⟨i, rfl⟩ : ∃ n : Nat, i = (n : Int) := ⟨i.toNat, by have := right_of hq; omega⟩
    obtain ⟨c, rfl⟩ : ∃ n : Nat, c = (n : Int) := ⟨c.toNat, by have := right_of hq; omega⟩
    obtain ⟨d, rfl⟩ : ∃ n : Nat, d = (n : Int) := ⟨d.toNat, by have := right_of hq; omega⟩
    obtain ⟨wm, hmk, hm, hBm, hSm⟩ := make_V (t := 26) elemU8 (w := w1.drew) .i64 .i64 480 (by omega) (by omega)
    rw [rep_byteV] at hm
    rw [show w1.drew.heap.size = w1.heap.size by simp] at hmk hm
    have Hm := hid hm.bytes
    have HBm := hid (show Below w1.heap.size w1 wm from (Below.refl _ _).drew.trans (hBm.mono (by simp)))
    clear hm hBm hSm
    refine wp_region_noPanic ?_
    refine wp_region_held_drew (S := fun W => Below w1.heap.size w1 W) (by kernel_rfl) (Below.refl _ _).drew (fun hS => ?_)
    refine take_at (i := 0) (v := .agg (T).toArray) rfl (by kernel_rfl) (by kernel_rfl) (by kernel_rfl) (fun _ _ _ h => h) hS (by rfl) ?hdz ?rdz
    case hdz => (intro W hSW; exact exec_load_V (.tmp 2) rfl w.heap.size rfl (T) _ (HA.out.below hSW) Try.underlying25 rfl hlT.out)
    try simp only [Act.put, List.setIfInBounds_toArray, List.set_cons_zero, List.set_cons_succ]
    refine ready_at (i := 1) rfl (by kernel_rfl) (fun K hK => ?_)
    refine step_make_run hmk rfl rfl rfl rfl ?_
    refine hK.out _ _ HBm.out (fun hS => ?_)
    clear hK K
    try simp only [Act.put, List.setIfInBounds_toArray, List.set_cons_zero, List.set_cons_succ]
    refine ready_at (i := 2) rfl (by kernel_rfl) (fun K hK => ?_)
    go_simp
    rw [HT.out, show (tagL e s q f i c d).toArray = tagV e s q f i c d from rfl]
    refine (encode_yes e s q f i c d he hq (List.replicate 480 0) (by rw [List.length_replicate]) _ _ _ Hm.out).mono ?_
    rintro x w2 ⟨gw2, rfl, hge, hE, hB⟩
    have HEw2 := hid hE
    have HBew2 := hid (show Below w1.heap.size w1 w2 from HBm.out.trans (hB.mono HBm.out.size))
    clear hB hE hge
    go_wp2_with fail
    refine hK.out _ _ HBew2.out (fun hS => ?_)
    clear hK K
    try simp only [Act.put, List.setIfInBounds_toArray, List.set_cons_zero, List.set_cons_succ]
    refine take_at (i := 3) (v := ?vd3) rfl (by kernel_rfl) (by kernel_rfl) (by kernel_rfl) (fun _ _ _ h => h) hS (by rfl) ?hd3 ?rd3
    case hd3 => (intro W hSW; (try dsimp only at hSW); go_simp; (try with_reducible rfl))
    try simp only [Act.put, List.setIfInBounds_toArray, List.set_cons_zero, List.set_cons_succ]
    refine take_at (i := 4) (v := ?vd4) rfl (by kernel_rfl) (by kernel_rfl) (by kernel_rfl) (fun _ _ _ h => h) hS (by rfl) ?hd4 ?rd4
    case hd4 => (intro W hSW; (try dsimp only at hSW); go_simp; (try with_reducible rfl))
    try simp only [Act.put, List.setIfInBounds_toArray, List.set_cons_zero, List.set_cons_succ]
    refine take_at (i := 5) (v := ?vd5) rfl (by kernel_rfl) (by kernel_rfl) (by kernel_rfl) (fun _ _ _ h => h) hS (by rfl) ?hd5 ?rd5
    case hd5 => (intro W hSW; (try dsimp only at hSW); go_simp; (try with_reducible rfl))
    try simp only [Act.put, List.setIfInBounds_toArray, List.set_cons_zero, List.set_cons_succ]
    refine ready_at (i := 6) rfl (by kernel_rfl) (fun K hK => ?_)
    go_simp
    refine hK.out _ _ hS (fun hS => ?_)
    clear hK K
    try simp only [Act.put, List.setIfInBounds_toArray, List.set_cons_zero, List.set_cons_succ]
    refine ready_at (i := 7) rfl (by kernel_rfl) (fun K hK => ?_)
    go_simp
    refine hK.out _ _ hS (fun hS => ?_)
    clear hK K
    try simp only [Act.put, List.setIfInBounds_toArray, List.set_cons_zero, List.set_cons_succ]
    refine wpAnyH_done (by kernel_rfl) ?_ _
    refine NoPanic.normal ?_
    replace HA := hid (HA.out.below HBew2.out)
    replace HC := hid (HC.out.below HBew2.out)
    have HB2 := hid (HB1.out.trans (HBew2.out.mono HB1.out.size))
    clear hmk Hm HBm
    go_wp2_with fail
    rcases hq' : right e' s' q' f' i' c' d' with _ | _
    · obtain ⟨wm, hmk, hm, hBm, hSm⟩ := make_V (t := 26) elemU8 (w := w2.drew) .i64 .i64 480 (by omega) (by omega)
      rw [rep_byteV] at hm
      rw [show w2.drew.heap.size = w2.heap.size by simp] at hmk hm
      have Hm := hid hm.bytes
      have HBm := hid (show Below w2.heap.size w2 wm from (Below.refl _ _).drew.trans (hBm.mono (by simp)))
      clear hm hBm hSm
      refine wp_region_noPanic ?_
      refine wp_region_held_drew (S := fun W => Below w2.heap.size w2 W) (by kernel_rfl) (Below.refl _ _).drew (fun hS => ?_)
      refine take_at (i := 0) (v := .agg (T').toArray) rfl (by kernel_rfl) (by kernel_rfl) (by kernel_rfl) (fun _ _ _ h => h) hS (by rfl) ?hez ?rez
      case hez => (intro W hSW; exact exec_load_V (.tmp 3) rfl (w.heap.size + 1) rfl (T') _ (HC.out.below hSW) Try.underlying25 rfl hlT'.out)
      try simp only [Act.put, List.setIfInBounds_toArray, List.set_cons_zero, List.set_cons_succ]
      refine ready_at (i := 1) rfl (by kernel_rfl) (fun K hK => ?_)
      refine step_make_run hmk rfl rfl rfl rfl ?_
      refine hK.out _ _ HBm.out (fun hS => ?_)
      clear hK K
      try simp only [Act.put, List.setIfInBounds_toArray, List.set_cons_zero, List.set_cons_succ]
      refine ready_at (i := 2) rfl (by kernel_rfl) (fun K hK => ?_)
      go_simp
      rw [HT'.out, show (tagL e' s' q' f' i' c' d').toArray = tagV e' s' q' f' i' c' d' from rfl]
      refine (encode_no e' s' q' f' i' c' d' 480 (.inl hq') _ _ _).mono ?_
      rintro x w3 ⟨rfl, hB⟩
      have HBew3 := hid (show Below w2.heap.size w2 w3 from HBm.out.trans (hB.mono HBm.out.size))
      clear hB
      go_wp2_with fail
      refine hK.out _ _ HBew3.out (fun hS => ?_)
      clear hK K
      try simp only [Act.put, List.setIfInBounds_toArray, List.set_cons_zero, List.set_cons_succ]
      refine take_at (i := 3) (v := ?ve3) rfl (by kernel_rfl) (by kernel_rfl) (by kernel_rfl) (fun _ _ _ h => h) hS (by rfl) ?he3 ?re3
      case he3 => (intro W hSW; (try dsimp only at hSW); go_simp; (try with_reducible rfl))
      try simp only [Act.put, List.setIfInBounds_toArray, List.set_cons_zero, List.set_cons_succ]
      refine take_at (i := 4) (v := ?ve4) rfl (by kernel_rfl) (by kernel_rfl) (by kernel_rfl) (fun _ _ _ h => h) hS (by rfl) ?he4 ?re4
      case he4 => (intro W hSW; (try dsimp only at hSW); go_simp; (try with_reducible rfl))
      try simp only [Act.put, List.setIfInBounds_toArray, List.set_cons_zero, List.set_cons_succ]
      refine take_at (i := 5) (v := ?ve5) rfl (by kernel_rfl) (by kernel_rfl) (by kernel_rfl) (fun _ _ _ h => h) hS (by rfl) ?he5 ?re5
      case he5 => (intro W hSW; (try dsimp only at hSW); go_simp; (try with_reducible rfl))
      try simp only [Act.put, List.setIfInBounds_toArray, List.set_cons_zero, List.set_cons_succ]
      refine ready_at (i := 6) rfl (by kernel_rfl) (fun K hK => ?_)
      go_simp
      refine hK.out _ _ hS (fun hS => ?_)
      clear hK K
      try simp only [Act.put, List.setIfInBounds_toArray, List.set_cons_zero, List.set_cons_succ]
      refine ready_at (i := 7) rfl (by kernel_rfl) (fun K hK => ?_)
      go_simp
      refine hK.out _ _ hS (fun hS => ?_)
      clear hK K
      try simp only [Act.put, List.setIfInBounds_toArray, List.set_cons_zero, List.set_cons_succ]
      refine wpAnyH_done (by kernel_rfl) ?_ _
      refine NoPanic.normal ?_
      go_wp2
      go_ret
      exact ⟨rfl, HB2.out.trans (HBew3.out.mono HB2.out.size)⟩
    · obtain ⟨i', rfl⟩ : ∃ n : Nat, i' = (n : Int) := ⟨i'.toNat, by have := right_of hq'; omega⟩
      obtain ⟨c', rfl⟩ : ∃ n : Nat, c' = (n : Int) := ⟨c'.toNat, by have := right_of hq'; omega⟩
      obtain ⟨d', rfl⟩ : ∃ n : Nat, d' = (n : Int) := ⟨d'.toNat, by have := right_of hq'; omega⟩
      obtain ⟨wm, hmk, hm, hBm, hSm⟩ := make_V (t := 26) elemU8 (w := w2.drew) .i64 .i64 480 (by omega) (by omega)
      rw [rep_byteV] at hm
      rw [show w2.drew.heap.size = w2.heap.size by simp] at hmk hm
      have Hm := hid hm.bytes
      have HBm := hid (show Below w2.heap.size w2 wm from (Below.refl _ _).drew.trans (hBm.mono (by simp)))
      clear hm hBm hSm
      refine wp_region_noPanic ?_
      refine wp_region_held_drew (S := fun W => Below w2.heap.size w2 W) (by kernel_rfl) (Below.refl _ _).drew (fun hS => ?_)
      refine take_at (i := 0) (v := .agg (T').toArray) rfl (by kernel_rfl) (by kernel_rfl) (by kernel_rfl) (fun _ _ _ h => h) hS (by rfl) ?hfz ?rfz
      case hfz => (intro W hSW; exact exec_load_V (.tmp 3) rfl (w.heap.size + 1) rfl (T') _ (HC.out.below hSW) Try.underlying25 rfl hlT'.out)
      try simp only [Act.put, List.setIfInBounds_toArray, List.set_cons_zero, List.set_cons_succ]
      refine ready_at (i := 1) rfl (by kernel_rfl) (fun K hK => ?_)
      refine step_make_run hmk rfl rfl rfl rfl ?_
      refine hK.out _ _ HBm.out (fun hS => ?_)
      clear hK K
      try simp only [Act.put, List.setIfInBounds_toArray, List.set_cons_zero, List.set_cons_succ]
      refine ready_at (i := 2) rfl (by kernel_rfl) (fun K hK => ?_)
      go_simp
      rw [HT'.out, show (tagL e' s' q' f' i' c' d').toArray = tagV e' s' q' f' i' c' d' from rfl]
      refine (encode_yes e' s' q' f' i' c' d' he' hq' (List.replicate 480 0) (by rw [List.length_replicate]) _ _ _ Hm.out).mono ?_
      rintro x w3 ⟨gw3, rfl, hge, hE, hB⟩
      have HEw3 := hid hE
      have HBew3 := hid (show Below w2.heap.size w2 w3 from HBm.out.trans (hB.mono HBm.out.size))
      clear hB hE hge
      go_wp2_with fail
      refine hK.out _ _ HBew3.out (fun hS => ?_)
      clear hK K
      try simp only [Act.put, List.setIfInBounds_toArray, List.set_cons_zero, List.set_cons_succ]
      refine take_at (i := 3) (v := ?vf3) rfl (by kernel_rfl) (by kernel_rfl) (by kernel_rfl) (fun _ _ _ h => h) hS (by rfl) ?hf3 ?rf3
      case hf3 => (intro W hSW; (try dsimp only at hSW); go_simp; (try with_reducible rfl))
      try simp only [Act.put, List.setIfInBounds_toArray, List.set_cons_zero, List.set_cons_succ]
      refine take_at (i := 4) (v := ?vf4) rfl (by kernel_rfl) (by kernel_rfl) (by kernel_rfl) (fun _ _ _ h => h) hS (by rfl) ?hf4 ?rf4
      case hf4 => (intro W hSW; (try dsimp only at hSW); go_simp; (try with_reducible rfl))
      try simp only [Act.put, List.setIfInBounds_toArray, List.set_cons_zero, List.set_cons_succ]
      refine take_at (i := 5) (v := ?vf5) rfl (by kernel_rfl) (by kernel_rfl) (by kernel_rfl) (fun _ _ _ h => h) hS (by rfl) ?hf5 ?rf5
      case hf5 => (intro W hSW; (try dsimp only at hSW); go_simp; (try with_reducible rfl))
      try simp only [Act.put, List.setIfInBounds_toArray, List.set_cons_zero, List.set_cons_succ]
      refine ready_at (i := 6) rfl (by kernel_rfl) (fun K hK => ?_)
      go_simp
      refine hK.out _ _ hS (fun hS => ?_)
      clear hK K
      try simp only [Act.put, List.setIfInBounds_toArray, List.set_cons_zero, List.set_cons_succ]
      refine ready_at (i := 7) rfl (by kernel_rfl) (fun K hK => ?_)
      go_simp
      refine hK.out _ _ hS (fun hS => ?_)
      clear hK K
      try simp only [Act.put, List.setIfInBounds_toArray, List.set_cons_zero, List.set_cons_succ]
      refine wpAnyH_done (by kernel_rfl) ?_ _
      refine NoPanic.normal ?_
      replace HA := hid (HA.out.below HBew3.out)
      replace HC := hid (HC.out.below HBew3.out)
      have HB3 := hid (HB2.out.trans (HBew3.out.mono HB2.out.size))
      have Hx := hid (HEw2.out.below HBew3.out).bytes
      have Hy := hid HEw3.out.bytes
      have Hinj := hid (head_inj he he' hq hq')
      have hl1 := hid (show (head e s q f i c d ++ List.replicate 480 0).length = 512 by rw [List.length_append, head_length, List.length_replicate])
      have hl2 := hid (show (head e' s' q' f' i' c' d' ++ List.replicate 480 0).length = 512 by rw [List.length_append, head_length, List.length_replicate])
      obtain ⟨X, hX⟩ : ∃ X, X = head e s q f i c d ++ List.replicate 480 0 := ⟨_, rfl⟩
      obtain ⟨Y, hY⟩ : ∃ Y, Y = head e' s' q' f' i' c' d' ++ List.replicate 480 0 := ⟨_, rfl⟩
      rw [← hX] at Hx hl1
      rw [← hY] at Hy hl2
      have Hz := hid (show decide (X = Y) = decide (e = e' ∧ s = s' ∧ q = q' ∧ f = f' ∧ (i : Int) = i' ∧ (c : Int) = c' ∧ (d : Int) = d') by
        rw [hX, hY]
        have h1 : (head e s q f i c d ++ List.replicate 480 0 = head e' s' q' f' i' c' d' ++ List.replicate 480 0) ↔ head e s q f i c d = head e' s' q' f' i' c' d' := ⟨fun h => (List.append_inj h (by rw [head_length, head_length])).1, fun h => by rw [h]⟩
        rw [Bool.eq_iff_iff, decide_eq_true_iff, decide_eq_true_iff, h1, Hinj.out]
        constructor
        · rintro ⟨r1, r2, r3, r4, r5, r6, r7⟩
          exact ⟨r1, r2, r3, r4, by omega, by omega, by omega⟩
        · rintro ⟨r1, r2, r3, r4, r5, r6, r7⟩
          exact ⟨r1, r2, r3, r4, by omega, by omega, by omega⟩)
      clear hX hY hmk hq hq' HEw2 HEw3
      have hs1 := fun (W : World) (h : Below w3.heap.size w3 W) => str_any (c := 512) hl1.out (Hx.out.below h)
      have hs2 := fun (W : World) (h : Below w3.heap.size w3 W) => str_any (c := 512) hl2.out (Hy.out.below h)
      have Heq := hid (fun (W : World) => show (Op.equalIn 10000 25 (.agg T.toArray) (.agg T'.toArray)).run Try.prog W = .ok (decide (X = Y)) W by rw [HT.out, HT'.out, Hz.out]; exact eq_tag e s q f i c d e' s' q' f' i' c' d' W)
      go_wp2_with fail
      refine wp_region_noPanic ?_
      refine wp_region_held_drew (S := fun W => Below w3.heap.size w3 W) (by kernel_rfl) (Below.refl _ _).drew (fun hS => ?_)
      refine take_at (i := 0) (v := ?vq0) rfl (by kernel_rfl) (by kernel_rfl) (by kernel_rfl) (fun _ _ _ h => h) hS (by rfl) ?hq0 ?rq0
      case hq0 => (intro W hSW; (try dsimp only at hSW); go_simp; (try with_reducible rfl))
      try simp only [Act.put, List.setIfInBounds_toArray, List.set_cons_zero, List.set_cons_succ]
      refine take_at (i := 1) (v := ?vq1) rfl (by kernel_rfl) (by kernel_rfl) (by kernel_rfl) (fun _ _ _ h => h) hS (by rfl) ?hq1 ?rq1
      case hq1 => (intro W hSW; (try dsimp only at hSW); go_simp; (try with_reducible rfl))
      try simp only [Act.put, List.setIfInBounds_toArray, List.set_cons_zero, List.set_cons_succ]
      refine take_at (i := 2) (v := ?vq2) rfl (by kernel_rfl) (by kernel_rfl) (by kernel_rfl) (fun _ _ _ h => h) hS (by rfl) ?hq2 ?rq2
      case hq2 => (intro W hSW; (try dsimp only at hSW); go_simp; (try with_reducible rfl))
      try simp only [Act.put, List.setIfInBounds_toArray, List.set_cons_zero, List.set_cons_succ]
      refine take_at (i := 3) (v := ?vq3) rfl (by kernel_rfl) (by kernel_rfl) (by kernel_rfl) (fun _ _ _ h => h) hS (by rfl) ?hq3 ?rq3
      case hq3 => (intro W hSW; (try dsimp only at hSW); go_simp; (try with_reducible rfl))
      try simp only [Act.put, List.setIfInBounds_toArray, List.set_cons_zero, List.set_cons_succ]
      refine take_at (i := 4) (v := ?vq4) rfl (by kernel_rfl) (by kernel_rfl) (by kernel_rfl) (fun _ _ _ h => h) hS (by rfl) ?hq4 ?rq4
      case hq4 => (intro W hSW; (try dsimp only at hSW); go_simp; (try with_reducible rfl))
      try simp only [Act.put, List.setIfInBounds_toArray, List.set_cons_zero, List.set_cons_succ]
      refine take_at (i := 5) (v := ?vq5) rfl (by kernel_rfl) (by kernel_rfl) (by kernel_rfl) (fun _ _ _ h => h) hS (by rfl) ?hq5 ?rq5
      case hq5 => (intro W hSW; (try dsimp only at hSW); go_simp; (try with_reducible rfl))
      try simp only [Act.put, List.setIfInBounds_toArray, List.set_cons_zero, List.set_cons_succ]
      refine take_at (i := 6) (v := ?vq6) rfl (by kernel_rfl) (by kernel_rfl) (by kernel_rfl) (fun _ _ _ h => h) hS (by rfl) ?hq6 ?rq6
      case hq6 => (intro W hSW; (try dsimp only at hSW); go_simp; (try with_reducible rfl))
      try simp only [Act.put, List.setIfInBounds_toArray, List.set_cons_zero, List.set_cons_succ]
      refine take_at (i := 7) (v := .agg T.toArray) rfl (by kernel_rfl) (by kernel_rfl) (by kernel_rfl) (fun _ _ _ h => h) hS (by rfl) ?hq7 ?rq7
      case hq7 => (intro W hSW; (try dsimp only at hSW); exact exec_load_V (.tmp 2) rfl w.heap.size rfl T _ (HA.out.below hSW) Try.underlying25 rfl hlT.out)
      try simp only [Act.put, List.setIfInBounds_toArray, List.set_cons_zero, List.set_cons_succ]
      refine take_at (i := 8) (v := .agg T'.toArray) rfl (by kernel_rfl) (by kernel_rfl) (by kernel_rfl) (fun _ _ _ h => h) hS (by rfl) ?hq8 ?rq8
      case hq8 => (intro W hSW; (try dsimp only at hSW); exact exec_load_V (.tmp 3) rfl (w.heap.size + 1) rfl T' _ (HC.out.below hSW) Try.underlying25 rfl hlT'.out)
      try simp only [Act.put, List.setIfInBounds_toArray, List.set_cons_zero, List.set_cons_succ]
      refine take_at (i := 9) (v := .bool (decide (X = Y))) rfl (by kernel_rfl) (by kernel_rfl) (by kernel_rfl) (fun _ _ _ h => h) hS (by rfl) ?hq9 ?rq9
      case hq9 => (intro W hSW; (try dsimp only at hSW); exact exec_eql (.tmp 37) (.tmp 38) rfl rfl rfl guard25 (Heq.out W))
      try simp only [Act.put, List.setIfInBounds_toArray, List.set_cons_zero, List.set_cons_succ]
      refine take_at (i := 10) (v := ?vq10) rfl (by kernel_rfl) (by kernel_rfl) (by kernel_rfl) (fun _ _ _ h => h) hS (by rfl) ?hq10 ?rq10
      case hq10 => (intro W hSW; (try dsimp only at hSW); go_simp; (try with_reducible rfl))
      try simp only [Act.put, List.setIfInBounds_toArray, List.set_cons_zero, List.set_cons_succ]
      refine take_at (i := 11) (v := ?vq11) rfl (by kernel_rfl) (by kernel_rfl) (by kernel_rfl) (fun _ _ _ h => h) hS (by rfl) ?hq11 ?rq11
      case hq11 => (intro W hSW; (try dsimp only at hSW); go_simp; (try with_reducible rfl))
      try simp only [Act.put, List.setIfInBounds_toArray, List.set_cons_zero, List.set_cons_succ]
      refine ready_at (i := 12) rfl (by kernel_rfl) (fun K hK => ?_)
      go_simp
      refine hK.out _ _ hS (fun hS => ?_)
      clear hK K
      try simp only [Act.put, List.setIfInBounds_toArray, List.set_cons_zero, List.set_cons_succ]
      refine wpAnyH_done (by kernel_rfl) ?_ _
      refine NoPanic.normal ?_
      go_wp2
      go_ret
      exact ⟨ret_bool (by rw [show (X == Y) = decide (X = Y) from by rw [Bool.eq_iff_iff]; simp]; simp), HB3.out.drew⟩
end Go.Proofs.Ytmfncpifalnggaa
