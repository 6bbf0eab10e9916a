/- The walk of TagShape. -/
import Derived.Test.YtmfncpifalnggaaShown
import Derived.Test.YtmfncpifalnggaaTagR2
import Derived.Test.YtmfncpifalnggaaTagB
namespace Go.Proofs.Ytmfncpifalnggaa
open Go.RowKit O
set_option linter.unusedVariables false

theorem nb_rev (X : List UInt8) (L k : Nat) (hk : k < 6) (h : L + 6 ≤ X.length) : nb X (L + k) (6 - k) = (X[L + k]'(by omega)).toNat + 256 * nb X (L + (k + 1)) (6 - (k + 1)) := by
  unfold nb
  rw [List.drop_eq_getElem_cons (show L + k < X.length by omega), show 6 - k = (6 - (k + 1)) + 1 by omega, List.take_succ_cons]
  rfl
theorem nb_lt6 (X : List UInt8) (L k : Nat) : nb X (L + (k + 1)) (6 - (k + 1)) < 1099511627776 := by
  have h1 := num_bnd X (L + (k + 1)) (6 - (k + 1))
  exact Nat.lt_of_lt_of_le h1 (Nat.le_trans (Nat.pow_le_pow_right (by omega) (show 6 - (k + 1) ≤ 5 by omega)) (by decide))
theorem wrap6 (v : Nat) (c : UInt8) (hv : v < 1099511627776) : IntKind.u64.wrap (IntKind.u64.wrap ((v : Int) * 256) + IntKind.u64.wrap (n8 c)) = ((c.toNat + 256 * v : Nat) : Int) := by
  have := c.toNat_lt
  rw [IntKind.wrap_u64, IntKind.wrap_u64, IntKind.wrap_u64]
  unfold n8
  omega
theorem head_get {e s q f i c d : Nat} (l : List UInt8) (k : Nat) (x : UInt8) (h : (head e s q f i c d)[k]? = some x) : (head e s q f i c d ++ l)[k]? = some x := by
  obtain ⟨hk, rfl⟩ := List.getElem?_eq_some_iff.1 h
  rw [List.getElem?_append_left hk, List.getElem?_eq_getElem hk]
theorem of_byte (x : Nat) : n8 (UInt8.ofNat x) = ((x % 256 : Nat) : Int) := by
  unfold n8
  rw [UInt8.toNat_ofNat']

set_option maxHeartbeats 8000000 in
set_option maxRecDepth 20000 in
theorem walk_TagShape (w : World) (e s q f : Nat) (i c d : Int) (he : e < 4294967296) (hb : s < 18446744073709551616 ∧ q < 18446744073709551616 ∧ f < 18446744073709551616) (hi : -9223372036854775808 ≤ i ∧ i ≤ 9223372036854775807) (hc : -9223372036854775808 ≤ c ∧ c ≤ 9223372036854775807) (hd : -9223372036854775808 ≤ d ∧ d ≤ 9223372036854775807)
    (a : Option Addr) (l : List UInt8) (c0 : Nat) (hbl : IsBytes w a l) (hlc : l.length ≤ c0) (hcm : c0 ≤ maxLen) :
    Calls Try.prog 7 #[.agg (tagV e s q f i c d), .slice a l.length c0] w fun x w' => x = .returned (.bool true) ∧ Below w.heap.size w w' := by
  obtain ⟨n, hn⟩ : ∃ n, n = l.length := ⟨_, rfl⟩
  rw [← hn]
  have Hn := hid hn
  clear hn
  have Hbl := hid hbl
  clear hb hi hc hd hlc hcm hbl
  obtain ⟨w0, hw0⟩ : ∃ w0, w0 = w.alloc (.cells (tagL e s q f i c d).toArray 25) := ⟨_, rfl⟩
  have HB0 := hid (show Below w.heap.size w w0 by rw [hw0]; exact below1 _ _)
  have HT := hid (show IsV w0 w.heap.size 25 (tagL e s q f i c d) by rw [hw0]; exact IsV.new w _ _)
  obtain ⟨T, hT⟩ : ∃ T, T = tagL e s q f i c d := ⟨_, rfl⟩
  have HTV := hid (show T.toArray = tagV e s q f i c d by rw [hT]; rfl)
  rw [← HTV.out]
  rw [← hT] at HT hw0
  have HTL := hid hT
  have hlT := hid (show (Try.prog.info? 25).map (·.size) = some T.length by rw [hT]; exact size25)
  clear hT
  go_enter Try.func7, Try.ntmps7
  go_wp2_with fail
  rw [← hw0]
  clear hw0
  refine (shown_any _).mono ?_
  rintro x w1 ⟨rfl, hB⟩
  have HB1 := hid (HB0.out.trans (hB.mono HB0.out.size))
  have HT1 := hid (HT.out.below hB)
  have Hbl1 := hid (Hbl.out.below HB1.out)
  clear hB HB0 HT Hbl
  go_wp2_with (refine wpList_load_V (.tmp 2) rfl w.heap.size rfl T _ HT1.out Try.underlying25 rfl hlT.out (by rfl) ?_)
  rw [HTV.out]
  by_cases hgood : right e s q f i c d = true ∧ n = 480
  case neg =>
    have hbad : right e s q f i c d = false ∨ n ≠ 480 := by
      by_cases h1 : n = 480
      · left
        cases h2 : right e s q f i c d with
        | false => rfl
        | true => exact absurd ⟨h2, h1⟩ hgood
      · exact .inr h1
    refine (encode_no e s q f i c d n hbad _ _ _).mono ?_
    rintro x w2 ⟨rfl, hB⟩
    rw [← HTV.out]
    have HB2 := hid (HB1.out.trans (hB.mono HB1.out.size))
    clear hB hbad hgood
    go_wp2
    go_ret
    exact ⟨rfl, HB2.out⟩
  obtain ⟨hr, rfl⟩ := hgood
  obtain ⟨i, c, d, rfl, rfl, rfl⟩ := nat_of_right hr
  have hln : l.length = 480 := Hn.out.symm
  have Hln := hid hln
  refine (encode_yes e s q f i c d he hr l hln _ _ _ Hbl1.out).mono ?_
  rintro x w2 ⟨g, rfl, hge, hE, hB⟩
  rw [← HTV.out]
  obtain ⟨X, hX⟩ : ∃ X, X = head e s q f i c d ++ l := ⟨_, rfl⟩
  rw [← hX] at hE
  have HXl := hid (show X.length = 512 by rw [hX, List.length_append, head_length, hln])
  have HB2 := hid (HB1.out.trans (hB.mono HB1.out.size))
  have HT2 := hid (HT1.out.below hB)
  have Hbl2 := hid (Hbl1.out.below hB)
  have HE2 := hid hE
  have Hby := hid hE.bytes
  obtain ⟨-, b1, b2, b3, b4, b5, b6, b7, b8, b9, ba⟩ := right_of hr
  obtain ⟨f1, f4, f2, f3, f5, f6, f7⟩ := back_fn he hr l
  rw [← hX] at f1 f2 f3 f4
  have Hq := hid (show nb X 8 6 = q from f2)
  have Hf := hid (show nb X 14 6 = f from f3)
  have Hs := hid (show nb X 20 6 = s from f4)
  have hcell := fun (k : Nat) (x : UInt8) (h : (head e s q f i c d)[k]? = some x) (W : World) (hW : Below w2.heap.size w2 W) => show W.cell? ⟨g, k, none⟩ = some (.int .u8 (n8 x)) from by
    rw [(hE.below hW).cell, List.getElem?_map, hX, head_get l k x h]
    rfl
  obtain ⟨e0, e1, e2, e3, he0, he1, he2, he3, hes⟩ : ∃ e0 e1 e2 e3 : Nat, e0 = e % 256 ∧ e1 = e / 256 % 256 ∧ e2 = e / 256 / 256 % 256 ∧ e3 = e / 256 / 256 / 256 % 256 ∧ e0 + e1 * 256 + e2 * 65536 + e3 * 16777216 = e := ⟨_, _, _, _, rfl, rfl, rfl, rfl, by omega⟩
  have k4 : ∀ W, Below w2.heap.size w2 W → W.cell? ⟨g, 4, none⟩ = some (.int .u8 (e0 : Int)) := fun W h => by rw [hcell 4 _ rfl W h, of_byte, he0]
  have k5 : ∀ W, Below w2.heap.size w2 W → W.cell? ⟨g, 5, none⟩ = some (.int .u8 (e1 : Int)) := fun W h => by rw [hcell 5 _ rfl W h, of_byte, he1]
  have k6 : ∀ W, Below w2.heap.size w2 W → W.cell? ⟨g, 6, none⟩ = some (.int .u8 (e2 : Int)) := fun W h => by rw [hcell 6 _ rfl W h, of_byte, he2]
  have k7 : ∀ W, Below w2.heap.size w2 W → W.cell? ⟨g, 7, none⟩ = some (.int .u8 (e3 : Int)) := fun W h => by rw [hcell 7 _ rfl W h, of_byte, he3]
  have k26 : ∀ W, Below w2.heap.size w2 W → W.cell? ⟨g, 26, none⟩ = some (.int .u8 (i : Int)) := fun W h => by rw [hcell 26 _ rfl W h, of_byte, Nat.mod_eq_of_lt (by omega)]
  have k27 : ∀ W, Below w2.heap.size w2 W → W.cell? ⟨g, 27, none⟩ = some (.int .u8 (c : Int)) := fun W h => by rw [hcell 27 _ rfl W h, of_byte, Nat.mod_eq_of_lt (by omega)]
  obtain ⟨d0, d1, hd0, hd1, hds⟩ : ∃ d0 d1 : Nat, d0 = d % 256 ∧ d1 = d / 256 % 256 ∧ d0 + 256 * d1 = d := ⟨_, _, rfl, rfl, by omega⟩
  have k28 : ∀ W, Below w2.heap.size w2 W → W.cell? ⟨g, 28, none⟩ = some (.int .u8 (d0 : Int)) := fun W h => by rw [hcell 28 _ rfl W h, of_byte, hd0]
  have k29 : ∀ W, Below w2.heap.size w2 W → W.cell? ⟨g, 29, none⟩ = some (.int .u8 (d1 : Int)) := fun W h => by rw [hcell 29 _ rfl W h, of_byte, hd1]
  have t0 : ∀ W, Below w2.heap.size w2 W → W.cell? ⟨w.heap.size, 0, none⟩ = some (.int .u32 (e : Int)) := fun W h => by rw [(HT2.out.below h).cell, HTL.out]; rfl
  have t1 : ∀ W, Below w2.heap.size w2 W → W.cell? ⟨w.heap.size, 1, none⟩ = some (.int .u64 (s : Int)) := fun W h => by rw [(HT2.out.below h).cell, HTL.out]; rfl
  have t2 : ∀ W, Below w2.heap.size w2 W → W.cell? ⟨w.heap.size, 2, none⟩ = some (.int .u64 (q : Int)) := fun W h => by rw [(HT2.out.below h).cell, HTL.out]; rfl
  have t3 : ∀ W, Below w2.heap.size w2 W → W.cell? ⟨w.heap.size, 3, none⟩ = some (.int .u64 (f : Int)) := fun W h => by rw [(HT2.out.below h).cell, HTL.out]; rfl
  have t4 : ∀ W, Below w2.heap.size w2 W → W.cell? ⟨w.heap.size, 4, none⟩ = some (.int .i64 (i : Int)) := fun W h => by rw [(HT2.out.below h).cell, HTL.out]; rfl
  have t5 : ∀ W, Below w2.heap.size w2 W → W.cell? ⟨w.heap.size, 5, none⟩ = some (.int .i64 (c : Int)) := fun W h => by rw [(HT2.out.below h).cell, HTL.out]; rfl
  have t6 : ∀ W, Below w2.heap.size w2 W → W.cell? ⟨w.heap.size, 6, none⟩ = some (.int .i64 (d : Int)) := fun W h => by rw [(HT2.out.below h).cell, HTL.out]; rfl
  have Hk := hid (And.intro k4 (And.intro k5 (And.intro k6 (And.intro k7 (And.intro k26 (And.intro k27 (And.intro k28 k29)))))))
  have Ht := hid (And.intro t0 (And.intro t1 (And.intro t2 (And.intro t3 (And.intro t4 (And.intro t5 t6))))))
  obtain ⟨Z, hZ⟩ : ∃ Z, Z = [0, 0] ++ l := ⟨_, rfl⟩
  have HZ := hid hZ
  have hX4 : X.take 4 = [72, 82, 82, 87] := by
    rw [hX, List.take_append_of_le_length (by rw [head_length]; omega)]
    unfold head
    rw [List.take_append_of_le_length (by rw [le_length]; exact Nat.le_refl _), List.take_of_length_le (by rw [le_length]; exact Nat.le_refl _)]
    decide
  have hX30 : X.drop 30 = Z := by
    rw [hX, hZ]
    have h1 : head e s q f i c d ++ l = (le 4 1465012808 ++ (le 4 e ++ (le 6 q ++ (le 6 f ++ (le 6 s ++ (le 1 i ++ (le 1 c ++ le 2 d))))))) ++ ([0, 0] ++ l) := by
      unfold head
      rw [show ([0, 0] : List UInt8) = le 2 0 from by decide]
      simp only [List.append_assoc]
    rw [h1]
    have h2 : (le 4 1465012808 ++ (le 4 e ++ (le 6 q ++ (le 6 f ++ (le 6 s ++ (le 1 i ++ (le 1 c ++ le 2 d))))))).length = 30 := by simp [le_length]
    rw [← h2, List.drop_left]
  have hs1 := fun (W : World) (h : Below w2.heap.size w2 W) => str_any (n := 4) (c := 512) (l := [72, 82, 82, 87]) rfl (hX4 ▸ (Hby.out.below h).take 4)
  have hs2 := fun (W : World) (h : Below w2.heap.size w2 W) => str_any (n := 482) (c := 482) (l := Z) (by rw [hZ, List.length_append, hln]; rfl) (show IsBytes W (some ⟨g, 30, none⟩) Z from hX30 ▸ (by have := (Hby.out.below h).dropV 30; rwa [Nat.zero_add] at this))
  have hs3 := fun (W : World) (h : Below w2.heap.size w2 W) => str_any (c := c0) hln (Hbl2.out.below h)
  have Hes := hid hes
  have Hds := hid hds
  have Hebd := hid (show e0 < 256 ∧ e1 < 256 ∧ e2 < 256 ∧ e3 < 256 ∧ d0 < 256 ∧ d1 < 256 from ⟨by omega, by omega, by omega, by omega, by omega, by omega⟩)
  have Hic := hid (show i < 72 ∧ c ≤ 72 from ⟨by omega, by omega⟩)
  clear hr hX hE hge hB HB1 HT1 Hbl1 b1 b2 b3 b4 b5 b6 b7 b8 b9 ba f1 f2 f3 f4 f5 f6 f7 hcell he0 he1 he2 he3 hes hd0 hd1 hds k4 k5 k6 k7 k26 k27 k28 k29 t0 t1 t2 t3 t4 t5 t6 hZ hX4 hX30 hln
  go_wp2_with fail
  refine wp_region_noPanic ?_
  refine wp_region_held_drew (S := fun W => Below w2.heap.size w2 W) (by kernel_rfl) (Below.refl _ _).drew (fun hS => ?_)
  refine take_at (i := 0) (v := ?va0) rfl (by kernel_rfl) (by kernel_rfl) (by kernel_rfl) (fun _ _ _ h => h) hS (by rfl) ?ha0 ?ra0
  case ha0 => (intro W hSW; (try dsimp only at hSW); go_simp; (try with_reducible rfl))
  try simp only [Act.put, List.setIfInBounds_toArray, List.set_cons_zero, List.set_cons_succ]
  refine take_at (i := 1) (v := ?va1) rfl (by kernel_rfl) (by kernel_rfl) (by kernel_rfl) (fun _ _ _ h => h) hS (by rfl) ?ha1 ?ra1
  case ha1 => (intro W hSW; (try dsimp only at hSW); go_simp; (try with_reducible rfl))
  try simp only [Act.put, List.setIfInBounds_toArray, List.set_cons_zero, List.set_cons_succ]
  refine take_at (i := 2) (v := ?va2) rfl (by kernel_rfl) (by kernel_rfl) (by kernel_rfl) (fun _ _ _ h => h) hS (by rfl) ?ha2 ?ra2
  case ha2 => (intro W hSW; (try dsimp only at hSW); go_simp; (try with_reducible rfl))
  try simp only [Act.put, List.setIfInBounds_toArray, List.set_cons_zero, List.set_cons_succ]
  refine take_at (i := 3) (v := ?va3) rfl (by kernel_rfl) (by kernel_rfl) (by kernel_rfl) (fun _ _ _ h => h) hS (by rfl) ?ha3 ?ra3
  case ha3 => (intro W hSW; (try dsimp only at hSW); go_simp; (try with_reducible rfl))
  try simp only [Act.put, List.setIfInBounds_toArray, List.set_cons_zero, List.set_cons_succ]
  refine take_at (i := 4) (v := ?va4) rfl (by kernel_rfl) (by kernel_rfl) (by kernel_rfl) (fun _ _ _ h => h) hS (by rfl) ?ha4 ?ra4
  case ha4 => (intro W hSW; (try dsimp only at hSW); go_simp; (try with_reducible rfl))
  try simp only [Act.put, List.setIfInBounds_toArray, List.set_cons_zero, List.set_cons_succ]
  refine take_at (i := 5) (v := ?va5) rfl (by kernel_rfl) (by kernel_rfl) (by kernel_rfl) (fun _ _ _ h => h) hS (by rfl) ?ha5 ?ra5
  case ha5 => (intro W hSW; (try dsimp only at hSW); go_simp; (try with_reducible rfl))
  try simp only [Act.put, List.setIfInBounds_toArray, List.set_cons_zero, List.set_cons_succ]
  refine take_at (i := 6) (v := ?va6) rfl (by kernel_rfl) (by kernel_rfl) (by kernel_rfl) (fun _ _ _ h => h) hS (by rfl) ?ha6 ?ra6
  case ha6 => (intro W hSW; (try dsimp only at hSW); go_simp; (try with_reducible rfl))
  try simp only [Act.put, List.setIfInBounds_toArray, List.set_cons_zero, List.set_cons_succ]
  refine take_at (i := 7) (v := ?va7) rfl (by kernel_rfl) (by kernel_rfl) (by kernel_rfl) (fun _ _ _ h => h) hS (by rfl) ?ha7 ?ra7
  case ha7 => (intro W hSW; (try dsimp only at hSW); go_simp; (try with_reducible rfl))
  try simp only [Act.put, List.setIfInBounds_toArray, List.set_cons_zero, List.set_cons_succ]
  refine take_at (i := 8) (v := ?va8) rfl (by kernel_rfl) (by kernel_rfl) (by kernel_rfl) (fun _ _ _ h => h) hS (by rfl) ?ha8 ?ra8
  case ha8 => (intro W hSW; (try dsimp only at hSW); go_simp; (try with_reducible rfl))
  try simp only [Act.put, List.setIfInBounds_toArray, List.set_cons_zero, List.set_cons_succ]
  refine take_at (i := 9) (v := ?va9) rfl (by kernel_rfl) (by kernel_rfl) (by kernel_rfl) (fun _ _ _ h => h) hS (by rfl) ?ha9 ?ra9
  case ha9 => (intro W hSW; (try dsimp only at hSW); go_simp; (try with_reducible rfl))
  try simp only [Act.put, List.setIfInBounds_toArray, List.set_cons_zero, List.set_cons_succ]
  refine take_at (i := 10) (v := ?va10) rfl (by kernel_rfl) (by kernel_rfl) (by kernel_rfl) (fun _ _ _ h => h) hS (by rfl) ?ha10 ?ra10
  case ha10 => (intro W hSW; (try dsimp only at hSW); go_simp; (try with_reducible rfl))
  try simp only [Act.put, List.setIfInBounds_toArray, List.set_cons_zero, List.set_cons_succ]
  refine take_at (i := 11) (v := ?va11) rfl (by kernel_rfl) (by kernel_rfl) (by kernel_rfl) (fun _ _ _ h => h) hS (by rfl) ?ha11 ?ra11
  case ha11 => (intro W hSW; (try dsimp only at hSW); go_simp; (try with_reducible rfl))
  try simp only [Act.put, List.setIfInBounds_toArray, List.set_cons_zero, List.set_cons_succ]
  refine take_at (i := 12) (v := ?va12) rfl (by kernel_rfl) (by kernel_rfl) (by kernel_rfl) (fun _ _ _ h => h) hS (by rfl) ?ha12 ?ra12
  case ha12 => (intro W hSW; (try dsimp only at hSW); go_simp; (try with_reducible rfl))
  try simp only [Act.put, List.setIfInBounds_toArray, List.set_cons_zero, List.set_cons_succ]
  refine take_at (i := 13) (v := ?va13) rfl (by kernel_rfl) (by kernel_rfl) (by kernel_rfl) (fun _ _ _ h => h) hS (by rfl) ?ha13 ?ra13
  case ha13 => (intro W hSW; (try dsimp only at hSW); go_simp; (try with_reducible rfl))
  try simp only [Act.put, List.setIfInBounds_toArray, List.set_cons_zero, List.set_cons_succ]
  refine take_at (i := 14) (v := ?va14) rfl (by kernel_rfl) (by kernel_rfl) (by kernel_rfl) (fun _ _ _ h => h) hS (by rfl) ?ha14 ?ra14
  case ha14 => (intro W hSW; (try dsimp only at hSW); go_simp; (try with_reducible rfl))
  try simp only [Act.put, List.setIfInBounds_toArray, List.set_cons_zero, List.set_cons_succ]
  refine take_at (i := 15) (v := .string ⟨Z.toArray⟩) rfl (by kernel_rfl) (by kernel_rfl) (by kernel_rfl) (fun _ _ _ h => h) hS (by rfl) ?ha15 ?ra15
  case ha15 => (intro W hSW; (try dsimp only at hSW); exact (by rw [HZ.out]; exact exec_concat (l := [0, 0]) (m := l) (.const (.string ⟨#[0, 0]⟩)) (.tmp 37) rfl rfl rfl (by rw [Hln.out]; simp)))
  try simp only [Act.put, List.setIfInBounds_toArray, List.set_cons_zero, List.set_cons_succ]
  refine take_at (i := 16) (v := ?va16) rfl (by kernel_rfl) (by kernel_rfl) (by kernel_rfl) (fun _ _ _ h => h) hS (by rfl) ?ha16 ?ra16
  case ha16 => (intro W hSW; (try dsimp only at hSW); go_simp; (try with_reducible rfl))
  try simp only [Act.put, List.setIfInBounds_toArray, List.set_cons_zero, List.set_cons_succ]
  refine take_at (i := 17) (v := ?va17) rfl (by kernel_rfl) (by kernel_rfl) (by kernel_rfl) (fun _ _ _ h => h) hS (by rfl) ?ha17 ?ra17
  case ha17 => (intro W hSW; (try dsimp only at hSW); go_simp; (try with_reducible rfl))
  try simp only [Act.put, List.setIfInBounds_toArray, List.set_cons_zero, List.set_cons_succ]
  refine wpAnyH_done (by kernel_rfl) ?_ _
  refine NoPanic.normal ?_
  clear hs1 hs2 hs3
  have HBd := hid (show Below w2.heap.size w2 w2.drew from (Below.refl _ _).drew)
  obtain ⟨wd, hwd⟩ : ∃ wd, wd = w2.drew := ⟨_, rfl⟩
  rw [← hwd] at HBd ⊢
  clear hwd
  go_wp2_with fail
  go_loopw [8, 9, 10, 11] (fun sq fl st j wr => ∃ (k : Nat), k ≤ 6 ∧ j = .int .i64 ((k : Int) - 1) ∧ sq = .int .u64 ((nb X (8 + k) (6 - k) : Nat) : Int) ∧ fl = .int .u64 ((nb X (14 + k) (6 - k) : Nat) : Int) ∧ st = .int .u64 ((nb X (20 + k) (6 - k) : Nat) : Int) ∧ wr = wd) (fun _ _ _ j _ => (intOf j + 1).toNat)
  case atStart => exact ⟨6, by omega, rfl, rfl, rfl, rfl, rfl⟩
  case round =>
    obtain ⟨k, hk, rfl, rfl, rfl, rfl, rfl⟩ := hrel
    by_cases hk0 : k = 0
    · subst hk0
      rw [show nb X (8 + 0) (6 - 0) = q from Hq.out, show nb X (14 + 0) (6 - 0) = f from Hf.out, show nb X (20 + 0) (6 - 0) = s from Hs.out]
      clear Hq Hf Hs hk
      go_wp2_with fail
      have hHe := Hes.out
      have hHd := Hds.out
      obtain ⟨v0, v1, v2, v3, u0, u1⟩ := Hebd.out
      obtain ⟨v4, v5⟩ := Hic.out
      have k4 := fun (W : World) (h : Below wr.heap.size wr W) => Hk.out.1 W (HBd.out.trans (h.mono HBd.out.size))
      have k5 := fun (W : World) (h : Below wr.heap.size wr W) => Hk.out.2.1 W (HBd.out.trans (h.mono HBd.out.size))
      have k6 := fun (W : World) (h : Below wr.heap.size wr W) => Hk.out.2.2.1 W (HBd.out.trans (h.mono HBd.out.size))
      have k7 := fun (W : World) (h : Below wr.heap.size wr W) => Hk.out.2.2.2.1 W (HBd.out.trans (h.mono HBd.out.size))
      have z0 : IntKind.u32.wrap (e0 : Int) = (e0 : Int) := by simp [IntKind.wrap, IntKind.bits, IntKind.signed]; omega
      have z1 : IntKind.u32.wrap (e1 : Int) = (e1 : Int) := by simp [IntKind.wrap, IntKind.bits, IntKind.signed]; omega
      have z2 : IntKind.u32.wrap (e2 : Int) = (e2 : Int) := by simp [IntKind.wrap, IntKind.bits, IntKind.signed]; omega
      have z3 : IntKind.u32.wrap (e3 : Int) = (e3 : Int) := by simp [IntKind.wrap, IntKind.bits, IntKind.signed]; omega
      have y1 : IntKind.u32.wrap ((e1 : Int) * 256) = (e1 : Int) * 256 := by simp [IntKind.wrap, IntKind.bits, IntKind.signed]; omega
      have y2 : IntKind.u32.wrap ((e2 : Int) * 65536) = (e2 : Int) * 65536 := by simp [IntKind.wrap, IntKind.bits, IntKind.signed]; omega
      have y3 : IntKind.u32.wrap ((e3 : Int) * 16777216) = (e3 : Int) * 16777216 := by simp [IntKind.wrap, IntKind.bits, IntKind.signed]; omega
      have x1 : IntKind.u32.wrap ((e0 : Int) + (e1 : Int) * 256) = (e0 : Int) + (e1 : Int) * 256 := by simp [IntKind.wrap, IntKind.bits, IntKind.signed]; omega
      have x2 : IntKind.u32.wrap ((e0 : Int) + (e1 : Int) * 256 + (e2 : Int) * 65536) = (e0 : Int) + (e1 : Int) * 256 + (e2 : Int) * 65536 := by simp [IntKind.wrap, IntKind.bits, IntKind.signed]; omega
      have x3 : IntKind.u32.wrap ((e0 : Int) + (e1 : Int) * 256 + (e2 : Int) * 65536 + (e3 : Int) * 16777216) = (e : Int) := by simp [IntKind.wrap, IntKind.bits, IntKind.signed]; omega
      refine wp_region_noPanic ?_
      refine wp_region_held_drew (S := fun W => Below wr.heap.size wr W) (by kernel_rfl) (Below.refl _ _).drew (fun hS => ?_)
      refine take_at (i := 0) (v := ?vb0) rfl (by kernel_rfl) (by kernel_rfl) (by kernel_rfl) (fun _ _ _ h => h) hS (by rfl) ?hb0 ?rb0
      case hb0 => (intro W hSW; (try dsimp only at hSW); go_simp; (try with_reducible rfl))
      try simp only [Act.put, List.setIfInBounds_toArray, List.set_cons_zero, List.set_cons_succ]
      refine take_at (i := 1) (v := ?vb1) rfl (by kernel_rfl) (by kernel_rfl) (by kernel_rfl) (fun _ _ _ h => h) hS (by rfl) ?hb1 ?rb1
      case hb1 => (intro W hSW; (try dsimp only at hSW); go_simp; (try with_reducible rfl))
      try simp only [Act.put, List.setIfInBounds_toArray, List.set_cons_zero, List.set_cons_succ]
      refine take_at (i := 2) (v := ?vb2) rfl (by kernel_rfl) (by kernel_rfl) (by kernel_rfl) (fun _ _ _ h => h) hS (by rfl) ?hb2 ?rb2
      case hb2 => (intro W hSW; (try dsimp only at hSW); go_simp; (try with_reducible rfl))
      try simp only [Act.put, List.setIfInBounds_toArray, List.set_cons_zero, List.set_cons_succ]
      refine take_at (i := 3) (v := ?vb3) rfl (by kernel_rfl) (by kernel_rfl) (by kernel_rfl) (fun _ _ _ h => h) hS (by rfl) ?hb3 ?rb3
      case hb3 => (intro W hSW; (try dsimp only at hSW); go_simp; (try with_reducible rfl))
      try simp only [Act.put, List.setIfInBounds_toArray, List.set_cons_zero, List.set_cons_succ]
      refine take_at (i := 4) (v := ?vb4) rfl (by kernel_rfl) (by kernel_rfl) (by kernel_rfl) (fun _ _ _ h => h) hS (by rfl) ?hb4 ?rb4
      case hb4 => (intro W hSW; (try dsimp only at hSW); go_simp; (try with_reducible rfl))
      try simp only [Act.put, List.setIfInBounds_toArray, List.set_cons_zero, List.set_cons_succ]
      refine take_at (i := 5) (v := ?vb5) rfl (by kernel_rfl) (by kernel_rfl) (by kernel_rfl) (fun _ _ _ h => h) hS (by rfl) ?hb5 ?rb5
      case hb5 => (intro W hSW; (try dsimp only at hSW); go_simp; (try with_reducible rfl))
      try simp only [Act.put, List.setIfInBounds_toArray, List.set_cons_zero, List.set_cons_succ]
      refine take_at (i := 6) (v := ?vb6) rfl (by kernel_rfl) (by kernel_rfl) (by kernel_rfl) (fun _ _ _ h => h) hS (by rfl) ?hb6 ?rb6
      case hb6 => (intro W hSW; (try dsimp only at hSW); go_simp; (try with_reducible rfl))
      try simp only [Act.put, List.setIfInBounds_toArray, List.set_cons_zero, List.set_cons_succ]
      refine take_at (i := 7) (v := ?vb7) rfl (by kernel_rfl) (by kernel_rfl) (by kernel_rfl) (fun _ _ _ h => h) hS (by rfl) ?hb7 ?rb7
      case hb7 => (intro W hSW; (try dsimp only at hSW); go_simp; (try with_reducible rfl))
      try simp only [Act.put, List.setIfInBounds_toArray, List.set_cons_zero, List.set_cons_succ]
      refine take_at (i := 8) (v := ?vb8) rfl (by kernel_rfl) (by kernel_rfl) (by kernel_rfl) (fun _ _ _ h => h) hS (by rfl) ?hb8 ?rb8
      case hb8 => (intro W hSW; (try dsimp only at hSW); go_simp; (try with_reducible rfl))
      try simp only [Act.put, List.setIfInBounds_toArray, List.set_cons_zero, List.set_cons_succ]
      refine take_at (i := 9) (v := ?vb9) rfl (by kernel_rfl) (by kernel_rfl) (by kernel_rfl) (fun _ _ _ h => h) hS (by rfl) ?hb9 ?rb9
      case hb9 => (intro W hSW; (try dsimp only at hSW); go_simp; (try with_reducible rfl))
      try simp only [Act.put, List.setIfInBounds_toArray, List.set_cons_zero, List.set_cons_succ]
      refine take_at (i := 10) (v := ?vb10) rfl (by kernel_rfl) (by kernel_rfl) (by kernel_rfl) (fun _ _ _ h => h) hS (by rfl) ?hb10 ?rb10
      case hb10 => (intro W hSW; (try dsimp only at hSW); go_simp; (try with_reducible rfl))
      try simp only [Act.put, List.setIfInBounds_toArray, List.set_cons_zero, List.set_cons_succ]
      refine take_at (i := 11) (v := ?vb11) rfl (by kernel_rfl) (by kernel_rfl) (by kernel_rfl) (fun _ _ _ h => h) hS (by rfl) ?hb11 ?rb11
      case hb11 => (intro W hSW; (try dsimp only at hSW); go_simp; (try with_reducible rfl))
      try simp only [Act.put, List.setIfInBounds_toArray, List.set_cons_zero, List.set_cons_succ]
      refine take_at (i := 12) (v := ?vb12) rfl (by kernel_rfl) (by kernel_rfl) (by kernel_rfl) (fun _ _ _ h => h) hS (by rfl) ?hb12 ?rb12
      case hb12 => (intro W hSW; (try dsimp only at hSW); go_simp; (try with_reducible rfl))
      try simp only [Act.put, List.setIfInBounds_toArray, List.set_cons_zero, List.set_cons_succ]
      refine take_at (i := 13) (v := ?vb13) rfl (by kernel_rfl) (by kernel_rfl) (by kernel_rfl) (fun _ _ _ h => h) hS (by rfl) ?hb13 ?rb13
      case hb13 => (intro W hSW; (try dsimp only at hSW); go_simp; (try with_reducible rfl))
      try simp only [Act.put, List.setIfInBounds_toArray, List.set_cons_zero, List.set_cons_succ]
      refine take_at (i := 14) (v := ?vb14) rfl (by kernel_rfl) (by kernel_rfl) (by kernel_rfl) (fun _ _ _ h => h) hS (by rfl) ?hb14 ?rb14
      case hb14 => (intro W hSW; (try dsimp only at hSW); go_simp; (try with_reducible rfl))
      try simp only [Act.put, List.setIfInBounds_toArray, List.set_cons_zero, List.set_cons_succ]
      refine take_at (i := 15) (v := ?vb15) rfl (by kernel_rfl) (by kernel_rfl) (by kernel_rfl) (fun _ _ _ h => h) hS (by rfl) ?hb15 ?rb15
      case hb15 => (intro W hSW; (try dsimp only at hSW); go_simp; (try with_reducible rfl))
      try simp only [Act.put, List.setIfInBounds_toArray, List.set_cons_zero, List.set_cons_succ]
      refine take_at (i := 16) (v := ?vb16) rfl (by kernel_rfl) (by kernel_rfl) (by kernel_rfl) (fun _ _ _ h => h) hS (by rfl) ?hb16 ?rb16
      case hb16 => (intro W hSW; (try dsimp only at hSW); go_simp; (try with_reducible rfl))
      try simp only [Act.put, List.setIfInBounds_toArray, List.set_cons_zero, List.set_cons_succ]
      refine take_at (i := 17) (v := ?vb17) rfl (by kernel_rfl) (by kernel_rfl) (by kernel_rfl) (fun _ _ _ h => h) hS (by rfl) ?hb17 ?rb17
      case hb17 => (intro W hSW; (try dsimp only at hSW); go_simp; (try with_reducible rfl))
      try simp only [Act.put, List.setIfInBounds_toArray, List.set_cons_zero, List.set_cons_succ]
      refine take_at (i := 18) (v := ?vb18) rfl (by kernel_rfl) (by kernel_rfl) (by kernel_rfl) (fun _ _ _ h => h) hS (by rfl) ?hb18 ?rb18
      case hb18 => (intro W hSW; (try dsimp only at hSW); go_simp; (try with_reducible rfl))
      try simp only [Act.put, List.setIfInBounds_toArray, List.set_cons_zero, List.set_cons_succ]
      refine take_at (i := 19) (v := ?vb19) rfl (by kernel_rfl) (by kernel_rfl) (by kernel_rfl) (fun _ _ _ h => h) hS (by rfl) ?hb19 ?rb19
      case hb19 => (intro W hSW; (try dsimp only at hSW); go_simp; (try with_reducible rfl))
      try simp only [Act.put, List.setIfInBounds_toArray, List.set_cons_zero, List.set_cons_succ]
      refine take_at (i := 20) (v := ?vb20) rfl (by kernel_rfl) (by kernel_rfl) (by kernel_rfl) (fun _ _ _ h => h) hS (by rfl) ?hb20 ?rb20
      case hb20 => (intro W hSW; (try dsimp only at hSW); go_simp; (try with_reducible rfl))
      try simp only [Act.put, List.setIfInBounds_toArray, List.set_cons_zero, List.set_cons_succ]
      refine take_at (i := 21) (v := ?vb21) rfl (by kernel_rfl) (by kernel_rfl) (by kernel_rfl) (fun _ _ _ h => h) hS (by rfl) ?hb21 ?rb21
      case hb21 => (intro W hSW; (try dsimp only at hSW); go_simp; (try with_reducible rfl))
      try simp only [Act.put, List.setIfInBounds_toArray, List.set_cons_zero, List.set_cons_succ]
      refine ready_at (i := 22) rfl (by kernel_rfl) (fun K hK => ?_)
      go_simp
      refine hK.out _ _ hS (fun hS => ?_)
      clear hK K
      try simp only [Act.put, List.setIfInBounds_toArray, List.set_cons_zero, List.set_cons_succ]
      refine wpAnyH_done (by kernel_rfl) ?_ _
      refine NoPanic.normal ?_
      clear k4 k5 k6 k7 z0 z1 z2 z3 y1 y2 y3 x1 x2 x3 v0 v1 v2 v3 hHe
      go_wp2_with fail
      have k26 := fun (W : World) (h : Below wr.heap.size wr W) => Hk.out.2.2.2.2.1 W (HBd.out.trans (h.mono HBd.out.size))
      have k27 := fun (W : World) (h : Below wr.heap.size wr W) => Hk.out.2.2.2.2.2.1 W (HBd.out.trans (h.mono HBd.out.size))
      have k28 := fun (W : World) (h : Below wr.heap.size wr W) => Hk.out.2.2.2.2.2.2.1 W (HBd.out.trans (h.mono HBd.out.size))
      have k29 := fun (W : World) (h : Below wr.heap.size wr W) => Hk.out.2.2.2.2.2.2.2 W (HBd.out.trans (h.mono HBd.out.size))
      have t0 := fun (W : World) (h : Below wr.heap.size wr W) => Ht.out.1 W (HBd.out.trans (h.mono HBd.out.size))
      have t1 := fun (W : World) (h : Below wr.heap.size wr W) => Ht.out.2.1 W (HBd.out.trans (h.mono HBd.out.size))
      have t2 := fun (W : World) (h : Below wr.heap.size wr W) => Ht.out.2.2.1 W (HBd.out.trans (h.mono HBd.out.size))
      have t3 := fun (W : World) (h : Below wr.heap.size wr W) => Ht.out.2.2.2.1 W (HBd.out.trans (h.mono HBd.out.size))
      have t4 := fun (W : World) (h : Below wr.heap.size wr W) => Ht.out.2.2.2.2.1 W (HBd.out.trans (h.mono HBd.out.size))
      have t5 := fun (W : World) (h : Below wr.heap.size wr W) => Ht.out.2.2.2.2.2.1 W (HBd.out.trans (h.mono HBd.out.size))
      have t6 := fun (W : World) (h : Below wr.heap.size wr W) => Ht.out.2.2.2.2.2.2 W (HBd.out.trans (h.mono HBd.out.size))
      have q0 : IntKind.i64.wrap (i : Int) = (i : Int) := IntWalk.i64_in _ ⟨by omega, by omega⟩
      have q1 : IntKind.i64.wrap (c : Int) = (c : Int) := IntWalk.i64_in _ ⟨by omega, by omega⟩
      have q2 : IntKind.i64.wrap (d0 : Int) = (d0 : Int) := IntWalk.i64_in _ ⟨by omega, by omega⟩
      have q3 : IntKind.i64.wrap (d1 : Int) = (d1 : Int) := IntWalk.i64_in _ ⟨by omega, by omega⟩
      have q4 : IntKind.i64.wrap (256 * (d1 : Int)) = 256 * (d1 : Int) := IntWalk.i64_in _ ⟨by omega, by omega⟩
      have q5 : IntKind.i64.wrap ((d0 : Int) + 256 * (d1 : Int)) = (d : Int) := (IntWalk.i64_in _ ⟨by omega, by omega⟩).trans (by omega)
      clear hHd u0 u1 v4 v5
      refine wp_region_noPanic ?_
      refine wp_region_held_drew (S := fun W => Below wr.heap.size wr W) (by kernel_rfl) (Below.refl _ _).drew.drew (fun hS => ?_)
      refine take_at (i := 0) (v := ?vc0) rfl (by kernel_rfl) (by kernel_rfl) (by kernel_rfl) (fun _ _ _ h => h) hS (by rfl) ?hc0 ?rc0
      case hc0 => (intro W hSW; (try dsimp only at hSW); go_simp; (try with_reducible rfl))
      try simp only [Act.put, List.setIfInBounds_toArray, List.set_cons_zero, List.set_cons_succ]
      refine take_at (i := 1) (v := ?vc1) rfl (by kernel_rfl) (by kernel_rfl) (by kernel_rfl) (fun _ _ _ h => h) hS (by rfl) ?hc1 ?rc1
      case hc1 => (intro W hSW; (try dsimp only at hSW); go_simp; (try with_reducible rfl))
      try simp only [Act.put, List.setIfInBounds_toArray, List.set_cons_zero, List.set_cons_succ]
      refine take_at (i := 2) (v := ?vc2) rfl (by kernel_rfl) (by kernel_rfl) (by kernel_rfl) (fun _ _ _ h => h) hS (by rfl) ?hc2 ?rc2
      case hc2 => (intro W hSW; (try dsimp only at hSW); go_simp; (try with_reducible rfl))
      try simp only [Act.put, List.setIfInBounds_toArray, List.set_cons_zero, List.set_cons_succ]
      refine take_at (i := 3) (v := ?vc3) rfl (by kernel_rfl) (by kernel_rfl) (by kernel_rfl) (fun _ _ _ h => h) hS (by rfl) ?hc3 ?rc3
      case hc3 => (intro W hSW; (try dsimp only at hSW); go_simp; (try with_reducible rfl))
      try simp only [Act.put, List.setIfInBounds_toArray, List.set_cons_zero, List.set_cons_succ]
      refine take_at (i := 4) (v := ?vc4) rfl (by kernel_rfl) (by kernel_rfl) (by kernel_rfl) (fun _ _ _ h => h) hS (by rfl) ?hc4 ?rc4
      case hc4 => (intro W hSW; (try dsimp only at hSW); go_simp; (try with_reducible rfl))
      try simp only [Act.put, List.setIfInBounds_toArray, List.set_cons_zero, List.set_cons_succ]
      refine take_at (i := 5) (v := ?vc5) rfl (by kernel_rfl) (by kernel_rfl) (by kernel_rfl) (fun _ _ _ h => h) hS (by rfl) ?hc5 ?rc5
      case hc5 => (intro W hSW; (try dsimp only at hSW); go_simp; (try with_reducible rfl))
      try simp only [Act.put, List.setIfInBounds_toArray, List.set_cons_zero, List.set_cons_succ]
      refine take_at (i := 6) (v := ?vc6) rfl (by kernel_rfl) (by kernel_rfl) (by kernel_rfl) (fun _ _ _ h => h) hS (by rfl) ?hc6 ?rc6
      case hc6 => (intro W hSW; (try dsimp only at hSW); go_simp; (try with_reducible rfl))
      try simp only [Act.put, List.setIfInBounds_toArray, List.set_cons_zero, List.set_cons_succ]
      refine take_at (i := 7) (v := ?vc7) rfl (by kernel_rfl) (by kernel_rfl) (by kernel_rfl) (fun _ _ _ h => h) hS (by rfl) ?hc7 ?rc7
      case hc7 => (intro W hSW; (try dsimp only at hSW); go_simp; (try with_reducible rfl))
      try simp only [Act.put, List.setIfInBounds_toArray, List.set_cons_zero, List.set_cons_succ]
      refine take_at (i := 8) (v := ?vc8) rfl (by kernel_rfl) (by kernel_rfl) (by kernel_rfl) (fun _ _ _ h => h) hS (by rfl) ?hc8 ?rc8
      case hc8 => (intro W hSW; (try dsimp only at hSW); go_simp; (try with_reducible rfl))
      try simp only [Act.put, List.setIfInBounds_toArray, List.set_cons_zero, List.set_cons_succ]
      refine take_at (i := 9) (v := ?vc9) rfl (by kernel_rfl) (by kernel_rfl) (by kernel_rfl) (fun _ _ _ h => h) hS (by rfl) ?hc9 ?rc9
      case hc9 => (intro W hSW; (try dsimp only at hSW); go_simp; (try with_reducible rfl))
      try simp only [Act.put, List.setIfInBounds_toArray, List.set_cons_zero, List.set_cons_succ]
      refine take_at (i := 10) (v := ?vc10) rfl (by kernel_rfl) (by kernel_rfl) (by kernel_rfl) (fun _ _ _ h => h) hS (by rfl) ?hc10 ?rc10
      case hc10 => (intro W hSW; (try dsimp only at hSW); go_simp; (try with_reducible rfl))
      try simp only [Act.put, List.setIfInBounds_toArray, List.set_cons_zero, List.set_cons_succ]
      refine take_at (i := 11) (v := ?vc11) rfl (by kernel_rfl) (by kernel_rfl) (by kernel_rfl) (fun _ _ _ h => h) hS (by rfl) ?hc11 ?rc11
      case hc11 => (intro W hSW; (try dsimp only at hSW); go_simp; (try with_reducible rfl))
      try simp only [Act.put, List.setIfInBounds_toArray, List.set_cons_zero, List.set_cons_succ]
      refine take_at (i := 12) (v := ?vc12) rfl (by kernel_rfl) (by kernel_rfl) (by kernel_rfl) (fun _ _ _ h => h) hS (by rfl) ?hc12 ?rc12
      case hc12 => (intro W hSW; (try dsimp only at hSW); go_simp; (try with_reducible rfl))
      try simp only [Act.put, List.setIfInBounds_toArray, List.set_cons_zero, List.set_cons_succ]
      refine take_at (i := 13) (v := ?vc13) rfl (by kernel_rfl) (by kernel_rfl) (by kernel_rfl) (fun _ _ _ h => h) hS (by rfl) ?hc13 ?rc13
      case hc13 => (intro W hSW; (try dsimp only at hSW); go_simp; (try with_reducible rfl))
      try simp only [Act.put, List.setIfInBounds_toArray, List.set_cons_zero, List.set_cons_succ]
      refine take_at (i := 14) (v := ?vc14) rfl (by kernel_rfl) (by kernel_rfl) (by kernel_rfl) (fun _ _ _ h => h) hS (by rfl) ?hc14 ?rc14
      case hc14 => (intro W hSW; (try dsimp only at hSW); go_simp; (try with_reducible rfl))
      try simp only [Act.put, List.setIfInBounds_toArray, List.set_cons_zero, List.set_cons_succ]
      refine take_at (i := 15) (v := ?vc15) rfl (by kernel_rfl) (by kernel_rfl) (by kernel_rfl) (fun _ _ _ h => h) hS (by rfl) ?hc15 ?rc15
      case hc15 => (intro W hSW; (try dsimp only at hSW); go_simp; (try with_reducible rfl))
      try simp only [Act.put, List.setIfInBounds_toArray, List.set_cons_zero, List.set_cons_succ]
      refine take_at (i := 16) (v := ?vc16) rfl (by kernel_rfl) (by kernel_rfl) (by kernel_rfl) (fun _ _ _ h => h) hS (by rfl) ?hc16 ?rc16
      case hc16 => (intro W hSW; (try dsimp only at hSW); go_simp; (try with_reducible rfl))
      try simp only [Act.put, List.setIfInBounds_toArray, List.set_cons_zero, List.set_cons_succ]
      refine take_at (i := 17) (v := ?vc17) rfl (by kernel_rfl) (by kernel_rfl) (by kernel_rfl) (fun _ _ _ h => h) hS (by rfl) ?hc17 ?rc17
      case hc17 => (intro W hSW; (try dsimp only at hSW); go_simp; (try with_reducible rfl))
      try simp only [Act.put, List.setIfInBounds_toArray, List.set_cons_zero, List.set_cons_succ]
      refine take_at (i := 18) (v := ?vc18) rfl (by kernel_rfl) (by kernel_rfl) (by kernel_rfl) (fun _ _ _ h => h) hS (by rfl) ?hc18 ?rc18
      case hc18 => (intro W hSW; (try dsimp only at hSW); go_simp; (try with_reducible rfl))
      try simp only [Act.put, List.setIfInBounds_toArray, List.set_cons_zero, List.set_cons_succ]
      refine take_at (i := 19) (v := ?vc19) rfl (by kernel_rfl) (by kernel_rfl) (by kernel_rfl) (fun _ _ _ h => h) hS (by rfl) ?hc19 ?rc19
      case hc19 => (intro W hSW; (try dsimp only at hSW); go_simp; (try with_reducible rfl))
      try simp only [Act.put, List.setIfInBounds_toArray, List.set_cons_zero, List.set_cons_succ]
      refine take_at (i := 20) (v := ?vc20) rfl (by kernel_rfl) (by kernel_rfl) (by kernel_rfl) (fun _ _ _ h => h) hS (by rfl) ?hc20 ?rc20
      case hc20 => (intro W hSW; (try dsimp only at hSW); go_simp; (try with_reducible rfl))
      try simp only [Act.put, List.setIfInBounds_toArray, List.set_cons_zero, List.set_cons_succ]
      refine take_at (i := 21) (v := ?vc21) rfl (by kernel_rfl) (by kernel_rfl) (by kernel_rfl) (fun _ _ _ h => h) hS (by rfl) ?hc21 ?rc21
      case hc21 => (intro W hSW; (try dsimp only at hSW); go_simp; (try with_reducible rfl))
      try simp only [Act.put, List.setIfInBounds_toArray, List.set_cons_zero, List.set_cons_succ]
      refine take_at (i := 22) (v := ?vc22) rfl (by kernel_rfl) (by kernel_rfl) (by kernel_rfl) (fun _ _ _ h => h) hS (by rfl) ?hc22 ?rc22
      case hc22 => (intro W hSW; (try dsimp only at hSW); go_simp; (try with_reducible rfl))
      try simp only [Act.put, List.setIfInBounds_toArray, List.set_cons_zero, List.set_cons_succ]
      refine take_at (i := 23) (v := ?vc23) rfl (by kernel_rfl) (by kernel_rfl) (by kernel_rfl) (fun _ _ _ h => h) hS (by rfl) ?hc23 ?rc23
      case hc23 => (intro W hSW; (try dsimp only at hSW); go_simp; (try with_reducible rfl))
      try simp only [Act.put, List.setIfInBounds_toArray, List.set_cons_zero, List.set_cons_succ]
      refine take_at (i := 24) (v := ?vc24) rfl (by kernel_rfl) (by kernel_rfl) (by kernel_rfl) (fun _ _ _ h => h) hS (by rfl) ?hc24 ?rc24
      case hc24 => (intro W hSW; (try dsimp only at hSW); go_simp; (try with_reducible rfl))
      try simp only [Act.put, List.setIfInBounds_toArray, List.set_cons_zero, List.set_cons_succ]
      refine take_at (i := 25) (v := ?vc25) rfl (by kernel_rfl) (by kernel_rfl) (by kernel_rfl) (fun _ _ _ h => h) hS (by rfl) ?hc25 ?rc25
      case hc25 => (intro W hSW; (try dsimp only at hSW); go_simp; (try with_reducible rfl))
      try simp only [Act.put, List.setIfInBounds_toArray, List.set_cons_zero, List.set_cons_succ]
      refine take_at (i := 26) (v := ?vc26) rfl (by kernel_rfl) (by kernel_rfl) (by kernel_rfl) (fun _ _ _ h => h) hS (by rfl) ?hc26 ?rc26
      case hc26 => (intro W hSW; (try dsimp only at hSW); go_simp; (try with_reducible rfl))
      try simp only [Act.put, List.setIfInBounds_toArray, List.set_cons_zero, List.set_cons_succ]
      refine take_at (i := 27) (v := ?vc27) rfl (by kernel_rfl) (by kernel_rfl) (by kernel_rfl) (fun _ _ _ h => h) hS (by rfl) ?hc27 ?rc27
      case hc27 => (intro W hSW; (try dsimp only at hSW); go_simp; (try with_reducible rfl))
      try simp only [Act.put, List.setIfInBounds_toArray, List.set_cons_zero, List.set_cons_succ]
      refine take_at (i := 28) (v := ?vc28) rfl (by kernel_rfl) (by kernel_rfl) (by kernel_rfl) (fun _ _ _ h => h) hS (by rfl) ?hc28 ?rc28
      case hc28 => (intro W hSW; (try dsimp only at hSW); go_simp; (try with_reducible rfl))
      try simp only [Act.put, List.setIfInBounds_toArray, List.set_cons_zero, List.set_cons_succ]
      refine take_at (i := 29) (v := ?vc29) rfl (by kernel_rfl) (by kernel_rfl) (by kernel_rfl) (fun _ _ _ h => h) hS (by rfl) ?hc29 ?rc29
      case hc29 => (intro W hSW; (try dsimp only at hSW); go_simp; (try with_reducible rfl))
      try simp only [Act.put, List.setIfInBounds_toArray, List.set_cons_zero, List.set_cons_succ]
      refine take_at (i := 30) (v := ?vc30) rfl (by kernel_rfl) (by kernel_rfl) (by kernel_rfl) (fun _ _ _ h => h) hS (by rfl) ?hc30 ?rc30
      case hc30 => (intro W hSW; (try dsimp only at hSW); go_simp; (try with_reducible rfl))
      try simp only [Act.put, List.setIfInBounds_toArray, List.set_cons_zero, List.set_cons_succ]
      refine take_at (i := 31) (v := ?vc31) rfl (by kernel_rfl) (by kernel_rfl) (by kernel_rfl) (fun _ _ _ h => h) hS (by rfl) ?hc31 ?rc31
      case hc31 => (intro W hSW; (try dsimp only at hSW); go_simp; (try with_reducible rfl))
      try simp only [Act.put, List.setIfInBounds_toArray, List.set_cons_zero, List.set_cons_succ]
      refine take_at (i := 32) (v := ?vc32) rfl (by kernel_rfl) (by kernel_rfl) (by kernel_rfl) (fun _ _ _ h => h) hS (by rfl) ?hc32 ?rc32
      case hc32 => (intro W hSW; (try dsimp only at hSW); go_simp; (try with_reducible rfl))
      try simp only [Act.put, List.setIfInBounds_toArray, List.set_cons_zero, List.set_cons_succ]
      refine take_at (i := 33) (v := ?vc33) rfl (by kernel_rfl) (by kernel_rfl) (by kernel_rfl) (fun _ _ _ h => h) hS (by rfl) ?hc33 ?rc33
      case hc33 => (intro W hSW; (try dsimp only at hSW); go_simp; (try with_reducible rfl))
      try simp only [Act.put, List.setIfInBounds_toArray, List.set_cons_zero, List.set_cons_succ]
      refine take_at (i := 34) (v := ?vc34) rfl (by kernel_rfl) (by kernel_rfl) (by kernel_rfl) (fun _ _ _ h => h) hS (by rfl) ?hc34 ?rc34
      case hc34 => (intro W hSW; (try dsimp only at hSW); go_simp; (try with_reducible rfl))
      try simp only [Act.put, List.setIfInBounds_toArray, List.set_cons_zero, List.set_cons_succ]
      refine take_at (i := 35) (v := ?vc35) rfl (by kernel_rfl) (by kernel_rfl) (by kernel_rfl) (fun _ _ _ h => h) hS (by rfl) ?hc35 ?rc35
      case hc35 => (intro W hSW; (try dsimp only at hSW); go_simp; (try with_reducible rfl))
      try simp only [Act.put, List.setIfInBounds_toArray, List.set_cons_zero, List.set_cons_succ]
      refine take_at (i := 36) (v := ?vc36) rfl (by kernel_rfl) (by kernel_rfl) (by kernel_rfl) (fun _ _ _ h => h) hS (by rfl) ?hc36 ?rc36
      case hc36 => (intro W hSW; (try dsimp only at hSW); go_simp; (try with_reducible rfl))
      try simp only [Act.put, List.setIfInBounds_toArray, List.set_cons_zero, List.set_cons_succ]
      refine take_at (i := 37) (v := ?vc37) rfl (by kernel_rfl) (by kernel_rfl) (by kernel_rfl) (fun _ _ _ h => h) hS (by rfl) ?hc37 ?rc37
      case hc37 => (intro W hSW; (try dsimp only at hSW); go_simp; (try with_reducible rfl))
      try simp only [Act.put, List.setIfInBounds_toArray, List.set_cons_zero, List.set_cons_succ]
      refine take_at (i := 38) (v := ?vc38) rfl (by kernel_rfl) (by kernel_rfl) (by kernel_rfl) (fun _ _ _ h => h) hS (by rfl) ?hc38 ?rc38
      case hc38 => (intro W hSW; (try dsimp only at hSW); go_simp; (try with_reducible rfl))
      try simp only [Act.put, List.setIfInBounds_toArray, List.set_cons_zero, List.set_cons_succ]
      refine take_at (i := 39) (v := ?vc39) rfl (by kernel_rfl) (by kernel_rfl) (by kernel_rfl) (fun _ _ _ h => h) hS (by rfl) ?hc39 ?rc39
      case hc39 => (intro W hSW; (try dsimp only at hSW); go_simp; (try with_reducible rfl))
      try simp only [Act.put, List.setIfInBounds_toArray, List.set_cons_zero, List.set_cons_succ]
      refine take_at (i := 40) (v := ?vc40) rfl (by kernel_rfl) (by kernel_rfl) (by kernel_rfl) (fun _ _ _ h => h) hS (by rfl) ?hc40 ?rc40
      case hc40 => (intro W hSW; (try dsimp only at hSW); go_simp; (try with_reducible rfl))
      try simp only [Act.put, List.setIfInBounds_toArray, List.set_cons_zero, List.set_cons_succ]
      refine take_at (i := 41) (v := ?vc41) rfl (by kernel_rfl) (by kernel_rfl) (by kernel_rfl) (fun _ _ _ h => h) hS (by rfl) ?hc41 ?rc41
      case hc41 => (intro W hSW; (try dsimp only at hSW); go_simp; (try with_reducible rfl))
      try simp only [Act.put, List.setIfInBounds_toArray, List.set_cons_zero, List.set_cons_succ]
      refine take_at (i := 42) (v := ?vc42) rfl (by kernel_rfl) (by kernel_rfl) (by kernel_rfl) (fun _ _ _ h => h) hS (by rfl) ?hc42 ?rc42
      case hc42 => (intro W hSW; (try dsimp only at hSW); go_simp; (try with_reducible rfl))
      try simp only [Act.put, List.setIfInBounds_toArray, List.set_cons_zero, List.set_cons_succ]
      refine take_at (i := 43) (v := ?vc43) rfl (by kernel_rfl) (by kernel_rfl) (by kernel_rfl) (fun _ _ _ h => h) hS (by rfl) ?hc43 ?rc43
      case hc43 => (intro W hSW; (try dsimp only at hSW); go_simp; (try with_reducible rfl))
      try simp only [Act.put, List.setIfInBounds_toArray, List.set_cons_zero, List.set_cons_succ]
      refine take_at (i := 44) (v := ?vc44) rfl (by kernel_rfl) (by kernel_rfl) (by kernel_rfl) (fun _ _ _ h => h) hS (by rfl) ?hc44 ?rc44
      case hc44 => (intro W hSW; (try dsimp only at hSW); go_simp; (try with_reducible rfl))
      try simp only [Act.put, List.setIfInBounds_toArray, List.set_cons_zero, List.set_cons_succ]
      refine take_at (i := 45) (v := ?vc45) rfl (by kernel_rfl) (by kernel_rfl) (by kernel_rfl) (fun _ _ _ h => h) hS (by rfl) ?hc45 ?rc45
      case hc45 => (intro W hSW; (try dsimp only at hSW); go_simp; (try with_reducible rfl))
      try simp only [Act.put, List.setIfInBounds_toArray, List.set_cons_zero, List.set_cons_succ]
      refine take_at (i := 46) (v := ?vc46) rfl (by kernel_rfl) (by kernel_rfl) (by kernel_rfl) (fun _ _ _ h => h) hS (by rfl) ?hc46 ?rc46
      case hc46 => (intro W hSW; (try dsimp only at hSW); go_simp; (try with_reducible rfl))
      try simp only [Act.put, List.setIfInBounds_toArray, List.set_cons_zero, List.set_cons_succ]
      refine take_at (i := 47) (v := ?vc47) rfl (by kernel_rfl) (by kernel_rfl) (by kernel_rfl) (fun _ _ _ h => h) hS (by rfl) ?hc47 ?rc47
      case hc47 => (intro W hSW; (try dsimp only at hSW); go_simp; (try with_reducible rfl))
      try simp only [Act.put, List.setIfInBounds_toArray, List.set_cons_zero, List.set_cons_succ]
      refine take_at (i := 48) (v := ?vc48) rfl (by kernel_rfl) (by kernel_rfl) (by kernel_rfl) (fun _ _ _ h => h) hS (by rfl) ?hc48 ?rc48
      case hc48 => (intro W hSW; (try dsimp only at hSW); go_simp; (try with_reducible rfl))
      try simp only [Act.put, List.setIfInBounds_toArray, List.set_cons_zero, List.set_cons_succ]
      refine take_at (i := 49) (v := ?vc49) rfl (by kernel_rfl) (by kernel_rfl) (by kernel_rfl) (fun _ _ _ h => h) hS (by rfl) ?hc49 ?rc49
      case hc49 => (intro W hSW; (try dsimp only at hSW); go_simp; (try with_reducible rfl))
      try simp only [Act.put, List.setIfInBounds_toArray, List.set_cons_zero, List.set_cons_succ]
      refine take_at (i := 50) (v := ?vc50) rfl (by kernel_rfl) (by kernel_rfl) (by kernel_rfl) (fun _ _ _ h => h) hS (by rfl) ?hc50 ?rc50
      case hc50 => (intro W hSW; (try dsimp only at hSW); go_simp; (try with_reducible rfl))
      try simp only [Act.put, List.setIfInBounds_toArray, List.set_cons_zero, List.set_cons_succ]
      refine take_at (i := 51) (v := ?vc51) rfl (by kernel_rfl) (by kernel_rfl) (by kernel_rfl) (fun _ _ _ h => h) hS (by rfl) ?hc51 ?rc51
      case hc51 => (intro W hSW; (try dsimp only at hSW); go_simp; (try with_reducible rfl))
      try simp only [Act.put, List.setIfInBounds_toArray, List.set_cons_zero, List.set_cons_succ]
      refine take_at (i := 52) (v := ?vc52) rfl (by kernel_rfl) (by kernel_rfl) (by kernel_rfl) (fun _ _ _ h => h) hS (by rfl) ?hc52 ?rc52
      case hc52 => (intro W hSW; (try dsimp only at hSW); go_simp; (try with_reducible rfl))
      try simp only [Act.put, List.setIfInBounds_toArray, List.set_cons_zero, List.set_cons_succ]
      refine take_at (i := 53) (v := ?vc53) rfl (by kernel_rfl) (by kernel_rfl) (by kernel_rfl) (fun _ _ _ h => h) hS (by rfl) ?hc53 ?rc53
      case hc53 => (intro W hSW; (try dsimp only at hSW); go_simp; (try with_reducible rfl))
      try simp only [Act.put, List.setIfInBounds_toArray, List.set_cons_zero, List.set_cons_succ]
      refine take_at (i := 54) (v := ?vc54) rfl (by kernel_rfl) (by kernel_rfl) (by kernel_rfl) (fun _ _ _ h => h) hS (by rfl) ?hc54 ?rc54
      case hc54 => (intro W hSW; (try dsimp only at hSW); go_simp; (try with_reducible rfl))
      try simp only [Act.put, List.setIfInBounds_toArray, List.set_cons_zero, List.set_cons_succ]
      refine take_at (i := 55) (v := ?vc55) rfl (by kernel_rfl) (by kernel_rfl) (by kernel_rfl) (fun _ _ _ h => h) hS (by rfl) ?hc55 ?rc55
      case hc55 => (intro W hSW; (try dsimp only at hSW); go_simp; (try with_reducible rfl))
      try simp only [Act.put, List.setIfInBounds_toArray, List.set_cons_zero, List.set_cons_succ]
      refine take_at (i := 56) (v := ?vc56) rfl (by kernel_rfl) (by kernel_rfl) (by kernel_rfl) (fun _ _ _ h => h) hS (by rfl) ?hc56 ?rc56
      case hc56 => (intro W hSW; (try dsimp only at hSW); go_simp; (try with_reducible rfl))
      try simp only [Act.put, List.setIfInBounds_toArray, List.set_cons_zero, List.set_cons_succ]
      refine take_at (i := 57) (v := ?vc57) rfl (by kernel_rfl) (by kernel_rfl) (by kernel_rfl) (fun _ _ _ h => h) hS (by rfl) ?hc57 ?rc57
      case hc57 => (intro W hSW; (try dsimp only at hSW); go_simp; (try with_reducible rfl))
      try simp only [Act.put, List.setIfInBounds_toArray, List.set_cons_zero, List.set_cons_succ]
      refine ready_at (i := 58) rfl (by kernel_rfl) (fun K hK => ?_)
      go_simp
      refine hK.out _ _ hS (fun hS => ?_)
      clear hK K
      try simp only [Act.put, List.setIfInBounds_toArray, List.set_cons_zero, List.set_cons_succ]
      refine wpAnyH_done (by kernel_rfl) ?_ _
      refine NoPanic.normal ?_
      go_wp2
      go_ret
      exact ⟨ret_bool (by simp), HB2.out.trans ((HBd.out.trans ((Below.refl _ _).drew.drew.mono HBd.out.size)).mono HB2.out.size)⟩
    · obtain ⟨k, rfl⟩ : ∃ m, k = m + 1 := ⟨k - 1, by omega⟩
      have hcl := fun (o : Nat) (ho : o < X.length) => show wr.cell? ⟨g, o, none⟩ = some (.int .u8 (n8 (X[o]'ho))) from by
        rw [(HE2.out.below HBd.out).cell, List.getElem?_map, List.getElem?_eq_getElem ho]
        rfl
      have hq := hcl (8 + k) (by rw [HXl.out]; omega)
      have hf := hcl (14 + k) (by rw [HXl.out]; omega)
      have hs := hcl (20 + k) (by rw [HXl.out]; omega)
      have Nq := hid (nb_rev X 8 k (by omega) (by rw [HXl.out]; omega))
      have Nf := hid (nb_rev X 14 k (by omega) (by rw [HXl.out]; omega))
      have Ns := hid (nb_rev X 20 k (by omega) (by rw [HXl.out]; omega))
      have Wq := wrap6 _ (X[8 + k]'(by rw [HXl.out]; omega)) (nb_lt6 X 8 k)
      have Wf := wrap6 _ (X[14 + k]'(by rw [HXl.out]; omega)) (nb_lt6 X 14 k)
      have Ws := wrap6 _ (X[20 + k]'(by rw [HXl.out]; omega)) (nb_lt6 X 20 k)
      clear hcl
      generalize X[8 + k]'(by rw [HXl.out]; omega) = xq at *
      generalize X[14 + k]'(by rw [HXl.out]; omega) = xf at *
      generalize X[20 + k]'(by rw [HXl.out]; omega) = xs at *
      rw [← Nq.out] at Wq
      rw [← Nf.out] at Wf
      rw [← Ns.out] at Ws
      generalize nb X (8 + (k + 1)) (6 - (k + 1)) = vq at *
      generalize nb X (14 + (k + 1)) (6 - (k + 1)) = vf at *
      generalize nb X (20 + (k + 1)) (6 - (k + 1)) = vs at *
      generalize hyq : nb X (8 + k) (6 - k) = yq at *
      generalize hyf : nb X (14 + k) (6 - k) = yf at *
      generalize hys : nb X (20 + k) (6 - k) = ys at *
      have Hy := hid (And.intro hyq (And.intro hyf hys))
      clear hyq hyf hys
      go_wp2
      go_roundw
      case rel => exact ⟨k, by omega, by go_num, by rw [Hy.out.1], by rw [Hy.out.2.1], by rw [Hy.out.2.2], trivial⟩
      case measure => simp [intOf]
end Go.Proofs.Ytmfncpifalnggaa
