/- The walk of tag.Decode. -/
import Derived.Test.YtmfncpifalnggaaTag5
import Derived.Test.YtmfncpifalnggaaHeld
import Derived.Test.YtmfncpifalnggaaTagS
namespace Go.Proofs.Ytmfncpifalnggaa
open Go.RowKit O
set_option linter.unusedVariables false

def zeroT : List Value := [.int .u32 0, .int .u64 0, .int .u64 0, .int .u64 0, .int .i64 0, .int .i64 0, .int .i64 0]
theorem zero25 : (Try.prog.info? 25).map (·.zero) = some (some (.agg zeroT.toArray)) := by kernel_rfl
theorem zeroT_one : ∀ v ∈ zeroT, v.oneCell' = true := by
  intro v hv
  unfold zeroT at hv
  simp only [List.mem_cons, List.not_mem_nil, or_false] at hv
  rcases hv with rfl | rfl | rfl | rfl | rfl | rfl | rfl <;> rfl
/-- The k-th number of a sector's head. -/
def nb (l : List UInt8) (L m : Nat) : Nat := num ((l.drop L).take m)
def fn (l : List UInt8) (k : Nat) : Nat := nb l (plen k) (fsz k)
def upd (x : Nat) : Nat → List Value → List Value
  | 1, vs => vs.set 0 (.int .u32 (x : Int))
  | 2, vs => vs.set 2 (.int .u64 (x : Int))
  | 3, vs => vs.set 3 (.int .u64 (x : Int))
  | 4, vs => vs.set 1 (.int .u64 (x : Int))
  | 5, vs => vs.set 4 (.int .i64 (x : Int))
  | 6, vs => vs.set 5 (.int .i64 (x : Int))
  | 7, vs => vs.set 6 (.int .i64 (x : Int))
  | _, vs => vs
def tk (l : List UInt8) : Nat → List Value
  | 0 => zeroT
  | k + 1 => upd (fn l k) k (tk l k)
theorem upd_length (x k : Nat) (vs : List Value) : (upd x k vs).length = vs.length := by
  unfold upd
  split <;> simp
theorem tk_length (l : List UInt8) : ∀ k, (tk l k).length = 7
  | 0 => rfl
  | k + 1 => by rw [tk, upd_length, tk_length l k]
theorem tk_all (l : List UInt8) : tk l 9 = tagL (fn l 1) (fn l 4) (fn l 2) (fn l 3) (fn l 5) (fn l 6) (fn l 7) := rfl
/-- Is a sector one of a right tag? -/
def tagOk (l : List UInt8) : Bool := decide (l.length = 512) && (right (fn l 1) (fn l 4) (fn l 2) (fn l 3) (fn l 5) (fn l 6) (fn l 7) && decide (head (fn l 1) (fn l 4) (fn l 2) (fn l 3) (fn l 5) (fn l 6) (fn l 7) ++ l.drop 32 = l))

theorem rep_neT {w : World} {g p : Nat} {T : TypeId} {v : Value} (hg : IsV w g T zeroT) (hc : w.cell? ⟨p, 0, none⟩ = some v) (hv : v ≠ .int .u32 0) : g ≠ p := by
  rintro rfl
  rw [hg.cell 0] at hc
  injection hc with hc
  exact hv hc.symm
theorem box_neT {w : World} {g p0 p2 p3 p4 p5 p6 p7 p8 : Nat} {T : TypeId} (h : Boxes w p0 p2 p3 p4 p5 p6 p7 p8) (hg : IsV w g T zeroT) : g ≠ p0 ∧ g ≠ p2 ∧ g ≠ p3 ∧ g ≠ p4 ∧ g ≠ p5 ∧ g ≠ p6 ∧ g ≠ p7 ∧ g ≠ p8 :=
  ⟨rep_neT hg h.c0 (by intro h; cases h), rep_neT hg h.c2 (by intro h; cases h), rep_neT hg h.c3 (by intro h; cases h), rep_neT hg h.c4 (by intro h; cases h), rep_neT hg h.c5 (by intro h; cases h), rep_neT hg h.c6 (by intro h; cases h), rep_neT hg h.c7 (by intro h; cases h), rep_neT hg h.c8 (by intro h; cases h)⟩
theorem IsBytes.dropV {w : World} {b o : Nat} {l : List UInt8} (h : IsBytes w (some ⟨b, o, none⟩) l) (k : Nat) : IsBytes w (some ⟨b, o + k, none⟩) (l.drop k) := by
  refine ⟨b, o + k, fun _ => rfl, fun i hi => ?_⟩
  rw [List.length_drop] at hi
  obtain ⟨b', o', h1, h2⟩ := h
  have := h1 (by rintro rfl; simp at hi)
  injection this with this
  injection this with e1 e2 _
  subst e1 e2
  rw [Nat.add_assoc, h2 (k + i) (by omega), List.getElem_drop]
theorem built25z : Try.prog.built 25 [] = some zeroT.toArray := by kernel_rfl
theorem exec_build0 {P : Program} {o : Oper} {a : Act} {w : World} {t : TypeId} (ho : o.op = .build t #[]) {Z : List Value} (hz : P.built t [] = some Z.toArray) :
    (execOp a.eval o).run P w = .ok (.value (.agg Z.toArray)) w := by
  unfold execOp
  simp only [ho, List.map_toArray, List.map_nil, Sem.run_bind, run_build w t #[] Z.toArray hz, Result.andThen_ok]
  rfl
/-- Three results, the first one a struct that lies in memory. -/
theorem results_cell2 {fn : Func} {p u v : Tmp} {ty : TypeId} (h : fn.results = #[.cell p ty, .tmp u, .tmp v]) {P : Program} {w : World} {a : Addr} {C x y : Value} {tmps : Array Value} (h1 : tmps.getD p undef = .pointer (some a)) (h2 : tmps.getD u undef = x) (h3 : tmps.getD v undef = y) (hld : (loadVar ty a).run P w = .ok C w) :
    (results fn tmps).run P w = .ok (.tuple #[C, x, y]) w := by
  have h1' : tmps[p]?.getD undef = .pointer (some a) := by simpa using h1
  have h2' : tmps[u]?.getD undef = x := by simpa using h2
  have h3' : tmps[v]?.getD undef = y := by simpa using h3
  simp [results, h, h1', h2', h3', asAddr, hld, Result.andThen]

theorem decode_short (l : List UInt8) (n : Nat) (hnl : l.length = n) (hn : n ≠ 512) (w : World) (a : Option Addr) (c : Nat) :
    Calls Try.prog 13 #[.slice a n c] w fun x w' => x = .returned (.tuple #[.agg zeroT.toArray, .slice none 0 0, .int .i64 4]) ∧ Below w.heap.size w w' := by
  have hn' : ((n : Int) != 512) = true := by simp; omega
  clear hn hnl
  go_enter Try.func13, Try.ntmps13
  go_wp2_with (first
    | (refine wpList_alloc_V rfl rfl zero25 ?_; intro w1 hN hB hS; have HN := hid hN; have HB := hid hB; clear hN hB hS)
    | (refine wpList_exec (.agg zeroT.toArray) (by rfl) (exec_build0 rfl built25z) ?_)
    | (refine wpList_store_V 25 (.tmp 2) (.tmp 16) rfl w.heap.size zeroT zeroT 25 rfl rfl HN.out rfl size25 zeroT_one (by rfl) ?_; intro w2 hN hK hS; have HN2 := hid hN; have HB2 := hid (HB.out.trans (hK.below _ (Nat.le_refl _) HB.out.size)); clear hN hK hS))
  have hld := loadVar_V (P := Try.prog) (T := 25) HN2.out Try.underlying25 rfl size25
  exact bodyPost_ret (v := .tuple #[.agg zeroT.toArray, .slice none 0 0, .int .i64 4]) (results_cell2 Try.results13 rfl rfl rfl hld) rfl ⟨rfl, HB2.out⟩

theorem num_next (l : List UInt8) (L m : Nat) (hm : L + m < l.length) : nb l L (m + 1) = nb l L m + 256 ^ m * (l[L + m]).toNat := by
  unfold nb
  have h1 : m < (l.drop L).length := by rw [List.length_drop]; omega
  rw [List.take_succ_eq_append_getElem h1, num_snoc, List.length_take, Nat.min_eq_left (by omega), List.getElem_drop]
theorem num_bnd (l : List UInt8) (L m : Nat) : nb l L m < 256 ^ m := by
  unfold nb
  have := num_lt ((l.drop L).take m)
  exact Nat.lt_of_lt_of_le this (Nat.pow_le_pow_right (by omega) (by rw [List.length_take]; omega))
theorem or_shl (v c k : Nat) (hv : v < 256 ^ k) (hc : c < 256) (hk : k ≤ 7) : bits .or .u64 (v : Int) ((c * 2 ^ (8 * k) : Nat) : Int) = ((v + 256 ^ k * c : Nat) : Int) := by
  have hp : 256 ^ k = 2 ^ (8 * k) := by rw [Nat.pow_mul]
  have hp7 : 256 ^ k ≤ 256 ^ 7 := Nat.pow_le_pow_right (by omega) hk
  have h1 : c * 2 ^ (8 * k) ≤ 255 * 256 ^ 7 := by
    rw [← hp]
    exact Nat.mul_le_mul (by omega) hp7
  have e7 : 256 ^ 7 = 72057594037927936 := by decide
  rw [e7] at h1 hp7
  rw [u64_or_nat v (c * 2 ^ (8 * k)) (by omega) (by omega)]
  congr 1
  rw [← Nat.shiftLeft_eq, Nat.or_comm, ← Nat.shiftLeft_add_eq_or_of_lt (by rw [← hp]; exact hv), Nat.shiftLeft_eq, hp, Nat.mul_comm, Nat.add_comm]
theorem or_shl_walk (v k : Nat) (c : UInt8) (hv : v < 256 ^ k) (hk : k ≤ 7) : bits .or .u64 (v : Int) (IntKind.u64.wrap (n8 c * 2 ^ (8 * k))) = ((v + 256 ^ k * c.toNat : Nat) : Int) := by
  have hc := c.toNat_lt
  have hp : 256 ^ k = 2 ^ (8 * k) := by rw [Nat.pow_mul]
  have hp7 : 256 ^ k ≤ 256 ^ 7 := Nat.pow_le_pow_right (by omega) hk
  have h1 : c.toNat * 2 ^ (8 * k) ≤ 255 * 256 ^ 7 := by
    rw [← hp]
    exact Nat.mul_le_mul (by omega) hp7
  have e7 : 256 ^ 7 = 72057594037927936 := by decide
  rw [e7] at h1
  have e : n8 c * 2 ^ (8 * k) = ((c.toNat * 2 ^ (8 * k) : Nat) : Int) := by unfold n8; simp
  rw [e, IntKind.wrap_u64, Int.emod_eq_of_lt (by omega) (by omega)]
  exact or_shl v c.toNat k hv hc hk
theorem low_at {w : World} {b off : Nat} {l : List UInt8} (hb : IsBytes w (some ⟨b, off, none⟩) l) (i : Nat) (hi : i < l.length) : w.cell? ⟨b, off + i, none⟩ = some (.int .u8 (n8 l[i])) := by
  obtain ⟨b', o', h1, h2⟩ := hb
  have := h1 (by rintro rfl; simp at hi)
  injection this with this
  injection this with e1 e2 _
  subst e1 e2
  exact h2 i hi

set_option maxHeartbeats 20000000 in
set_option maxRecDepth 20000 in
theorem decode_full (l : List UInt8) (hl : l.length = 512) (w : World) (a : Option Addr) (c : Nat) (hb : IsBytes w a l) (hlc : 512 ≤ c) :
    Calls Try.prog 13 #[.slice a 512 c] w fun x w' =>
      ((tagOk l = false ∧ x = .returned (.tuple #[.agg zeroT.toArray, .slice none 0 0, .int .i64 4])) ∨
       (tagOk l = true ∧ ∃ A cc, x = .returned (.tuple #[.agg (tk l 9).toArray, .slice A 480 cc, .int .i64 0]) ∧ Own 5 w.heap.size w' A cc ((l.drop 32).map byteV))) ∧ Below w.heap.size w w' := by
  have Hl := hid hl
  have Hlow := hid (hb.low (by intro h0; rw [h0] at hl; cases hl))
  obtain ⟨b, off, ha, hcell⟩ := hb
  obtain rfl := ha (by intro h0; rw [h0] at hl; cases hl)
  have Hb := hid (show IsBytes w (some ⟨b, off, none⟩) l from ⟨b, off, fun _ => rfl, hcell⟩)
  have Hblt := hid (Hlow.out b off rfl)
  clear hl ha hcell
  go_enter Try.func13, Try.ntmps13
  go_wp2_with (first
    | (refine wpList_alloc_V (w := w) rfl rfl zero25 ?_; intro w1 hN hB hS; have HR1 := hid hN; have HB1 := hid hB; have HS1 := hid hS; clear hN hB hS)
    | (refine wpList_alloc_V (w := w1) rfl rfl zero25 ?_; intro w2 hN hB hS; have HT2 := hid hN; have HR2 := hid (HR1.out.below hB); have HB2 := hid (HB1.out.trans (hB.mono HB1.out.size)); have Hg2 := hid (show w.heap.size < w1.heap.size from HR1.out.lt); clear hN hB hS))
  obtain ⟨g, hg⟩ : ∃ g, g = w1.heap.size := ⟨_, rfl⟩
  rw [← hg] at HT2 Hg2 ⊢
  clear hg
  refine (fields_any _).mono ?_
  rintro x w3 ⟨p0, p2, p3, p4, p5, p6, p7, p8, rfl, hX, hB⟩
  have HX3 := hid hX
  have HR3 := hid (HR2.out.below hB)
  have HT3 := hid (HT2.out.below hB)
  have HB3 := hid (HB2.out.trans (hB.mono HB2.out.size))
  have Hb3 := hid (Hb.out.below HB3.out)
  have hXg := hid (show g ≠ p0 ∧ g ≠ p2 ∧ g ≠ p3 ∧ g ≠ p4 ∧ g ≠ p5 ∧ g ≠ p6 ∧ g ≠ p7 ∧ g ≠ p8 from box_neT hX HT3.out)
  clear hX hB HR1 HB1 HS1 HR2 HT2 HB2 Hb
  obtain ⟨F, hF⟩ : ∃ F, F = (fieldsL p0 p2 p3 p4 p5 p6 p7 p8).toArray := ⟨_, rfl⟩
  rw [← hF]
  have HF := hid hF
  clear hF
  go_wp2_with fail
  go_loopw [6, 19] (fun r k wr => ∃ (j o cc : Nat), j ≤ 9 ∧ k = .int .i64 j ∧ r = .slice (some ⟨b, o, none⟩) (512 - plen j) cc ∧ o = off + plen j ∧ cc + plen j = c ∧ IsV wr g 25 (tk l j) ∧ Kept g w3 wr) (fun _ k _ => 9 - (intOf k).toNat)
  case atStart => exact ⟨0, off, c, by omega, rfl, rfl, rfl, rfl, HT3.out, Kept.refl _ _⟩
  case round =>
    obtain ⟨j, o, cc, hj, rfl, rfl, ho, hcc, hT, hK⟩ := hrel
    have HT := hid hT
    have HK := hid hK
    have Ho := hid ho
    have Hcc := hid hcc
    clear hT hK ho hcc
    rcases (show j = 0 ∨ j = 1 ∨ j = 2 ∨ j = 3 ∨ j = 4 ∨ j = 5 ∨ j = 6 ∨ j = 7 ∨ j = 8 ∨ j = 9 by omega) with rfl | rfl | rfl | rfl | rfl | rfl | rfl | rfl | rfl | rfl
    · have HX := hid (HX3.out.kept HK.out hXg.out)
      simp only [show plen 0 = 0 from rfl]
      have hcs : 4 < cc := by have := Hcc.out; have e : plen 0 = 0 := rfl; omega
      have Hix := hid (idx0' HF.out wr)
      have Hbw := hid (show IsBytes wr (some ⟨b, off, none⟩) l from Hb3.out.keptV HK.out (fun b' o' e => by have := Hlow.out b' o' e; have := Hg2.out; omega))
      go_wp2_with (first
        | (refine wpList_exec _ (by rfl) (exec_index (.tmp 18) (.tmp 19) rfl rfl rfl Hix.out) ?_)
        | (refine wpList_alloc_V rfl rfl zeroF ?_; intro wa hN hB hS; have HA := hid hN; have HBa := hid hB; clear hN hB hS)
        | (refine wpList_store_V 46 (.tmp 8) (.tmp 21) rfl wr.heap.size [.int .i64 4, .func (.func 30) #[] #[.pointer (some ⟨p0, 0, none⟩)], .func (.func 31) #[] #[]] nilF 46 rfl rfl HA.out rfl sizeF (by intro v hv; simp only [List.mem_cons, List.not_mem_nil, or_false] at hv; rcases hv with rfl | rfl | rfl <;> rfl) (by rfl) ?_; intro wb hN hK hS; have hc0 : wb.cell? ⟨wr.heap.size, 0, none⟩ = some (.int .i64 4) := hN.cell 0; have hc2 : wb.cell? ⟨wr.heap.size, 2, none⟩ = some (.func (.func 31) #[] #[]) := hN.cell 2; have HC0 := hid hN; have HKb := hid (HBa.out.trans (hK.below _ (Nat.le_refl _) HBa.out.size)); clear hN hK hS))
      obtain ⟨gf, hgf⟩ : ∃ gf, gf = wr.heap.size := ⟨_, rfl⟩
      rw [← hgf] at hc0 hc2 HC0 ⊢
      have Hgf := hid (show g < gf by rw [hgf]; exact HT.out.lt)
      have HXb := hid (HX.out.below HKb.out)
      have HTb := hid (HT.out.below HKb.out)
      have HKw := hid (HK.out.trans (Kept.of_below HKb.out))
      have Hbb := hid (Hbw.out.below HKb.out)
      clear hgf HA HBa HKb HX HT HK Hbw Hix
      go_loopw [9, 24] (fun n j ws => ∃ (m : Nat), m ≤ 4 ∧ j = .int .i64 m ∧ n = .int .u64 ((nb l 0 m : Nat) : Int) ∧ ws = wb) (fun _ j _ => 4 - (intOf j).toNat)
      case atStart => exact ⟨0, by omega, rfl, rfl, rfl⟩
      case round =>
        obtain ⟨m, hm, rfl, rfl, rfl⟩ := hrel
        by_cases hmk : m < 4
        · have Hnx := hid (num_next l 0 m (by rw [Hl.out]; omega))
          have hv := num_bnd l 0 m
          have hc : wr.cell? ⟨b, o + m, none⟩ = some (.int .u8 (n8 (l[0 + m]'(by rw [Hl.out]; omega)))) := by
            have := low_at Hbb.out (0 + m) (by rw [Hl.out]; omega)
            rw [Ho.out]
            exact (show wr.cell? ⟨b, off + 0 + m, none⟩ = _ from by rw [Nat.add_assoc]; exact this)
          generalize l[0 + m]'(by rw [Hl.out]; omega) = ch at hc Hnx
          have h8 := n8_bd ch
          generalize nb l 0 m = v at *
          have how := or_shl_walk v m ch hv (by omega)
          obtain ⟨u, hu⟩ : ∃ u, u = v + 256 ^ m * ch.toNat := ⟨_, rfl⟩
          rw [← hu] at how Hnx
          clear hv hu
          go_wp2
          go_roundw
          case rel => exact ⟨m + 1, by omega, by go_num, by rw [Hnx.out], trivial⟩
          case measure => simp [intOf]; omega
        · obtain rfl : m = 4 := by omega
          clear hmk hm
          obtain ⟨num1, hnum⟩ : ∃ num1, num1 = nb l 0 4 := ⟨_, rfl⟩
          rw [← hnum]
          have Hnum := hid (show num1 = fn l 0 from hnum)
          clear hnum
          go_wp2_with fail
          refine (setC_any _ num1 _).mono ?_
          rintro y wd ⟨⟨v, rfl⟩, rfl⟩
          have HTd := hid (show IsV _ g 25 (tk l (0 + 1)) from HTb.out)
          have HKd := hid HKw.out
          go_wp2
          go_roundw
          case rel => exact ⟨0 + 1, _, _, by omega, by go_num, rfl, (by rw [Ho.out]; exact Nat.add_assoc _ _ _), (by have := Hcc.out; have e : plen 0 = 0 := rfl; have e2 : plen (0 + 1) = 4 := rfl; omega), HTd.out, HKd.out⟩
          case measure => simp [intOf]
    · have HX := hid (HX3.out.kept HK.out hXg.out)
      simp only [show plen 1 = 4 from rfl]
      have hcs : 4 < cc := by have := Hcc.out; have e : plen 1 = 4 := rfl; omega
      have Hix := hid (idx1' HF.out wr)
      have Hbw := hid (show IsBytes wr (some ⟨b, off, none⟩) l from Hb3.out.keptV HK.out (fun b' o' e => by have := Hlow.out b' o' e; have := Hg2.out; omega))
      go_wp2_with (first
        | (refine wpList_exec _ (by rfl) (exec_index (.tmp 18) (.tmp 19) rfl rfl rfl Hix.out) ?_)
        | (refine wpList_alloc_V rfl rfl zeroF ?_; intro wa hN hB hS; have HA := hid hN; have HBa := hid hB; clear hN hB hS)
        | (refine wpList_store_V 46 (.tmp 8) (.tmp 21) rfl wr.heap.size [.int .i64 4, .func (.func 20) #[] #[], .func (.func 21) #[] #[]] nilF 46 rfl rfl HA.out rfl sizeF (by intro v hv; simp only [List.mem_cons, List.not_mem_nil, or_false] at hv; rcases hv with rfl | rfl | rfl <;> rfl) (by rfl) ?_; intro wb hN hK hS; have hc0 : wb.cell? ⟨wr.heap.size, 0, none⟩ = some (.int .i64 4) := hN.cell 0; have hc2 : wb.cell? ⟨wr.heap.size, 2, none⟩ = some (.func (.func 21) #[] #[]) := hN.cell 2; have HC0 := hid hN; have HKb := hid (HBa.out.trans (hK.below _ (Nat.le_refl _) HBa.out.size)); clear hN hK hS))
      obtain ⟨gf, hgf⟩ : ∃ gf, gf = wr.heap.size := ⟨_, rfl⟩
      rw [← hgf] at hc0 hc2 HC0 ⊢
      have Hgf := hid (show g < gf by rw [hgf]; exact HT.out.lt)
      have HXb := hid (HX.out.below HKb.out)
      have HTb := hid (HT.out.below HKb.out)
      have HKw := hid (HK.out.trans (Kept.of_below HKb.out))
      have Hbb := hid (Hbw.out.below HKb.out)
      clear hgf HA HBa HKb HX HT HK Hbw Hix
      go_loopw [9, 24] (fun n j ws => ∃ (m : Nat), m ≤ 4 ∧ j = .int .i64 m ∧ n = .int .u64 ((nb l 4 m : Nat) : Int) ∧ ws = wb) (fun _ j _ => 4 - (intOf j).toNat)
      case atStart => exact ⟨0, by omega, rfl, rfl, rfl⟩
      case round =>
        obtain ⟨m, hm, rfl, rfl, rfl⟩ := hrel
        by_cases hmk : m < 4
        · have Hnx := hid (num_next l 4 m (by rw [Hl.out]; omega))
          have hv := num_bnd l 4 m
          have hc : wr.cell? ⟨b, o + m, none⟩ = some (.int .u8 (n8 (l[4 + m]'(by rw [Hl.out]; omega)))) := by
            have := low_at Hbb.out (4 + m) (by rw [Hl.out]; omega)
            rw [Ho.out]
            exact (show wr.cell? ⟨b, off + 4 + m, none⟩ = _ from by rw [Nat.add_assoc]; exact this)
          generalize l[4 + m]'(by rw [Hl.out]; omega) = ch at hc Hnx
          have h8 := n8_bd ch
          generalize nb l 4 m = v at *
          have how := or_shl_walk v m ch hv (by omega)
          obtain ⟨u, hu⟩ : ∃ u, u = v + 256 ^ m * ch.toNat := ⟨_, rfl⟩
          rw [← hu] at how Hnx
          clear hv hu
          go_wp2
          go_roundw
          case rel => exact ⟨m + 1, by omega, by go_num, by rw [Hnx.out], trivial⟩
          case measure => simp [intOf]; omega
        · obtain rfl : m = 4 := by omega
          clear hmk hm
          obtain ⟨num1, hnum⟩ : ∃ num1, num1 = nb l 4 4 := ⟨_, rfl⟩
          rw [← hnum]
          have Hnum := hid (show num1 = fn l 1 from hnum)
          clear hnum
          go_wp2_with fail
          refine (set0_any g num1 _ _ _ HTb.out (tk_length l 1) (by rw [Hnum.out]; exact num_bnd _ _ _)).mono ?_
          rintro y wd ⟨⟨v, rfl⟩, hwd⟩
          have HTd := hid (show IsV wd g 25 (tk l (1 + 1)) by
            rw [hwd]
            have := HTb.out.setC 0 (.int .u32 (num1 : Int))
            rw [Hnum.out] at this
            rw [Hnum.out]
            exact this)
          have HKd := hid (show Kept g w3 wd by rw [hwd]; exact HKw.out.trans (Kept.setCell _ _ _))
          have hc0d : wd.cell? ⟨gf, 0, none⟩ = some (.int .i64 4) := by rw [hwd, World.cell?_setCell_far _ _ _ _ (by exact Nat.ne_of_lt Hgf.out)]; exact hc0
          clear hwd
          go_wp2
          go_roundw
          case rel => exact ⟨1 + 1, _, _, by omega, by go_num, rfl, (by rw [Ho.out]; exact Nat.add_assoc _ _ _), (by have := Hcc.out; have e : plen 1 = 4 := rfl; have e2 : plen (1 + 1) = 8 := rfl; omega), HTd.out, HKd.out⟩
          case measure => simp [intOf]
    · have HX := hid (HX3.out.kept HK.out hXg.out)
      simp only [show plen 2 = 8 from rfl]
      have hcs : 6 < cc := by have := Hcc.out; have e : plen 2 = 8 := rfl; omega
      have Hix := hid (idx2' HF.out wr)
      have Hbw := hid (show IsBytes wr (some ⟨b, off, none⟩) l from Hb3.out.keptV HK.out (fun b' o' e => by have := Hlow.out b' o' e; have := Hg2.out; omega))
      go_wp2_with (first
        | (refine wpList_exec _ (by rfl) (exec_index (.tmp 18) (.tmp 19) rfl rfl rfl Hix.out) ?_)
        | (refine wpList_alloc_V rfl rfl zeroF ?_; intro wa hN hB hS; have HA := hid hN; have HBa := hid hB; clear hN hB hS)
        | (refine wpList_store_V 46 (.tmp 8) (.tmp 21) rfl wr.heap.size [.int .i64 6, .func (.func 32) #[] #[.pointer (some ⟨p2, 0, none⟩)], .func (.func 33) #[] #[.pointer (some ⟨p2, 0, none⟩)]] nilF 46 rfl rfl HA.out rfl sizeF (by intro v hv; simp only [List.mem_cons, List.not_mem_nil, or_false] at hv; rcases hv with rfl | rfl | rfl <;> rfl) (by rfl) ?_; intro wb hN hK hS; have hc0 : wb.cell? ⟨wr.heap.size, 0, none⟩ = some (.int .i64 6) := hN.cell 0; have hc2 : wb.cell? ⟨wr.heap.size, 2, none⟩ = some (.func (.func 33) #[] #[.pointer (some ⟨p2, 0, none⟩)]) := hN.cell 2; have HC0 := hid hN; have HKb := hid (HBa.out.trans (hK.below _ (Nat.le_refl _) HBa.out.size)); clear hN hK hS))
      obtain ⟨gf, hgf⟩ : ∃ gf, gf = wr.heap.size := ⟨_, rfl⟩
      rw [← hgf] at hc0 hc2 HC0 ⊢
      have Hgf := hid (show g < gf by rw [hgf]; exact HT.out.lt)
      have HXb := hid (HX.out.below HKb.out)
      have HTb := hid (HT.out.below HKb.out)
      have HKw := hid (HK.out.trans (Kept.of_below HKb.out))
      have Hbb := hid (Hbw.out.below HKb.out)
      clear hgf HA HBa HKb HX HT HK Hbw Hix
      go_loopw [9, 24] (fun n j ws => ∃ (m : Nat), m ≤ 6 ∧ j = .int .i64 m ∧ n = .int .u64 ((nb l 8 m : Nat) : Int) ∧ ws = wb) (fun _ j _ => 6 - (intOf j).toNat)
      case atStart => exact ⟨0, by omega, rfl, rfl, rfl⟩
      case round =>
        obtain ⟨m, hm, rfl, rfl, rfl⟩ := hrel
        by_cases hmk : m < 6
        · have Hnx := hid (num_next l 8 m (by rw [Hl.out]; omega))
          have hv := num_bnd l 8 m
          have hc : wr.cell? ⟨b, o + m, none⟩ = some (.int .u8 (n8 (l[8 + m]'(by rw [Hl.out]; omega)))) := by
            have := low_at Hbb.out (8 + m) (by rw [Hl.out]; omega)
            rw [Ho.out]
            exact (show wr.cell? ⟨b, off + 8 + m, none⟩ = _ from by rw [Nat.add_assoc]; exact this)
          generalize l[8 + m]'(by rw [Hl.out]; omega) = ch at hc Hnx
          have h8 := n8_bd ch
          generalize nb l 8 m = v at *
          have how := or_shl_walk v m ch hv (by omega)
          obtain ⟨u, hu⟩ : ∃ u, u = v + 256 ^ m * ch.toNat := ⟨_, rfl⟩
          rw [← hu] at how Hnx
          clear hv hu
          go_wp2
          go_roundw
          case rel => exact ⟨m + 1, by omega, by go_num, by rw [Hnx.out], trivial⟩
          case measure => simp [intOf]; omega
        · obtain rfl : m = 6 := by omega
          clear hmk hm
          obtain ⟨num1, hnum⟩ : ∃ num1, num1 = nb l 8 6 := ⟨_, rfl⟩
          rw [← hnum]
          have Hnum := hid (show num1 = fn l 2 from hnum)
          clear hnum
          go_wp2_with fail
          refine (set2_any g num1 p2 _ _ _ HTb.out (tk_length l 2) (by have := num_bnd l 8 6; rw [Hnum.out]; unfold fn; exact Nat.lt_of_lt_of_le this (by decide)) HXb.out.c2).mono ?_
          rintro y wd ⟨⟨v, rfl⟩, hwd⟩
          have HTd := hid (show IsV wd g 25 (tk l (2 + 1)) by
            rw [hwd]
            have := HTb.out.setC 2 (.int .u64 (num1 : Int))
            rw [Hnum.out] at this
            rw [Hnum.out]
            exact this)
          have HKd := hid (show Kept g w3 wd by rw [hwd]; exact HKw.out.trans (Kept.setCell _ _ _))
          have hc0d : wd.cell? ⟨gf, 0, none⟩ = some (.int .i64 6) := by rw [hwd, World.cell?_setCell_far _ _ _ _ (by exact Nat.ne_of_lt Hgf.out)]; exact hc0
          clear hwd
          go_wp2
          go_roundw
          case rel => exact ⟨2 + 1, _, _, by omega, by go_num, rfl, (by rw [Ho.out]; exact Nat.add_assoc _ _ _), (by have := Hcc.out; have e : plen 2 = 8 := rfl; have e2 : plen (2 + 1) = 14 := rfl; omega), HTd.out, HKd.out⟩
          case measure => simp [intOf]
    · have HX := hid (HX3.out.kept HK.out hXg.out)
      simp only [show plen 3 = 14 from rfl]
      have hcs : 6 < cc := by have := Hcc.out; have e : plen 3 = 14 := rfl; omega
      have Hix := hid (idx3' HF.out wr)
      have Hbw := hid (show IsBytes wr (some ⟨b, off, none⟩) l from Hb3.out.keptV HK.out (fun b' o' e => by have := Hlow.out b' o' e; have := Hg2.out; omega))
      go_wp2_with (first
        | (refine wpList_exec _ (by rfl) (exec_index (.tmp 18) (.tmp 19) rfl rfl rfl Hix.out) ?_)
        | (refine wpList_alloc_V rfl rfl zeroF ?_; intro wa hN hB hS; have HA := hid hN; have HBa := hid hB; clear hN hB hS)
        | (refine wpList_store_V 46 (.tmp 8) (.tmp 21) rfl wr.heap.size [.int .i64 6, .func (.func 32) #[] #[.pointer (some ⟨p3, 0, none⟩)], .func (.func 33) #[] #[.pointer (some ⟨p3, 0, none⟩)]] nilF 46 rfl rfl HA.out rfl sizeF (by intro v hv; simp only [List.mem_cons, List.not_mem_nil, or_false] at hv; rcases hv with rfl | rfl | rfl <;> rfl) (by rfl) ?_; intro wb hN hK hS; have hc0 : wb.cell? ⟨wr.heap.size, 0, none⟩ = some (.int .i64 6) := hN.cell 0; have hc2 : wb.cell? ⟨wr.heap.size, 2, none⟩ = some (.func (.func 33) #[] #[.pointer (some ⟨p3, 0, none⟩)]) := hN.cell 2; have HC0 := hid hN; have HKb := hid (HBa.out.trans (hK.below _ (Nat.le_refl _) HBa.out.size)); clear hN hK hS))
      obtain ⟨gf, hgf⟩ : ∃ gf, gf = wr.heap.size := ⟨_, rfl⟩
      rw [← hgf] at hc0 hc2 HC0 ⊢
      have Hgf := hid (show g < gf by rw [hgf]; exact HT.out.lt)
      have HXb := hid (HX.out.below HKb.out)
      have HTb := hid (HT.out.below HKb.out)
      have HKw := hid (HK.out.trans (Kept.of_below HKb.out))
      have Hbb := hid (Hbw.out.below HKb.out)
      clear hgf HA HBa HKb HX HT HK Hbw Hix
      go_loopw [9, 24] (fun n j ws => ∃ (m : Nat), m ≤ 6 ∧ j = .int .i64 m ∧ n = .int .u64 ((nb l 14 m : Nat) : Int) ∧ ws = wb) (fun _ j _ => 6 - (intOf j).toNat)
      case atStart => exact ⟨0, by omega, rfl, rfl, rfl⟩
      case round =>
        obtain ⟨m, hm, rfl, rfl, rfl⟩ := hrel
        by_cases hmk : m < 6
        · have Hnx := hid (num_next l 14 m (by rw [Hl.out]; omega))
          have hv := num_bnd l 14 m
          have hc : wr.cell? ⟨b, o + m, none⟩ = some (.int .u8 (n8 (l[14 + m]'(by rw [Hl.out]; omega)))) := by
            have := low_at Hbb.out (14 + m) (by rw [Hl.out]; omega)
            rw [Ho.out]
            exact (show wr.cell? ⟨b, off + 14 + m, none⟩ = _ from by rw [Nat.add_assoc]; exact this)
          generalize l[14 + m]'(by rw [Hl.out]; omega) = ch at hc Hnx
          have h8 := n8_bd ch
          generalize nb l 14 m = v at *
          have how := or_shl_walk v m ch hv (by omega)
          obtain ⟨u, hu⟩ : ∃ u, u = v + 256 ^ m * ch.toNat := ⟨_, rfl⟩
          rw [← hu] at how Hnx
          clear hv hu
          go_wp2
          go_roundw
          case rel => exact ⟨m + 1, by omega, by go_num, by rw [Hnx.out], trivial⟩
          case measure => simp [intOf]; omega
        · obtain rfl : m = 6 := by omega
          clear hmk hm
          obtain ⟨num1, hnum⟩ : ∃ num1, num1 = nb l 14 6 := ⟨_, rfl⟩
          rw [← hnum]
          have Hnum := hid (show num1 = fn l 3 from hnum)
          clear hnum
          go_wp2_with fail
          refine (set3_any g num1 p3 _ _ _ HTb.out (tk_length l 3) (by have := num_bnd l 14 6; rw [Hnum.out]; unfold fn; exact Nat.lt_of_lt_of_le this (by decide)) HXb.out.c3).mono ?_
          rintro y wd ⟨⟨v, rfl⟩, hwd⟩
          have HTd := hid (show IsV wd g 25 (tk l (3 + 1)) by
            rw [hwd]
            have := HTb.out.setC 3 (.int .u64 (num1 : Int))
            rw [Hnum.out] at this
            rw [Hnum.out]
            exact this)
          have HKd := hid (show Kept g w3 wd by rw [hwd]; exact HKw.out.trans (Kept.setCell _ _ _))
          have hc0d : wd.cell? ⟨gf, 0, none⟩ = some (.int .i64 6) := by rw [hwd, World.cell?_setCell_far _ _ _ _ (by exact Nat.ne_of_lt Hgf.out)]; exact hc0
          clear hwd
          go_wp2
          go_roundw
          case rel => exact ⟨3 + 1, _, _, by omega, by go_num, rfl, (by rw [Ho.out]; exact Nat.add_assoc _ _ _), (by have := Hcc.out; have e : plen 3 = 14 := rfl; have e2 : plen (3 + 1) = 20 := rfl; omega), HTd.out, HKd.out⟩
          case measure => simp [intOf]
    · have HX := hid (HX3.out.kept HK.out hXg.out)
      simp only [show plen 4 = 20 from rfl]
      have hcs : 6 < cc := by have := Hcc.out; have e : plen 4 = 20 := rfl; omega
      have Hix := hid (idx4' HF.out wr)
      have Hbw := hid (show IsBytes wr (some ⟨b, off, none⟩) l from Hb3.out.keptV HK.out (fun b' o' e => by have := Hlow.out b' o' e; have := Hg2.out; omega))
      go_wp2_with (first
        | (refine wpList_exec _ (by rfl) (exec_index (.tmp 18) (.tmp 19) rfl rfl rfl Hix.out) ?_)
        | (refine wpList_alloc_V rfl rfl zeroF ?_; intro wa hN hB hS; have HA := hid hN; have HBa := hid hB; clear hN hB hS)
        | (refine wpList_store_V 46 (.tmp 8) (.tmp 21) rfl wr.heap.size [.int .i64 6, .func (.func 32) #[] #[.pointer (some ⟨p4, 0, none⟩)], .func (.func 33) #[] #[.pointer (some ⟨p4, 0, none⟩)]] nilF 46 rfl rfl HA.out rfl sizeF (by intro v hv; simp only [List.mem_cons, List.not_mem_nil, or_false] at hv; rcases hv with rfl | rfl | rfl <;> rfl) (by rfl) ?_; intro wb hN hK hS; have hc0 : wb.cell? ⟨wr.heap.size, 0, none⟩ = some (.int .i64 6) := hN.cell 0; have hc2 : wb.cell? ⟨wr.heap.size, 2, none⟩ = some (.func (.func 33) #[] #[.pointer (some ⟨p4, 0, none⟩)]) := hN.cell 2; have HC0 := hid hN; have HKb := hid (HBa.out.trans (hK.below _ (Nat.le_refl _) HBa.out.size)); clear hN hK hS))
      obtain ⟨gf, hgf⟩ : ∃ gf, gf = wr.heap.size := ⟨_, rfl⟩
      rw [← hgf] at hc0 hc2 HC0 ⊢
      have Hgf := hid (show g < gf by rw [hgf]; exact HT.out.lt)
      have HXb := hid (HX.out.below HKb.out)
      have HTb := hid (HT.out.below HKb.out)
      have HKw := hid (HK.out.trans (Kept.of_below HKb.out))
      have Hbb := hid (Hbw.out.below HKb.out)
      clear hgf HA HBa HKb HX HT HK Hbw Hix
      go_loopw [9, 24] (fun n j ws => ∃ (m : Nat), m ≤ 6 ∧ j = .int .i64 m ∧ n = .int .u64 ((nb l 20 m : Nat) : Int) ∧ ws = wb) (fun _ j _ => 6 - (intOf j).toNat)
      case atStart => exact ⟨0, by omega, rfl, rfl, rfl⟩
      case round =>
        obtain ⟨m, hm, rfl, rfl, rfl⟩ := hrel
        by_cases hmk : m < 6
        · have Hnx := hid (num_next l 20 m (by rw [Hl.out]; omega))
          have hv := num_bnd l 20 m
          have hc : wr.cell? ⟨b, o + m, none⟩ = some (.int .u8 (n8 (l[20 + m]'(by rw [Hl.out]; omega)))) := by
            have := low_at Hbb.out (20 + m) (by rw [Hl.out]; omega)
            rw [Ho.out]
            exact (show wr.cell? ⟨b, off + 20 + m, none⟩ = _ from by rw [Nat.add_assoc]; exact this)
          generalize l[20 + m]'(by rw [Hl.out]; omega) = ch at hc Hnx
          have h8 := n8_bd ch
          generalize nb l 20 m = v at *
          have how := or_shl_walk v m ch hv (by omega)
          obtain ⟨u, hu⟩ : ∃ u, u = v + 256 ^ m * ch.toNat := ⟨_, rfl⟩
          rw [← hu] at how Hnx
          clear hv hu
          go_wp2
          go_roundw
          case rel => exact ⟨m + 1, by omega, by go_num, by rw [Hnx.out], trivial⟩
          case measure => simp [intOf]; omega
        · obtain rfl : m = 6 := by omega
          clear hmk hm
          obtain ⟨num1, hnum⟩ : ∃ num1, num1 = nb l 20 6 := ⟨_, rfl⟩
          rw [← hnum]
          have Hnum := hid (show num1 = fn l 4 from hnum)
          clear hnum
          go_wp2_with fail
          refine (set1_any g num1 p4 _ _ _ HTb.out (tk_length l 4) (by have := num_bnd l 20 6; rw [Hnum.out]; unfold fn; exact Nat.lt_of_lt_of_le this (by decide)) HXb.out.c4).mono ?_
          rintro y wd ⟨⟨v, rfl⟩, hwd⟩
          have HTd := hid (show IsV wd g 25 (tk l (4 + 1)) by
            rw [hwd]
            have := HTb.out.setC 1 (.int .u64 (num1 : Int))
            rw [Hnum.out] at this
            rw [Hnum.out]
            exact this)
          have HKd := hid (show Kept g w3 wd by rw [hwd]; exact HKw.out.trans (Kept.setCell _ _ _))
          have hc0d : wd.cell? ⟨gf, 0, none⟩ = some (.int .i64 6) := by rw [hwd, World.cell?_setCell_far _ _ _ _ (by exact Nat.ne_of_lt Hgf.out)]; exact hc0
          clear hwd
          go_wp2
          go_roundw
          case rel => exact ⟨4 + 1, _, _, by omega, by go_num, rfl, (by rw [Ho.out]; exact Nat.add_assoc _ _ _), (by have := Hcc.out; have e : plen 4 = 20 := rfl; have e2 : plen (4 + 1) = 26 := rfl; omega), HTd.out, HKd.out⟩
          case measure => simp [intOf]
    · have HX := hid (HX3.out.kept HK.out hXg.out)
      simp only [show plen 5 = 26 from rfl]
      have hcs : 1 < cc := by have := Hcc.out; have e : plen 5 = 26 := rfl; omega
      have Hix := hid (idx5' HF.out wr)
      have Hbw := hid (show IsBytes wr (some ⟨b, off, none⟩) l from Hb3.out.keptV HK.out (fun b' o' e => by have := Hlow.out b' o' e; have := Hg2.out; omega))
      go_wp2_with (first
        | (refine wpList_exec _ (by rfl) (exec_index (.tmp 18) (.tmp 19) rfl rfl rfl Hix.out) ?_)
        | (refine wpList_alloc_V rfl rfl zeroF ?_; intro wa hN hB hS; have HA := hid hN; have HBa := hid hB; clear hN hB hS)
        | (refine wpList_store_V 46 (.tmp 8) (.tmp 21) rfl wr.heap.size [.int .i64 1, .func (.func 34) #[] #[.pointer (some ⟨p5, 0, none⟩)], .func (.func 35) #[] #[.pointer (some ⟨p5, 0, none⟩)]] nilF 46 rfl rfl HA.out rfl sizeF (by intro v hv; simp only [List.mem_cons, List.not_mem_nil, or_false] at hv; rcases hv with rfl | rfl | rfl <;> rfl) (by rfl) ?_; intro wb hN hK hS; have hc0 : wb.cell? ⟨wr.heap.size, 0, none⟩ = some (.int .i64 1) := hN.cell 0; have hc2 : wb.cell? ⟨wr.heap.size, 2, none⟩ = some (.func (.func 35) #[] #[.pointer (some ⟨p5, 0, none⟩)]) := hN.cell 2; have HC0 := hid hN; have HKb := hid (HBa.out.trans (hK.below _ (Nat.le_refl _) HBa.out.size)); clear hN hK hS))
      obtain ⟨gf, hgf⟩ : ∃ gf, gf = wr.heap.size := ⟨_, rfl⟩
      rw [← hgf] at hc0 hc2 HC0 ⊢
      have Hgf := hid (show g < gf by rw [hgf]; exact HT.out.lt)
      have HXb := hid (HX.out.below HKb.out)
      have HTb := hid (HT.out.below HKb.out)
      have HKw := hid (HK.out.trans (Kept.of_below HKb.out))
      have Hbb := hid (Hbw.out.below HKb.out)
      clear hgf HA HBa HKb HX HT HK Hbw Hix
      go_loopw [9, 24] (fun n j ws => ∃ (m : Nat), m ≤ 1 ∧ j = .int .i64 m ∧ n = .int .u64 ((nb l 26 m : Nat) : Int) ∧ ws = wb) (fun _ j _ => 1 - (intOf j).toNat)
      case atStart => exact ⟨0, by omega, rfl, rfl, rfl⟩
      case round =>
        obtain ⟨m, hm, rfl, rfl, rfl⟩ := hrel
        by_cases hmk : m < 1
        · have Hnx := hid (num_next l 26 m (by rw [Hl.out]; omega))
          have hv := num_bnd l 26 m
          have hc : wr.cell? ⟨b, o + m, none⟩ = some (.int .u8 (n8 (l[26 + m]'(by rw [Hl.out]; omega)))) := by
            have := low_at Hbb.out (26 + m) (by rw [Hl.out]; omega)
            rw [Ho.out]
            exact (show wr.cell? ⟨b, off + 26 + m, none⟩ = _ from by rw [Nat.add_assoc]; exact this)
          generalize l[26 + m]'(by rw [Hl.out]; omega) = ch at hc Hnx
          have h8 := n8_bd ch
          generalize nb l 26 m = v at *
          have how := or_shl_walk v m ch hv (by omega)
          obtain ⟨u, hu⟩ : ∃ u, u = v + 256 ^ m * ch.toNat := ⟨_, rfl⟩
          rw [← hu] at how Hnx
          clear hv hu
          go_wp2
          go_roundw
          case rel => exact ⟨m + 1, by omega, by go_num, by rw [Hnx.out], trivial⟩
          case measure => simp [intOf]; omega
        · obtain rfl : m = 1 := by omega
          clear hmk hm
          obtain ⟨num1, hnum⟩ : ∃ num1, num1 = nb l 26 1 := ⟨_, rfl⟩
          rw [← hnum]
          have Hnum := hid (show num1 = fn l 5 from hnum)
          clear hnum
          go_wp2_with fail
          refine (set4_any g num1 p5 _ _ _ HTb.out (tk_length l 5) (by have := num_bnd l 26 1; rw [Hnum.out]; unfold fn; exact Nat.lt_of_lt_of_le this (by decide)) HXb.out.c5).mono ?_
          rintro y wd ⟨⟨v, rfl⟩, hwd⟩
          have HTd := hid (show IsV wd g 25 (tk l (5 + 1)) by
            rw [hwd]
            have := HTb.out.setC 4 (.int .i64 (num1 : Int))
            rw [Hnum.out] at this
            rw [Hnum.out]
            exact this)
          have HKd := hid (show Kept g w3 wd by rw [hwd]; exact HKw.out.trans (Kept.setCell _ _ _))
          have hc0d : wd.cell? ⟨gf, 0, none⟩ = some (.int .i64 1) := by rw [hwd, World.cell?_setCell_far _ _ _ _ (by exact Nat.ne_of_lt Hgf.out)]; exact hc0
          clear hwd
          go_wp2
          go_roundw
          case rel => exact ⟨5 + 1, _, _, by omega, by go_num, rfl, (by rw [Ho.out]; exact Nat.add_assoc _ _ _), (by have := Hcc.out; have e : plen 5 = 26 := rfl; have e2 : plen (5 + 1) = 27 := rfl; omega), HTd.out, HKd.out⟩
          case measure => simp [intOf]
    · have HX := hid (HX3.out.kept HK.out hXg.out)
      simp only [show plen 6 = 27 from rfl]
      have hcs : 1 < cc := by have := Hcc.out; have e : plen 6 = 27 := rfl; omega
      have Hix := hid (idx6' HF.out wr)
      have Hbw := hid (show IsBytes wr (some ⟨b, off, none⟩) l from Hb3.out.keptV HK.out (fun b' o' e => by have := Hlow.out b' o' e; have := Hg2.out; omega))
      go_wp2_with (first
        | (refine wpList_exec _ (by rfl) (exec_index (.tmp 18) (.tmp 19) rfl rfl rfl Hix.out) ?_)
        | (refine wpList_alloc_V rfl rfl zeroF ?_; intro wa hN hB hS; have HA := hid hN; have HBa := hid hB; clear hN hB hS)
        | (refine wpList_store_V 46 (.tmp 8) (.tmp 21) rfl wr.heap.size [.int .i64 1, .func (.func 34) #[] #[.pointer (some ⟨p6, 0, none⟩)], .func (.func 35) #[] #[.pointer (some ⟨p6, 0, none⟩)]] nilF 46 rfl rfl HA.out rfl sizeF (by intro v hv; simp only [List.mem_cons, List.not_mem_nil, or_false] at hv; rcases hv with rfl | rfl | rfl <;> rfl) (by rfl) ?_; intro wb hN hK hS; have hc0 : wb.cell? ⟨wr.heap.size, 0, none⟩ = some (.int .i64 1) := hN.cell 0; have hc2 : wb.cell? ⟨wr.heap.size, 2, none⟩ = some (.func (.func 35) #[] #[.pointer (some ⟨p6, 0, none⟩)]) := hN.cell 2; have HC0 := hid hN; have HKb := hid (HBa.out.trans (hK.below _ (Nat.le_refl _) HBa.out.size)); clear hN hK hS))
      obtain ⟨gf, hgf⟩ : ∃ gf, gf = wr.heap.size := ⟨_, rfl⟩
      rw [← hgf] at hc0 hc2 HC0 ⊢
      have Hgf := hid (show g < gf by rw [hgf]; exact HT.out.lt)
      have HXb := hid (HX.out.below HKb.out)
      have HTb := hid (HT.out.below HKb.out)
      have HKw := hid (HK.out.trans (Kept.of_below HKb.out))
      have Hbb := hid (Hbw.out.below HKb.out)
      clear hgf HA HBa HKb HX HT HK Hbw Hix
      go_loopw [9, 24] (fun n j ws => ∃ (m : Nat), m ≤ 1 ∧ j = .int .i64 m ∧ n = .int .u64 ((nb l 27 m : Nat) : Int) ∧ ws = wb) (fun _ j _ => 1 - (intOf j).toNat)
      case atStart => exact ⟨0, by omega, rfl, rfl, rfl⟩
      case round =>
        obtain ⟨m, hm, rfl, rfl, rfl⟩ := hrel
        by_cases hmk : m < 1
        · have Hnx := hid (num_next l 27 m (by rw [Hl.out]; omega))
          have hv := num_bnd l 27 m
          have hc : wr.cell? ⟨b, o + m, none⟩ = some (.int .u8 (n8 (l[27 + m]'(by rw [Hl.out]; omega)))) := by
            have := low_at Hbb.out (27 + m) (by rw [Hl.out]; omega)
            rw [Ho.out]
            exact (show wr.cell? ⟨b, off + 27 + m, none⟩ = _ from by rw [Nat.add_assoc]; exact this)
          generalize l[27 + m]'(by rw [Hl.out]; omega) = ch at hc Hnx
          have h8 := n8_bd ch
          generalize nb l 27 m = v at *
          have how := or_shl_walk v m ch hv (by omega)
          obtain ⟨u, hu⟩ : ∃ u, u = v + 256 ^ m * ch.toNat := ⟨_, rfl⟩
          rw [← hu] at how Hnx
          clear hv hu
          go_wp2
          go_roundw
          case rel => exact ⟨m + 1, by omega, by go_num, by rw [Hnx.out], trivial⟩
          case measure => simp [intOf]; omega
        · obtain rfl : m = 1 := by omega
          clear hmk hm
          obtain ⟨num1, hnum⟩ : ∃ num1, num1 = nb l 27 1 := ⟨_, rfl⟩
          rw [← hnum]
          have Hnum := hid (show num1 = fn l 6 from hnum)
          clear hnum
          go_wp2_with fail
          refine (set5_any g num1 p6 _ _ _ HTb.out (tk_length l 6) (by have := num_bnd l 27 1; rw [Hnum.out]; unfold fn; exact Nat.lt_of_lt_of_le this (by decide)) HXb.out.c6).mono ?_
          rintro y wd ⟨⟨v, rfl⟩, hwd⟩
          have HTd := hid (show IsV wd g 25 (tk l (6 + 1)) by
            rw [hwd]
            have := HTb.out.setC 5 (.int .i64 (num1 : Int))
            rw [Hnum.out] at this
            rw [Hnum.out]
            exact this)
          have HKd := hid (show Kept g w3 wd by rw [hwd]; exact HKw.out.trans (Kept.setCell _ _ _))
          have hc0d : wd.cell? ⟨gf, 0, none⟩ = some (.int .i64 1) := by rw [hwd, World.cell?_setCell_far _ _ _ _ (by exact Nat.ne_of_lt Hgf.out)]; exact hc0
          clear hwd
          go_wp2
          go_roundw
          case rel => exact ⟨6 + 1, _, _, by omega, by go_num, rfl, (by rw [Ho.out]; exact Nat.add_assoc _ _ _), (by have := Hcc.out; have e : plen 6 = 27 := rfl; have e2 : plen (6 + 1) = 28 := rfl; omega), HTd.out, HKd.out⟩
          case measure => simp [intOf]
    · have HX := hid (HX3.out.kept HK.out hXg.out)
      simp only [show plen 7 = 28 from rfl]
      have hcs : 2 < cc := by have := Hcc.out; have e : plen 7 = 28 := rfl; omega
      have Hix := hid (idx7' HF.out wr)
      have Hbw := hid (show IsBytes wr (some ⟨b, off, none⟩) l from Hb3.out.keptV HK.out (fun b' o' e => by have := Hlow.out b' o' e; have := Hg2.out; omega))
      go_wp2_with (first
        | (refine wpList_exec _ (by rfl) (exec_index (.tmp 18) (.tmp 19) rfl rfl rfl Hix.out) ?_)
        | (refine wpList_alloc_V rfl rfl zeroF ?_; intro wa hN hB hS; have HA := hid hN; have HBa := hid hB; clear hN hB hS)
        | (refine wpList_store_V 46 (.tmp 8) (.tmp 21) rfl wr.heap.size [.int .i64 2, .func (.func 34) #[] #[.pointer (some ⟨p7, 0, none⟩)], .func (.func 35) #[] #[.pointer (some ⟨p7, 0, none⟩)]] nilF 46 rfl rfl HA.out rfl sizeF (by intro v hv; simp only [List.mem_cons, List.not_mem_nil, or_false] at hv; rcases hv with rfl | rfl | rfl <;> rfl) (by rfl) ?_; intro wb hN hK hS; have hc0 : wb.cell? ⟨wr.heap.size, 0, none⟩ = some (.int .i64 2) := hN.cell 0; have hc2 : wb.cell? ⟨wr.heap.size, 2, none⟩ = some (.func (.func 35) #[] #[.pointer (some ⟨p7, 0, none⟩)]) := hN.cell 2; have HC0 := hid hN; have HKb := hid (HBa.out.trans (hK.below _ (Nat.le_refl _) HBa.out.size)); clear hN hK hS))
      obtain ⟨gf, hgf⟩ : ∃ gf, gf = wr.heap.size := ⟨_, rfl⟩
      rw [← hgf] at hc0 hc2 HC0 ⊢
      have Hgf := hid (show g < gf by rw [hgf]; exact HT.out.lt)
      have HXb := hid (HX.out.below HKb.out)
      have HTb := hid (HT.out.below HKb.out)
      have HKw := hid (HK.out.trans (Kept.of_below HKb.out))
      have Hbb := hid (Hbw.out.below HKb.out)
      clear hgf HA HBa HKb HX HT HK Hbw Hix
      go_loopw [9, 24] (fun n j ws => ∃ (m : Nat), m ≤ 2 ∧ j = .int .i64 m ∧ n = .int .u64 ((nb l 28 m : Nat) : Int) ∧ ws = wb) (fun _ j _ => 2 - (intOf j).toNat)
      case atStart => exact ⟨0, by omega, rfl, rfl, rfl⟩
      case round =>
        obtain ⟨m, hm, rfl, rfl, rfl⟩ := hrel
        by_cases hmk : m < 2
        · have Hnx := hid (num_next l 28 m (by rw [Hl.out]; omega))
          have hv := num_bnd l 28 m
          have hc : wr.cell? ⟨b, o + m, none⟩ = some (.int .u8 (n8 (l[28 + m]'(by rw [Hl.out]; omega)))) := by
            have := low_at Hbb.out (28 + m) (by rw [Hl.out]; omega)
            rw [Ho.out]
            exact (show wr.cell? ⟨b, off + 28 + m, none⟩ = _ from by rw [Nat.add_assoc]; exact this)
          generalize l[28 + m]'(by rw [Hl.out]; omega) = ch at hc Hnx
          have h8 := n8_bd ch
          generalize nb l 28 m = v at *
          have how := or_shl_walk v m ch hv (by omega)
          obtain ⟨u, hu⟩ : ∃ u, u = v + 256 ^ m * ch.toNat := ⟨_, rfl⟩
          rw [← hu] at how Hnx
          clear hv hu
          go_wp2
          go_roundw
          case rel => exact ⟨m + 1, by omega, by go_num, by rw [Hnx.out], trivial⟩
          case measure => simp [intOf]; omega
        · obtain rfl : m = 2 := by omega
          clear hmk hm
          obtain ⟨num1, hnum⟩ : ∃ num1, num1 = nb l 28 2 := ⟨_, rfl⟩
          rw [← hnum]
          have Hnum := hid (show num1 = fn l 7 from hnum)
          clear hnum
          go_wp2_with fail
          refine (set6_any g num1 p7 _ _ _ HTb.out (tk_length l 7) (by have := num_bnd l 28 2; rw [Hnum.out]; unfold fn; exact Nat.lt_of_lt_of_le this (by decide)) HXb.out.c7).mono ?_
          rintro y wd ⟨⟨v, rfl⟩, hwd⟩
          have HTd := hid (show IsV wd g 25 (tk l (7 + 1)) by
            rw [hwd]
            have := HTb.out.setC 6 (.int .i64 (num1 : Int))
            rw [Hnum.out] at this
            rw [Hnum.out]
            exact this)
          have HKd := hid (show Kept g w3 wd by rw [hwd]; exact HKw.out.trans (Kept.setCell _ _ _))
          have hc0d : wd.cell? ⟨gf, 0, none⟩ = some (.int .i64 2) := by rw [hwd, World.cell?_setCell_far _ _ _ _ (by exact Nat.ne_of_lt Hgf.out)]; exact hc0
          clear hwd
          go_wp2
          go_roundw
          case rel => exact ⟨7 + 1, _, _, by omega, by go_num, rfl, (by rw [Ho.out]; exact Nat.add_assoc _ _ _), (by have := Hcc.out; have e : plen 7 = 28 := rfl; have e2 : plen (7 + 1) = 30 := rfl; omega), HTd.out, HKd.out⟩
          case measure => simp [intOf]
    · have HX := hid (HX3.out.kept HK.out hXg.out)
      simp only [show plen 8 = 30 from rfl]
      have hcs : 2 < cc := by have := Hcc.out; have e : plen 8 = 30 := rfl; omega
      have Hix := hid (idx8' HF.out wr)
      have Hbw := hid (show IsBytes wr (some ⟨b, off, none⟩) l from Hb3.out.keptV HK.out (fun b' o' e => by have := Hlow.out b' o' e; have := Hg2.out; omega))
      go_wp2_with (first
        | (refine wpList_exec _ (by rfl) (exec_index (.tmp 18) (.tmp 19) rfl rfl rfl Hix.out) ?_)
        | (refine wpList_alloc_V rfl rfl zeroF ?_; intro wa hN hB hS; have HA := hid hN; have HBa := hid hB; clear hN hB hS)
        | (refine wpList_store_V 46 (.tmp 8) (.tmp 21) rfl wr.heap.size [.int .i64 2, .func (.func 30) #[] #[.pointer (some ⟨p8, 0, none⟩)], .func (.func 31) #[] #[]] nilF 46 rfl rfl HA.out rfl sizeF (by intro v hv; simp only [List.mem_cons, List.not_mem_nil, or_false] at hv; rcases hv with rfl | rfl | rfl <;> rfl) (by rfl) ?_; intro wb hN hK hS; have hc0 : wb.cell? ⟨wr.heap.size, 0, none⟩ = some (.int .i64 2) := hN.cell 0; have hc2 : wb.cell? ⟨wr.heap.size, 2, none⟩ = some (.func (.func 31) #[] #[]) := hN.cell 2; have HC0 := hid hN; have HKb := hid (HBa.out.trans (hK.below _ (Nat.le_refl _) HBa.out.size)); clear hN hK hS))
      obtain ⟨gf, hgf⟩ : ∃ gf, gf = wr.heap.size := ⟨_, rfl⟩
      rw [← hgf] at hc0 hc2 HC0 ⊢
      have Hgf := hid (show g < gf by rw [hgf]; exact HT.out.lt)
      have HXb := hid (HX.out.below HKb.out)
      have HTb := hid (HT.out.below HKb.out)
      have HKw := hid (HK.out.trans (Kept.of_below HKb.out))
      have Hbb := hid (Hbw.out.below HKb.out)
      clear hgf HA HBa HKb HX HT HK Hbw Hix
      go_loopw [9, 24] (fun n j ws => ∃ (m : Nat), m ≤ 2 ∧ j = .int .i64 m ∧ n = .int .u64 ((nb l 30 m : Nat) : Int) ∧ ws = wb) (fun _ j _ => 2 - (intOf j).toNat)
      case atStart => exact ⟨0, by omega, rfl, rfl, rfl⟩
      case round =>
        obtain ⟨m, hm, rfl, rfl, rfl⟩ := hrel
        by_cases hmk : m < 2
        · have Hnx := hid (num_next l 30 m (by rw [Hl.out]; omega))
          have hv := num_bnd l 30 m
          have hc : wr.cell? ⟨b, o + m, none⟩ = some (.int .u8 (n8 (l[30 + m]'(by rw [Hl.out]; omega)))) := by
            have := low_at Hbb.out (30 + m) (by rw [Hl.out]; omega)
            rw [Ho.out]
            exact (show wr.cell? ⟨b, off + 30 + m, none⟩ = _ from by rw [Nat.add_assoc]; exact this)
          generalize l[30 + m]'(by rw [Hl.out]; omega) = ch at hc Hnx
          have h8 := n8_bd ch
          generalize nb l 30 m = v at *
          have how := or_shl_walk v m ch hv (by omega)
          obtain ⟨u, hu⟩ : ∃ u, u = v + 256 ^ m * ch.toNat := ⟨_, rfl⟩
          rw [← hu] at how Hnx
          clear hv hu
          go_wp2
          go_roundw
          case rel => exact ⟨m + 1, by omega, by go_num, by rw [Hnx.out], trivial⟩
          case measure => simp [intOf]; omega
        · obtain rfl : m = 2 := by omega
          clear hmk hm
          obtain ⟨num1, hnum⟩ : ∃ num1, num1 = nb l 30 2 := ⟨_, rfl⟩
          rw [← hnum]
          have Hnum := hid (show num1 = fn l 8 from hnum)
          clear hnum
          go_wp2_with fail
          refine (setC_any _ num1 _).mono ?_
          rintro y wd ⟨⟨v, rfl⟩, rfl⟩
          have HTd := hid (show IsV _ g 25 (tk l (8 + 1)) from HTb.out)
          have HKd := hid HKw.out
          go_wp2
          go_roundw
          case rel => exact ⟨8 + 1, _, _, by omega, by go_num, rfl, (by rw [Ho.out]; exact Nat.add_assoc _ _ _), (by have := Hcc.out; have e : plen 8 = 30 := rfl; have e2 : plen (8 + 1) = 32 := rfl; omega), HTd.out, HKd.out⟩
          case measure => simp [intOf]
    · have HX := hid trivial
      have Hw1 := hid (show IsBytes wr (some ⟨b, o, none⟩) (l.drop 32) by
        have := Hb3.out.keptV HK.out (fun b' o' e => by have := Hlow.out b' o' e; have := Hg2.out; omega)
        rw [Ho.out]
        exact this.dropV 32)
      have Hw0 := hid (show IsBytes wr (some ⟨b, off, none⟩) l from Hb3.out.keptV HK.out (fun b' o' e => by have := Hlow.out b' o' e; have := Hg2.out; omega))
      have HRr := hid (HR3.out.kept HK.out (Nat.ne_of_lt Hg2.out))
      have HBr := hid (HB3.out.trans (HK.out.below _ (Nat.le_of_lt Hg2.out) HB3.out.size))
      have HT9 := hid (show IsV wr g 25 (tagL (fn l 1) (fn l 4) (fn l 2) (fn l 3) (fn l 5) (fn l 6) (fn l 7)) from HT.out)
      have hle : (l.drop 32).length = 480 := by rw [List.length_drop, Hl.out]
      have HLe := hid hle
      have Htk := hid (show tk l 9 = tagL (fn l 1) (fn l 4) (fn l 2) (fn l 3) (fn l 5) (fn l 6) (fn l 7) from rfl)
      have Htok := hid (show tagOk l = (right (fn l 1) (fn l 4) (fn l 2) (fn l 3) (fn l 5) (fn l 6) (fn l 7) && decide (head (fn l 1) (fn l 4) (fn l 2) (fn l 3) (fn l 5) (fn l 6) (fn l 7) ++ l.drop 32 = l)) by unfold tagOk; rw [decide_eq_true Hl.out, Bool.true_and])
      have he1 : fn l 1 < 4294967296 := num_bnd _ _ _
      simp only [show plen 9 = 32 from rfl]
      clear HT hle HK HX
      generalize fn l 1 = n1 at *
      generalize fn l 2 = n2 at *
      generalize fn l 3 = n3 at *
      generalize fn l 4 = n4 at *
      generalize fn l 5 = n5 at *
      generalize fn l 6 = n6 at *
      generalize fn l 7 = n7 at *
      go_wp2_with (refine wpList_load_V (.tmp 5) rfl g rfl (tagL n1 n4 n2 n3 n5 n6 n7) _ HT9.out Try.underlying25 rfl size25 (by rfl) ?_)
      rw [show (tagL n1 n4 n2 n3 n5 n6 n7).toArray = tagV n1 n4 n2 n3 n5 n6 n7 from rfl]
      rcases hq : right n1 n4 n2 n3 n5 n6 n7 with _ | _
      · have Hno := hid (show tagOk l = false by rw [Htok.out, hq]; rfl)
        refine (encode_no n1 n4 n2 n3 n5 n6 n7 480 (.inl hq) _ _ _).mono ?_
        rintro x we ⟨rfl, hB⟩
        have HRe := hid (HRr.out.below hB)
        have HBe := hid (HBr.out.trans (hB.mono HBr.out.size))
        clear hB hq
        go_wp2_with (first
          | (refine wpList_exec (.agg zeroT.toArray) (by rfl) (exec_build0 rfl built25z) ?_)
          | (refine wpList_store_V 25 (.tmp 2) (.tmp 61) rfl w.heap.size zeroT zeroT 25 rfl rfl HRe.out rfl size25 zeroT_one (by rfl) ?_; intro wz hN hK hS; have HNz := hid hN; have HBz := hid (HBe.out.trans (hK.below _ (Nat.le_refl _) HBe.out.size)); clear hN hK hS))
        have hld := loadVar_V (P := Try.prog) (T := 25) HNz.out Try.underlying25 rfl size25
        exact bodyPost_ret (v := .tuple #[.agg zeroT.toArray, .slice none 0 0, .int .i64 4]) (results_cell2 Try.results13 rfl rfl rfl hld) rfl ⟨.inl ⟨Hno.out, rfl⟩, HBz.out⟩
      · have Htok1 := hid (show tagOk l = decide (head n1 n4 n2 n3 n5 n6 n7 ++ l.drop 32 = l) by rw [Htok.out, hq]; rfl)
        refine (encode_yes n1 n4 n2 n3 n5 n6 n7 he1 hq (l.drop 32) HLe.out _ _ _ Hw1.out).mono ?_
        rintro x we ⟨ge, rfl, hge, hE, hB⟩
        have HRe := hid (HRr.out.below hB)
        have HTe := hid (HT9.out.below hB)
        have HBe := hid (HBr.out.trans (hB.mono HBr.out.size))
        have Hw0e := hid (Hw0.out.below hB)
        have Hw1e := hid (Hw1.out.below hB)
        have HEe := hid hE.bytes
        have Hlen := hid (show (head n1 n4 n2 n3 n5 n6 n7 ++ l.drop 32).length = 512 by rw [List.length_append, head_length, HLe.out])
        clear hB hq hge hE
        go_wp2_with fail
        refine (equal_any (head n1 n4 n2 n3 n5 n6 n7 ++ l.drop 32) l 512 512 Hlen.out Hl.out _ _ _ _ _ HEe.out Hw0e.out).mono ?_
        rintro x wf ⟨rfl, rfl⟩
        rcases heq : decide (head n1 n4 n2 n3 n5 n6 n7 ++ l.drop 32 = l) with _ | _
        · have Hno := hid (Htok1.out.trans heq)
          clear heq
          go_wp2_with (first
            | (refine wpList_exec (.agg zeroT.toArray) (by rfl) (exec_build0 rfl built25z) ?_)
            | (refine wpList_store_V 25 (.tmp 2) (.tmp 61) rfl w.heap.size zeroT zeroT 25 rfl rfl HRe.out rfl size25 zeroT_one (by rfl) ?_; intro wz hN hK hS; have HNz := hid hN; have HBz := hid (HBe.out.trans (hK.below _ (Nat.le_refl _) HBe.out.size)); clear hN hK hS))
          have hld := loadVar_V (P := Try.prog) (T := 25) HNz.out Try.underlying25 rfl size25
          exact bodyPost_ret (v := .tuple #[.agg zeroT.toArray, .slice none 0 0, .int .i64 4]) (results_cell2 Try.results13 rfl rfl rfl hld) rfl ⟨.inl ⟨Hno.out, rfl⟩, HBz.out⟩
        · have Hyes := hid (Htok1.out.trans heq)
          clear heq
          obtain ⟨A', c', wA, hap, hown, hBA⟩ := append_run elemU8 26 (base := we.heap.size) (w := we.drew) (A := none) (n := 0) (c := 0) (m := 480) (c2 := cc) Own.nothing rfl (Hw1e.out.below (Below.refl _ _).drew).row (by rw [List.length_map, HLe.out]) (byteV_one _) (by omega) (by omega) (by simp)
          rw [Nat.zero_add] at hap
          rw [List.nil_append] at hown
          obtain ⟨ga, rfl, hga1, hga2⟩ := hown.form (by intro h0; have := congrArg List.length h0; rw [List.length_map, HLe.out] at this; simp at this)
          have HO := hid hown
          have HBA := hid (show Below we.heap.size we wA from (Below.refl _ _).drew.trans hBA)
          have HRa := hid (HRe.out.below HBA.out)
          have HTa := hid (HTe.out.below HBA.out)
          have HBa := hid (HBe.out.trans (HBA.out.mono HBe.out.size))
          have Hga := hid (show w.heap.size < ga by have := HRe.out.lt; omega)
          clear hown hBA hga1 hga2
          go_wp2_with fail
          refine wp_region_noPanic ?_
          refine wp_region_held_drew (S := fun W => IsV W g 25 (tagL n1 n4 n2 n3 n5 n6 n7)) (by kernel_rfl) (HTe.out.below (Below.refl _ _).drew) (fun hS => ?_)
          refine take_at (i := 0) (v := .agg (tagL n1 n4 n2 n3 n5 n6 n7).toArray) rfl (by kernel_rfl) (by kernel_rfl) (by kernel_rfl) (fun _ _ _ h => h) hS (by rfl) ?h0 ?r0
          case h0 => (intro W hSW; exact exec_load_V (.tmp 5) rfl g rfl (tagL n1 n4 n2 n3 n5 n6 n7) _ hSW Try.underlying25 rfl size25)
          try simp only [Act.put, List.setIfInBounds_toArray, List.set_cons_zero, List.set_cons_succ]
          refine take_at (i := 1) (v := ?v1) rfl (by kernel_rfl) (by kernel_rfl) (by kernel_rfl) (fun _ _ _ h => h) hS (by rfl) ?h1 ?r1
          case h1 => (intro W hSW; (try dsimp only at hSW); go_simp; (try with_reducible rfl))
          try simp only [Act.put, List.setIfInBounds_toArray, List.set_cons_zero, List.set_cons_succ]
          refine ready_at (i := 2) rfl (by kernel_rfl) (fun K hK => ?_)
          refine step_append_run (.const (.slice none 0 0)) (.tmp 63) hap rfl rfl rfl rfl ?_
          refine hK.out _ _ HTa.out (fun hS => ?_)
          clear hK K
          try simp only [Act.put, List.setIfInBounds_toArray, List.set_cons_zero, List.set_cons_succ]
          refine ready_at (i := 3) rfl (by kernel_rfl) (fun K hK => ?_)
          refine wp_store_V 25 (.tmp 2) (.tmp 62) rfl w.heap.size (tagL n1 n4 n2 n3 n5 n6 n7) zeroT 25 rfl rfl HRa.out rfl size25 (tagL_one _ _ _ _ _ _ _) (by rfl) ?_
          intro wz hN hK2 hS2
          have HNz := hid hN
          have HTz := hid (HTa.out.kept hK2 (Nat.ne_of_gt Hg2.out))
          have HBz := hid (HBa.out.trans (hK2.below _ (Nat.le_refl _) HBa.out.size))
          have HOz := hid ((HO.out.kept hK2 (fun g' e => by cases e; exact Nat.ne_of_gt Hga.out)).mono (base' := w.heap.size) HBe.out.size)
          clear hN hK2 hS2
          refine hK.out _ _ HTz.out (fun hS => ?_)
          clear hK K
          try simp only [Act.put]
          refine ready_at (i := 4) rfl (by kernel_rfl) (fun K hK => ?_)
          go_simp
          refine hK.out _ _ HTz.out (fun hS => ?_)
          clear hK K
          try simp only [Act.put, List.setIfInBounds_toArray, List.set_cons_zero, List.set_cons_succ]
          refine ready_at (i := 5) rfl (by kernel_rfl) (fun K hK => ?_)
          go_simp
          refine hK.out _ _ HTz.out (fun hS => ?_)
          clear hK K
          try simp only [Act.put, List.setIfInBounds_toArray, List.set_cons_zero, List.set_cons_succ]
          refine wpAnyH_done (by kernel_rfl) ?_ _
          refine NoPanic.normal ?_
          go_wp2_with fail
          have hld := loadVar_V (P := Try.prog) (T := 25) HNz.out Try.underlying25 rfl size25
          exact bodyPost_ret (v := .tuple #[.agg (tagL n1 n4 n2 n3 n5 n6 n7).toArray, .slice (some ⟨ga, 0, none⟩) 480 c', .int .i64 0]) (results_cell2 Try.results13 rfl rfl rfl hld) rfl ⟨.inr ⟨Hyes.out, _, _, by rw [Htk.out], HOz.out⟩, HBz.out⟩
end Go.Proofs.Ytmfncpifalnggaa
