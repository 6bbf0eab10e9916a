/- The walk of tag.Encode. -/
import Derived.Test.YtmfncpifalnggaaTag4
import Derived.Test.YtmfncpifalnggaaBuf
namespace Go.Proofs.Ytmfncpifalnggaa
open Go.RowKit O
set_option linter.unusedVariables false

theorem byte_val (q : Nat) : Value.int .u8 ((q : Int) % 256) = byteV (UInt8.ofNat q) := by
  unfold byteV n8
  rw [UInt8.toNat_ofNat']
  congr 1
def tagL (e s q f : Nat) (i c d : Int) : List Value := [.int .u32 (e : Int), .int .u64 (s : Int), .int .u64 (q : Int), .int .u64 (f : Int), .int .i64 i, .int .i64 c, .int .i64 d]
theorem tagL_one (e s q f : Nat) (i c d : Int) : ∀ v ∈ tagL e s q f i c d, v.oneCell' = true := by
  intro v hv
  unfold tagL at hv
  simp only [List.mem_cons, List.not_mem_nil, or_false] at hv
  rcases hv with rfl | rfl | rfl | rfl | rfl | rfl | rfl <;> rfl
theorem size25 : (Try.prog.info? 25).map (·.size) = some 7 := by kernel_rfl
theorem idx0 (p0 p2 p3 p4 p5 p6 p7 p8 : Nat) (w : World) : (Instr.index 47 (.agg (fieldsL p0 p2 p3 p4 p5 p6 p7 p8).toArray) (.int .i64 0)).run Try.prog w = .ok (.agg #[.int .i64 4, .func (.func 30) #[] #[.pointer (some ⟨p0, 0, none⟩)], .func (.func 31) #[] #[]]) w := by kernel_rfl
theorem idx0' {p0 p2 p3 p4 p5 p6 p7 p8 : Nat} {F : Array Value} (hF : F = (fieldsL p0 p2 p3 p4 p5 p6 p7 p8).toArray) (w : World) : (Instr.index 47 (.agg F) (.int .i64 0)).run Try.prog w = .ok (.agg #[.int .i64 4, .func (.func 30) #[] #[.pointer (some ⟨p0, 0, none⟩)], .func (.func 31) #[] #[]]) w := by
  rw [hF]
  exact idx0 p0 p2 p3 p4 p5 p6 p7 p8 w
theorem idx1 (p0 p2 p3 p4 p5 p6 p7 p8 : Nat) (w : World) : (Instr.index 47 (.agg (fieldsL p0 p2 p3 p4 p5 p6 p7 p8).toArray) (.int .i64 1)).run Try.prog w = .ok (.agg #[.int .i64 4, .func (.func 20) #[] #[], .func (.func 21) #[] #[]]) w := by kernel_rfl
theorem idx1' {p0 p2 p3 p4 p5 p6 p7 p8 : Nat} {F : Array Value} (hF : F = (fieldsL p0 p2 p3 p4 p5 p6 p7 p8).toArray) (w : World) : (Instr.index 47 (.agg F) (.int .i64 1)).run Try.prog w = .ok (.agg #[.int .i64 4, .func (.func 20) #[] #[], .func (.func 21) #[] #[]]) w := by
  rw [hF]
  exact idx1 p0 p2 p3 p4 p5 p6 p7 p8 w
theorem idx2 (p0 p2 p3 p4 p5 p6 p7 p8 : Nat) (w : World) : (Instr.index 47 (.agg (fieldsL p0 p2 p3 p4 p5 p6 p7 p8).toArray) (.int .i64 2)).run Try.prog w = .ok (.agg #[.int .i64 6, .func (.func 32) #[] #[.pointer (some ⟨p2, 0, none⟩)], .func (.func 33) #[] #[.pointer (some ⟨p2, 0, none⟩)]]) w := by kernel_rfl
theorem idx2' {p0 p2 p3 p4 p5 p6 p7 p8 : Nat} {F : Array Value} (hF : F = (fieldsL p0 p2 p3 p4 p5 p6 p7 p8).toArray) (w : World) : (Instr.index 47 (.agg F) (.int .i64 2)).run Try.prog w = .ok (.agg #[.int .i64 6, .func (.func 32) #[] #[.pointer (some ⟨p2, 0, none⟩)], .func (.func 33) #[] #[.pointer (some ⟨p2, 0, none⟩)]]) w := by
  rw [hF]
  exact idx2 p0 p2 p3 p4 p5 p6 p7 p8 w
theorem idx3 (p0 p2 p3 p4 p5 p6 p7 p8 : Nat) (w : World) : (Instr.index 47 (.agg (fieldsL p0 p2 p3 p4 p5 p6 p7 p8).toArray) (.int .i64 3)).run Try.prog w = .ok (.agg #[.int .i64 6, .func (.func 32) #[] #[.pointer (some ⟨p3, 0, none⟩)], .func (.func 33) #[] #[.pointer (some ⟨p3, 0, none⟩)]]) w := by kernel_rfl
theorem idx3' {p0 p2 p3 p4 p5 p6 p7 p8 : Nat} {F : Array Value} (hF : F = (fieldsL p0 p2 p3 p4 p5 p6 p7 p8).toArray) (w : World) : (Instr.index 47 (.agg F) (.int .i64 3)).run Try.prog w = .ok (.agg #[.int .i64 6, .func (.func 32) #[] #[.pointer (some ⟨p3, 0, none⟩)], .func (.func 33) #[] #[.pointer (some ⟨p3, 0, none⟩)]]) w := by
  rw [hF]
  exact idx3 p0 p2 p3 p4 p5 p6 p7 p8 w
theorem idx4 (p0 p2 p3 p4 p5 p6 p7 p8 : Nat) (w : World) : (Instr.index 47 (.agg (fieldsL p0 p2 p3 p4 p5 p6 p7 p8).toArray) (.int .i64 4)).run Try.prog w = .ok (.agg #[.int .i64 6, .func (.func 32) #[] #[.pointer (some ⟨p4, 0, none⟩)], .func (.func 33) #[] #[.pointer (some ⟨p4, 0, none⟩)]]) w := by kernel_rfl
theorem idx4' {p0 p2 p3 p4 p5 p6 p7 p8 : Nat} {F : Array Value} (hF : F = (fieldsL p0 p2 p3 p4 p5 p6 p7 p8).toArray) (w : World) : (Instr.index 47 (.agg F) (.int .i64 4)).run Try.prog w = .ok (.agg #[.int .i64 6, .func (.func 32) #[] #[.pointer (some ⟨p4, 0, none⟩)], .func (.func 33) #[] #[.pointer (some ⟨p4, 0, none⟩)]]) w := by
  rw [hF]
  exact idx4 p0 p2 p3 p4 p5 p6 p7 p8 w
theorem idx5 (p0 p2 p3 p4 p5 p6 p7 p8 : Nat) (w : World) : (Instr.index 47 (.agg (fieldsL p0 p2 p3 p4 p5 p6 p7 p8).toArray) (.int .i64 5)).run Try.prog w = .ok (.agg #[.int .i64 1, .func (.func 34) #[] #[.pointer (some ⟨p5, 0, none⟩)], .func (.func 35) #[] #[.pointer (some ⟨p5, 0, none⟩)]]) w := by kernel_rfl
theorem idx5' {p0 p2 p3 p4 p5 p6 p7 p8 : Nat} {F : Array Value} (hF : F = (fieldsL p0 p2 p3 p4 p5 p6 p7 p8).toArray) (w : World) : (Instr.index 47 (.agg F) (.int .i64 5)).run Try.prog w = .ok (.agg #[.int .i64 1, .func (.func 34) #[] #[.pointer (some ⟨p5, 0, none⟩)], .func (.func 35) #[] #[.pointer (some ⟨p5, 0, none⟩)]]) w := by
  rw [hF]
  exact idx5 p0 p2 p3 p4 p5 p6 p7 p8 w
theorem idx6 (p0 p2 p3 p4 p5 p6 p7 p8 : Nat) (w : World) : (Instr.index 47 (.agg (fieldsL p0 p2 p3 p4 p5 p6 p7 p8).toArray) (.int .i64 6)).run Try.prog w = .ok (.agg #[.int .i64 1, .func (.func 34) #[] #[.pointer (some ⟨p6, 0, none⟩)], .func (.func 35) #[] #[.pointer (some ⟨p6, 0, none⟩)]]) w := by kernel_rfl
theorem idx6' {p0 p2 p3 p4 p5 p6 p7 p8 : Nat} {F : Array Value} (hF : F = (fieldsL p0 p2 p3 p4 p5 p6 p7 p8).toArray) (w : World) : (Instr.index 47 (.agg F) (.int .i64 6)).run Try.prog w = .ok (.agg #[.int .i64 1, .func (.func 34) #[] #[.pointer (some ⟨p6, 0, none⟩)], .func (.func 35) #[] #[.pointer (some ⟨p6, 0, none⟩)]]) w := by
  rw [hF]
  exact idx6 p0 p2 p3 p4 p5 p6 p7 p8 w
theorem idx7 (p0 p2 p3 p4 p5 p6 p7 p8 : Nat) (w : World) : (Instr.index 47 (.agg (fieldsL p0 p2 p3 p4 p5 p6 p7 p8).toArray) (.int .i64 7)).run Try.prog w = .ok (.agg #[.int .i64 2, .func (.func 34) #[] #[.pointer (some ⟨p7, 0, none⟩)], .func (.func 35) #[] #[.pointer (some ⟨p7, 0, none⟩)]]) w := by kernel_rfl
theorem idx7' {p0 p2 p3 p4 p5 p6 p7 p8 : Nat} {F : Array Value} (hF : F = (fieldsL p0 p2 p3 p4 p5 p6 p7 p8).toArray) (w : World) : (Instr.index 47 (.agg F) (.int .i64 7)).run Try.prog w = .ok (.agg #[.int .i64 2, .func (.func 34) #[] #[.pointer (some ⟨p7, 0, none⟩)], .func (.func 35) #[] #[.pointer (some ⟨p7, 0, none⟩)]]) w := by
  rw [hF]
  exact idx7 p0 p2 p3 p4 p5 p6 p7 p8 w
theorem idx8 (p0 p2 p3 p4 p5 p6 p7 p8 : Nat) (w : World) : (Instr.index 47 (.agg (fieldsL p0 p2 p3 p4 p5 p6 p7 p8).toArray) (.int .i64 8)).run Try.prog w = .ok (.agg #[.int .i64 2, .func (.func 30) #[] #[.pointer (some ⟨p8, 0, none⟩)], .func (.func 31) #[] #[]]) w := by kernel_rfl
theorem idx8' {p0 p2 p3 p4 p5 p6 p7 p8 : Nat} {F : Array Value} (hF : F = (fieldsL p0 p2 p3 p4 p5 p6 p7 p8).toArray) (w : World) : (Instr.index 47 (.agg F) (.int .i64 8)).run Try.prog w = .ok (.agg #[.int .i64 2, .func (.func 30) #[] #[.pointer (some ⟨p8, 0, none⟩)], .func (.func 31) #[] #[]]) w := by
  rw [hF]
  exact idx8 p0 p2 p3 p4 p5 p6 p7 p8 w

def fsz (k : Nat) : Nat := [4, 4, 6, 6, 6, 1, 1, 2, 2].getD k 0
def fval (e s q f i c d : Nat) (k : Nat) : Nat := [1465012808, e, q, f, s, i, c, d, 0].getD k 0
def pre (e s q f i c d : Nat) : Nat → List UInt8
  | 0 => []
  | k + 1 => pre e s q f i c d k ++ le (fsz k) (fval e s q f i c d k)
def plen (k : Nat) : Nat := [0, 4, 8, 14, 20, 26, 27, 28, 30, 32].getD k 0
theorem pre_length (e s q f i c d : Nat) : ∀ k, k ≤ 9 → (pre e s q f i c d k).length = plen k
  | 0, _ => rfl
  | k + 1, h => by
    rw [pre, List.length_append, le_length, pre_length e s q f i c d k (by omega)]
    match k, h with
    | 0, _ => rfl
    | 1, _ => rfl
    | 2, _ => rfl
    | 3, _ => rfl
    | 4, _ => rfl
    | 5, _ => rfl
    | 6, _ => rfl
    | 7, _ => rfl
    | 8, _ => rfl
theorem pre_all (e s q f i c d : Nat) : pre e s q f i c d 9 = head e s q f i c d := by
  simp [pre, head, fsz, fval]

theorem Boxes.kept {w w' : World} {g p0 p2 p3 p4 p5 p6 p7 p8 : Nat} (h : Boxes w p0 p2 p3 p4 p5 p6 p7 p8) (hk : Kept g w w') (hn : g ≠ p0 ∧ g ≠ p2 ∧ g ≠ p3 ∧ g ≠ p4 ∧ g ≠ p5 ∧ g ≠ p6 ∧ g ≠ p7 ∧ g ≠ p8) : Boxes w' p0 p2 p3 p4 p5 p6 p7 p8 := by
  obtain ⟨n0, n2, n3, n4, n5, n6, n7, n8⟩ := hn
  exact ⟨(hk.block1 (World.block_lt_of_cell? w _ h.c0) n0.symm).trans h.c0, (hk.block1 (World.block_lt_of_cell? w _ h.c2) n2.symm).trans h.c2, (hk.block1 (World.block_lt_of_cell? w _ h.c3) n3.symm).trans h.c3, (hk.block1 (World.block_lt_of_cell? w _ h.c4) n4.symm).trans h.c4, (hk.block1 (World.block_lt_of_cell? w _ h.c5) n5.symm).trans h.c5, (hk.block1 (World.block_lt_of_cell? w _ h.c6) n6.symm).trans h.c6, (hk.block1 (World.block_lt_of_cell? w _ h.c7) n7.symm).trans h.c7, (hk.block1 (World.block_lt_of_cell? w _ h.c8) n8.symm).trans h.c8⟩
theorem rep_ne {w : World} {g p : Nat} {T : TypeId} {N : Nat} {v : Value} (hg : IsV w g T (List.replicate N (.int .u8 0))) (hc : w.cell? ⟨p, 0, none⟩ = some v) (hv : v ≠ .int .u8 0) : g ≠ p := by
  rintro rfl
  rw [hg.cell 0] at hc
  exact hv (List.eq_of_mem_replicate (List.mem_of_getElem? hc))
theorem box_ne {w : World} {g p0 p2 p3 p4 p5 p6 p7 p8 : Nat} {T : TypeId} {N : Nat} (h : Boxes w p0 p2 p3 p4 p5 p6 p7 p8) (hg : IsV w g T (List.replicate N (.int .u8 0))) : g ≠ p0 ∧ g ≠ p2 ∧ g ≠ p3 ∧ g ≠ p4 ∧ g ≠ p5 ∧ g ≠ p6 ∧ g ≠ p7 ∧ g ≠ p8 :=
  ⟨rep_ne hg h.c0 (by intro h; cases h), rep_ne hg h.c2 (by intro h; cases h), rep_ne hg h.c3 (by intro h; cases h), rep_ne hg h.c4 (by intro h; cases h), rep_ne hg h.c5 (by intro h; cases h), rep_ne hg h.c6 (by intro h; cases h), rep_ne hg h.c7 (by intro h; cases h), rep_ne hg h.c8 (by intro h; cases h)⟩
/-- Bytes that lie elsewhere, or below, stay. -/
theorem IsBytes.keptV {w w' : World} {g : Nat} {a : Option Addr} {l : List UInt8} (h : IsBytes w a l) (hk : Kept g w w') (hg : ∀ b off, a = some ⟨b, off, none⟩ → b ≠ g) : IsBytes w' a l := by
  obtain ⟨b, off, h1, h2⟩ := h
  refine ⟨b, off, h1, fun i hi => ?_⟩
  have h3 := h2 i hi
  have hne : l ≠ [] := by rintro rfl; simp at hi
  rw [← h3]
  exact World.cell?_of_block (hk.block b (World.block_lt_of_cell? w _ h3) (hg b off (h1 hne)))

theorem IsBytes.low {w : World} {a : Option Addr} {l : List UInt8} (h : IsBytes w a l) (hne : l ≠ []) : ∀ b off, a = some ⟨b, off, none⟩ → b < w.heap.size := by
  intro b off e
  obtain ⟨b', off', h1, h2⟩ := h
  have := (h1 hne).symm.trans e
  injection this with this
  injection this with this _ _
  subst this
  exact World.block_lt_of_cell? w _ (h2 0 (List.length_pos_iff.2 hne))

theorem encode_no (e s q f : Nat) (i c d : Int) (n : Nat) (h : right e s q f i c d = false ∨ n ≠ 480) (w : World) (a : Option Addr) (cc : Nat) :
    Calls Try.prog 10 #[.agg (tagV e s q f i c d), .slice a n cc] w fun x w' => x = .returned (.tuple #[.slice none 0 0, .int .i64 1]) ∧ Below w.heap.size w w' := by
  have HT := hid (IsV.new w 25 (tagL e s q f i c d))
  have HB := hid (below1 w (.cells (tagL e s q f i c d).toArray 25))
  obtain ⟨T, hT⟩ : ∃ T, T = tagV e s q f i c d := ⟨_, rfl⟩
  have e1 : (tagL e s q f i c d).toArray = T := hT.symm
  rw [← hT]
  have Hr := hid (show ∀ W, Calls Try.prog 11 #[.agg T] W fun x w' => x = .returned (.bool (right e s q f i c d)) ∧ Below W.heap.size W w' from fun W => hT ▸ right_any e s q f i c d W)
  rw [e1] at HT HB
  clear hT
  go_enter Try.func10, Try.ntmps10
  go_wp2_with (refine wpList_load_V (.tmp 2) rfl w.heap.size rfl (tagL e s q f i c d) _ HT.out Try.underlying25 rfl size25 (by rfl) ?_)
  refine (Hr.out _).mono ?_
  rintro x w1 ⟨rfl, hB⟩
  have HB1 := hid (HB.out.trans (hB.mono HB.out.size))
  clear hB
  rcases hq : right e s q f i c d with _ | _
  · clear h hq
    go_wp2
    go_ret2
    exact ⟨rfl, HB1.out⟩
  · have hn : ((n : Int) != 480) = true := by
      rcases h with h | h
      · rw [h] at hq; cases hq
      · simp; omega
    clear h hq
    go_wp2
    go_ret2
    exact ⟨rfl, HB1.out⟩

end Go.Proofs.Ytmfncpifalnggaa
