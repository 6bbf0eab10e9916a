/- General words: numbers in the model's values, slices of bytes in memory, and the last step of a law's row ('it returned true and nothing that was there has turned'). No program in sight. -/
import Derived.WalkKit
import Derived.ProofKit
import Derived.OpenShut
import Derived.WalkLawsBesides
import Derived.WalkSpells
import Derived.Carry
namespace Go.Proofs.Ytpnhmcckdpdilaa
open Go.RowKit Go.WideShapes Go.ChangeShapes

/-! ### Numbers -/
def n8 (c : UInt8) : Int := (c.toNat : Int)
def n32 (x : BitVec 32) : Int := (x.toNat : Int)
def n64 (x : BitVec 64) : Int := (x.toNat : Int)
theorem n8_bd (c : UInt8) : 0 ≤ n8 c ∧ n8 c ≤ 255 := by have := c.toNat_lt; unfold n8; omega
theorem n32_bd (c : BitVec 32) : 0 ≤ n32 c ∧ n32 c ≤ 4294967295 := by have := c.isLt; unfold n32; omega
theorem n32_inj (x y : BitVec 32) : n32 x = n32 y ↔ x = y := by
  constructor
  · intro h; apply BitVec.eq_of_toNat_eq; unfold n32 at h; omega
  · rintro rfl; rfl
theorem n8_inj (x y : UInt8) : n8 x = n8 y ↔ x = y := by
  constructor
  · intro h; apply UInt8.toNat_inj.1; unfold n8 at h; omega
  · rintro rfl; rfl
theorem n32_beq (x y : BitVec 32) : (n32 x == n32 y) = (x == y) := by
  rw [Bool.eq_iff_iff, beq_iff_eq, beq_iff_eq, n32_inj]
theorem n8_beq (x y : UInt8) : (n8 x == n8 y) = (x == y) := by
  rw [Bool.eq_iff_iff, beq_iff_eq, beq_iff_eq, n8_inj]
theorem u8_of_wf {n : Int} (h : (Lit.int .u8 n).wf = true) : ∃ c : UInt8, n = n8 c := by
  have hb : 0 ≤ n ∧ n ≤ 255 := by simpa [Lit.wf, IntKind.min, IntKind.max, IntKind.signed, IntKind.bits] using h
  refine ⟨UInt8.ofNat n.toNat, ?_⟩
  unfold n8
  rw [UInt8.toNat_ofNat']
  omega
theorem u32_of_wf {n : Int} (h : (Lit.int .u32 n).wf = true) : ∃ c : BitVec 32, n = n32 c := by
  have hb : 0 ≤ n ∧ n ≤ 4294967295 := by simpa [Lit.wf, IntKind.min, IntKind.max, IntKind.signed, IntKind.bits] using h
  refine ⟨BitVec.ofNat 32 n.toNat, ?_⟩
  unfold n32
  rw [BitVec.toNat_ofNat]
  omega
theorem u64_of_wf {n : Int} (h : (Lit.int .u64 n).wf = true) : ∃ c : BitVec 64, n = n64 c := by
  have hb : 0 ≤ n ∧ n ≤ 18446744073709551615 := by simpa [Lit.wf, IntKind.min, IntKind.max, IntKind.signed, IntKind.bits] using h
  refine ⟨BitVec.ofNat 64 n.toNat, ?_⟩
  unfold n64
  rw [BitVec.toNat_ofNat]
  omega
theorem i64_of_wf {n : Int} (h : (Lit.int .i64 n).wf = true) : -9223372036854775808 ≤ n ∧ n ≤ 9223372036854775807 := by
  simpa [Lit.wf, IntKind.min, IntKind.max, IntKind.signed, IntKind.bits] using h

/-! ### Bytes in memory -/
/-- The bytes l lie at the address a (whatever a, if there are none). -/
def IsBytes (w : World) (a : Option Addr) (l : List UInt8) : Prop :=
  ∃ b off, (l ≠ [] → a = some ⟨b, off, none⟩) ∧ ∀ i, (h : i < l.length) → w.cell? ⟨b, off + i, none⟩ = some (.int .u8 (n8 l[i]))

theorem IsBytes.nil (w : World) (a : Option Addr) : IsBytes w a [] := ⟨0, 0, fun h => absurd rfl h, fun _ h => absurd h (by simp)⟩
theorem IsBytes.keep {w w' : World} {a : Option Addr} {l : List UInt8} (h : IsBytes w a l) (hk : ∀ p : Addr, p.block < w.heap.size → w'.cell? p = w.cell? p) : IsBytes w' a l := by
  obtain ⟨b, off, h1, h2⟩ := h
  exact ⟨b, off, h1, fun i hi => (hk _ (World.block_lt_of_cell? w _ (h2 i hi))).trans (h2 i hi)⟩
theorem IsBytes.below {w w' : World} {a : Option Addr} {l : List UInt8} (h : IsBytes w a l) (hb : Below w.heap.size w w') : IsBytes w' a l := h.keep fun _ hp => hb.cell hp
theorem IsBytes.alloc_new (w : World) (C : Array Value) (e : TypeId) (fr : Nat × Nat) (l : List UInt8) (h : C.toList = l.map (fun c => Value.int .u8 (n8 c))) :
    IsBytes (w.alloc (.cells C e fr)) (some ⟨w.heap.size, 0, none⟩) l := by
  refine ⟨w.heap.size, 0, fun _ => rfl, fun i hi => ?_⟩
  rw [Nat.zero_add, World.cell?_alloc_mark]
  rw [← Array.getElem?_toList, h]
  simp [hi]
theorem IsBytes.take {w : World} {a : Option Addr} {l : List UInt8} (h : IsBytes w a l) (k : Nat) : IsBytes w a (l.take k) := by
  obtain ⟨b, off, h1, h2⟩ := h
  refine ⟨b, off, fun hn => h1 (by rintro rfl; simp at hn), fun i hi => ?_⟩
  simp at hi
  rw [h2 i (by omega)]
  simp
theorem IsBytes.drop {w : World} {a : Option Addr} {l : List UInt8} (h : IsBytes w a l) (k c : Nat) (hk : k ≤ l.length) (hc : l.length ≤ c) : IsBytes w (if c = k then a else a.map (·.add k)) (l.drop k) := by
  obtain ⟨b, off, h1, h2⟩ := h
  refine ⟨b, off + k, fun hn => ?_, fun i hi => ?_⟩
  · have hlt : k < l.length := by
      rcases Nat.lt_or_ge k l.length with h | h
      · exact h
      · exact absurd (List.drop_eq_nil_of_le h) hn
    rw [if_neg (by omega), h1 (by rintro rfl; simp at hlt)]
    unfold Addr.add
    split <;> simp_all
  · simp at hi
    rw [Nat.add_assoc, h2 (k + i) (by omega)]
    simp

theorem cut_min {α : Type} (l : List α) (K : Nat) (KI : Int) (hK : KI = (K : Int)) {c : Nat} (h : l.length ≤ c) :
    ∃ n : Nat, Value.int .i64 (if KI < (l.length : Int) then KI else (l.length : Int)) = .int .i64 (n : Int) ∧ (l.take K).length = n ∧ n ≤ K ∧ n ≤ c := by
  subst hK
  refine ⟨min K l.length, ?_, by simp, by omega, by omega⟩
  congr 1
  split <;> omega
theorem and_mask (n : Int) (K : Nat) (KI : Int) (hK : KI = (K : Int)) (hlt : K < 9223372036854775808) : ∃ m : Nat, bits .and .i64 n KI = (m : Int) ∧ m ≤ K := by
  subst hK
  have h2 : (BitVec.ofInt 64 n &&& BitVec.ofInt 64 (K : Int)).toNat ≤ K := by
    rw [BitVec.toNat_and, BitVec.ofInt_natCast, BitVec.toNat_ofNat]
    refine Nat.le_trans Nat.and_le_right ?_
    exact Nat.mod_le _ _
  refine ⟨(BitVec.ofInt 64 n &&& BitVec.ofInt 64 (K : Int)).toNat, ?_, h2⟩
  show IntKind.i64.wrap ((BitVec.ofInt 64 n &&& BitVec.ofInt 64 (K : Int)).toNat : Int) = _
  rw [IntKind.wrap_i64]
  omega
theorem str_back {P : Program} {t e s : TypeId} (ht : P.underlying t = some (.slice e)) (he : P.underlying e = some (.int .u8)) (hs : P.underlying s = some .string) (l : List UInt8) (n : Nat) (hl : l.length = n) (w : World) (a : Option Addr) (c : Nat) (hb : IsBytes w a l) :
    (convert t s (.slice a n c)).run P w = .ok (.string ⟨l.toArray⟩) w := by
  subst hl
  obtain ⟨b, off, ha, hc⟩ := hb
  cases a with
  | none =>
    have : l = [] := by
      cases l with
      | nil => rfl
      | cons x l => cases ha (by simp)
    subst this
    rw [run_convert_bytes_string w t s e none _ c ht he hs]
    rfl
  | some ad =>
    refine run_convert_bytes_back w t s e ad c l ht he hs fun j hj => ?_
    have hl : l ≠ [] := by rintro rfl; simp at hj
    have := ha hl
    injection this with this
    subst this
    have h2 : (⟨b, off, none⟩ : Addr).add j = ⟨b, off + j, none⟩ := by unfold Addr.add; split <;> simp_all
    rw [h2]
    exact hc j hj
theorem mod_nat (m n : Nat) : ((m : Int) % ((n : Int) + 1)) = ((m % (n + 1) : Nat) : Int) := by simp
theorem mod_sub (m n q : Nat) (Q : Int) (hQ : Q = (q : Int)) (h : q ≤ n) : ((m : Int) % ((n : Int) - Q)) = ((m % (n - q) : Nat) : Int) := by
  subst hQ
  rw [show (n : Int) - (q : Int) = ((n - q : Nat) : Int) by omega]
  rfl
theorem below_drewN {B : Nat} {a w : World} (h : Below B a w) (n : Nat) : Below B a (w.drewN n) := ⟨h.os, h.tape, h.output, h.size, h.block⟩
theorem hid {p : Prop} (h : p) : Hid p := h

/-! ### The arguments -/
section
variable {H : Type} {enc : TypeId × Value → H} {P : Program}

/-- A []byte that came in. -/
theorem open_bytes {W : World} {t e : TypeId} {base : Nat} {v : Value} {d : DataW H} {p : List MemPlace} (ht : P.underlying t = some (.slice e)) (he : P.underlying e = some (.int .u8)) (hc : P.cellsOf e = 1)
    (hval : Value.okWide P W .any base t v) (h : DataW.Trod enc P W 0 (fun _ => true) true t v d p) :
    ∃ (a : Option Addr) (l : List UInt8) (c : Nat), v = .slice a l.length c ∧ IsBytes W a l ∧ l.length ≤ c ∧ c ≤ maxLen := by
  obtain ⟨a0, len, cap, rfl⟩ := okWide_slice ht hval
  obtain ⟨fuel, hf⟩ := h
  rcases open_ints ht he hc hf with ⟨hcs, _⟩ | ⟨a, len', cap', zs, hcs, _, hl, hm, hz, _, hcell, hwz⟩
  · simp [Value.cells] at hcs
    obtain ⟨rfl, rfl, rfl⟩ := hcs
    exact ⟨none, [], 0, rfl, IsBytes.nil _ _, by simp, by simp [maxLen]⟩
  · simp [Value.cells] at hcs
    obtain ⟨rfl, rfl, rfl⟩ := hcs
    simp at hz
    have hbytes : ∀ i, ∃ c : UInt8, zs.getD i 0 = n8 c := by
      intro i
      by_cases hi : i < zs.length
      · obtain ⟨c, hc⟩ := u8_of_wf (hwz _ (List.getElem_mem hi))
        exact ⟨c, by rw [← hc]; simp [hi]⟩
      · exact ⟨0, by simp [List.getElem?_eq_none (Nat.le_of_not_lt hi), n8]⟩
    refine ⟨some a, (List.range len).map (fun i => (hbytes i).choose), cap, by simp, ?_, by simpa using hl, hm⟩
    by_cases h0 : len = 0
    · subst h0; exact IsBytes.nil _ _
    · have hs : a.spot = none := by
        have := hcell 0 (by omega)
        cases hsp : a.spot with
        | none => rfl
        | some s =>
          simp only [World.cell?, Addr.add, if_true, hsp, Option.isSome_some] at this
          split at this <;> cases this
      refine ⟨a.block, a.off, fun _ => by cases a; simp_all, fun i hi => ?_⟩
      simp at hi
      have hci := hcell i (by omega)
      rw [(hbytes i).choose_spec] at hci
      have ha : a.add i = ⟨a.block, a.off + i, none⟩ := by
        unfold Addr.add
        split
        · rename_i h; subst h; cases a; simp_all
        · rfl
      rw [ha] at hci
      simpa using hci

/-! ### The law's last step -/
theorem trodAll_below (hl : laidOutB P = true) {W W' : World} (hb : Below W.heap.size W W') {sp : Nat → Bool} : ∀ {ts : List TypeId} {vs : List Value} {ds : List (DataW H)} {ps : List MemPlace},
    (∀ t ∈ ts, P.readableRec t = true ∧ t < P.types.size) → DataW.TrodAll enc P W 0 (fun _ => true) true ts vs ds ps → (∀ x ∈ ps, x.block < W.heap.size) → (∀ x ∈ ps, sp x.block = true) →
    DataW.TrodAll enc P W' 0 sp true ts vs ds ps
  | [], [], [], _, _, h, _, _ => h
  | t :: ts, v :: vs, d :: ds, ps, hr, h, hlt, hsp => by
    obtain ⟨p, q, h1, h2, rfl⟩ := h
    refine ⟨p, q, WideElems.Trod_stays hl (hr t (by simp)).1 (hr t (by simp)).2 h1 (fun x hx => hb.same (hlt x (by simp [hx]))) (fun x hx => hsp x (by simp [hx])),
      trodAll_below hl hb (fun t ht => hr t (by simp [ht])) h2 (fun x hx => hlt x (by simp [hx])) (fun x hx => hsp x (by simp [hx])), rfl⟩
  | [], [], _ :: _, _, _, h, _, _ => h.elim
  | [], _ :: _, _, _, _, h, _, _ => h.elim
  | _ :: _, [], _, _, _, h, _, _ => h.elim
  | _ :: _, _ :: _, [], _, _, h, _, _ => h.elim

theorem law_post {f : Func} {s : ChangeSpec} {W W' : World} {args : Array Value} {ds gs : List (DataW H)} {before : List MemPlace} {tb : TypeId}
    (hl : laidOutB P = true) (hts : f.params.toList.all (fun t => P.readableRec t && decide (t < P.types.size)) = true)
    (hv : s.vars = []) (hres : f.resultTypes = #[tb]) (htb : P.underlying tb = some .bool)
    (hW : DataW.Whole enc P f.params.toList s.vars false W args.toList ds gs before)
    (hfn : s.fn H (ds ++ gs) = { results := [.lit (.bool true)], args := ds, vars := [] })
    (hb : Below W.heap.size W W') :
    s.post enc P f false true false false W args (.bool true) W' := by
  have hlt : ∀ p ∈ before, p.block < W.heap.size := fun p hp => hW.lt p hp
  have hold : ∀ p ∈ before, (fun b => decide (b < W.heap.size)) p.block = true := fun p hp => by simpa using hlt p hp
  have hW' := hW
  obtain ⟨p, q, hA, hV, rfl, hfz, _⟩ := hW
  rw [hv] at hV
  have hgq : gs = [] ∧ q = [] := trodVars_none hV
  obtain ⟨rfl, rfl⟩ := hgq
  have hts' : ∀ t ∈ f.params.toList, P.readableRec t = true ∧ t < P.types.size := fun t ht => by
    have := List.all_eq_true.1 hts t ht
    simpa using this
  rw [List.append_nil] at *
  refine ⟨ds, [], p, [], p, [], by simpa using hW', ?_, ?_, ?_, World.keptBut_mono (fun x hx => ⟨hx, ?_⟩) (hb.frame (· ∈ p)), fun h => by cases h⟩
  · rw [List.append_nil, hfn]
    have hrl : (Value.bool true).resultList f.resultTypes.size = [.bool true] := by rw [hres]; rfl
    rw [hres] at *
    exact trodAll_cons_mk (shut_bool htb true) trodAll_mk0
  · rw [List.append_nil, hfn]
    exact trodAll_below hl hb hts' hA (fun x hx => hlt x (by simpa using hx)) (fun x hx => hold x (by simpa using hx))
  · rw [List.append_nil, hfn, hv]
    rfl
  · exact Or.inr (by simpa using hx)
end
end Go.Proofs.Ytpnhmcckdpdilaa
