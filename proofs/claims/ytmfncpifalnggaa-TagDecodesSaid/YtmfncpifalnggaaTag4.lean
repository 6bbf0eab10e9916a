/- The walks of package tag's fields: what each gets and sets. -/
import Derived.Test.YtmfncpifalnggaaTag3
namespace Go.Proofs.Ytmfncpifalnggaa
open Go.RowKit O
set_option linter.unusedVariables false

theorem at2_any (b : Nat) (w : World) : Calls Try.prog 23 #[.pointer (some ⟨b, 0, none⟩)] w fun x w' => x = .returned (.pointer (some ⟨b, 2, none⟩)) ∧ w = w' := by
  go_enter Try.func23, Try.ntmps23
  go_wp2
  go_ret
  exact ⟨rfl, rfl⟩
theorem at3_any (b : Nat) (w : World) : Calls Try.prog 24 #[.pointer (some ⟨b, 0, none⟩)] w fun x w' => x = .returned (.pointer (some ⟨b, 3, none⟩)) ∧ w = w' := by
  go_enter Try.func24, Try.ntmps24
  go_wp2
  go_ret
  exact ⟨rfl, rfl⟩
theorem at1_any (b : Nat) (w : World) : Calls Try.prog 25 #[.pointer (some ⟨b, 0, none⟩)] w fun x w' => x = .returned (.pointer (some ⟨b, 1, none⟩)) ∧ w = w' := by
  go_enter Try.func25, Try.ntmps25
  go_wp2
  go_ret
  exact ⟨rfl, rfl⟩
theorem at4_any (b : Nat) (w : World) : Calls Try.prog 27 #[.pointer (some ⟨b, 0, none⟩)] w fun x w' => x = .returned (.pointer (some ⟨b, 4, none⟩)) ∧ w = w' := by
  go_enter Try.func27, Try.ntmps27
  go_wp2
  go_ret
  exact ⟨rfl, rfl⟩
theorem at5_any (b : Nat) (w : World) : Calls Try.prog 28 #[.pointer (some ⟨b, 0, none⟩)] w fun x w' => x = .returned (.pointer (some ⟨b, 5, none⟩)) ∧ w = w' := by
  go_enter Try.func28, Try.ntmps28
  go_wp2
  go_ret
  exact ⟨rfl, rfl⟩
theorem at6_any (b : Nat) (w : World) : Calls Try.prog 29 #[.pointer (some ⟨b, 0, none⟩)] w fun x w' => x = .returned (.pointer (some ⟨b, 6, none⟩)) ∧ w = w' := by
  go_enter Try.func29, Try.ntmps29
  go_wp2
  go_ret
  exact ⟨rfl, rfl⟩

/-! ### Getters -/
theorem get0_any (e s q f : Nat) (i c d : Int) (he : e < 4294967296) (w : World) :
    Calls Try.prog 20 #[.agg (tagV e s q f i c d)] w fun x w' => x = .returned (.int .u64 (e : Int)) ∧ Below w.heap.size w w' := by
  unfold tagV
  go_enter Try.func20, Try.ntmps20
  go_wp2
  go_ret
  exact ⟨rfl, (Below.refl _ _).alloc (Nat.le_refl _) _⟩
theorem getC_any (e s q f : Nat) (i c d : Int) (p x : Nat) (w : World) (hp : w.cell? ⟨p, 0, none⟩ = some (.int .u64 (x : Int))) :
    Calls Try.prog 30 #[.agg (tagV e s q f i c d), .pointer (some ⟨p, 0, none⟩)] w fun y w' => y = .returned (.int .u64 (x : Int)) ∧ Below w.heap.size w w' := by
  have hlt := World.block_lt_of_cell? w _ hp
  have hc : ∀ o, (w.alloc o).cell? ⟨p, 0, none⟩ = some (.int .u64 (x : Int)) := fun o => by rw [World.cell?_alloc_lt _ _ _ hlt]; exact hp
  unfold tagV
  go_enter Try.func30, Try.ntmps30
  go_wp2
  go_ret
  exact ⟨rfl, (Below.refl _ _).alloc (Nat.le_refl _) _⟩
theorem get2_any (e s q f : Nat) (i c d : Int) (p : Nat) (w : World) (hp : w.cell? ⟨p, 0, none⟩ = some (.func (.func 23) #[] #[])) :
    Calls Try.prog 32 #[.agg (tagV e s q f i c d), .pointer (some ⟨p, 0, none⟩)] w fun y w' => y = .returned (.int .u64 (q : Int)) ∧ Below w.heap.size w w' := by
  have hlt := World.block_lt_of_cell? w _ hp
  have hc : ∀ o, (w.alloc o).cell? ⟨p, 0, none⟩ = some (.func (.func 23) #[] #[]) := fun o => by rw [World.cell?_alloc_lt _ _ _ hlt]; exact hp
  unfold tagV
  go_enter Try.func32, Try.ntmps32
  go_wp2_with fail
  refine (at2_any _ _).mono ?_
  rintro y w1 ⟨rfl, rfl⟩
  go_wp2
  go_ret
  exact ⟨rfl, (Below.refl _ _).alloc (Nat.le_refl _) _⟩
theorem get3_any (e s q f : Nat) (i c d : Int) (p : Nat) (w : World) (hp : w.cell? ⟨p, 0, none⟩ = some (.func (.func 24) #[] #[])) :
    Calls Try.prog 32 #[.agg (tagV e s q f i c d), .pointer (some ⟨p, 0, none⟩)] w fun y w' => y = .returned (.int .u64 (f : Int)) ∧ Below w.heap.size w w' := by
  have hlt := World.block_lt_of_cell? w _ hp
  have hc : ∀ o, (w.alloc o).cell? ⟨p, 0, none⟩ = some (.func (.func 24) #[] #[]) := fun o => by rw [World.cell?_alloc_lt _ _ _ hlt]; exact hp
  unfold tagV
  go_enter Try.func32, Try.ntmps32
  go_wp2_with fail
  refine (at3_any _ _).mono ?_
  rintro y w1 ⟨rfl, rfl⟩
  go_wp2
  go_ret
  exact ⟨rfl, (Below.refl _ _).alloc (Nat.le_refl _) _⟩
theorem get1_any (e s q f : Nat) (i c d : Int) (p : Nat) (w : World) (hp : w.cell? ⟨p, 0, none⟩ = some (.func (.func 25) #[] #[])) :
    Calls Try.prog 32 #[.agg (tagV e s q f i c d), .pointer (some ⟨p, 0, none⟩)] w fun y w' => y = .returned (.int .u64 (s : Int)) ∧ Below w.heap.size w w' := by
  have hlt := World.block_lt_of_cell? w _ hp
  have hc : ∀ o, (w.alloc o).cell? ⟨p, 0, none⟩ = some (.func (.func 25) #[] #[]) := fun o => by rw [World.cell?_alloc_lt _ _ _ hlt]; exact hp
  unfold tagV
  go_enter Try.func32, Try.ntmps32
  go_wp2_with fail
  refine (at1_any _ _).mono ?_
  rintro y w1 ⟨rfl, rfl⟩
  go_wp2
  go_ret
  exact ⟨rfl, (Below.refl _ _).alloc (Nat.le_refl _) _⟩
theorem get4_any (e s q f i c d : Nat) (h : i < 9223372036854775808) (p : Nat) (w : World) (hp : w.cell? ⟨p, 0, none⟩ = some (.func (.func 27) #[] #[])) :
    Calls Try.prog 34 #[.agg (tagV e s q f i c d), .pointer (some ⟨p, 0, none⟩)] w fun y w' => y = .returned (.int .u64 (i : Int)) ∧ Below w.heap.size w w' := by
  have hlt := World.block_lt_of_cell? w _ hp
  have hc : ∀ o, (w.alloc o).cell? ⟨p, 0, none⟩ = some (.func (.func 27) #[] #[]) := fun o => by rw [World.cell?_alloc_lt _ _ _ hlt]; exact hp
  unfold tagV
  go_enter Try.func34, Try.ntmps34
  go_wp2_with fail
  refine (at4_any _ _).mono ?_
  rintro y w1 ⟨rfl, rfl⟩
  go_wp2
  go_ret
  exact ⟨rfl, (Below.refl _ _).alloc (Nat.le_refl _) _⟩
theorem get5_any (e s q f i c d : Nat) (h : c < 9223372036854775808) (p : Nat) (w : World) (hp : w.cell? ⟨p, 0, none⟩ = some (.func (.func 28) #[] #[])) :
    Calls Try.prog 34 #[.agg (tagV e s q f i c d), .pointer (some ⟨p, 0, none⟩)] w fun y w' => y = .returned (.int .u64 (c : Int)) ∧ Below w.heap.size w w' := by
  have hlt := World.block_lt_of_cell? w _ hp
  have hc : ∀ o, (w.alloc o).cell? ⟨p, 0, none⟩ = some (.func (.func 28) #[] #[]) := fun o => by rw [World.cell?_alloc_lt _ _ _ hlt]; exact hp
  unfold tagV
  go_enter Try.func34, Try.ntmps34
  go_wp2_with fail
  refine (at5_any _ _).mono ?_
  rintro y w1 ⟨rfl, rfl⟩
  go_wp2
  go_ret
  exact ⟨rfl, (Below.refl _ _).alloc (Nat.le_refl _) _⟩
theorem get6_any (e s q f i c d : Nat) (h : d < 9223372036854775808) (p : Nat) (w : World) (hp : w.cell? ⟨p, 0, none⟩ = some (.func (.func 29) #[] #[])) :
    Calls Try.prog 34 #[.agg (tagV e s q f i c d), .pointer (some ⟨p, 0, none⟩)] w fun y w' => y = .returned (.int .u64 (d : Int)) ∧ Below w.heap.size w w' := by
  have hlt := World.block_lt_of_cell? w _ hp
  have hc : ∀ o, (w.alloc o).cell? ⟨p, 0, none⟩ = some (.func (.func 29) #[] #[]) := fun o => by rw [World.cell?_alloc_lt _ _ _ hlt]; exact hp
  unfold tagV
  go_enter Try.func34, Try.ntmps34
  go_wp2_with fail
  refine (at6_any _ _).mono ?_
  rintro y w1 ⟨rfl, rfl⟩
  go_wp2
  go_ret
  exact ⟨rfl, (Below.refl _ _).alloc (Nat.le_refl _) _⟩

/-! ### Setters -/
theorem set0_any (b x : Nat) (w : World) (T : TypeId) (vs : List Value) (hb : IsV w b T vs) (hl : vs.length = 7) (hx : x < 4294967296) :
    Calls Try.prog 21 #[.pointer (some ⟨b, 0, none⟩), .int .u64 (x : Int)] w fun y w' => (∃ v, y = .returned v) ∧ w' = w.setCell ⟨b, 0, none⟩ (.int .u32 (x : Int)) := by
  obtain ⟨u, hu⟩ : ∃ u, w.cell? ⟨b, 0, none⟩ = some u := ⟨_, (hb.cell 0).trans (List.getElem?_eq_getElem (by omega))⟩
  have hf := hb.free 0
  clear hb hl
  go_enter Try.func21, Try.ntmps21
  go_wp2
  go_end0
  exact ⟨⟨_, rfl⟩, rfl⟩
theorem setC_any (a : Value) (x : Nat) (w : World) :
    Calls Try.prog 31 #[a, .int .u64 (x : Int)] w fun y w' => (∃ v, y = .returned v) ∧ w' = w := by
  go_enter Try.func31, Try.ntmps31
  go_wp2
  go_end0
  exact ⟨⟨_, rfl⟩, rfl⟩
theorem set2_any (b x p : Nat) (w : World) (T : TypeId) (vs : List Value) (hb : IsV w b T vs) (hl : vs.length = 7) (hx : x < 9223372036854775808) (hp : w.cell? ⟨p, 0, none⟩ = some (.func (.func 23) #[] #[])) :
    Calls Try.prog 33 #[.pointer (some ⟨b, 0, none⟩), .int .u64 (x : Int), .pointer (some ⟨p, 0, none⟩)] w fun y w' => (∃ v, y = .returned v) ∧ w' = w.setCell ⟨b, 2, none⟩ (.int .u64 (x : Int)) := by
  obtain ⟨u, hu⟩ : ∃ u, w.cell? ⟨b, 2, none⟩ = some u := ⟨_, (hb.cell 2).trans (List.getElem?_eq_getElem (by omega))⟩
  have hf := hb.free 2
  clear hb hl
  go_enter Try.func33, Try.ntmps33
  go_wp2_with fail
  refine (at2_any _ _).mono ?_
  rintro y w1 ⟨rfl, rfl⟩
  go_wp2
  go_end0
  exact ⟨⟨_, rfl⟩, rfl⟩
theorem set3_any (b x p : Nat) (w : World) (T : TypeId) (vs : List Value) (hb : IsV w b T vs) (hl : vs.length = 7) (hx : x < 9223372036854775808) (hp : w.cell? ⟨p, 0, none⟩ = some (.func (.func 24) #[] #[])) :
    Calls Try.prog 33 #[.pointer (some ⟨b, 0, none⟩), .int .u64 (x : Int), .pointer (some ⟨p, 0, none⟩)] w fun y w' => (∃ v, y = .returned v) ∧ w' = w.setCell ⟨b, 3, none⟩ (.int .u64 (x : Int)) := by
  obtain ⟨u, hu⟩ : ∃ u, w.cell? ⟨b, 3, none⟩ = some u := ⟨_, (hb.cell 3).trans (List.getElem?_eq_getElem (by omega))⟩
  have hf := hb.free 3
  clear hb hl
  go_enter Try.func33, Try.ntmps33
  go_wp2_with fail
  refine (at3_any _ _).mono ?_
  rintro y w1 ⟨rfl, rfl⟩
  go_wp2
  go_end0
  exact ⟨⟨_, rfl⟩, rfl⟩
theorem set1_any (b x p : Nat) (w : World) (T : TypeId) (vs : List Value) (hb : IsV w b T vs) (hl : vs.length = 7) (hx : x < 9223372036854775808) (hp : w.cell? ⟨p, 0, none⟩ = some (.func (.func 25) #[] #[])) :
    Calls Try.prog 33 #[.pointer (some ⟨b, 0, none⟩), .int .u64 (x : Int), .pointer (some ⟨p, 0, none⟩)] w fun y w' => (∃ v, y = .returned v) ∧ w' = w.setCell ⟨b, 1, none⟩ (.int .u64 (x : Int)) := by
  obtain ⟨u, hu⟩ : ∃ u, w.cell? ⟨b, 1, none⟩ = some u := ⟨_, (hb.cell 1).trans (List.getElem?_eq_getElem (by omega))⟩
  have hf := hb.free 1
  clear hb hl
  go_enter Try.func33, Try.ntmps33
  go_wp2_with fail
  refine (at1_any _ _).mono ?_
  rintro y w1 ⟨rfl, rfl⟩
  go_wp2
  go_end0
  exact ⟨⟨_, rfl⟩, rfl⟩
theorem set4_any (b x p : Nat) (w : World) (T : TypeId) (vs : List Value) (hb : IsV w b T vs) (hl : vs.length = 7) (hx : x < 9223372036854775808) (hp : w.cell? ⟨p, 0, none⟩ = some (.func (.func 27) #[] #[])) :
    Calls Try.prog 35 #[.pointer (some ⟨b, 0, none⟩), .int .u64 (x : Int), .pointer (some ⟨p, 0, none⟩)] w fun y w' => (∃ v, y = .returned v) ∧ w' = w.setCell ⟨b, 4, none⟩ (.int .i64 (x : Int)) := by
  obtain ⟨u, hu⟩ : ∃ u, w.cell? ⟨b, 4, none⟩ = some u := ⟨_, (hb.cell 4).trans (List.getElem?_eq_getElem (by omega))⟩
  have hf := hb.free 4
  clear hb hl
  go_enter Try.func35, Try.ntmps35
  go_wp2_with fail
  refine (at4_any _ _).mono ?_
  rintro y w1 ⟨rfl, rfl⟩
  go_wp2
  go_end0
  exact ⟨⟨_, rfl⟩, rfl⟩
theorem set5_any (b x p : Nat) (w : World) (T : TypeId) (vs : List Value) (hb : IsV w b T vs) (hl : vs.length = 7) (hx : x < 9223372036854775808) (hp : w.cell? ⟨p, 0, none⟩ = some (.func (.func 28) #[] #[])) :
    Calls Try.prog 35 #[.pointer (some ⟨b, 0, none⟩), .int .u64 (x : Int), .pointer (some ⟨p, 0, none⟩)] w fun y w' => (∃ v, y = .returned v) ∧ w' = w.setCell ⟨b, 5, none⟩ (.int .i64 (x : Int)) := by
  obtain ⟨u, hu⟩ : ∃ u, w.cell? ⟨b, 5, none⟩ = some u := ⟨_, (hb.cell 5).trans (List.getElem?_eq_getElem (by omega))⟩
  have hf := hb.free 5
  clear hb hl
  go_enter Try.func35, Try.ntmps35
  go_wp2_with fail
  refine (at5_any _ _).mono ?_
  rintro y w1 ⟨rfl, rfl⟩
  go_wp2
  go_end0
  exact ⟨⟨_, rfl⟩, rfl⟩
theorem set6_any (b x p : Nat) (w : World) (T : TypeId) (vs : List Value) (hb : IsV w b T vs) (hl : vs.length = 7) (hx : x < 9223372036854775808) (hp : w.cell? ⟨p, 0, none⟩ = some (.func (.func 29) #[] #[])) :
    Calls Try.prog 35 #[.pointer (some ⟨b, 0, none⟩), .int .u64 (x : Int), .pointer (some ⟨p, 0, none⟩)] w fun y w' => (∃ v, y = .returned v) ∧ w' = w.setCell ⟨b, 6, none⟩ (.int .i64 (x : Int)) := by
  obtain ⟨u, hu⟩ : ∃ u, w.cell? ⟨b, 6, none⟩ = some u := ⟨_, (hb.cell 6).trans (List.getElem?_eq_getElem (by omega))⟩
  have hf := hb.free 6
  clear hb hl
  go_enter Try.func35, Try.ntmps35
  go_wp2_with fail
  refine (at6_any _ _).mono ?_
  rintro y w1 ⟨rfl, rfl⟩
  go_wp2
  go_end0
  exact ⟨⟨_, rfl⟩, rfl⟩
end Go.Proofs.Ytmfncpifalnggaa
