/- A string made into bytes: the call's own row of them. No program in sight. -/
import Derived.Test.YtpnhmcckdpdilaaOwn2
import Derived.Lib.ConvBytes
import Derived.Lib.UnsafeStr
namespace Go.Proofs.Ytpnhmcckdpdilaa
open Go.RowKit

section
variable {P : Program}
theorem bytes_of_str {s t e : TypeId} (hs : P.underlying s = some .string) (ht : P.underlying t = some (.slice e)) (he : P.underlying e = some (.int .u8)) (l : List UInt8) (n : Nat) (hl : l.length = n) (w : World) :
    ∃ c w', (convert s t (.string ⟨l.toArray⟩)).run P w = .ok (.slice (some ⟨w.heap.size, 0, none⟩) n c) w' ∧ IsBytes w' (some ⟨w.heap.size, 0, none⟩) l ∧ Below w.heap.size w w' ∧ w'.heap.size = w.heap.size + 1 := by
  subst hl
  refine ⟨_, _, Lib.run_convert_string_bytes w s t e ⟨l.toArray⟩ hs ht he, ⟨w.heap.size, 0, fun _ => rfl, fun i hi => ?_⟩, ?_, Lib.bytesWorld_size _ _ _⟩
  · rw [Nat.zero_add, Lib.bytesWorld_cell w e ⟨l.toArray⟩ i hi]
    simp [n8, List.getD, hi]
  · exact Lib.below_freeze (((Below.refl _ _).drew).alloc (by simp) _) (by simp) _
end
end Go.Proofs.Ytpnhmcckdpdilaa
