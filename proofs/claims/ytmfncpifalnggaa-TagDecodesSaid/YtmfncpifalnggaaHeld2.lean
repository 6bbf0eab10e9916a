/- A step of a region that draws its order, where either of two operations may come up. No program in sight. -/
import Derived.Test.YtmfncpifalnggaaHeld
namespace Go.Proofs.Ytmfncpifalnggaa
section
variable {P : Program} {ops : Array Oper} {Q : Exit → Act → World → Prop} {md : Region.Mode} {S : World → Prop}
/-- Either of two may come up. -/
theorem ready2_at {i j : Nat} {o p : Oper} {tl tl2 : List Oper} {fuel : Nat} {listed : Array Bool} {a : Act} {w : World} (hi : ops.toList.drop i = o :: tl) (hj : ops.toList.drop j = p :: tl2) (hr : Region.ready md ops listed = [i, j])
    (h : ∀ K' : Act → World → Prop, Shut (∀ a w, S w → (S w → wpAnyH P md ops Q S fuel (listed.setIfInBounds i true) a w) → K' a w) → if Region.wanted o (yielded ops a.tmps) = true then Oper.wp P o a w K' Q else K' (a.put o.dst undef) w)
    (h2 : ∀ K' : Act → World → Prop, Shut (∀ a w, S w → (S w → wpAnyH P md ops Q S fuel (listed.setIfInBounds j true) a w) → K' a w) → if Region.wanted p (yielded ops a.tmps) = true then Oper.wp P p a w K' Q else K' (a.put p.dst undef) w) :
    wpAnyH P md ops Q S (fuel + 1) listed a w :=
  wpAnyH_ready hr (by simp) (AllReadyH.cons (get_of_drop hi) h (AllReadyH.cons (get_of_drop hj) h2 AllReadyH.nil))
end
end Go.Proofs.Ytmfncpifalnggaa
