/-
  A region that draws its order: what is held may change on the way. Plain laws, no program.
-/
import Derived.Deep.RegionHeld3
namespace Go.Proofs.YtdbggicpcbecdaaGreatDoor.Reg
open Go
section
variable {P : Program} {ops : Array Oper} {Q : Exit → Act → World → Prop} {md : Region.Mode} {S T : World → Prop}
/-- What says more may be held from here on. -/
theorem swap (h : ∀ w, T w → S w) : ∀ (fuel : Nat) (listed : Array Bool) (a : Act) (w : World), wpAnyH P md ops Q T fuel listed a w → wpAnyH P md ops Q S fuel listed a w
  | 0, _, _, _, k => k
  | fuel + 1, _, _, _, k => ⟨k.1, fun i hi => wpOp_mono (fun a' w' h' => ⟨h w' h'.1, swap h fuel _ a' w' h'.2⟩) (k.2 i hi)⟩
end
end Go.Proofs.YtdbggicpcbecdaaGreatDoor.Reg
