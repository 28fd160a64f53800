/- A region that draws its order, walked by hand: the condition that is held may be sharpened on the way. -/
import Derived.Deep.RegionHeld3
namespace Go.Proofs.Ytjfllpmiajkenaa.Rg
set_option linter.unusedVariables false
section
variable {P : Program} {ops : Array Oper} {Q : Exit → Act → World → Prop} {md : Region.Mode} {S S' : World → Prop}
theorem sharpen (hSS : ∀ w, S' w → S w) : ∀ (fuel : Nat) (listed : Array Bool) (a : Act) (w : World), wpAnyH P md ops Q S' fuel listed a w → wpAnyH P md ops Q S fuel listed a w
  | 0, _, _, _, h => h
  | fuel + 1, _, _, _, h => ⟨h.1, fun i hi => wpOp_mono (fun a' w' h' => ⟨hSS w' h'.1, sharpen hSS fuel _ a' w' h'.2⟩) (h.2 i hi)⟩
/-- from here on no operation turns the world any more: it may be pinned -/
theorem pin {fuel : Nat} {listed : Array Bool} {a : Act} {w : World} (hS : S w) (h : w = w → wpAnyH P md ops Q (fun w' => w' = w) fuel listed a w) : wpAnyH P md ops Q S fuel listed a w :=
  sharpen (fun w' e => by subst e; exact hS) fuel listed a w (h rfl)
end
end Go.Proofs.Ytjfllpmiajkenaa.Rg
