/- A region that draws: three operations may come up next. -/
import Derived.Test.YtlcpackmoolngaaRegR
namespace Go.Proofs.Ytlcpackmoolngaa.Rg
section
variable {P : Program} {md : Region.Mode} {ops : Array Oper} {Q : Exit → Act → World → Prop} {reads : List Nat} {S : World → Prop}
/-- the three of them come up -/
theorem threeR {i j l : Nat} {oi oj ol : Oper} {fuel : Nat} {listed : Array Bool} {a : Act} {w : World} (hr : Region.ready md ops listed = [i, j, l]) (hi : ops[i]? = some oi) (hj : ops[j]? = some oj) (hl : ops[l]? = some ol)
    (h1 : StepR P md ops Q reads S fuel listed i oi a w) (h2 : StepR P md ops Q reads S fuel listed j oj a w) (h3 : StepR P md ops Q reads S fuel listed l ol a w) : wpAnyR P md ops Q reads S (fuel + 1) listed a w :=
  ⟨fun h0 => absurd (hr ▸ h0) (by simp), fun k hk => by
    rw [hr] at hk
    rcases List.mem_cons.1 hk with rfl | hk
    · exact wpOp_step hi fun K' hK => h1 K' fun a w' h1 h2 => hK a w' ⟨h1, h2⟩
    · rcases List.mem_cons.1 hk with rfl | hk
      · exact wpOp_step hj fun K' hK => h2 K' fun a w' h1 h2 => hK a w' ⟨h1, h2⟩
      · obtain rfl : k = l := by simpa using hk
        exact wpOp_step hl fun K' hK => h3 K' fun a w' h1 h2 => hK a w' ⟨h1, h2⟩⟩
end
end Go.Proofs.Ytlcpackmoolngaa.Rg
