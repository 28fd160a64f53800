/- An owned row's slice: its room, and that none has none. -/
import Derived.Test.YtlcpackmoolngaaMem
namespace Go.Proofs.Ytlcpackmoolngaa.Mem
theorem own_cap {w : World} {base : Nat} {e : TypeId} {size n c : Nat} {A : Option Addr} {xs : List Value} (h : w.ownsRow base e size (.slice A n c) n xs) : (A = none → c = 0) ∧ n ≤ c := by
  obtain ⟨_, ⟨hv, h0⟩ | ⟨g, cap, cur, hv, _, hh, hn, _⟩⟩ := h
  · cases hv; exact ⟨fun _ => rfl, Nat.le_refl _⟩
  · cases hv; exact ⟨(fun h => by cases h), hn⟩
theorem own_lo {w : World} {base : Nat} {e : TypeId} {size n c : Nat} {A : Option Addr} {xs : List Value} (h : w.ownsRow base e size (.slice A n c) n xs) : ∀ a, A = some a → base ≤ a.block := by
  obtain ⟨_, ⟨hv, h0⟩ | ⟨g, cap, cur, hv, hb, hh, hn, _⟩⟩ := h
  · cases hv; exact fun a h => by cases h
  · cases hv; exact fun a h => by cases h; exact hb
end Go.Proofs.Ytlcpackmoolngaa.Mem
