/- What a call owns is kept: below, by a whole row written, by what grows in a block of another kind. -/
import Derived.Test.YtlcpackmoolngaaMem
import Derived.Test.YtlcpackmoolngaaOwnCap
namespace Go.Proofs.Ytlcpackmoolngaa.Nd
open Go.RowKit Go.Proofs.Ytlcpackmoolngaa.Mem
set_option linter.unusedVariables false

theorem ownsRow_below {w w' : World} {base : Nat} {e : TypeId} {size : Nat} {v : Value} {n : Nat} {xs : List Value} (h : w.ownsRow base e size v n xs) (hb : Below w.heap.size w w') : w'.ownsRow base e size v n xs :=
  h.kept (row := none) ⟨hb.os, hb.tape, hb.output, hb.size, fun g hg _ => hb.block g hg⟩ (by cases v.ownBlock <;> simp)
theorem own_setRow {w : World} {base : Nat} {e : TypeId} {size : Nat} {v : Value} {n : Nat} {xs : List Value} (h : w.ownsRow base e size v n xs) {g : Nat} (hg : g < base) (R : Array Value) : (w.setRow g R).ownsRow base e size v n xs := by
  obtain ⟨hl, h | ⟨b, cap, cur, hv, hb, hh, hr⟩⟩ := h
  · exact ⟨hl, .inl h⟩
  · exact ⟨hl, .inr ⟨b, cap, cur, hv, hb, (setRow_other w g b R (by omega)).trans hh, hr⟩⟩
end Go.Proofs.Ytlcpackmoolngaa.Nd
namespace Go.Proofs.Ytlcpackmoolngaa.Ms
open Go.RowKit Go.Proofs.Ytlcpackmoolngaa.Mem

theorem own_kept {w w' : World} {base : Nat} {e : TypeId} {size : Nat} {v : Value} {n : Nat} {xs : List Value} {row : Option Nat} (h : w.ownsRow base e size v n xs) (hg : w.grownBy w' row)
    (hr : ∀ g, row = some g → ∃ cur t, w.heap[g]? = some (.cells cur t (0, 0)) ∧ t ≠ e) : w'.ownsRow base e size v n xs := by
  obtain ⟨hl, h | ⟨b, cap, cur, hv, hb, hh, hc⟩⟩ := h
  · exact ⟨hl, .inl h⟩
  · have hlt : b < w.heap.size := (Array.getElem?_eq_some_iff.1 hh).1
    have hne : some b ≠ row := fun e1 => by
      obtain ⟨cur', t, h1, h2⟩ := hr b e1.symm
      rw [h1] at hh
      injection hh with hh
      injection hh with _ h4 _
      exact h2 h4
    exact ⟨hl, .inr ⟨b, cap, cur, hv, hb, (hg.block b hlt hne).trans hh, hc⟩⟩
theorem own_is {w : World} {base : Nat} {e : TypeId} {size : Nat} {v : Value} {n : Nat} {xs : List Value} (h : w.ownsRow base e size v n xs) {t' : TypeId} (ht : e ≠ t') : ∀ g, v.ownBlock = some g → ∃ cur t, w.heap[g]? = some (.cells cur t (0, 0)) ∧ t ≠ t' := fun g hg => by
  obtain ⟨hl, ⟨rfl, _⟩ | ⟨b, cap, cur, rfl, hb, hh, hc⟩⟩ := h
  · cases hg
  · injection hg with hg
    subst hg
    exact ⟨cur, e, hh, ht⟩
end Go.Proofs.Ytlcpackmoolngaa.Ms
namespace Go.Proofs.Ytlcpackmoolngaa.Vt
open Go.RowKit Go.Proofs.Ytlcpackmoolngaa.Mem

theorem own_not {w : World} {g : Nat} {e : TypeId} {size n : Nat} {v : Value} {xs : List Value} (h : w.ownsRow (g + 1) e size v n xs) : some g ≠ v.ownBlock := fun hh => by
  have := (h.lt g hh.symm).1
  omega
theorem own_setCell {w : World} {base g : Nat} {e : TypeId} {size n : Nat} {v : Value} {xs : List Value} (h : w.ownsRow base e size v n xs) (hg : g < base) {i : Nat} (u : Value) : (w.setCell ⟨g, i, none⟩ u).ownsRow base e size v n xs := by
  obtain ⟨hl, h | ⟨b, cap, cur, hv, hb, hh, hr⟩⟩ := h
  · exact ⟨hl, .inl h⟩
  · exact ⟨hl, .inr ⟨b, cap, cur, hv, hb, (Below.heap_setCell w ⟨g, i, none⟩ u b (by show b ≠ g; omega)).trans hh, hr⟩⟩
end Go.Proofs.Ytlcpackmoolngaa.Vt
