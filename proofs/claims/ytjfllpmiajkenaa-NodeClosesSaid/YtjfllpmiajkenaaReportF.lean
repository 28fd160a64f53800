/- A computer's report in cells; what Close answers. -/
import Derived.Test.YtjfllpmiajkenaaPairF
import Derived.Test.YtjfllpmiajkenaaSense
namespace Go.Proofs.Ytjfllpmiajkenaa.Nd
open Go.RowKit Go.Proofs.Ytjfllpmiajkenaa.Mem Go.Proofs.Ytjfllpmiajkenaa.Rws Go.Proofs.Ytjfllpmiajkenaa.Flat
set_option linter.unusedVariables false

/-- a report's fourteen cells -/
def repF (g : Nat → Value) (j : Nat) : Value := if j < 2 then g j else if j < 5 then g (65 + j) else if j < 8 then g (6 + (j - 5) * 7) else if j = 8 then g 70 else if j = 9 then g 72 else g (17 + j)
def rep0 : Array Value := #[.int .i64 0, .int .i64 0, .int .i64 0, .int .i64 0, .int .i64 0, .int .i64 0, .int .i64 0, .int .i64 0, .int .i64 0, .bool false, .bool false, .bool false, .bool false, .bool false]
def repT (j : Nat) : Bool := decide (j < 9)
theorem repF_row (g : Nat → Value) : row 14 (repF g) = #[g 0, g 1, g 67, g 68, g 69, g 6, g 13, g 20, g 70, g 72, g 27, g 28, g 29, g 30] := rfl
/-- a computer and a report, as answers -/
def NodeRep (w w' : World) (f : Nat → Value) (bs : List Bool) (rep : Array Value) (e : Ending) : Prop :=
  ∃ A c, e = .returned (.tuple #[.agg (row 74 (nodeW f (.slice A bs.length c))), .agg rep]) ∧ Rd w' w'.heap.size 1 A bs.length (boolsV bs) ∧ Below w.heap.size w w' ∧ (∀ a, A = some a → w.heap.size ≤ a.block) ∧ (A = none → c = 0) ∧ bs.length ≤ c
/-- the cells of which a report is made, as letters -/
theorem rep_cells {f : Nat → Value} (hf : ∀ i, i < 73 → okT (nodeT i) (f i)) : ∃ a b u0 u1 u2 x0 x1 x2 d : Int, ∃ s i0 i1 i2 i3 : Bool, f 0 = .int .i64 a ∧ f 1 = .int .i64 b ∧ f 67 = .int .i64 u0 ∧ f 68 = .int .i64 u1 ∧ f 69 = .int .i64 u2 ∧ f 6 = .int .i64 x0 ∧ f 13 = .int .i64 x1 ∧ f 20 = .int .i64 x2 ∧ f 70 = .int .i64 d ∧ f 72 = .bool s ∧ f 27 = .bool i0 ∧ f 28 = .bool i1 ∧ f 29 = .bool i2 ∧ f 30 = .bool i3 := by
  obtain ⟨a, ha⟩ := hf 0 (by omega)
  obtain ⟨b, hb⟩ := hf 1 (by omega)
  obtain ⟨u0, h0⟩ := hf 67 (by omega)
  obtain ⟨u1, h1⟩ := hf 68 (by omega)
  obtain ⟨u2, h2⟩ := hf 69 (by omega)
  obtain ⟨x0, h3⟩ := hf 6 (by omega)
  obtain ⟨x1, h4⟩ := hf 13 (by omega)
  obtain ⟨x2, h5⟩ := hf 20 (by omega)
  obtain ⟨d, h6⟩ := hf 70 (by omega)
  obtain ⟨s, h7⟩ := hf 72 (by omega)
  obtain ⟨i0, h8⟩ := hf 27 (by omega)
  obtain ⟨i1, h9⟩ := hf 28 (by omega)
  obtain ⟨i2, h10⟩ := hf 29 (by omega)
  obtain ⟨i3, h11⟩ := hf 30 (by omega)
  exact ⟨a, b, u0, u1, u2, x0, x1, x2, d, s, i0, i1, i2, i3, ha, hb, h0, h1, h2, h3, h4, h5, h6, h7, h8, h9, h10, h11⟩
theorem own_belowLo {w w' : World} {base G : Nat} {e : TypeId} {size : Nat} {v : Value} {n : Nat} {xs : List Value} (h : w.ownsRow base e size v n xs) (hb : Below G w w') (hl : ∀ g, v.ownBlock = some g → g < G) : w'.ownsRow base e size v n xs := by
  obtain ⟨hl', h | ⟨b, cap, cur, hv, hB, hh, hc⟩⟩ := h
  · exact ⟨hl', .inl h⟩
  · exact ⟨hl', .inr ⟨b, cap, cur, hv, hB, (hb.block b (hl b (by rw [hv]; rfl))).trans hh, hc⟩⟩
/-- a report of which k places are laid -/
def repU (g : Nat → Value) (k j : Nat) : Value := if 5 + k ≤ j ∧ j < 8 then .int .i64 0 else repF g j
theorem repU_row (g : Nat → Value) : row 14 (repU g 0) = #[g 0, g 1, g 67, g 68, g 69, .int .i64 0, .int .i64 0, .int .i64 0, g 70, g 72, g 27, g 28, g 29, g 30] := rfl
theorem repU_all (g : Nat → Value) : row 14 (repU g 3) = row 14 (repF g) := row_congr fun j hj => if_neg (by omega)
theorem repU_put (g : Nat → Value) (k : Nat) (hk : k < 3) {v : Value} (hv : repF g (5 + k) = v) : (row 14 (repU g k)).setIfInBounds (5 + k) v = row 14 (repU g (k + 1)) := by
  subst hv
  rw [row_set]
  refine row_congr fun j hj => ?_
  unfold repU
  by_cases e : j = 5 + k
  · subst e; rw [if_pos rfl, if_neg (by omega)]
  · rw [if_neg e]
    by_cases h : 5 + k ≤ j ∧ j < 8
    · rw [if_pos h, if_pos (by omega)]
    · rw [if_neg h, if_neg (by omega)]
theorem axis_rep {f : Nat → Value} (hf : ∀ i, i < 73 → okT (nodeT i) (f i)) (k : Nat) (hk : k < 3) : ∃ a b c d e m : Int, ∃ t : Bool, (row 7 fun j => f (6 + (k * 7 + j))) = #[.int .i64 a, .int .i64 b, .int .i64 c, .int .i64 d, .int .i64 e, .bool t, .int .i64 m] ∧ repF f (5 + k) = .int .i64 a := by
  obtain ⟨a, b, c, d, e, m, t, h, _⟩ := axis_cells hf k hk
  refine ⟨a, b, c, d, e, m, t, h, ?_⟩
  have h0 : (row 7 fun j => f (6 + (k * 7 + j)))[0]? = some (.int .i64 a) := by rw [h]; rfl
  rw [row_at (by omega)] at h0
  have h1 := Option.some.inj h0
  rw [← h1]
  obtain rfl | rfl | rfl : k = 0 ∨ k = 1 ∨ k = 2 := by omega
  all_goals rfl
end Go.Proofs.Ytjfllpmiajkenaa.Nd
