/- Parcels in memory of their own, each one's bytes apart from the others'. -/
import Derived.Test.YtlcpackmoolngaaParcs
import Derived.Laws.OwnMore
namespace Go.Proofs.Ytlcpackmoolngaa.Bu
open Go.ChangeShapes Go.WideShapes Go.ChangeAt Go.RowKit Go.Proofs.Ytlcpackmoolngaa.Mem Go.Proofs.Ytlcpackmoolngaa.Op Go.Proofs.Ytlcpackmoolngaa.Sm
set_option linter.unusedVariables false

/-- one parcel's bytes, in a block of lo .. hi - 1 -/
def InD (w : World) (lo hi : Nat) (xs : List Value) (i : Nat) (p : Parc) : Prop :=
  ∃ a c', (xs.drop (i * 5)).take 5 = parcL p a c' ∧ w.ownsRow lo 5 1 (.slice a p.bs.length c') p.bs.length (bytesV p.bs) ∧ (∀ ad, a = some ad → ad.block < hi) ∧ p.bs.length ≤ 140737488351232
def Cut (base : Nat) (w : World) (n : Nat) (cut : Nat → Nat) : Prop := base ≤ cut 0 ∧ (∀ i, cut i ≤ cut (i + 1)) ∧ cut n ≤ w.heap.size
theorem Cut.le {base : Nat} {w : World} {n : Nat} {cut : Nat → Nat} (h : Cut base w n cut) : ∀ i j, i ≤ j → cut i ≤ cut j := fun i j hij => by
  obtain ⟨k, rfl⟩ : ∃ k, j = i + k := ⟨j - i, by omega⟩
  clear hij
  induction k with
  | zero => exact Nat.le_refl _
  | succ k ih => exact Nat.le_trans ih (h.2.1 (i + k))
theorem Cut.base {base : Nat} {w : World} {n : Nat} {cut : Nat → Nat} (h : Cut base w n cut) (i : Nat) : base ≤ cut i := Nat.le_trans h.1 (h.le 0 i (Nat.zero_le _))
/-- a list of parcels in memory of its own, the bytes apart -/
def OwnD (w : World) (base : Nat) (A : Option Addr) (c : Nat) (ps : List Parc) : Prop :=
  ∃ xs cut, w.ownsRow base 52 5 (.slice A ps.length c) ps.length xs ∧ Cut base w ps.length cut ∧ ∀ i p, ps[i]? = some p → InD w (cut i) (cut (i + 1)) xs i p
theorem OwnD.own {w : World} {base : Nat} {A : Option Addr} {c : Nat} {ps : List Parc} (h : OwnD w base A c ps) : OwnParcs w base A c ps := by
  obtain ⟨xs, cut, ho, hc, hx⟩ := h
  refine ⟨xs, ho, fun i p hp => ?_⟩
  obtain ⟨a, c', h1, h2, h3, h4⟩ := hx i p hp
  exact ⟨a, c', h1, own_weaken h2 (hc.base i), h4⟩
theorem OwnD.keep {w w' : World} {base base' : Nat} {A : Option Addr} {c : Nat} {ps : List Parc} (h : OwnD w base A c ps) (hb : base' ≤ base) (hs : w.heap.size ≤ w'.heap.size) (hk : ∀ b e size v n xs, base ≤ b → w.ownsRow b e size v n xs → w'.ownsRow b e size v n xs) : OwnD w' base' A c ps := by
  obtain ⟨xs, cut, ho, hc, hx⟩ := h
  refine ⟨xs, cut, own_weaken (hk _ _ _ _ _ _ (Nat.le_refl _) ho) hb, ⟨Nat.le_trans hb hc.1, hc.2.1, Nat.le_trans hc.2.2 hs⟩, fun i p hp => ?_⟩
  obtain ⟨a, c', h1, h2, h3, h4⟩ := hx i p hp
  exact ⟨a, c', h1, hk _ _ _ _ _ _ (hc.base i) h2, h3, h4⟩
theorem OwnD.below {w w' : World} {base : Nat} {A : Option Addr} {c : Nat} {ps : List Parc} (h : OwnD w base A c ps) (hb : Below w.heap.size w w') : OwnD w' base A c ps := h.keep (Nat.le_refl _) hb.size fun _ _ _ _ _ _ _ h => Nd.ownsRow_below h hb
theorem OwnD.nil {w : World} {base : Nat} {A : Option Addr} {c : Nat} (h : w.ownsRow base 52 5 (.slice A 0 c) 0 []) (hb : base ≤ w.heap.size) : OwnD w base A c [] :=
  ⟨[], fun _ => base, h, ⟨Nat.le_refl _, fun _ => Nat.le_refl _, hb⟩, fun i p h => by simp at h⟩
/-- one more -/
theorem OwnD.snoc {w w' : World} {base lo : Nat} {A A' : Option Addr} {c c' : Nat} {ps : List Parc} {p : Parc} {a : Option Addr} {ca : Nat} {xs : List Value} {cut : Nat → Nat} (hlo : cut ps.length ≤ lo) (hc : base ≤ cut 0 ∧ ∀ i, cut i ≤ cut (i + 1)) (hx : ∀ i p, ps[i]? = some p → InD w (cut i) (cut (i + 1)) xs i p)
    (ho : w.ownsRow base 52 5 (.slice A ps.length c) ps.length xs) (hm : w.ownsRow lo 5 1 (.slice a p.bs.length ca) p.bs.length (bytesV p.bs)) (hl : p.bs.length ≤ 140737488351232) (hlw : lo ≤ w.heap.size)
    (ho' : w'.ownsRow base 52 5 (.slice A' (ps.length + 1) c') (ps.length + 1) (xs ++ parcL p a ca)) (hg : w.grownBy w' (Value.slice A ps.length c).ownBlock) : OwnD w' base A' c' (ps ++ [p]) := by
  have hne : 52 ≠ 5 := by decide
  have hxl : xs.length = ps.length * 5 := ho.1
  have hsz : w.heap.size ≤ w'.heap.size := hg.size
  refine ⟨xs ++ parcL p a ca, fun i => if i ≤ ps.length then cut i else w'.heap.size, by rw [List.length_append]; exact ho', ⟨?_, fun i => ?_, ?_⟩, fun i m' hi => ?_⟩
  · show base ≤ if 0 ≤ ps.length then cut 0 else _
    rw [if_pos (Nat.zero_le _)]; exact hc.1
  · show (if i ≤ ps.length then cut i else _) ≤ if i + 1 ≤ ps.length then cut (i + 1) else _
    by_cases h1 : i + 1 ≤ ps.length
    · rw [if_pos (by omega), if_pos h1]; exact hc.2 i
    · rw [if_neg h1]
      by_cases h2 : i ≤ ps.length
      · rw [if_pos h2]
        obtain rfl : i = ps.length := by omega
        omega
      · rw [if_neg h2]; exact Nat.le_refl _
  · show (if (ps ++ [p]).length ≤ ps.length then cut _ else _) ≤ _
    rw [if_neg (by simp)]; exact Nat.le_refl _
  · show InD w' (if i ≤ ps.length then cut i else _) (if i + 1 ≤ ps.length then cut (i + 1) else _) _ i m'
    rcases Nat.lt_or_ge i ps.length with h | h
    · rw [if_pos (by omega), if_pos (by omega)]
      rw [List.getElem?_append_left h] at hi
      obtain ⟨a', c1, h1, h2, h3, h4⟩ := hx i m' hi
      refine ⟨a', c1, ?_, Ms.own_kept h2 hg (Ms.own_is ho hne), h3, h4⟩
      rw [List.drop_append_of_le_length (by omega), List.take_append_of_le_length (by rw [List.length_drop]; omega)]
      exact h1
    · rw [List.getElem?_append_right h] at hi
      have hi0 : i = ps.length := by
        have := (List.getElem?_eq_some_iff.1 hi).1
        simp at this; omega
      subst hi0
      simp at hi
      subst hi
      rw [if_pos (Nat.le_refl _), if_neg (by omega)]
      have hk := Ms.own_kept hm hg (Ms.own_is ho hne)
      refine ⟨a, ca, ?_, own_weaken hk hlo, fun ad e => (hk.lt ad.block (by subst e; rfl)).2, hl⟩
      rw [List.drop_append, List.drop_of_length_le (by omega), hxl, Nat.sub_self, List.drop_zero, List.nil_append]
      rfl
end Go.Proofs.Ytlcpackmoolngaa.Bu
