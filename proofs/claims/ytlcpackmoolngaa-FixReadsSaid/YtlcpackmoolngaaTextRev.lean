/- A list turned round in place, pair by pair; strings of bytes put together and cut. -/
import Derived.Test.YtlcpackmoolngaaStr
namespace Go.Proofs.Ytlcpackmoolngaa.Tx
open Go.RowKit Go.Proofs.Ytlcpackmoolngaa.Mem Go.Proofs.Ytlcpackmoolngaa.Sm
set_option linter.unusedVariables false

/-- k pairs are turned -/
def mixR (l : List Nat) (k : Nat) : List Nat := (List.range l.length).map fun x => if x < k ∨ l.length - k ≤ x then l.getD (l.length - 1 - x) 0 else l.getD x 0
theorem mixR_length (l : List Nat) (k : Nat) : (mixR l k).length = l.length := by simp [mixR]
theorem mixR_at (l : List Nat) (k x : Nat) (hx : x < l.length) : (mixR l k)[x]? = some (if x < k ∨ l.length - k ≤ x then l.getD (l.length - 1 - x) 0 else l.getD x 0) := by
  simp [mixR, hx]
theorem mixR_zero (l : List Nat) : mixR l 0 = l := by
  apply List.ext_getElem?
  intro x
  by_cases hx : x < l.length
  · rw [mixR_at l 0 x hx, if_neg (by omega), List.getD_eq_getElem?_getD, List.getElem?_eq_getElem hx]; rfl
  · rw [List.getElem?_eq_none (by rw [mixR_length]; omega), List.getElem?_eq_none (by omega)]
theorem mixR_end (l : List Nat) (k : Nat) (h : l.length ≤ 2 * k + 1) : mixR l k = l.reverse := by
  apply List.ext_getElem?
  intro x
  by_cases hx : x < l.length
  · rw [mixR_at l k x hx, List.getElem?_reverse hx]
    have hy : l.length - 1 - x < l.length := by omega
    rw [List.getElem?_eq_getElem hy]
    by_cases hc : x < k ∨ l.length - k ≤ x
    · rw [if_pos hc, List.getD_eq_getElem?_getD, List.getElem?_eq_getElem hy]; rfl
    · rw [if_neg hc, List.getD_eq_getElem?_getD, List.getElem?_eq_getElem hx]
      have e : l.length - 1 - x = x := by omega
      simp only [e]; rfl
  · rw [List.getElem?_eq_none (by rw [mixR_length]; omega), List.getElem?_eq_none (by rw [List.length_reverse]; omega)]
theorem mixR_lo (l : List Nat) (k : Nat) (h : k < l.length - 1 - k) : (mixR l k).getD k 0 = l.getD k 0 := by
  rw [List.getD_eq_getElem?_getD, mixR_at l k k (by omega), if_neg (by omega)]; rfl
theorem mixR_hi (l : List Nat) (k : Nat) (h : k < l.length - 1 - k) : (mixR l k).getD (l.length - 1 - k) 0 = l.getD (l.length - 1 - k) 0 := by
  rw [List.getD_eq_getElem?_getD, mixR_at l k _ (by omega), if_neg (by omega)]; rfl
theorem mixR_step (l : List Nat) (k : Nat) (h : k < l.length - 1 - k) : ((mixR l k).set k (l.getD (l.length - 1 - k) 0)).set (l.length - 1 - k) (l.getD k 0) = mixR l (k + 1) := by
  apply List.ext_getElem?
  intro x
  by_cases hx : x < l.length
  · rw [List.getElem?_set, List.getElem?_set, List.length_set, mixR_length, mixR_at l k x hx, mixR_at l (k + 1) x hx]
    by_cases e1 : l.length - 1 - k = x
    · rw [if_pos e1, if_pos (by omega), if_pos (by omega)]
      congr 2; omega
    · rw [if_neg e1]
      by_cases e2 : k = x
      · subst e2
        rw [if_pos rfl, if_pos (by omega), if_pos (by omega)]
      · rw [if_neg e2]
        by_cases hc : x < k ∨ l.length - k ≤ x
        · rw [if_pos hc, if_pos (by omega)]
        · rw [if_neg hc, if_neg (by omega)]
  · rw [List.getElem?_eq_none (by rw [List.length_set, List.length_set, mixR_length]; omega), List.getElem?_eq_none (by rw [mixR_length]; omega)]

/-- digits as bytes -/
def ch (ds : List Nat) : List Nat := ds.map (· + 48)
theorem ch_append (a b : List Nat) : ch (a ++ b) = ch a ++ ch b := by simp [ch]
theorem ch_length (a : List Nat) : (ch a).length = a.length := by simp [ch]

/-- a list of bytes of a call's own, from a block on -/
def OwnB (base : Nat) (wr : World) (v : Value) (bs : List Nat) : Prop := ∃ A c, v = .slice A bs.length c ∧ wr.ownsRow base 5 1 (.slice A bs.length c) bs.length (bytesV bs)

theorem ownB_below {base : Nat} {w w' : World} {v : Value} {bs : List Nat} (h : OwnB base w v bs) (hb : Below w.heap.size w w') : OwnB base w' v bs := by
  obtain ⟨A, c, e, h⟩ := h
  exact ⟨A, c, e, ownsRow_below h hb⟩

theorem bytesV_set (bs : List Nat) (t x : Nat) : bytesV (bs.set t x) = (bytesV bs).set t (.int .u8 (x : Int)) := by simp [bytesV, List.map_set]
theorem bytesV_getD (bs : List Nat) (t : Nat) (h : t < bs.length) : (bytesV bs)[t]? = some (.int .u8 ((bs.getD t 0 : Nat) : Int)) := by
  rw [bytesV_at bs t h, List.getD_eq_getElem?_getD, List.getElem?_eq_getElem h]; rfl
end Go.Proofs.Ytlcpackmoolngaa.Tx
