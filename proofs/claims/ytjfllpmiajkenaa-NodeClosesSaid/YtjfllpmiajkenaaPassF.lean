/- P12.6, plainly: what Pass makes of a computer's cells. -/
import Derived.Test.YtjfllpmiajkenaaNodeM
namespace Go.Proofs.Ytjfllpmiajkenaa.Nd
open Go.RowKit Go.Proofs.Ytjfllpmiajkenaa.Mem Go.Proofs.Ytjfllpmiajkenaa.Rws Go.Proofs.Ytjfllpmiajkenaa.Flat
set_option linter.unusedVariables false

/-- k of the four heard numbers laid in -/
def passK (f : Nat → Value) (pv : Nat → Option Int) (k i : Nat) : Value := if 51 ≤ i ∧ i < 51 + k then (match pv (i - 51) with | some z => .int .i64 z | none => f i) else f i
theorem passK_zero (f : Nat → Value) (pv : Nat → Option Int) (S : Value) : row 74 (nodeW (passK f pv 0) S) = row 74 (nodeW f S) := row_congr fun i hi => by
  unfold nodeW passK
  rw [if_neg (show ¬ (51 ≤ i ∧ i < 51 + 0) by omega)]
theorem passK_none (f : Nat → Value) (pv : Nat → Option Int) (k : Nat) (S : Value) (h : pv k = none) : row 74 (nodeW (passK f pv (k + 1)) S) = row 74 (nodeW (passK f pv k) S) := row_congr fun i hi => by
  unfold nodeW passK
  by_cases e : i = 51 + k
  · subst e
    rw [if_pos (show 51 ≤ 51 + k ∧ 51 + k < 51 + (k + 1) by omega), if_neg (show ¬ (51 ≤ 51 + k ∧ 51 + k < 51 + k) by omega), Nat.add_sub_cancel_left, h]
  · by_cases h1 : 51 ≤ i ∧ i < 51 + k
    · rw [if_pos h1, if_pos (show 51 ≤ i ∧ i < 51 + (k + 1) by omega)]
    · rw [if_neg h1, if_neg (show ¬ (51 ≤ i ∧ i < 51 + (k + 1)) by omega)]
theorem passK_some (f : Nat → Value) (pv : Nat → Option Int) (k : Nat) (hk : k < 4) (S : Value) {z : Int} (h : pv k = some z) : (row 74 (nodeW (passK f pv k) S)).setIfInBounds (51 + k) (.int .i64 z) = row 74 (nodeW (passK f pv (k + 1)) S) := by
  rw [row_set]
  refine row_congr fun i hi => ?_
  by_cases e : i = 51 + k
  · subst e
    rw [if_pos rfl]
    unfold nodeW passK
    rw [if_neg (show ¬ (51 + k = 73) by omega), if_pos (show 51 ≤ 51 + k ∧ 51 + k < 51 + (k + 1) by omega), Nat.add_sub_cancel_left, h]
  · rw [if_neg e]
    unfold nodeW passK
    by_cases h1 : 51 ≤ i ∧ i < 51 + k
    · rw [if_pos h1, if_pos (show 51 ≤ i ∧ i < 51 + (k + 1) by omega)]
    · rw [if_neg h1, if_neg (show ¬ (51 ≤ i ∧ i < 51 + (k + 1)) by omega)]
theorem passK_low (f : Nat → Value) (pv : Nat → Option Int) (k i : Nat) (h : i < 51) : passK f pv k i = f i := if_neg (by omega)
theorem ok_pass {f : Nat → Value} (hf : ∀ i, i < 73 → okT (nodeT i) (f i)) (pv : Nat → Option Int) (k : Nat) (hk : k ≤ 4) : ∀ i, i < 73 → okT (nodeT i) (passK f pv k i) := fun i hi => by
  unfold passK
  by_cases h1 : 51 ≤ i ∧ i < 51 + k
  · rw [if_pos h1]
    have e : nodeT i = true := by
      obtain ⟨a, b⟩ := h1
      unfold nodeT
      simp
      omega
    cases pv (i - 51) with
    | some z => rw [e]; exact ⟨z, rfl⟩
    | none => exact hf i hi
  · rw [if_neg h1]; exact hf i hi

def iv : Value → Int
  | .int _ n => n
  | _ => 0
/-- the four numbers heard -/
def hvs (f : Nat → Value) : List Int := [iv (f 51), iv (f 52), iv (f 53), iv (f 54)]
theorem iv_of {v : Value} (h : okT true v) : v = .int .i64 (iv v) := by obtain ⟨n, rfl⟩ := h; rfl
theorem hvs_at {f : Nat → Value} (hf : ∀ i, i < 73 → okT (nodeT i) (f i)) {j : Nat} {u : Value} (h : (Ms.intsV (hvs f))[j]? = some u) : j < 4 ∧ f (51 + j) = u := by
  have hj : j < 4 := by have := (List.getElem?_eq_some_iff.1 h).1; simpa [Ms.intsV, hvs] using this
  have h51 := iv_of (hf 51 (by omega))
  have h52 := iv_of (hf 52 (by omega))
  have h53 := iv_of (hf 53 (by omega))
  have h54 := iv_of (hf 54 (by omega))
  refine ⟨hj, ?_⟩
  obtain rfl | rfl | rfl | rfl : j = 0 ∨ j = 1 ∨ j = 2 ∨ j = 3 := by omega
  · rw [h51]; simpa [Ms.intsV, hvs] using h
  · rw [h52]; simpa [Ms.intsV, hvs] using h
  · rw [h53]; simpa [Ms.intsV, hvs] using h
  · rw [h54]; simpa [Ms.intsV, hvs] using h
theorem rd_heard {w : World} {g : Nat} {t : TypeId} {f : Nat → Value} (hf : ∀ i, i < 73 → okT (nodeT i) (f i)) {S : Value} (h : Blk w g t (row 74 (nodeW f S))) : Rd w (g + 1) 1 (some ⟨g, 51, none⟩) 4 (Ms.intsV (hvs f)) :=
  ⟨rfl, fun _ => ⟨g, 51, rfl, by omega, fun j u hu => by
    obtain ⟨hj, e⟩ := hvs_at hf hu
    rw [h.cell, row_at (by omega)]
    show some (nodeW f S (51 + j)) = some u
    unfold nodeW
    rw [if_neg (show ¬ (51 + j = 73) by omega), e]⟩⟩
/-- the number that node i's vote tells -/
def passV (id fr : Int) (ms : List Ms.Msg) (i : Nat) : Option Int := (Ms.firstOf id fr 3 1 (i : Int) ms).map fun m => m.zs.getD 0 0
theorem fit_len {id fr kind : Int} {many : Nat} {fm : Int} {ms : List Ms.Msg} {m : Ms.Msg} (h : Ms.firstOf id fr kind many fm ms = some m) : m.zs.length = many := by
  have := List.find?_some h
  unfold Ms.fit at this
  simp only [Bool.and_eq_true, beq_iff_eq] at this
  have := this.2
  omega
end Go.Proofs.Ytjfllpmiajkenaa.Nd
