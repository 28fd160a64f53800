import Derived.Test.YtjfllpmiajkenaaGreatPk8
import Derived.Test.YtjfllpmiajkenaaGreatPk3
import Derived.Test.YtjfllpmiajkenaaGreatPk25
namespace Go.Proofs.YtjfllpmiajkenaaGreat.Nd
open Go.RowKit Go.Proofs.YtjfllpmiajkenaaGreat.Mem Go.Proofs.YtjfllpmiajkenaaGreat.Rws Go.Proofs.YtjfllpmiajkenaaGreat.Flat
set_option linter.unusedVariables false
structure NK (w : World) (g : Nat) (A : Option Addr) (c : Nat) (bs : List Bool) (wr : World) : Prop where
  hb : Below g w wr
  g6 : Blk wr (g + 1) 37 Tryz.zeroCells37
  g7 : Blk wr (g + 1 + 1) 41 #[.int .i64 0, .int .i64 0, .int .i64 0, .slice none 0 0]
  hv : wr.ownsRow (g + 1 + 1 + 1) 4 1 (.slice A bs.length c) bs.length (boolsV bs)
structure DK (w : World) (g : Nat) (A : Option Addr) (c : Nat) (bs : List Bool) (o : Nat → Option Ms.Msg) (s : Nat → Value) (gh : Nat) (R4 : Array Value) (wr : World) : Prop where
  nk : NK w g A c bs wr
  hh : Blk wr gh 70 R4
  hs : ∀ i, i < 4 → Ms.HeardAs wr (g + 1 + 1 + 1) (o i) (s i)
section
variable {w : World} {g : Nat} {A : Option Addr} {c : Nat} {bs : List Bool} {o : Nat → Option Ms.Msg} {s : Nat → Value} {gh : Nat} {R4 : Array Value} {wr w' : World}
theorem NK.step (h : NK w g A c bs wr) (hb : Below wr.heap.size wr w') : NK w g A c bs w' :=
  ⟨h.hb.trans (hb.mono (by have := h.g7.lt; omega)), h.g6.below hb h.g6.lt, h.g7.below hb h.g7.lt, ownsRow_below h.hv hb⟩
theorem own_bools {v : Value} {n : Nat} {xs : List Value} {base : Nat} (h : wr.ownsRow base 3 1 v n xs) : ∀ x, v.ownBlock = some x → ∃ cur t, wr.heap[x]? = some (.cells cur t (0, 0)) ∧ t ≠ 4 := Ms.own_is h (by decide)
theorem NK.grown {row : Option Nat} (h : NK w g A c bs wr) (hg : wr.grownBy w' row) (hr : ∀ x, row = some x → ∃ cur t, wr.heap[x]? = some (.cells cur t (0, 0)) ∧ t ≠ 4) (hlo : ∀ x, row = some x → g + 1 + 1 < x) : NK w g A c bs w' :=
  ⟨h.hb.grown hg (Nat.le_of_lt (by have := h.g7.lt; omega)) (fun x e => by have := hlo x e; omega), h.g6.grown hg (fun e => by have := hlo _ e.symm; omega), h.g7.grown hg (fun e => by have := hlo _ e.symm; omega), Ms.own_kept h.hv hg hr⟩
theorem NK.drew (h : NK w g A c bs wr) : NK w g A c bs wr.drew := h.step (Below.refl _ _).drew
theorem NK.set (h : NK w g A c bs wr) (i : Nat) (u : Value) : NK w g A c bs (wr.setCell ⟨g, i, none⟩ u) :=
  ⟨h.hb.setCell (p := ⟨g, i, none⟩) (Nat.le_refl _) u, h.g6.other (p := ⟨g, i, none⟩) (by show g + 1 ≠ g; omega) u, h.g7.other (p := ⟨g, i, none⟩) (by show g + 1 + 1 ≠ g; omega) u, ownsRow_setCell_below h.hv (by show g < _; omega) u⟩
theorem NK.sets (h : NK w g A c bs wr) : ∀ (vs : List Value) (i : Nat), NK w g A c bs (wr.setCells g i vs) := by
  intro vs
  induction vs generalizing wr with
  | nil => exact fun i => h
  | cons v r ih => intro i; rw [World.setCells]; exact ih (h.set i v) (i + 1)
theorem DK.step (h : DK w g A c bs o s gh R4 wr) (hb : Below wr.heap.size wr w') : DK w g A c bs o s gh R4 w' := ⟨h.nk.step hb, h.hh.below hb h.hh.lt, fun i hi => (h.hs i hi).below hb⟩
theorem DK.drew (h : DK w g A c bs o s gh R4 wr) : DK w g A c bs o s gh R4 wr.drew := h.step (Below.refl _ _).drew
theorem DK.set (h : DK w g A c bs o s gh R4 wr) (i : Nat) (u : Value) (hg : g < gh) : DK w g A c bs o s gh R4 (wr.setCell ⟨g, i, none⟩ u) :=
  ⟨h.nk.set i u, h.hh.other (p := ⟨g, i, none⟩) (by show gh ≠ g; omega) u, fun j hj => (h.hs j hj).keep fun n xs hx => ownsRow_setCell_below hx (by show g < _; omega) u⟩
end
theorem decG_P (f : Nat → Value) (z : Nat → Int) (P P' : Nat → Bool) (n u : Nat) (h : ∀ x, x < 12 → P x = P' x) (S : Value) : row 74 (nodeW (decG f z P n u) S) = row 74 (nodeW (decG f z P' n u) S) := row_congr fun i _ => by
  unfold nodeW decG
  by_cases h2 : 55 ≤ i ∧ i < 67
  · rw [h (i - 55) (by omega)]
  · rw [if_neg (c := 55 ≤ i ∧ i < 67 ∧ P (i - 55) = true) (fun h => h2 ⟨h.1, h.2.1⟩), if_neg (c := 55 ≤ i ∧ i < 67 ∧ P' (i - 55) = true) (fun h => h2 ⟨h.1, h.2.1⟩)]
theorem decG_all (f : Nat → Value) (z : Nat → Int) (n u : Nat) {S : Value} : row 74 (nodeW (decG f z (fun x => decide (x < 4 * 3)) n u) S) = row 74 (nodeW (decG f z allP n u) S) := decG_P f z _ _ n u (fun x hx => decide_eq_true hx) S
end Go.Proofs.YtjfllpmiajkenaaGreat.Nd
