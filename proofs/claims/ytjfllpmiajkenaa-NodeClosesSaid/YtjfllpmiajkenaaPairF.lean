/- P12.8 in plain words: which state two others tell alike. -/
import Derived.Test.YtjfllpmiajkenaaCloseF
import Derived.Test.YtjfllpmiajkenaaOwnCap
namespace Go.Proofs.Ytjfllpmiajkenaa.Nd
open Go.RowKit Go.Proofs.Ytjfllpmiajkenaa.Mem Go.Proofs.Ytjfllpmiajkenaa.Rws Go.Proofs.Ytjfllpmiajkenaa.Flat
set_option linter.unusedVariables false
set_option linter.unusedSimpArgs false

def pairAt (o : Nat → Option Ms.Msg) (i k : Nat) : Option (List Int) :=
  match o i, o k with
  | some a, some b => if a.zs = b.zs then some a.zs else none
  | _, _ => none
def pairs : List (Nat × Nat) := [(0, 1), (0, 2), (0, 3), (1, 2), (1, 3), (2, 3)]
def pairOf (o : Nat → Option Ms.Msg) : Option (List Int) := pairs.findSome? fun p => pairAt o p.1 p.2
/-- none of those ahead of (i, k) -/
def NoPair (o : Nat → Option Ms.Msg) (i k : Nat) : Prop := ∀ a b, a < b → b < 4 → (a < i ∨ a = i ∧ b < k) → pairAt o a b = none
theorem NoPair.start (o : Nat → Option Ms.Msg) : NoPair o 0 1 := fun a b h1 h2 h3 => by omega
theorem NoPair.step {o : Nat → Option Ms.Msg} {i k : Nat} (h : NoPair o i k) (hp : pairAt o i k = none) : NoPair o i (k + 1) := fun a b h1 h2 h3 => by
  by_cases e : a = i ∧ b = k
  · rw [e.1, e.2]; exact hp
  · exact h a b h1 h2 (by omega)
theorem NoPair.next {o : Nat → Option Ms.Msg} {i : Nat} (h : NoPair o i 4) : NoPair o (i + 1) (i + 1 + 1) := fun a b h1 h2 h3 => h a b h1 h2 (by omega)
theorem NoPair.all {o : Nat → Option Ms.Msg} {i k : Nat} (hi : 4 ≤ i) (h : NoPair o i k) : pairOf o = none := by
  have hp : ∀ a b, a < b → b < 4 → pairAt o a b = none := fun a b h1 h2 => h a b h1 h2 (by omega)
  simp [pairOf, pairs, hp 0 1, hp 0 2, hp 0 3, hp 1 2, hp 1 3, hp 2 3]
theorem NoPair.found {o : Nat → Option Ms.Msg} {i k : Nat} (h : NoPair o i k) (hik : i < k) (hk : k < 4) {zs : List Int} (hz : pairAt o i k = some zs) : pairOf o = some zs := by
  have hp : ∀ a b, a < b → b < 4 → (a < i ∨ a = i ∧ b < k) → pairAt o a b = none := h
  obtain ⟨rfl, rfl⟩ | ⟨rfl, rfl⟩ | ⟨rfl, rfl⟩ | ⟨rfl, rfl⟩ | ⟨rfl, rfl⟩ | ⟨rfl, rfl⟩ : (i = 0 ∧ k = 1) ∨ (i = 0 ∧ k = 2) ∨ (i = 0 ∧ k = 3) ∨ (i = 1 ∧ k = 2) ∨ (i = 1 ∧ k = 3) ∨ (i = 2 ∧ k = 3) := by omega
  · simp [pairOf, pairs, hz]
  · simp [pairOf, pairs, hz, hp 0 1]
  · simp [pairOf, pairs, hz, hp 0 1, hp 0 2]
  · simp [pairOf, pairs, hz, hp 0 1, hp 0 2, hp 0 3]
  · simp [pairOf, pairs, hz, hp 0 1, hp 0 2, hp 0 3, hp 1 2]
  · simp [pairOf, pairs, hz, hp 0 1, hp 0 2, hp 0 3, hp 1 2, hp 1 3]
theorem pair_some {o : Nat → Option Ms.Msg} {i k : Nat} {a b : Ms.Msg} (ha : o i = some a) (hb : o k = some b) (h : a.zs = b.zs) : pairAt o i k = some a.zs := by
  unfold pairAt; rw [ha, hb]; exact if_pos h
theorem pair_other {o : Nat → Option Ms.Msg} {i k : Nat} {a b : Ms.Msg} (ha : o i = some a) (hb : o k = some b) (h : ¬ a.zs = b.zs) : pairAt o i k = none := by
  unfold pairAt; rw [ha, hb]; exact if_neg h
theorem pair_none1 {o : Nat → Option Ms.Msg} {i k : Nat} (ha : o i = none) : pairAt o i k = none := by unfold pairAt; rw [ha]
theorem pair_none2 {o : Nat → Option Ms.Msg} {i k : Nat} (hb : o k = none) : pairAt o i k = none := by
  unfold pairAt; rw [hb]; cases o i <;> rfl
/-- a computer behind a state that is told -/
def takeU (zs : List Int) (f : Nat → Value) : Nat → Value := if unpackOk zs = true then unpackF zs f else f
def adoptF (o : Nat → Option Ms.Msg) (f : Nat → Value) : Nat → Value := match pairOf o with
  | some zs => takeU zs f
  | none => f
def bvV (f : Nat → Value) (i : Nat) : Bool := bv (f i)
/-- P12.8 -/
def lostB (f : Nat → Value) : Bool := bv (f 72) && (iv (f 71) != iv (f 70))
def closeF (o : Nat → Option Ms.Msg) (f : Nat → Value) : Nat → Value := if lostB f = true then adoptF o f else f
theorem ok_takeU {f : Nat → Value} (hf : ∀ i, i < 73 → okT (nodeT i) (f i)) (zs : List Int) : ∀ i, i < 73 → okT (nodeT i) (takeU zs f i) := by
  unfold takeU; split
  · exact ok_unpack hf zs
  · exact hf
theorem ok_adopt {f : Nat → Value} (hf : ∀ i, i < 73 → okT (nodeT i) (f i)) (o : Nat → Option Ms.Msg) : ∀ i, i < 73 → okT (nodeT i) (adoptF o f i) := by
  unfold adoptF
  cases pairOf o with
  | some zs => exact ok_takeU hf zs
  | none => exact hf
theorem ok_close {f : Nat → Value} (hf : ∀ i, i < 73 → okT (nodeT i) (f i)) (o : Nat → Option Ms.Msg) : ∀ i, i < 73 → okT (nodeT i) (closeF o f i) := by
  unfold closeF; split
  · exact ok_adopt hf o
  · exact hf
theorem takeU_keep (zs : List Int) (f : Nat → Value) (i : Nat) (h : i < 6 ∨ 39 ≤ i) : takeU zs f i = f i := by
  unfold takeU; split
  · rcases h with h | h
    · exact unpack_low zs f i h
    · exact unpack_high zs f i h
  · rfl
theorem adopt_keep (o : Nat → Option Ms.Msg) (f : Nat → Value) (i : Nat) (h : i < 6 ∨ 39 ≤ i) : adoptF o f i = f i := by
  unfold adoptF
  cases pairOf o with
  | some zs => exact takeU_keep zs f i h
  | none => rfl
theorem close_keep (o : Nat → Option Ms.Msg) (f : Nat → Value) (i : Nat) (h : i < 6 ∨ 39 ≤ i) : closeF o f i = f i := by
  unfold closeF; split
  · exact adopt_keep o f i h
  · rfl

/-- what was heard, by reading, with its room -/
def HeardC (w : World) (B : Nat) (o : Option Ms.Msg) (v : Value) : Prop :=
  match o with
  | some m => ∃ a c, v = .slice (some a) m.zs.length c ∧ Rd w B 1 (some a) m.zs.length (Ms.intsV m.zs) ∧ m.zs.length ≤ c
  | none => v = .slice none 0 0
theorem HeardC.of {w : World} {base : Nat} {o : Option Ms.Msg} {v : Value} (h : Ms.HeardAs w base o v) : HeardC w w.heap.size o v := by
  cases o with
  | none => exact h
  | some m => obtain ⟨a, c, rfl, h2⟩ := h; exact ⟨a, c, rfl, Rd.of_own h2, (own_cap h2).2⟩
theorem HeardC.below {w w' : World} {B : Nat} {o : Option Ms.Msg} {v : Value} (h : HeardC w B o v) (hb : Below B w w') : HeardC w' B o v := by
  cases o with
  | none => exact h
  | some m => obtain ⟨a, c, e, h2, h3⟩ := h; exact ⟨a, c, e, h2.below hb, h3⟩
theorem HeardC.more {w : World} {B B' : Nat} {o : Option Ms.Msg} {v : Value} (h : HeardC w B o v) (hB : B ≤ B') : HeardC w B' o v := by
  cases o with
  | none => exact h
  | some m => obtain ⟨a, c, e, h2, h3⟩ := h; exact ⟨a, c, e, h2.more hB, h3⟩
end Go.Proofs.Ytjfllpmiajkenaa.Nd
