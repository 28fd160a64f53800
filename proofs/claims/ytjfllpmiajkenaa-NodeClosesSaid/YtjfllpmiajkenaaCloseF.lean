/- P12.8 in plain words: the state that numbers tell. -/
import Derived.Test.YtjfllpmiajkenaaPack
import Derived.Test.YtjfllpmiajkenaaRollW
import Derived.Test.YtjfllpmiajkenaaStay
namespace Go.Proofs.Ytjfllpmiajkenaa.Nd
open Go.RowKit Go.Proofs.Ytjfllpmiajkenaa.Mem Go.Proofs.Ytjfllpmiajkenaa.Rws Go.Proofs.Ytjfllpmiajkenaa.Flat
set_option linter.unusedVariables false
set_option linter.unusedSimpArgs false

def zAt (zs : List Int) (i : Nat) : Int := zs.getD i 0
def bitZ (v : Int) (i : Nat) : Bool := v.toNat / 2 ^ i % 2 == 1
def octAt (v : Int) (i : Nat) : Int := ((v.toNat / 8 ^ (3 - i) % 8 : Nat) : Int)
def rollU (zs : List Int) : RS := ⟨bitZ (zAt zs 21), octAt (zAt zs 22), octAt (zAt zs 23)⟩
def tailOk (zs : List Int) : Bool := decide (0 ≤ zAt zs 21 ∧ zAt zs 21 < 16 ∧ 0 ≤ zAt zs 22 ∧ zAt zs 22 < 4096 ∧ 0 ≤ zAt zs 23 ∧ zAt zs 23 < 4096)
def bentOk (zs : List Int) (a : Nat) : Bool := decide (zAt zs (a * 7 + 5) = 0 ∨ zAt zs (a * 7 + 5) = 1)
def bentTo (zs : List Int) : Nat → Bool
  | 0 => true
  | a + 1 => bentTo zs a && bentOk zs a
def goodU (zs : List Int) : Bool := okTo (rollU zs).f (rollU zs).m (rollU zs).j 4
def unpackOk (zs : List Int) : Bool := tailOk zs && goodU zs && bentTo zs 3
/-- an axis' cell as numbers tell it -/
def axV (zs : List Int) (i : Nat) : Value := if i % 7 = 5 then .bool (zAt zs i == 1) else .int .i64 (zAt zs i)
/-- k axes laid -/
def axU (zs : List Int) (k : Nat) (f : Nat → Value) (i : Nat) : Value := if 6 ≤ i ∧ i < 6 + k * 7 then axV zs (i - 6) else f i
def unpackF (zs : List Int) (f : Nat → Value) : Nat → Value := rollW (axU zs 3 f) (rollU zs)

theorem bent_bad {zs : List Int} {k : Nat} (hb : bentOk zs k = false) : ∀ {n : Nat}, k < n → bentTo zs n = false
  | 0, h => absurd h (by omega)
  | n + 1, h => by
    unfold bentTo
    by_cases e : k = n
    · subst e; rw [hb, Bool.and_false]
    · rw [bent_bad hb (show k < n by omega), Bool.false_and]
theorem axV_one (zs : List Int) (i : Nat) : (axV zs i).oneCell' = true := by unfold axV; split <;> rfl
theorem ok_axU {f : Nat → Value} (hf : ∀ i, i < 73 → okT (nodeT i) (f i)) (zs : List Int) (k : Nat) (hk : k ≤ 3) : ∀ i, i < 73 → okT (nodeT i) (axU zs k f i) := fun i hi => by
  unfold axU
  by_cases h : 6 ≤ i ∧ i < 6 + k * 7
  · rw [if_pos h]
    unfold axV
    by_cases h5 : (i - 6) % 7 = 5
    · rw [if_pos h5]
      obtain rfl | rfl | rfl : i = 11 ∨ i = 18 ∨ i = 25 := by omega
      all_goals exact ⟨_, rfl⟩
    · rw [if_neg h5]
      have e : nodeT i = true := by unfold nodeT; simp; omega
      rw [e]
      exact ⟨_, rfl⟩
  · rw [if_neg h]; exact hf i hi
theorem ok_unpack {f : Nat → Value} (hf : ∀ i, i < 73 → okT (nodeT i) (f i)) (zs : List Int) : ∀ i, i < 73 → okT (nodeT i) (unpackF zs f i) := ok_rollW (ok_axU hf zs 3 (Nat.le_refl _)) _
theorem unpack_low (zs : List Int) (f : Nat → Value) (i : Nat) (h : i < 6) : unpackF zs f i = f i := by
  unfold unpackF rollW axU
  rw [if_neg (by omega), if_neg (by omega)]
theorem unpack_high (zs : List Int) (f : Nat → Value) (i : Nat) (h : 39 ≤ i) : unpackF zs f i = f i := by
  unfold unpackF rollW axU
  rw [if_neg (by omega), if_neg (by omega)]
theorem unpack_row (zs : List Int) (f : Nat → Value) (S : Value) : row 74 (over 27 12 (rollF (rollU zs).f (rollU zs).m (rollU zs).j) (over 6 21 (axV zs) (nodeW f S))) = row 74 (nodeW (unpackF zs f) S) := row_congr fun i hi => by
  unfold over nodeW unpackF rollW axU
  by_cases h : 27 ≤ i ∧ i < 27 + 12
  · rw [if_pos h, if_neg (by omega), if_pos (by omega)]
  · rw [if_neg h, if_neg (show ¬ (27 ≤ i ∧ i < 39) by omega)]
    by_cases h6 : 6 ≤ i ∧ i < 6 + 21
    · rw [if_pos h6, if_neg (by omega), if_pos (by omega)]
    · rw [if_neg h6]
      by_cases e : i = 73
      · rw [if_pos e, if_pos e]
      · rw [if_neg e, if_neg e, if_neg (by omega)]
/-- an axis among the three -/
theorem ax_store (zs : List Int) (k : Nat) (hk : k < 3) (F : Nat → Value) : row 21 (over (k * 7) 7 (fun j => axV zs (k * 7 + j)) (fun i => if i < k * 7 then axV zs i else F i)) = row 21 (fun i => if i < (k + 1) * 7 then axV zs i else F i) := row_congr fun i hi => by
  unfold over
  by_cases h : k * 7 ≤ i ∧ i < k * 7 + 7
  · rw [if_pos h, if_pos (by omega)]
    show axV zs (k * 7 + (i - k * 7)) = _
    rw [show k * 7 + (i - k * 7) = i by omega]
  · rw [if_neg h]
    show (if i < k * 7 then axV zs i else F i) = _
    by_cases h2 : i < k * 7
    · rw [if_pos h2, if_pos (by omega)]
    · rw [if_neg h2, if_neg (by omega)]
theorem axV_row (zs : List Int) (k : Nat) (hk : k < 3) : (row 7 fun j => axV zs (k * 7 + j)) = #[.int .i64 (zAt zs (k * 7)), .int .i64 (zAt zs (k * 7 + 1)), .int .i64 (zAt zs (k * 7 + 2)), .int .i64 (zAt zs (k * 7 + 3)), .int .i64 (zAt zs (k * 7 + 4)), .bool (zAt zs (k * 7 + 5) == 1), .int .i64 (zAt zs (k * 7 + 6))] := by
  obtain rfl | rfl | rfl : k = 0 ∨ k = 1 ∨ k = 2 := by omega
  all_goals rfl
theorem rd_zs {w : World} {B : Nat} {a : Option Addr} {zs : List Int} (h : Rd w B 1 a zs.length (Ms.intsV zs)) (hl : zs.length = 24) : ∃ b o, a = some ⟨b, o, none⟩ ∧ b < B ∧ ∀ j, j < 24 → w.cell? ⟨b, o + j, none⟩ = some (.int .i64 (zAt zs j)) := by
  obtain ⟨b, o, e, hb, hc⟩ := h.2 (by omega)
  refine ⟨b, o, e, hb, fun j hj => hc j _ ?_⟩
  unfold Ms.intsV zAt
  rw [List.getElem?_map, List.getD_eq_getElem?_getD, List.getElem?_eq_getElem (by omega)]
  rfl
theorem gr_alloc (w : World) (o : Obj) (row : Option Nat) : w.grownBy (w.alloc o) row := gr_below ((Below.refl _ _).alloc (Nat.le_refl _) o)
theorem gr_setCells (w : World) (g : Nat) : ∀ (vs : List Value) (o : Nat), w.grownBy (w.setCells g o vs) (some g)
  | [], _ => gr_refl w _
  | v :: r, o => by
    rw [World.setCells]
    exact gr_trans (gr_set w g o v) (gr_setCells _ g r (o + 1))
def uptoB (g : Nat → Bool) (j i : Nat) : Bool := if i < j then g i else false
def uptoI (g : Nat → Int) (j i : Nat) : Int := if i < j then g i else 0
theorem uptoB_succ (g : Nat → Bool) (j : Nat) : upd (uptoB g j) j (g j) = uptoB g (j + 1) := funext fun i => by
  unfold upd uptoB
  by_cases e : i = j
  · subst e; rw [if_pos rfl, if_pos (by omega)]
  · rw [if_neg e]
    by_cases h : i < j
    · rw [if_pos h, if_pos (by omega)]
    · rw [if_neg h, if_neg (by omega)]
theorem uptoI_succ (g : Nat → Int) (j : Nat) : upd (uptoI g j) j (g j) = uptoI g (j + 1) := funext fun i => by
  unfold upd uptoI
  by_cases e : i = j
  · subst e; rw [if_pos rfl, if_pos (by omega)]
  · rw [if_neg e]
    by_cases h : i < j
    · rw [if_pos h, if_pos (by omega)]
    · rw [if_neg h, if_neg (by omega)]
theorem upto_all (r : RS) : row 12 (rollF (uptoB r.f 4) (uptoI r.m 4) (uptoI r.j 4)) = r.row :=
  roll_congr (fun i hi => by unfold uptoB; rw [if_pos hi]) (fun i hi => by unfold uptoI; rw [if_pos hi]) (fun i hi => by unfold uptoI; rw [if_pos hi])
theorem and1z (n : Int) : bits .and .i64 n 1 = n % 2 := by
  have h1 : (BitVec.ofInt 64 1).toNat = 2 ^ 1 - 1 := by decide
  have key : (BitVec.ofInt 64 n &&& BitVec.ofInt 64 1).toNat = (n % ((2 ^ 64 : Nat) : Int)).toNat % 2 ^ 1 := by
    rw [BitVec.toNat_and, BitVec.toNat_ofInt, h1, Nat.and_two_pow_sub_one_eq_mod]
  show IntKind.i64.wrap ((BitVec.ofInt 64 n &&& BitVec.ofInt 64 1).toNat : Nat) = n % 2
  rw [key, IntKind.wrap_i64]
  omega
theorem and7z (n : Int) : bits .and .i64 n 7 = n % 8 := by
  have h1 : (BitVec.ofInt 64 7).toNat = 2 ^ 3 - 1 := by decide
  have key : (BitVec.ofInt 64 n &&& BitVec.ofInt 64 7).toNat = (n % ((2 ^ 64 : Nat) : Int)).toNat % 2 ^ 3 := by
    rw [BitVec.toNat_and, BitVec.toNat_ofInt, h1, Nat.and_two_pow_sub_one_eq_mod]
  show IntKind.i64.wrap ((BitVec.ofInt 64 n &&& BitVec.ofInt 64 7).toNat : Nat) = n % 8
  rw [key, IntKind.wrap_i64]
  omega
theorem bit_mod (v j : Nat) {x : Int} (hx : x = ((v / 2 ^ j : Nat) : Int)) : (x % 2 == 1) = bitZ (v : Int) j := by
  subst hx
  unfold bitZ
  rw [Int.toNat_natCast]
  generalize v / 2 ^ j = y
  rw [Bool.eq_iff_iff]
  simp
  omega
theorem bit_law (v j : Nat) {x : Int} (hx : x = ((v / 2 ^ j : Nat) : Int)) : (bits .and .i64 x 1 == 1) = bitZ (v : Int) j := by
  rw [and1z]; exact bit_mod v j hx
theorem oct_mod (v j : Nat) {x : Int} (hx : x = ((v / 8 ^ (3 - j) : Nat) : Int)) : x % 8 = octAt (v : Int) j := by
  subst hx
  unfold octAt
  rw [Int.toNat_natCast]
  generalize v / 8 ^ (3 - j) = y
  omega
theorem oct_law (v j : Nat) {x : Int} (hx : x = ((v / 8 ^ (3 - j) : Nat) : Int)) : bits .and .i64 x 7 = octAt (v : Int) j := by
  rw [and7z]; exact oct_mod v j hx
theorem roll_put (r : RS) (j : Nat) (hj : j < 4) {w : World} {g : Nat} {t : TypeId} (h : Blk w g t (row 12 (rollF (uptoB r.f j) (uptoI r.m j) (uptoI r.j j)))) {b : Bool} {x y : Int} (hb : b = r.f j) (hx : x = r.m j) (hy : y = r.j j) :
    Blk (((w.setCell ⟨g, j, none⟩ (.bool b)).setCell ⟨g, 4 + j, none⟩ (.int .i64 x)).setCell ⟨g, 8 + j, none⟩ (.int .i64 y)) g t (row 12 (rollF (uptoB r.f (j + 1)) (uptoI r.m (j + 1)) (uptoI r.j (j + 1)))) := by
  subst hb hx hy
  have h1 := ((h.set j (.bool (r.f j))).set (4 + j) (.int .i64 (r.m j))).set (8 + j) (.int .i64 (r.j j))
  rwa [roll_in _ _ _ j hj, roll_miss _ _ _ j hj, roll_join _ _ _ j hj, uptoB_succ, uptoI_succ, uptoI_succ] at h1
/-- the roll's cells, laid from the last on down to n -/
def rollD (r : RS) (n : Nat) (F : Nat → Value) (i : Nat) : Value := if 27 ≤ i ∧ i < 39 ∧ n ≤ (i - 27) % 4 then rollF r.f r.m r.j (i - 27) else F i
theorem rollD_top (r : RS) (F : Nat → Value) (S : Value) : row 74 (nodeW (rollD r 4 F) S) = row 74 (nodeW F S) := row_congr fun i hi => by
  unfold nodeW rollD
  rw [if_neg (show ¬ (27 ≤ i ∧ i < 39 ∧ 4 ≤ (i - 27) % 4) by omega)]
theorem rollD_all (r : RS) (F : Nat → Value) (S : Value) : row 74 (nodeW (rollD r 0 F) S) = row 74 (nodeW (rollW F r) S) := row_congr fun i hi => by
  unfold nodeW rollD rollW
  by_cases h : 27 ≤ i ∧ i < 39
  · rw [if_pos (show 27 ≤ i ∧ i < 39 ∧ 0 ≤ (i - 27) % 4 from ⟨h.1, h.2, Nat.zero_le _⟩), if_pos h]
  · rw [if_neg (show ¬ (27 ≤ i ∧ i < 39 ∧ 0 ≤ (i - 27) % 4) from fun h' => h ⟨h'.1, h'.2.1⟩), if_neg h]
theorem rollD_put (r : RS) (j : Nat) (hj : j < 4) (F : Nat → Value) (S : Value) {w : World} {g : Nat} {t : TypeId} (h : Blk w g t (row 74 (nodeW (rollD r (j + 1) F) S))) {b : Bool} {x y : Int} (hb : b = r.f j) (hx : x = r.m j) (hy : y = r.j j) :
    Blk (((w.setCell ⟨g, 31 + j, none⟩ (.int .i64 x)).setCell ⟨g, 35 + j, none⟩ (.int .i64 y)).setCell ⟨g, 27 + j, none⟩ (.bool b)) g t (row 74 (nodeW (rollD r j F) S)) := by
  subst hb hx hy
  have h1 := ((h.set (31 + j) (.int .i64 (r.m j))).set (35 + j) (.int .i64 (r.j j))).set (27 + j) (.bool (r.f j))
  rw [row_set, row_set, row_set] at h1
  rw [row_congr (g := nodeW (rollD r j F) S) (fun i hi => ?_)] at h1
  · exact h1
  · by_cases e1 : i = 27 + j
    · subst e1
      rw [if_pos rfl]
      unfold nodeW rollD
      rw [if_neg (by omega), if_pos (by omega), Nat.add_sub_cancel_left, rollF_in hj]
    · rw [if_neg e1]
      by_cases e2 : i = 35 + j
      · subst e2
        rw [if_pos rfl]
        unfold nodeW rollD
        rw [if_neg (by omega), if_pos (by omega), show 35 + j - 27 = 8 + j by omega, rollF_join hj]
      · rw [if_neg e2]
        by_cases e3 : i = 31 + j
        · subst e3
          rw [if_pos rfl]
          unfold nodeW rollD
          rw [if_neg (by omega), if_pos (by omega), show 31 + j - 27 = 4 + j by omega, rollF_miss hj]
        · rw [if_neg e3]
          unfold nodeW rollD
          by_cases e4 : i = 73
          · rw [if_pos e4, if_pos e4]
          · rw [if_neg e4, if_neg e4]
            by_cases h2 : 27 ≤ i ∧ i < 39 ∧ j + 1 ≤ (i - 27) % 4
            · rw [if_pos h2, if_pos (by omega)]
            · rw [if_neg h2, if_neg (by omega)]
theorem rollW_part (r : RS) (F : Nat → Value) (S : Value) : (row 12 fun j => nodeW (rollW F r) S (27 + j)) = r.row := row_congr fun i hi => by
  unfold nodeW rollW
  rw [if_neg (by omega), if_pos (by omega), Nat.add_sub_cancel_left]
theorem ax_put (zs : List Int) (k : Nat) (hk : k < 3) (f : Nat → Value) (S : Value) : row 74 (over (6 + k * 7) 7 (fun j => axV zs (k * 7 + j)) (nodeW (axU zs k f) S)) = row 74 (nodeW (axU zs (k + 1) f) S) := row_congr fun i hi => by
  unfold over nodeW axU
  by_cases h : 6 + k * 7 ≤ i ∧ i < 6 + k * 7 + 7
  · rw [if_pos h, if_neg (by omega), if_pos (by omega)]
    show axV zs (k * 7 + (i - (6 + k * 7))) = _
    rw [show k * 7 + (i - (6 + k * 7)) = i - 6 by omega]
  · rw [if_neg h]
    by_cases e : i = 73
    · rw [if_pos e, if_pos e]
    · rw [if_neg e, if_neg e]
      by_cases h2 : 6 ≤ i ∧ i < 6 + k * 7
      · rw [if_pos h2, if_pos (by omega)]
      · rw [if_neg h2, if_neg (by omega)]
theorem ax_none (zs : List Int) (f : Nat → Value) (S : Value) : row 74 (nodeW (axU zs 0 f) S) = row 74 (nodeW f S) := row_congr fun i hi => by
  unfold nodeW axU
  rw [if_neg (show ¬ (6 ≤ i ∧ i < 6 + 0 * 7) by omega)]
theorem ok_rollD {F : Nat → Value} (hF : ∀ i, i < 73 → okT (nodeT i) (F i)) (r : RS) (n : Nat) : ∀ i, i < 73 → okT (nodeT i) (rollD r n F i) := fun i hi => by
  have h := ok_rollW hF r i hi
  unfold rollW at h
  unfold rollD
  by_cases h1 : 27 ≤ i ∧ i < 39 ∧ n ≤ (i - 27) % 4
  · rw [if_pos h1]; rwa [if_pos ⟨h1.1, h1.2.1⟩] at h
  · rw [if_neg h1]; exact hF i hi
end Go.Proofs.Ytjfllpmiajkenaa.Nd
