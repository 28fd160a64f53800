/- Blocks of a struct's or an array's cells, told by a function: loads and stores of a part, of the whole, '==' of parts; in guarded operations too. -/
import Derived.Test.YtlcpackmoolngaaFlat
import Derived.Laws.Tables
namespace Go.Proofs.Ytlcpackmoolngaa.Rws
open Go.RowKit Go.Proofs.Ytlcpackmoolngaa.Mem Go.Proofs.Ytlcpackmoolngaa.Flat
set_option linter.unusedVariables false

def row (n : Nat) (f : Nat → Value) : Array Value := ((List.range n).map f).toArray
theorem row_size (n : Nat) (f : Nat → Value) : (row n f).size = n := by simp [row]
theorem row_at {n : Nat} {f : Nat → Value} {i : Nat} (hi : i < n) : (row n f)[i]? = some (f i) := by simp [row, hi]
theorem row_out {n : Nat} {f : Nat → Value} {i : Nat} (hi : n ≤ i) : (row n f)[i]? = none := by rw [Array.getElem?_eq_none (by rw [row_size]; exact hi)]
theorem row_congr {n : Nat} {f g : Nat → Value} (h : ∀ i, i < n → f i = g i) : row n f = row n g := by
  unfold row
  congr 1
  exact List.map_congr_left fun i hi => h i (List.mem_range.1 hi)
theorem row_set {n : Nat} {f : Nat → Value} (j : Nat) (v : Value) : (row n f).setIfInBounds j v = row n fun i => if i = j then v else f i := by
  apply Array.ext_getElem?
  intro i
  rw [Array.getElem?_setIfInBounds]
  rcases Nat.lt_or_ge i n with h | h
  · rw [row_at h, row_at h]
    by_cases e : j = i
    · subst e; simp [row_size, h]
    · rw [if_neg e, if_neg (fun h => e h.symm)]
  · rw [row_out h, row_out h]
    by_cases e : j = i
    · subst e; simp [row_size]; omega
    · rw [if_neg e]
theorem row_toList (n : Nat) (f : Nat → Value) : (row n f).toList = (List.range n).map f := rfl
theorem row_one {n : Nat} {f : Nat → Value} (h : ∀ i, i < n → (f i).oneCell' = true) : (row n f).all (·.oneCell') = true := by
  rw [Array.all_eq_true_iff_forall_mem]
  intro v hv
  simp only [row, List.mem_toArray, List.mem_map, List.mem_range] at hv
  obtain ⟨i, hi, rfl⟩ := hv
  exact h i hi

def over (o m : Nat) (g f : Nat → Value) (i : Nat) : Value := if o ≤ i ∧ i < o + m then g (i - o) else f i
theorem over_in {o m : Nat} {g f : Nat → Value} {i : Nat} (h1 : o ≤ i) (h2 : i < o + m) : over o m g f i = g (i - o) := if_pos ⟨h1, h2⟩
theorem over_out {o m : Nat} {g f : Nat → Value} {i : Nat} (h : i < o ∨ o + m ≤ i) : over o m g f i = f i := if_neg (by omega)

theorem row_range {w : World} {b : Nat} {t : TypeId} {n : Nat} {f : Nat → Value} (h : Blk w b t (row n f)) (o m : Nat) (ho : o + m ≤ n) : w.rangeAt b o ((List.range m).map fun j => f (o + j)) := fun j v hv => by
  have hj : j < m := by have := (List.getElem?_eq_some_iff.1 hv).1; simpa using this
  rw [h.cell, row_at (by omega)]
  simp [hj] at hv
  rw [hv]
theorem row_there {w : World} {b : Nat} {t : TypeId} {n : Nat} {f : Nat → Value} (h : Blk w b t (row n f)) (o m : Nat) (ho : o + m ≤ n) : w.there b o m := fun j hj =>
  ⟨by rw [h.cell, row_at (by omega)]; rfl, h.thaw _⟩

theorem setCells_blk {b : Nat} {t : TypeId} {n : Nat} (g : Nat → Value) : ∀ (m k o : Nat) (w : World) (f : Nat → Value), Blk w b t (row n f) →
    Blk (w.setCells b (o + k) ((List.range' k m).map g)) b t (row n fun i => if o + k ≤ i ∧ i < o + k + m then g (i - o) else f i)
  | 0, k, o, w, f, h => by
    simp only [List.range'_zero, List.map_nil, World.setCells]
    rw [row_congr (f := fun i => if o + k ≤ i ∧ i < o + k + 0 then g (i - o) else f i) (g := f) (fun i hi => if_neg (by omega))]
    exact h
  | m + 1, k, o, w, f, h => by
    rw [List.range'_succ, List.map_cons, World.setCells]
    have h1 := h.set (o + k) (g k)
    rw [row_set] at h1
    have h2 := setCells_blk g m (k + 1) o _ _ h1
    rw [← Nat.add_assoc] at h2
    rw [row_congr (g := fun i => if o + k + 1 ≤ i ∧ i < o + k + 1 + m then g (i - o) else if i = o + k then g k else f i) (fun i hi => ?_)]
    · exact h2
    · by_cases e : i = o + k
      · subst e
        rw [if_pos (by omega), if_neg (by omega), if_pos rfl, Nat.add_sub_cancel_left]
      · by_cases h3 : o + k + 1 ≤ i ∧ i < o + k + 1 + m
        · rw [if_pos (by omega), if_pos h3]
        · rw [if_neg (by omega), if_neg h3, if_neg e]

theorem blk_mid {w : World} {b : Nat} {t : TypeId} {n : Nat} {f : Nat → Value} (h : Blk w b t (row n f)) (o m : Nat) (g : Nat → Value) : Blk (w.setCells b o (row m g).toList) b t (row n (over o m g f)) := by
  have := setCells_blk g m 0 o w f h
  rw [row_toList, List.range_eq_range']
  simp only [Nat.add_zero] at this
  exact this
theorem blk_mid_other {w : World} {b b' : Nat} {t : TypeId} {cs : Array Value} (hb : b ≠ b') : ∀ (vs : List Value) (o : Nat) (w : World), Blk w b t cs → Blk (w.setCells b' o vs) b t cs
  | [], _, _, h => h
  | v :: r, o, w, h => by
    rw [World.setCells]
    exact blk_mid_other (w := w) hb r (o + 1) _ (h.other (p := ⟨b', o, none⟩) hb v)
theorem below_setCells {B : Nat} {b : Nat} (hB : B ≤ b) : ∀ (vs : List Value) (o : Nat) {a w : World}, Below B a w → Below B a (w.setCells b o vs)
  | [], _, _, _, h => h
  | v :: r, o, a, w, h => by
    rw [World.setCells]
    exact below_setCells hB r (o + 1) (h.setCell hB v)

section
variable {P : Program} {ops : Array Oper} {rest : List Oper} {o : Oper} {a : Act} {w : World} {Q : Exit → Act → World → Prop}

/-- an operation whose guard holds -/
theorem wpList_wanted (hw : Region.wanted o (yielded ops a.tmps) = true)
    (h : ∀ K : Act → World → Prop, (∀ a w, wpList P ops Q rest a w → K a w) → o.wp P a w K Q) : wpList P ops Q (o :: rest) a w :=
  wpList_step fun K hK => by rw [if_pos hw]; exact h K hK

theorem wpList_mid (hw : Region.wanted o (yielded ops a.tmps) = true) (ty : TypeId) (x : Operand) (ho : o.op = .load ty x)
    (b off m : Nat) (hx : a.eval x = .pointer (some ⟨b, off, none⟩)) {t : TypeId} {n : Nat} {f : Nat → Value} (hb : Blk w b t (row n f)) (hm : off + m ≤ n) (d : TypeDesc)
    (hu : P.underlying ty = some d) (hd : d.isRow = true) (hi : (P.info? ty).map (·.size) = some m)
    (h : wpList P ops Q rest (a.put o.dst (.agg (row m fun j => f (off + j)))) w) : wpList P ops Q (o :: rest) a w :=
  wpList_wanted hw fun _ hK => wp_load_mid ty x ho b off hx _ d (row_range hb off m hm) hu hd (by rw [hi]; simp) (hK _ _ h)

theorem wpList_whole (hw : Region.wanted o (yielded ops a.tmps) = true) (ty : TypeId) (x : Operand) (ho : o.op = .load ty x)
    (b : Nat) (hx : a.eval x = .pointer (some ⟨b, 0, none⟩)) {t : TypeId} {cs : Array Value} (hb : Blk w b t cs) (d : TypeDesc)
    (hu : P.underlying ty = some d) (hd : d.isRow = true) (hi : (P.info? ty).map (·.size) = some cs.size)
    (h : wpList P ops Q rest (a.put o.dst (.agg cs)) w) : wpList P ops Q (o :: rest) a w :=
  wpList_wanted hw fun _ hK => wp_load_row ty x ho b hx t cs (0, 0) d hb hu (by cases d <;> first | rfl | cases hd) hi (hK _ _ h)

theorem wpList_put (hw : Region.wanted o (yielded ops a.tmps) = true) (ty : TypeId) (x y : Operand) (ho : o.op = .store ty x y)
    (b off m : Nat) (g : Nat → Value) (hx : a.eval x = .pointer (some ⟨b, off, none⟩)) (hy : a.eval y = .agg (row m g)) {t : TypeId} {n : Nat} {f : Nat → Value} (hb : Blk w b t (row n f)) (hm : off + m ≤ n)
    (hi : (P.info? ty).map (·.size) = some m) (h1 : ∀ i, i < m → (g i).oneCell' = true)
    (h : wpList P ops Q rest (a.put o.dst undef) (w.setCells b off (row m g).toList)) : wpList P ops Q (o :: rest) a w :=
  wpList_wanted hw fun _ hK => wp_store_mid ty x y ho b off _ hx hy (by rw [row_size]; exact row_there hb off m hm) (by rw [hi, row_size]) (row_one h1) (hK _ _ h)

theorem run_eql_refl {t : TypeId} {d : Nat} {ls : List Bool} (he : eqOK P d t = some ls) (hd : d ≤ 10000) {u : TypeDesc} (hu : P.underlying t = some u) (hr : u.isRow = true) (hi : (P.info? t).map (·.size) = some ls.length) (xs : Array Value) (hs : xs.size = ls.length) (ht : Typed ls xs.toList) (w : World) :
    (binOp .eql t (.agg xs) (.agg xs)).run P w = .ok (.bool true) w := by
  obtain ⟨v, h1, h2⟩ := Flat.refl d t ls he xs 0 (by rw [List.drop_zero, ← hs, ← Array.length_toList, List.take_length]; exact ht) hi w
  rw [run_part_row hu hr hi] at h1
  have e : xs.extract 0 (0 + ls.length) = xs := by rw [Nat.zero_add, ← hs]; simp
  rw [e] at h1
  injection h1 with h1
  subst h1
  rw [run_eql_struct, h2 10000 hd]
  rfl

theorem run_eqGuard_rows {t : TypeId} (hq : P.eqGuardType P.depth t = false) (x y : Operand) (xs ys : Array Value) (w : World) : (eqGuard .eql t x y (.agg xs) (.agg ys)).run P w = .ok () w := by
  unfold eqGuard
  simp [run_program, hq]

theorem wpList_eql (hw : Region.wanted o (yielded ops a.tmps) = true) (t u : TypeId) (x y : Operand) (ho : o.op = .binOp .eql t x y u) {d : Nat} {ls : List Bool} (he : eqOK P d t = some ls) (hd : d ≤ 10000) {e : TypeDesc} (hu : P.underlying t = some e) (hr : e.isRow = true) (hi : (P.info? t).map (·.size) = some ls.length) (hq : P.eqGuardType P.depth t = false)
    (f : Nat → Value) (hx : a.eval x = .agg (row ls.length f)) (hy : a.eval y = .agg (row ls.length f)) (ht : Typed ls ((List.range ls.length).map f))
    (h : wpList P ops Q rest (a.put o.dst (.bool true)) w) : wpList P ops Q (o :: rest) a w :=
  wpList_wanted hw fun _ hK => by
    unfold Oper.wp execOp
    simp only [ho, hx, hy, Sem.run_bind, run_eqGuard_rows hq, run_eql_refl he hd hu hr hi _ (row_size _ _) ht, Result.andThen_ok, Sem.run_pure]
    exact hK _ _ h
end
end Go.Proofs.Ytlcpackmoolngaa.Rws
