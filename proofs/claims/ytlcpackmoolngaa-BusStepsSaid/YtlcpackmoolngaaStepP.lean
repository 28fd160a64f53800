/- A queue that is erased from again and again, and what is taken out of it: rows of parcels in memory of their own. -/
import Derived.Test.YtlcpackmoolngaaStabOver
import Derived.Test.YtlcpackmoolngaaStabBest
import Derived.Test.YtlcpackmoolngaaAppAt
namespace Go.Proofs.Ytlcpackmoolngaa.Ss
open Go.ChangeShapes Go.WideShapes Go.ChangeAt Go.Shelf Go.RowKit Go.Lib Go.Sort Go.Proofs.Ytlcpackmoolngaa.Stb Go.Proofs.Ytlcpackmoolngaa.Bu Go.Proofs.Ytlcpackmoolngaa.Mem Go.Proofs.Ytlcpackmoolngaa.Op Go.Proofs.Ytlcpackmoolngaa.Sm
set_option linter.unusedVariables false
theorem ownp_addr {w : World} {base : Nat} {A : Option Addr} {c : Nat} {qs : List Parc} (h : OwnParcs w base A c qs) (hn : 0 < qs.length) : ∃ g, A = some ⟨g, 0, none⟩ ∧ base ≤ g ∧ g < w.heap.size ∧ qs.length ≤ c ∧ c ≤ maxLen := by
  obtain ⟨xs, ho, hx⟩ := h
  have hlt := ho.lt
  rcases ho.2 with ⟨_, h0⟩ | ⟨g, cap, cur, hv, hb, hg, hnc, hcm, _⟩
  · omega
  · injection hv with h1 h2 h3
    subst h1 h3
    exact ⟨g, rfl, hb, (hlt g rfl).2, hnc, hcm⟩
theorem ownp_lo {w : World} {base : Nat} {A : Option Addr} {c : Nat} {ps : List Parc} (h : OwnParcs w base A c ps) : ParcsLo w base w.heap.size A ps := by
  obtain ⟨xs, ho, hx⟩ := h
  refine ⟨xs, Rd.of_own ho, own_lo ho, fun i p hp => ?_⟩
  obtain ⟨a, c', h1, h2, h4⟩ := hx i p hp
  exact ⟨a, c', h1, fun ad e => own_lo h2 ad e, (Mem.own_cap h2).1, (Mem.own_cap h2).2, h4, Rd.of_own h2⟩
/-- another block has grown -/
theorem ownp_kept {w w' : World} {base : Nat} {A : Option Addr} {c : Nat} {ps : List Parc} {row : Option Nat} (h : OwnParcs w base A c ps) (hg : w.grownBy w' row) (hne : (Value.slice A ps.length c).ownBlock = none ∨ (Value.slice A ps.length c).ownBlock ≠ row)
    (ht : ∀ g, row = some g → ∃ cur t, w.heap[g]? = some (.cells cur t (0, 0)) ∧ t ≠ 5) : OwnParcs w' base A c ps := by
  obtain ⟨xs, ho, hx⟩ := h
  refine ⟨xs, ho.kept hg hne, fun i p hp => ?_⟩
  obtain ⟨a, c', h1, h2, h4⟩ := hx i p hp
  exact ⟨a, c', h1, Ms.own_kept h2 hg ht, h4⟩
/-- a block of another type is none of a row's -/
theorem not_row {w : World} {base size n g : Nat} {e T : TypeId} {v : Value} {xs : List Value} {C : Array Value} (ho : w.ownsRow base e size v n xs) (hb : Blk w g T C) (hne : T ≠ e) : some g ≠ v.ownBlock := fun h => by
  obtain ⟨hl, ⟨rfl, _⟩ | ⟨b, cap, cur, rfl, _, hh, _⟩⟩ := ho
  · cases h
  · injection h with h
    subst h
    have hb : w.heap[g]? = _ := hb
    rw [hb] at hh
    injection hh with hh
    injection hh with _ h4 _
    exact hne h4
/-- a parcel erased -/
theorem ownp_erase {w : World} {base g c : Nat} {qs : List Parc} (h : OwnParcs w base (some ⟨g, 0, none⟩) c qs) {k : Nat} (hk : k < qs.length) : ∃ xs, w.ownsRow base 52 5 (.slice (some ⟨g, 0, none⟩) qs.length c) qs.length xs ∧ (∀ u ∈ xs, u.oneCell' = true) ∧
    ∀ w', Deleted w w' g k qs.length xs → (∀ B W, B ≤ base → Below B W w → Below B W w') ∧ OwnParcs w' base (some ⟨g, 0, none⟩) c (qs.eraseIdx k) := by
  obtain ⟨xs, ho, hx⟩ := h
  have hne : 52 ≠ 5 := by decide
  refine ⟨xs, ho, rows_one (F := fun _ _ _ => True) ho.1 (fun i p hp => let ⟨a, c', h1, _⟩ := hx i p hp; ⟨a, c', h1, trivial⟩), fun w' hd => ⟨fun B W hB hb => ?_, ?_⟩⟩
  · exact hb.grown hd.2.1 (by have := (ho.lt g rfl).2; have := (ho.lt g rfl).1; omega) (fun x e => by
      have e : some g = some x := e
      injection e with e
      have := (ho.lt g rfl).1
      omega)
  · have hlen : (qs.eraseIdx k).length = qs.length - 1 := by rw [List.length_eraseIdx]; simp [hk]
    obtain ⟨ys, hy⟩ := hd.2.2 _ _ _ _ ho
    have hy1 := own_shrink hy (show qs.length - 1 ≤ qs.length by omega)
    have hxe : ys.take ((qs.length - 1) * 5) = xs.take (k * 5) ++ xs.drop ((k + 1) * 5) := by
      have hl2 := erase_len xs qs.length k ho.1 hk
      refine List.ext_getElem? fun j => ?_
      by_cases hj : j < (qs.length - 1) * 5
      · have h1 := hd.1 j _ (List.getElem?_eq_getElem (show j < (xs.take (k * 5) ++ xs.drop ((k + 1) * 5)).length by omega))
        rw [List.getElem?_eq_getElem (show j < (xs.take (k * 5) ++ xs.drop ((k + 1) * 5)).length by omega), ← h1, hy1.cellAt j hj]
      · rw [List.getElem?_eq_none (by rw [hy1.1]; omega), List.getElem?_eq_none (by omega)]
    rw [hxe] at hy1
    refine ⟨xs.take (k * 5) ++ xs.drop ((k + 1) * 5), by rw [hlen]; exact hy1, ?_⟩
    refine erase_parcs (F := fun a c p => w'.ownsRow base 5 1 (.slice a p.bs.length c) p.bs.length (bytesV p.bs) ∧ p.bs.length ≤ 140737488351232) ho.1 hk fun i p hp => ?_
    obtain ⟨a, c', h1, h2, h4⟩ := hx i p hp
    exact ⟨a, c', h1, Ms.own_kept h2 hd.2.1 (Ms.own_is ho hne), h4⟩
/-- how long a slice is -/
def lenOf : Value → Nat | .slice _ n _ => n | _ => 0
theorem filter_len (due : Parc → Bool) : ∀ q : List (Parc × Nat), q.length = (q.filter fun x => due x.1).length + (q.filter fun x => !due x.1).length
  | [] => rfl
  | x :: q => by
    have := filter_len due q
    cases h : due x.1 <;> simp [h] <;> omega
theorem sel_len {k1 k2 : Parc → Int} {due : Parc → Bool} {l0 come q : List (Parc × Nat)} (h : Sel k1 k2 due l0 come q) : come.length + q.length = l0.length := by
  obtain ⟨_, _, _, h4, h5⟩ := h
  have h4 := h4.length_eq
  have h5 := congrArg List.length h5
  have e1 := filter_len due q
  have e2 := filter_len due l0
  rw [List.length_append] at h4
  omega
/-- a Bus' block is stored anew -/
theorem ownp_busrow {w : World} {base : Nat} {A : Option Addr} {c : Nat} {ps : List Parc} (h : OwnParcs w base A c ps) {g : Nat} {C : Array Value} (hb : Blk w g 24 C) (R : Array Value) : OwnParcs (w.setRow g R) base A c ps := by
  have hh : w.heap[g]? = some (.cells C 24 (0, 0)) := hb
  obtain ⟨xs, ho, hx⟩ := h
  have hg := gr_setRow5 w g R
  have hr : ∀ (T : TypeId), 24 ≠ T → ∀ x, some g = some x → ∃ cur t, w.heap[x]? = some (.cells cur t (0, 0)) ∧ t ≠ T := fun T hT x e => by
    injection e with e
    subst e
    exact ⟨_, _, hh, hT⟩
  refine ⟨xs, Ms.own_kept ho hg (hr _ (by decide)), fun i p hp => ?_⟩
  obtain ⟨a, c', h1, h2, h4⟩ := hx i p hp
  exact ⟨a, c', h1, Ms.own_kept h2 hg (hr _ (by decide)), h4⟩
/-- one parcel of a row, its text in memory of its own -/
theorem ownp_at {w : World} {base : Nat} {A : Option Addr} {c : Nat} {ps : List Parc} (h : OwnParcs w base A c ps) {i : Nat} {p : Parc} (hp : ps[i]? = some p) : ∃ g a ca, A = some ⟨g, 0, none⟩ ∧ base ≤ g ∧ g < w.heap.size ∧ ps.length ≤ c ∧ c ≤ maxLen ∧
    w.cell? ⟨g, i * 5, none⟩ = some (.int .i64 p.f) ∧ w.cell? ⟨g, i * 5 + 1, none⟩ = some (.int .i64 p.t) ∧ w.cell? ⟨g, i * 5 + 2, none⟩ = some (.int .i64 p.d) ∧ w.cell? ⟨g, i * 5 + 3, none⟩ = some (.int .i64 p.s) ∧ w.cell? ⟨g, i * 5 + 4, none⟩ = some (.slice a p.bs.length ca) ∧
    w.ownsRow base 5 1 (.slice a p.bs.length ca) p.bs.length (bytesV p.bs) ∧ p.bs.length ≤ 140737488351232 := by
  have hi : i < ps.length := (List.getElem?_eq_some_iff.1 hp).1
  obtain ⟨g, rfl, k1, k2, k3, k4⟩ := ownp_addr h (by omega)
  obtain ⟨xs, ho, hx⟩ := h
  obtain ⟨a, ca, h1, h2, h3⟩ := hx i p hp
  have hg : ∀ j v, j < 5 → (parcL p a ca)[j]? = some v → w.cell? ⟨g, i * 5 + j, none⟩ = some v := fun j v hj hv => by
    rw [← h1, List.getElem?_take, if_pos hj, List.getElem?_drop] at hv
    rw [ho.cellAt _ (by omega)]
    exact hv
  exact ⟨g, a, ca, rfl, k1, k2, k3, k4, hg 0 _ (by omega) rfl, hg 1 _ (by omega) rfl, hg 2 _ (by omega) rfl, hg 3 _ (by omega) rfl, hg 4 _ (by omega) rfl, h2, h3⟩
end Go.Proofs.Ytlcpackmoolngaa.Ss
