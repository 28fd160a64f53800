/- A byte of a parcel turned: plainly, and in memory. -/
import Derived.Test.YtlcpackmoolngaaErase
namespace Go.Proofs.Ytlcpackmoolngaa.Bu
open Go.ChangeShapes Go.WideShapes Go.ChangeAt Go.RowKit Go.Proofs.Ytlcpackmoolngaa.Mem Go.Proofs.Ytlcpackmoolngaa.Op Go.Proofs.Ytlcpackmoolngaa.Sm Go.Proofs.Ytlcpackmoolngaa.Nd Go.Proofs.Ytlcpackmoolngaa.Rws
set_option linter.unusedVariables false
set_option linter.unusedSimpArgs false

def xorB (x m : Nat) : Nat := (bits .xor .u8 (x : Int) (m : Int)).toNat
theorem xorB_int (x m : Nat) : bits .xor .u8 (x : Int) (m : Int) = (xorB x m : Int) := by
  unfold xorB
  rw [Int.toNat_of_nonneg]
  exact wrap_u8_nonneg _
/-- byte t of a parcel turned by a mask -/
def turnP (p : Parc) (t m : Nat) : Parc := { p with bs := p.bs.set t (xorB (p.bs.getD t 0) m) }
open Classical in
/-- P11.3: a byte of a parcel turned -/
noncomputable def turnR (now ser0 : Int) (qs : List Parc) (s at_ m : Int) : Int × Int × List Parc × Int :=
  match fnd s qs with
  | none => (0, 0, [], 7)
  | some k => if at_ < 0 ∨ ((qs.getD k default).bs.length : Int) ≤ at_ ∨ m < 0 ∨ 255 < m then (0, 0, [], 3)
    else (now, ser0, qs.set k (turnP (qs.getD k default) at_.toNat m.toNat), 0)
theorem turnR_none {now ser0 : Int} {qs : List Parc} {s at_ m : Int} (h : fnd s qs = none) : turnR now ser0 qs s at_ m = (0, 0, [], 7) := by unfold turnR; rw [h]
theorem turnR_bad {now ser0 : Int} {qs : List Parc} {s at_ m : Int} {k : Nat} {p : Parc} (h : fnd s qs = some k) (hp : qs[k]? = some p) (hb : at_ < 0 ∨ (p.bs.length : Int) ≤ at_ ∨ m < 0 ∨ 255 < m) : turnR now ser0 qs s at_ m = (0, 0, [], 3) := by
  unfold turnR
  rw [h]
  have e : qs.getD k default = p := by rw [List.getD_eq_getElem?_getD, hp]; rfl
  show (if _ then _ else _) = _
  rw [e, if_pos hb]
theorem turnR_good {now ser0 : Int} {qs : List Parc} {s : Int} {k t m : Nat} {p : Parc} (h : fnd s qs = some k) (hp : qs[k]? = some p) (ht : t < p.bs.length) (hm : m ≤ 255) : turnR now ser0 qs s (t : Int) (m : Int) = (now, ser0, qs.set k (turnP p t m), 0) := by
  unfold turnR
  rw [h]
  have e : qs.getD k default = p := by rw [List.getD_eq_getElem?_getD, hp]; rfl
  show (if _ then _ else _) = _
  rw [e, if_neg (by omega)]
  rfl
theorem turn_len (p : Parc) (t m : Nat) : (turnP p t m).bs.length = p.bs.length := by simp [turnP]
theorem bytesV_set (bs : List Nat) (t x : Nat) : bytesV (bs.set t x) = (bytesV bs).set t (.int .u8 (x : Int)) := by simp [bytesV, List.map_set]

theorem OwnD.turn {w : World} {base g c : Nat} {qs : List Parc} (h : OwnD w base (some ⟨g, 0, none⟩) c qs) {k : Nat} {p : Parc} (hp : qs[k]? = some p) {t : Nat} (ht : t < p.bs.length) :
    ∃ gb cb, w.cell? ⟨g, k * 5 + 4, none⟩ = some (.slice (some ⟨gb, 0, none⟩) p.bs.length cb) ∧ base ≤ gb ∧ gb < w.heap.size ∧ w.cell? ⟨gb, t, none⟩ = some (.int .u8 ((p.bs.getD t 0 : Nat) : Int)) ∧ w.frozen? ⟨gb, t, none⟩ = false ∧ (∃ cur, w.heap[gb]? = some (.cells cur 5 (0, 0))) ∧
      ∀ m : Nat, OwnD (w.setCell ⟨gb, t, none⟩ (.int .u8 (xorB (p.bs.getD t 0) m : Int))) base (some ⟨g, 0, none⟩) c (qs.set k (turnP p t m)) := by
  obtain ⟨xs, cut, ho, hc, hx⟩ := h
  have hne : 52 ≠ 5 := by decide
  obtain ⟨a, cb, h1, h2, h3, h4⟩ := hx k p hp
  have hlt2 := h2.lt
  have hk : k < qs.length := (List.getElem?_eq_some_iff.1 hp).1
  obtain ⟨gb, rfl, cur, hcur⟩ : ∃ gb, a = some ⟨gb, 0, none⟩ ∧ ∃ cur, w.heap[gb]? = some (.cells cur 5 (0, 0)) := by
    rcases h2.2 with ⟨_, h0⟩ | ⟨g1, cap, cur, hv, _, hg1, _⟩
    · omega
    · injection hv with e1 e2 e3
      exact ⟨g1, e1, cur, hg1⟩
  have hgb := hlt2 gb rfl
  have hge : gb < cut (k + 1) := h3 _ rfl
  have hgr : ∀ u, w.grownBy (w.setCell ⟨gb, t, none⟩ u) (some gb) := fun u => (h2.stored t u).2
  have hcell : w.cell? ⟨g, k * 5 + 4, none⟩ = some (.slice (some ⟨gb, 0, none⟩) p.bs.length cb) := by
    rw [ho.cellAt _ (by omega)]
    have e : ((xs.drop (k * 5)).take 5)[4]? = (parcL p (some ⟨gb, 0, none⟩) cb)[4]? := by rw [h1]
    rw [List.getElem?_take, if_pos (by omega), List.getElem?_drop] at e
    exact e
  refine ⟨gb, cb, hcell, Nat.le_trans (hc.base k) hgb.1, hgb.2, ?_, h2.frozenAt t, ⟨cur, hcur⟩, fun m => ?_⟩
  · rw [h2.cellAt t (by omega), bytesV_at p.bs t ht, List.getD_eq_getElem?_getD, List.getElem?_eq_getElem ht]
    rfl
  · have hset : (qs.set k (turnP p t m)).length = qs.length := by simp
    have ho2 := Ms.own_kept ho (hgr (.int .u8 (xorB (p.bs.getD t 0) m : Int))) (fun x e => by injection e with e; subst e; exact ⟨cur, _, hcur, fun e => hne e.symm⟩)
    refine ⟨xs, cut, by rw [hset]; exact ho2, ⟨hc.1, hc.2.1, ?_⟩, fun i q hq => ?_⟩
    · rw [hset]; exact Nat.le_trans hc.2.2 (hgr (.int .u8 (xorB (p.bs.getD t 0) m : Int))).size
    · by_cases e : i = k
      · subst e
        rw [List.getElem?_set_self (by omega)] at hq
        injection hq with hq
        subst hq
        have hst := (h2.stored t (.int .u8 (xorB (p.bs.getD t 0) m : Int))).1
        refine ⟨some ⟨gb, 0, none⟩, cb, ?_, ?_, h3, by rw [turn_len]; exact h4⟩
        · rw [h1]; unfold parcL; rw [turn_len]; rfl
        · rw [turn_len]; show World.ownsRow _ _ _ _ _ _ (bytesV (p.bs.set t _)); rw [bytesV_set]; exact hst
      · rw [List.getElem?_set_ne (by omega)] at hq
        obtain ⟨a', c', g1, g2, g3, g4⟩ := hx i q hq
        refine ⟨a', c', g1, g2.kept (hgr _) ?_, g3, g4⟩
        cases a' with
        | none => exact .inl rfl
        | some ad =>
          refine .inr fun e2 => ?_
          have e2 : some ad.block = some gb := e2
          injection e2 with e2
          have l1 := (g2.lt ad.block rfl).1
          have l2 := g3 ad rfl
          rcases Nat.lt_or_ge i k with h | h
          · have := hc.le (i + 1) k h; omega
          · have := hc.le (k + 1) i (by omega); omega
end Go.Proofs.Ytlcpackmoolngaa.Bu
