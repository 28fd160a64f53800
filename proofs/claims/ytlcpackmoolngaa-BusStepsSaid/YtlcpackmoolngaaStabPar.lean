/- slices.SortStableFunc at an owned list of parcels. -/
import Derived.Test.YtlcpackmoolngaaStabRow
namespace Go.Proofs.Ytlcpackmoolngaa.Ss
open Go.ChangeShapes Go.WideShapes Go.ChangeAt Go.Shelf Go.RowKit Go.Lib Go.Sort Go.Proofs.Ytlcpackmoolngaa.Stb Go.Proofs.Ytlcpackmoolngaa.Bu Go.Proofs.Ytlcpackmoolngaa.Mem Go.Proofs.Ytlcpackmoolngaa.Op Go.Proofs.Ytlcpackmoolngaa.Sm
set_option linter.unusedVariables false
set_option linter.unusedSimpArgs false

theorem pick_list {β : Type} {p : Nat → β → Prop} : ∀ n, (∀ i, i < n → ∃ y, p i y) → ∃ ys : List β, ys.length = n ∧ ∀ i (h : i < ys.length), p i ys[i]
  | 0, _ => ⟨[], rfl, fun i h => absurd h (by simp)⟩
  | n + 1, h => by
    obtain ⟨ys, hl, hp⟩ := pick_list n (fun i hi => h i (by omega))
    obtain ⟨y, hy⟩ := h n (by omega)
    refine ⟨ys ++ [y], by simp [hl], fun i hi => ?_⟩
    by_cases c : i < ys.length
    · rw [List.getElem_append_left c]
      exact hp i c
    · have e : i = n := by simp at hi; omega
      subst e
      rw [List.getElem_append_right (by omega)]
      simpa [hl] using hy

/-- the list, sorted: each with its place at first -/
def SortedOf (ps rs : List Parc) : Prop := ∃ l : List (Parc × Nat), l.map Prod.fst = rs ∧ l.Perm ps.zipIdx ∧ l.Pairwise fun x y => ltT (fun p : Parc => p.d) (fun p => p.s) y x = false

/-- the sort's world: all other blocks as they were -/
theorem swk_cell {w W : World} {g : Nat} {f : Array (PC × Nat)} (h : SWK encP 5 w g 0 f W) {b o : Nat} (hb : b < w.heap.size) (hne : b ≠ g) : W.cell? ⟨b, o, none⟩ = w.cell? ⟨b, o, none⟩ := by
  obtain ⟨n, os, rfl⟩ := h
  unfold sortWorldK
  rw [cell?_grow _ _ _ (by rw [size_putRowK]; exact hb), cell?_putRowK_other _ _ _ _ _ _ _ hne]
  rfl
theorem swk_size {w W : World} {g : Nat} {f : Array (PC × Nat)} (h : SWK encP 5 w g 0 f W) : w.heap.size ≤ W.heap.size := by
  obtain ⟨n, os, rfl⟩ := h
  unfold sortWorldK
  have h1 : (putRowK encP 5 (Sort.ahead w n) g 0 f).heap.size = w.heap.size := size_putRowK _ _ _ _ _ _
  have h2 : (putRowK encP 5 (Sort.ahead w n) g 0 f).heap.size ≤ (grow (putRowK encP 5 (Sort.ahead w n) g 0 f) os).heap.size := by simp [grow]
  omega

set_option maxRecDepth 100000 in
theorem sortP_any {w : World} {base c : Nat} {A : Option Addr} {ps : List Parc} (h : OwnParcs w base A c ps) (hsz : ps.length < 1152921504606846976) :
    Calls Try.prog 28 #[.slice A ps.length c, .func (.func 29) #[] #[]] w fun e w' => e = .returned (.tuple #[]) ∧ ∃ rs, rs.length = ps.length ∧ SortedOf ps rs ∧ ParcsAt w' w'.heap.size A rs ∧ w.heap.size ≤ w'.heap.size ∧ ∀ b o, b < w.heap.size → (∀ a, A = some a → b ≠ a.block) → w'.cell? ⟨b, o, none⟩ = w.cell? ⟨b, o, none⟩ := by
  obtain ⟨xs, ho, hx⟩ := h
  have ho2 := ho
  obtain ⟨hlen, ⟨h0, hn0⟩ | ⟨g, cap, cur, hv, _, hh, _, _, _, ht⟩⟩ := ho2
  · have hps := List.eq_nil_of_length_eq_zero hn0
    subst hps
    injection h0 with h1 h2 h3
    subst h1 h3
    refine (sort_nil _ _).mono ?_
    rintro e w' ⟨rfl, rfl⟩
    exact ⟨rfl, [], rfl, ⟨[], rfl, List.Perm.refl _, List.Pairwise.nil⟩, ParcsAt.nil _ _ _, Nat.le_refl _, fun b o _ _ => rfl⟩
  · injection hv with hv _ hcc
    subst hv hcc
    obtain ⟨ys, hl, hy⟩ := pick_list (p := fun i (y : PC) => ps[i]? = some y.1 ∧ (xs.drop (i * 5)).take 5 = parcL y.1 y.2.1 y.2.2 ∧ w.ownsRow base 5 1 (.slice y.2.1 y.1.bs.length y.2.2) y.1.bs.length (bytesV y.1.bs) ∧ y.1.bs.length ≤ 140737488351232) ps.length (fun i hi => by
      obtain ⟨a, c', h1, h2, h3⟩ := hx i ps[i] (List.getElem?_eq_getElem hi)
      exact ⟨(ps[i], a, c'), List.getElem?_eq_getElem hi, h1, h2, h3⟩)
    have R := rowK_in ho ys hl (fun i h => (hy i h).2.1)
    have hss := rowOf_size ys
    have hW : SWK encP 5 w g 0 (rowOf ys) w := ⟨0, #[], by unfold sortWorldK; rw [grow_empty]; exact (putRowK_self encP 5 w g 0 _ R.hH).symm⟩
    have hc := sortStable_any (cap := c) R (by rw [hss, hl]; exact hsz) (fun i hi => by rw [rowOf_get ys (by rwa [hss] at hi)]) hW
    rw [hss, hl] at hc
    refine hc.mono ?_
    rintro e w' ⟨rfl, f, hf, hfs, hp, hso⟩
    have hfs' : f.size = (rowOf ys).size := by rw [hss, hl]; exact hfs
    have hall : ∀ i, i < f.size → ∃ j, ∃ h : j < ys.length, f[i]! = (ys[j], j) := fun i hi =>
      permIn_all (rowOf ys) f 0 ps.length (fun x => ∃ j, ∃ h : j < ys.length, x = (ys[j], j)) (by rw [hss, hl]; exact Nat.le_refl _) hp (fun q _ h2 => ⟨q, by rw [hl]; exact h2, rowOf_get ys (by rw [hl]; exact h2)⟩) i (Nat.zero_le _) (by rw [← hfs]; exact hi)
    have hsz' := swk_size hf
    refine ⟨rfl, _, ?_, ?_, parcs_out f hf (rowOf ys) R hfs' (fun i hi => ?_), hsz', fun b o hb hne => swk_cell hf hb (fun e => hne _ rfl e)⟩
    · simp [hfs]
    · refine ⟨f.toList.map fun x => (x.1.1, x.2), by simp, ?_, ?_⟩
      · have h1 := hp.2.2
        have ef : f.extract 0 ps.length = f := by rw [← hfs]; simp
        have ed : (rowOf ys).extract 0 ps.length = rowOf ys := by rw [← hl, ← hss]; simp
        rw [ef, ed] at h1
        have h2 := h1.map fun x : PC × Nat => (x.1.1, x.2)
        refine h2.trans (List.Perm.of_eq (List.ext_getElem? fun q => ?_))
        by_cases hq : q < ys.length
        · simp [rowOf, hq, (hy q hq).1]
        · simp [rowOf, hq, show ps.length ≤ q by omega]
      · rw [List.pairwise_map, List.pairwise_iff_getElem]
        intro i j hi hj hij
        have hi' : i < f.size := by simpa using hi
        have hj' : j < f.size := by simpa using hj
        have := hso i j (Nat.zero_le _) hij (by rw [← hfs]; exact hj')
        rw [getElem!_pos f i hi', getElem!_pos f j hj'] at this
        exact this
    · obtain ⟨j, hj, e⟩ := hall i hi
      obtain ⟨_, _, t3, t4⟩ := hy j hj
      rw [e]
      have hcp := Mem.own_cap t3
      have hr := Rd.of_own t3
      refine ⟨hcp.1, hcp.2, t4, hr.1, fun hn0 => ?_⟩
      obtain ⟨b, o, eA, hb, hcell⟩ := hr.2 hn0
      refine ⟨b, o, eA, by omega, fun q u hu => ?_⟩
      rw [swk_cell hf hb ?_]
      · exact hcell q u hu
      · intro ebg
        obtain ⟨_, ⟨hz, _⟩ | ⟨gb, _, cur2, hv2, _, hh2, _⟩⟩ := t3
        · injection hz with hz _ _
          rw [eA] at hz
          cases hz
        · injection hv2 with hv2 _ _
          rw [eA] at hv2
          injection hv2 with hv2
          injection hv2 with hv2 _ _
          rw [← hv2, ebg, hh] at hh2
          injection hh2 with hh2
          injection hh2 with _ hT _
          exact absurd hT (by decide)
end Go.Proofs.Ytlcpackmoolngaa.Ss
