/- A Node argument, opened into its 74 cells. -/
import Derived.Test.YtjfllpmiajkenaaOpen
import Derived.Test.YtjfllpmiajkenaaSameN
namespace Go.Proofs.Ytjfllpmiajkenaa.Op
open Go.ChangeShapes Go.WideShapes Go.ChangeAt Go.RowKit Go.Proofs.Ytjfllpmiajkenaa.Mem Go.Proofs.Ytjfllpmiajkenaa.Rws Go.Proofs.Ytjfllpmiajkenaa.Nd
set_option linter.unusedVariables false
set_option linter.unusedSimpArgs false

section
variable {H : Type} {enc : TypeId × Value → H} {P : Program} {w : World} {base : Nat} {spare : Nat → Bool} {held : Bool}
theorem Cells.get : ∀ {ts : List TypeId} {vs : List Value}, Cells enc P w base spare held ts vs → ∀ (i : Nat) (t : TypeId), ts[i]? = some t → ∃ v, vs[i]? = some v ∧ Leaf enc P w base spare held t v
  | [], _, _, i, t, h => by simp at h
  | _ :: _, [], h, _, _, _ => h.elim
  | t0 :: ts, v :: vs, h, 0, t, e => by
    simp at e; subst e; exact ⟨v, rfl, h.1⟩
  | t0 :: ts, v :: vs, h, i + 1, t, e => by
    simp at e
    obtain ⟨u, hu, hl⟩ := Cells.get h.2 i t e
    exact ⟨u, by simpa using hu, hl⟩
theorem bools_of {t : TypeId} (ht : P.underlying t = some .bool) : ∀ {xs : List Value}, (∀ x ∈ xs, Leaf enc P w base spare held t x) → ∃ bs : List Bool, xs = boolsV bs
  | [], _ => ⟨[], rfl⟩
  | x :: xs, h => by
    obtain ⟨zs, rfl⟩ := bools_of ht (fun y hy => h y (List.mem_cons_of_mem _ hy))
    obtain ⟨m, rfl⟩ := Leaf.bool ht (h x List.mem_cons_self)
    exact ⟨m :: zs, rfl⟩
theorem Leaf.bools {t e : TypeId} {v : Value} (ht : P.underlying t = some (.slice e)) (he : P.underlying e = some .bool) (hce : P.cellsOf e = 1) (hsp : ∀ b, spare b = true)
    (h : Leaf enc P w base spare held t v) : ∃ (A : Option Addr) (c : Nat) (bs : List Bool), v = .slice A bs.length c ∧ bs.length ≤ c ∧ c ≤ maxLen ∧ c * P.bytesOf e ≤ reachBytes ∧ (A = none → c = 0) ∧ Rd w w.heap.size 1 A bs.length (boolsV bs) := by
  obtain ⟨A, n, c, xs, rfl, h1, h2, h3, h4, h5, h6⟩ := Leaf.slice (le := [e]) ht (by simp [leaves, he]) hce (by simp) hsp h
  obtain ⟨zs, rfl⟩ := bools_of he (one_cells (by simpa using h5.1) h6)
  have hn : n = zs.length := by have := h5.1; simp [boolsV] at this; omega
  subst hn
  exact ⟨A, c, zs, rfl, h1, h2, h3, h4, h5⟩
end

def leafKind (P : Program) (t : TypeId) : Option Bool := match P.underlying t with
  | some (.int .i64) => some true
  | some .bool => some false
  | _ => none

set_option maxRecDepth 100000 in
theorem kinds_node : (leaves Try.prog 20 37).map (fun ls => (ls.length, (List.range 73).map (fun i => (ls[i]?).bind (leafKind Try.prog)), ls[73]?)) = some (74, (List.range 73).map (fun i => some (nodeT i)), some 33) := by kernel_rfl

set_option maxRecDepth 100000 in
theorem openNode2 {H : Type} {enc : TypeId × Value → H} {W : World} {base : Nat} {v : Value} {d : DataW H} {ps : List MemPlace} (hv : Value.okWide Try.prog W .any base 37 v)
    (h : DataW.Trod enc Try.prog W 0 (fun _ => true) true 37 v d ps) (hl : Op.Light Try.prog 37 d) :
    ∃ (f : Nat → Value) (A : Option Addr) (c : Nat) (bs : List Bool), v = .agg (row 74 (nodeW f (.slice A bs.length c))) ∧ (∀ i, i < 73 → okT (nodeT i) (f i)) ∧ bs.length ≤ c ∧ c ≤ 140737488351232 ∧ (A = none → c = 0) ∧ Rd W W.heap.size 1 A bs.length (boolsV bs) ∧ ∀ i z, i < 73 → f i = .int .i64 z → (Lit.int .i64 z).wf = true := by
  obtain ⟨cs, rfl⟩ := Op.okWide_agg (t := 37) (by rw [Try.underlying37]) hv
  have hk := kinds_node
  obtain ⟨ls, hls, hk⟩ := Option.map_eq_some_iff.1 hk
  simp only [Prod.mk.injEq] at hk
  obtain ⟨hlen, hkind, hlast⟩ := hk
  have k := Op.flat_arg hls h hl
  have kl := Cells.length k
  have hsz : cs.size = 74 := by
    have : (Value.agg cs).cells.toList.length = cs.size := by simp [Value.cells]
    omega
  obtain ⟨x, hx, lx⟩ := Cells.get k 73 _ hlast
  obtain ⟨A, c, bs, rfl, h1, h2, h3, h4, h5⟩ := lx.bools Try.underlying33 Try.underlying4 (by kernel_rfl) (fun _ => rfl)
  rw [show Try.prog.bytesOf 4 = 1 from by kernel_rfl] at h3
  have hcell : ∀ (i : Nat) (v : Value), (Value.agg cs).cells.toList[i]? = some v ↔ cs[i]? = some v := fun i v => by simp [Value.cells]
  refine ⟨fun i => cs.getD i undef, A, c, bs, ?_, ?_, h1, by unfold reachBytes at h3; omega, h4, h5, ?_⟩
  · refine congrArg Value.agg (Array.ext_getElem? fun i => ?_)
    by_cases hi : i < 74
    · rw [row_at hi]
      unfold nodeW
      by_cases h73 : i = 73
      · subst h73; rw [if_pos rfl]; exact (hcell _ _).1 hx
      · rw [if_neg h73]; simp [Array.getD, hsz, hi]
    · rw [Array.getElem?_eq_none (by omega), Array.getElem?_eq_none (by rw [row_size]; omega)]
  · intro i hi
    have hki := congrArg (·[i]?) hkind
    simp [hi] at hki
    obtain ⟨t, ht, hkt⟩ := Option.bind_eq_some_iff.1 hki
    obtain ⟨u, hu, lu⟩ := Cells.get k i t ht
    have hcu : cs.getD i undef = u := by have := (hcell _ _).1 hu; simp [Array.getD_eq_getD_getElem?, this]
    show okT (nodeT i) (cs.getD i undef)
    rw [hcu]
    unfold leafKind at hkt
    split at hkt
    · next e => simp at hkt; rw [hkt]; obtain ⟨m, rfl, _⟩ := lu.int e; exact ⟨m, rfl⟩
    · next e => simp at hkt; rw [hkt]; obtain ⟨m, rfl⟩ := lu.bool e; exact ⟨m, rfl⟩
    · cases hkt
  · intro i z hi hz
    have hki := congrArg (·[i]?) hkind
    simp [hi] at hki
    obtain ⟨t, ht, hkt⟩ := Option.bind_eq_some_iff.1 hki
    obtain ⟨u, hu, lu⟩ := Cells.get k i t ht
    have hcu : cs.getD i undef = u := by have := (hcell _ _).1 hu; simp [Array.getD_eq_getD_getElem?, this]
    have hz : cs.getD i undef = .int .i64 z := hz
    rw [hcu] at hz
    unfold leafKind at hkt
    split at hkt
    · next e => obtain ⟨m, rfl, hw⟩ := lu.int e; injection hz with _ hz; subst hz; exact hw
    · next e => obtain ⟨m, rfl⟩ := lu.bool e; cases hz
    · cases hkt
set_option maxRecDepth 100000 in
theorem openNode {H : Type} {enc : TypeId × Value → H} {W : World} {base : Nat} {v : Value} {d : DataW H} {ps : List MemPlace} (hv : Value.okWide Try.prog W .any base 37 v)
    (h : DataW.Trod enc Try.prog W 0 (fun _ => true) true 37 v d ps) (hl : Op.Light Try.prog 37 d) :
    ∃ (f : Nat → Value) (A : Option Addr) (c : Nat) (bs : List Bool), v = .agg (row 74 (nodeW f (.slice A bs.length c))) ∧ (∀ i, i < 73 → okT (nodeT i) (f i)) ∧ bs.length ≤ c ∧ c ≤ 140737488351232 ∧ (A = none → c = 0) ∧ Rd W W.heap.size 1 A bs.length (boolsV bs) := by
  obtain ⟨f, A, c, bs, h1, h2, h3, h4, h5, h6, _⟩ := openNode2 hv h hl
  exact ⟨f, A, c, bs, h1, h2, h3, h4, h5, h6⟩
end Go.Proofs.Ytjfllpmiajkenaa.Op
