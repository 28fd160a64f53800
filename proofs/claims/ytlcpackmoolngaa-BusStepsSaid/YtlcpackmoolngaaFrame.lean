/- What every law's row asks beside its walk, proved once: a call that answers true and leaves the old memory as it was meets the row; and how a reading opens into cells. -/
import Derived.Test.YtlcpackmoolngaaRows
import Derived.WalkKit
import Derived.ProofKit
import Derived.OpenShut
import Derived.SizedLaws
import Derived.ChangeArms
namespace Go.Proofs.Ytlcpackmoolngaa.Fr
open Go.ChangeShapes Go.WideShapes Go.ChangeAt Go.RowKit

section
variable {H : Type} {enc : TypeId × Value → H} {P : Program}

theorem args_kept (hl : laidOutB P = true) {W W' : World} (hb : Below W.heap.size W W') :
    ∀ {ts : List TypeId} {vs : List Value} {ds : List (DataW H)} {ps : List MemPlace}, (∀ t ∈ ts, P.readableRec t = true ∧ t < P.types.size) →
      DataW.TrodAll enc P W 0 (fun _ => true) true ts vs ds ps → (∀ x ∈ ps, x.block < W.heap.size) →
      DataW.TrodAll enc P W' 0 (fun b => decide (b < W.heap.size)) true ts vs ds ps
  | [], [], [], ps, _, h, _ => h
  | t :: ts, v :: vs, d :: ds, ps, hts, h, hlt => by
    obtain ⟨p, q, h1, h2, rfl⟩ := h
    obtain ⟨a, b⟩ := hts t List.mem_cons_self
    exact ⟨p, q, Below.trod hl a b h1 hb (fun x hx => hlt x (List.mem_append_left _ hx)), args_kept hl hb (fun t ht => hts t (List.mem_cons_of_mem _ ht)) h2 (fun x hx => hlt x (List.mem_append_right _ hx)), rfl⟩
  | [], _ :: _, _, _, _, h, _ => h.elim
  | [], [], _ :: _, _, _, h, _ => h.elim
  | _ :: _, [], _, _, _, h, _ => h.elim
  | _ :: _, _ :: _, [], _, _, h, _ => h.elim

/-- A law that answers true and turns nothing that was there. -/
theorem post_true (hl : laidOutB P = true) {f : Func} {s : ChangeSpec} {apart fresh handsOn : Bool} {W W' : World} {args : Array Value} {ds gs : List (DataW H)} {before : List MemPlace} {tb : TypeId}
    (hts : ∀ t ∈ f.params.toList, P.readableRec t = true ∧ t < P.types.size) (hv : s.vars = []) (hr : f.resultTypes = #[tb]) (hb : P.underlying tb = some .bool)
    (hfn : ds.length = f.params.size → s.fn H ds = { results := [.lit (.bool true)], args := ds })
    (hW : DataW.Whole enc P f.params.toList s.vars apart W args.toList ds gs before) (hbel : Below W.heap.size W W') :
    s.post enc P f apart fresh handsOn false W args (.bool true) W' := by
  have hW' := hW
  obtain ⟨p, q, hA, hV, hps, hfz, hnd⟩ := hW
  rw [hv] at hV
  obtain ⟨rfl, rfl⟩ := trodVars_none hV
  have hlen : ds.length = f.params.size := by
    have : ∀ (ts : List TypeId) (vs : List Value) (ds : List (DataW H)) (ps : List MemPlace), DataW.TrodAll enc P W 0 (fun _ => true) true ts vs ds ps → ds.length = ts.length := by
      intro ts
      induction ts with
      | nil => intro vs ds ps h; cases vs <;> cases ds <;> first | rfl | exact h.elim
      | cons t ts ih =>
        intro vs ds ps h
        cases vs with
        | nil => exact h.elim
        | cons v vs =>
          cases ds with
          | nil => exact h.elim
          | cons d ds => obtain ⟨_, _, _, h2, _⟩ := h; simp [ih _ _ _ h2]
    simpa using this _ _ _ _ hA
  have hspec := hfn hlen
  have hlt : ∀ x ∈ before, x.block < W.heap.size := fun x hx => by simpa using hW'.lt x hx
  have hbp : before = p := by simpa using hps
  subst hbp
  refine ⟨ds, [], before, [], before, [], hW', ?_, ?_, ?_, hbel.frame _, fun h => by cases h⟩
  · rw [hr, List.append_nil, hspec]
    exact trodAll_cons_mk (shut_bool hb true) trodAll_mk0
  · rw [List.append_nil, hspec]
    exact args_kept hl hbel hts hA hlt
  · rw [hv]
    show DataW.TrodVars enc P W' _ [] (s.fn H (ds ++ [])).vars []
    rw [List.append_nil, hspec]
    rfl

/-- The whole contract of a law's row, out of its walk. -/
theorem of_walk (hl : laidOutB P = true) {k : FuncId} {f : Func} {s : ChangeSpec} {apart fresh handsOn : Bool} {W : World} {args : Array Value} {ds gs : List (DataW H)} {before : List MemPlace} {tb : TypeId}
    (hts : ∀ t ∈ f.params.toList, P.readableRec t = true ∧ t < P.types.size) (hv : s.vars = []) (hr : f.resultTypes = #[tb]) (hb : P.underlying tb = some .bool)
    (hfn : ds.length = f.params.size → s.fn H ds = { results := [.lit (.bool true)], args := ds })
    (hW : DataW.Whole enc P f.params.toList s.vars apart W args.toList ds gs before)
    (hwalk : Calls P k args W fun e W' => e = .returned (.bool true) ∧ Below W.heap.size W W') :
    Calls P k args W fun e W' => ∃ v, e = .returned v ∧ s.post enc P f apart fresh handsOn false W args v W' :=
  hwalk.mono fun _ _ ⟨he, hbel⟩ => ⟨_, he, post_true hl hts hv hr hb hfn hW hbel⟩
end

theorem own : ownKnob Try.prog.godebug = none := by kernel_rfl
theorem laidOut : laidOutB Try.prog = true := by kernel_rfl

end Go.Proofs.Ytlcpackmoolngaa.Fr
