/- Lemmas: a region that draws its order, in a round of a range over a function: by the plain calculus; ways out of a function with such a range. -/
import Derived.Test.YtjfllpmiajkenaaRegR
import Derived.RangeFuncNested
import Derived.RangeFuncBound
import Derived.RangeFuncCalls
import Derived.RangeFuncLeaves
import Derived.Shelf.Abstract
import Derived.Shelf.RegionOpen
import Derived.WalkKit
import Derived.OwnWalkIn
import Derived.TacticsInMore
import Derived.LoopNIn
import Derived.LoopIn
namespace Go.Proofs.Ytjfllpmiajkenaa.Fc
open Go.RowKit
set_option linter.unusedVariables false
section
variable {n l : Nat} {P : Program} {ops : Array Oper} {Q : Exit → Act → World → Prop} {md : Region.Mode}

theorem wpIn_of_wp {o : Oper} {a : Act} {w : World} {K : Act → World → Prop} (hd : ∀ c, o.op ≠ .defer c) (h : o.wp P a w K Q) : o.wpIn (Fence.wide.inRound l) n P a w K Q := by
  unfold Oper.wp at h
  unfold Oper.wpIn
  refine ⟨fun _ _ => trivial, ?_⟩
  rw [Oper.semAt_eq _ _ _ hd]
  generalize (execOp a.eval o).run P w = r at *
  cases r with
  | ok x w' =>
    cases x <;> simp only [Oper.upon, Oper.uponIn] at h ⊢ <;>
      first
        | exact h
        | exact h.elim
        | exact ⟨fun e => (by cases e), CallsIn.inRound l (callsIn_wide.2 h)⟩
        | exact ⟨fun e => (by cases e), fun c cs _ => let ⟨v, w', r, s⟩ := h c cs; ⟨v, w', r, stepsIn_wide.2 s⟩⟩
  | halt x w' => cases x <;> simp only [Oper.upon, Oper.uponIn] at h ⊢ <;> exact h

theorem wpOpIn_of {i : Nat} {a : Act} {w : World} {K K' : Act → World → Prop} (hlo : ¬ LetsOut Q) (hd : ∀ (j : Nat) (o : Oper), ops[j]? = some o → ∀ c, o.op ≠ .defer c) (hK : ∀ a w, K a w → K' a w) (h : wpOp P ops Q i K a w) : wpOpIn (Fence.wide.inRound l) n P ops Q i K' a w := by
  refine wpOpIn_mono hK ?_
  unfold wpOp at h
  unfold wpOpIn
  cases ho : ops[i]? with
  | none => rw [ho] at h; exact h
  | some o =>
    rw [ho] at h
    simp only at h ⊢
    split
    · rename_i hw
      rw [if_pos hw] at h
      exact wpIn_of_wp (hd i o ho) (h.resolve_right fun x => hlo x.2)
    · rename_i hw
      rw [if_neg hw] at h
      exact ⟨fun _ _ => trivial, h⟩

theorem wpAnyIn_of (hlo : ¬ LetsOut Q) (hd : ∀ (j : Nat) (o : Oper), ops[j]? = some o → ∀ c, o.op ≠ .defer c) : ∀ (fuel : Nat) (listed : Array Bool) (a : Act) (w : World), wpAny P md ops Q fuel listed a w → wpAnyIn (Fence.wide.inRound l) n P md ops Q fuel listed a w
  | 0, _, _, _, h => h
  | fuel + 1, _, _, _, h => ⟨h.1, fun i hi => wpOpIn_of hlo hd (fun a' w' h' => wpAnyIn_of hlo hd fuel _ a' w' h') (h.2 i hi)⟩

/-- only the normal way out -/
def Norm (K : Act → World → Prop) : Exit → Act → World → Prop
  | .normal, a, w => K a w
  | _, _, _ => False
theorem norm_no (K : Act → World → Prop) : ¬ LetsOut (Norm K) := fun ⟨_, _, h⟩ => h
theorem norm_imp {Q : Exit → Act → World → Prop} : ∀ (e : Exit) (a : Act) (w : World), Norm (Q .normal) e a w → Q e a w := fun e a w h => by
  cases e <;> first | exact h | exact (h : False).elim

/-- a region that draws its order, in a round, from the world behind the draw -/
theorem beginIn {id : Nat} {a : Act} {w : World} (reads : List Nat) (S : World → Prop) (hm : P.follows .mixedOrders = true) (hd : ∀ (j : Nat) (o : Oper), ops[j]? = some o → ∀ c, o.op ≠ .defer c)
    (h : Rg.wpAnyR P .any ops (Norm (Q .normal)) reads S ops.size (Array.replicate ops.size false) a w.drew) : (Code.region id ops true).wpIn (Fence.wide.inRound l) n P Q a w :=
  wpIn_mono (wpIn_region_any hm (wpAnyIn_of (norm_no _) hd _ _ _ _ (Rg.wpAny_of_R _ _ _ _ h))) norm_imp
theorem no_defer (h : ops.toList.all (fun o => match o.op with | .defer _ => false | _ => true) = true) : ∀ (j : Nat) (o : Oper), ops[j]? = some o → ∀ c, o.op ≠ .defer c := by
  intro j o ho c e
  have h1 := List.all_eq_true.1 h o (Array.mem_toList_iff.2 (Array.mem_of_getElem? ho))
  rw [e] at h1
  cases h1
end

theorem leavesM_nil {P : Program} {fn : Func} {tmps : Array Value} {R : Ending → World → Prop} {n : Nat} {w : World} (h : ∃ v, (results fn tmps).run P w = .ok v w ∧ R (.returned v) w) : LeavesInM Fence.wide n P fn tmps R [] .returning w := h
/-- out of a function with such a range, where no call waits -/
theorem out_none {P : Program} {fn : Func} {R : Ending → World → Prop} {n : Nat} : ∀ (e : Exit) (a : Act) (w : World), bodyPost P fn R e a w → bodyPostM Fence.wide n P fn R e a w := fun e a w h => by
  cases e with
  | normal => obtain ⟨hd, v, hv, hR⟩ := h; show LeavesInM Fence.wide n P fn a.tmps R a.defers .returning w; rw [hd]; exact leavesM_nil ⟨v, hv, hR⟩
  | ret => obtain ⟨hd, v, hv, hR⟩ := h; show LeavesInM Fence.wide n P fn a.tmps R a.defers .returning w; rw [hd]; exact leavesM_nil ⟨v, hv, hR⟩
  | panic c => obtain ⟨hd, hR⟩ := h; show LeavesInM Fence.wide n P fn a.tmps R a.defers (.panicking c) w; rw [hd]; exact hR
  | outgrown => exact h
  | exit i => exact h
  | goto i => exact h
/-- the law for a range over a function, where the loop variable is one temporary that the assign code writes -/
theorem rangeF {α : Type} {n : Nat} {P : Program} {F : Fence} {g : Operand} {t d : Tmp} {assign body : Code} {Q : Exit → Act → World → Prop} {a : Act} {w : World}
    (hro : F.round = none) (h1 : 1 ≤ n) {gf : Nat} {lb : Array Value} (hg : a.eval g = .func (.func gf) #[] lb) (hFg : F.fn gf) (eg : ∀ args w, (callFunc gf args).run P w = .ok (.enter gf args) w)
    (enc : α → Value) {Kp : World → World → Prop} {S Sp : List α → Prop} {N : Nat} (hseq : SeqStopsK F (n - 1) P gf lb (fun x => #[enc x]) Kp S Sp N w)
    (hKt : ∀ {A B C : World}, Kp A B → Kp B C → Kp A C) (hKb : ∀ (W : World) (l : Nat) (o o' : Obj), w.heap.size ≤ l → W.heap[l]? = some o → o.isCells = false → o.isWalk = false → Kp W (W.putObj l o'))
    (I : List α → World → Prop) (hI : OwnFrom w.heap.size I) (h0 : I [] w)
    (hassign : ∀ (l : Nat) (x : α) (W : World) (K : Act → World → Prop), K { tmps := (a.tmps.setIfInBounds t (enc x)).setIfInBounds d (enc x), defers := [] } W →
      assign.wpIn (F.inRound l) (n - 1 - 1) P (Exit.then K (fun _ _ _ => False)) { tmps := a.tmps.setIfInBounds t (enc x), defers := [] } W)
    (hbody : ∀ (l : Nat) (pre : List α) (x : α) (W : World), I pre W → pre.length < N → body.wpIn (F.inRound l) (n - 1 - 1) P (ownPostK Kp I (fun _ _ _ => False) (pre ++ [x]) W) { tmps := (a.tmps.setIfInBounds t (enc x)).setIfInBounds d (enc x), defers := [] } W)
    (hdone : ∀ (D : Nat) (xs : List α) (W : World), w.heap.size ≤ D → S xs → I xs W → W.heap[D]? = some (.deferred (some [])) → Q .normal { a with defers := { target := .collected D, args := #[] } :: a.defers } W) :
    (Code.rangeFunc g #[t] assign body).wpIn F n P Q a w :=
  wpIn_rangeFunc_ownF hro h1 hg hFg eg hseq hKt hKb (Below.refl _ _) (fun _ => rfl) I (fun _ _ _ => False) hI (fun _ _ _ _ _ h _ _ => h) h0 (fun x => { tmps := (a.tmps.setIfInBounds t (enc x)).setIfInBounds d (enc x), defers := [] })
    (fun l x W K hK => by have h := hassign l x W K hK; have e : (#[t].zip #[enc x]) = #[(t, enc x)] := (by simp); rw [e]; simpa using h) hbody hdone (fun _ _ _ _ _ _ h _ => h.elim)

/-- out of a function behind such a range: the one call that waits is taken in -/
theorem out_one {P : Program} {fn : Func} {R : Ending → World → Prop} {n D : Nat} {tmps : Array Value} {w : World} (hK : w.heap[D]? = some (.deferred (some []))) (h : bodyPost P fn R .ret { tmps := tmps, defers := [] } (w.putObj D (.deferred none))) :
    bodyPostM Fence.wide n P fn R .ret { tmps := tmps, defers := [{ target := .collected D, args := #[] }] } w := by
  obtain ⟨_, hv⟩ := h
  exact ⟨by simp, .inl ⟨_, _, rfl, run_takeDeferred hK, hv⟩⟩
end Go.Proofs.Ytjfllpmiajkenaa.Fc
