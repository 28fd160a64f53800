/- Lemmas: a region in a round of a range over a function, by the plain calculus; what a block and an owned row are behind a loop's own book-keeping. -/
import Derived.Test.YtjfllpmiajkenaaFence
import Derived.Test.YtjfllpmiajkenaaMem
namespace Go.Proofs.Ytjfllpmiajkenaa.Fc
open Go.RowKit Go.Proofs.Ytjfllpmiajkenaa.Mem
set_option linter.unusedVariables false
section
variable {n l : Nat} {P : Program} {ops : Array Oper} {Q : Exit → Act → World → Prop}

theorem wpListIn_of (hlo : ¬ LetsOut Q) : ∀ (rest : List Oper), (∀ o ∈ rest, ∀ c, o.op ≠ .defer c) → ∀ (a : Act) (w : World), wpList P ops Q rest a w → wpListIn (Fence.wide.inRound l) n P ops Q rest a w
  | [], _, _, _, h => h
  | o :: rest, hd, a, w, h => by
    unfold wpList at h
    unfold wpListIn
    split
    · rename_i hw
      rw [if_pos hw] at h
      have h1 := h.resolve_right fun x => hlo x.2
      have h2 := wpIn_of_wp (n := n) (l := l) (fun c => hd o (List.mem_cons_self) c) h1
      exact Oper.wpIn_mono (fun a' w' h' => wpListIn_of hlo rest (fun o' ho' => hd o' (List.mem_cons_of_mem _ ho')) a' w' h') h2
    · rename_i hw
      rw [if_neg hw] at h
      exact ⟨fun _ _ => trivial, wpListIn_of hlo rest (fun o' ho' => hd o' (List.mem_cons_of_mem _ ho')) _ _ h⟩

/-- a region in its own order, in a round -/
theorem regionIn {id : Nat} {a : Act} {w : World} (hd : ops.toList.all (fun o => match o.op with | .defer _ => false | _ => true) = true) (h : wpList P ops (Norm (Q .normal)) ops.toList a w) : (Code.region id ops false).wpIn (Fence.wide.inRound l) n P Q a w :=
  wpIn_mono (wpIn_region_list (wpListIn_of (norm_no _) _ (fun o ho c e => by
    have h1 := List.all_eq_true.1 hd o ho
    rw [e] at h1
    cases h1) _ _ h)) norm_imp
end

theorem rd_one (w : World) (v : Value) (e : TypeId) : Rd (w.alloc (.cells #[v] e)) (w.heap.size + 1) 1 (some ⟨w.heap.size, 0, none⟩) 1 [v] := by
  refine ⟨rfl, fun _ => ⟨w.heap.size, 0, rfl, by omega, fun j u hu => ?_⟩⟩
  have h := (Blk.fresh w e #[v]).cell j
  rw [Nat.zero_add, h]
  simpa using hu
theorem grown_blk {W W' : World} {row : Option Nat} {B g : Nat} {t : TypeId} {cs : Array Value} (h : Blk W g t cs) (hg : W.grownBy W' row) (hr : ∀ r, row = some r → B ≤ r ∧ ∃ o : Obj, W.heap[r]? = some o ∧ o.isCells = false) : Blk W' g t cs :=
  h.grown hg fun e => by
    obtain ⟨_, o, ho, hc⟩ := hr g e.symm
    unfold Blk at h
    rw [h] at ho
    cases ho
    cases hc
theorem grown_own {W W' : World} {row : Option Nat} {B base : Nat} {e : TypeId} {size : Nat} {v : Value} {n : Nat} {xs : List Value} (h : W.ownsRow base e size v n xs) (hg : W.grownBy W' row) (hr : ∀ r, row = some r → B ≤ r ∧ ∃ o : Obj, W.heap[r]? = some o ∧ o.isCells = false) : W'.ownsRow base e size v n xs := by
  have h' := h
  obtain ⟨_, ⟨hv, _⟩ | ⟨g, cap, cur, hv, _, hh, _⟩⟩ := h
  · exact h'.kept hg (.inl (by rw [hv]; rfl))
  · refine h'.kept hg (.inr fun e => ?_)
    rw [hv] at e
    obtain ⟨_, o, ho, hc⟩ := hr g (by rw [← e]; rfl)
    rw [hh] at ho
    cases ho
    cases hc
theorem put_blk {W : World} {g D : Nat} {t : TypeId} {cs : Array Value} (h : Blk W g t cs) (hD : W.heap[D]? = some (.deferred (some []))) (o : Obj) : Blk (W.putObj D o) g t cs :=
  h.grown (grownBy_putObj' W D o) fun e => by
    cases e
    unfold Blk at h
    rw [h] at hD
    cases hD
theorem put_own {W : World} {base D : Nat} {e : TypeId} {size : Nat} {v : Value} {n : Nat} {xs : List Value} (h : W.ownsRow base e size v n xs) (hD : W.heap[D]? = some (.deferred (some []))) (o : Obj) : (W.putObj D o).ownsRow base e size v n xs := by
  have h' := h
  obtain ⟨_, ⟨hv, _⟩ | ⟨g, cap, cur, hv, _, hh, _⟩⟩ := h
  · exact h'.kept (grownBy_putObj' W D o) (.inl (by rw [hv]; rfl))
  · refine h'.kept (grownBy_putObj' W D o) (.inr fun e => ?_)
    rw [hv] at e
    cases e
    rw [hh] at hD
    cases hD
end Go.Proofs.Ytjfllpmiajkenaa.Fc
