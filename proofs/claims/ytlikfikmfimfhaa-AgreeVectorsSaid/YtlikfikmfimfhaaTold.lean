/- Four lists that grow apart; an append that says where the list lies. -/
import Derived.Test.YtlikfikmfimfhaaLiar
import Derived.Maps.AppendAt
namespace Go.Proofs.Ytlikfikmfimfhaa.Av
open Go.RowKit Go.Proofs.Ytlikfikmfimfhaa.Mem Go.Proofs.Ytlikfikmfimfhaa.Rws Go.Proofs.Ytlikfikmfimfhaa.Ints Go.Proofs.Ytlikfikmfimfhaa.BigW
set_option linter.unusedVariables false
set_option linter.unusedSimpArgs false

/-- a row of values told by a function -/
def rowV (n : Nat) (f : Nat → Value) : Array Value := ((List.range n).map f).toArray
theorem rowV_at (n : Nat) (f : Nat → Value) {k : Nat} (hk : k < n) : (rowV n f)[k]? = some (f k) := by simp [rowV, hk]
theorem rowV_set (n : Nat) (f g : Nat → Value) (j : Nat) (v : Value) (h : ∀ i, i < n → g i = if i = j then v else f i) : (rowV n f).setIfInBounds j v = rowV n g := by
  apply Array.ext_getElem?
  intro i
  by_cases hi : i < n
  · rw [rowV_at n g hi, h i hi]
    by_cases e : i = j
    · subst e; rw [if_pos rfl, Array.getElem?_setIfInBounds_self_of_lt (by simpa [rowV] using hi)]
    · rw [if_neg e, Array.getElem?_setIfInBounds_ne (fun h => e h.symm), rowV_at n f hi]
  · rw [Array.getElem?_eq_none (by simp [rowV]; omega), Array.getElem?_eq_none (by simp [rowV]; omega)]

/-- four lists in blocks of their own, each apart from the others -/
def Told (w : World) (base : Nat) (T : Nat → Value) (tl : Nat → List Int) : Prop :=
  (∀ a, a < 4 → w.ownsRow base 3 1 (T a) (tl a).length (intsV (tl a))) ∧ ∀ a b, a < 4 → b < 4 → a ≠ b → (T a).ownBlock = none ∨ (T a).ownBlock ≠ (T b).ownBlock
section
variable {w w' : World} {base : Nat} {T : Nat → Value} {tl : Nat → List Int}
theorem Told.nil (w : World) (base : Nat) : Told w base (fun _ => .slice none 0 0) (fun _ => []) := ⟨fun a _ => World.ownsRow_nil _ _ _ _, fun a b _ _ _ => .inl rfl⟩
theorem Told.congr (h : Told w base T tl) {tl' : Nat → List Int} (e : ∀ a, a < 4 → tl a = tl' a) : Told w base T tl' := ⟨fun a ha => by rw [← e a ha]; exact h.1 a ha, h.2⟩
theorem Told.grown (h : Told w base T tl) {g : Nat} (hg : w.grownBy w' (some g)) (hlt : g < base) : Told w' base T tl :=
  ⟨fun a ha => (h.1 a ha).kept hg (.inr fun e => by have := ((h.1 a ha).lt g e).1; omega), h.2⟩
theorem Told.alloc (h : Told w base T tl) (o : Obj) : Told (w.alloc o) base T tl := ⟨fun a ha => (h.1 a ha).alloc o, h.2⟩
theorem Told.put (h : Told w base T tl) {q : Nat} (hq : q < 4) {v' : Value} {x : Int} (ho : w'.ownsRow base 3 1 v' ((tl q).length + 1) (intsV (tl q) ++ [.int .i64 x])) (hg : w.grownBy w' (T q).ownBlock) (hat : v'.ownBlock = (T q).ownBlock ∨ v'.ownBlock = some w.heap.size) :
    Told w' base (fun a => if a = q then v' else T a) (fun a => if a = q then tl q ++ [x] else tl a) := by
  have hne : ∀ a, a < 4 → a ≠ q → (T a).ownBlock = none ∨ (T a).ownBlock ≠ v'.ownBlock := fun a ha haq => by
    rcases hat with e | e
    · rw [e]; exact h.2 a q ha hq haq
    · rw [e]
      right
      intro e2
      have := ((h.1 a ha).lt _ e2).2
      omega
  have hne' : ∀ b, b < 4 → b ≠ q → v'.ownBlock = none ∨ v'.ownBlock ≠ (T b).ownBlock := fun b hb hbq => by
    rcases hne b hb hbq with e | e
    · rcases hv : v'.ownBlock with _ | k
      · exact .inl rfl
      · right; rw [e]; exact fun h => by cases h
    · exact .inr fun h => e h.symm
  refine ⟨fun a ha => ?_, fun a b ha hb hab => ?_⟩
  · by_cases e : a = q
    · subst e
      simp only [if_true]
      rw [show (tl a ++ [x]).length = (tl a).length + 1 by simp, show intsV (tl a ++ [x]) = intsV (tl a) ++ [.int .i64 x] by simp [intsV]]
      exact ho
    · simp only [if_neg e]
      exact (h.1 a ha).kept hg (h.2 a q ha hq e)
  · by_cases ea : a = q
    · by_cases eb : b = q
      · omega
      · simp only [if_pos ea, if_neg eb]
        exact hne' b hb eb
    · by_cases eb : b = q
      · simp only [if_neg ea, if_pos eb]
        exact hne a ha ea
      · simp only [if_neg ea, if_neg eb]
        exact h.2 a b ha hb hab
end
theorem wpList_append_at {P : Program} (w : World) {ops : Array Oper} {rest : List Oper} {o : Oper} {a : Act} {Q : Exit → Act → World → Prop} (hgd : o.guard = none) (s x : Operand) (t : TypeId)
    (ho : o.op = .call { callee := .builtin .append, args := #[s, x], argTypes := #[t, t] }) (base : Nat) {e : TypeId} {z : Value} {size bytes : Nat} (E : Elem P t e z size bytes)
    {v : Value} {n : Nat} {xs : List Value} (hs : a.eval s = v) (hown : w.ownsRow base e size v n xs) {B b o' m c : Nat} {news : List Value} (hx : a.eval x = .slice (some ⟨b, o', none⟩) m c) (hr : Rd w B size (some ⟨b, o', none⟩) m news) (hm : 0 < m) (h1 : ∀ u ∈ news, u.oneCell' = true)
    (h63 : n + m ≤ maxLen) (hbytes : (n + m) * bytes ≤ 140737488355328) (hbase : base ≤ w.heap.size)
    (h : ∀ v' w', w'.ownsRow base e size v' (n + m) (xs ++ news) → w.grownBy w' v.ownBlock → (v'.ownBlock = v.ownBlock ∨ v'.ownBlock = some w.heap.size) → wpList P ops Q rest (a.put o.dst v') w') :
    wpList P ops Q (o :: rest) a w := by
  obtain ⟨i, hi, hz0, hz1, hz2⟩ := info_parts E.info
  refine wpList_append_own_at w hgd s x t ho base e i z size bytes E.und hi hz0 hz1 hz2 E.cells E.pos v n xs hs hown ⟨b, o', none⟩ m c news hx hr.1 (fun j u hu => ?_) h1 h63 hbytes hbase (fun v' w' k1 k2 _ k4 => h v' w' k1 k2 k4)
  obtain ⟨b2, o2, he, hb, hc⟩ := hr.2 hm
  injection he with he
  injection he with e1 e2
  subst e1 e2
  have e1 : (⟨b, o', none⟩ : Addr).add j = ⟨b, o' + j, none⟩ := by unfold Addr.add; split <;> simp_all
  rw [e1]
  exact hc j u hu
theorem own_apart {w : World} {base : Nat} {e : TypeId} {size n : Nat} {v : Value} {xs : List Value} (h : w.ownsRow base e size v n xs) {g : Nat} (hg : g < base) : some g ≠ v.ownBlock := fun e => by
  have := (h.lt g e.symm).1
  omega
theorem rd_single (w : World) (v : Value) (e : TypeId) : Rd (w.alloc (.cells #[v] e)) (w.heap.size + 1) 1 (some ⟨w.heap.size, 0, none⟩) 1 [v] := by
  refine ⟨rfl, fun _ => ⟨w.heap.size, 0, rfl, by omega, fun j u hu => ?_⟩⟩
  have h := (Blk.fresh w e #[v]).cell j
  rw [Nat.zero_add, h]
  simpa using hu
end Go.Proofs.Ytlikfikmfimfhaa.Av
