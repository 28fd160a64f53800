/- An append that says where the list lies then. -/
import Derived.Test.YtlcpackmoolngaaMem
import Derived.Maps.AppendAt
namespace Go.Proofs.Ytlcpackmoolngaa.Tx
open Go.RowKit Go.Proofs.Ytlcpackmoolngaa.Mem
set_option linter.unusedVariables false

theorem wpList_append_at {P : Program} (w : World) {ops : Array Oper} {rest : List Oper} {o : Oper} {a : Act} {Q : Exit → Act → World → Prop} (hgd : o.guard = none) (s x : Operand) (t : TypeId)
    (ho : o.op = .call { callee := .builtin .append, args := #[s, x], argTypes := #[t, t] }) (base : Nat) {e : TypeId} {z : Value} {size bytes : Nat} (E : Elem P t e z size bytes)
    {v : Value} {n : Nat} {xs : List Value} (hs : a.eval s = v) (hown : w.ownsRow base e size v n xs) {B b o' m c : Nat} {news : List Value} (hx : a.eval x = .slice (some ⟨b, o', none⟩) m c) (hr : Rd w B size (some ⟨b, o', none⟩) m news) (hm : 0 < m) (h1 : ∀ u ∈ news, u.oneCell' = true)
    (h63 : n + m ≤ maxLen) (hbytes : (n + m) * bytes ≤ 140737488355328) (hbase : base ≤ w.heap.size)
    (h : ∀ v' w', w'.ownsRow base e size v' (n + m) (xs ++ news) → w.grownBy w' v.ownBlock → (v'.ownBlock = v.ownBlock ∨ v'.ownBlock = some w.heap.size) → wpList P ops Q rest (a.put o.dst v') w') :
    wpList P ops Q (o :: rest) a w := by
  obtain ⟨i, hi, hz0, hz1, hz2⟩ := info_parts E.info
  refine wpList_append_own_at w hgd s x t ho base e i z size bytes E.und hi hz0 hz1 hz2 E.cells E.pos v n xs hs hown ⟨b, o', none⟩ m c news hx hr.1 (fun j u hu => ?_) h1 h63 hbytes hbase (fun v' w' k1 k2 _ k4 => h v' w' k1 k2 k4)
  obtain ⟨b2, o2, he, hb, hc⟩ := hr.2 hm
  injection he with he
  injection he with e1 e2
  subst e1 e2
  have e1 : (⟨b, o', none⟩ : Addr).add j = ⟨b, o' + j, none⟩ := by unfold Addr.add; split <;> simp_all
  rw [e1]
  exact hc j u hu
theorem rd_single (w : World) (v : Value) (e : TypeId) : Rd (w.alloc (.cells #[v] e)) (w.heap.size + 1) 1 (some ⟨w.heap.size, 0, none⟩) 1 [v] := by
  refine ⟨rfl, fun _ => ⟨w.heap.size, 0, rfl, by omega, fun j u hu => ?_⟩⟩
  have h := (Blk.fresh w e #[v]).cell j
  rw [Nat.zero_add, h]
  simpa using hu
theorem own_after {w : World} {base : Nat} {e : TypeId} {size n : Nat} {v v' d : Value} {xs : List Value} (h : w.ownsRow base e size d n xs) (hne : d.ownBlock = none ∨ d.ownBlock ≠ v.ownBlock) (ho : v'.ownBlock = v.ownBlock ∨ v'.ownBlock = some w.heap.size) : d.ownBlock = none ∨ d.ownBlock ≠ v'.ownBlock := by
  rcases ho with e1 | e1
  · rw [e1]; exact hne
  · right
    rw [e1]
    intro e2
    have := (h.lt _ e2).2
    omega
end Go.Proofs.Ytlcpackmoolngaa.Tx
