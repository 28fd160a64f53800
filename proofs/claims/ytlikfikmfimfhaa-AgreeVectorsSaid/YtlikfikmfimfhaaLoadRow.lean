/- A whole load in a region that draws its order. -/
import Derived.Test.YtlikfikmfimfhaaMem
import Derived.Test.YtlikfikmfimfhaaRws
namespace Go.Proofs.Ytlikfikmfimfhaa.BigW
open Go.RowKit Go.Proofs.Ytlikfikmfimfhaa.Mem
set_option linter.unusedVariables false

theorem neq_of {r g : Nat} (h : r ≠ g) : some r ≠ some g := fun e => h (by injection e)
theorem exec_load_st {P : Program} {op : Oper} {a : Act} {w : World} (ty : TypeId) (x : Operand) (ho : op.op = .load ty x) (b : Nat) (hx : a.eval x = .pointer (some ⟨b, 0, none⟩)) {t : TypeId} {cs : Array Value} (h : Blk w b t cs)
    {d : TypeDesc} (hu : P.underlying ty = some d) (hd : (match d with | .struct _ | .array _ _ => true | _ => false) = true) (hi : (P.info? ty).map (·.size) = some cs.size) : (execOp a.eval op).run P w = .ok (.value (.agg cs)) w := by
  unfold execOp
  simp only [ho, hx, Instr.loadAt, Instr.sureAddr, Sem.run_bind, Sem.run_pure, Result.andThen_ok, run_loadVar_row w b t ty cs _ d h hu hd hi]
theorem grown_at {w w' : World} {g b : Nat} (h : w.grownBy w' (some g)) (hb : b < w.heap.size) (hne : b ≠ g) : ∀ o, w'.cell? ⟨b, o, none⟩ = w.cell? ⟨b, o, none⟩ :=
  fun o => World.cell?_of_block (h.block b hb (fun e => hne (by injection e)))
end Go.Proofs.Ytlikfikmfimfhaa.BigW
