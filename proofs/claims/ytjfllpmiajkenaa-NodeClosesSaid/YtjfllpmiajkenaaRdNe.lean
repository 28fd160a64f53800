/- What reads outside a block is kept by stores into it. -/
import Derived.Test.YtjfllpmiajkenaaRws
namespace Go.Proofs.Ytjfllpmiajkenaa.Mem
open Go.RowKit Go.Proofs.Ytjfllpmiajkenaa.Rws
set_option linter.unusedVariables false

theorem Rd.keep_lo {w w' : World} {B size n lo : Nat} {A : Option Addr} {xs : List Value} (h : Rd w B size A n xs) (hlo : ∀ a, A = some a → lo ≤ a.block) (hk : ∀ b o, lo ≤ b → w'.cell? ⟨b, o, none⟩ = w.cell? ⟨b, o, none⟩) : Rd w' B size A n xs :=
  ⟨h.1, fun hn => by
    obtain ⟨b, o, e, hb, hc⟩ := h.2 hn
    exact ⟨b, o, e, hb, fun j u hu => (hk b (o + j) (hlo _ e)).trans (hc j u hu)⟩⟩
theorem Rd.setRow_lo {w : World} {B size n lo : Nat} {A : Option Addr} {xs : List Value} (h : Rd w B size A n xs) (hlo : ∀ a, A = some a → lo ≤ a.block) {g : Nat} (hg : g < lo) (R : Array Value) : Rd (w.setRow g R) B size A n xs :=
  h.keep_lo hlo fun b o hb => cell_setRow_other w g R ⟨b, o, none⟩ (by show b ≠ g; omega)
theorem Rd.setCell_lo {w : World} {B size n lo : Nat} {A : Option Addr} {xs : List Value} (h : Rd w B size A n xs) (hlo : ∀ a, A = some a → lo ≤ a.block) {p : Addr} (hg : p.block < lo) (u : Value) : Rd (w.setCell p u) B size A n xs :=
  h.keep_lo hlo fun b o hb => World.cell?_setCell_other _ p ⟨b, o, none⟩ _ (by rintro rfl; have : b < lo := hg; omega)
theorem Rd.setCells_lo {B size n lo : Nat} {A : Option Addr} {xs : List Value} (hlo : ∀ a, A = some a → lo ≤ a.block) {g : Nat} (hg : g < lo) : ∀ (vs : List Value) (o : Nat) {w : World}, Rd w B size A n xs → Rd (w.setCells g o vs) B size A n xs
  | [], _, _, h => h
  | v :: r, o, w, h => by
    rw [World.setCells]
    exact Rd.setCells_lo hlo hg r (o + 1) (h.setCell_lo hlo (p := ⟨g, o, none⟩) hg v)
end Go.Proofs.Ytjfllpmiajkenaa.Mem
namespace Go.Proofs.Ytjfllpmiajkenaa.Nd
open Go.RowKit Go.Proofs.Ytjfllpmiajkenaa.Mem Go.Proofs.Ytjfllpmiajkenaa.Rws
theorem exec_load_mid {P : Program} {op : Oper} {a : Act} {w : World} (ty : TypeId) (x : Operand) (ho : op.op = .load ty x)
    (b off m : Nat) (hx : a.eval x = .pointer (some ⟨b, off, none⟩)) (g : Nat → Value) (d : TypeDesc) (hc : w.rangeAt b off ((List.range m).map g))
    (hu : P.underlying ty = some d) (hd : d.isRow = true) (hi : (P.info? ty).map (·.size) = some m) : (execOp a.eval op).run P w = .ok (.value (.agg (row m g))) w := by
  unfold execOp
  simp only [ho, hx, Instr.loadAt, Instr.sureAddr, Sem.run_bind, Sem.run_pure, Result.andThen_ok, run_loadVar_mid w b off ty _ d hc hu hd (by rw [hi]; simp)]
  rfl
end Go.Proofs.Ytjfllpmiajkenaa.Nd
