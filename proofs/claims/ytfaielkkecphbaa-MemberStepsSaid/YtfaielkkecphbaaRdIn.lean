/- A slice's reading whose block lies behind lo, kept by what leaves the blocks behind lo alone. -/
import Derived.Test.YtfaielkkecphbaaMem
namespace Go.Proofs.Ytfaielkkecphbaa.Mem
theorem Rd.keepIn {w w' : World} {B size n : Nat} {A : Option Addr} {xs : List Value} {lo : Nat} (h : Rd w B size A n xs) (hlo : ∀ a, A = some a → lo ≤ a.block)
    (hk : ∀ b o, lo ≤ b → b < B → w'.cell? ⟨b, o, none⟩ = w.cell? ⟨b, o, none⟩) : Rd w' B size A n xs :=
  ⟨h.1, fun hn => let ⟨b, o, e, hb, hc⟩ := h.2 hn; ⟨b, o, e, hb, fun j u hu => (hk b _ (hlo _ e) hb).trans (hc j u hu)⟩⟩
theorem Rd.setRowIn {w : World} {B size n p : Nat} {A : Option Addr} {xs : List Value} {lo : Nat} (h : Rd w B size A n xs) (hlo : ∀ a, A = some a → lo ≤ a.block) (hp : p < lo) (cs : Array Value) : Rd (w.setRow p cs) B size A n xs :=
  h.keepIn hlo fun b o h1 _ => by
    have := Go.setRow_other w p b cs (by omega)
    unfold World.cell?
    simp only [this]
theorem Rd.setRowOut {w : World} {B size n p : Nat} {A : Option Addr} {xs : List Value} (h : Rd w B size A n xs) (hp : B ≤ p) (cs : Array Value) : Rd (w.setRow p cs) B size A n xs :=
  h.keep fun b o h1 => by
    have := Go.setRow_other w p b cs (by omega)
    unfold World.cell?
    simp only [this]
end Go.Proofs.Ytfaielkkecphbaa.Mem
