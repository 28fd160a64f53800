/- Bytes as a string: string(b) of a slice that reads as bytes. -/
import Derived.Test.YtlcpackmoolngaaBytesB
import Derived.Laws.BytesArg
import Derived.Lib.Bytes
namespace Go.Proofs.Ytlcpackmoolngaa.Sm
open Go.ChangeShapes Go.WideShapes Go.ChangeAt Go.RowKit Go.Proofs.Ytlcpackmoolngaa.Mem
set_option linter.unusedVariables false

def strB (bs : List Nat) : ByteArray := strOfNums (bs.map fun (x : Nat) => (x : Int))
theorem conv_rd {w : World} {B : Nat} {A : Option Addr} {n c : Nat} {bs : List Nat} (hA : A = none → n = 0) (hn : n = bs.length) (h : Rd w B 1 A n (bytesV bs)) :
    (convert 38 9 (.slice A n c)).run Try.prog w = .ok (.string (strB bs)) w := by
  subst hn
  by_cases h0 : bs.length = 0
  · have hb : bs = [] := List.eq_nil_of_length_eq_zero h0
    subst hb
    cases A with
    | none => exact run_convert_bytes_nil w _ _ Try.underlying38 Try.underlying5 _ _ _ Try.underlying9
    | some a =>
      obtain ⟨b, o, s⟩ := a
      cases s with
      | none => exact run_convert_bytes_arg w _ _ Try.underlying38 Try.underlying5 b o 0 c [] rfl (fun i hi => absurd hi (by omega)) _ Try.underlying9
      | some s =>
        rw [run_convert_bytes_string w _ _ _ _ _ _ Try.underlying38 Try.underlying5 Try.underlying9]
        have := run_bytesToString (P := Try.prog) w ⟨b, o, some s⟩ 0 c [] (by simp [loadCells, loadCellsFrom])
        exact this
  · obtain ⟨b, o, rfl, hb, hc⟩ := h.2 (by omega)
    refine run_convert_bytes_arg w _ _ Try.underlying38 Try.underlying5 b o bs.length c (bs.map fun (x : Nat) => (x : Int)) (by simp) (fun i hi => ?_) _ Try.underlying9
    rw [hc i _ (bytesV_at bs i hi)]
    simp [List.getD, hi]
theorem strB_inj {a b : List Nat} (ha : ∀ x ∈ a, x < 256) (hb : ∀ x ∈ b, x < 256) (h : strB a = strB b) : a = b := by
  have key : ∀ l : List Nat, (∀ x ∈ l, x < 256) → (strB l).data.toList.map UInt8.toNat = l := fun l hl => by
    unfold strB
    rw [strOfNums_data, List.map_map, List.map_map]
    conv => rhs; rw [← List.map_id l]
    refine List.map_congr_left fun x hx => ?_
    have := hl x hx
    simp
    omega
  rw [← key a ha, ← key b hb, h]

theorem ownsRow_below {w w' : World} {base : Nat} {e : TypeId} {size : Nat} {v : Value} {n : Nat} {xs : List Value} (h : w.ownsRow base e size v n xs) (hb : Below w.heap.size w w') : w'.ownsRow base e size v n xs :=
  h.kept (row := none) ⟨hb.os, hb.tape, hb.output, hb.size, fun g hg _ => hb.block g hg⟩ (by cases v.ownBlock <;> simp)
theorem own_nil {w : World} {base : Nat} {e : TypeId} {size : Nat} {A : Option Addr} {n c : Nat} {xs : List Value} (h : w.ownsRow base e size (.slice A n c) n xs) : A = none → n = 0 ∧ c = 0 := by
  obtain ⟨A', c', hv, _, _, h4, _⟩ := own_form h
  injection hv with h1 h2 h3
  subst h1; subst h3
  exact h4
theorem own_cap {w : World} {base : Nat} {e : TypeId} {size : Nat} {A : Option Addr} {n c : Nat} {xs : List Value} (h : w.ownsRow base e size (.slice A n c) n xs) : n ≤ c := by
  obtain ⟨A', c', hv, h2, _, h4, _⟩ := own_form h
  injection hv with h1 h2 h3
  subst h1; subst h3
  assumption
theorem conv_own {w : World} {base : Nat} {e : TypeId} {A : Option Addr} {n c : Nat} {bs : List Nat} (hn : n = bs.length) (h : w.ownsRow base e 1 (.slice A n c) n (bytesV bs)) :
    (convert 38 9 (.slice A n c)).run Try.prog w = .ok (.string (strB bs)) w := conv_rd (fun e => (own_nil h e).1) hn (Rd.of_own h)
end Go.Proofs.Ytlcpackmoolngaa.Sm
