/- A slice of integers in memory, and as an argument. -/
import Derived.Test.YtjfllpmiajkenaaOpen
import Derived.Test.YtjfllpmiajkenaaMem
namespace Go.Proofs.Ytjfllpmiajkenaa.Ints
open Go.ChangeShapes Go.WideShapes Go.ChangeAt Go.RowKit Go.Proofs.Ytjfllpmiajkenaa.Mem
set_option linter.unusedVariables false

def intsV (zs : List Int) : List Value := zs.map (Value.int .i64)
theorem intsV_length (zs : List Int) : (intsV zs).length = zs.length := by simp [intsV]
theorem intsV_at (zs : List Int) (k : Nat) (hk : k < zs.length) : (intsV zs)[k]? = some (.int .i64 zs[k]) := by simp [intsV, hk]
theorem intsV_one (zs : List Int) : ∀ u ∈ intsV zs, u.oneCell' = true := fun u hu => by
  obtain ⟨z, _, rfl⟩ := List.mem_map.1 hu
  rfl
theorem intsV_take (zs : List Int) (n : Nat) : (intsV zs).take n = intsV (zs.take n) := by simp [intsV]
theorem elemInts : Elem Try.prog 39 3 (.int .i64 0) 1 8 := ⟨Try.underlying39, by kernel_rfl, rfl, by omega⟩
theorem rd_of_blk {w : World} {g : Nat} {t : TypeId} {cs : Array Value} (h : Blk w g t cs) : Rd w (g + 1) 1 (some ⟨g, 0, none⟩) cs.size cs.toList :=
  ⟨by simp, fun _ => ⟨g, 0, rfl, by omega, fun j u hu => by rw [Nat.zero_add, h.cell]; simpa using hu⟩⟩
/-- the reading of a part ahead -/
theorem rd_take {w : World} {B : Nat} {A : Option Addr} {zs : List Int} (h : Rd w B 1 A zs.length (intsV zs)) {n : Nat} (hn : n ≤ zs.length) : Rd w B 1 A (zs.take n).length (intsV (zs.take n)) :=
  ⟨by simp [intsV], fun h0 => by
    have hl : (zs.take n).length = n := by simp; omega
    obtain ⟨b, o, rfl, hb, hc⟩ := h.2 (by omega)
    exact ⟨b, o, rfl, hb, fun j u hu => hc j u (by
      rw [← intsV_take] at hu
      by_cases hj : j < n
      · rw [List.getElem?_take_of_lt hj] at hu; exact hu
      · rw [List.getElem?_eq_none (by rw [List.length_take]; omega)] at hu; cases hu)⟩⟩
theorem rd_cut {w : World} {B : Nat} {A : Option Addr} {zs : List Int} (h : Rd w B 1 A zs.length (intsV zs)) (n : Nat) : Rd w B 1 A (zs.take n).length (intsV (zs.take n)) := by
  rcases Nat.le_total n zs.length with hn | hn
  · exact rd_take h hn
  · rw [List.take_of_length_le hn]; exact h

set_option maxRecDepth 100000 in
theorem openInts {H : Type} {enc : TypeId × Value → H} {W : World} {base : Nat} {v : Value} {d : DataW H} {ps : List MemPlace} (hv : Value.okWide Try.prog W .any base 39 v)
    (h : DataW.Trod enc Try.prog W 0 (fun _ => true) true 39 v d ps) (hl : Op.Light Try.prog 39 d) :
    ∃ (A : Option Addr) (c : Nat) (zs : List Int), v = .slice A zs.length c ∧ zs.length ≤ c ∧ c * 8 ≤ 140737488351232 ∧ (A = none → c = 0) ∧ Rd W W.heap.size 1 A zs.length (intsV zs) ∧ ∀ z ∈ zs, (Lit.int .i64 z).wf = true := by
  obtain ⟨a0, len, cap, rfl⟩ := okWide_slice Try.underlying39 hv
  obtain ⟨n, hn⟩ := h
  obtain ⟨A, c, zs, e, h1, h2, h3, h4, h5, h6⟩ := Op.Leaf.ints (enc := enc) (held := true) (base := 0) (spare := fun _ => true) (w := W) (v := .slice a0 len cap) Try.underlying39 Try.underlying3 (by kernel_rfl) (fun _ => rfl) ⟨n, _, hn, hl⟩
  rw [show Try.prog.bytesOf 3 = 8 from by kernel_rfl] at h3
  rw [e]
  exact ⟨A, c, zs, rfl, h1, h3, h4, h5, h6⟩
end Go.Proofs.Ytjfllpmiajkenaa.Ints
