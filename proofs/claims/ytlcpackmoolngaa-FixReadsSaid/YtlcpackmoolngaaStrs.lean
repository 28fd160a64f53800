/- Strings told as lists of bytes: their length, put together, cut, a byte of them. -/
import Derived.Test.YtlcpackmoolngaaTextRev
import Derived.Laws.Concat
namespace Go.Proofs.Ytlcpackmoolngaa.Tx
open Go.RowKit Go.Proofs.Ytlcpackmoolngaa.Mem Go.Proofs.Ytlcpackmoolngaa.Sm
set_option linter.unusedVariables false

theorem strB_data (l : List Nat) : (strB l).data.toList = l.map fun x => UInt8.ofNat x := by
  unfold strB
  rw [strOfNums_data, List.map_map]
  exact List.map_congr_left fun x _ => rfl
theorem strB_eq {s : ByteArray} {l : List Nat} (h : s.data.toList = l.map fun x => UInt8.ofNat x) : s = strB l := by
  apply ByteArray.ext
  apply Array.ext'
  rw [strB_data, h]
theorem strB_size (l : List Nat) : (strB l).size = l.length := by
  have h := congrArg List.length (strB_data l)
  rw [List.length_map] at h
  exact h
theorem strB_append (a b : List Nat) : strB a ++ strB b = strB (a ++ b) := by
  apply strB_eq
  rw [ByteArray.data_append, Array.toList_append, strB_data, strB_data, List.map_append]
theorem strB_extract (l : List Nat) (i j : Nat) : (strB l).extract i j = strB ((l.drop i).take (j - i)) := by
  apply strB_eq
  rw [List.map_take, List.map_drop, ← strB_data]
  have h := ByteArray.extract_mk (strB l).data.toList i j
  have e : ByteArray.mk (strB l).data.toList.toArray = strB l := by
    apply ByteArray.ext; simp
  rw [e] at h
  rw [h]
theorem strB_get (l : List Nat) (k : Nat) (h : k < (strB l).size) (hl : ∀ x ∈ l, x < 256) : (((strB l)[k]'h).toNat) = l.getD k 0 := by
  have hk : k < l.length := by rwa [strB_size] at h
  have e : (strB l)[k]'h = (strB l).data.toList[k]'(by exact h) := rfl
  rw [e]
  have e2 : (strB l).data.toList[k]? = some (UInt8.ofNat l[k]) := by rw [strB_data, List.getElem?_map, List.getElem?_eq_getElem hk]; rfl
  have h3 := List.getElem?_eq_getElem (l := (strB l).data.toList) (i := k) (by exact h)
  rw [h3] at e2
  injection e2 with e2
  rw [e2, List.getD_eq_getElem?_getD, List.getElem?_eq_getElem hk]
  have := hl l[k] (List.getElem_mem hk)
  show (UInt8.ofNat l[k]).toNat = l[k]
  rw [UInt8.toNat_ofNat']
  omega
theorem strB_one (x : Nat) : (⟨#[UInt8.ofNat x]⟩ : ByteArray) = strB [x] := strB_eq rfl
theorem ch_small {ds : List Nat} (h : ∀ x ∈ ds, x < 10) : ∀ x ∈ ch ds, x < 256 := fun x hx => by
  obtain ⟨y, hy, rfl⟩ := List.mem_map.1 hx
  have := h y hy
  omega
theorem ch_zeros (k : Nat) : ch (List.replicate k 0) = List.replicate k 48 := by simp [ch]
end Go.Proofs.Ytlcpackmoolngaa.Tx
