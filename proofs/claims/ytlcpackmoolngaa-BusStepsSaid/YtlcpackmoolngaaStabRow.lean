/- An owned row of parcels is a row of the sort's. -/
import Derived.Test.YtlcpackmoolngaaStabNil
namespace Go.Proofs.Ytlcpackmoolngaa.Ss
open Go.ChangeShapes Go.WideShapes Go.ChangeAt Go.Shelf Go.RowKit Go.Lib Go.Sort Go.Proofs.Ytlcpackmoolngaa.Stb Go.Proofs.Ytlcpackmoolngaa.Bu Go.Proofs.Ytlcpackmoolngaa.Mem Go.Proofs.Ytlcpackmoolngaa.Op Go.Proofs.Ytlcpackmoolngaa.Sm
set_option linter.unusedVariables false
set_option linter.unusedSimpArgs false

/-- the row, each with its place -/
def rowOf (ys : List PC) : Array (PC × Nat) := ys.zipIdx.toArray
theorem rowOf_size (ys : List PC) : (rowOf ys).size = ys.length := by simp [rowOf]
theorem rowOf_get (ys : List PC) {i : Nat} (h : i < ys.length) : (rowOf ys)[i]! = (ys[i], i) := by
  rw [getElem!_pos _ _ (by rw [rowOf_size]; exact h)]
  simp [rowOf]

theorem rowK_in {w : World} {base g c n : Nat} {xs : List Value} (ho : w.ownsRow base 52 5 (.slice (some ⟨g, 0, none⟩) n c) n xs) (ys : List PC) (hl : ys.length = n)
    (hx : ∀ i (h : i < ys.length), (xs.drop (i * 5)).take 5 = parcL ys[i].1 ys[i].2.1 ys[i].2.2) : RowK encP 5 w g 0 (rowOf ys) := by
  obtain ⟨hlen, ⟨h0, _⟩ | ⟨g', cap, cur, hv, _, hh, _, _, _, ht⟩⟩ := ho
  · injection h0 with h0 _ _
    cases h0
  · injection hv with hv _ _
    injection hv with hv
    injection hv with hv _ _
    subst hv
    refine ⟨fun x => rfl, fun x v hv => ?_, fun j hj => ?_, ?_⟩
    · simp only [encP, parcL, List.mem_cons, List.not_mem_nil, or_false] at hv
      rcases hv with rfl | rfl | rfl | rfl | rfl <;> rfl
    · rw [size_flatK, rowOf_size] at hj
      rw [get_flatK _ _ _ _ (by rw [rowOf_size]; exact hj), Nat.zero_add]
      have hi : j / 5 < ys.length := by omega
      rw [rowOf_get ys hi]
      have hc : w.cell? ⟨g, j, none⟩ = xs[j]? := by
        rw [← ht, List.getElem?_take, if_pos (by omega)]
        simp [World.cell?, hh]
      refine ⟨?_, by simp [World.frozen?, hh]⟩
      rw [hc]
      have e := hx (j / 5) hi
      have e2 : xs[j]? = (parcL ys[j / 5].1 ys[j / 5].2.1 ys[j / 5].2.2)[j % 5]? := by
        rw [← e, List.getElem?_take, if_pos (by omega), List.getElem?_drop, show j / 5 * 5 + j % 5 = j by omega]
      rw [e2]
      have h5 : j % 5 < (parcL ys[j / 5].1 ys[j / 5].2.1 ys[j / 5].2.2).length := Nat.mod_lt _ (by omega)
      show _ = some (encP (ys[j / 5], j / 5))[j % 5]!
      rw [List.getElem?_eq_getElem h5]
      exact congrArg some (getElem!_pos (encP (ys[j / 5], j / 5)) (j % 5) h5).symm
    · by_cases hb : g < w.heap.size
      · exact hb
      · rw [Array.getElem?_eq_none (by omega)] at hh
        cases hh

/-- what the sort leaves reads as parcels, their texts lying elsewhere -/
theorem parcs_out {w W : World} {g : Nat} (f : Array (PC × Nat)) (h : SWK encP 5 w g 0 f W) (d0 : Array (PC × Nat)) (R : RowK encP 5 w g 0 d0) (hs : f.size = d0.size)
    (htx : ∀ i, i < f.size → (f[i]!.1.2.1 = none → f[i]!.1.2.2 = 0) ∧ f[i]!.1.1.bs.length ≤ f[i]!.1.2.2 ∧ f[i]!.1.1.bs.length ≤ 140737488351232 ∧ Rd W W.heap.size 1 f[i]!.1.2.1 f[i]!.1.1.bs.length (bytesV f[i]!.1.1.bs)) :
    ParcsAt W W.heap.size (some ⟨g, 0, none⟩) (f.toList.map fun x => x.1.1) := by
  have hH := h.holds R.hblk R.hH hs
  have hlt := h.lt R.hblk
  refine ⟨(flatK encP 5 f).toList, ⟨by simp, fun _ => ⟨g, 0, rfl, hlt, fun j u hu => ?_⟩⟩, fun i p hp => ?_⟩
  · have hj : j < (flatK encP 5 f).size := by
      have := (List.getElem?_eq_some_iff.1 hu).1
      simpa using this
    rw [(hH j hj).1, ← hu, getElem!_pos (flatK encP 5 f) j hj, Array.getElem?_toList, Array.getElem?_eq_getElem hj]
    rfl
  · have hi : i < f.size := by
      have := (List.getElem?_eq_some_iff.1 hp).1
      simpa using this
    have hpe : f[i]!.1.1 = p := by
      rw [List.getElem?_map, Array.getElem?_toList, Array.getElem?_eq_getElem hi] at hp
      injection hp with hp
      rw [getElem!_pos f i hi]
      exact hp
    obtain ⟨t1, t2, t3, t4⟩ := htx i hi
    rw [hpe] at t2 t3 t4
    refine ⟨_, _, ?_, t1, t2, t3, t4⟩
    rw [← hpe]
    show _ = encP f[i]!
    refine List.ext_getElem? fun q => ?_
    by_cases hq : q < 5
    · have hb : i * 5 + q < f.size * 5 := by omega
      rw [List.getElem?_take, if_pos hq, List.getElem?_drop, Array.getElem?_toList, Array.getElem?_eq_getElem (by simpa using hb)]
      have h1 := get_flatK encP 5 f (i * 5 + q) hb
      rw [getElem!_pos (flatK encP 5 f) (i * 5 + q) (by simpa using hb), show (i * 5 + q) / 5 = i by omega, show (i * 5 + q) % 5 = q by omega] at h1
      rw [h1, List.getElem?_eq_getElem (show q < (encP f[i]!).length from hq)]
      exact congrArg some (getElem!_pos (encP f[i]!) q hq)
    · rw [List.getElem?_eq_none (by simp; omega), List.getElem?_eq_none (by show (encP f[i]!).length ≤ q; exact Nat.le_of_not_lt hq)]
end Go.Proofs.Ytlcpackmoolngaa.Ss
