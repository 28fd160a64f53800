/- fourwatchbig.Int: sum, Add, Sub, Lsh, Sign. -/
import Derived.Test.YtlcpackmoolngaaBigI
namespace Go.Proofs.Ytlcpackmoolngaa.BigW
open Go.RowKit Go.Proofs.Ytlcpackmoolngaa.Mem Go.Proofs.Ytlcpackmoolngaa.BigLaw
set_option linter.unusedVariables false

/-- s says which side of 0 X is on -/
def Sg (s : Bool) (X : Int) : Prop := X ≠ 0 → s = decide (X < 0)
theorem Sg.neg {s : Bool} {X : Int} (h : Sg s X) : Sg (!s) (-X) := fun h0 => by
  rw [h (by omega)]
  by_cases h1 : X < 0
  · simp [h1]; omega
  · simp [h1]; omega
theorem sg_self (X : Int) : Sg (decide (X < 0)) X := fun _ => rfl
theorem sg_cases {s : Bool} {X : Int} (h : Sg s X) : X = 0 ∨ (s = true ∧ X < 0) ∨ (s = false ∧ 0 < X) := by
  by_cases h0 : X = 0
  · exact .inl h0
  · have := h h0
    by_cases h1 : X < 0
    · exact .inr (.inl ⟨by simpa [h1] using this, h1⟩)
    · exact .inr (.inr ⟨by simpa [h1] using this, by omega⟩)
theorem sg_mk {s : Bool} {X : Int} (h : X = 0 ∨ (s = true ∧ X < 0) ∨ (s = false ∧ 0 < X)) : Sg s X := fun h0 => by
  rcases h with h | ⟨rfl, h⟩ | ⟨rfl, h⟩
  · exact absurd h h0
  · simp [h]
  · have : ¬ X < 0 := by omega
    simp [this]
theorem sum_same {xn yn : Bool} {X Y : Int} (hx : Sg xn X) (hy : Sg yn Y) (h : xn = yn) : X.natAbs + Y.natAbs = (X + Y).natAbs ∧ Sg xn (X + Y) := by
  subst h
  rcases sg_cases hx with h1 | ⟨h1, h2⟩ | ⟨h1, h2⟩ <;> rcases sg_cases hy with h3 | ⟨h3, h4⟩ | ⟨h3, h4⟩
  all_goals first
    | (exfalso; rw [h1] at h3; cases h3; done)
    | (refine ⟨by omega, sg_mk ?_⟩; first | (left; omega) | (right; left; exact ⟨by assumption, by omega⟩) | (right; right; exact ⟨by assumption, by omega⟩))
theorem sum_diff {xn yn : Bool} {X Y : Int} (hx : Sg xn X) (hy : Sg yn Y) (h : xn ≠ yn) (hl : Y.natAbs ≤ X.natAbs) : X.natAbs - Y.natAbs = (X + Y).natAbs ∧ Sg xn (X + Y) := by
  rcases sg_cases hx with h1 | ⟨h1, h2⟩ | ⟨h1, h2⟩ <;> rcases sg_cases hy with h3 | ⟨h3, h4⟩ | ⟨h3, h4⟩
  all_goals first
    | (exfalso; exact h (h1.trans h3.symm); done)
    | (refine ⟨by omega, sg_mk ?_⟩; by_cases h0 : X + Y = 0; (exact .inl h0); first | (right; left; exact ⟨by assumption, by omega⟩) | (right; right; exact ⟨by assumption, by omega⟩) | (exfalso; omega))

/-- signed words -/
def SumW (w w' : World) (Z : Int) (e : Ending) : Prop := ∃ s A c l, e = .returned (.tuple #[.bool s, .slice A l.length c]) ∧ Wd w' w'.heap.size A c l ∧ trimd l ∧ val l = Z.natAbs ∧ Sg s Z ∧ Below w.heap.size w w'

theorem sum_any (xn yn : Bool) (A A' : Option Addr) (c c' : Nat) (l l' : List Nat) (X Y : Int) (w : World) (h : Wd w w.heap.size A c l) (h' : Wd w w.heap.size A' c' l') (t : trimd l) (t' : trimd l') (hv : val l = X.natAbs) (hv' : val l' = Y.natAbs) (hx : Sg xn X) (hy : Sg yn Y) (hsz : l.length ≤ 1000000) (hsz' : l'.length ≤ 1000000) :
    Calls Try.prog 73 #[.bool xn, .slice A l.length c, .bool yn, .slice A' l'.length c'] w fun e w' => SumW w w' (X + Y) e := by
  have H := Lib.hid h
  have H' := Lib.hid h'
  have T := Lib.hid t
  have T' := Lib.hid t'
  have HV := Lib.hid hv
  have HV' := Lib.hid hv'
  have HX := Lib.hid hx
  have HY := Lib.hid hy
  clear h h' t t' hv hv' hx hy
  by_cases hs : xn = yn
  · have hs2 : (xn == yn) = true := by simp [hs]
    obtain ⟨e1, e2⟩ := sum_same HX.out HY.out hs
    rw [← HV.out, ← HV'.out] at e1
    have E1 := Lib.hid e1
    have E2 := Lib.hid e2
    clear e1 e2 hs
    go_enter Try.func73, Try.ntmps73
    go_wp2_with fail
    refine (add_any A A' c c' l l' _ w (Nat.le_refl _) H.out H'.out hsz hsz').mono ?_
    rintro e w1 ⟨A1, c1, l1, rfl, hw, ht, hv, hb⟩
    have HW := Lib.hid hw
    have HT := Lib.hid ht
    have HV1 := Lib.hid (hv.trans E1.out)
    clear hw ht hv
    go_wp2_with fail
    go_ret2
    exact ⟨xn, A1, c1, l1, rfl, HW.out, HT.out, HV1.out, E2.out, hb⟩
  · have hs2 : (xn == yn) = false := by simp [hs]
    have HS := Lib.hid hs
    clear hs
    go_enter Try.func73, Try.ntmps73
    go_wp2_with fail
    refine (cmp_any A A' c c' l l' _ w (Nat.le_refl _) H.out H'.out T.out T'.out).mono ?_
    rintro e w0 ⟨rfl, hb0⟩
    have H0 := Lib.hid ((H.out.below hb0).more hb0.size)
    have H0' := Lib.hid ((H'.out.below hb0).more hb0.size)
    have hs0 := hb0.size
    by_cases hle : val l' ≤ val l
    · have hsg : 0 ≤ sgn (val l) (val l') := by unfold sgn; rw [if_neg (by omega)]; split <;> omega
      have HL := Lib.hid (length_le T'.out (Nat.lt_of_le_of_lt hle (val_lt H.out.small)))
      have HLE := Lib.hid hle
      rw [HV.out, HV'.out] at hle
      obtain ⟨e1, e2⟩ := sum_diff HX.out HY.out HS.out hle
      rw [← HV.out, ← HV'.out] at e1
      have E1 := Lib.hid e1
      have E2 := Lib.hid e2
      clear e1 e2 hle
      generalize sgn (val l) (val l') = sg at hsg
      go_wp2_with fail
      refine (sub_any A A' c c' l l' _ w0 (Nat.le_refl _) H0.out H0'.out hsz HL.out HLE.out).mono ?_
      rintro e w1 ⟨A1, c1, l1, rfl, hw, ht, hv, hb⟩
      have HW := Lib.hid hw
      have HT := Lib.hid ht
      have HV1 := Lib.hid (hv.trans E1.out)
      clear hw ht hv
      go_wp2_with fail
      go_ret2
      exact ⟨xn, A1, c1, l1, rfl, HW.out, HT.out, HV1.out, E2.out, onward hb0 (Nat.le_refl _) hb⟩
    · have hsg : ¬ 0 ≤ sgn (val l) (val l') := by unfold sgn; rw [if_pos (by omega)]; omega
      have HL := Lib.hid (length_le T.out (Nat.lt_of_le_of_lt (show val l ≤ val l' by omega) (val_lt H'.out.small)))
      have HLE := Lib.hid (show val l ≤ val l' by omega)
      obtain ⟨e1, e2⟩ := sum_diff HY.out HX.out (fun e => HS.out e.symm) (by rw [← HV.out, ← HV'.out]; exact HLE.out)
      rw [← HV.out, ← HV'.out, Int.add_comm] at e1
      rw [Int.add_comm] at e2
      have E1 := Lib.hid e1
      have E2 := Lib.hid e2
      clear e1 e2 hle
      generalize sgn (val l) (val l') = sg at hsg
      go_wp2_with fail
      refine (sub_any A' A c' c l' l _ w0 (Nat.le_refl _) H0'.out H0.out hsz' HL.out HLE.out).mono ?_
      rintro e w1 ⟨A1, c1, l1, rfl, hw, ht, hv, hb⟩
      have HW := Lib.hid hw
      have HT := Lib.hid ht
      have HV1 := Lib.hid (hv.trans E1.out)
      clear hw ht hv
      go_wp2_with fail
      go_ret2
      exact ⟨yn, A1, c1, l1, rfl, HW.out, HT.out, HV1.out, E2.out, onward hb0 (Nat.le_refl _) hb⟩

/-- what stands in a number's block, cell by cell -/
theorem BigAt.parts {w : World} {p : Nat} {z : Int} (h : BigAt w p z) : ∃ A c l, w.cell? ⟨p, 0, none⟩ = some (.bool (decide (z < 0))) ∧ w.cell? ⟨p, 1, none⟩ = some (.slice A l.length c) ∧ Wd w w.heap.size A c l ∧ trimd l ∧ val l = z.natAbs := by
  obtain ⟨A, c, l, h1, h2⟩ := h
  refine ⟨A, c, l, ?_, ?_, h2⟩
  · rw [h1.cell]; rfl
  · rw [h1.cell]; rfl

theorem len_of {l : List Nat} {z : Int} (ht : trimd l) (hv : val l = z.natAbs) (hz : z.natAbs < pw 100) : l.length ≤ 1000000 := by
  have := length_le ht (k := 100) (by rw [hv]; exact hz)
  omega

theorem Wd.drew {w : World} {B : Nat} {A : Option Addr} {c : Nat} {l : List Nat} (h : Wd w B A c l) : Wd w.drew B A c l := ⟨h.len, h.cap, h.none_, h.rd.drew, h.small⟩
theorem IsInt.drew {w : World} {p : Nat} (h : IsInt w p) : IsInt w.drew p := by
  obtain ⟨s, A, n, c, h⟩ := h
  exact ⟨s, A, n, c, h.drew⟩
theorem grown_drew {w w' : World} {row : Option Nat} (h : w.drew.grownBy w' row) (ht : w'.tape = w.tape) : w.grownBy w' row := ⟨h.os, ht, h.output, h.size, h.block⟩
end Go.Proofs.Ytlcpackmoolngaa.BigW
