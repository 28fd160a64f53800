/- The law ClockLocals returns true: clock.Local and the reference's Local answer alike. Conditions: none. -/
import Derived.Test.YtebgdmflpheeoaaLocal
namespace Go.Proofs.Ytebgdmflpheeoaa.lawClockLocals
open Go.ChangeShapes Go.WideShapes Go.ChangeAt Go.RowKit Go.Proofs.Ytebgdmflpheeoaa.Mem Go.Proofs.Ytebgdmflpheeoaa.Clk

theorem closed : locale 1 0 1 = (2, 0) := by decide

theorem walk (o r t : Int) (w : World) :
    Calls Try.prog 7 #[.agg #[.int .i64 o, .int .i64 r], .int .i64 t] w fun e w' => e = .returned (.bool true) ∧ Below w.heap.size w w' := by
  have HC := Lib.hid closed
  go_enter Try.func7, Try.ntmps7
  go_wp2_with fail
  refine (local_any o r t _).mono ?_
  rintro e w1 ⟨rfl, hb1⟩
  have hk1 := below_cell hb1
  have hs1 := hb1.size
  go_wp2_with fail
  refine (reflocal_any o r t _).mono ?_
  rintro e w2 ⟨rfl, hb2⟩
  go_wp2_with fail
  refine (local_any 1 0 1 _).mono ?_
  rintro e w3 ⟨rfl, hb3⟩
  rw [HC.out]
  generalize locale o r t = s
  go_wp2_with fail
  go_ret
  exact ⟨rfl, onward (onward (onward ((Below.refl _ _).alloc (Nat.le_refl _) _) (Nat.le_refl _) hb1) (Nat.le_refl _) hb2) (Nat.le_refl _) hb3⟩
set_option maxRecDepth 100000 in
theorem lifted (os : Os) (started : os.Started) (H : Type) (enc : TypeId × Value → H) :
    ReturnsInHanded {} Try.checked os 7 .any (Rows.clockLocalsSpec.pre6 enc Try.prog Try.f7 Rows.clockLocalsRow.domain false) (Rows.clockLocalsSpec.post enc Try.prog Try.f7 false true false false) := by
  refine returnsInHanded_of_change_sized (C := Try.checked) Fr.own started (by kernel_rfl) Try.func7
    (ChangeSpec.witness6 (enc := enc) (C := Try.checked) false ⟨#[], #[.agg #[.int .i64 0, .int .i64 0], .int .i64 0], []⟩ 8 (by kernel_rfl) (by kernel_rfl) (by kernel_rfl) (by kernel_rfl)) ?_
  intro W base args ds gs before hval0 hW _ hsz0 _
  have hval : ∀ (j : Nat) t v, Try.f7.params[j]? = some t → args[j]? = some v → Value.okWide Try.prog W .any base t v := hval0
  have hsz : (DataW.weightsEach Try.prog (Try.f7.params.toList ++ Rows.clockLocalsSpec.plain.varTypes Try.prog) (ds ++ gs)).all (· ≤ reachBytes) = true := hsz0
  clear hval0 hsz0
  obtain ⟨p, q, hA0, hV0, _⟩ := id hW
  have hA : DataW.TrodAll enc Try.prog W 0 (fun _ => true) true Try.f7.params.toList args.toList ds p := hA0
  rw [Try.params7] at hA hval hsz
  obtain ⟨v0, vs0, d0, ds0, p0, q0, hargs, rfl, rfl, h0, r0⟩ := trodAll_cons hA
  obtain ⟨v1, vs1, d1, ds1, p1, q1, rfl, rfl, rfl, h1, r1⟩ := trodAll_cons r0
  obtain ⟨rfl, rfl, rfl⟩ := trodAll_nil r1
  obtain rfl : args = #[v0, v1] := by cases args; simp_all
  obtain ⟨rfl, rfl⟩ := trodVars_none hV0
  refine Fr.of_walk (f := Try.f7) Fr.laidOut (by rw [Try.params7]; intro t ht; simp at ht; (first | (rcases ht with rfl | rfl | rfl | rfl | rfl | rfl) | (rcases ht with rfl | rfl | rfl | rfl | rfl) | (rcases ht with rfl | rfl | rfl | rfl) | (rcases ht with rfl | rfl | rfl) | (rcases ht with rfl | rfl) | (subst ht)) <;> exact ⟨by kernel_rfl, of_decide_eq_true (by kernel_rfl)⟩) rfl rfl Try.underlying4 (fun _ => rfl) hW ?_
  clear hW hA hA0 hV0
  obtain ⟨cs0, rfl⟩ := Op.okWide_agg (t := 37) (by kernel_rfl) (hval 0 37 v0 rfl rfl)
  have k0 := Op.flat_arg (ls := [3,3]) (by kernel_rfl) h0 (Op.light_of_each (j := 0) hsz rfl rfl)
  obtain ⟨y0_0, l0, e0, f0_0, k0⟩ := k0.cons
  obtain ⟨y0_1, l0, rfl, f0_1, k0⟩ := k0.cons
  obtain rfl := k0.nil_
  obtain rfl := Op.arr_of e0
  obtain ⟨o, rfl, wf_o⟩ := f0_0.int Try.underlying3
  obtain ⟨r, rfl, wf_r⟩ := f0_1.int Try.underlying3
  obtain ⟨t, rfl, rfl, rfl, wf_t⟩ := open_int Try.underlying3 (hval 1 3 v1 rfl rfl) h1
  have bd_t := Op.wf_i64 wf_t
  exact walk o r t W

theorem proved : Rows.ClockLocalsSaid :=
  OpenClaim.holds_of_wide 7 Try.f7 rfl rfl rfl rfl rfl rfl rfl ⟨rfl, rfl, rfl, rfl, rfl⟩ rfl rfl rfl rfl rfl (by kernel_rfl) Try.func7 (by kernel_rfl)
    (of_decide_eq_true (by kernel_rfl)) (by unfold Func.isWrapper; first | (rw [if_pos (by decide +kernel)]; kernel_rfl) | (rw [if_neg (by decide +kernel)]; exact ⟨rfl, rfl⟩))
    (fun os started H enc _ => lifted os started H enc)

end Go.Proofs.Ytebgdmflpheeoaa.lawClockLocals
