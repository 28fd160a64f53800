/- The law FixWholes returns true: fix's Of and Floor and the reference's answer alike. Conditions: none. -/
import Derived.Test.YtebgdmflpheeoaaFixWhole
import Derived.Test.YtebgdmflpheeoaaFrame
import Derived.Test.YtebgdmflpheeoaaOpen
namespace Go.Proofs.Ytebgdmflpheeoaa.lawFixWholes
open Go.ChangeShapes Go.WideShapes Go.ChangeAt Go.RowKit Go.Proofs.Ytebgdmflpheeoaa.Mem Go.Proofs.Ytebgdmflpheeoaa.BigW

theorem closed : stop (1 * 4294967296) = (4294967296, false) := by decide

theorem walk (n : Int) (w : World) (hn : -9223372036854775808 ≤ n ∧ n ≤ 9223372036854775807) :
    Calls Try.prog 6 #[.int .i64 n] w fun e w' => e = .returned (.bool true) ∧ Below w.heap.size w w' := by
  have HN := Lib.hid hn
  have HC := Lib.hid closed
  clear hn
  go_enter Try.func6, Try.ntmps6
  go_wp2_with fail
  refine (fixOf_any n _ HN.out).mono ?_
  rintro e w1 ⟨rfl, rfl⟩
  go_wp2_with fail
  refine (refOf_any n _ HN.out).mono ?_
  rintro e w2 ⟨rfl, hb2⟩
  generalize stop (n * 4294967296) = s
  go_wp2_with fail
  refine (fixOf_any 1 _ (by omega)).mono ?_
  rintro e w3 ⟨rfl, rfl⟩
  rw [HC.out]
  go_wp2_with (first
    | (go_at_call 23; refine (fixFloor_any n _ HN.out).mono ?_; rintro e w4 ⟨rfl, rfl⟩)
    | (go_at_call 24; refine (refFloor_any n _ HN.out).mono ?_; rintro e w5 ⟨rfl, hb5⟩))
  go_ret
  exact ⟨rfl, onward hb2 (Nat.le_refl _) hb5⟩
set_option maxRecDepth 100000 in
theorem lifted (os : Os) (started : os.Started) (H : Type) (enc : TypeId × Value → H) :
    ReturnsInHanded {} Try.checked os 6 .any (Rows.fixWholesSpec.pre6 enc Try.prog Try.f6 Rows.fixWholesRow.domain false) (Rows.fixWholesSpec.post enc Try.prog Try.f6 false true false false) := by
  refine returnsInHanded_of_change_sized (C := Try.checked) Fr.own started (by kernel_rfl) Try.func6
    (ChangeSpec.witness6 (enc := enc) (C := Try.checked) false ⟨#[], #[.int .i64 0], []⟩ 8 (by kernel_rfl) (by kernel_rfl) (by kernel_rfl) (by kernel_rfl)) ?_
  intro W base args ds gs before hval0 hW _ hsz0 _
  have hval : ∀ (j : Nat) t v, Try.f6.params[j]? = some t → args[j]? = some v → Value.okWide Try.prog W .any base t v := hval0
  have hsz : (DataW.weightsEach Try.prog (Try.f6.params.toList ++ Rows.fixWholesSpec.plain.varTypes Try.prog) (ds ++ gs)).all (· ≤ reachBytes) = true := hsz0
  clear hval0 hsz0
  obtain ⟨p, q, hA0, hV0, _⟩ := id hW
  have hA : DataW.TrodAll enc Try.prog W 0 (fun _ => true) true Try.f6.params.toList args.toList ds p := hA0
  rw [Try.params6] at hA hval hsz
  obtain ⟨v0, vs0, d0, ds0, p0, q0, hargs, rfl, rfl, h0, r0⟩ := trodAll_cons hA
  obtain ⟨rfl, rfl, rfl⟩ := trodAll_nil r0
  obtain rfl : args = #[v0] := by cases args; simp_all
  obtain ⟨rfl, rfl⟩ := trodVars_none hV0
  refine Fr.of_walk (f := Try.f6) Fr.laidOut (by rw [Try.params6]; intro t ht; simp at ht; (first | (rcases ht with rfl | rfl | rfl | rfl | rfl | rfl) | (rcases ht with rfl | rfl | rfl | rfl | rfl) | (rcases ht with rfl | rfl | rfl | rfl) | (rcases ht with rfl | rfl | rfl) | (rcases ht with rfl | rfl) | (subst ht)) <;> exact ⟨by kernel_rfl, of_decide_eq_true (by kernel_rfl)⟩) rfl rfl Try.underlying4 (fun _ => rfl) hW ?_
  clear hW hA hA0 hV0
  obtain ⟨n, rfl, rfl, rfl, wf_n⟩ := open_int Try.underlying3 (hval 0 3 v0 rfl rfl) h0
  have bd_n := Op.wf_i64 wf_n
  exact walk n W bd_n

theorem proved : Rows.FixWholesSaid :=
  OpenClaim.holds_of_wide 6 Try.f6 rfl rfl rfl rfl rfl rfl rfl ⟨rfl, rfl, rfl, rfl, rfl⟩ rfl rfl rfl rfl rfl (by kernel_rfl) Try.func6 (by kernel_rfl)
    (of_decide_eq_true (by kernel_rfl)) (by unfold Func.isWrapper; first | (rw [if_pos (by decide +kernel)]; kernel_rfl) | (rw [if_neg (by decide +kernel)]; exact ⟨rfl, rfl⟩))
    (fun os started H enc _ => lifted os started H enc)

end Go.Proofs.Ytebgdmflpheeoaa.lawFixWholes
