/- The law SumMores returns true: sum.More and the reference's More answer alike for all numbers and bytes. Conditions: none. -/
import Derived.Test.YtebgdmflpheeoaaSumRef
import Derived.Deep.RegionHeld3
namespace Go.Proofs.Ytebgdmflpheeoaa.lawSumMores
open Go.ChangeShapes Go.WideShapes Go.ChangeAt Go.RowKit Go.Proofs.Ytebgdmflpheeoaa.Mem Go.Proofs.Ytebgdmflpheeoaa.Sm Go.Proofs.Ytebgdmflpheeoaa.SumLaw
set_option linter.unusedVariables false

theorem closed : more 1 [] = 1 := by decide

theorem walk (s : Int) (A : Option Addr) (c : Nat) (bs : List Nat) (w : World) (hs : -9223372036854775808 ≤ s ∧ s ≤ 9223372036854775807) (hA : A = none → c = 0) (hnc : bs.length ≤ c) (hc : bs.length ≤ 140737488355328) (hbs : ∀ x ∈ bs, x < 256) (hr : Rd w w.heap.size 1 A bs.length (bytesV bs)) :
    Calls Try.prog 14 #[.int .i64 s, .slice A bs.length c] w fun e w' => e = .returned (.bool true) ∧ Below w.heap.size w w' := by
  have hb0 : Below w.heap.size w w := Below.refl _ _
  have hB0 : w.heap.size ≤ w.heap.size := Nat.le_refl _
  have Hr := Lib.hid hr
  have Hbs := Lib.hid hbs
  clear hr hbs
  go_enter Try.func14, Try.ntmps14
  go_wp2_with (first
    | (go_at_call 48; refine (bytes_any A c bs w.heap.size _ hb0.size hA hnc hc (Hr.out.below hb0)).mono ?_; rintro e w1 ⟨A', c', rfl, hown, hbn⟩; have hb0 := onward hb0 hB0 hbn; have Hown := Lib.hid hown; clear hown)
    | (go_at_call_of 47 (Value.int .i64 1); go_loud (refine (more_any 1 none 0 [] 0 _ (Nat.zero_le _) (by omega) (by simp) (by simp) (Rd.nil _ _ _ _)).mono ?_); rintro e w3 ⟨rfl, hbn⟩; have hb0 := onward hb0 hB0 hbn)
    | (go_at_call 47; refine (more_any s _ _ bs _ _ (Nat.le_refl _) hs (by omega) Hbs.out (Rd.of_own Hown.out)).mono ?_; rintro e w2 ⟨rfl, hbn⟩; have hb0 := onward hb0 hB0 hbn)
    | (go_at_call 49; refine (refmore_any s A c bs w.heap.size _ hb0.size hs (by omega) Hbs.out (Hr.out.below hb0)).mono ?_; rintro e w3 ⟨rfl, hbn⟩; have hb0 := onward hb0 hB0 hbn))
  rw [closed]
  go_wp2
  go_ret
  exact ⟨rfl, hb0⟩
set_option maxRecDepth 100000 in
theorem lifted (os : Os) (started : os.Started) (H : Type) (enc : TypeId × Value → H) :
    ReturnsInHanded {} Try.checked os 14 .any (Rows.sumMoresSpec.pre6 enc Try.prog Try.f14 Rows.sumMoresRow.domain false) (Rows.sumMoresSpec.post enc Try.prog Try.f14 false true false false) := by
  refine returnsInHanded_of_change_sized (C := Try.checked) Fr.own started (by kernel_rfl) Try.func14
    (ChangeSpec.witness6 (enc := enc) (C := Try.checked) false ⟨#[], #[.int .i64 0, .slice none 0 0], []⟩ 8 (by kernel_rfl) (by kernel_rfl) (by kernel_rfl) (by kernel_rfl)) ?_
  intro W base args ds gs before hval0 hW _ hsz0 _
  have hval : ∀ (j : Nat) t v, Try.f14.params[j]? = some t → args[j]? = some v → Value.okWide Try.prog W .any base t v := hval0
  have hsz : (DataW.weightsEach Try.prog (Try.f14.params.toList ++ Rows.sumMoresSpec.plain.varTypes Try.prog) (ds ++ gs)).all (· ≤ reachBytes) = true := hsz0
  clear hval0 hsz0
  obtain ⟨p, q, hA0, hV0, _⟩ := id hW
  have hA : DataW.TrodAll enc Try.prog W 0 (fun _ => true) true Try.f14.params.toList args.toList ds p := hA0
  rw [Try.params14] at hA hval hsz
  obtain ⟨v0, vs0, d0, ds0, p0, q0, hargs, rfl, rfl, h0, r0⟩ := trodAll_cons hA
  obtain ⟨v1, vs1, d1, ds1, p1, q1, rfl, rfl, rfl, h1, r1⟩ := trodAll_cons r0
  obtain ⟨rfl, rfl, rfl⟩ := trodAll_nil r1
  obtain rfl : args = #[v0, v1] := by cases args; simp_all
  obtain ⟨rfl, rfl⟩ := trodVars_none hV0
  refine Fr.of_walk (f := Try.f14) Fr.laidOut (by rw [Try.params14]; intro t ht; simp at ht; (first | (rcases ht with rfl | rfl | rfl | rfl | rfl | rfl) | (rcases ht with rfl | rfl | rfl | rfl | rfl) | (rcases ht with rfl | rfl | rfl | rfl) | (rcases ht with rfl | rfl | rfl) | (rcases ht with rfl | rfl) | (subst ht)) <;> exact ⟨by kernel_rfl, of_decide_eq_true (by kernel_rfl)⟩) rfl rfl Try.underlying4 (fun _ => rfl) hW ?_
  clear hW hA hA0 hV0
  obtain ⟨s, rfl, rfl, rfl, wf_s⟩ := open_int Try.underlying3 (hval 0 3 v0 rfl rfl) h0
  have bd_s := Op.wf_i64 wf_s
  obtain ⟨A, c, bs, rfl, h2, h3, h4, h5, h6⟩ := Sm.openBytes (hval 1 78 v1 rfl rfl) h1 (Op.light_of_each (j := 1) hsz rfl rfl)
  exact walk s A c bs W bd_s h4 h2 (by omega) h6 h5

theorem proved : Rows.SumMoresSaid :=
  OpenClaim.holds_of_wide 14 Try.f14 rfl rfl rfl rfl rfl rfl rfl ⟨rfl, rfl, rfl, rfl, rfl⟩ rfl rfl rfl rfl rfl (by kernel_rfl) Try.func14 (by kernel_rfl)
    (of_decide_eq_true (by kernel_rfl)) (by unfold Func.isWrapper; first | (rw [if_pos (by decide +kernel)]; kernel_rfl) | (rw [if_neg (by decide +kernel)]; exact ⟨rfl, rfl⟩))
    (fun os started H enc _ => lifted os started H enc)

end Go.Proofs.Ytebgdmflpheeoaa.lawSumMores
