/- The law AgreeDecides returns true: agree.Decide and the reference's Majority of the three answer alike for all three numbers. Conditions: none. -/
import Derived.Test.YthaijjcagnmilaaFrame
import Derived.Test.YthaijjcagnmilaaMaj
namespace Go.Proofs.Ythaijjcagnmilaa.lawAgreeDecides
open Go.ChangeShapes Go.WideShapes Go.ChangeAt Go.RowKit Go.Proofs.Ythaijjcagnmilaa.Mem Go.Proofs.Ythaijjcagnmilaa.Mj Go.Proofs.Ythaijjcagnmilaa.MajLaw
set_option linter.unusedVariables false

theorem closed : maj [0, 5, 5] 0 = 5 := by decide

theorem walk (a b c : Int) (w : World) :
    Calls Try.prog 5 #[.int .i64 a, .int .i64 b, .int .i64 c] w fun e w' => e = .returned (.bool true) ∧ Below w.heap.size w w' := by
  have HC := Lib.hid closed
  go_enter Try.func5, Try.ntmps5
  go_wp2_with fail
  refine (decide_any a b c _).mono ?_
  rintro e w1 ⟨rfl, hb1⟩
  have HB1 := Lib.hid (rd_of_blk (Blk.new (w := w1) (t := 3) (cs := #[.int .i64 a, .int .i64 b, .int .i64 c]) rfl))
  have hb2 : Below w.heap.size w (w1.alloc (.cells #[.int .i64 a, .int .i64 b, .int .i64 c] 3)) := hb1.alloc hb1.size _
  generalize hm : maj [a, b, c] 0 = m
  have HM := Lib.hid hm
  clear hm
  go_wp2_with fail
  refine (majorityref_any _ 3 [a, b, c] 0 _ _ (by simp) HB1.out).mono ?_
  rintro e w2 ⟨rfl, rfl⟩
  rw [HM.out]
  have hs2 := hb2.size
  go_wp2_with fail
  refine (decide_any 0 5 5 _).mono ?_
  rintro e w3 ⟨rfl, hb3⟩
  rw [HC.out]
  have hb4 := onward hb2 (Nat.le_refl _) hb3
  go_wp2_with fail
  go_ret
  exact ⟨rfl, hb4⟩
set_option maxRecDepth 100000 in
theorem lifted (os : Os) (started : os.Started) (H : Type) (enc : TypeId × Value → H) :
    ReturnsInHanded {} Try.checked os 5 .any (Rows.agreeDecidesSpec.pre6 enc Try.prog Try.f5 Rows.agreeDecidesRow.domain false) (Rows.agreeDecidesSpec.post enc Try.prog Try.f5 false true false false) := by
  refine returnsInHanded_of_change_sized (C := Try.checked) Fr.own started (by kernel_rfl) Try.func5
    (ChangeSpec.witness6 (enc := enc) (C := Try.checked) false ⟨#[], #[.int .i64 0, .int .i64 0, .int .i64 0], []⟩ 8 (by kernel_rfl) (by kernel_rfl) (by kernel_rfl) (by kernel_rfl)) ?_
  intro W base args ds gs before hval0 hW _ hsz0 _
  have hval : ∀ (j : Nat) t v, Try.f5.params[j]? = some t → args[j]? = some v → Value.okWide Try.prog W .any base t v := hval0
  have hsz : (DataW.weightsEach Try.prog (Try.f5.params.toList ++ Rows.agreeDecidesSpec.plain.varTypes Try.prog) (ds ++ gs)).all (· ≤ reachBytes) = true := hsz0
  clear hval0 hsz0
  obtain ⟨p, q, hA0, hV0, _⟩ := id hW
  have hA : DataW.TrodAll enc Try.prog W 0 (fun _ => true) true Try.f5.params.toList args.toList ds p := hA0
  rw [Try.params5] at hA hval hsz
  obtain ⟨v0, vs0, d0, ds0, p0, q0, hargs, rfl, rfl, h0, r0⟩ := trodAll_cons hA
  obtain ⟨v1, vs1, d1, ds1, p1, q1, rfl, rfl, rfl, h1, r1⟩ := trodAll_cons r0
  obtain ⟨v2, vs2, d2, ds2, p2, q2, rfl, rfl, rfl, h2, r2⟩ := trodAll_cons r1
  obtain ⟨rfl, rfl, rfl⟩ := trodAll_nil r2
  obtain rfl : args = #[v0, v1, v2] := by cases args; simp_all
  obtain ⟨rfl, rfl⟩ := trodVars_none hV0
  refine Fr.of_walk (f := Try.f5) Fr.laidOut (by rw [Try.params5]; intro t ht; simp at ht; (first | (rcases ht with rfl | rfl | rfl | rfl | rfl | rfl) | (rcases ht with rfl | rfl | rfl | rfl | rfl) | (rcases ht with rfl | rfl | rfl | rfl) | (rcases ht with rfl | rfl | rfl) | (rcases ht with rfl | rfl) | (subst ht)) <;> exact ⟨by kernel_rfl, of_decide_eq_true (by kernel_rfl)⟩) rfl rfl Try.underlying4 (fun _ => rfl) hW ?_
  clear hW hA hA0 hV0
  obtain ⟨a, rfl, rfl, rfl, wf_a⟩ := open_int Try.underlying3 (hval 0 3 v0 rfl rfl) h0
  have bd_a := Op.wf_i64 wf_a
  obtain ⟨b, rfl, rfl, rfl, wf_b⟩ := open_int Try.underlying3 (hval 1 3 v1 rfl rfl) h1
  have bd_b := Op.wf_i64 wf_b
  obtain ⟨c, rfl, rfl, rfl, wf_c⟩ := open_int Try.underlying3 (hval 2 3 v2 rfl rfl) h2
  have bd_c := Op.wf_i64 wf_c
  exact walk a b c W

theorem proved : Rows.AgreeDecidesSaid :=
  OpenClaim.holds_of_wide 5 Try.f5 rfl rfl rfl rfl rfl rfl rfl ⟨rfl, rfl, rfl, rfl, rfl⟩ rfl rfl rfl rfl rfl (by kernel_rfl) Try.func5 (by kernel_rfl)
    (of_decide_eq_true (by kernel_rfl)) (by unfold Func.isWrapper; first | (rw [if_pos (by decide +kernel)]; kernel_rfl) | (rw [if_neg (by decide +kernel)]; exact ⟨rfl, rfl⟩))
    (fun os started H enc _ => lifted os started H enc)

end Go.Proofs.Ythaijjcagnmilaa.lawAgreeDecides
