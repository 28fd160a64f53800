/- The law AgreeMajorities returns true: agree.Majority and the reference's Majority answer alike for all lists and numbers. Conditions: none. -/
import Derived.Test.YthaijjcagnmilaaFrame
import Derived.Test.YthaijjcagnmilaaMaj
namespace Go.Proofs.Ythaijjcagnmilaa.lawAgreeMajorities
open Go.ChangeShapes Go.WideShapes Go.ChangeAt Go.RowKit Go.Proofs.Ythaijjcagnmilaa.Mem Go.Proofs.Ythaijjcagnmilaa.Mj Go.Proofs.Ythaijjcagnmilaa.MajLaw
set_option linter.unusedVariables false

theorem closed : maj [5] 0 = 5 := by decide

theorem walk (A : Option Addr) (c : Nat) (zs : List Int) (o : Int) (w : World) (hA : A = none → c = 0) (hnc : zs.length ≤ c) (hc : c * 8 ≤ 140737488351232) (hr : Rd w w.heap.size 1 A zs.length (intsV zs)) :
    Calls Try.prog 4 #[.slice A zs.length c, .int .i64 o] w fun e w' => e = .returned (.bool true) ∧ Below w.heap.size w w' := by
  have HC := Lib.hid closed
  have HR := Lib.hid hr
  clear hr
  generalize hm : maj zs o = m
  have HM := Lib.hid hm
  clear hm
  go_enter Try.func4, Try.ntmps4
  go_wp2_with (at_builtin; refine wpList_append_rd _ rfl _ _ _ rfl (base := w.heap.size) elemInts rfl (World.ownsRow_nil _ _ _ _) rfl (fun h => ⟨by have := hA h; omega, hA h⟩) (by exact HR.out) (intsV_one zs) (by unfold maxLen; omega) (by omega) (Nat.le_refl _) ?_)
  intro A' c' w1 hA' hown hg
  have hb1 : Below w.heap.size w w1 := (Below.refl _ _).grown hg (Nat.le_refl _) (by simp [Value.ownBlock])
  have HO := Lib.hid (Rd.of_own hown)
  have HR1 := Lib.hid (HR.out.below hb1)
  have hs1 := hb1.size
  clear hown hg hA'
  go_wp2_with fail
  refine (majority_any A' c' zs o _ _ (by omega) HO.out).mono ?_
  rintro e w2 ⟨rfl, rfl⟩
  rw [HM.out]
  go_wp2_with fail
  refine (majorityref_any A c zs o _ _ (by omega) HR1.out).mono ?_
  rintro e w2 ⟨rfl, rfl⟩
  rw [HM.out]
  have HB := Lib.hid (rd_of_blk (Blk.new (w := w1) (t := 3) (cs := #[.int .i64 5]) rfl))
  have hb2 : Below w.heap.size w (w1.alloc (.cells #[.int .i64 5] 3)) := hb1.alloc hb1.size _
  go_wp2_with fail
  refine (majority_any _ 1 [5] 0 _ _ (by simp) HB.out).mono ?_
  rintro e w2 ⟨rfl, rfl⟩
  rw [HC.out]
  go_wp2_with fail
  go_ret
  exact ⟨rfl, hb2⟩
set_option maxRecDepth 100000 in
theorem lifted (os : Os) (started : os.Started) (H : Type) (enc : TypeId × Value → H) :
    ReturnsInHanded {} Try.checked os 4 .any (Rows.agreeMajoritiesSpec.pre6 enc Try.prog Try.f4 Rows.agreeMajoritiesRow.domain false) (Rows.agreeMajoritiesSpec.post enc Try.prog Try.f4 false true false false) := by
  refine returnsInHanded_of_change_sized (C := Try.checked) Fr.own started (by kernel_rfl) Try.func4
    (ChangeSpec.witness6 (enc := enc) (C := Try.checked) false ⟨#[], #[.slice none 0 0, .int .i64 0], []⟩ 8 (by kernel_rfl) (by kernel_rfl) (by kernel_rfl) (by kernel_rfl)) ?_
  intro W base args ds gs before hval0 hW _ hsz0 _
  have hval : ∀ (j : Nat) t v, Try.f4.params[j]? = some t → args[j]? = some v → Value.okWide Try.prog W .any base t v := hval0
  have hsz : (DataW.weightsEach Try.prog (Try.f4.params.toList ++ Rows.agreeMajoritiesSpec.plain.varTypes Try.prog) (ds ++ gs)).all (· ≤ reachBytes) = true := hsz0
  clear hval0 hsz0
  obtain ⟨p, q, hA0, hV0, _⟩ := id hW
  have hA : DataW.TrodAll enc Try.prog W 0 (fun _ => true) true Try.f4.params.toList args.toList ds p := hA0
  rw [Try.params4] at hA hval hsz
  obtain ⟨v0, vs0, d0, ds0, p0, q0, hargs, rfl, rfl, h0, r0⟩ := trodAll_cons hA
  obtain ⟨v1, vs1, d1, ds1, p1, q1, rfl, rfl, rfl, h1, r1⟩ := trodAll_cons r0
  obtain ⟨rfl, rfl, rfl⟩ := trodAll_nil r1
  obtain rfl : args = #[v0, v1] := by cases args; simp_all
  obtain ⟨rfl, rfl⟩ := trodVars_none hV0
  refine Fr.of_walk (f := Try.f4) Fr.laidOut (by rw [Try.params4]; intro t ht; simp at ht; (first | (rcases ht with rfl | rfl | rfl | rfl | rfl | rfl) | (rcases ht with rfl | rfl | rfl | rfl | rfl) | (rcases ht with rfl | rfl | rfl | rfl) | (rcases ht with rfl | rfl | rfl) | (rcases ht with rfl | rfl) | (subst ht)) <;> exact ⟨by kernel_rfl, of_decide_eq_true (by kernel_rfl)⟩) rfl rfl Try.underlying4 (fun _ => rfl) hW ?_
  clear hW hA hA0 hV0
  obtain ⟨A, c, zs, rfl, h2, h3, h4, h5, h6⟩ := Mj.openInts (hval 0 26 v0 rfl rfl) h0 (Op.light_of_each (j := 0) hsz rfl rfl)
  obtain ⟨o, rfl, rfl, rfl, wf_o⟩ := open_int Try.underlying3 (hval 1 3 v1 rfl rfl) h1
  have bd_o := Op.wf_i64 wf_o
  exact walk A c zs o W h4 h2 h3 h5

theorem proved : Rows.AgreeMajoritiesSaid :=
  OpenClaim.holds_of_wide 4 Try.f4 rfl rfl rfl rfl rfl rfl rfl ⟨rfl, rfl, rfl, rfl, rfl⟩ rfl rfl rfl rfl rfl (by kernel_rfl) Try.func4 (by kernel_rfl)
    (of_decide_eq_true (by kernel_rfl)) (by unfold Func.isWrapper; first | (rw [if_pos (by decide +kernel)]; kernel_rfl) | (rw [if_neg (by decide +kernel)]; exact ⟨rfl, rfl⟩))
    (fun os started H enc _ => lifted os started H enc)

end Go.Proofs.Ythaijjcagnmilaa.lawAgreeMajorities
