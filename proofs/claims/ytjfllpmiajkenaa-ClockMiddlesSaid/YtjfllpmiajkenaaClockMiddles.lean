/- The law ClockMiddles returns true: clock.Middle and the reference's Middle answer alike for every list. Conditions: none. -/
import Derived.Test.YtjfllpmiajkenaaFrame
import Derived.Test.YtjfllpmiajkenaaFacts
import Derived.Test.YtjfllpmiajkenaaMid
import Derived.Test.YtjfllpmiajkenaaInts
namespace Go.Proofs.Ytjfllpmiajkenaa.lawClockMiddles
open Go.ChangeShapes Go.WideShapes Go.ChangeAt Go.RowKit Go.Proofs.Ytjfllpmiajkenaa.Mem Go.Proofs.Ytjfllpmiajkenaa.Ms Go.Proofs.Ytjfllpmiajkenaa.Md
set_option linter.unusedVariables false

theorem mid5 : midZ [5] = (5, 0) := by simp [midZ, midOf, srt]

set_option maxRecDepth 100000 in
set_option maxHeartbeats 1000000 in
theorem walk (A : Option Addr) (c : Nat) (zs : List Int) (w : World) (hA : A = none → c = 0) (hnc : zs.length ≤ c) (hc : c * 8 ≤ 140737488351232) (ho : ∀ z ∈ zs, -9223372036854775808 ≤ z ∧ z ≤ 9223372036854775807) (hr : Rd w w.heap.size 1 A zs.length (intsV zs)) :
    Calls Try.prog 6 #[.slice A zs.length c] w fun e w' => e = .returned (.bool true) ∧ Below w.heap.size w w' := by
  have HR := Lib.hid hr
  have HO := Lib.hid ho
  have hl : zs.length ≤ 140737488355328 := by omega
  clear hr ho
  go_enter Try.func6, Try.ntmps6
  go_wp2_with (at_builtin; refine wpList_append_rd _ rfl _ _ _ rfl (base := w.heap.size) Ms.elemInts rfl (World.ownsRow_nil _ _ _ _) rfl (fun h => ⟨by have := hA h; omega, hA h⟩) (by exact HR.out) (Ms.intsV_one zs) (by unfold maxLen; omega) (by omega) (Nat.le_refl _) ?_)
  intro A' c' w1 hA' hown hg
  have hb1 : Below w.heap.size w w1 := (Below.refl _ _).grown hg (Nat.le_refl _) (by simp [Value.ownBlock])
  have HO1 := Lib.hid (Rd.of_own hown)
  have HR1 := Lib.hid (HR.out.below hb1)
  have HB := Lib.hid hb1
  clear hown hg hA' hb1
  go_wp2_with fail
  refine (middle_any A' c' zs _ _ (Nat.le_refl _) (by omega) HO.out HO1.out).mono ?_
  rintro e w2 ⟨rfl, hb2⟩
  have HR2 := Lib.hid (HR1.out.below (hb2.mono HB.out.size))
  have HB := Lib.hid (onward HB.out (Nat.le_refl _) hb2)
  clear hb2
  obtain ⟨m, hm⟩ : ∃ m, midZ zs = m := ⟨_, rfl⟩
  have HM := Lib.hid hm
  rw [hm]
  clear hm
  go_wp2_with fail
  refine (refmid_any A c zs _ _ HB.out.size (by omega) HO.out HR2.out).mono ?_
  rintro e w3 ⟨rfl, hb3⟩
  have HB := Lib.hid (onward HB.out (Nat.le_refl _) hb3)
  rw [HM.out]
  clear hb3
  have HN := Lib.hid (Ints.rd_of_blk (Blk.new (w := w3) (t := 3) (cs := #[.int .i64 5]) rfl))
  have HB := Lib.hid (HB.out.alloc HB.out.size (.cells #[.int .i64 5] 3))
  go_wp2_with fail
  refine (middle_any _ 1 [5] _ _ (by simp) (by simp) (by simp) HN.out).mono ?_
  rintro e w4 ⟨rfl, hb4⟩
  have HB := Lib.hid (onward HB.out (Nat.le_refl _) hb4)
  clear hb4
  rw [mid5]
  go_wp2_with fail
  go_ret
  exact ⟨rfl, HB.out⟩
set_option maxRecDepth 100000 in
set_option maxHeartbeats 1000000 in
theorem lifted (os : Os) (started : os.Started) (H : Type) (enc : TypeId × Value → H) :
    ReturnsInHanded {} Try.checked os 6 .any (Rows.clockMiddlesSpec.pre6 enc Try.prog Try.f6 Rows.clockMiddlesRow.domain false) (Rows.clockMiddlesSpec.post enc Try.prog Try.f6 false true false false) := by
  refine returnsInHanded_of_change_sized (C := Try.checked) Fr.own started (by kernel_rfl) Try.func6
    (ChangeSpec.witness6 (enc := enc) (C := Try.checked) false ⟨#[], #[.slice none 0 0], []⟩ 8 (by kernel_rfl) (by kernel_rfl) (by kernel_rfl) (by kernel_rfl)) ?_
  intro W base args ds gs before hval0 hW _ hsz0 _
  have hval : ∀ (j : Nat) t v, Try.f6.params[j]? = some t → args[j]? = some v → Value.okWide Try.prog W .any base t v := hval0
  have hsz : (DataW.weightsEach Try.prog (Try.f6.params.toList ++ Rows.clockMiddlesSpec.plain.varTypes Try.prog) (ds ++ gs)).all (· ≤ reachBytes) = true := hsz0
  clear hval0 hsz0
  obtain ⟨p, q, hA0, hV0, _⟩ := id hW
  have hA : DataW.TrodAll enc Try.prog W 0 (fun _ => true) true Try.f6.params.toList args.toList ds p := hA0
  rw [Try.params6] at hA hval hsz
  obtain ⟨v0, vs0, d0, ds0, p0, q0, hargs, rfl, rfl, h0, r0⟩ := trodAll_cons hA
  obtain ⟨rfl, rfl, rfl⟩ := trodAll_nil r0
  obtain rfl : args = #[v0] := by cases args; simp_all
  obtain ⟨rfl, rfl⟩ := trodVars_none hV0
  refine Fr.of_walk (f := Try.f6) Fr.laidOut (by rw [Try.params6]; intro t ht; simp at ht; (first | (rcases ht with rfl | rfl | rfl | rfl | rfl | rfl) | (rcases ht with rfl | rfl | rfl | rfl | rfl) | (rcases ht with rfl | rfl | rfl | rfl) | (rcases ht with rfl | rfl | rfl) | (rcases ht with rfl | rfl) | (subst ht)) <;> exact ⟨by kernel_rfl, of_decide_eq_true (by kernel_rfl)⟩) rfl rfl Try.underlying4 (fun _ => rfl) hW ?_
  clear hW hA hA0 hV0
  obtain ⟨A2, c2, zs, rfl, nc2, cb2, g2, r2, o2⟩ := Ints.openInts (hval 0 39 v0 rfl rfl) h0 (Op.light_of_each (j := 0) hsz rfl rfl)
  exact walk A2 c2 zs W g2 nc2 cb2 (fun z h => Op.wf_i64 (o2 z h)) r2

theorem closedFacts : joinedFacts Try.prog 6 Try.f6 Rows.clockMiddlesSpec Rows.clockMiddlesRow = true := by
  unfold joinedFacts
  simp only [Bool.and_eq_true]
  refine ⟨⟨⟨⟨⟨⟨⟨⟨⟨⟨⟨⟨⟨⟨⟨⟨⟨⟨⟨⟨⟨⟨⟨⟨⟨⟨⟨⟨⟨⟨⟨?_, ?_⟩, ?_⟩, ?_⟩, ?_⟩, ?_⟩, ?_⟩, ?_⟩, ?_⟩, ?_⟩, ?_⟩, ?_⟩, ?_⟩, ?_⟩, ?_⟩, ?_⟩, ?_⟩, ?_⟩, ?_⟩, ?_⟩, ?_⟩, ?_⟩, ?_⟩, ?_⟩, ?_⟩, ?_⟩, ?_⟩, ?_⟩, ?_⟩, ?_⟩, ?_⟩, ?_⟩
  · as_aux_lemma => kernel_rfl
  · exact Fr.laidOut
  · exact Facts.mapsRowed_
  · as_aux_lemma => kernel_rfl
  · as_aux_lemma => kernel_rfl
  · as_aux_lemma => kernel_rfl
  · exact Facts.stops_
  · as_aux_lemma => kernel_rfl
  · exact Facts.knobs_
  · as_aux_lemma => kernel_rfl
  · as_aux_lemma => kernel_rfl
  · as_aux_lemma => kernel_rfl
  · as_aux_lemma => kernel_rfl
  · as_aux_lemma => kernel_rfl
  · as_aux_lemma => kernel_rfl
  · as_aux_lemma => kernel_rfl
  · as_aux_lemma => kernel_rfl
  · as_aux_lemma => kernel_rfl
  · as_aux_lemma => kernel_rfl
  · as_aux_lemma => kernel_rfl
  · as_aux_lemma => kernel_rfl
  · as_aux_lemma => kernel_rfl
  · exact Facts.keys_
  · as_aux_lemma => kernel_rfl
  · exact Facts.heard_
  · exact Facts.enter_
  · exact Facts.lifts_
  · exact Facts.make_
  · as_aux_lemma => kernel_rfl
  · as_aux_lemma => kernel_rfl
  · as_aux_lemma => kernel_rfl
  · as_aux_lemma => kernel_rfl

theorem proved : Rows.ClockMiddlesSaid :=
  OpenClaim.holds_of_wide 6 Try.f6 rfl rfl rfl rfl rfl rfl rfl ⟨rfl, rfl, rfl, rfl, rfl⟩ rfl rfl rfl rfl rfl (by kernel_rfl) Try.func6 closedFacts
    (of_decide_eq_true (by kernel_rfl)) (by unfold Func.isWrapper; first | (rw [if_pos (by decide +kernel)]; kernel_rfl) | (rw [if_neg (by decide +kernel)]; exact ⟨rfl, rfl⟩))
    (fun os started H enc _ => lifted os started H enc)

end Go.Proofs.Ytjfllpmiajkenaa.lawClockMiddles
