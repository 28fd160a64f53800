/- The law WireEncodes returns true: wire.Encode and the reference's Encode answer alike for every message. Conditions: none. -/
import Derived.Test.YtfaielkkecphbaaFrame
import Derived.Test.YtfaielkkecphbaaFacts
import Derived.Test.YtfaielkkecphbaaWire
namespace Go.Proofs.Ytfaielkkecphbaa.lawWireEncodes
open Go.ChangeShapes Go.WideShapes Go.ChangeAt Go.RowKit Go.Proofs.Ytfaielkkecphbaa.Mem Go.Proofs.Ytfaielkkecphbaa.Sm Go.Proofs.Ytfaielkkecphbaa.Ms Go.Proofs.Ytfaielkkecphbaa.Wr
set_option linter.unusedVariables false

theorem enc_yes {w w' : World} {k f n : Int} {zs : List Int} {e : Ending} (h : EncAt w w' k f n zs e) (hk : wrong k f n zs.length = 0) : ∃ A c, e = .returned (.tuple #[.slice A (enc k f n zs).length c, .int .i64 0]) ∧ w'.ownsRow w.heap.size 5 1 (.slice A (enc k f n zs).length c) (enc k f n zs).length (bytesV (enc k f n zs)) ∧ Below w.heap.size w w' := by
  rcases h with ⟨h, _⟩ | ⟨_, h⟩
  · exact absurd hk h
  · exact h
theorem enc_no {w w' : World} {k f n : Int} {zs : List Int} {e : Ending} (h : EncAt w w' k f n zs e) (hk : wrong k f n zs.length ≠ 0) : e = .returned (.tuple #[.slice none 0 0, .int .i64 (wrong k f n zs.length)]) ∧ Below w.heap.size w w' := by
  rcases h with ⟨_, h⟩ | ⟨h, _⟩
  · exact h
  · exact absurd h hk
theorem small_wrong : wrong 1 0 0 ([] : List Int).length = 0 := by decide
theorem small_len : (enc 1 0 0 []).length = 12 := by
  rw [enc, sealed, List.length_append, tailTo_length, body_length _ _ _ _ _ (Nat.le_refl _)]; rfl

set_option maxRecDepth 100000 in
set_option maxHeartbeats 1000000 in
theorem walk (k f n : Int) (A : Option Addr) (c : Nat) (zs : List Int) (w : World) (hA : A = none → c = 0) (hnc : zs.length ≤ c) (hc : c * 8 ≤ 140737488351232) (hr : Rd w w.heap.size 1 A zs.length (intsV zs)) :
    Calls Try.prog 7 #[msgV k f n A zs.length c] w fun e w' => e = .returned (.bool true) ∧ Below w.heap.size w w' := by
  have Hr := Lib.hid hr
  have HK : Hid (Blk (w.alloc (.cells (msgC k f n A zs.length c) 37)) w.heap.size 37 (msgC k f n A zs.length c)) := Lib.hid (Blk.new rfl)
  have hb0 : Below w.heap.size w (w.alloc (.cells (msgC k f n A zs.length c) 37)) := (Below.refl _ _).alloc (Nat.le_refl _) _
  have HB0 := Lib.hid hb0
  clear hr hb0
  have cM := fun w' (hb : Below w.heap.size w w') => message_any k f n A c zs w.heap.size w' hb.size hA hnc hc (Hr.out.below hb)
  have cE := fun w' (hb : Below w.heap.size w w') => refencode_any k f n A c zs w.heap.size w' hb.size hA hnc (by omega) (Hr.out.below hb)
  unfold msgV at *
  unfold msgC at HK HB0
  go_enter Try.func7, Try.ntmps7
  go_wp2_with fail
  refine (cM _ HB0.out).mono ?_
  rintro e w1 ⟨A1, c1, rfl, hown, hb1⟩
  have HB1 := Lib.hid (onward HB0.out (Nat.le_refl _) hb1)
  have HK1 := Lib.hid (HK.out.below hb1 HK.out.lt)
  have HO1 := Lib.hid hown
  have hz : zs.length * 8 ≤ 140737488351232 := by omega
  clear hown hb1 HK
  have x0 := HK1.out.cell 0
  have x1 := HK1.out.cell 1
  have x2 := HK1.out.cell 2
  have x3 := HK1.out.cell 3
  simp only [List.getElem?_toArray, List.getElem?_cons_zero, List.getElem?_cons_succ] at x0 x1 x2 x3
  by_cases hw : wrong k f n zs.length = 0
  · have HW := Lib.hid hw
    clear hw
    go_wp2_with fail
    refine (encode_any k f n A1 c1 zs _ _ (Nat.le_refl _) (fun h => (own_nil HO1.out h).2) (own_cap HO1.out) hz (Rd.of_own HO1.out)).mono ?_
    intro e w2 he
    obtain ⟨A2, c2, rfl, hown2, hb2⟩ := enc_yes he HW.out
    have HB2 := Lib.hid (onward HB1.out (Nat.le_refl _) hb2)
    have HO2 := Lib.hid hown2
    have HK2 := Lib.hid (HK1.out.below hb2 HK1.out.lt)
    clear he hown2 hb2 x0 x1 x2 x3
    have x0 := HK2.out.cell 0
    have x1 := HK2.out.cell 1
    have x2 := HK2.out.cell 2
    have x3 := HK2.out.cell 3
    simp only [List.getElem?_toArray, List.getElem?_cons_zero, List.getElem?_cons_succ] at x0 x1 x2 x3
    go_wp2_with fail
    refine (cE _ HB2.out).mono ?_
    intro e w3 he
    obtain ⟨A3, c3, rfl, hown3, hb3⟩ := enc_yes he HW.out
    have HB3 := Lib.hid (onward HB2.out (Nat.le_refl _) hb3)
    have HO3 := Lib.hid hown3
    have HO4 := Lib.hid (ownsRow_below HO2.out hb3)
    clear he hown3 hb3 x0 x1 x2 x3
    go_wp2_with fail
    refine (encode_any 1 0 0 none 0 [] w3.heap.size w3 (Nat.le_refl _) (fun _ => rfl) (Nat.le_refl _) (by simp) (Rd.nil _ _ _ _)).mono ?_
    intro e w4 he
    obtain ⟨A4, c4, rfl, _, hb4⟩ := enc_yes he small_wrong
    clear he
    have HB4 := Lib.hid (onward HB3.out (Nat.le_refl _) hb4)
    rw [small_len]
    have k2 := conv_own rfl (ownsRow_below HO4.out hb4)
    have k3 := conv_own rfl (ownsRow_below HO3.out hb4)
    go_wp2_with fail
    go_ret
    exact ⟨rfl, HB4.out⟩
  · have HW := Lib.hid hw
    clear hw
    go_wp2_with fail
    refine (encode_any k f n A1 c1 zs _ _ (Nat.le_refl _) (fun h => (own_nil HO1.out h).2) (own_cap HO1.out) hz (Rd.of_own HO1.out)).mono ?_
    intro e w2 he
    obtain ⟨rfl, hb2⟩ := enc_no he HW.out
    have HB2 := Lib.hid (onward HB1.out (Nat.le_refl _) hb2)
    have HK2 := Lib.hid (HK1.out.below hb2 HK1.out.lt)
    clear he hb2 x0 x1 x2 x3
    have x0 := HK2.out.cell 0
    have x1 := HK2.out.cell 1
    have x2 := HK2.out.cell 2
    have x3 := HK2.out.cell 3
    simp only [List.getElem?_toArray, List.getElem?_cons_zero, List.getElem?_cons_succ] at x0 x1 x2 x3
    go_wp2_with fail
    refine (cE _ HB2.out).mono ?_
    intro e w3 he
    obtain ⟨rfl, hb3⟩ := enc_no he HW.out
    have HB3 := Lib.hid (onward HB2.out (Nat.le_refl _) hb3)
    clear he hb3 x0 x1 x2 x3
    go_wp2_with fail
    refine (encode_any 1 0 0 none 0 [] w3.heap.size w3 (Nat.le_refl _) (fun _ => rfl) (Nat.le_refl _) (by simp) (Rd.nil _ _ _ _)).mono ?_
    intro e w4 he
    obtain ⟨A4, c4, rfl, _, hb4⟩ := enc_yes he small_wrong
    clear he
    have HB4 := Lib.hid (onward HB3.out (Nat.le_refl _) hb4)
    rw [small_len]
    have kn : ∀ w, (convert 22 9 (.slice none 0 0)).run Try.prog w = .ok (.string ByteArray.empty) w := fun w => run_convert_bytes_nil w _ _ Try.underlying22 Try.underlying5 _ _ _ Try.underlying9
    go_wp2_with fail
    go_ret
    exact ⟨rfl, HB4.out⟩
set_option maxRecDepth 100000 in
theorem lifted (os : Os) (started : os.Started) (H : Type) (enc : TypeId × Value → H) :
    ReturnsInHanded {} Try.checked os 7 .any (Rows.wireEncodesSpec.pre6 enc Try.prog Try.f7 Rows.wireEncodesRow.domain false) (Rows.wireEncodesSpec.post enc Try.prog Try.f7 false true false false) := by
  refine returnsInHanded_of_change_sized (C := Try.checked) Fr.own started (by kernel_rfl) Try.func7
    (ChangeSpec.witness6 (enc := enc) (C := Try.checked) false ⟨#[], #[.agg #[.int .i64 0, .int .i64 0, .int .i64 0, .slice none 0 0]], []⟩ 8 (by kernel_rfl) (by kernel_rfl) (by kernel_rfl) (by kernel_rfl)) ?_
  intro W base args ds gs before hval0 hW _ hsz0 _
  have hval : ∀ (j : Nat) t v, Try.f7.params[j]? = some t → args[j]? = some v → Value.okWide Try.prog W .any base t v := hval0
  have hsz : (DataW.weightsEach Try.prog (Try.f7.params.toList ++ Rows.wireEncodesSpec.plain.varTypes Try.prog) (ds ++ gs)).all (· ≤ reachBytes) = true := hsz0
  clear hval0 hsz0
  obtain ⟨p, q, hA0, hV0, _⟩ := id hW
  have hA : DataW.TrodAll enc Try.prog W 0 (fun _ => true) true Try.f7.params.toList args.toList ds p := hA0
  rw [Try.params7] at hA hval hsz
  obtain ⟨v0, vs0, d0, ds0, p0, q0, hargs, rfl, rfl, h0, r0⟩ := trodAll_cons hA
  obtain ⟨rfl, rfl, rfl⟩ := trodAll_nil r0
  obtain rfl : args = #[v0] := by cases args; simp_all
  obtain ⟨rfl, rfl⟩ := trodVars_none hV0
  refine Fr.of_walk (f := Try.f7) Fr.laidOut (by rw [Try.params7]; intro t ht; simp at ht; (first | (rcases ht with rfl | rfl | rfl | rfl | rfl | rfl) | (rcases ht with rfl | rfl | rfl | rfl | rfl) | (rcases ht with rfl | rfl | rfl | rfl) | (rcases ht with rfl | rfl | rfl) | (rcases ht with rfl | rfl) | (subst ht)) <;> exact ⟨by kernel_rfl, of_decide_eq_true (by kernel_rfl)⟩) rfl rfl Try.underlying4 (fun _ => rfl) hW ?_
  clear hW hA hA0 hV0
  obtain ⟨k, f, n, A, c, zs, rfl, h2, h3, h4, h5, _, _⟩ := Ms.openMsg (hval 0 37 v0 rfl rfl) h0 (Op.light_of_each (j := 0) hsz rfl rfl)
  exact walk k f n A c zs W h4 h2 h3 h5

theorem closedFacts : joinedFacts Try.prog 7 Try.f7 Rows.wireEncodesSpec Rows.wireEncodesRow = true := by
  unfold joinedFacts
  simp only [Bool.and_eq_true]
  refine ⟨⟨⟨⟨⟨⟨⟨⟨⟨⟨⟨⟨⟨⟨⟨⟨⟨⟨⟨⟨⟨⟨⟨⟨⟨⟨⟨⟨⟨⟨⟨?_, ?_⟩, ?_⟩, ?_⟩, ?_⟩, ?_⟩, ?_⟩, ?_⟩, ?_⟩, ?_⟩, ?_⟩, ?_⟩, ?_⟩, ?_⟩, ?_⟩, ?_⟩, ?_⟩, ?_⟩, ?_⟩, ?_⟩, ?_⟩, ?_⟩, ?_⟩, ?_⟩, ?_⟩, ?_⟩, ?_⟩, ?_⟩, ?_⟩, ?_⟩, ?_⟩, ?_⟩
  · as_aux_lemma => kernel_rfl
  · exact Fr.laidOut
  · exact Facts.mapsRowed_
  · as_aux_lemma => kernel_rfl
  · as_aux_lemma => kernel_rfl
  · as_aux_lemma => kernel_rfl
  · exact Facts.stops_
  · as_aux_lemma => kernel_rfl
  · exact Facts.knobs_
  · as_aux_lemma => kernel_rfl
  · as_aux_lemma => kernel_rfl
  · as_aux_lemma => kernel_rfl
  · as_aux_lemma => kernel_rfl
  · as_aux_lemma => kernel_rfl
  · as_aux_lemma => kernel_rfl
  · as_aux_lemma => kernel_rfl
  · as_aux_lemma => kernel_rfl
  · as_aux_lemma => kernel_rfl
  · as_aux_lemma => kernel_rfl
  · as_aux_lemma => kernel_rfl
  · as_aux_lemma => kernel_rfl
  · as_aux_lemma => kernel_rfl
  · exact Facts.keys_
  · as_aux_lemma => kernel_rfl
  · exact Facts.heard_
  · exact Facts.enter_
  · exact Facts.lifts_
  · exact Facts.make_
  · as_aux_lemma => kernel_rfl
  · as_aux_lemma => kernel_rfl
  · as_aux_lemma => kernel_rfl
  · as_aux_lemma => kernel_rfl

theorem proved : Rows.WireEncodesSaid :=
  OpenClaim.holds_of_wide 7 Try.f7 rfl rfl rfl rfl rfl rfl rfl ⟨rfl, rfl, rfl, rfl, rfl⟩ rfl rfl rfl rfl rfl (by kernel_rfl) Try.func7 closedFacts
    (of_decide_eq_true (by kernel_rfl)) (by unfold Func.isWrapper; first | (rw [if_pos (by decide +kernel)]; kernel_rfl) | (rw [if_neg (by decide +kernel)]; exact ⟨rfl, rfl⟩))
    (fun os started H enc _ => lifted os started H enc)

end Go.Proofs.Ytfaielkkecphbaa.lawWireEncodes
