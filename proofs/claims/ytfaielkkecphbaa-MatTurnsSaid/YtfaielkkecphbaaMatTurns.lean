/- The law MatTurns returns true: mat.Turn and the reference's Turn answer alike for every matrix. Conditions: none. -/
import Derived.Test.YtfaielkkecphbaaFrame
import Derived.Test.YtfaielkkecphbaaFacts
import Derived.Test.YtfaielkkecphbaaTurn
namespace Go.Proofs.Ytfaielkkecphbaa.lawMatTurns
open Go.ChangeShapes Go.WideShapes Go.ChangeAt Go.RowKit Go.Proofs.Ytfaielkkecphbaa.Mem Go.Proofs.Ytfaielkkecphbaa.Mats
set_option linter.unusedVariables false

theorem ones (zs : List Int) : ∀ u ∈ zs.map (Value.int .i64), u.oneCell' = true := fun u hu => by
  obtain ⟨z, _, rfl⟩ := List.mem_map.1 hu
  rfl
theorem list_form (m : Nat) (f : Nat → Int) : (List.range m).map (fun j => Value.int .i64 (f j)) = Ms.intsV ((List.range m).map f) := by simp [Ms.intsV]
theorem good_nat {N : Int} {n : Nat} (h : good N n = true) : ∃ M : Nat, N = (M : Int) ∧ 1 ≤ M ∧ M ≤ 6 ∧ n = M * M := by
  simp only [good, Bool.and_eq_true, decide_eq_true_eq] at h
  obtain ⟨⟨h1, h2⟩, h3⟩ := h
  obtain ⟨M, rfl⟩ := Int.eq_ofNat_of_zero_le (show 0 ≤ N by omega)
  refine ⟨M, rfl, by omega, by omega, ?_⟩
  rw [← Int.natCast_mul] at h3
  omega

theorem sameMat_any (N : Int) (A A' : Option Addr) (c c' : Nat) (zs : List Int) (B : Nat) (w : World) (hB : B ≤ w.heap.size) (hl : zs.length ≤ 140737488355328) (hr : Rd w B 1 A zs.length (Ms.intsV zs)) (hr' : Rd w B 1 A' zs.length (Ms.intsV zs)) :
    Calls Try.prog 77 #[matV N A zs.length c, matV N A' zs.length c'] w fun e w' => e = .returned (.bool true) ∧ Below w.heap.size w w' := by
  have HR := Lib.hid ((hr.alloc hB (.cells #[.int .i64 N, .slice A zs.length c] 105)).alloc (by simp; omega) (.cells #[.int .i64 N, .slice A' zs.length c'] 105))
  have HR' := Lib.hid ((hr'.alloc hB (.cells #[.int .i64 N, .slice A zs.length c] 105)).alloc (by simp; omega) (.cells #[.int .i64 N, .slice A' zs.length c'] 105))
  have HB := Lib.hid ((((Below.refl w.heap.size w).alloc (Nat.le_refl _) (.cells #[.int .i64 N, .slice A zs.length c] 105)).alloc (by simp) (.cells #[.int .i64 N, .slice A' zs.length c'] 105)))
  clear hr hr'
  unfold matV
  go_enter Try.func77, Try.ntmps77
  go_wp2_with (go_at_call 93; refine (Ms.sameInts_any A A' c c' zs B _ hl HR.out HR'.out).mono ?_; rintro e w1 ⟨rfl, hb1⟩)
  go_ret
  exact ⟨rfl, onward HB.out (Nat.le_refl _) hb1⟩

def TurnRes (w w' : World) (N : Int) (zs : List Int) (er : Int) (e : Ending) : Prop :=
  ∃ A c, e = .returned (.tuple #[matV N A zs.length c, .int .i64 er]) ∧ Rd w' w'.heap.size 1 A zs.length (Ms.intsV zs) ∧ Below w.heap.size w w'
theorem res_of_no {w w' : World} {e : Ending} (h : NoTurn w w' e) : TurnRes w w' 0 [] 8 e := by
  obtain ⟨rfl, hb⟩ := h
  exact ⟨none, 0, rfl, Rd.nil _ _ _ _, hb⟩
theorem res_of_turn {w w' : World} {N n : Nat} {f : Nat → Int} {e : Ending} (h : TurnAt w w' N f n e) : TurnRes w w' (N : Int) ((List.range n).map f) 0 e := by
  obtain ⟨A, c, rfl, hown, hb⟩ := h
  have hl : ((List.range n).map f).length = n := by simp
  refine ⟨A, c, by rw [hl], ?_, hb⟩
  rw [hl, ← list_form]
  exact Rd.of_own hown

theorem turn_all (N : Int) (zs : List Int) : ∃ (N' : Int) (zs' : List Int) (er : Int), zs'.length ≤ 36 ∧
    (∀ (A : Option Addr) (c B : Nat) (w : World), B ≤ w.heap.size → Rd w B 1 A zs.length (Ms.intsV zs) → Calls Try.prog 73 #[matV N A zs.length c] w fun e w' => TurnRes w w' N' zs' er e) ∧
    (∀ (A : Option Addr) (c B : Nat) (w : World), B ≤ w.heap.size → Rd w B 1 A zs.length (Ms.intsV zs) → Calls Try.prog 75 #[matV N A zs.length c] w fun e w' => TurnRes w w' N' zs' er e) := by
  cases hg : good N zs.length
  · exact ⟨0, [], 8, by simp, fun A c B w _ _ => (turn_no N A zs.length c w hg).mono fun _ _ h => res_of_no h, fun A c B w _ _ => (refturn_no N A zs.length c w hg).mono fun _ _ h => res_of_no h⟩
  · obtain ⟨M, rfl, h1, h2, h3⟩ := good_nat hg
    have h4 : M * M ≤ 36 := by have := Nat.mul_le_mul h2 h2; omega
    exact ⟨M, (List.range (M * M)).map (turnF zs M), 0, by simpa using h4, fun A c B w hB hr => (turn_yes M A c zs B w hB h1 h2 h3 hr).mono fun _ _ h => res_of_turn h, fun A c B w hB hr => (refturn_yes M A c zs B w hB h1 h2 h3 hr).mono fun _ _ h => res_of_turn h⟩

set_option maxRecDepth 100000 in
set_option maxHeartbeats 2000000 in
theorem walk (N : Int) (A : Option Addr) (c : Nat) (zs : List Int) (w : World) (hA : A = none → c = 0) (hnc : zs.length ≤ c) (hc : c * 8 ≤ 140737488351232) (hr : Rd w w.heap.size 1 A zs.length (Ms.intsV zs)) :
    Calls Try.prog 20 #[matV N A zs.length c] w fun e w' => e = .returned (.bool true) ∧ Below w.heap.size w w' := by
  have HR := Lib.hid hr
  have HJ : Hid (Blk (w.alloc (.cells #[.int .i64 N, .slice A zs.length c] 105)) w.heap.size 105 #[.int .i64 N, .slice A zs.length c]) := Lib.hid (Blk.new rfl)
  have HB0 := Lib.hid ((Below.refl w.heap.size w).alloc (Nat.le_refl _) (.cells #[.int .i64 N, .slice A zs.length c] 105))
  have cO := fun w' (hb : Below w.heap.size w w') => own_any N A zs.length c _ w.heap.size w' hb.size hA hnc hc (ones zs) (HR.out.below hb)
  obtain ⟨N', zs', er, hl', cT, cR⟩ := turn_all N zs
  unfold matV
  unfold matV at cO
  clear hr
  go_enter Try.func20, Try.ntmps20
  go_wp2_with fail
  refine (cO _ HB0.out).mono ?_
  rintro e w1 ⟨A1, c1, rfl, hown, hb1⟩
  have HB1 := Lib.hid (onward HB0.out (Nat.le_refl _) hb1)
  have HJ1 := Lib.hid (HJ.out.below hb1 HJ.out.lt)
  have HO1 := Lib.hid (Rd.of_own hown)
  clear hown hb1
  unfold matV
  go_wp2_with fail
  refine (cT A1 c1 _ _ (Nat.le_refl _) HO1.out).mono ?_
  rintro e w2 ⟨A2, c2, rfl, hr2, hb2⟩
  have HB2 := Lib.hid ((onward HB1.out (Nat.le_refl _) hb2).alloc (onward HB1.out (Nat.le_refl _) hb2).size (.cells #[.int .i64 N', .slice A2 zs'.length c2] 105))
  have HJ2 := Lib.hid ((HJ1.out.below hb2 HJ1.out.lt).alloc (.cells #[.int .i64 N', .slice A2 zs'.length c2] 105))
  have HK2 : Hid (Blk (w2.alloc (.cells #[.int .i64 N', .slice A2 zs'.length c2] 105)) w2.heap.size 105 #[.int .i64 N', .slice A2 zs'.length c2]) := Lib.hid (Blk.new rfl)
  have HO2 := Lib.hid (hr2.alloc (Nat.le_refl _) (.cells #[.int .i64 N', .slice A2 zs'.length c2] 105))
  have x0 := HJ2.out.cell 0
  have x1 := HJ2.out.cell 1
  simp only [List.getElem?_toArray, List.getElem?_cons_zero, List.getElem?_cons_succ] at x0 x1
  clear hb2 hr2
  unfold matV
  go_wp2_with fail
  refine (cR A c w.heap.size _ HB2.out.size (HR.out.below HB2.out)).mono ?_
  rintro e w3 ⟨A3, c3, rfl, hr3, hb3⟩
  have HB3 := Lib.hid ((onward HB2.out (Nat.le_refl _) hb3).alloc (onward HB2.out (Nat.le_refl _) hb3).size (.cells #[.int .i64 N', .slice A3 zs'.length c3] 105))
  have HK3 := Lib.hid ((HK2.out.below hb3 HK2.out.lt).alloc (.cells #[.int .i64 N', .slice A3 zs'.length c3] 105))
  have HL3 : Hid (Blk (w3.alloc (.cells #[.int .i64 N', .slice A3 zs'.length c3] 105)) w3.heap.size 105 #[.int .i64 N', .slice A3 zs'.length c3]) := Lib.hid (Blk.new rfl)
  have HO3 := Lib.hid (hr3.alloc (Nat.le_refl _) (.cells #[.int .i64 N', .slice A3 zs'.length c3] 105))
  have HP3 := Lib.hid (((HO2.out.more (by simp)).below hb3).alloc hb3.size (.cells #[.int .i64 N', .slice A3 zs'.length c3] 105))
  have hs3 : (w2.alloc (.cells #[.int .i64 N', .slice A2 zs'.length c2] 105)).heap.size ≤ w3.heap.size := hb3.size
  clear hb3 hr3 x0 x1
  unfold matV
  go_wp2_with fail
  refine (least_any 7 _).mono ?_
  rintro e w4 ⟨A4, c4, rfl, hown4, hb4⟩
  have HB4 := Lib.hid (onward HB3.out (Nat.le_refl _) hb4)
  have HK4 := Lib.hid (HK3.out.below hb4 HK3.out.lt)
  have HL4 := Lib.hid (HL3.out.below hb4 HL3.out.lt)
  have HO4 := Lib.hid ((HO3.out.more (by simp)).below hb4)
  have HP4 := Lib.hid ((HP3.out.more (Nat.le_trans hs3 (by simp))).below hb4)
  have HQ4 := Lib.hid (Rd.of_own hown4)
  have hs4 := hb4.size
  clear hb4 hown4
  unfold matV
  go_wp2_with fail
  refine (turn_yes 1 A4 c4 [7] _ _ (Nat.le_refl _) (by omega) (by omega) rfl HQ4.out).mono ?_
  rintro e w5 ⟨A5, c5, rfl, hown5, hb5⟩
  have HB5 := Lib.hid ((onward HB4.out (Nat.le_refl _) hb5).alloc (onward HB4.out (Nat.le_refl _) hb5).size (.cells #[.int .i64 1, .slice A5 1 c5] 105))
  have HK5 := Lib.hid ((HK4.out.below hb5 HK4.out.lt).alloc (.cells #[.int .i64 1, .slice A5 1 c5] 105))
  have HL5 := Lib.hid ((HL4.out.below hb5 HL4.out.lt).alloc (.cells #[.int .i64 1, .slice A5 1 c5] 105))
  have HM5 : Hid (Blk (w5.alloc (.cells #[.int .i64 1, .slice A5 1 c5] 105)) w5.heap.size 105 #[.int .i64 1, .slice A5 1 c5]) := Lib.hid (Blk.new rfl)
  have HO5 := Lib.hid (((HO4.out.more hs4).below hb5).alloc hb5.size (.cells #[.int .i64 1, .slice A5 1 c5] 105))
  have HP5 := Lib.hid (((HP4.out.more (Nat.le_trans (by simp) hs4)).below hb5).alloc hb5.size (.cells #[.int .i64 1, .slice A5 1 c5] 105))
  have hs5 : w4.heap.size ≤ (w5.alloc (.cells #[.int .i64 1, .slice A5 1 c5] 105)).heap.size := Nat.le_trans hb5.size (by simp)
  have y0 := HK5.out.cell 0
  have y1 := HK5.out.cell 1
  have z0 := HL5.out.cell 0
  have z1 := HL5.out.cell 1
  simp only [List.getElem?_toArray, List.getElem?_cons_zero, List.getElem?_cons_succ] at y0 y1 z0 z1
  clear hb5 hown5
  unfold matV
  have cS := sameMat_any N' A2 A3 c2 c3 zs' w4.heap.size _ hs5 (by omega) HP5.out HO5.out
  unfold matV at cS
  have x6 : (((1 : Nat) : Int) == 1) = true := rfl
  go_wp2_with (go_at_call 77; refine cS.mono ?_; rintro e w6 ⟨rfl, hb6⟩; have HM6 := Lib.hid (HM5.out.below hb6 HM5.out.lt); have v0 := HM6.out.cell 0; simp only [List.getElem?_toArray, List.getElem?_cons_zero] at v0; have HB6 := Lib.hid (onward HB5.out (Nat.le_refl _) hb6); clear hb6)
  go_ret
  exact ⟨rfl, HB6.out⟩
set_option maxRecDepth 100000 in
theorem lifted (os : Os) (started : os.Started) (H : Type) (enc : TypeId × Value → H) :
    ReturnsInHanded {} Try.checked os 20 .any (Rows.matTurnsSpec.pre6 enc Try.prog Try.f20 Rows.matTurnsRow.domain false) (Rows.matTurnsSpec.post enc Try.prog Try.f20 false true false false) := by
  refine returnsInHanded_of_change_sized (C := Try.checked) Fr.own started (by kernel_rfl) Try.func20
    (ChangeSpec.witness6 (enc := enc) (C := Try.checked) false ⟨#[], #[.agg #[.int .i64 0, .slice none 0 0]], []⟩ 8 (by kernel_rfl) (by kernel_rfl) (by kernel_rfl) (by kernel_rfl)) ?_
  intro W base args ds gs before hval0 hW _ hsz0 _
  have hval : ∀ (j : Nat) t v, Try.f20.params[j]? = some t → args[j]? = some v → Value.okWide Try.prog W .any base t v := hval0
  have hsz : (DataW.weightsEach Try.prog (Try.f20.params.toList ++ Rows.matTurnsSpec.plain.varTypes Try.prog) (ds ++ gs)).all (· ≤ reachBytes) = true := hsz0
  clear hval0 hsz0
  obtain ⟨p, q, hA0, hV0, _⟩ := id hW
  have hA : DataW.TrodAll enc Try.prog W 0 (fun _ => true) true Try.f20.params.toList args.toList ds p := hA0
  rw [Try.params20] at hA hval hsz
  obtain ⟨v0, vs0, d0, ds0, p0, q0, hargs, rfl, rfl, h0, r0⟩ := trodAll_cons hA
  obtain ⟨rfl, rfl, rfl⟩ := trodAll_nil r0
  obtain rfl : args = #[v0] := by cases args; simp_all
  obtain ⟨rfl, rfl⟩ := trodVars_none hV0
  refine Fr.of_walk (f := Try.f20) Fr.laidOut (by rw [Try.params20]; intro t ht; simp at ht; (first | (rcases ht with rfl | rfl | rfl | rfl | rfl | rfl) | (rcases ht with rfl | rfl | rfl | rfl | rfl) | (rcases ht with rfl | rfl | rfl | rfl) | (rcases ht with rfl | rfl | rfl) | (rcases ht with rfl | rfl) | (subst ht)) <;> exact ⟨by kernel_rfl, of_decide_eq_true (by kernel_rfl)⟩) rfl rfl Try.underlying4 (fun _ => rfl) hW ?_
  clear hW hA hA0 hV0
  obtain ⟨N, A, c, zs, rfl, _, h2, h3, h4, h5, _⟩ := Mats.openMat (hval 0 105 v0 rfl rfl) h0 (Op.light_of_each (j := 0) hsz rfl rfl)
  exact walk N A c zs W h4 h2 h3 h5

theorem closedFacts : joinedFacts Try.prog 20 Try.f20 Rows.matTurnsSpec Rows.matTurnsRow = true := by
  unfold joinedFacts
  simp only [Bool.and_eq_true]
  refine ⟨⟨⟨⟨⟨⟨⟨⟨⟨⟨⟨⟨⟨⟨⟨⟨⟨⟨⟨⟨⟨⟨⟨⟨⟨⟨⟨⟨⟨⟨⟨?_, ?_⟩, ?_⟩, ?_⟩, ?_⟩, ?_⟩, ?_⟩, ?_⟩, ?_⟩, ?_⟩, ?_⟩, ?_⟩, ?_⟩, ?_⟩, ?_⟩, ?_⟩, ?_⟩, ?_⟩, ?_⟩, ?_⟩, ?_⟩, ?_⟩, ?_⟩, ?_⟩, ?_⟩, ?_⟩, ?_⟩, ?_⟩, ?_⟩, ?_⟩, ?_⟩, ?_⟩
  · as_aux_lemma => kernel_rfl
  · exact Fr.laidOut
  · exact Facts.mapsRowed_
  · as_aux_lemma => kernel_rfl
  · as_aux_lemma => kernel_rfl
  · as_aux_lemma => kernel_rfl
  · exact Facts.stops_
  · as_aux_lemma => kernel_rfl
  · exact Facts.knobs_
  · as_aux_lemma => kernel_rfl
  · as_aux_lemma => kernel_rfl
  · as_aux_lemma => kernel_rfl
  · as_aux_lemma => kernel_rfl
  · as_aux_lemma => kernel_rfl
  · as_aux_lemma => kernel_rfl
  · as_aux_lemma => kernel_rfl
  · as_aux_lemma => kernel_rfl
  · as_aux_lemma => kernel_rfl
  · as_aux_lemma => kernel_rfl
  · as_aux_lemma => kernel_rfl
  · as_aux_lemma => kernel_rfl
  · as_aux_lemma => kernel_rfl
  · exact Facts.keys_
  · as_aux_lemma => kernel_rfl
  · exact Facts.heard_
  · exact Facts.enter_
  · exact Facts.lifts_
  · exact Facts.make_
  · as_aux_lemma => kernel_rfl
  · as_aux_lemma => kernel_rfl
  · as_aux_lemma => kernel_rfl
  · as_aux_lemma => kernel_rfl

theorem proved : Rows.MatTurnsSaid :=
  OpenClaim.holds_of_wide 20 Try.f20 rfl rfl rfl rfl rfl rfl rfl ⟨rfl, rfl, rfl, rfl, rfl⟩ rfl rfl rfl rfl rfl (by kernel_rfl) Try.func20 closedFacts
    (of_decide_eq_true (by kernel_rfl)) (by unfold Func.isWrapper; first | (rw [if_pos (by decide +kernel)]; kernel_rfl) | (rw [if_neg (by decide +kernel)]; exact ⟨rfl, rfl⟩))
    (fun os started H enc _ => lifted os started H enc)

end Go.Proofs.Ytfaielkkecphbaa.lawMatTurns
