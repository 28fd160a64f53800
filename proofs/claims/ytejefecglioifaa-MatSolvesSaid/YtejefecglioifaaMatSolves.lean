/- The law MatSolves returns true: mat.Solve and the reference's Solve answer one list, one Bool and one error for all matrices and columns. Conditions: none. -/
import Derived.Test.YtejefecglioifaaFrame
import Derived.Test.YtejefecglioifaaFacts
import Derived.Test.YtejefecglioifaaOpen
import Derived.Test.YtejefecglioifaaRefSol
import Derived.Test.YtejefecglioifaaSameI
namespace Go.Proofs.Ytejefecglioifaa.lawMatSolves
open Go.ChangeShapes Go.WideShapes Go.ChangeAt Go.RowKit Go.Proofs.Ytejefecglioifaa.Mem Go.Proofs.Ytejefecglioifaa.BigW Go.Proofs.Ytejefecglioifaa.Rws Go.Proofs.Ytejefecglioifaa.Ints Go.Proofs.Ytejefecglioifaa.Mats
set_option linter.unusedVariables false
set_option linter.unusedSimpArgs false

theorem closed : (solR 1 [7] [7]).1.1.length = 1 := by decide +kernel
theorem in7 : ∀ k, In64 (([7] : List Int).getD k 0) := fun k => by
  rcases k with _ | k
  · show In64 7; unfold In64; omega
  · show In64 0; unfold In64; omega
theorem inOne : ∀ k, In64 (([4294967296] : List Int).getD k 0) := fun k => by
  rcases k with _ | k
  · show In64 4294967296; unfold In64; omega
  · show In64 0; unfold In64; omega
theorem in_all {zs : List Int} (h : ∀ z ∈ zs, (Lit.int .i64 z).wf = true) : ∀ k, In64 (zs.getD k 0) := fun k => by
  rcases Nat.lt_or_ge k zs.length with hk | hk
  · rw [getD_of hk]; exact Op.wf_i64 (h _ (List.getElem_mem hk))
  · rw [List.getD_eq_getElem?_getD, List.getElem?_eq_none hk]; show In64 0; unfold In64; omega
set_option maxRecDepth 100000 in
set_option maxHeartbeats 2000000 in
theorem walk (N : Int) (A : Option Addr) (c : Nat) (zs : List Int) (A' : Option Addr) (c' : Nat) (vs : List Int) (w : World) (hA : A = none → c = 0) (hnc : zs.length ≤ c) (hc8 : c * 8 ≤ 140737488351232) (hr : Rd w w.heap.size 1 A zs.length (intsV zs))
    (hA' : A' = none → c' = 0) (hnc' : vs.length ≤ c') (hc8' : c' * 8 ≤ 140737488351232) (hr' : Rd w w.heap.size 1 A' vs.length (intsV vs)) (hz : ∀ k, In64 (zs.getD k 0)) (hzv : ∀ k, In64 (vs.getD k 0)) :
    Calls Try.prog 4 #[.agg #[.int .i64 N, .slice A zs.length c], .slice A' vs.length c'] w fun e w' => e = .returned (.bool true) ∧ Below w.heap.size w w' := by
  have HC := Lib.hid closed
  have HA := Lib.hid hA
  have HA' := Lib.hid hA'
  have HR := Lib.hid hr
  have HR' := Lib.hid hr'
  have HZ := Lib.hid hz
  have HZV := Lib.hid hzv
  have HL6 := Lib.hid (solR_len N zs vs)
  obtain ⟨⟨⟨l, b⟩, x⟩, ht⟩ : ∃ r, solR N zs vs = r := ⟨_, rfl⟩
  have HT := Lib.hid ht
  rw [ht] at HL6
  simp only at HL6
  clear hA hA' hr hr' hz hzv ht
  have HM := Lib.hid (show Blk (w.alloc (.cells #[.int .i64 N, .slice A zs.length c] 24)) w.heap.size 24 #[.int .i64 N, .slice A zs.length c] from Blk.new rfl)
  have HB := Lib.hid (show Below w.heap.size w (w.alloc (.cells #[.int .i64 N, .slice A zs.length c] 24)) from (Below.refl _ _).alloc (Nat.le_refl _) _)
  go_enter Try.func4, Try.ntmps4
  go_upto_region 1 with fail
  generalize (w.alloc (.cells #[.int .i64 N, .slice A zs.length c] 24)) = w1 at *
  go_wp2_with (refine wpList_whole rfl 24 _ rfl w.heap.size rfl HM.out _ Try.underlying24 rfl (by kernel_rfl) ?_)
  refine (own_any N A zs.length c (intsV zs) w.heap.size w1 HB.out.size HA.out hnc hc8 (intsV_one zs) (HR.out.below HB.out)).mono ?_
  rintro e w2 ⟨A1, c1, rfl, hown, hb⟩
  have HO1 := Lib.hid (Rd.of_own hown)
  have HM := Lib.hid (HM.out.below hb HM.out.lt)
  have HB := Lib.hid (onward HB.out (Nat.le_refl _) hb)
  have HV2 := Lib.hid (HR'.out.below HB.out)
  clear hown hb
  unfold matV
  go_wp2_with (at_builtin; go_loud (refine wpList_append_rd _ rfl (.const (.slice none 0 0)) (.tmp 17) 22 rfl (base := w2.heap.size) Go.Proofs.Ytejefecglioifaa.Ints.elemInts rfl (World.ownsRow_nil _ _ _ _) rfl (fun h => ⟨by have := HA'.out h; omega, HA'.out h⟩) HV2.out (intsV_one vs) (by unfold maxLen; omega) (by omega) (Nat.le_refl _) ?_); intro A2 c2 w3 hA2 hown2 hg2; have HO2 := Lib.hid hown2; have HG2 := Lib.hid hg2; clear hA2 hown2 hg2)
  (try simp only [Nat.zero_add])
  rw [Nat.zero_add, List.nil_append] at HO2
  have HO2 := Lib.hid (Rd.of_own HO2.out)
  have HO1 := Lib.hid ((HO1.out.grown HG2.out (Nat.le_refl _) (by intro g e; cases e)).more HG2.out.size)
  have HM := Lib.hid (HM.out.grown HG2.out (by intro e; cases e))
  have HB := Lib.hid (below_grown HB.out (Nat.le_refl _) HG2.out (by intro g e; cases e))
  clear HG2 HV2
  refine (solve_all N A1 A2 c1 c2 zs vs w3 HO1.out HO2.out HZ.out HZV.out).mono ?_
  rw [HT.out]
  rintro e w4 ⟨A3, c3, rfl, hr3, hb⟩
  have H3 := Lib.hid hr3
  have HM := Lib.hid (HM.out.below hb HM.out.lt)
  have HB := Lib.hid (onward HB.out (Nat.le_refl _) hb)
  clear hr3 hb HO1 HO2
  dsimp only
  go_wp2_with (refine wpList_whole rfl 24 _ rfl w.heap.size rfl HM.out _ Try.underlying24 rfl (by kernel_rfl) ?_)
  refine (refSolve_all N A A' c c' zs vs w4 ((HR.out.below HB.out).more HB.out.size) ((HR'.out.below HB.out).more HB.out.size) HZ.out HZV.out).mono ?_
  rw [HT.out]
  rintro e w5 ⟨A4, c4, rfl, hr4, hb⟩
  have H4 := Lib.hid hr4
  have H3 := Lib.hid ((H3.out.below hb).more hb.size)
  have HB := Lib.hid (onward HB.out (Nat.le_refl _) hb)
  clear hr4 hb HM
  dsimp only
  go_wp2_with fail
  refine (least_any 7 w5).mono ?_
  rintro e w6 ⟨A5, c5, rfl, hown, hb⟩
  have HO5 := Lib.hid (Rd.of_own hown)
  have H4 := Lib.hid ((H4.out.below hb).more hb.size)
  have H3 := Lib.hid ((H3.out.below hb).more hb.size)
  have HB := Lib.hid (onward HB.out (Nat.le_refl _) hb)
  clear hown hb
  unfold matV
  go_wp2_with fail
  have HR6 := Lib.hid (rd_single w6 (.int .i64 7) 3)
  have hb6 : Below w6.heap.size w6 (w6.alloc (.cells #[.int .i64 7] 3)) := (Below.refl _ _).alloc (Nat.le_refl _) _
  refine (solve_all 1 A5 (some ⟨w6.heap.size, 0, none⟩) c5 1 [7] [7] _ ((HO5.out.below hb6).more hb6.size) (HR6.out.more (by simp)) in7 in7).mono ?_
  rintro e w7 ⟨A6, c6, rfl, _, hb⟩
  rw [HC.out]
  have hb := hb6.trans (hb.mono hb6.size)
  have H4 := Lib.hid ((H4.out.below hb).more hb.size)
  have H3 := Lib.hid ((H3.out.below hb).more hb.size)
  have HB := Lib.hid (onward HB.out (Nat.le_refl _) hb)
  clear hb hb6
  generalize (solR 1 [7] [7]).1.2 = b7
  generalize (solR 1 [7] [7]).2 = x7
  have hl6 := HL6.out
  cases b
  all_goals
    go_wp2_with fail
    refine (sameInts_any A3 A4 c3 c4 l w7.heap.size w7 (by omega) H3.out H4.out).mono ?_
    rintro e w8 ⟨rfl, hb⟩
    have HB := Lib.hid (onward HB.out (Nat.le_refl _) hb)
    clear hb
    go_wp2_with fail
    go_ret
    exact ⟨rfl, HB.out⟩
set_option maxRecDepth 100000 in
set_option maxHeartbeats 1000000 in
theorem lifted (os : Os) (started : os.Started) (H : Type) (enc : TypeId × Value → H) :
    ReturnsInHanded {} Try.checked os 4 .any (Rows.matSolvesSpec.pre6 enc Try.prog Try.f4 Rows.matSolvesRow.domain false) (Rows.matSolvesSpec.post enc Try.prog Try.f4 false true false false) := by
  refine returnsInHanded_of_change_sized (C := Try.checked) Fr.own started (by kernel_rfl) Try.func4
    (ChangeSpec.witness6 (enc := enc) (C := Try.checked) false ⟨#[], #[.agg #[.int .i64 0, .slice none 0 0], .slice none 0 0], []⟩ 8 (by kernel_rfl) (by kernel_rfl) (by kernel_rfl) (by kernel_rfl)) ?_
  intro W base args ds gs before hval0 hW _ hsz0 _
  have hval : ∀ (j : Nat) t v, Try.f4.params[j]? = some t → args[j]? = some v → Value.okWide Try.prog W .any base t v := hval0
  have hsz : (DataW.weightsEach Try.prog (Try.f4.params.toList ++ Rows.matSolvesSpec.plain.varTypes Try.prog) (ds ++ gs)).all (· ≤ reachBytes) = true := hsz0
  clear hval0 hsz0
  obtain ⟨p, q, hA0, hV0, _⟩ := id hW
  have hA : DataW.TrodAll enc Try.prog W 0 (fun _ => true) true Try.f4.params.toList args.toList ds p := hA0
  rw [Try.params4] at hA hval hsz
  obtain ⟨v0, vs0, d0, ds0, p0, q0, hargs, rfl, rfl, h0, r0⟩ := trodAll_cons hA
  obtain ⟨v1, vs1, d1, ds1, p1, q1, rfl, rfl, rfl, h1, r1⟩ := trodAll_cons r0
  obtain ⟨rfl, rfl, rfl⟩ := trodAll_nil r1
  obtain rfl : args = #[v0, v1] := by cases args; simp_all
  obtain ⟨rfl, rfl⟩ := trodVars_none hV0
  refine Fr.of_walk (f := Try.f4) Fr.laidOut (by rw [Try.params4]; intro t ht; simp at ht; (first | (rcases ht with rfl | rfl | rfl | rfl | rfl | rfl) | (rcases ht with rfl | rfl | rfl | rfl | rfl) | (rcases ht with rfl | rfl | rfl | rfl) | (rcases ht with rfl | rfl | rfl) | (rcases ht with rfl | rfl) | (subst ht)) <;> exact ⟨by kernel_rfl, of_decide_eq_true (by kernel_rfl)⟩) rfl rfl Try.underlying4 (fun _ => rfl) hW ?_
  clear hW hA hA0 hV0
  obtain ⟨N0, A0, c0, zs0, rfl, _, nn0, mm0, gg0, rr0, oo0⟩ := Mats.openMat (hval 0 24 v0 rfl rfl) h0 (Op.light_of_each (j := 0) hsz rfl rfl)
  obtain ⟨A1, c1, zs1, rfl, nn1, mm1, gg1, rr1, oo1⟩ := Ints.openInts (hval 1 22 v1 rfl rfl) h1 (Op.light_of_each (j := 1) hsz rfl rfl)
  exact walk N0 A0 c0 zs0 A1 c1 zs1 W gg0 nn0 mm0 rr0 gg1 nn1 mm1 rr1 (in_all oo0) (in_all oo1)

theorem closedFacts : joinedFacts Try.prog 4 Try.f4 Rows.matSolvesSpec Rows.matSolvesRow = true := by
  unfold joinedFacts
  simp only [Bool.and_eq_true]
  refine ⟨⟨⟨⟨⟨⟨⟨⟨⟨⟨⟨⟨⟨⟨⟨⟨⟨⟨⟨⟨⟨⟨⟨⟨⟨⟨⟨⟨⟨⟨⟨?_, ?_⟩, ?_⟩, ?_⟩, ?_⟩, ?_⟩, ?_⟩, ?_⟩, ?_⟩, ?_⟩, ?_⟩, ?_⟩, ?_⟩, ?_⟩, ?_⟩, ?_⟩, ?_⟩, ?_⟩, ?_⟩, ?_⟩, ?_⟩, ?_⟩, ?_⟩, ?_⟩, ?_⟩, ?_⟩, ?_⟩, ?_⟩, ?_⟩, ?_⟩, ?_⟩, ?_⟩
  · as_aux_lemma => kernel_rfl
  · exact Fr.laidOut
  · exact Facts.mapsRowed_
  · as_aux_lemma => kernel_rfl
  · as_aux_lemma => kernel_rfl
  · as_aux_lemma => kernel_rfl
  · exact Facts.stops_
  · as_aux_lemma => kernel_rfl
  · exact Facts.knobs_
  · as_aux_lemma => kernel_rfl
  · as_aux_lemma => kernel_rfl
  · as_aux_lemma => kernel_rfl
  · as_aux_lemma => kernel_rfl
  · as_aux_lemma => kernel_rfl
  · as_aux_lemma => kernel_rfl
  · as_aux_lemma => kernel_rfl
  · as_aux_lemma => kernel_rfl
  · as_aux_lemma => kernel_rfl
  · as_aux_lemma => kernel_rfl
  · as_aux_lemma => kernel_rfl
  · as_aux_lemma => kernel_rfl
  · as_aux_lemma => kernel_rfl
  · exact Facts.keys_
  · as_aux_lemma => kernel_rfl
  · exact Facts.heard_
  · exact Facts.enter_
  · exact Facts.lifts_
  · exact Facts.make_
  · as_aux_lemma => kernel_rfl
  · as_aux_lemma => kernel_rfl
  · as_aux_lemma => kernel_rfl
  · as_aux_lemma => kernel_rfl

theorem proved : Rows.MatSolvesSaid :=
  OpenClaim.holds_of_wide 4 Try.f4 rfl rfl rfl rfl rfl rfl rfl ⟨rfl, rfl, rfl, rfl, rfl⟩ rfl rfl rfl rfl rfl (by kernel_rfl) Try.func4 closedFacts
    (of_decide_eq_true (by kernel_rfl)) (by unfold Func.isWrapper; first | (rw [if_pos (by decide +kernel)]; kernel_rfl) | (rw [if_neg (by decide +kernel)]; exact ⟨rfl, rfl⟩))
    (fun os started H enc _ => lifted os started H enc)

end Go.Proofs.Ytejefecglioifaa.lawMatSolves
