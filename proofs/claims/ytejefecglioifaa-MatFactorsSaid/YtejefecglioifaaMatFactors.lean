/- The law MatFactors returns true: mat.Factor and the reference answer one matrix, one diagonal, one Bool and one error for all matrices. Conditions: none. -/
import Derived.Test.YtejefecglioifaaFrame
import Derived.Test.YtejefecglioifaaFacts
import Derived.Test.YtejefecglioifaaOpen
import Derived.Test.YtejefecglioifaaFacA
import Derived.Test.YtejefecglioifaaSameM
namespace Go.Proofs.Ytejefecglioifaa.lawMatFactors
open Go.ChangeShapes Go.WideShapes Go.ChangeAt Go.RowKit Go.Proofs.Ytejefecglioifaa.Mem Go.Proofs.Ytejefecglioifaa.BigW Go.Proofs.Ytejefecglioifaa.Rws Go.Proofs.Ytejefecglioifaa.Ints Go.Proofs.Ytejefecglioifaa.Mats
set_option linter.unusedVariables false
set_option linter.unusedSimpArgs false

theorem closed : (facR 1 [7]).1.1 = 1 := by decide +kernel
theorem in_one (z : Int) (h : In64 z) : ∀ k, In64 (([z] : List Int).getD k 0) := fun k => by
  rcases k with _ | k
  · exact h
  · show In64 0; unfold In64; omega
theorem in_all {zs : List Int} (h : ∀ z ∈ zs, (Lit.int .i64 z).wf = true) : ∀ k, In64 (zs.getD k 0) := fun k => by
  rcases Nat.lt_or_ge k zs.length with hk | hk
  · rw [getD_of hk]; exact Op.wf_i64 (h _ (List.getElem_mem hk))
  · rw [List.getD_eq_getElem?_getD, List.getElem?_eq_none hk]; show In64 0; unfold In64; omega

set_option maxRecDepth 100000 in
set_option maxHeartbeats 2000000 in
theorem walk (Na : Int) (A : Option Addr) (c : Nat) (zs : List Int) (w : World) (hA : A = none → c = 0) (hnc : zs.length ≤ c) (hc8 : c * 8 ≤ 140737488351232) (hr : Rd w w.heap.size 1 A zs.length (intsV zs)) (hz : ∀ k, In64 (zs.getD k 0)) :
    Calls Try.prog 3 #[.agg #[.int .i64 Na, .slice A zs.length c]] w fun e w' => e = .returned (.bool true) ∧ Below w.heap.size w w' := by
  have HC := Lib.hid closed
  have HA := Lib.hid hA
  have HR := Lib.hid hr
  have HZ := Lib.hid hz
  have HL6 := Lib.hid (facR_len Na zs hz)
  obtain ⟨⟨⟨N, l⟩, ⟨d, b⟩, x⟩, ht⟩ : ∃ r, facR Na zs = r := ⟨_, rfl⟩
  have HT := Lib.hid ht
  rw [ht] at HL6
  simp only at HL6
  clear hA hr hz ht
  have HM := Lib.hid (show Blk (w.alloc (.cells #[.int .i64 Na, .slice A zs.length c] 24)) w.heap.size 24 #[.int .i64 Na, .slice A zs.length c] from Blk.new rfl)
  have HB := Lib.hid (show Below w.heap.size w (w.alloc (.cells #[.int .i64 Na, .slice A zs.length c] 24)) from (Below.refl _ _).alloc (Nat.le_refl _) _)
  go_enter Try.func3, Try.ntmps3
  go_upto_region 1 with fail
  generalize (w.alloc (.cells #[.int .i64 Na, .slice A zs.length c] 24)) = w1 at *
  go_wp2_with (first | (refine wpList_whole rfl 24 _ rfl w.heap.size rfl HM.out _ Try.underlying24 rfl (by kernel_rfl) ?_))
  refine (own_any Na A zs.length c (intsV zs) w.heap.size w1 HB.out.size HA.out hnc hc8 (intsV_one zs) (HR.out.below HB.out)).mono ?_
  rintro e w1 ⟨A1, c1, rfl, hown, hb⟩
  have HO1 := Lib.hid (Rd.of_own hown)
  clear hown
  have HM := Lib.hid (HM.out.below hb HM.out.lt)
  have HB := Lib.hid (onward HB.out (Nat.le_refl _) hb)
  clear hb
  unfold matV
  go_wp2_with fail
  refine (factor_all Na A1 c1 zs w1 HO1.out HZ.out).mono ?_
  rw [HT.out]
  rintro e w1 ⟨A3, c3, A4, c4, rfl, hr3, hd3, _, hb⟩
  have H3 := Lib.hid hr3
  have H4 := Lib.hid hd3
  clear hr3 hd3 HO1
  have HM := Lib.hid (HM.out.below hb HM.out.lt)
  have HB := Lib.hid (onward HB.out (Nat.le_refl _) hb)
  clear hb
  dsimp only
  go_upto_region 2 with fail
  have hb : Below w1.heap.size w1 (w1.alloc (.cells #[.int .i64 N, .slice A3 l.length c3] 24)) := (Below.refl _ _).alloc (Nat.le_refl _) _
  have HM := Lib.hid (HM.out.alloc (.cells #[.int .i64 N, .slice A3 l.length c3] 24))
  have H3 := Lib.hid ((H3.out.below hb).more hb.size)
  have H4 := Lib.hid ((H4.out.below hb).more hb.size)
  have HQ := Lib.hid (show Blk (w1.alloc (.cells #[.int .i64 N, .slice A3 l.length c3] 24)) w1.heap.size 24 #[.int .i64 N, .slice A3 l.length c3] from Blk.fresh _ _ _)
  have HB := Lib.hid (HB.out.alloc HB.out.size (.cells #[.int .i64 N, .slice A3 l.length c3] 24))
  clear hb
  obtain ⟨ga, hga⟩ : ∃ g, w1.heap.size = g := ⟨_, rfl⟩
  rw [hga] at HQ ⊢
  clear hga
  generalize (w1.alloc (.cells #[.int .i64 N, .slice A3 l.length c3] 24)) = w1 at *
  go_wp2_with (first | (refine wpList_whole rfl 24 _ rfl w.heap.size rfl HM.out _ Try.underlying24 rfl (by kernel_rfl) ?_) | (refine wpList_whole rfl 24 _ rfl ga rfl HQ.out _ Try.underlying24 rfl (by kernel_rfl) ?_))
  refine (refFactor_all Na A c zs w1 ((HR.out.below HB.out).more HB.out.size) HZ.out).mono ?_
  rw [HT.out]
  rintro e w1 ⟨A5, c5, A6, c6, rfl, hr5, hd5, _, hb⟩
  have H5 := Lib.hid hr5
  have H6 := Lib.hid hd5
  clear hr5 hd5
  have HM := Lib.hid (HM.out.below hb HM.out.lt)
  have HQ := Lib.hid (HQ.out.below hb HQ.out.lt)
  have H3 := Lib.hid ((H3.out.below hb).more hb.size)
  have H4 := Lib.hid ((H4.out.below hb).more hb.size)
  have HB := Lib.hid (onward HB.out (Nat.le_refl _) hb)
  clear hb
  dsimp only
  go_upto_region 3 with fail
  have hb : Below w1.heap.size w1 (w1.alloc (.cells #[.int .i64 N, .slice A5 l.length c5] 24)) := (Below.refl _ _).alloc (Nat.le_refl _) _
  have HM := Lib.hid (HM.out.alloc (.cells #[.int .i64 N, .slice A5 l.length c5] 24))
  have HQ := Lib.hid (HQ.out.alloc (.cells #[.int .i64 N, .slice A5 l.length c5] 24))
  have H3 := Lib.hid ((H3.out.below hb).more hb.size)
  have H4 := Lib.hid ((H4.out.below hb).more hb.size)
  have H5 := Lib.hid ((H5.out.below hb).more hb.size)
  have H6 := Lib.hid ((H6.out.below hb).more hb.size)
  have HQ2 := Lib.hid (show Blk (w1.alloc (.cells #[.int .i64 N, .slice A5 l.length c5] 24)) w1.heap.size 24 #[.int .i64 N, .slice A5 l.length c5] from Blk.fresh _ _ _)
  have HB := Lib.hid (HB.out.alloc HB.out.size (.cells #[.int .i64 N, .slice A5 l.length c5] 24))
  clear hb
  obtain ⟨gq, hgq⟩ : ∃ g, w1.heap.size = g := ⟨_, rfl⟩
  rw [hgq] at HQ2 ⊢
  clear hgq
  generalize (w1.alloc (.cells #[.int .i64 N, .slice A5 l.length c5] 24)) = w1 at *
  go_wp2_with fail
  refine (least_any 7 w1).mono ?_
  rintro e w1 ⟨A7, c7, rfl, hown, hb⟩
  have H7 := Lib.hid (Rd.of_own hown)
  clear hown
  have HM := Lib.hid (HM.out.below hb HM.out.lt)
  have HQ := Lib.hid (HQ.out.below hb HQ.out.lt)
  have HQ2 := Lib.hid (HQ2.out.below hb HQ2.out.lt)
  have H3 := Lib.hid ((H3.out.below hb).more hb.size)
  have H4 := Lib.hid ((H4.out.below hb).more hb.size)
  have H5 := Lib.hid ((H5.out.below hb).more hb.size)
  have H6 := Lib.hid ((H6.out.below hb).more hb.size)
  have HB := Lib.hid (onward HB.out (Nat.le_refl _) hb)
  clear hb
  unfold matV
  go_wp2_with fail
  refine (factor_all 1 A7 c7 [7] w1 H7.out (in_one 7 (by unfold In64; omega))).mono ?_
  rintro e w1 ⟨A8, c8, A9, c9, rfl, _, _, _, hb⟩
  rw [HC.out]
  have HM := Lib.hid (HM.out.below hb HM.out.lt)
  have HQ := Lib.hid (HQ.out.below hb HQ.out.lt)
  have HQ2 := Lib.hid (HQ2.out.below hb HQ2.out.lt)
  have H3 := Lib.hid ((H3.out.below hb).more hb.size)
  have H4 := Lib.hid ((H4.out.below hb).more hb.size)
  have H5 := Lib.hid ((H5.out.below hb).more hb.size)
  have H6 := Lib.hid ((H6.out.below hb).more hb.size)
  have HB := Lib.hid (onward HB.out (Nat.le_refl _) hb)
  clear hb
  generalize (facR 1 [7]).1.2.length = n8
  generalize (facR 1 [7]).2.1.1.length = n9
  generalize (facR 1 [7]).2.1.2 = b8
  generalize (facR 1 [7]).2.2 = x8
  clear H7
  go_upto_region 4 with fail
  have hb : Below w1.heap.size w1 (w1.alloc (.cells #[.int .i64 1, .slice A8 n8 c8] 24)) := (Below.refl _ _).alloc (Nat.le_refl _) _
  have HM := Lib.hid (HM.out.alloc (.cells #[.int .i64 1, .slice A8 n8 c8] 24))
  have HQ := Lib.hid (HQ.out.alloc (.cells #[.int .i64 1, .slice A8 n8 c8] 24))
  have HQ2 := Lib.hid (HQ2.out.alloc (.cells #[.int .i64 1, .slice A8 n8 c8] 24))
  have H3 := Lib.hid ((H3.out.below hb).more hb.size)
  have H4 := Lib.hid ((H4.out.below hb).more hb.size)
  have H5 := Lib.hid ((H5.out.below hb).more hb.size)
  have H6 := Lib.hid ((H6.out.below hb).more hb.size)
  have HZZ := Lib.hid (show Blk (w1.alloc (.cells #[.int .i64 1, .slice A8 n8 c8] 24)) w1.heap.size 24 #[.int .i64 1, .slice A8 n8 c8] from Blk.fresh _ _ _)
  have HB := Lib.hid (HB.out.alloc HB.out.size (.cells #[.int .i64 1, .slice A8 n8 c8] 24))
  clear hb
  obtain ⟨gz, hgz⟩ : ∃ g, w1.heap.size = g := ⟨_, rfl⟩
  rw [hgz] at HZZ ⊢
  clear hgz
  generalize (w1.alloc (.cells #[.int .i64 1, .slice A8 n8 c8] 24)) = w1 at *
  have y0 : w1.cell? ⟨ga, 0, none⟩ = some (.int .i64 N) := (HQ.out.cell 0).trans rfl
  have y1 : w1.cell? ⟨ga, 1, none⟩ = some (.slice A3 l.length c3) := (HQ.out.cell 1).trans rfl
  have z0 : w1.cell? ⟨gq, 0, none⟩ = some (.int .i64 N) := (HQ2.out.cell 0).trans rfl
  have z1 : w1.cell? ⟨gq, 1, none⟩ = some (.slice A5 l.length c5) := (HQ2.out.cell 1).trans rfl
  have hl36 := HL6.out.1
  have hd6 := HL6.out.2
  clear HM
  cases b
  all_goals
    go_wp2_with fail
    refine (sameMat_any N A3 A5 c3 c5 l w1 (by omega) H3.out H5.out).mono ?_
    rintro e w2 ⟨rfl, hb⟩
    have HZZ := Lib.hid (HZZ.out.below hb HZZ.out.lt)
    have H4 := Lib.hid ((H4.out.below hb).more hb.size)
    have H6 := Lib.hid ((H6.out.below hb).more hb.size)
    have HB := Lib.hid (onward HB.out (Nat.le_refl _) hb)
    clear hb y0 y1 z0 z1
    go_wp2_with fail
    refine (sameInts_any A4 A6 c4 c6 d w2.heap.size w2 (by omega) H4.out H6.out).mono ?_
    rintro e w3 ⟨rfl, hb⟩
    have v0 : w3.cell? ⟨gz, 0, none⟩ = some (.int .i64 1) := ((HZZ.out.below hb HZZ.out.lt).cell 0).trans rfl
    have HB := Lib.hid (onward HB.out (Nat.le_refl _) hb)
    clear hb
    go_wp2_with fail
    go_ret
    exact ⟨rfl, HB.out⟩
set_option maxRecDepth 100000 in
set_option maxHeartbeats 1000000 in
theorem lifted (os : Os) (started : os.Started) (H : Type) (enc : TypeId × Value → H) :
    ReturnsInHanded {} Try.checked os 3 .any (Rows.matFactorsSpec.pre6 enc Try.prog Try.f3 Rows.matFactorsRow.domain false) (Rows.matFactorsSpec.post enc Try.prog Try.f3 false true false false) := by
  refine returnsInHanded_of_change_sized (C := Try.checked) Fr.own started (by kernel_rfl) Try.func3
    (ChangeSpec.witness6 (enc := enc) (C := Try.checked) false ⟨#[], #[.agg #[.int .i64 0, .slice none 0 0]], []⟩ 8 (by kernel_rfl) (by kernel_rfl) (by kernel_rfl) (by kernel_rfl)) ?_
  intro W base args ds gs before hval0 hW _ hsz0 _
  have hval : ∀ (j : Nat) t v, Try.f3.params[j]? = some t → args[j]? = some v → Value.okWide Try.prog W .any base t v := hval0
  have hsz : (DataW.weightsEach Try.prog (Try.f3.params.toList ++ Rows.matFactorsSpec.plain.varTypes Try.prog) (ds ++ gs)).all (· ≤ reachBytes) = true := hsz0
  clear hval0 hsz0
  obtain ⟨p, q, hA0, hV0, _⟩ := id hW
  have hA : DataW.TrodAll enc Try.prog W 0 (fun _ => true) true Try.f3.params.toList args.toList ds p := hA0
  rw [Try.params3] at hA hval hsz
  obtain ⟨v0, vs0, d0, ds0, p0, q0, hargs, rfl, rfl, h0, r0⟩ := trodAll_cons hA
  obtain ⟨rfl, rfl, rfl⟩ := trodAll_nil r0
  obtain rfl : args = #[v0] := by cases args; simp_all
  obtain ⟨rfl, rfl⟩ := trodVars_none hV0
  refine Fr.of_walk (f := Try.f3) Fr.laidOut (by rw [Try.params3]; intro t ht; simp at ht; (first | (rcases ht with rfl | rfl | rfl | rfl | rfl | rfl) | (rcases ht with rfl | rfl | rfl | rfl | rfl) | (rcases ht with rfl | rfl | rfl | rfl) | (rcases ht with rfl | rfl | rfl) | (rcases ht with rfl | rfl) | (subst ht)) <;> exact ⟨by kernel_rfl, of_decide_eq_true (by kernel_rfl)⟩) rfl rfl Try.underlying4 (fun _ => rfl) hW ?_
  clear hW hA hA0 hV0
  obtain ⟨N0, A0, c0, zs0, rfl, _, nn0, mm0, gg0, rr0, oo0⟩ := Mats.openMat (hval 0 24 v0 rfl rfl) h0 (Op.light_of_each (j := 0) hsz rfl rfl)
  exact walk N0 A0 c0 zs0 W gg0 nn0 mm0 rr0 (in_all oo0)

theorem closedFacts : joinedFacts Try.prog 3 Try.f3 Rows.matFactorsSpec Rows.matFactorsRow = true := by
  unfold joinedFacts
  simp only [Bool.and_eq_true]
  refine ⟨⟨⟨⟨⟨⟨⟨⟨⟨⟨⟨⟨⟨⟨⟨⟨⟨⟨⟨⟨⟨⟨⟨⟨⟨⟨⟨⟨⟨⟨⟨?_, ?_⟩, ?_⟩, ?_⟩, ?_⟩, ?_⟩, ?_⟩, ?_⟩, ?_⟩, ?_⟩, ?_⟩, ?_⟩, ?_⟩, ?_⟩, ?_⟩, ?_⟩, ?_⟩, ?_⟩, ?_⟩, ?_⟩, ?_⟩, ?_⟩, ?_⟩, ?_⟩, ?_⟩, ?_⟩, ?_⟩, ?_⟩, ?_⟩, ?_⟩, ?_⟩, ?_⟩
  · as_aux_lemma => kernel_rfl
  · exact Fr.laidOut
  · exact Facts.mapsRowed_
  · as_aux_lemma => kernel_rfl
  · as_aux_lemma => kernel_rfl
  · as_aux_lemma => kernel_rfl
  · exact Facts.stops_
  · as_aux_lemma => kernel_rfl
  · exact Facts.knobs_
  · as_aux_lemma => kernel_rfl
  · as_aux_lemma => kernel_rfl
  · as_aux_lemma => kernel_rfl
  · as_aux_lemma => kernel_rfl
  · as_aux_lemma => kernel_rfl
  · as_aux_lemma => kernel_rfl
  · as_aux_lemma => kernel_rfl
  · as_aux_lemma => kernel_rfl
  · as_aux_lemma => kernel_rfl
  · as_aux_lemma => kernel_rfl
  · as_aux_lemma => kernel_rfl
  · as_aux_lemma => kernel_rfl
  · as_aux_lemma => kernel_rfl
  · exact Facts.keys_
  · as_aux_lemma => kernel_rfl
  · exact Facts.heard_
  · exact Facts.enter_
  · exact Facts.lifts_
  · exact Facts.make_
  · as_aux_lemma => kernel_rfl
  · as_aux_lemma => kernel_rfl
  · as_aux_lemma => kernel_rfl
  · as_aux_lemma => kernel_rfl

theorem proved : Rows.MatFactorsSaid :=
  OpenClaim.holds_of_wide 3 Try.f3 rfl rfl rfl rfl rfl rfl rfl ⟨rfl, rfl, rfl, rfl, rfl⟩ rfl rfl rfl rfl rfl (by kernel_rfl) Try.func3 closedFacts
    (of_decide_eq_true (by kernel_rfl)) (by unfold Func.isWrapper; first | (rw [if_pos (by decide +kernel)]; kernel_rfl) | (rw [if_neg (by decide +kernel)]; exact ⟨rfl, rfl⟩))
    (fun os started H enc _ => lifted os started H enc)

end Go.Proofs.Ytejefecglioifaa.lawMatFactors
