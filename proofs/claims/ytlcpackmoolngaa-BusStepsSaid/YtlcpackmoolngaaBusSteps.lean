/- The law BusSteps returns true: bus.Step and the reference's answer alike for all buses and times. Conditions: none. -/
import Derived.Test.YtlcpackmoolngaaFrame
import Derived.Test.YtlcpackmoolngaaFacts
import Derived.Test.YtlcpackmoolngaaStepJ
import Derived.Test.YtlcpackmoolngaaSameBus
import Derived.Test.YtlcpackmoolngaaOpen
namespace Go.Proofs.Ytlcpackmoolngaa.lawBusSteps
open Go.ChangeShapes Go.WideShapes Go.ChangeAt Go.RowKit Go.Proofs.Ytlcpackmoolngaa.Mem Go.Proofs.Ytlcpackmoolngaa.Rws Go.Proofs.Ytlcpackmoolngaa.Bu Go.Proofs.Ytlcpackmoolngaa.Sm
set_option linter.unusedVariables false
set_option linter.unusedSimpArgs false

theorem sorted_nil {rs : List Parc} (h : Ss.SortedOf [] rs) : rs = [] := by
  obtain ⟨l, rfl, hp, _⟩ := h
  have := hp.length_eq
  simp at this
  subst this
  rfl
theorem empty_step (w : World) : Calls Try.prog 15 #[.agg #[.int .i64 0, .int .i64 0, .slice none 0 0], .int .i64 3] w fun e w' => ∃ A8 c8 A9 c9, e = .returned (.tuple #[.agg #[.int .i64 3, .int .i64 0, .slice A8 0 c8], .slice A9 0 c9, .int .i64 0]) ∧ Below w.heap.size w w' :=
  (Ss.bstep_any 0 0 3 none 0 [] w.heap.size w (Nat.le_refl _) (by simp) (ParcsAt.nil _ _ _)).mono fun e w' h => by
    obtain ⟨n, s, A1, c1, ps, A2, c2, rs, x, hst, rfl, _, _, hb⟩ := h
    rcases hst with ⟨h, _⟩ | ⟨_, rfl, rfl, rfl, hs, rfl⟩
    · omega
    · obtain rfl := sorted_nil hs
      exact ⟨A1, c1, A2, c2, rfl, hb⟩

set_option maxRecDepth 100000 in
set_option maxHeartbeats 4000000 in
theorem walk (now ser : Int) (A : Option Addr) (c : Nat) (qs : List Parc) (t : Int) (w : World) (hql : qs.length * 56 ≤ 140737488351232) (hq : ParcsAt w w.heap.size A qs) :
    Calls Try.prog 4 #[.agg #[.int .i64 now, .int .i64 ser, .slice A qs.length c], .int .i64 t] w fun e w' => e = .returned (.bool true) ∧ Below w.heap.size w w' := by
  have CE := Lib.hid empty_step
  have HQ := Lib.hid hq
  clear hq
  go_enter Try.func4, Try.ntmps4
  have B1 := Lib.hid (show Blk (w.alloc (.cells #[.int .i64 now, .int .i64 ser, .slice A qs.length c] 24)) w.heap.size 24 #[.int .i64 now, .int .i64 ser, .slice A qs.length c] from Blk.fresh _ _ _)
  have HB := Lib.hid ((Below.refl w.heap.size w).alloc (Nat.le_refl _) (.cells #[.int .i64 now, .int .i64 ser, .slice A qs.length c] 24))
  go_wp2_with (refine wpList_whole rfl 24 _ rfl w.heap.size rfl B1.out _ Try.underlying24 rfl (by kernel_rfl) ?_)
  refine (copybus_any now ser A c qs w.heap.size _ (HB.out.size) hql (HQ.out.below HB.out)).mono ?_
  rintro e w1 ⟨A2, c2, rfl, hop, hb⟩
  have H2 := Lib.hid hop.at.1
  have HB := Lib.hid (onward HB.out (Nat.le_refl _) hb)
  have B1 := Lib.hid (B1.out.below hb B1.out.lt)
  clear hb hop
  go_wp2_with fail

  refine (Ss.bstep_any now ser t A2 c2 qs w1.heap.size _ (Nat.le_refl _) hql H2.out).mono ?_
  rintro e w3 ⟨n, s, A3, c3, l, A4, c4, rs, x, hst, rfl, h3, h4, hb⟩
  have hlen := hst.len
  have HST := Lib.hid hst
  clear hst
  have H3 := Lib.hid h3
  have H4 := Lib.hid h4
  have HB := Lib.hid (onward HB.out (Nat.le_refl _) hb)
  have B1 := Lib.hid (B1.out.below hb B1.out.lt)
  clear hb h3 h4 H2

  go_upto_region 2 with fail
  have hb : Below w3.heap.size w3 (w3.alloc (.cells #[.int .i64 n, .int .i64 s, .slice A3 l.length c3] 24)) := (Below.refl _ _).alloc (Nat.le_refl _) _
  have BN3 := Lib.hid (show Blk (w3.alloc (.cells #[.int .i64 n, .int .i64 s, .slice A3 l.length c3] 24)) w3.heap.size 24 #[.int .i64 n, .int .i64 s, .slice A3 l.length c3] from Blk.fresh _ _ _)
  have HB := Lib.hid (onward HB.out (Nat.le_refl _) hb)
  have B1 := Lib.hid (B1.out.below hb B1.out.lt)
  have H3 := Lib.hid ((H3.out.below hb).more hb.size)
  have H4 := Lib.hid ((H4.out.below hb).more hb.size)
  clear hb
  generalize (w3.alloc (.cells #[.int .i64 n, .int .i64 s, .slice A3 l.length c3] 24)) = w3v at *
  obtain ⟨p3, hp3⟩ : ∃ p, w3.heap.size = p := ⟨_, rfl⟩
  rw [hp3] at BN3 ⊢
  clear hp3

  go_wp2_with (refine wpList_whole rfl 24 _ rfl w.heap.size rfl B1.out _ Try.underlying24 rfl (by kernel_rfl) ?_)
  refine (Ss.refbstep_any now ser t A c qs w.heap.size _ HB.out.size hql (HQ.out.below HB.out)).mono ?_
  rintro e w4 ⟨n', s', A5, c5, l', A6, c6, rs', x', hst, rfl, h3, h4, hb⟩
  obtain ⟨rfl, rfl, rfl, rfl, rfl⟩ := HST.out.one hst
  clear hst
  have H5 := Lib.hid h3
  have H6 := Lib.hid h4
  have HB := Lib.hid (onward HB.out (Nat.le_refl _) hb)
  have B1 := Lib.hid (B1.out.below hb B1.out.lt)
  have BN3 := Lib.hid (BN3.out.below hb BN3.out.lt)
  have H3 := Lib.hid ((H3.out.below hb).more hb.size)
  have H4 := Lib.hid ((H4.out.below hb).more hb.size)
  clear hb h3 h4 

  go_upto_region 3 with fail
  have hb : Below w4.heap.size w4 (w4.alloc (.cells #[.int .i64 n, .int .i64 s, .slice A5 l.length c5] 24)) := (Below.refl _ _).alloc (Nat.le_refl _) _
  have BN5 := Lib.hid (show Blk (w4.alloc (.cells #[.int .i64 n, .int .i64 s, .slice A5 l.length c5] 24)) w4.heap.size 24 #[.int .i64 n, .int .i64 s, .slice A5 l.length c5] from Blk.fresh _ _ _)
  have HB := Lib.hid (onward HB.out (Nat.le_refl _) hb)
  have B1 := Lib.hid (B1.out.below hb B1.out.lt)
  have BN3 := Lib.hid (BN3.out.below hb BN3.out.lt)
  have H3 := Lib.hid ((H3.out.below hb).more hb.size)
  have H4 := Lib.hid ((H4.out.below hb).more hb.size)
  have H5 := Lib.hid ((H5.out.below hb).more hb.size)
  have H6 := Lib.hid ((H6.out.below hb).more hb.size)
  clear hb
  generalize (w4.alloc (.cells #[.int .i64 n, .int .i64 s, .slice A5 l.length c5] 24)) = w4v at *
  obtain ⟨p5, hp5⟩ : ∃ p, w4.heap.size = p := ⟨_, rfl⟩
  rw [hp5] at BN5 ⊢
  clear hp5

  clear B1
  go_wp2_with fail
  refine (CE.out _).mono ?_
  rintro e w8 ⟨A8, c8, A9, c9, rfl, hb⟩
  have HB := Lib.hid (onward HB.out (Nat.le_refl _) hb)
  have BN3 := Lib.hid (BN3.out.below hb BN3.out.lt)
  have BN5 := Lib.hid (BN5.out.below hb BN5.out.lt)
  have H3 := Lib.hid ((H3.out.below hb).more hb.size)
  have H4 := Lib.hid ((H4.out.below hb).more hb.size)
  have H5 := Lib.hid ((H5.out.below hb).more hb.size)
  have H6 := Lib.hid ((H6.out.below hb).more hb.size)
  clear hb

  go_upto_region 4 with fail
  have hb : Below w8.heap.size w8 (w8.alloc (.cells #[.int .i64 3, .int .i64 0, .slice A8 0 c8] 24)) := (Below.refl _ _).alloc (Nat.le_refl _) _
  have BN8 := Lib.hid (show Blk (w8.alloc (.cells #[.int .i64 3, .int .i64 0, .slice A8 0 c8] 24)) w8.heap.size 24 #[.int .i64 3, .int .i64 0, .slice A8 0 c8] from Blk.fresh _ _ _)
  have HB := Lib.hid (onward HB.out (Nat.le_refl _) hb)
  have BN3 := Lib.hid (BN3.out.below hb BN3.out.lt)
  have BN5 := Lib.hid (BN5.out.below hb BN5.out.lt)
  have H3 := Lib.hid ((H3.out.below hb).more hb.size)
  have H4 := Lib.hid ((H4.out.below hb).more hb.size)
  have H5 := Lib.hid ((H5.out.below hb).more hb.size)
  have H6 := Lib.hid ((H6.out.below hb).more hb.size)
  clear hb
  generalize (w8.alloc (.cells #[.int .i64 3, .int .i64 0, .slice A8 0 c8] 24)) = w8v at *
  obtain ⟨p8, hp8⟩ : ∃ p, w8.heap.size = p := ⟨_, rfl⟩
  rw [hp8] at BN8 ⊢
  clear hp8

  have hee : (x == x) = true := by simp
  have y0 := BN8.out.cell 0
  simp only [List.getElem?_toArray, List.getElem?_cons_zero, List.getElem?_cons_succ] at y0
  refine wp_region_list ?_

  refine wpList_wanted (by rfl) (fun K hK => ?_)
  go_simp
  try simp only [hee]
  refine hK _ _ ?_
  clear hK K
  try simp only [Act.put, List.setIfInBounds_toArray, List.set_cons_zero, List.set_cons_succ]
  refine wpList_wanted (by rfl) (fun K hK => ?_)
  go_simp
  try simp only [hee]
  refine hK _ _ ?_
  clear hK K
  try simp only [Act.put, List.setIfInBounds_toArray, List.set_cons_zero, List.set_cons_succ]
  refine wpList_wanted (by rfl) (fun K hK => ?_)
  go_simp
  try simp only [hee]
  refine hK _ _ ?_
  clear hK K
  try simp only [Act.put, List.setIfInBounds_toArray, List.set_cons_zero, List.set_cons_succ]
  refine wpList_wanted (by rfl) (fun K hK => ?_)
  go_simp
  try simp only [hee]
  refine hK _ _ ?_
  clear hK K
  try simp only [Act.put, List.setIfInBounds_toArray, List.set_cons_zero, List.set_cons_succ]
  refine wpList_whole (by rfl) 24 _ rfl p3 rfl BN3.out _ Try.underlying24 rfl (by kernel_rfl) ?_
  try simp only [Act.put, List.setIfInBounds_toArray, List.set_cons_zero, List.set_cons_succ]
  refine wpList_whole (by rfl) 24 _ rfl p5 rfl BN5.out _ Try.underlying24 rfl (by kernel_rfl) ?_
  try simp only [Act.put, List.setIfInBounds_toArray, List.set_cons_zero, List.set_cons_succ]
  refine wpList_wanted (by rfl) (fun K hK => ?_)
  go_simp
  go_at_call 14
  refine (sameBus_any n s A3 A5 c3 c5 l w8v.heap.size w8v (Nat.le_refl _) (by omega) H3.out H5.out).mono ?_
  rintro e w9 ⟨rfl, hb⟩
  have HB := Lib.hid (onward HB.out (Nat.le_refl _) hb)
  have BN8 := Lib.hid (BN8.out.below hb BN8.out.lt)
  have H4 := Lib.hid ((H4.out.below hb).more hb.size)
  have H6 := Lib.hid ((H6.out.below hb).more hb.size)
  clear hb y0
  refine hK _ _ ?_
  clear hK K
  try simp only [Act.put, List.setIfInBounds_toArray, List.set_cons_zero, List.set_cons_succ]
  refine wpList_wanted (by rfl) (fun K hK => ?_)
  go_simp
  try simp only [hee]
  refine hK _ _ ?_
  clear hK K
  try simp only [Act.put, List.setIfInBounds_toArray, List.set_cons_zero, List.set_cons_succ]
  refine wpList_wanted (by rfl) (fun K hK => ?_)
  go_simp
  try simp only [hee]
  refine hK _ _ ?_
  clear hK K
  try simp only [Act.put, List.setIfInBounds_toArray, List.set_cons_zero, List.set_cons_succ]
  refine wpList_wanted (by rfl) (fun K hK => ?_)
  go_simp
  try simp only [hee]
  refine hK _ _ ?_
  clear hK K
  try simp only [Act.put, List.setIfInBounds_toArray, List.set_cons_zero, List.set_cons_succ]
  refine wpList_wanted (by rfl) (fun K hK => ?_)
  go_simp
  try simp only [hee]
  refine hK _ _ ?_
  clear hK K
  try simp only [Act.put, List.setIfInBounds_toArray, List.set_cons_zero, List.set_cons_succ]
  refine wpList_wanted (by rfl) (fun K hK => ?_)
  go_simp
  go_at_call 17
  refine (sameParcels_any A4 A6 c4 c6 rs w9.heap.size w9 (Nat.le_refl _) (by omega) H4.out H6.out).mono ?_
  rintro e w10 ⟨rfl, hb⟩
  have HB := Lib.hid (onward HB.out (Nat.le_refl _) hb)
  have BN8 := Lib.hid (BN8.out.below hb BN8.out.lt)
  have y0 := BN8.out.cell 0
  simp only [List.getElem?_toArray, List.getElem?_cons_zero, List.getElem?_cons_succ] at y0
  clear hb
  refine hK _ _ ?_
  clear hK K
  try simp only [Act.put, List.setIfInBounds_toArray, List.set_cons_zero, List.set_cons_succ]
  refine wpList_wanted (by rfl) (fun K hK => ?_)
  go_simp
  try simp only [hee]
  refine hK _ _ ?_
  clear hK K
  try simp only [Act.put, List.setIfInBounds_toArray, List.set_cons_zero, List.set_cons_succ]
  refine wpList_wanted (by rfl) (fun K hK => ?_)
  go_simp
  try simp only [hee]
  refine hK _ _ ?_
  clear hK K
  try simp only [Act.put, List.setIfInBounds_toArray, List.set_cons_zero, List.set_cons_succ]
  refine wpList_wanted (by rfl) (fun K hK => ?_)
  go_simp
  try simp only [hee]
  refine hK _ _ ?_
  clear hK K
  try simp only [Act.put, List.setIfInBounds_toArray, List.set_cons_zero, List.set_cons_succ]
  refine wpList_wanted (by rfl) (fun K hK => ?_)
  go_simp
  try simp only [hee]
  refine hK _ _ ?_
  clear hK K
  try simp only [Act.put, List.setIfInBounds_toArray, List.set_cons_zero, List.set_cons_succ]
  refine wpList_wanted (by rfl) (fun K hK => ?_)
  go_simp
  try simp only [hee]
  refine hK _ _ ?_
  clear hK K
  try simp only [Act.put, List.setIfInBounds_toArray, List.set_cons_zero, List.set_cons_succ]
  refine wpList_wanted (by rfl) (fun K hK => ?_)
  go_simp
  try simp only [hee]
  refine hK _ _ ?_
  clear hK K
  try simp only [Act.put, List.setIfInBounds_toArray, List.set_cons_zero, List.set_cons_succ]
  refine wpList_wanted (by rfl) (fun K hK => ?_)
  go_simp
  try simp only [hee]
  refine hK _ _ ?_
  clear hK K
  try simp only [Act.put, List.setIfInBounds_toArray, List.set_cons_zero, List.set_cons_succ]
  go_wp2_with fail
  go_ret
  exact ⟨rfl, HB.out⟩

set_option maxRecDepth 100000 in
set_option maxHeartbeats 1000000 in
theorem lifted (os : Os) (started : os.Started) (H : Type) (enc : TypeId × Value → H) :
    ReturnsInHanded {} Try.checked os 4 .any (Rows.busStepsSpec.pre6 enc Try.prog Try.f4 Rows.busStepsRow.domain false) (Rows.busStepsSpec.post enc Try.prog Try.f4 false true false false) := by
  refine returnsInHanded_of_change_sized (C := Try.checked) Fr.own started (by kernel_rfl) Try.func4
    (ChangeSpec.witness6 (enc := enc) (C := Try.checked) false ⟨#[], #[.agg #[.int .i64 0, .int .i64 0, .slice none 0 0], .int .i64 0], []⟩ 8 (by kernel_rfl) (by kernel_rfl) (by kernel_rfl) (by kernel_rfl)) ?_
  intro W base args ds gs before hval0 hW _ hsz0 _
  have hval : ∀ (j : Nat) t v, Try.f4.params[j]? = some t → args[j]? = some v → Value.okWide Try.prog W .any base t v := hval0
  have hsz : (DataW.weightsEach Try.prog (Try.f4.params.toList ++ Rows.busStepsSpec.plain.varTypes Try.prog) (ds ++ gs)).all (· ≤ reachBytes) = true := hsz0
  clear hval0 hsz0
  obtain ⟨p, q, hA0, hV0, _⟩ := id hW
  have hA : DataW.TrodAll enc Try.prog W 0 (fun _ => true) true Try.f4.params.toList args.toList ds p := hA0
  rw [Try.params4] at hA hval hsz
  obtain ⟨v0, vs0, d0, ds0, p0, q0, hargs, rfl, rfl, h0, r0⟩ := trodAll_cons hA
  obtain ⟨v1, vs1, d1, ds1, p1, q1, rfl, rfl, rfl, h1, r1⟩ := trodAll_cons r0
  obtain ⟨rfl, rfl, rfl⟩ := trodAll_nil r1
  obtain rfl : args = #[v0, v1] := by cases args; simp_all
  obtain ⟨rfl, rfl⟩ := trodVars_none hV0
  refine Fr.of_walk (f := Try.f4) Fr.laidOut (by rw [Try.params4]; intro t ht; simp at ht; (first | (rcases ht with rfl | rfl | rfl | rfl | rfl | rfl) | (rcases ht with rfl | rfl | rfl | rfl | rfl) | (rcases ht with rfl | rfl | rfl | rfl) | (rcases ht with rfl | rfl | rfl) | (rcases ht with rfl | rfl) | (subst ht)) <;> exact ⟨by kernel_rfl, of_decide_eq_true (by kernel_rfl)⟩) rfl rfl Try.underlying4 (fun _ => rfl) hW ?_
  clear hW hA hA0 hV0
  obtain ⟨now, ser, A, c, qs, rfl, hqc, hqb, hqA, hq, _, _⟩ := Bu.openBus (hval 0 24 v0 rfl rfl) h0 (Op.light_of_each (j := 0) hsz rfl rfl)
  obtain ⟨t, rfl, rfl, rfl, wf_t⟩ := open_int Try.underlying3 (hval 1 3 v1 rfl rfl) h1
  have bd_t := Op.wf_i64 wf_t
  exact walk now ser A c qs t W (by omega) hq

set_option maxHeartbeats 2000000 in
theorem closedFacts : joinedFacts Try.prog 4 Try.f4 Rows.busStepsSpec Rows.busStepsRow = true := by
  unfold joinedFacts
  simp only [Bool.and_eq_true]
  refine ⟨⟨⟨⟨⟨⟨⟨⟨⟨⟨⟨⟨⟨⟨⟨⟨⟨⟨⟨⟨⟨⟨⟨⟨⟨⟨⟨⟨⟨⟨⟨?_, ?_⟩, ?_⟩, ?_⟩, ?_⟩, ?_⟩, ?_⟩, ?_⟩, ?_⟩, ?_⟩, ?_⟩, ?_⟩, ?_⟩, ?_⟩, ?_⟩, ?_⟩, ?_⟩, ?_⟩, ?_⟩, ?_⟩, ?_⟩, ?_⟩, ?_⟩, ?_⟩, ?_⟩, ?_⟩, ?_⟩, ?_⟩, ?_⟩, ?_⟩, ?_⟩, ?_⟩
  · as_aux_lemma => kernel_rfl
  · exact Fr.laidOut
  · exact Facts.mapsRowed_
  · as_aux_lemma => kernel_rfl
  · as_aux_lemma => kernel_rfl
  · as_aux_lemma => kernel_rfl
  · exact Facts.stops_
  · as_aux_lemma => kernel_rfl
  · exact Facts.knobs_
  · as_aux_lemma => kernel_rfl
  · as_aux_lemma => kernel_rfl
  · as_aux_lemma => kernel_rfl
  · as_aux_lemma => kernel_rfl
  · as_aux_lemma => kernel_rfl
  · as_aux_lemma => kernel_rfl
  · as_aux_lemma => kernel_rfl
  · as_aux_lemma => kernel_rfl
  · as_aux_lemma => kernel_rfl
  · as_aux_lemma => kernel_rfl
  · as_aux_lemma => kernel_rfl
  · as_aux_lemma => kernel_rfl
  · as_aux_lemma => kernel_rfl
  · exact Facts.keys_
  · as_aux_lemma => kernel_rfl
  · exact Facts.heard_
  · exact Facts.enter_
  · exact Facts.lifts_
  · exact Facts.make_
  · as_aux_lemma => kernel_rfl
  · as_aux_lemma => kernel_rfl
  · as_aux_lemma => kernel_rfl
  · as_aux_lemma => kernel_rfl

theorem proved : Rows.BusStepsSaid :=
  OpenClaim.holds_of_wide 4 Try.f4 rfl rfl rfl rfl rfl rfl rfl ⟨rfl, rfl, rfl, rfl, rfl⟩ rfl rfl rfl rfl rfl (by kernel_rfl) Try.func4 closedFacts
    (of_decide_eq_true (by kernel_rfl)) (by unfold Func.isWrapper; first | (rw [if_pos (by decide +kernel)]; kernel_rfl) | (rw [if_neg (by decide +kernel)]; exact ⟨rfl, rfl⟩))
    (fun os started H enc _ => lifted os started H enc)

end Go.Proofs.Ytlcpackmoolngaa.lawBusSteps
