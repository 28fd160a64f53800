/- The law BusSends returns true: bus.Send and the reference's Send answer alike for all buses and parcels. Conditions: none. -/
import Derived.Test.YtfaielkkecphbaaFrame
import Derived.Test.YtfaielkkecphbaaFacts
import Derived.Test.YtfaielkkecphbaaSendB
import Derived.Test.YtfaielkkecphbaaSendR
import Derived.Test.YtfaielkkecphbaaOpen
namespace Go.Proofs.Ytfaielkkecphbaa.lawBusSends
open Go.ChangeShapes Go.WideShapes Go.ChangeAt Go.RowKit Go.Proofs.Ytfaielkkecphbaa.Mem Go.Proofs.Ytfaielkkecphbaa.Rws Go.Proofs.Ytfaielkkecphbaa.Bu Go.Proofs.Ytfaielkkecphbaa.Sm
set_option linter.unusedVariables false
set_option linter.unusedSimpArgs false

theorem send_len (now ser : Int) (qs : List Parc) (fm ot dl : Int) (bs : List Nat) : (sendR now ser qs fm ot dl bs).2.2.1.length ≤ 400 := by
  unfold sendR
  (repeat' split) <;> simp
  omega
theorem send_first : sendR 0 0 [] 0 1 0 [] = (0, 1, [⟨0, 1, 0, 0, []⟩], 0) := by
  unfold sendR
  rw [if_neg (fun h => h (by unfold fitsB; omega)), if_neg (by simp), if_neg (by simp)]
  rfl
theorem first_send (w : World) : Calls Try.prog 47 #[.agg #[.int .i64 0, .int .i64 0, .slice none 0 0], .int .i64 0, .int .i64 1, .slice none 0 0, .int .i64 0] w fun e w' => ∃ A7 c7, e = .returned (.tuple #[.agg #[.int .i64 0, .int .i64 1, .slice A7 1 c7], .int .i64 0]) ∧ Below w.heap.size w w' :=
  (send_any 0 0 none 0 [] 0 1 0 none 0 [] w.heap.size w (Nat.le_refl _) (by simp) (ParcsAt.nil _ _ _) (fun _ => rfl) (Nat.zero_le _) (by simp) (Rd.nil _ _ _ _)).mono fun e w' h => by
    rw [send_first] at h
    obtain ⟨A7, c7, rfl, _, hb⟩ := h
    exact ⟨A7, c7, rfl, hb⟩

set_option maxRecDepth 100000 in
set_option maxHeartbeats 4000000 in
theorem walk (now ser : Int) (A : Option Addr) (c : Nat) (qs : List Parc) (fm ot : Int) (AD : Option Addr) (cd : Nat) (bs : List Nat) (dl : Int) (w : World) (hql : qs.length * 56 ≤ 140737488351232) (hq : ParcsAt w w.heap.size A qs) (hA : AD = none → cd = 0) (hnc : bs.length ≤ cd) (hbl : bs.length ≤ 140737488351232) (hd : Rd w w.heap.size 1 AD bs.length (bytesV bs)) :
    Calls Try.prog 11 #[.agg #[.int .i64 now, .int .i64 ser, .slice A qs.length c], .int .i64 fm, .int .i64 ot, .slice AD bs.length cd, .int .i64 dl] w fun e w' => e = .returned (.bool true) ∧ Below w.heap.size w w' := by
  have cS := fun A c AD cd B w h1 h2 h3 h4 h5 => send_any now ser A c qs fm ot dl AD cd bs B w h1 hql h2 h3 h4 hbl h5
  have cR := fun A c AD cd B w h1 h2 h3 h4 h5 => refsend_any now ser A c qs fm ot dl AD cd bs B w h1 hql h2 h3 h4 hbl h5
  have hlen := send_len now ser qs fm ot dl bs
  obtain ⟨r, hr⟩ : ∃ r, sendR now ser qs fm ot dl bs = r := ⟨_, rfl⟩
  rw [hr] at cS cR hlen
  obtain ⟨n1, s1, l, er⟩ := r
  unfold SendAs at cS cR
  dsimp only at cS cR hlen
  have CS := Lib.hid cS
  have CR := Lib.hid cR
  have CT := Lib.hid first_send
  have HQ := Lib.hid hq
  have HD := Lib.hid hd
  clear cS cR hq hd hr
  go_enter Try.func11, Try.ntmps11
  have B1 := Lib.hid (show Blk (w.alloc (.cells #[.int .i64 now, .int .i64 ser, .slice A qs.length c] 60)) w.heap.size 60 #[.int .i64 now, .int .i64 ser, .slice A qs.length c] from Blk.fresh _ _ _)
  have HB := Lib.hid ((Below.refl w.heap.size w).alloc (Nat.le_refl _) (.cells #[.int .i64 now, .int .i64 ser, .slice A qs.length c] 60))
  go_wp2_with (refine wpList_whole rfl 60 _ rfl w.heap.size rfl B1.out _ Try.underlying60 rfl (by kernel_rfl) ?_)
  refine (copybus_any now ser A c qs w.heap.size _ (by simp) hql (HQ.out.below HB.out)).mono ?_
  rintro e w1 ⟨A2, c2, rfl, hop, hb⟩
  have H2 := Lib.hid hop.at.1
  have HB := Lib.hid (onward HB.out (Nat.le_refl _) hb)
  have B1 := Lib.hid (B1.out.below hb B1.out.lt)
  clear hb hop
  go_wp2_with fail
  refine (bytes_any AD cd bs w.heap.size _ HB.out.size hA hnc (by omega) (HD.out.below HB.out)).mono ?_
  rintro e w2 ⟨AD2, cd2, rfl, hown, hb⟩
  obtain ⟨ha2, hc2⟩ := Mem.own_cap hown
  have HD2 := Lib.hid (Rd.of_own hown)
  have HB := Lib.hid (onward HB.out (Nat.le_refl _) hb)
  have B1 := Lib.hid (B1.out.below hb B1.out.lt)
  have H2 := Lib.hid ((H2.out.below hb).more hb.size)
  clear hb hown
  go_wp2_with fail
  refine (CS.out A2 c2 AD2 cd2 w2.heap.size _ (Nat.le_refl _) H2.out ha2 hc2 HD2.out).mono ?_
  rintro e w3 ⟨A3, c3, rfl, h3, hb⟩
  have H3 := Lib.hid h3
  have HB := Lib.hid (onward HB.out (Nat.le_refl _) hb)
  have B1 := Lib.hid (B1.out.below hb B1.out.lt)
  clear hb h3 H2 HD2 ha2 hc2
  go_upto_region 2 with fail
  have hb : Below w3.heap.size w3 (w3.alloc (.cells #[.int .i64 n1, .int .i64 s1, .slice A3 l.length c3] 60)) := (Below.refl _ _).alloc (Nat.le_refl _) _
  have BN3 := Lib.hid (show Blk (w3.alloc (.cells #[.int .i64 n1, .int .i64 s1, .slice A3 l.length c3] 60)) w3.heap.size 60 #[.int .i64 n1, .int .i64 s1, .slice A3 l.length c3] from Blk.fresh _ _ _)
  have HB := Lib.hid (onward HB.out (Nat.le_refl _) hb)
  have B1 := Lib.hid (B1.out.below hb B1.out.lt)
  have H3 := Lib.hid ((H3.out.below hb).more hb.size)
  clear hb
  generalize (w3.alloc (.cells #[.int .i64 n1, .int .i64 s1, .slice A3 l.length c3] 60)) = w3v at *
  obtain ⟨p3, hp3⟩ : ∃ p, w3.heap.size = p := ⟨_, rfl⟩
  rw [hp3] at BN3 ⊢
  clear hp3
  go_wp2_with (refine wpList_whole rfl 60 _ rfl w.heap.size rfl B1.out _ Try.underlying60 rfl (by kernel_rfl) ?_)
  refine (CR.out A c AD cd w.heap.size _ HB.out.size (HQ.out.below HB.out) hA hnc (HD.out.below HB.out)).mono ?_
  rintro e w4 ⟨A5, c5, rfl, h5, hb⟩
  have H5 := Lib.hid h5
  have HB := Lib.hid (onward HB.out (Nat.le_refl _) hb)
  have BN3 := Lib.hid (BN3.out.below hb BN3.out.lt)
  have H3 := Lib.hid ((H3.out.below hb).more hb.size)
  clear hb h5 B1
  go_upto_region 3 with fail
  have hb : Below w4.heap.size w4 (w4.alloc (.cells #[.int .i64 n1, .int .i64 s1, .slice A5 l.length c5] 60)) := (Below.refl _ _).alloc (Nat.le_refl _) _
  have BN5 := Lib.hid (show Blk (w4.alloc (.cells #[.int .i64 n1, .int .i64 s1, .slice A5 l.length c5] 60)) w4.heap.size 60 #[.int .i64 n1, .int .i64 s1, .slice A5 l.length c5] from Blk.fresh _ _ _)
  have HB := Lib.hid (onward HB.out (Nat.le_refl _) hb)
  have BN3 := Lib.hid (BN3.out.below hb BN3.out.lt)
  have H3 := Lib.hid ((H3.out.below hb).more hb.size)
  have H5 := Lib.hid ((H5.out.below hb).more hb.size)
  clear hb
  generalize (w4.alloc (.cells #[.int .i64 n1, .int .i64 s1, .slice A5 l.length c5] 60)) = w4v at *
  obtain ⟨p5, hp5⟩ : ∃ p, w4.heap.size = p := ⟨_, rfl⟩
  rw [hp5] at BN5 ⊢
  clear hp5
  go_wp2_with fail
  refine (CT.out _).mono ?_
  rintro e w5 ⟨A7, c7, rfl, hb⟩
  have HB := Lib.hid (onward HB.out (Nat.le_refl _) hb)
  have BN3 := Lib.hid (BN3.out.below hb BN3.out.lt)
  have BN5 := Lib.hid (BN5.out.below hb BN5.out.lt)
  have H3 := Lib.hid ((H3.out.below hb).more hb.size)
  have H5 := Lib.hid ((H5.out.below hb).more hb.size)
  clear hb
  go_upto_region 4 with fail
  have hb : Below w5.heap.size w5 (w5.alloc (.cells #[.int .i64 0, .int .i64 1, .slice A7 1 c7] 60)) := (Below.refl _ _).alloc (Nat.le_refl _) _
  have BN7 := Lib.hid (show Blk (w5.alloc (.cells #[.int .i64 0, .int .i64 1, .slice A7 1 c7] 60)) w5.heap.size 60 #[.int .i64 0, .int .i64 1, .slice A7 1 c7] from Blk.fresh _ _ _)
  have HB := Lib.hid (onward HB.out (Nat.le_refl _) hb)
  have BN3 := Lib.hid (BN3.out.below hb BN3.out.lt)
  have BN5 := Lib.hid (BN5.out.below hb BN5.out.lt)
  have H3 := Lib.hid ((H3.out.below hb).more hb.size)
  have H5 := Lib.hid ((H5.out.below hb).more hb.size)
  clear hb
  generalize (w5.alloc (.cells #[.int .i64 0, .int .i64 1, .slice A7 1 c7] 60)) = w5v at *
  obtain ⟨p7, hp7⟩ : ∃ p, w5.heap.size = p := ⟨_, rfl⟩
  rw [hp7] at BN7 ⊢
  clear hp7
  have y1 := BN7.out.cell 1
  simp only [List.getElem?_toArray, List.getElem?_cons_zero, List.getElem?_cons_succ] at y1
  have hee : (er == er) = true := by simp
  refine wp_region_list ?_
  iterate 4
    refine wpList_wanted (by rfl) (fun K hK => ?_)
    go_simp
    try simp only [hee]
    refine hK _ _ ?_
    clear hK K
    try simp only [Act.put, List.setIfInBounds_toArray, List.set_cons_zero, List.set_cons_succ]
  refine wpList_whole (by rfl) 60 _ rfl p3 rfl BN3.out _ Try.underlying60 rfl (by kernel_rfl) ?_
  try simp only [Act.put, List.setIfInBounds_toArray, List.set_cons_zero, List.set_cons_succ]
  refine wpList_whole (by rfl) 60 _ rfl p5 rfl BN5.out _ Try.underlying60 rfl (by kernel_rfl) ?_
  try simp only [Act.put, List.setIfInBounds_toArray, List.set_cons_zero, List.set_cons_succ]
  refine wpList_wanted (by rfl) (fun K hK => ?_)
  go_simp
  go_at_call 50
  refine (sameBus_any n1 s1 A3 A5 c3 c5 l w5v.heap.size w5v (Nat.le_refl _) (by omega) H3.out H5.out).mono ?_
  rintro e w6 ⟨rfl, hb⟩
  have HB := Lib.hid (onward HB.out (Nat.le_refl _) hb)
  have BN7 := Lib.hid (BN7.out.below hb BN7.out.lt)
  clear hb y1
  have y1 := BN7.out.cell 1
  simp only [List.getElem?_toArray, List.getElem?_cons_zero, List.getElem?_cons_succ] at y1
  go_wp2_with fail
  go_ret
  exact ⟨rfl, HB.out⟩
set_option maxRecDepth 100000 in
set_option maxHeartbeats 1000000 in
theorem lifted (os : Os) (started : os.Started) (H : Type) (enc : TypeId × Value → H) :
    ReturnsInHanded {} Try.checked os 11 .any (Rows.busSendsSpec.pre6 enc Try.prog Try.f11 Rows.busSendsRow.domain false) (Rows.busSendsSpec.post enc Try.prog Try.f11 false true false false) := by
  refine returnsInHanded_of_change_sized (C := Try.checked) Fr.own started (by kernel_rfl) Try.func11
    (ChangeSpec.witness6 (enc := enc) (C := Try.checked) false ⟨#[], #[.agg #[.int .i64 0, .int .i64 0, .slice none 0 0], .int .i64 0, .int .i64 0, .slice none 0 0, .int .i64 0], []⟩ 8 (by kernel_rfl) (by kernel_rfl) (by kernel_rfl) (by kernel_rfl)) ?_
  intro W base args ds gs before hval0 hW _ hsz0 _
  have hval : ∀ (j : Nat) t v, Try.f11.params[j]? = some t → args[j]? = some v → Value.okWide Try.prog W .any base t v := hval0
  have hsz : (DataW.weightsEach Try.prog (Try.f11.params.toList ++ Rows.busSendsSpec.plain.varTypes Try.prog) (ds ++ gs)).all (· ≤ reachBytes) = true := hsz0
  clear hval0 hsz0
  obtain ⟨p, q, hA0, hV0, _⟩ := id hW
  have hA : DataW.TrodAll enc Try.prog W 0 (fun _ => true) true Try.f11.params.toList args.toList ds p := hA0
  rw [Try.params11] at hA hval hsz
  obtain ⟨v0, vs0, d0, ds0, p0, q0, hargs, rfl, rfl, h0, r0⟩ := trodAll_cons hA
  obtain ⟨v1, vs1, d1, ds1, p1, q1, rfl, rfl, rfl, h1, r1⟩ := trodAll_cons r0
  obtain ⟨v2, vs2, d2, ds2, p2, q2, rfl, rfl, rfl, h2, r2⟩ := trodAll_cons r1
  obtain ⟨v3, vs3, d3, ds3, p3, q3, rfl, rfl, rfl, h3, r3⟩ := trodAll_cons r2
  obtain ⟨v4, vs4, d4, ds4, p4, q4, rfl, rfl, rfl, h4, r4⟩ := trodAll_cons r3
  obtain ⟨rfl, rfl, rfl⟩ := trodAll_nil r4
  obtain rfl : args = #[v0, v1, v2, v3, v4] := by cases args; simp_all
  obtain ⟨rfl, rfl⟩ := trodVars_none hV0
  refine Fr.of_walk (f := Try.f11) Fr.laidOut (by rw [Try.params11]; intro t ht; simp at ht; (first | (rcases ht with rfl | rfl | rfl | rfl | rfl | rfl) | (rcases ht with rfl | rfl | rfl | rfl | rfl) | (rcases ht with rfl | rfl | rfl | rfl) | (rcases ht with rfl | rfl | rfl) | (rcases ht with rfl | rfl) | (subst ht)) <;> exact ⟨by kernel_rfl, of_decide_eq_true (by kernel_rfl)⟩) rfl rfl Try.underlying4 (fun _ => rfl) hW ?_
  clear hW hA hA0 hV0
  obtain ⟨now, ser, A, c, qs, rfl, hqc, hqb, hqA, hq, _, _⟩ := Bu.openBus (hval 0 60 v0 rfl rfl) h0 (Op.light_of_each (j := 0) hsz rfl rfl)
  obtain ⟨fm, rfl, rfl, rfl, wf_fm⟩ := open_int Try.underlying3 (hval 1 3 v1 rfl rfl) h1
  have bd_fm := Op.wf_i64 wf_fm
  obtain ⟨ot, rfl, rfl, rfl, wf_ot⟩ := open_int Try.underlying3 (hval 2 3 v2 rfl rfl) h2
  have bd_ot := Op.wf_i64 wf_ot
  obtain ⟨AD, cd, bs, rfl, g2, g3, g4, g5, g6⟩ := Sm.openBytes (hval 3 22 v3 rfl rfl) h3 (Op.light_of_each (j := 3) hsz rfl rfl)
  obtain ⟨dl, rfl, rfl, rfl, wf_dl⟩ := open_int Try.underlying3 (hval 4 3 v4 rfl rfl) h4
  have bd_dl := Op.wf_i64 wf_dl
  exact walk now ser A c qs fm ot AD cd bs dl W (by omega) hq g4 g2 (by omega) g5

theorem closedFacts : joinedFacts Try.prog 11 Try.f11 Rows.busSendsSpec Rows.busSendsRow = true := by
  unfold joinedFacts
  simp only [Bool.and_eq_true]
  refine ⟨⟨⟨⟨⟨⟨⟨⟨⟨⟨⟨⟨⟨⟨⟨⟨⟨⟨⟨⟨⟨⟨⟨⟨⟨⟨⟨⟨⟨⟨⟨?_, ?_⟩, ?_⟩, ?_⟩, ?_⟩, ?_⟩, ?_⟩, ?_⟩, ?_⟩, ?_⟩, ?_⟩, ?_⟩, ?_⟩, ?_⟩, ?_⟩, ?_⟩, ?_⟩, ?_⟩, ?_⟩, ?_⟩, ?_⟩, ?_⟩, ?_⟩, ?_⟩, ?_⟩, ?_⟩, ?_⟩, ?_⟩, ?_⟩, ?_⟩, ?_⟩, ?_⟩
  · as_aux_lemma => kernel_rfl
  · exact Fr.laidOut
  · exact Facts.mapsRowed_
  · as_aux_lemma => kernel_rfl
  · as_aux_lemma => kernel_rfl
  · as_aux_lemma => kernel_rfl
  · exact Facts.stops_
  · as_aux_lemma => kernel_rfl
  · exact Facts.knobs_
  · as_aux_lemma => kernel_rfl
  · as_aux_lemma => kernel_rfl
  · as_aux_lemma => kernel_rfl
  · as_aux_lemma => kernel_rfl
  · as_aux_lemma => kernel_rfl
  · as_aux_lemma => kernel_rfl
  · as_aux_lemma => kernel_rfl
  · as_aux_lemma => kernel_rfl
  · as_aux_lemma => kernel_rfl
  · as_aux_lemma => kernel_rfl
  · as_aux_lemma => kernel_rfl
  · as_aux_lemma => kernel_rfl
  · as_aux_lemma => kernel_rfl
  · exact Facts.keys_
  · as_aux_lemma => kernel_rfl
  · exact Facts.heard_
  · exact Facts.enter_
  · exact Facts.lifts_
  · exact Facts.make_
  · as_aux_lemma => kernel_rfl
  · as_aux_lemma => kernel_rfl
  · as_aux_lemma => kernel_rfl
  · as_aux_lemma => kernel_rfl

theorem proved : Rows.BusSendsSaid :=
  OpenClaim.holds_of_wide 11 Try.f11 rfl rfl rfl rfl rfl rfl rfl ⟨rfl, rfl, rfl, rfl, rfl⟩ rfl rfl rfl rfl rfl (by kernel_rfl) Try.func11 closedFacts
    (of_decide_eq_true (by kernel_rfl)) (by unfold Func.isWrapper; first | (rw [if_pos (by decide +kernel)]; kernel_rfl) | (rw [if_neg (by decide +kernel)]; exact ⟨rfl, rfl⟩))
    (fun os started H enc _ => lifted os started H enc)

end Go.Proofs.Ytfaielkkecphbaa.lawBusSends
