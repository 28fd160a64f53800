/- The law WireDecodes returns true: wire.Decode and the reference's Decode answer alike for all bytes. Conditions: none. -/
import Derived.Test.YtjfllpmiajkenaaFrame
import Derived.Test.YtjfllpmiajkenaaFacts
import Derived.Test.YtjfllpmiajkenaaDec
import Derived.Test.YtjfllpmiajkenaaSame
namespace Go.Proofs.Ytjfllpmiajkenaa.lawWireDecodes
open Go.ChangeShapes Go.WideShapes Go.ChangeAt Go.RowKit Go.Proofs.Ytjfllpmiajkenaa.Mem Go.Proofs.Ytjfllpmiajkenaa.Sm Go.Proofs.Ytjfllpmiajkenaa.Ms Go.Proofs.Ytjfllpmiajkenaa.Rws
set_option linter.unusedVariables false

def dk (bs : List Nat) : Int := if decE bs = 0 then (bAt bs 1 : Nat) else 0
def df (bs : List Nat) : Int := if decE bs = 0 then (bAt bs 2 : Nat) else 0
def dn (bs : List Nat) : Int := if decE bs = 0 then (valB bs 3 4 : Nat) else 0
def dz (bs : List Nat) : List Int := if decE bs = 0 then decZ bs (decN bs) else []
theorem dz_len {bs : List Nat} (h : ∀ x ∈ bs, x < 256) : (dz bs).length ≤ 256 := by
  unfold dz
  split
  · rw [decZ_len]; exact Nat.le_of_lt (bAt_lt h 7)
  · simp
/-- what Decode answers, in one form -/
theorem dec_out {w w' : World} {bs : List Nat} {e : Ending} (h : DecAs w w' bs e) : ∃ A c, e = .returned (.tuple #[msgV (dk bs) (df bs) (dn bs) A (dz bs).length c, .int .i64 (decE bs)]) ∧ Rd w' w'.heap.size 1 A (dz bs).length (intsV (dz bs)) ∧ Below w.heap.size w w' := by
  unfold DecAs at h
  unfold dk df dn dz
  by_cases hE : decE bs = 0
  · rw [if_pos hE] at h
    obtain ⟨A, c, rfl, hown, hb⟩ := h
    rw [if_pos hE, if_pos hE, if_pos hE, if_pos hE, decZ_len, hE]
    exact ⟨A, c, rfl, Rd.of_own hown, hb⟩
  · rw [if_neg hE] at h
    obtain ⟨rfl, hb⟩ := h
    rw [if_neg hE, if_neg hE, if_neg hE, if_neg hE]
    exact ⟨none, 0, rfl, Rd.nil _ _ _ _, hb⟩

set_option maxRecDepth 100000 in
set_option maxHeartbeats 1000000 in
theorem same_any (k f n : Int) (A A' : Option Addr) (c c' : Nat) (zs : List Int) (B : Nat) (w : World) (hB : B ≤ w.heap.size) (hl : zs.length ≤ 140737488355328) (hr : Rd w B 1 A zs.length (Ms.intsV zs)) (hr' : Rd w B 1 A' zs.length (Ms.intsV zs)) :
    Calls Try.prog 19 #[Ms.msgV k f n A zs.length c, Ms.msgV k f n A' zs.length c'] w fun e w' => e = .returned (.bool true) ∧ Below w.heap.size w w' := by
  have HR := Lib.hid ((hr.alloc hB (.cells (Ms.msgC k f n A zs.length c) 41)).alloc (by simp; omega) (.cells (Ms.msgC k f n A' zs.length c') 41))
  have HR' := Lib.hid ((hr'.alloc hB (.cells (Ms.msgC k f n A zs.length c) 41)).alloc (by simp; omega) (.cells (Ms.msgC k f n A' zs.length c') 41))
  have HB := Lib.hid (((Below.refl w.heap.size w).alloc (Nat.le_refl _) (.cells (Ms.msgC k f n A zs.length c) 41)).alloc (by simp) (.cells (Ms.msgC k f n A' zs.length c') 41))
  clear hr hr'
  unfold Ms.msgV Ms.msgC at *
  go_enter Try.func19, Try.ntmps19
  go_wp2_with (go_at_call 56; refine (Ms.sameInts_any A A' c c' zs B _ hl HR.out HR'.out).mono ?_; rintro e w1 ⟨rfl, hb1⟩)
  go_ret
  exact ⟨rfl, onward HB.out (Nat.le_refl _) hb1⟩

set_option maxRecDepth 100000 in
set_option maxHeartbeats 1000000 in
theorem walk (A : Option Addr) (c : Nat) (bs : List Nat) (w : World) (hA : A = none → c = 0) (hnc : bs.length ≤ c) (hcm : c ≤ maxLen) (hc : bs.length ≤ 140737488351232) (hbs : ∀ x ∈ bs, x < 256) (hr : Rd w w.heap.size 1 A bs.length (bytesV bs)) :
    Calls Try.prog 5 #[.slice A bs.length c] w fun e w' => e = .returned (.bool true) ∧ Below w.heap.size w w' := by
  have Hr := Lib.hid hr
  have Hbs := Lib.hid hbs
  clear hr hbs
  go_enter Try.func5, Try.ntmps5
  go_wp2_with fail
  refine (bytes_any A c bs w.heap.size _ (Nat.le_refl _) hA hnc (by omega) Hr.out).mono ?_
  rintro e w1 ⟨A1, c1, rfl, hown, hb1⟩
  have HO1 := Lib.hid hown
  clear hown
  have HM := Lib.hid (own_form HO1.out)
  have hcm1 : c1 ≤ maxLen := by
    obtain ⟨_, _, hv, _, h3, _⟩ := HM.out
    injection hv with _ _ h; subst h; exact h3
  clear HM
  go_wp2_with fail
  refine (decode_any A1 c1 bs _ _ (Nat.le_refl _) (fun h => (own_nil HO1.out h).2) (own_cap HO1.out) hcm1 hc Hbs.out (Rd.of_own HO1.out)).mono ?_
  intro e w2 hop
  obtain ⟨A2, c2, rfl, hr2, hb2⟩ := dec_out hop
  clear hop
  have HB := Lib.hid (onward hb1 (Nat.le_refl _) hb2)
  have H2 := Lib.hid hr2
  have HZ := Lib.hid (dz_len Hbs.out)
  clear hb1 hb2 hr2 HO1
  obtain ⟨k, hk⟩ : ∃ k, dk bs = k := ⟨_, rfl⟩
  obtain ⟨f, hf⟩ : ∃ k, df bs = k := ⟨_, rfl⟩
  obtain ⟨n, hn⟩ : ∃ k, dn bs = k := ⟨_, rfl⟩
  obtain ⟨zs, hz⟩ : ∃ k, dz bs = k := ⟨_, rfl⟩
  obtain ⟨E, hE⟩ : ∃ k, decE bs = k := ⟨_, rfl⟩
  have HQ := Lib.hid (And.intro hk (And.intro hf (And.intro hn (And.intro hz hE))))
  rw [hz] at H2 HZ
  rw [hk, hf, hn, hz, hE]
  clear hk hf hn hz hE
  have iM : (Try.prog.info? 41).map (·.size) = some (Ms.msgC k f n A2 zs.length c2).size := by kernel_rfl
  have zM : (#[.int .i64 0, .int .i64 0, .int .i64 0, .slice none 0 0] : Array Value).size = (Ms.msgC k f n A2 zs.length c2).size := by kernel_rfl
  have oM : (Ms.msgC k f n A2 zs.length c2).all (·.oneCell') = true := by simp [Ms.msgC, Value.oneCell']
  have F2 : Hid (Blk (w2.alloc (.cells #[.int .i64 0, .int .i64 0, .int .i64 0, .slice none 0 0] 41)) w2.heap.size 41 #[.int .i64 0, .int .i64 0, .int .i64 0, .slice none 0 0]) := Lib.hid (Blk.fresh _ _ _)
  have B2 := Lib.hid (F2.out.setRow (Ms.msgC k f n A2 zs.length c2))
  have BEL := Lib.hid (below_setRow ((Below.refl w2.heap.size w2).alloc (Nat.le_refl _) (.cells #[.int .i64 0, .int .i64 0, .int .i64 0, .slice none 0 0] 41)) (Nat.le_refl _) (Ms.msgC k f n A2 zs.length c2))
  rw [show msgV k f n A2 zs.length c2 = .agg (Ms.msgC k f n A2 zs.length c2) from rfl]
  obtain ⟨R2, hR2⟩ : ∃ R, Ms.msgC k f n A2 zs.length c2 = R := ⟨_, rfl⟩
  rw [hR2] at iM zM oM B2 BEL ⊢
  have HR2 := Lib.hid hR2
  clear hR2
  go_upto_region 2 with (refine wpList_store_row rfl 41 _ _ rfl w2.heap.size R2 rfl rfl 41 _ F2.out iM zM oM ?_)
  clear F2
  generalize ((w2.alloc (.cells #[.int .i64 0, .int .i64 0, .int .i64 0, .slice none 0 0] 41)).setRow w2.heap.size R2) = w3 at *
  obtain ⟨p2, hp2⟩ : ∃ p, w2.heap.size = p := ⟨_, rfl⟩
  have HB := Lib.hid (onward HB.out (Nat.le_refl _) BEL.out)
  have H2 := Lib.hid ((H2.out.below BEL.out).more BEL.out.size)
  rw [hp2] at B2 ⊢
  clear BEL hp2
  go_wp2_with fail
  refine (refdecode_any A c bs w.heap.size _ HB.out.size hA hnc hcm hc Hbs.out (Hr.out.below HB.out)).mono ?_
  intro e w4 hop
  obtain ⟨A3, c3, rfl, hr3, hb3⟩ := dec_out hop
  clear hop
  have HB := Lib.hid (onward HB.out (Nat.le_refl _) hb3)
  have B2 := Lib.hid (B2.out.below hb3 B2.out.lt)
  have H2 := Lib.hid ((H2.out.below hb3).more hb3.size)
  have H3 := Lib.hid hr3
  clear hb3 hr3
  obtain ⟨hk, hf, hn, hz, hE⟩ := HQ.out
  rw [hz] at H3
  rw [hk, hf, hn, hz, hE]
  clear hk hf hn hz hE
  have iM3 : (Try.prog.info? 41).map (·.size) = some (Ms.msgC k f n A3 zs.length c3).size := by kernel_rfl
  have zM3 : (#[.int .i64 0, .int .i64 0, .int .i64 0, .slice none 0 0] : Array Value).size = (Ms.msgC k f n A3 zs.length c3).size := by kernel_rfl
  have oM3 : (Ms.msgC k f n A3 zs.length c3).all (·.oneCell') = true := by simp [Ms.msgC, Value.oneCell']
  have F3 : Hid (Blk (w4.alloc (.cells #[.int .i64 0, .int .i64 0, .int .i64 0, .slice none 0 0] 41)) w4.heap.size 41 #[.int .i64 0, .int .i64 0, .int .i64 0, .slice none 0 0]) := Lib.hid (Blk.fresh _ _ _)
  have B3 := Lib.hid (F3.out.setRow (Ms.msgC k f n A3 zs.length c3))
  have BEL := Lib.hid (below_setRow ((Below.refl w4.heap.size w4).alloc (Nat.le_refl _) (.cells #[.int .i64 0, .int .i64 0, .int .i64 0, .slice none 0 0] 41)) (Nat.le_refl _) (Ms.msgC k f n A3 zs.length c3))
  rw [show msgV k f n A3 zs.length c3 = .agg (Ms.msgC k f n A3 zs.length c3) from rfl]
  obtain ⟨R3, hR3⟩ : ∃ R, Ms.msgC k f n A3 zs.length c3 = R := ⟨_, rfl⟩
  rw [hR3] at iM3 zM3 oM3 B3 BEL ⊢
  have HR3 := Lib.hid hR3
  clear hR3
  go_upto_region 3 with (refine wpList_store_row rfl 41 _ _ rfl w4.heap.size R3 rfl rfl 41 _ F3.out iM3 zM3 oM3 ?_)
  clear F3
  generalize ((w4.alloc (.cells #[.int .i64 0, .int .i64 0, .int .i64 0, .slice none 0 0] 41)).setRow w4.heap.size R3) = w5 at *
  obtain ⟨p3, hp3⟩ : ∃ p, w4.heap.size = p := ⟨_, rfl⟩
  have HB := Lib.hid (onward HB.out (Nat.le_refl _) BEL.out)
  have B2 := Lib.hid (B2.out.below BEL.out B2.out.lt)
  have H2 := Lib.hid ((H2.out.below BEL.out).more BEL.out.size)
  have H3 := Lib.hid ((H3.out.below BEL.out).more BEL.out.size)
  rw [hp3] at B3 ⊢
  clear BEL hp3
  go_wp2_with (first | (refine wpList_whole (by rfl) 41 _ rfl p2 rfl B2.out _ Try.underlying41 rfl iM ?_) | (refine wpList_whole (by rfl) 41 _ rfl p3 rfl B3.out _ Try.underlying41 rfl iM3 ?_))
  rw [← HR2.out, ← HR3.out]
  have hzl : zs.length ≤ 140737488355328 := by have := HZ.out; omega
  refine (same_any k f n A2 A3 c2 c3 zs w5.heap.size w5 (Nat.le_refl _) hzl (H2.out.more (by have := B2.out.lt; have := B3.out.lt; omega)) (H3.out.more (by have := B2.out.lt; have := B3.out.lt; omega))).mono ?_
  rintro e w6 ⟨rfl, hb⟩
  have HB := Lib.hid (onward HB.out (Nat.le_refl _) hb)
  clear hb
  go_wp2_with fail
  go_ret
  exact ⟨rfl, HB.out⟩
set_option maxRecDepth 100000 in
set_option maxHeartbeats 1000000 in
theorem lifted (os : Os) (started : os.Started) (H : Type) (enc : TypeId × Value → H) :
    ReturnsInHanded {} Try.checked os 5 .any (Rows.wireDecodesSpec.pre6 enc Try.prog Try.f5 Rows.wireDecodesRow.domain false) (Rows.wireDecodesSpec.post enc Try.prog Try.f5 false true false false) := by
  refine returnsInHanded_of_change_sized (C := Try.checked) Fr.own started (by kernel_rfl) Try.func5
    (ChangeSpec.witness6 (enc := enc) (C := Try.checked) false ⟨#[], #[.slice none 0 0], []⟩ 8 (by kernel_rfl) (by kernel_rfl) (by kernel_rfl) (by kernel_rfl)) ?_
  intro W base args ds gs before hval0 hW _ hsz0 _
  have hval : ∀ (j : Nat) t v, Try.f5.params[j]? = some t → args[j]? = some v → Value.okWide Try.prog W .any base t v := hval0
  have hsz : (DataW.weightsEach Try.prog (Try.f5.params.toList ++ Rows.wireDecodesSpec.plain.varTypes Try.prog) (ds ++ gs)).all (· ≤ reachBytes) = true := hsz0
  clear hval0 hsz0
  obtain ⟨p, q, hA0, hV0, _⟩ := id hW
  have hA : DataW.TrodAll enc Try.prog W 0 (fun _ => true) true Try.f5.params.toList args.toList ds p := hA0
  rw [Try.params5] at hA hval hsz
  obtain ⟨v0, vs0, d0, ds0, p0, q0, hargs, rfl, rfl, h0, r0⟩ := trodAll_cons hA
  obtain ⟨rfl, rfl, rfl⟩ := trodAll_nil r0
  obtain rfl : args = #[v0] := by cases args; simp_all
  obtain ⟨rfl, rfl⟩ := trodVars_none hV0
  refine Fr.of_walk (f := Try.f5) Fr.laidOut (by rw [Try.params5]; intro t ht; simp at ht; (first | (rcases ht with rfl | rfl | rfl | rfl | rfl | rfl) | (rcases ht with rfl | rfl | rfl | rfl | rfl) | (rcases ht with rfl | rfl | rfl | rfl) | (rcases ht with rfl | rfl | rfl) | (rcases ht with rfl | rfl) | (subst ht)) <;> exact ⟨by kernel_rfl, of_decide_eq_true (by kernel_rfl)⟩) rfl rfl Try.underlying4 (fun _ => rfl) hW ?_
  clear hW hA hA0 hV0
  obtain ⟨A, c, bs, rfl, h2, h3, h4, h5, h6⟩ := Sm.openBytes (hval 0 54 v0 rfl rfl) h0 (Op.light_of_each (j := 0) hsz rfl rfl)
  exact walk A c bs W h4 h2 (by unfold maxLen; omega) (by omega) h6 h5

theorem closedFacts : joinedFacts Try.prog 5 Try.f5 Rows.wireDecodesSpec Rows.wireDecodesRow = true := by
  unfold joinedFacts
  simp only [Bool.and_eq_true]
  refine ⟨⟨⟨⟨⟨⟨⟨⟨⟨⟨⟨⟨⟨⟨⟨⟨⟨⟨⟨⟨⟨⟨⟨⟨⟨⟨⟨⟨⟨⟨⟨?_, ?_⟩, ?_⟩, ?_⟩, ?_⟩, ?_⟩, ?_⟩, ?_⟩, ?_⟩, ?_⟩, ?_⟩, ?_⟩, ?_⟩, ?_⟩, ?_⟩, ?_⟩, ?_⟩, ?_⟩, ?_⟩, ?_⟩, ?_⟩, ?_⟩, ?_⟩, ?_⟩, ?_⟩, ?_⟩, ?_⟩, ?_⟩, ?_⟩, ?_⟩, ?_⟩, ?_⟩
  · as_aux_lemma => kernel_rfl
  · exact Fr.laidOut
  · exact Facts.mapsRowed_
  · as_aux_lemma => kernel_rfl
  · as_aux_lemma => kernel_rfl
  · as_aux_lemma => kernel_rfl
  · exact Facts.stops_
  · as_aux_lemma => kernel_rfl
  · exact Facts.knobs_
  · as_aux_lemma => kernel_rfl
  · as_aux_lemma => kernel_rfl
  · as_aux_lemma => kernel_rfl
  · as_aux_lemma => kernel_rfl
  · as_aux_lemma => kernel_rfl
  · as_aux_lemma => kernel_rfl
  · as_aux_lemma => kernel_rfl
  · as_aux_lemma => kernel_rfl
  · as_aux_lemma => kernel_rfl
  · as_aux_lemma => kernel_rfl
  · as_aux_lemma => kernel_rfl
  · as_aux_lemma => kernel_rfl
  · as_aux_lemma => kernel_rfl
  · exact Facts.keys_
  · as_aux_lemma => kernel_rfl
  · exact Facts.heard_
  · exact Facts.enter_
  · exact Facts.lifts_
  · exact Facts.make_
  · as_aux_lemma => kernel_rfl
  · as_aux_lemma => kernel_rfl
  · as_aux_lemma => kernel_rfl
  · as_aux_lemma => kernel_rfl

theorem proved : Rows.WireDecodesSaid :=
  OpenClaim.holds_of_wide 5 Try.f5 rfl rfl rfl rfl rfl rfl rfl ⟨rfl, rfl, rfl, rfl, rfl⟩ rfl rfl rfl rfl rfl (by kernel_rfl) Try.func5 closedFacts
    (of_decide_eq_true (by kernel_rfl)) (by unfold Func.isWrapper; first | (rw [if_pos (by decide +kernel)]; kernel_rfl) | (rw [if_neg (by decide +kernel)]; exact ⟨rfl, rfl⟩))
    (fun os started H enc _ => lifted os started H enc)

end Go.Proofs.Ytjfllpmiajkenaa.lawWireDecodes
