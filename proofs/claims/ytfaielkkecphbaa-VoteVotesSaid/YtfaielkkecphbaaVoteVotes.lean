/- The law VoteVotes returns true: vote.Vote and the reference's Vote answer alike for all votes. Conditions: none. -/
import Derived.Test.YtfaielkkecphbaaFrame
import Derived.Test.YtfaielkkecphbaaFacts
import Derived.Test.YtfaielkkecphbaaVoteR
import Derived.Test.YtfaielkkecphbaaOpen
namespace Go.Proofs.Ytfaielkkecphbaa.lawVoteVotes
open Go.ChangeShapes Go.WideShapes Go.ChangeAt Go.RowKit Go.Proofs.Ytfaielkkecphbaa.Mem Go.Proofs.Ytfaielkkecphbaa.Rws Go.Proofs.Ytfaielkkecphbaa.Nd Go.Proofs.Ytfaielkkecphbaa.Vt
set_option linter.unusedVariables false
set_option linter.unusedSimpArgs false

theorem five (w : World) : Calls Try.prog 82 #[.agg #[.int .i64 5, .int .i64 5, .int .i64 5, .int .i64 5], .agg #[.bool true, .bool true, .bool true, .bool true]] w fun e w' => ∃ v A c, e = .returned (.agg (verC v true A 4 c)) ∧ Below w.heap.size w w' :=
  (vote_any (fun _ => 5) (fun _ => true) (fun i _ => by decide) w).mono fun e w' h => by
    obtain ⟨A, c, rfl, _, hb, _⟩ := h
    exact ⟨_, A, c, rfl, hb⟩
theorem same4 (v : Int) (s : Bool) (A A' : Option Addr) (c c' : Nat) (f : Nat → Bool) (B : Nat) (w : World) (hB : B ≤ w.heap.size) (hr : Rd w B 1 A 4 ((List.range 4).map fun i => .bool (f i))) (hr' : Rd w B 1 A' 4 ((List.range 4).map fun i => .bool (f i))) :
    Calls Try.prog 83 #[.agg (verC v s A 4 c), .agg (verC v s A' 4 c')] w fun e w' => e = .returned (.bool true) ∧ Below w.heap.size w w' :=
  sameVerdict_any v s A A' c c' ((List.range 4).map f) B w hB (by simp) hr hr'
theorem wf4 {a b c d : Int} (ha : (Lit.int .i64 a).wf = true) (hb : (Lit.int .i64 b).wf = true) (hc : (Lit.int .i64 c).wf = true) (hd : (Lit.int .i64 d).wf = true) : ∀ i, i < 4 → (Lit.int .i64 ([a, b, c, d].getD i 0)).wf = true := fun i hi => by
  obtain rfl | rfl | rfl | rfl : i = 0 ∨ i = 1 ∨ i = 2 ∨ i = 3 := by omega
  · exact ha
  · exact hb
  · exact hc
  · exact hd

set_option maxRecDepth 100000 in
set_option maxHeartbeats 2000000 in
theorem walk (L : Nat → Int) (I : Nat → Bool) (hL : ∀ i, i < 4 → (Lit.int .i64 (L i)).wf = true) (w : World) :
    Calls Try.prog 23 #[.agg (row 4 fun i => .int .i64 (L i)), .agg (row 4 fun i => .bool (I i))] w fun e w' => e = .returned (.bool true) ∧ Below w.heap.size w w' := by
  have C5 := Lib.hid five
  have CV := Lib.hid (fun w => vote_any L I hL w)
  have CR := Lib.hid (fun w => refvote_any L I w)
  have iL : (Try.prog.info? 29).map (·.size) = some (row 4 fun i => Value.int .i64 (L i)).size := by rw [row_size]; kernel_rfl
  have iI : (Try.prog.info? 28).map (·.size) = some (row 4 fun i => Value.bool (I i)).size := by rw [row_size]; kernel_rfl
  generalize (row 4 fun i => Value.int .i64 (L i)) = RL at *
  generalize (row 4 fun i => Value.bool (I i)) = RI at *
  clear hL
  go_enter Try.func23, Try.ntmps23
  go_wp2_with fail
  refine (C5.out _).mono ?_
  rintro e w1 ⟨v5, A5, c5, rfl, hb1⟩
  unfold verC
  have B1 : Hid (Blk w1 w.heap.size 29 RL) := Lib.hid (((Blk.new rfl).alloc _).below hb1 (by simp; omega))
  have B2 : Hid (Blk w1 (w.heap.size + 1) 28 RI) := Lib.hid ((Blk.new (by simp)).below hb1 (by simp))
  have HB := Lib.hid (onward (((Below.refl w.heap.size w).alloc (Nat.le_refl _) (.cells RL 29)).alloc (by simp) (.cells RI 28)) (Nat.le_refl _) hb1)
  have F1 : Hid (Blk (w1.alloc (.cells #[.int .i64 0, .bool false, .slice none 0 0] 51)) w1.heap.size 51 #[.int .i64 0, .bool false, .slice none 0 0]) := Lib.hid (Blk.fresh _ _ _)
  have hlt := B2.out.lt
  have HB := Lib.hid (below_setRow (HB.out.alloc HB.out.size (.cells #[.int .i64 0, .bool false, .slice none 0 0] 51)) (show w.heap.size ≤ w1.heap.size by omega) #[.int .i64 v5, .bool true, .slice A5 4 c5])
  have B1 := Lib.hid ((B1.out.alloc (.cells #[.int .i64 0, .bool false, .slice none 0 0] 51)).setRow_other (g' := w1.heap.size) (by omega) #[.int .i64 v5, .bool true, .slice A5 4 c5])
  have B2 := Lib.hid ((B2.out.alloc (.cells #[.int .i64 0, .bool false, .slice none 0 0] 51)).setRow_other (g' := w1.heap.size) (by omega) #[.int .i64 v5, .bool true, .slice A5 4 c5])
  have B5 := Lib.hid (F1.out.setRow #[.int .i64 v5, .bool true, .slice A5 4 c5])
  clear hb1
  go_upto_region 2 with (refine wpList_store_row rfl 51 _ _ rfl w1.heap.size #[.int .i64 v5, .bool true, .slice A5 4 c5] rfl rfl 51 _ F1.out (by kernel_rfl) rfl (by simp [Value.oneCell']) ?_)
  clear F1
  generalize ((w1.alloc (.cells #[.int .i64 0, .bool false, .slice none 0 0] 51)).setRow w1.heap.size #[.int .i64 v5, .bool true, .slice A5 4 c5]) = w2 at *
  generalize w1.heap.size = g5 at *
  have B1 := Lib.hid B1.out.drew
  have B2 := Lib.hid B2.out.drew
  have B5 := Lib.hid B5.out.drew
  have HB := Lib.hid HB.out.drew
  have HS := And.intro B1.out (And.intro B2.out B5.out)
  try simp only [Act.put]
  refine wp_region_noPanic ?_
  refine Rg.beginR [0, 1, 3, 4, 9] (fun w' => Blk w' w.heap.size 29 RL ∧ Blk w' (w.heap.size + 1) 28 RI ∧ Blk w' g5 51 #[.int .i64 v5, .bool true, .slice A5 4 c5]) (by kernel_rfl) ?_
  generalize w2.drew = V0 at *
  refine Rg.takeS (i := 0) (oi := { dst := some 9, op := Op.load 29 (Operand.tmp 2), type := 29, pos := "links.go:121", after := #[], guard := none }) (v := .agg RL) rfl (by kernel_rfl) (fun _ _ _ h => h) (by rfl) HS ?_ ?_
  · (intro w' hSw; exact exec_load_row 29 _ rfl _ rfl hSw.1 Try.underlying29 rfl iL)
  try simp only [Act.put, List.setIfInBounds_toArray, List.set_cons_zero, List.set_cons_succ]
  refine Rg.takeS (i := 1) (oi := { dst := some 10, op := Op.load 28 (Operand.tmp 3), type := 28, pos := "links.go:121", after := #[], guard := none }) (v := .agg RI) rfl (by kernel_rfl) (fun _ _ _ h => h) (by rfl) HS ?_ ?_
  · (intro w' hSw; exact exec_load_row 28 _ rfl _ rfl hSw.2.1 Try.underlying28 rfl iI)
  try simp only [Act.put, List.setIfInBounds_toArray, List.set_cons_zero, List.set_cons_succ]
  refine Rg.takeS (i := 3) (oi := { dst := some 12, op := Op.load 29 (Operand.tmp 2), type := 29, pos := "links.go:121", after := #[], guard := none }) (v := .agg RL) rfl (by kernel_rfl) (fun _ _ _ h => h) (by rfl) HS ?_ ?_
  · (intro w' hSw; exact exec_load_row 29 _ rfl _ rfl hSw.1 Try.underlying29 rfl iL)
  try simp only [Act.put, List.setIfInBounds_toArray, List.set_cons_zero, List.set_cons_succ]
  refine Rg.takeS (i := 4) (oi := { dst := some 13, op := Op.load 28 (Operand.tmp 3), type := 28, pos := "links.go:121", after := #[], guard := none }) (v := .agg RI) rfl (by kernel_rfl) (fun _ _ _ h => h) (by rfl) HS ?_ ?_
  · (intro w' hSw; exact exec_load_row 28 _ rfl _ rfl hSw.2.1 Try.underlying28 rfl iI)
  try simp only [Act.put, List.setIfInBounds_toArray, List.set_cons_zero, List.set_cons_succ]
  refine Rg.oneR (i := 2) (oi := { dst := some 11, op := Op.call { callee := Callee.value (Operand.func 82), args := #[Operand.tmp 9, Operand.tmp 10], argTypes := #[29, 28] }, type := 51, pos := "links.go:121", after := #[{ on := 0, ground := Ground.data }, { on := 1, ground := Ground.data }], guard := none }) rfl (by kernel_rfl) ?_
  refine Rg.stepS ?_
  intro K hK
  rw [if_pos (by rfl)]
  go_simp
  go_at_call 82
  refine (CV.out _).mono ?_
  rintro e V1 ⟨A3, c3, rfl, h3, hb, -, -, -⟩
  have B1 := Lib.hid (B1.out.below hb B1.out.lt)
  have B2 := Lib.hid (B2.out.below hb B2.out.lt)
  have B5 := Lib.hid (B5.out.below hb B5.out.lt)
  have HB := Lib.hid (onward HB.out (Nat.le_refl _) hb)
  have H3 := Lib.hid h3
  clear hb h3 HS
  have HS := And.intro B1.out (And.intro B2.out B5.out)
  go_wp2_with fail
  refine hK.out _ _ HS ?_
  clear hK K
  try simp only [Act.put, List.setIfInBounds_toArray, List.set_cons_zero, List.set_cons_succ]
  refine Rg.oneR (i := 5) (oi := { dst := some 14, op := Op.call { callee := Callee.value (Operand.func 84), args := #[Operand.tmp 12, Operand.tmp 13], argTypes := #[29, 28] }, type := 51, pos := "links.go:121", after := #[{ on := 3, ground := Ground.data }, { on := 4, ground := Ground.data }, { on := 2, ground := Ground.chain }], guard := none }) rfl (by kernel_rfl) ?_
  refine Rg.stepS ?_
  intro K hK
  rw [if_pos (by rfl)]
  go_simp
  go_at_call 84
  refine (CR.out _).mono ?_
  rintro e V2 ⟨A4, c4, rfl, h4, hb, -, -, -⟩
  have B1 := Lib.hid (B1.out.below hb B1.out.lt)
  have B2 := Lib.hid (B2.out.below hb B2.out.lt)
  have B5 := Lib.hid (B5.out.below hb B5.out.lt)
  have HB := Lib.hid (onward HB.out (Nat.le_refl _) hb)
  have H3 := Lib.hid ((H3.out.below hb).more hb.size)
  have H4 := Lib.hid h4
  clear hb h4 HS
  have HS := And.intro B1.out (And.intro B2.out B5.out)
  go_wp2_with fail
  refine hK.out _ _ HS ?_
  clear hK K
  try simp only [Act.put, List.setIfInBounds_toArray, List.set_cons_zero, List.set_cons_succ]
  refine Rg.oneR (i := 6) (oi := { dst := some 15, op := Op.call { callee := Callee.value (Operand.func 83), args := #[Operand.tmp 11, Operand.tmp 14], argTypes := #[51, 51] }, type := 4, pos := "links.go:121", after := #[{ on := 2, ground := Ground.data }, { on := 5, ground := Ground.data }, { on := 5, ground := Ground.chain }], guard := none }) rfl (by kernel_rfl) ?_
  refine Rg.stepS ?_
  intro K hK
  rw [if_pos (by rfl)]
  go_simp
  go_at_call 83
  refine (same4 (val L I) (strong L I) A3 A4 c3 c4 (agrees L I) V2.heap.size V2 (Nat.le_refl _) H3.out H4.out).mono ?_
  rintro e V3 ⟨rfl, hb⟩
  have B1 := Lib.hid (B1.out.below hb B1.out.lt)
  have B2 := Lib.hid (B2.out.below hb B2.out.lt)
  have B5 := Lib.hid (B5.out.below hb B5.out.lt)
  have HB := Lib.hid (onward HB.out (Nat.le_refl _) hb)
  clear hb HS
  have HS := And.intro B1.out (And.intro B2.out B5.out)
  go_wp2_with fail
  refine hK.out _ _ HS ?_
  clear hK K
  try simp only [Act.put, List.setIfInBounds_toArray, List.set_cons_zero, List.set_cons_succ]
  refine Rg.takeP (i := 7) (oi := { dst := some 16, op := Op.move (Operand.tmp 15), type := 4, pos := "links.go:121", after := #[{ on := 6, ground := Ground.data }, { on := 6, ground := Ground.chain }], guard := none }) (v := ?_) rfl (by kernel_rfl) (fun _ _ _ h => h) (by rfl) ?_ ?_
  rotate_left 1
  · (intro w; go_simp; (try with_reducible rfl))
  try simp only [Act.put, List.setIfInBounds_toArray, List.set_cons_zero, List.set_cons_succ]
  refine Rg.takeP (i := 8) (oi := { dst := some 17, op := Op.fieldAddr 51 (Operand.tmp 5) 1, type := 0, pos := "links.go:121", after := #[{ on := 7, ground := Ground.guard }], guard := some (7, true) }) (v := ?_) rfl (by kernel_rfl) (fun _ _ _ h => h) (by rfl) ?_ ?_
  rotate_left 1
  · (intro w; go_simp; (try with_reducible rfl))
  try simp only [Act.put, List.setIfInBounds_toArray, List.set_cons_zero, List.set_cons_succ]
  refine Rg.takeS (i := 9) (oi := { dst := some 18, op := Op.load 4 (Operand.tmp 17), type := 4, pos := "links.go:121", after := #[{ on := 8, ground := Ground.data }, { on := 7, ground := Ground.guard }], guard := some (7, true) }) (v := ?_) rfl (by kernel_rfl) (fun _ _ _ h => h) (by rfl) HS ?_ ?_
  rotate_left 1
  · (intro w' hSw; have y := hSw.2.2.cell 1; simp only [List.getElem?_toArray, List.getElem?_cons_zero, List.getElem?_cons_succ] at y; go_simp; (try with_reducible rfl))
  try simp only [Act.put, List.setIfInBounds_toArray, List.set_cons_zero, List.set_cons_succ]
  refine Rg.takeP (i := 10) (oi := { dst := some 19, op := Op.pick (Operand.tmp 16) (Operand.tmp 18) (Operand.const (Value.bool false)), type := 4, pos := "links.go:121", after := #[{ on := 7, ground := Ground.data }, { on := 9, ground := Ground.data }], guard := none }) (v := ?_) rfl (by kernel_rfl) (fun _ _ _ h => h) (by rfl) ?_ ?_
  rotate_left 1
  · (intro w; go_simp; (try with_reducible rfl))
  try simp only [Act.put, List.setIfInBounds_toArray, List.set_cons_zero, List.set_cons_succ]
  refine Rg.takeP (i := 11) (oi := { dst := some 4, op := Op.assign (Operand.tmp 19), type := 4, pos := "links.go:121", after := #[{ on := 10, ground := Ground.data }, { on := 7, ground := Ground.chain }, { on := 0, ground := Ground.phase }, { on := 1, ground := Ground.phase }, { on := 2, ground := Ground.phase }, { on := 3, ground := Ground.phase }, { on := 4, ground := Ground.phase }, { on := 5, ground := Ground.phase }, { on := 6, ground := Ground.phase }, { on := 7, ground := Ground.phase }, { on := 8, ground := Ground.phase }, { on := 9, ground := Ground.phase }, { on := 10, ground := Ground.phase }], guard := none }) (v := ?_) rfl (by kernel_rfl) (fun _ _ _ h => h) (by rfl) ?_ ?_
  rotate_left 1
  · (intro w; go_simp; (try with_reducible rfl))
  try simp only [Act.put, List.setIfInBounds_toArray, List.set_cons_zero, List.set_cons_succ]
  refine Rg.doneR (by kernel_rfl) ?_ _
  refine NoPanic.normal ?_
  go_wp2_with fail
  go_ret
  exact ⟨rfl, HB.out⟩
set_option maxRecDepth 100000 in
set_option maxHeartbeats 1000000 in
theorem lifted (os : Os) (started : os.Started) (H : Type) (enc : TypeId × Value → H) :
    ReturnsInHanded {} Try.checked os 23 .any (Rows.voteVotesSpec.pre6 enc Try.prog Try.f23 Rows.voteVotesRow.domain false) (Rows.voteVotesSpec.post enc Try.prog Try.f23 false true false false) := by
  refine returnsInHanded_of_change_sized (C := Try.checked) Fr.own started (by kernel_rfl) Try.func23
    (ChangeSpec.witness6 (enc := enc) (C := Try.checked) false ⟨#[], #[.agg #[.int .i64 0, .int .i64 0, .int .i64 0, .int .i64 0], .agg #[.bool false, .bool false, .bool false, .bool false]], []⟩ 8 (by kernel_rfl) (by kernel_rfl) (by kernel_rfl) (by kernel_rfl)) ?_
  intro W base args ds gs before hval0 hW _ hsz0 _
  have hval : ∀ (j : Nat) t v, Try.f23.params[j]? = some t → args[j]? = some v → Value.okWide Try.prog W .any base t v := hval0
  have hsz : (DataW.weightsEach Try.prog (Try.f23.params.toList ++ Rows.voteVotesSpec.plain.varTypes Try.prog) (ds ++ gs)).all (· ≤ reachBytes) = true := hsz0
  clear hval0 hsz0
  obtain ⟨p, q, hA0, hV0, _⟩ := id hW
  have hA : DataW.TrodAll enc Try.prog W 0 (fun _ => true) true Try.f23.params.toList args.toList ds p := hA0
  rw [Try.params23] at hA hval hsz
  obtain ⟨v0, vs0, d0, ds0, p0, q0, hargs, rfl, rfl, h0, r0⟩ := trodAll_cons hA
  obtain ⟨v1, vs1, d1, ds1, p1, q1, rfl, rfl, rfl, h1, r1⟩ := trodAll_cons r0
  obtain ⟨rfl, rfl, rfl⟩ := trodAll_nil r1
  obtain rfl : args = #[v0, v1] := by cases args; simp_all
  obtain ⟨rfl, rfl⟩ := trodVars_none hV0
  refine Fr.of_walk (f := Try.f23) Fr.laidOut (by rw [Try.params23]; intro t ht; simp at ht; (first | (rcases ht with rfl | rfl | rfl | rfl | rfl | rfl) | (rcases ht with rfl | rfl | rfl | rfl | rfl) | (rcases ht with rfl | rfl | rfl | rfl) | (rcases ht with rfl | rfl | rfl) | (rcases ht with rfl | rfl) | (subst ht)) <;> exact ⟨by kernel_rfl, of_decide_eq_true (by kernel_rfl)⟩) rfl rfl Try.underlying4 (fun _ => rfl) hW ?_
  clear hW hA hA0 hV0
  obtain ⟨cs0, rfl⟩ := Op.okWide_agg (t := 29) (by kernel_rfl) (hval 0 29 v0 rfl rfl)
  have k0 := Op.flat_arg (ls := [3,3,3,3]) (by kernel_rfl) h0 (Op.light_of_each (j := 0) hsz rfl rfl)
  obtain ⟨y0_0, l0, e0, f0_0, k0⟩ := k0.cons
  obtain ⟨y0_1, l0, rfl, f0_1, k0⟩ := k0.cons
  obtain ⟨y0_2, l0, rfl, f0_2, k0⟩ := k0.cons
  obtain ⟨y0_3, l0, rfl, f0_3, k0⟩ := k0.cons
  obtain rfl := k0.nil_
  obtain rfl := Op.arr_of e0
  obtain ⟨a, rfl, wf_a⟩ := f0_0.int Try.underlying3
  obtain ⟨b, rfl, wf_b⟩ := f0_1.int Try.underlying3
  obtain ⟨c, rfl, wf_c⟩ := f0_2.int Try.underlying3
  obtain ⟨d, rfl, wf_d⟩ := f0_3.int Try.underlying3
  obtain ⟨cs1, rfl⟩ := Op.okWide_agg (t := 28) (by kernel_rfl) (hval 1 28 v1 rfl rfl)
  have k1 := Op.flat_arg (ls := [4,4,4,4]) (by kernel_rfl) h1 (Op.light_of_each (j := 1) hsz rfl rfl)
  obtain ⟨y1_0, l1, e1, f1_0, k1⟩ := k1.cons
  obtain ⟨y1_1, l1, rfl, f1_1, k1⟩ := k1.cons
  obtain ⟨y1_2, l1, rfl, f1_2, k1⟩ := k1.cons
  obtain ⟨y1_3, l1, rfl, f1_3, k1⟩ := k1.cons
  obtain rfl := k1.nil_
  obtain rfl := Op.arr_of e1
  obtain ⟨p, rfl⟩ := f1_0.bool Try.underlying4
  obtain ⟨q, rfl⟩ := f1_1.bool Try.underlying4
  obtain ⟨r, rfl⟩ := f1_2.bool Try.underlying4
  obtain ⟨s, rfl⟩ := f1_3.bool Try.underlying4
  exact walk (fun i => [a, b, c, d].getD i 0) (fun i => [p, q, r, s].getD i false) (wf4 wf_a wf_b wf_c wf_d) W

theorem closedFacts : joinedFacts Try.prog 23 Try.f23 Rows.voteVotesSpec Rows.voteVotesRow = true := by
  unfold joinedFacts
  simp only [Bool.and_eq_true]
  refine ⟨⟨⟨⟨⟨⟨⟨⟨⟨⟨⟨⟨⟨⟨⟨⟨⟨⟨⟨⟨⟨⟨⟨⟨⟨⟨⟨⟨⟨⟨⟨?_, ?_⟩, ?_⟩, ?_⟩, ?_⟩, ?_⟩, ?_⟩, ?_⟩, ?_⟩, ?_⟩, ?_⟩, ?_⟩, ?_⟩, ?_⟩, ?_⟩, ?_⟩, ?_⟩, ?_⟩, ?_⟩, ?_⟩, ?_⟩, ?_⟩, ?_⟩, ?_⟩, ?_⟩, ?_⟩, ?_⟩, ?_⟩, ?_⟩, ?_⟩, ?_⟩, ?_⟩
  · as_aux_lemma => kernel_rfl
  · exact Fr.laidOut
  · exact Facts.mapsRowed_
  · as_aux_lemma => kernel_rfl
  · as_aux_lemma => kernel_rfl
  · as_aux_lemma => kernel_rfl
  · exact Facts.stops_
  · as_aux_lemma => kernel_rfl
  · exact Facts.knobs_
  · as_aux_lemma => kernel_rfl
  · as_aux_lemma => kernel_rfl
  · as_aux_lemma => kernel_rfl
  · as_aux_lemma => kernel_rfl
  · as_aux_lemma => kernel_rfl
  · as_aux_lemma => kernel_rfl
  · as_aux_lemma => kernel_rfl
  · as_aux_lemma => kernel_rfl
  · as_aux_lemma => kernel_rfl
  · as_aux_lemma => kernel_rfl
  · as_aux_lemma => kernel_rfl
  · as_aux_lemma => kernel_rfl
  · as_aux_lemma => kernel_rfl
  · exact Facts.keys_
  · as_aux_lemma => kernel_rfl
  · exact Facts.heard_
  · exact Facts.enter_
  · exact Facts.lifts_
  · exact Facts.make_
  · as_aux_lemma => kernel_rfl
  · as_aux_lemma => kernel_rfl
  · as_aux_lemma => kernel_rfl
  · as_aux_lemma => kernel_rfl

theorem proved : Rows.VoteVotesSaid :=
  OpenClaim.holds_of_wide 23 Try.f23 rfl rfl rfl rfl rfl rfl rfl ⟨rfl, rfl, rfl, rfl, rfl⟩ rfl rfl rfl rfl rfl (by kernel_rfl) Try.func23 closedFacts
    (of_decide_eq_true (by kernel_rfl)) (by unfold Func.isWrapper; first | (rw [if_pos (by decide +kernel)]; kernel_rfl) | (rw [if_neg (by decide +kernel)]; exact ⟨rfl, rfl⟩))
    (fun os started H enc _ => lifted os started H enc)

end Go.Proofs.Ytfaielkkecphbaa.lawVoteVotes
