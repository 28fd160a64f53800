/- The law NodeBegins returns true: node.Begin and the reference's BeginNode answer alike for all numbers and tunings. Conditions: none. -/
import Derived.Test.YtfaielkkecphbaaFrame
import Derived.Test.YtfaielkkecphbaaFacts
import Derived.Test.YtfaielkkecphbaaNodeB
import Derived.Test.YtfaielkkecphbaaSameN
import Derived.Test.YtfaielkkecphbaaOpen
import Derived.Deep.DeepCutAuto
namespace Go.Proofs.Ytfaielkkecphbaa.lawNodeBegins
open Go.ChangeShapes Go.WideShapes Go.ChangeAt Go.RowKit Go.Proofs.Ytfaielkkecphbaa.Mem Go.Proofs.Ytfaielkkecphbaa.Rws Go.Proofs.Ytfaielkkecphbaa.Nd
set_option linter.unusedVariables false
set_option linter.unusedSimpArgs false

def kindV : Value → Option Bool
  | .int .i64 _ => some true
  | .bool _ => some false
  | _ => none
theorem ok_kind {v : Value} {b : Bool} (h : kindV v = some b) : okT b v := by
  unfold kindV at h
  split at h
  · cases h; exact ⟨_, rfl⟩
  · cases h; exact ⟨_, rfl⟩
  · cases h
theorem ok_rows {f : Nat → Value} (h : (List.range 73).map (fun i => kindV (f i)) = (List.range 73).map (fun i => some (nodeT i))) : ∀ i, i < 73 → okT (nodeT i) (f i) := fun i hi => by
  have h1 := congrArg (·[i]?) h
  simp [hi] at h1
  exact ok_kind h1
theorem ok_node (id t0 t1 t2 t3 : Int) : ∀ i, i < 73 → okT (nodeT i) (nodeK id t0 t1 t2 t3 3 i) := ok_rows (by kernel_rfl)
theorem ok_node0 : ∀ i, i < 73 → okT (nodeT i) (node0 i) := ok_rows (by kernel_rfl)
theorem last_node (id t0 t1 t2 t3 : Int) : row 74 (nodeK id t0 t1 t2 t3 3) = row 74 (nodeW (nodeK id t0 t1 t2 t3 3) (.slice none 0 0)) :=
  row_congr fun i hi => by
    unfold nodeW
    by_cases h : i = 73
    · subst h; rw [if_pos rfl]; rfl
    · rw [if_neg h]
theorem last_node0 : row 74 node0 = row 74 (nodeW node0 (.slice none 0 0)) :=
  row_congr fun i hi => by
    unfold nodeW
    by_cases h : i = 73
    · subst h; rw [if_pos rfl]; rfl
    · rw [if_neg h]

/-- both begin with one and the same computer -/
theorem begins (id t0 t1 t2 t3 : Int) : ∃ (f : Nat → Value) (er : Int), (∀ i, i < 73 → okT (nodeT i) (f i)) ∧
    (∀ w : World, Calls Try.prog 78 #[.int .i64 id, .agg #[.int .i64 t0, .int .i64 t1, .int .i64 t2, .int .i64 t3]] w fun e w' => e = .returned (.tuple #[.agg (row 74 (nodeW f (.slice none 0 0))), .int .i64 er]) ∧ Below w.heap.size w w') ∧
    (∀ w : World, Calls Try.prog 79 #[.int .i64 id, .agg #[.int .i64 t0, .int .i64 t1, .int .i64 t2, .int .i64 t3]] w fun e w' => e = .returned (.tuple #[.agg (row 74 (nodeW f (.slice none 0 0))), .int .i64 er]) ∧ Below w.heap.size w w') := by
  by_cases h : 0 ≤ id ∧ id < 4
  · exact ⟨_, 0, ok_node id t0 t1 t2 t3, fun w => by rw [← last_node]; exact nodeBegin_yes id t0 t1 t2 t3 w h.1 h.2, fun w => by rw [← last_node]; exact refBegin_yes id t0 t1 t2 t3 w h.1 h.2⟩
  · exact ⟨_, 3, ok_node0, fun w => by rw [← last_node0]; exact nodeBegin_no id t0 t1 t2 t3 w (by omega), fun w => by rw [← last_node0]; exact refBegin_no id t0 t1 t2 t3 w (by omega)⟩

theorem one_of {f : Nat → Value} (h : ∀ i, i < 73 → okT (nodeT i) (f i)) {A : Option Addr} {n c : Nat} : (row 74 (nodeW f (.slice A n c))).all (·.oneCell') = true := row_one fun i hi => by
  unfold nodeW
  split
  · rfl
  · have := h i (by omega)
    unfold okT at this
    split at this
    · obtain ⟨_, h⟩ := this; rw [h]; rfl
    · obtain ⟨_, h⟩ := this; rw [h]; rfl

set_option maxRecDepth 100000 in
set_option maxHeartbeats 2000000 in
theorem walk (id t0 t1 t2 t3 : Int) (w : World) :
    Calls Try.prog 21 #[.int .i64 id, .agg #[.int .i64 t0, .int .i64 t1, .int .i64 t2, .int .i64 t3]] w fun e w' => e = .returned (.bool true) ∧ Below w.heap.size w w' := by
  obtain ⟨f, er, hf, cB, cR⟩ := begins id t0 t1 t2 t3
  have hi74 : (Try.prog.info? 86).map (·.size) = some (row 74 (nodeW f (.slice none 0 0))).size := by rw [row_size]; kernel_rfl
  have h174 := one_of hf (A := none) (n := 0) (c := 0)
  have hz : (Try.zeroCells86).size = (row 74 (nodeW f (.slice none 0 0))).size := by rw [row_size]; kernel_rfl
  have cS := fun (w' : World) => sameNode_any f hf none none 0 0 [] w'.heap.size w' (Nat.le_refl _) (by simp) (Rd.nil _ _ _ _) (Rd.nil _ _ _ _)
  simp only [List.length_nil] at cS
  clear hf
  generalize row 74 (nodeW f (.slice none 0 0)) = R at *
  go_enter Try.func21, Try.ntmps21
  go_wp2_with fail
  refine (cB _).mono ?_
  rintro e w1 ⟨rfl, hb1⟩
  have HB1 := Lib.hid (onward ((Below.refl w.heap.size w).alloc (Nat.le_refl _) (.cells #[.int .i64 t0, .int .i64 t1, .int .i64 t2, .int .i64 t3] 78)) (Nat.le_refl _) hb1)
  have T1 : Hid (Blk w1 w.heap.size 78 #[.int .i64 t0, .int .i64 t1, .int .i64 t2, .int .i64 t3]) := Lib.hid ((Blk.new rfl).below hb1 (by simp))
  clear hb1
  have U1 := Lib.hid ((T1.out.alloc (.cells Try.zeroCells86 86)).setRow_other (g' := w1.heap.size) (by have := T1.out.lt; omega) R)
  have N1 : Hid (Blk ((w1.alloc (.cells Try.zeroCells86 86)).setRow w1.heap.size R) w1.heap.size 86 R) := Lib.hid ((Blk.fresh _ _ _).setRow R)
  have HB2 := Lib.hid (below_setRow (HB1.out.alloc HB1.out.size (.cells Try.zeroCells86 86)) HB1.out.size R)
  have x0 := U1.out.cell 0
  have x1 := U1.out.cell 1
  have x2 := U1.out.cell 2
  have x3 := U1.out.cell 3
  simp only [List.getElem?_toArray, List.getElem?_cons_zero, List.getElem?_cons_succ] at x0 x1 x2 x3
  clear T1 HB1
  have hst : Blk (w1.alloc (.cells Try.zeroCells86 86)) w1.heap.size 86 Try.zeroCells86 := Blk.fresh _ _ _
  have HST := Lib.hid hst
  clear hst
  go_wp2_with (refine wpList_store_row rfl 86 _ _ rfl w1.heap.size R rfl rfl 86 _ HST.out hi74 hz h174 ?_)
  refine (cR _).mono ?_
  rintro e w3 ⟨rfl, hb3⟩
  have HB3 := Lib.hid (onward HB2.out (Nat.le_refl _) hb3)
  have N3 := Lib.hid (((N1.out.below hb3 N1.out.lt).alloc (.cells Try.zeroCells86 86)).setRow_other (g' := w3.heap.size) (by have := N1.out.lt; have := hb3.size; omega) R)
  have M3 : Hid (Blk ((w3.alloc (.cells Try.zeroCells86 86)).setRow w3.heap.size R) w3.heap.size 86 R) := Lib.hid ((Blk.fresh _ _ _).setRow R)
  have HB4 := Lib.hid (below_setRow (HB3.out.alloc HB3.out.size (.cells Try.zeroCells86 86)) HB3.out.size R)
  have hst : Blk (w3.alloc (.cells Try.zeroCells86 86)) w3.heap.size 86 Try.zeroCells86 := Blk.fresh _ _ _
  have HST := Lib.hid hst
  clear hst hb3 x0 x1 x2 x3 HB2 U1 N1
  go_upto_region 3 with (refine wpList_store_row rfl 86 _ _ rfl w3.heap.size R rfl rfl 86 _ HST.out hi74 hz h174 ?_)
  refine wp_region_list ?_
  refine wpList_wanted (by rfl) (fun K hK => ?_)
  go_simp
  refine hK _ _ ?_
  clear hK K
  try simp only [Act.put, List.setIfInBounds_toArray, List.set_cons_zero, List.set_cons_succ]
  refine wpList_wanted (by rfl) (fun K hK => ?_)
  go_simp
  refine hK _ _ ?_
  clear hK K
  try simp only [Act.put, List.setIfInBounds_toArray, List.set_cons_zero, List.set_cons_succ]
  refine wpList_wanted (by rfl) (fun K hK => ?_)
  go_simp
  refine hK _ _ ?_
  clear hK K
  try simp only [Act.put, List.setIfInBounds_toArray, List.set_cons_zero, List.set_cons_succ]
  refine wpList_wanted (by rfl) (fun K hK => ?_)
  go_simp
  refine hK _ _ ?_
  clear hK K
  try simp only [Act.put, List.setIfInBounds_toArray, List.set_cons_zero, List.set_cons_succ]
  refine wpList_whole (by rfl) 86 _ rfl w1.heap.size rfl N3.out _ Try.underlying86 rfl hi74 ?_
  try simp only [Act.put, List.setIfInBounds_toArray, List.set_cons_zero, List.set_cons_succ]
  refine wpList_whole (by rfl) 86 _ rfl w3.heap.size rfl M3.out _ Try.underlying86 rfl hi74 ?_
  try simp only [Act.put, List.setIfInBounds_toArray, List.set_cons_zero, List.set_cons_succ]
  refine wpList_wanted (by rfl) (fun K hK => ?_)
  go_simp
  go_at_call 66
  refine (cS _).mono ?_
  rintro e w5 ⟨rfl, hb5⟩
  have HB5 := Lib.hid (onward HB4.out (Nat.le_refl _) hb5)
  go_wp2_with fail
  go_ret
  exact ⟨rfl, HB5.out⟩
set_option maxRecDepth 100000 in
theorem lifted (os : Os) (started : os.Started) (H : Type) (enc : TypeId × Value → H) :
    ReturnsInHanded {} Try.checked os 21 .any (Rows.nodeBeginsSpec.pre6 enc Try.prog Try.f21 Rows.nodeBeginsRow.domain false) (Rows.nodeBeginsSpec.post enc Try.prog Try.f21 false true false false) := by
  refine returnsInHanded_of_change_sized (C := Try.checked) Fr.own started (by kernel_rfl) Try.func21
    (ChangeSpec.witness6 (enc := enc) (C := Try.checked) false ⟨#[], #[.int .i64 0, .agg #[.int .i64 0, .int .i64 0, .int .i64 0, .int .i64 0]], []⟩ 8 (by kernel_rfl) (by kernel_rfl) (by kernel_rfl) (by kernel_rfl)) ?_
  intro W base args ds gs before hval0 hW _ hsz0 _
  have hval : ∀ (j : Nat) t v, Try.f21.params[j]? = some t → args[j]? = some v → Value.okWide Try.prog W .any base t v := hval0
  have hsz : (DataW.weightsEach Try.prog (Try.f21.params.toList ++ Rows.nodeBeginsSpec.plain.varTypes Try.prog) (ds ++ gs)).all (· ≤ reachBytes) = true := hsz0
  clear hval0 hsz0
  obtain ⟨p, q, hA0, hV0, _⟩ := id hW
  have hA : DataW.TrodAll enc Try.prog W 0 (fun _ => true) true Try.f21.params.toList args.toList ds p := hA0
  rw [Try.params21] at hA hval hsz
  obtain ⟨v0, vs0, d0, ds0, p0, q0, hargs, rfl, rfl, h0, r0⟩ := trodAll_cons hA
  obtain ⟨v1, vs1, d1, ds1, p1, q1, rfl, rfl, rfl, h1, r1⟩ := trodAll_cons r0
  obtain ⟨rfl, rfl, rfl⟩ := trodAll_nil r1
  obtain rfl : args = #[v0, v1] := by cases args; simp_all
  obtain ⟨rfl, rfl⟩ := trodVars_none hV0
  refine Fr.of_walk (f := Try.f21) Fr.laidOut (by rw [Try.params21]; intro t ht; simp at ht; (first | (rcases ht with rfl | rfl | rfl | rfl | rfl | rfl) | (rcases ht with rfl | rfl | rfl | rfl | rfl) | (rcases ht with rfl | rfl | rfl | rfl) | (rcases ht with rfl | rfl | rfl) | (rcases ht with rfl | rfl) | (subst ht)) <;> exact ⟨by kernel_rfl, of_decide_eq_true (by kernel_rfl)⟩) rfl rfl Try.underlying4 (fun _ => rfl) hW ?_
  clear hW hA hA0 hV0
  obtain ⟨id, rfl, rfl, rfl, wf_id⟩ := open_int Try.underlying3 (hval 0 3 v0 rfl rfl) h0
  have bd_id := Op.wf_i64 wf_id
  obtain ⟨cs1, rfl⟩ := Op.okWide_agg (t := 78) (by kernel_rfl) (hval 1 78 v1 rfl rfl)
  have k1 := Op.flat_arg (ls := [3,3,3,3]) (by kernel_rfl) h1 (Op.light_of_each (j := 1) hsz rfl rfl)
  obtain ⟨y1_0, l1, e1, f1_0, k1⟩ := k1.cons
  obtain ⟨y1_1, l1, rfl, f1_1, k1⟩ := k1.cons
  obtain ⟨y1_2, l1, rfl, f1_2, k1⟩ := k1.cons
  obtain ⟨y1_3, l1, rfl, f1_3, k1⟩ := k1.cons
  obtain rfl := k1.nil_
  obtain rfl := Op.arr_of e1
  obtain ⟨t0, rfl, wf_t0⟩ := f1_0.int Try.underlying3
  obtain ⟨t1, rfl, wf_t1⟩ := f1_1.int Try.underlying3
  obtain ⟨t2, rfl, wf_t2⟩ := f1_2.int Try.underlying3
  obtain ⟨t3, rfl, wf_t3⟩ := f1_3.int Try.underlying3
  exact walk id t0 t1 t2 t3 W

theorem closedFacts : joinedFacts Try.prog 21 Try.f21 Rows.nodeBeginsSpec Rows.nodeBeginsRow = true := by
  unfold joinedFacts
  simp only [Bool.and_eq_true]
  refine ⟨⟨⟨⟨⟨⟨⟨⟨⟨⟨⟨⟨⟨⟨⟨⟨⟨⟨⟨⟨⟨⟨⟨⟨⟨⟨⟨⟨⟨⟨⟨?_, ?_⟩, ?_⟩, ?_⟩, ?_⟩, ?_⟩, ?_⟩, ?_⟩, ?_⟩, ?_⟩, ?_⟩, ?_⟩, ?_⟩, ?_⟩, ?_⟩, ?_⟩, ?_⟩, ?_⟩, ?_⟩, ?_⟩, ?_⟩, ?_⟩, ?_⟩, ?_⟩, ?_⟩, ?_⟩, ?_⟩, ?_⟩, ?_⟩, ?_⟩, ?_⟩, ?_⟩
  · as_aux_lemma => kernel_rfl
  · exact Fr.laidOut
  · exact Facts.mapsRowed_
  · as_aux_lemma => kernel_rfl
  · as_aux_lemma => kernel_rfl
  · as_aux_lemma => kernel_rfl
  · exact Facts.stops_
  · as_aux_lemma => kernel_rfl
  · exact Facts.knobs_
  · as_aux_lemma => kernel_rfl
  · as_aux_lemma => kernel_rfl
  · as_aux_lemma => kernel_rfl
  · as_aux_lemma => kernel_rfl
  · as_aux_lemma => kernel_rfl
  · as_aux_lemma => kernel_rfl
  · as_aux_lemma => kernel_rfl
  · as_aux_lemma => kernel_rfl
  · as_aux_lemma => kernel_rfl
  · as_aux_lemma => kernel_rfl
  · as_aux_lemma => kernel_rfl
  · as_aux_lemma => kernel_rfl
  · as_aux_lemma => kernel_rfl
  · exact Facts.keys_
  · as_aux_lemma => kernel_rfl
  · exact Facts.heard_
  · exact Facts.enter_
  · exact Facts.lifts_
  · exact Facts.make_
  · as_aux_lemma => kernel_rfl
  · as_aux_lemma => kernel_rfl
  · as_aux_lemma => kernel_rfl
  · as_aux_lemma => kernel_rfl

theorem proved : Rows.NodeBeginsSaid :=
  OpenClaim.holds_of_wide 21 Try.f21 rfl rfl rfl rfl rfl rfl rfl ⟨rfl, rfl, rfl, rfl, rfl⟩ rfl rfl rfl rfl rfl (by kernel_rfl) Try.func21 closedFacts
    (of_decide_eq_true (by kernel_rfl)) (by unfold Func.isWrapper; first | (rw [if_pos (by decide +kernel)]; kernel_rfl) | (rw [if_neg (by decide +kernel)]; exact ⟨rfl, rfl⟩))
    (fun os started H enc _ => lifted os started H enc)

end Go.Proofs.Ytfaielkkecphbaa.lawNodeBegins
