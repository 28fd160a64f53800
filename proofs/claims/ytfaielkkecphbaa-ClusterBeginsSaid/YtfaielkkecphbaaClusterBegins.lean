/- The law ClusterBegins returns true: cluster.Begin and the reference's BeginCluster lay one and the same cluster for every tuning. Conditions: none. -/
import Derived.Test.YtfaielkkecphbaaFrame
import Derived.Test.YtfaielkkecphbaaFacts
import Derived.Test.YtfaielkkecphbaaSameC
import Derived.Test.YtfaielkkecphbaaOpen
import Derived.Deep.RegionHeld3
namespace Go.Proofs.Ytfaielkkecphbaa.lawClusterBegins
open Go.ChangeShapes Go.WideShapes Go.ChangeAt Go.RowKit Go.Proofs.Ytfaielkkecphbaa.Mem Go.Proofs.Ytfaielkkecphbaa.Rws Go.Proofs.Ytfaielkkecphbaa.Nd
set_option linter.unusedVariables false

def kindV : Value → Option Bool
  | .int .i64 _ => some true
  | .bool _ => some false
  | _ => none
theorem ok_kind {v : Value} {b : Bool} (h : kindV v = some b) : okT b v := by
  unfold kindV at h
  split at h
  · cases h; exact ⟨_, rfl⟩
  · cases h; exact ⟨_, rfl⟩
  · cases h
theorem ok_rows {f : Nat → Value} (h : (List.range 73).map (fun i => kindV (f i)) = (List.range 73).map (fun i => some (nodeT i))) : ∀ i, i < 73 → okT (nodeT i) (f i) := fun i hi => by
  have h1 := congrArg (·[i]?) h
  simp [hi] at h1
  exact ok_kind h1
theorem ok_node (id t0 t1 t2 t3 : Int) : ∀ i, i < 73 → okT (nodeT i) (nodeK id t0 t1 t2 t3 3 i) := ok_rows (by kernel_rfl)
theorem last_node (id t0 t1 t2 t3 : Int) : row 74 (nodeK id t0 t1 t2 t3 3) = row 74 (nodeW (nodeK id t0 t1 t2 t3 3) (.slice none 0 0)) :=
  row_congr fun i hi => by
    unfold nodeW
    by_cases h : i = 73
    · subst h; rw [if_pos rfl]; rfl
    · rw [if_neg h]
theorem same_any (t0 t1 t2 t3 : Int) (k : Nat) (w : World) : Calls Try.prog 66 #[.agg (row 74 (nodeK (k : Int) t0 t1 t2 t3 3)), .agg (row 74 (nodeK (k : Int) t0 t1 t2 t3 3))] w fun e w' => e = .returned (.bool true) ∧ Below w.heap.size w w' := by
  rw [last_node]
  exact sameNode_any _ (ok_node k t0 t1 t2 t3) none none 0 0 [] w.heap.size w (Nat.le_refl _) (by simp) (Rd.nil _ _ _ _) (Rd.nil _ _ _ _)

set_option maxRecDepth 100000 in
set_option maxHeartbeats 2000000 in
theorem walk (t0 t1 t2 t3 : Int) (w : World) :
    Calls Try.prog 15 #[.agg #[.int .i64 t0, .int .i64 t1, .int .i64 t2, .int .i64 t3]] w fun e w' => e = .returned (.bool true) ∧ Below w.heap.size w w' := by
  have cB := cluster_any t0 t1 t2 t3
  have cR := refcluster_any t0 t1 t2 t3
  have cS := fun w => sameCluster_any t0 t1 t2 t3 w (same_any t0 t1 t2 t3)
  generalize row 297 (cluK t0 t1 t2 t3 4) = R at *
  have hb0 : Below (w.heap.size + 1) (w.alloc (.cells #[.int .i64 t0, .int .i64 t1, .int .i64 t2, .int .i64 t3] 78)) (w.alloc (.cells #[.int .i64 t0, .int .i64 t1, .int .i64 t2, .int .i64 t3] 78)).drew := (Below.refl _ _).drew
  have hB0 : w.heap.size + 1 ≤ (w.alloc (.cells #[.int .i64 t0, .int .i64 t1, .int .i64 t2, .int .i64 t3] 78)).heap.size := by simp
  go_enter Try.func15, Try.ntmps15
  go_wp2_with fail
  go_region_held3 (fun w' => w'.cell? ⟨w.heap.size, 0, none⟩ = some (.int .i64 t0) ∧ w'.cell? ⟨w.heap.size, 1, none⟩ = some (.int .i64 t1) ∧ w'.cell? ⟨w.heap.size, 2, none⟩ = some (.int .i64 t2) ∧ w'.cell? ⟨w.heap.size, 3, none⟩ = some (.int .i64 t3)) (go_keep) (first
    | (go_at_call 59; refine (cB _).mono ?_; rintro e w1 ⟨rfl, hbn⟩; have hb0 := onward hb0 hB0 hbn; have hk0 := below_cell hb0)
    | (go_at_call 60; refine (cR _).mono ?_; rintro e w2 ⟨rfl, hbn⟩; have hb0 := onward hb0 hB0 hbn; have hk0 := below_cell hb0)
    | (go_at_call 58; refine (cS _).mono ?_; rintro e w3 ⟨rfl, hbn⟩; have hb0 := onward hb0 hB0 hbn; have hk0 := below_cell hb0))
  all_goals
    go_wp2_with fail
    go_ret
    exact ⟨rfl, ((Below.refl _ _).alloc (Nat.le_refl _) _).trans (hb0.mono (by omega))⟩
set_option maxRecDepth 100000 in
theorem lifted (os : Os) (started : os.Started) (H : Type) (enc : TypeId × Value → H) :
    ReturnsInHanded {} Try.checked os 15 .any (Rows.clusterBeginsSpec.pre6 enc Try.prog Try.f15 Rows.clusterBeginsRow.domain false) (Rows.clusterBeginsSpec.post enc Try.prog Try.f15 false true false false) := by
  refine returnsInHanded_of_change_sized (C := Try.checked) Fr.own started (by kernel_rfl) Try.func15
    (ChangeSpec.witness6 (enc := enc) (C := Try.checked) false ⟨#[], #[.agg #[.int .i64 0, .int .i64 0, .int .i64 0, .int .i64 0]], []⟩ 8 (by kernel_rfl) (by kernel_rfl) (by kernel_rfl) (by kernel_rfl)) ?_
  intro W base args ds gs before hval0 hW _ hsz0 _
  have hval : ∀ (j : Nat) t v, Try.f15.params[j]? = some t → args[j]? = some v → Value.okWide Try.prog W .any base t v := hval0
  have hsz : (DataW.weightsEach Try.prog (Try.f15.params.toList ++ Rows.clusterBeginsSpec.plain.varTypes Try.prog) (ds ++ gs)).all (· ≤ reachBytes) = true := hsz0
  clear hval0 hsz0
  obtain ⟨p, q, hA0, hV0, _⟩ := id hW
  have hA : DataW.TrodAll enc Try.prog W 0 (fun _ => true) true Try.f15.params.toList args.toList ds p := hA0
  rw [Try.params15] at hA hval hsz
  obtain ⟨v0, vs0, d0, ds0, p0, q0, hargs, rfl, rfl, h0, r0⟩ := trodAll_cons hA
  obtain ⟨rfl, rfl, rfl⟩ := trodAll_nil r0
  obtain rfl : args = #[v0] := by cases args; simp_all
  obtain ⟨rfl, rfl⟩ := trodVars_none hV0
  refine Fr.of_walk (f := Try.f15) Fr.laidOut (by rw [Try.params15]; intro t ht; simp at ht; (first | (rcases ht with rfl | rfl | rfl | rfl | rfl | rfl) | (rcases ht with rfl | rfl | rfl | rfl | rfl) | (rcases ht with rfl | rfl | rfl | rfl) | (rcases ht with rfl | rfl | rfl) | (rcases ht with rfl | rfl) | (subst ht)) <;> exact ⟨by kernel_rfl, of_decide_eq_true (by kernel_rfl)⟩) rfl rfl Try.underlying4 (fun _ => rfl) hW ?_
  clear hW hA hA0 hV0
  obtain ⟨cs0, rfl⟩ := Op.okWide_agg (t := 78) (by kernel_rfl) (hval 0 78 v0 rfl rfl)
  have k0 := Op.flat_arg (ls := [3,3,3,3]) (by kernel_rfl) h0 (Op.light_of_each (j := 0) hsz rfl rfl)
  obtain ⟨y0_0, l0, e0, f0_0, k0⟩ := k0.cons
  obtain ⟨y0_1, l0, rfl, f0_1, k0⟩ := k0.cons
  obtain ⟨y0_2, l0, rfl, f0_2, k0⟩ := k0.cons
  obtain ⟨y0_3, l0, rfl, f0_3, k0⟩ := k0.cons
  obtain rfl := k0.nil_
  obtain rfl := Op.arr_of e0
  obtain ⟨t0, rfl, wf_t0⟩ := f0_0.int Try.underlying3
  obtain ⟨t1, rfl, wf_t1⟩ := f0_1.int Try.underlying3
  obtain ⟨t2, rfl, wf_t2⟩ := f0_2.int Try.underlying3
  obtain ⟨t3, rfl, wf_t3⟩ := f0_3.int Try.underlying3
  exact walk t0 t1 t2 t3 W

theorem closedFacts : joinedFacts Try.prog 15 Try.f15 Rows.clusterBeginsSpec Rows.clusterBeginsRow = true := by
  unfold joinedFacts
  simp only [Bool.and_eq_true]
  refine ⟨⟨⟨⟨⟨⟨⟨⟨⟨⟨⟨⟨⟨⟨⟨⟨⟨⟨⟨⟨⟨⟨⟨⟨⟨⟨⟨⟨⟨⟨⟨?_, ?_⟩, ?_⟩, ?_⟩, ?_⟩, ?_⟩, ?_⟩, ?_⟩, ?_⟩, ?_⟩, ?_⟩, ?_⟩, ?_⟩, ?_⟩, ?_⟩, ?_⟩, ?_⟩, ?_⟩, ?_⟩, ?_⟩, ?_⟩, ?_⟩, ?_⟩, ?_⟩, ?_⟩, ?_⟩, ?_⟩, ?_⟩, ?_⟩, ?_⟩, ?_⟩, ?_⟩
  · as_aux_lemma => kernel_rfl
  · exact Fr.laidOut
  · exact Facts.mapsRowed_
  · as_aux_lemma => kernel_rfl
  · as_aux_lemma => kernel_rfl
  · as_aux_lemma => kernel_rfl
  · exact Facts.stops_
  · as_aux_lemma => kernel_rfl
  · exact Facts.knobs_
  · as_aux_lemma => kernel_rfl
  · as_aux_lemma => kernel_rfl
  · as_aux_lemma => kernel_rfl
  · as_aux_lemma => kernel_rfl
  · as_aux_lemma => kernel_rfl
  · as_aux_lemma => kernel_rfl
  · as_aux_lemma => kernel_rfl
  · as_aux_lemma => kernel_rfl
  · as_aux_lemma => kernel_rfl
  · as_aux_lemma => kernel_rfl
  · as_aux_lemma => kernel_rfl
  · as_aux_lemma => kernel_rfl
  · as_aux_lemma => kernel_rfl
  · exact Facts.keys_
  · as_aux_lemma => kernel_rfl
  · exact Facts.heard_
  · exact Facts.enter_
  · exact Facts.lifts_
  · exact Facts.make_
  · as_aux_lemma => kernel_rfl
  · as_aux_lemma => kernel_rfl
  · as_aux_lemma => kernel_rfl
  · as_aux_lemma => kernel_rfl

theorem proved : Rows.ClusterBeginsSaid :=
  OpenClaim.holds_of_wide 15 Try.f15 rfl rfl rfl rfl rfl rfl rfl ⟨rfl, rfl, rfl, rfl, rfl⟩ rfl rfl rfl rfl rfl (by kernel_rfl) Try.func15 closedFacts
    (of_decide_eq_true (by kernel_rfl)) (by unfold Func.isWrapper; first | (rw [if_pos (by decide +kernel)]; kernel_rfl) | (rw [if_neg (by decide +kernel)]; exact ⟨rfl, rfl⟩))
    (fun os started H enc _ => lifted os started H enc)

end Go.Proofs.Ytfaielkkecphbaa.lawClusterBegins
