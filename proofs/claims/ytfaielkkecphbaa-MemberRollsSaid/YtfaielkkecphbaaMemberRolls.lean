/- The law MemberRolls returns true: member's Begin, Count and Good and the reference's answer alike for every roll. Conditions: none. -/
import Derived.Test.YtfaielkkecphbaaFrame
import Derived.Test.YtfaielkkecphbaaFacts
import Derived.Test.YtfaielkkecphbaaMember
import Derived.Test.YtfaielkkecphbaaOpen
namespace Go.Proofs.Ytfaielkkecphbaa.lawMemberRolls
open Go.ChangeShapes Go.WideShapes Go.ChangeAt Go.RowKit Go.Proofs.Ytfaielkkecphbaa.Mem Go.Proofs.Ytfaielkkecphbaa.Rws Go.Proofs.Ytfaielkkecphbaa.Nd
set_option linter.unusedVariables false

def b4 (a b c d : Bool) (i : Nat) : Bool := match i with | 0 => a | 1 => b | 2 => c | _ => d
def i4 (a b c d : Int) (i : Nat) : Int := match i with | 0 => a | 1 => b | 2 => c | _ => d
def rollL (a b c d : Bool) (m0 m1 m2 m3 j0 j1 j2 j3 : Int) : Array Value := #[.bool a, .bool b, .bool c, .bool d, .int .i64 m0, .int .i64 m1, .int .i64 m2, .int .i64 m3, .int .i64 j0, .int .i64 j1, .int .i64 j2, .int .i64 j3]
theorem rollL_is (a b c d : Bool) (m0 m1 m2 m3 j0 j1 j2 j3 : Int) : rollL a b c d m0 m1 m2 m3 j0 j1 j2 j3 = row 12 (rollF (b4 a b c d) (i4 m0 m1 m2 m3) (i4 j0 j1 j2 j3)) := rfl

section
variable (a b c d : Bool) (m0 m1 m2 m3 j0 j1 j2 j3 : Int) (w : World)
def cnt : Int := cntTo (b4 a b c d) 4
def ok : Bool := okTo (b4 a b c d) (i4 m0 m1 m2 m3) (i4 j0 j1 j2 j3) 4
theorem count_l : Calls Try.prog 33 #[.agg (rollL a b c d m0 m1 m2 m3 j0 j1 j2 j3)] w fun e w' => e = .returned (.int .i64 (cnt a b c d)) ∧ Below w.heap.size w w' := by
  rw [rollL_is]; exact count_any _ _ _ _
theorem refcount_l : Calls Try.prog 34 #[.agg (rollL a b c d m0 m1 m2 m3 j0 j1 j2 j3)] w fun e w' => e = .returned (.int .i64 (cnt a b c d)) ∧ Below w.heap.size w w' := by
  rw [rollL_is]; exact refcount_any _ _ _ _
theorem good_l : Calls Try.prog 35 #[.agg (rollL a b c d m0 m1 m2 m3 j0 j1 j2 j3)] w fun e w' => e = .returned (.bool (ok a b c d m0 m1 m2 m3 j0 j1 j2 j3)) ∧ Below w.heap.size w w' := by
  rw [rollL_is]; exact good_any _ _ _ _
theorem refgood_l : Calls Try.prog 36 #[.agg (rollL a b c d m0 m1 m2 m3 j0 j1 j2 j3)] w fun e w' => e = .returned (.bool (ok a b c d m0 m1 m2 m3 j0 j1 j2 j3)) ∧ Below w.heap.size w w' := by
  rw [rollL_is]; exact refgood_any _ _ _ _
theorem begin_l : Calls Try.prog 31 #[] w fun e w' => e = .returned (.agg (rollL true true true true 0 0 0 0 0 0 0 0)) ∧ Below w.heap.size w w' := roll_any w
theorem refbegin_l : Calls Try.prog 32 #[] w fun e w' => e = .returned (.agg (rollL true true true true 0 0 0 0 0 0 0 0)) ∧ Below w.heap.size w w' := refroll_any w
end

theorem eq_in : ∀ w, (Op.equalIn 9999 28 (.agg #[.bool true, .bool true, .bool true, .bool true]) (.agg #[.bool true, .bool true, .bool true, .bool true])).run Try.prog w = .ok true w := fun _ => by kernel_rfl
theorem eq_no : ∀ w, (Op.equalIn 9999 29 (.agg #[.int .i64 0, .int .i64 0, .int .i64 0, .int .i64 0]) (.agg #[.int .i64 0, .int .i64 0, .int .i64 0, .int .i64 0])).run Try.prog w = .ok true w := fun _ => by kernel_rfl

set_option maxRecDepth 100000 in
set_option maxHeartbeats 4000000 in
theorem walk (a b c d : Bool) (m0 m1 m2 m3 j0 j1 j2 j3 : Int) (w : World) :
    Calls Try.prog 6 #[.agg (rollL a b c d m0 m1 m2 m3 j0 j1 j2 j3)] w fun e w' => e = .returned (.bool true) ∧ Below w.heap.size w w' := by
  have hb0 : Below (w.heap.size + 1) (w.alloc (.cells (rollL a b c d m0 m1 m2 m3 j0 j1 j2 j3) 31)) (w.alloc (.cells (rollL a b c d m0 m1 m2 m3 j0 j1 j2 j3) 31)).drew := (Below.refl _ _).drew
  have hB0 : w.heap.size + 1 ≤ (w.alloc (.cells (rollL a b c d m0 m1 m2 m3 j0 j1 j2 j3) 31)).heap.size := by simp
  have cl := count_l a b c d m0 m1 m2 m3 j0 j1 j2 j3
  have cr := refcount_l a b c d m0 m1 m2 m3 j0 j1 j2 j3
  have gl := good_l a b c d m0 m1 m2 m3 j0 j1 j2 j3
  have gr := refgood_l a b c d m0 m1 m2 m3 j0 j1 j2 j3
  have bl := begin_l
  have he1 := eq_in
  have he2 := eq_no
  have br := refbegin_l
  generalize cnt a b c d = C at cl cr
  generalize ok a b c d m0 m1 m2 m3 j0 j1 j2 j3 = G at gl gr
  unfold rollL at *
  go_enter Try.func6, Try.ntmps6
  go_wp2_with fail
  go_region_held3 (fun w' => w'.cell? ⟨w.heap.size, 0, none⟩ = some (.bool a) ∧ w'.cell? ⟨w.heap.size, 1, none⟩ = some (.bool b) ∧ w'.cell? ⟨w.heap.size, 2, none⟩ = some (.bool c) ∧ w'.cell? ⟨w.heap.size, 3, none⟩ = some (.bool d)
      ∧ w'.cell? ⟨w.heap.size, 4, none⟩ = some (.int .i64 m0) ∧ w'.cell? ⟨w.heap.size, 5, none⟩ = some (.int .i64 m1) ∧ w'.cell? ⟨w.heap.size, 6, none⟩ = some (.int .i64 m2) ∧ w'.cell? ⟨w.heap.size, 7, none⟩ = some (.int .i64 m3)
      ∧ w'.cell? ⟨w.heap.size, 8, none⟩ = some (.int .i64 j0) ∧ w'.cell? ⟨w.heap.size, 9, none⟩ = some (.int .i64 j1) ∧ w'.cell? ⟨w.heap.size, 10, none⟩ = some (.int .i64 j2) ∧ w'.cell? ⟨w.heap.size, 11, none⟩ = some (.int .i64 j3)) (go_keep) (first
    | (go_at_call 31; refine (bl _).mono ?_; rintro e w1 ⟨rfl, hbn⟩; have hb0 := onward hb0 hB0 hbn; have hk0 := below_cell hb0)
    | (go_at_call 32; refine (br _).mono ?_; rintro e w2 ⟨rfl, hbn⟩; have hb0 := onward hb0 hB0 hbn; have hk0 := below_cell hb0)
    | (go_at_call 33; refine (cl _).mono ?_; rintro e w3 ⟨rfl, hbn⟩; have hb0 := onward hb0 hB0 hbn; have hk0 := below_cell hb0)
    | (go_at_call 34; refine (cr _).mono ?_; rintro e w4 ⟨rfl, hbn⟩; have hb0 := onward hb0 hB0 hbn; have hk0 := below_cell hb0)
    | (go_at_call 35; refine (gl _).mono ?_; rintro e w5 ⟨rfl, hbn⟩; have hb0 := onward hb0 hB0 hbn; have hk0 := below_cell hb0)
    | (go_at_call 36; refine (gr _).mono ?_; rintro e w6 ⟨rfl, hbn⟩; have hb0 := onward hb0 hB0 hbn; have hk0 := below_cell hb0))
  go_wp2
  go_ret
  exact ⟨rfl, ((Below.refl _ _).alloc (Nat.le_refl _) _).trans (hb0.mono (by omega))⟩
set_option maxRecDepth 100000 in
theorem lifted (os : Os) (started : os.Started) (H : Type) (enc : TypeId × Value → H) :
    ReturnsInHanded {} Try.checked os 6 .any (Rows.memberRollsSpec.pre6 enc Try.prog Try.f6 Rows.memberRollsRow.domain false) (Rows.memberRollsSpec.post enc Try.prog Try.f6 false true false false) := by
  refine returnsInHanded_of_change_sized (C := Try.checked) Fr.own started (by kernel_rfl) Try.func6
    (ChangeSpec.witness6 (enc := enc) (C := Try.checked) false ⟨#[], #[.agg #[.bool false, .bool false, .bool false, .bool false, .int .i64 0, .int .i64 0, .int .i64 0, .int .i64 0, .int .i64 0, .int .i64 0, .int .i64 0, .int .i64 0]], []⟩ 8 (by kernel_rfl) (by kernel_rfl) (by kernel_rfl) (by kernel_rfl)) ?_
  intro W base args ds gs before hval0 hW _ hsz0 _
  have hval : ∀ (j : Nat) t v, Try.f6.params[j]? = some t → args[j]? = some v → Value.okWide Try.prog W .any base t v := hval0
  have hsz : (DataW.weightsEach Try.prog (Try.f6.params.toList ++ Rows.memberRollsSpec.plain.varTypes Try.prog) (ds ++ gs)).all (· ≤ reachBytes) = true := hsz0
  clear hval0 hsz0
  obtain ⟨p, q, hA0, hV0, _⟩ := id hW
  have hA : DataW.TrodAll enc Try.prog W 0 (fun _ => true) true Try.f6.params.toList args.toList ds p := hA0
  rw [Try.params6] at hA hval hsz
  obtain ⟨v0, vs0, d0, ds0, p0, q0, hargs, rfl, rfl, h0, r0⟩ := trodAll_cons hA
  obtain ⟨rfl, rfl, rfl⟩ := trodAll_nil r0
  obtain rfl : args = #[v0] := by cases args; simp_all
  obtain ⟨rfl, rfl⟩ := trodVars_none hV0
  refine Fr.of_walk (f := Try.f6) Fr.laidOut (by rw [Try.params6]; intro t ht; simp at ht; (first | (rcases ht with rfl | rfl | rfl | rfl | rfl | rfl) | (rcases ht with rfl | rfl | rfl | rfl | rfl) | (rcases ht with rfl | rfl | rfl | rfl) | (rcases ht with rfl | rfl | rfl) | (rcases ht with rfl | rfl) | (subst ht)) <;> exact ⟨by kernel_rfl, of_decide_eq_true (by kernel_rfl)⟩) rfl rfl Try.underlying4 (fun _ => rfl) hW ?_
  clear hW hA hA0 hV0
  obtain ⟨cs0, rfl⟩ := Op.okWide_agg (t := 31) (by kernel_rfl) (hval 0 31 v0 rfl rfl)
  have k0 := Op.flat_arg (ls := [4,4,4,4,3,3,3,3,3,3,3,3]) (by kernel_rfl) h0 (Op.light_of_each (j := 0) hsz rfl rfl)
  obtain ⟨y0_0, l0, e0, f0_0, k0⟩ := k0.cons
  obtain ⟨y0_1, l0, rfl, f0_1, k0⟩ := k0.cons
  obtain ⟨y0_2, l0, rfl, f0_2, k0⟩ := k0.cons
  obtain ⟨y0_3, l0, rfl, f0_3, k0⟩ := k0.cons
  obtain ⟨y0_4, l0, rfl, f0_4, k0⟩ := k0.cons
  obtain ⟨y0_5, l0, rfl, f0_5, k0⟩ := k0.cons
  obtain ⟨y0_6, l0, rfl, f0_6, k0⟩ := k0.cons
  obtain ⟨y0_7, l0, rfl, f0_7, k0⟩ := k0.cons
  obtain ⟨y0_8, l0, rfl, f0_8, k0⟩ := k0.cons
  obtain ⟨y0_9, l0, rfl, f0_9, k0⟩ := k0.cons
  obtain ⟨y0_10, l0, rfl, f0_10, k0⟩ := k0.cons
  obtain ⟨y0_11, l0, rfl, f0_11, k0⟩ := k0.cons
  obtain rfl := k0.nil_
  obtain rfl := Op.arr_of e0
  obtain ⟨a, rfl⟩ := f0_0.bool Try.underlying4
  obtain ⟨b, rfl⟩ := f0_1.bool Try.underlying4
  obtain ⟨c, rfl⟩ := f0_2.bool Try.underlying4
  obtain ⟨d, rfl⟩ := f0_3.bool Try.underlying4
  obtain ⟨m0, rfl, wf_m0⟩ := f0_4.int Try.underlying3
  obtain ⟨m1, rfl, wf_m1⟩ := f0_5.int Try.underlying3
  obtain ⟨m2, rfl, wf_m2⟩ := f0_6.int Try.underlying3
  obtain ⟨m3, rfl, wf_m3⟩ := f0_7.int Try.underlying3
  obtain ⟨j0, rfl, wf_j0⟩ := f0_8.int Try.underlying3
  obtain ⟨j1, rfl, wf_j1⟩ := f0_9.int Try.underlying3
  obtain ⟨j2, rfl, wf_j2⟩ := f0_10.int Try.underlying3
  obtain ⟨j3, rfl, wf_j3⟩ := f0_11.int Try.underlying3
  exact walk a b c d m0 m1 m2 m3 j0 j1 j2 j3 W

theorem closedFacts : joinedFacts Try.prog 6 Try.f6 Rows.memberRollsSpec Rows.memberRollsRow = true := by
  unfold joinedFacts
  simp only [Bool.and_eq_true]
  refine ⟨⟨⟨⟨⟨⟨⟨⟨⟨⟨⟨⟨⟨⟨⟨⟨⟨⟨⟨⟨⟨⟨⟨⟨⟨⟨⟨⟨⟨⟨⟨?_, ?_⟩, ?_⟩, ?_⟩, ?_⟩, ?_⟩, ?_⟩, ?_⟩, ?_⟩, ?_⟩, ?_⟩, ?_⟩, ?_⟩, ?_⟩, ?_⟩, ?_⟩, ?_⟩, ?_⟩, ?_⟩, ?_⟩, ?_⟩, ?_⟩, ?_⟩, ?_⟩, ?_⟩, ?_⟩, ?_⟩, ?_⟩, ?_⟩, ?_⟩, ?_⟩, ?_⟩
  · as_aux_lemma => kernel_rfl
  · exact Fr.laidOut
  · exact Facts.mapsRowed_
  · as_aux_lemma => kernel_rfl
  · as_aux_lemma => kernel_rfl
  · as_aux_lemma => kernel_rfl
  · exact Facts.stops_
  · as_aux_lemma => kernel_rfl
  · exact Facts.knobs_
  · as_aux_lemma => kernel_rfl
  · as_aux_lemma => kernel_rfl
  · as_aux_lemma => kernel_rfl
  · as_aux_lemma => kernel_rfl
  · as_aux_lemma => kernel_rfl
  · as_aux_lemma => kernel_rfl
  · as_aux_lemma => kernel_rfl
  · as_aux_lemma => kernel_rfl
  · as_aux_lemma => kernel_rfl
  · as_aux_lemma => kernel_rfl
  · as_aux_lemma => kernel_rfl
  · as_aux_lemma => kernel_rfl
  · as_aux_lemma => kernel_rfl
  · exact Facts.keys_
  · as_aux_lemma => kernel_rfl
  · exact Facts.heard_
  · exact Facts.enter_
  · exact Facts.lifts_
  · exact Facts.make_
  · as_aux_lemma => kernel_rfl
  · as_aux_lemma => kernel_rfl
  · as_aux_lemma => kernel_rfl
  · as_aux_lemma => kernel_rfl

theorem proved : Rows.MemberRollsSaid :=
  OpenClaim.holds_of_wide 6 Try.f6 rfl rfl rfl rfl rfl rfl rfl ⟨rfl, rfl, rfl, rfl, rfl⟩ rfl rfl rfl rfl rfl (by kernel_rfl) Try.func6 closedFacts
    (of_decide_eq_true (by kernel_rfl)) (by unfold Func.isWrapper; first | (rw [if_pos (by decide +kernel)]; kernel_rfl) | (rw [if_neg (by decide +kernel)]; exact ⟨rfl, rfl⟩))
    (fun os started H enc _ => lifted os started H enc)

end Go.Proofs.Ytfaielkkecphbaa.lawMemberRolls
