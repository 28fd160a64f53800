/- The law MatGoods returns true: mat.Good and the reference's GoodMat answer alike for every matrix. Conditions: none. -/
import Derived.Test.YtebgdmflpheeoaaMats
namespace Go.Proofs.Ytebgdmflpheeoaa.lawMatGoods
open Go.ChangeShapes Go.WideShapes Go.ChangeAt Go.RowKit Go.Proofs.Ytebgdmflpheeoaa.Mem Go.Proofs.Ytebgdmflpheeoaa.Mats

theorem walk (N : Int) (A : Option Addr) (n c : Nat) (xs : List Value) (w : World) (hA : A = none → c = 0) (hnc : n ≤ c) (hc : c * 8 ≤ 140737488351232) (h1 : ∀ u ∈ xs, u.oneCell' = true) (hr : Rd w w.heap.size 1 A n xs) :
    Calls Try.prog 4 #[matV N A n c] w fun e w' => e = .returned (.bool true) ∧ Below w.heap.size w w' := by
  have hr1 := hr.alloc (Nat.le_refl _) (.cells #[.int .i64 N, .slice A n c] 25)
  have hb0 : Below (w.heap.size + 1) (w.alloc (.cells #[.int .i64 N, .slice A n c] 25)) (w.alloc (.cells #[.int .i64 N, .slice A n c] 25)).drew := (Below.refl _ _).drew
  have hB0 : w.heap.size + 1 ≤ (w.alloc (.cells #[.int .i64 N, .slice A n c] 25)).heap.size := by simp
  unfold matV
  go_enter Try.func4, Try.ntmps4
  go_wp2_with fail
  go_region_held3 (fun w' => w'.cell? ⟨w.heap.size, 0, none⟩ = some (.int .i64 N) ∧ w'.cell? ⟨w.heap.size, 1, none⟩ = some (.slice A n c)) (go_keep) (first
    | (go_at_call 16; refine (own_any N A n c xs w.heap.size _ (by simp) hA hnc hc h1 (by exact hr1)).mono ?_; rintro e w1 ⟨A', c', rfl, hown, hbn⟩; have hb0 := onward hb0 hB0 hbn; have hk0 := below_cell hb0)
    | (go_at_call 15; refine (good_any _ _ _ _ _).mono ?_; rintro e w2 ⟨rfl, hbn⟩; have hb0 := onward hb0 hB0 hbn; have hk0 := below_cell hb0)
    | (go_at_call 17; refine (goodref_any _ _ _ _ _).mono ?_; rintro e w3 ⟨rfl, hbn⟩; have hb0 := onward hb0 hB0 hbn; have hk0 := below_cell hb0)
    | (go_at_call 18; refine (least_any _ _).mono ?_; rintro e w4 ⟨A4, c4, rfl, hown4, hbn⟩; have hb0 := onward hb0 hB0 hbn; have hk0 := below_cell hb0))
  go_wp2
  go_ret
  exact ⟨rfl, ((Below.refl _ _).alloc (Nat.le_refl _) _).trans (hb0.mono (by omega))⟩

theorem ones (zs : List Int) : ∀ u ∈ zs.map (Value.int .i64), u.oneCell' = true := fun u hu => by
  obtain ⟨z, _, rfl⟩ := List.mem_map.1 hu
  rfl
set_option maxRecDepth 100000 in
theorem lifted (os : Os) (started : os.Started) (H : Type) (enc : TypeId × Value → H) :
    ReturnsInHanded {} Try.checked os 4 .any (Rows.matGoodsSpec.pre6 enc Try.prog Try.f4 Rows.matGoodsRow.domain false) (Rows.matGoodsSpec.post enc Try.prog Try.f4 false true false false) := by
  refine returnsInHanded_of_change_sized (C := Try.checked) Fr.own started (by kernel_rfl) Try.func4
    (ChangeSpec.witness6 (enc := enc) (C := Try.checked) false ⟨#[], #[.agg #[.int .i64 0, .slice none 0 0]], []⟩ 8 (by kernel_rfl) (by kernel_rfl) (by kernel_rfl) (by kernel_rfl)) ?_
  intro W base args ds gs before hval0 hW _ hsz0 _
  have hval : ∀ (j : Nat) t v, Try.f4.params[j]? = some t → args[j]? = some v → Value.okWide Try.prog W .any base t v := hval0
  have hsz : (DataW.weightsEach Try.prog (Try.f4.params.toList ++ Rows.matGoodsSpec.plain.varTypes Try.prog) (ds ++ gs)).all (· ≤ reachBytes) = true := hsz0
  clear hval0 hsz0
  obtain ⟨p, q, hA0, hV0, _⟩ := id hW
  have hA : DataW.TrodAll enc Try.prog W 0 (fun _ => true) true Try.f4.params.toList args.toList ds p := hA0
  rw [Try.params4] at hA hval hsz
  obtain ⟨v0, vs0, d0, ds0, p0, q0, hargs, rfl, rfl, h0, r0⟩ := trodAll_cons hA
  obtain ⟨rfl, rfl, rfl⟩ := trodAll_nil r0
  obtain rfl : args = #[v0] := by cases args; simp_all
  obtain ⟨rfl, rfl⟩ := trodVars_none hV0
  refine Fr.of_walk (f := Try.f4) Fr.laidOut (by rw [Try.params4]; intro t ht; simp at ht; (first | (rcases ht with rfl | rfl | rfl | rfl | rfl | rfl) | (rcases ht with rfl | rfl | rfl | rfl | rfl) | (rcases ht with rfl | rfl | rfl | rfl) | (rcases ht with rfl | rfl | rfl) | (rcases ht with rfl | rfl) | (subst ht)) <;> exact ⟨by kernel_rfl, of_decide_eq_true (by kernel_rfl)⟩) rfl rfl Try.underlying4 (fun _ => rfl) hW ?_
  clear hW hA hA0 hV0
  obtain ⟨N, A, c, zs, rfl, _, h2, h3, h4, h5, _⟩ := Mats.openMat (hval 0 25 v0 rfl rfl) h0 (Op.light_of_each (j := 0) hsz rfl rfl)
  exact walk N A zs.length c _ W h4 h2 h3 (ones zs) h5

theorem proved : Rows.MatGoodsSaid :=
  OpenClaim.holds_of_wide 4 Try.f4 rfl rfl rfl rfl rfl rfl rfl ⟨rfl, rfl, rfl, rfl, rfl⟩ rfl rfl rfl rfl rfl (by kernel_rfl) Try.func4 (by kernel_rfl)
    (of_decide_eq_true (by kernel_rfl)) (by unfold Func.isWrapper; first | (rw [if_pos (by decide +kernel)]; kernel_rfl) | (rw [if_neg (by decide +kernel)]; exact ⟨rfl, rfl⟩))
    (fun os started H enc _ => lifted os started H enc)

end Go.Proofs.Ytebgdmflpheeoaa.lawMatGoods
