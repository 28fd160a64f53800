/- The law FixReads returns true: for every text, fix's Read and the reference's give the same number and the same error; and 1.5 reads as one and a half. Conditions: none. -/
import Derived.Test.YtlcpackmoolngaaFixRead
import Derived.Test.YtlcpackmoolngaaRefRead
import Derived.Test.YtlcpackmoolngaaFrame
import Derived.Test.YtlcpackmoolngaaFacts
import Derived.Test.YtlcpackmoolngaaOpen
import Derived.ChangeMaps5
namespace Go.Proofs.Ytlcpackmoolngaa.lawFixReads
open Go.ChangeShapes Go.WideShapes Go.ChangeAt Go.RowKit Go.Proofs.Ytlcpackmoolngaa.Mem Go.Proofs.Ytlcpackmoolngaa.Rws Go.Proofs.Ytlcpackmoolngaa.Sm Go.Proofs.Ytlcpackmoolngaa.Tx Go.Proofs.Ytlcpackmoolngaa.ReadLaw

theorem closed : readOf [49, 46, 53] = (6442450944, 0) := by decide +kernel
theorem bytes_of (s : ByteArray) : ∃ l : List Nat, s = strB l ∧ (∀ y ∈ l, y < 256) ∧ l.length = s.size := by
  refine ⟨s.data.toList.map UInt8.toNat, strB_eq ?_, fun y hy => ?_, by rw [List.length_map]; rfl⟩
  · rw [List.map_map]
    conv => lhs; rw [← List.map_id s.data.toList]
    refine List.map_congr_left fun x _ => ?_
    show x = UInt8.ofNat x.toNat
    rw [UInt8.ofNat_toNat]
  · obtain ⟨x, _, rfl⟩ := List.mem_map.1 hy
    exact x.toNat_lt

theorem walk (s : ByteArray) (w : World) (hs : s.size ≤ 9223372036854775807) :
    Calls Try.prog 7 #[.string s] w fun e w' => e = .returned (.bool true) ∧ Below w.heap.size w w' := by
  obtain ⟨l, hl, h256, hlen⟩ := bytes_of s
  have HS := Lib.hid hl
  have H2 := Lib.hid h256
  have HN := Lib.hid (show l.length ≤ 9223372036854775807 by omega)
  have HC := Lib.hid closed
  clear hl h256 hlen hs
  go_enter Try.func7, Try.ntmps7
  go_wp2_with fail
  rw [HS.out]
  refine (fixRead_any l _ H2.out HN.out).mono ?_
  rintro e w1 ⟨rfl, hb1⟩
  generalize hX : readOf l = X
  have HX := Lib.hid hX
  obtain ⟨x, y⟩ := X
  clear hX
  dsimp only
  go_wp2_with fail
  refine (refRead_any l _ H2.out HN.out).mono ?_
  rintro e w2 ⟨rfl, hb2⟩
  rw [HX.out]
  dsimp only
  go_wp2_with fail
  refine (fixRead_any [49, 46, 53] _ (by decide) (by decide)).mono ?_
  rintro e w3 ⟨rfl, hb3⟩
  rw [HC.out]
  dsimp only
  go_wp2_with fail
  go_ret
  exact ⟨rfl, onward (onward hb1 (Nat.le_refl _) hb2) (Nat.le_refl _) hb3⟩
set_option maxRecDepth 100000 in
set_option maxHeartbeats 1000000 in
theorem lifted (os : Os) (started : os.Started) (H : Type) (enc : TypeId × Value → H) :
    ReturnsInHanded {} Try.checked os 7 .any (Rows.fixReadsSpec.pre6 enc Try.prog Try.f7 Rows.fixReadsRow.domain false) (Rows.fixReadsSpec.post enc Try.prog Try.f7 false true false false) := by
  refine returnsInHanded_of_change_sized (C := Try.checked) Fr.own started (by kernel_rfl) Try.func7
    (ChangeSpec.witness6 (enc := enc) (C := Try.checked) false ⟨#[], #[.string ⟨#[]⟩], []⟩ 8 (by kernel_rfl) (by kernel_rfl) (by kernel_rfl) (by kernel_rfl)) ?_
  intro W base args ds gs before hval0 hW _ hsz0 _
  have hval : ∀ (j : Nat) t v, Try.f7.params[j]? = some t → args[j]? = some v → Value.okWide Try.prog W .any base t v := hval0
  have hsz : (DataW.weightsEach Try.prog (Try.f7.params.toList ++ Rows.fixReadsSpec.plain.varTypes Try.prog) (ds ++ gs)).all (· ≤ reachBytes) = true := hsz0
  clear hval0 hsz0
  obtain ⟨p, q, hA0, hV0, _⟩ := id hW
  have hA : DataW.TrodAll enc Try.prog W 0 (fun _ => true) true Try.f7.params.toList args.toList ds p := hA0
  rw [Try.params7] at hA hval hsz
  obtain ⟨v0, vs0, d0, ds0, p0, q0, hargs, rfl, rfl, h0, r0⟩ := trodAll_cons hA
  obtain ⟨rfl, rfl, rfl⟩ := trodAll_nil r0
  obtain rfl : args = #[v0] := by cases args; simp_all
  obtain ⟨rfl, rfl⟩ := trodVars_none hV0
  refine Fr.of_walk (f := Try.f7) Fr.laidOut (by rw [Try.params7]; intro t ht; simp at ht; (first | (rcases ht with rfl | rfl | rfl | rfl | rfl | rfl) | (rcases ht with rfl | rfl | rfl | rfl | rfl) | (rcases ht with rfl | rfl | rfl | rfl) | (rcases ht with rfl | rfl | rfl) | (rcases ht with rfl | rfl) | (subst ht)) <;> exact ⟨by kernel_rfl, of_decide_eq_true (by kernel_rfl)⟩) rfl rfl Try.underlying4 (fun _ => rfl) hW ?_
  clear hW hA hA0 hV0
  obtain ⟨s, rfl, _, _, hs⟩ := Go.ChangeMaps.open_string Try.underlying9 (hval 0 9 v0 rfl rfl) h0
  exact walk s W (by unfold maxLen at hs; omega)

set_option maxHeartbeats 2000000 in
theorem closedFacts : joinedFacts Try.prog 7 Try.f7 Rows.fixReadsSpec Rows.fixReadsRow = true := by
  unfold joinedFacts
  simp only [Bool.and_eq_true]
  refine ⟨⟨⟨⟨⟨⟨⟨⟨⟨⟨⟨⟨⟨⟨⟨⟨⟨⟨⟨⟨⟨⟨⟨⟨⟨⟨⟨⟨⟨⟨⟨?_, ?_⟩, ?_⟩, ?_⟩, ?_⟩, ?_⟩, ?_⟩, ?_⟩, ?_⟩, ?_⟩, ?_⟩, ?_⟩, ?_⟩, ?_⟩, ?_⟩, ?_⟩, ?_⟩, ?_⟩, ?_⟩, ?_⟩, ?_⟩, ?_⟩, ?_⟩, ?_⟩, ?_⟩, ?_⟩, ?_⟩, ?_⟩, ?_⟩, ?_⟩, ?_⟩, ?_⟩
  · as_aux_lemma => kernel_rfl
  · exact Fr.laidOut
  · exact Facts.mapsRowed_
  · as_aux_lemma => kernel_rfl
  · as_aux_lemma => kernel_rfl
  · as_aux_lemma => kernel_rfl
  · exact Facts.stops_
  · as_aux_lemma => kernel_rfl
  · exact Facts.knobs_
  · as_aux_lemma => kernel_rfl
  · as_aux_lemma => kernel_rfl
  · as_aux_lemma => kernel_rfl
  · as_aux_lemma => kernel_rfl
  · as_aux_lemma => kernel_rfl
  · as_aux_lemma => kernel_rfl
  · as_aux_lemma => kernel_rfl
  · as_aux_lemma => kernel_rfl
  · as_aux_lemma => kernel_rfl
  · as_aux_lemma => kernel_rfl
  · as_aux_lemma => kernel_rfl
  · as_aux_lemma => kernel_rfl
  · as_aux_lemma => kernel_rfl
  · exact Facts.keys_
  · as_aux_lemma => kernel_rfl
  · exact Facts.heard_
  · exact Facts.enter_
  · exact Facts.lifts_
  · exact Facts.make_
  · as_aux_lemma => kernel_rfl
  · as_aux_lemma => kernel_rfl
  · as_aux_lemma => kernel_rfl
  · as_aux_lemma => kernel_rfl

theorem proved : Rows.FixReadsSaid :=
  OpenClaim.holds_of_wide 7 Try.f7 rfl rfl rfl rfl rfl rfl rfl ⟨rfl, rfl, rfl, rfl, rfl⟩ rfl rfl rfl rfl rfl (by kernel_rfl) Try.func7 closedFacts
    (of_decide_eq_true (by kernel_rfl)) (by unfold Func.isWrapper; first | (rw [if_pos (by decide +kernel)]; kernel_rfl) | (rw [if_neg (by decide +kernel)]; exact ⟨rfl, rfl⟩))
    (fun os started H enc _ => lifted os started H enc)

end Go.Proofs.Ytlcpackmoolngaa.lawFixReads
