/- The law TopRun returns true: Run is Frame by Frame from Begin on. Conditions: none. -/
import Derived.Test.YtobigbnmbnhikaaPb0
import Derived.Test.YtobigbnmbnhikaaPbc30
set_option linter.unusedVariables false
set_option linter.unusedSimpArgs false
namespace Go.Proofs.Ytobigbnmbnhikaa
namespace Op
open Go.ChangeShapes Go.WideShapes Go.ChangeAt Go.RowKit Mem
section
variable {H : Type} {enc : TypeId × Value → H} {P : Program} {w : World} {base : Nat} {spare : Nat → Bool} {held : Bool}
theorem light_of_each {ts : List TypeId} {ds : List (DataW H)} (h : (DataW.weightsEach P ts ds).all (· ≤ reachBytes) = true) {j : Nat} {t : TypeId} {d : DataW H} (ht : ts[j]? = some t) (hd : ds[j]? = some d) : Light P t d :=
 fun k hk => by simpa using List.all_eq_true.1 h _ (DataW.weights_mem_each ht hd k hk)
theorem flat_arg {t : TypeId} {ls : List TypeId} {v : Value} {d : DataW H} {ps : List MemPlace} (hl : leaves P 20 t = some ls) (h : DataW.Trod enc P w base spare held t v d ps) (hlt : Light P t d) : Cells enc P w base spare held ls v.cells.toList := by
 obtain ⟨n, hn⟩ := h; exact flat 20 t ls hl n _ _ hn hlt
theorem okWide_agg {r : Reach} {b0 : Nat} {t : TypeId} {v : Value} (hs : (match P.underlying t with | some (.struct _) | some (.array _ _) => true | _ => false) = true) (hv : Value.okWide P w r b0 t v) : ∃ cs : Array Value, v = .agg cs := by
 unfold Value.okWide at hv
 split at hv
 · obtain ⟨cs, h, _⟩ := hv; exact ⟨cs, h⟩
 · obtain ⟨cs, h, _⟩ := hv; exact ⟨cs, h⟩
 · split at hs <;> simp_all
end
theorem arr_of {cs : Array Value} {l : List Value} (h : cs.toList = l) : cs = l.toArray := by subst h; simp
end Op
namespace Cf
open Go.ChangeShapes Go.WideShapes Go.ChangeAt Go.RowKit Mem Rws Nd Cl
noncomputable def allS (t0 t1 t2 t3 : Int) (ys : List InS) : Nat → List Value × Nat
 | 0 => ([], 0)
 | k + 1 => ((allS t0 t1 t2 t3 ys k).1 ++ (repS t0 t1 t2 t3 ys k).1, (allS t0 t1 t2 t3 ys k).2 + (repS t0 t1 t2 t3 ys k).2)
theorem allS_le (t0 t1 t2 t3 : Int) (ys : List InS) : ∀ k, (allS t0 t1 t2 t3 ys k).2 ≤ 4 * k
 | 0 => Nat.le_refl _
 | k + 1 => by
  have h1 := allS_le t0 t1 t2 t3 ys k; have h2 := goods_len (ys.getD k default).bad 4
  show (allS t0 t1 t2 t3 ys k).2 + (goods (ys.getD k default).bad 4).length ≤ _
  omega
theorem goods_pos (bad : Int) : 0 < (goods bad 4).length := by
 show 0 < ((goods bad 2 ++ if ((2 : Nat) : Int) = bad then [] else [2]) ++ if ((3 : Nat) : Int) = bad then [] else [3]).length
 by_cases h3 : ((3 : Nat) : Int) = bad
 ·
  have h2 : ¬ ((2 : Nat) : Int) = bad := by omega
  rw [if_neg h2, List.length_append, List.length_append]; simp only [List.length_cons, List.length_nil]; omega
 · rw [if_neg h3, List.length_append]; simp
def WY (gc gr : Nat) (OA : Option Addr) (n OC : Nat) (b : Nat) : Prop := (b = gc ∨ b = gr) ∨ (Value.slice OA n OC).ownBlock = some b
theorem goods_mem {bad : Int} : ∀ {n i : Nat}, i ∈ goods bad n → i < n ∧ (i : Int) ≠ bad
 | 0, i, h => absurd h (by unfold goods; simp)
 | n + 1, i, h => by
  unfold goods at h
  rcases List.mem_append.1 h with h | h
  · exact ⟨by have := (goods_mem h).1; omega, (goods_mem h).2⟩
  ·
   split at h
   · simp at h
   ·
    rename_i hb
    simp at h
    subst h; exact ⟨by omega, hb⟩
theorem reps_one (c : CluS) (x : InS) (hs : Sane (next c x)) : ∀ u ∈ reps c x 4, u.oneCell' = true := by
 intro u hu
 unfold reps at hu
 obtain ⟨i, hi, hu⟩ := List.mem_flatMap.1 hu; obtain ⟨hi4, hib⟩ := goods_mem hi; have h0 := hs.ok i hi4
 rw [show (next c x).F i = G6 c x i from by show F6 c x i = _; unfold F6; rw [newK_good hi4 hib]] at h0
 have h := rep_one h0; rw [Array.all_eq_true'] at h; exact h u (by simpa using hu)
set_option maxRecDepth 100000 in
set_option maxHeartbeats 4000000 in
theorem run_any (t0 t1 t2 t3 : Int) (ht : Wf t0 ∧ Wf t1 ∧ Wf t2 ∧ Wf t3) (A : Option Addr) (c : Nat) (ys : List InS) (hg : GoodIns ys) (hl2 : ys.length ≤ 200) (w : World) (h : InsAt w w.heap.size A ys) :
  Calls Try.prog 15 #[.agg #[.int .i64 t0, .int .i64 t1, .int .i64 t2, .int .i64 t3], .slice A ys.length c] w fun e w' => ∃ VA VC OA OC, e = .returned (.tuple #[.agg (row 297 (cluCell (runS t0 t1 t2 t3 ys ys.length).fr (runS t0 t1 t2 t3 ys ys.length).F (verOf VA (runS t0 t1 t2 t3 ys ys.length).V VC))), .slice OA (allS t0 t1 t2 t3 ys ys.length).2 OC, .int .i64 0]) ∧ VerOk w' (runS t0 t1 t2 t3 ys ys.length) VA VC (fun _ => False) ∧ w'.ownsRow w.heap.size 53 14 (.slice OA (allS t0 t1 t2 t3 ys ys.length).2 OC) (allS t0 t1 t2 t3 ys ys.length).2 (allS t0 t1 t2 t3 ys ys.length).1 ∧ Below w.heap.size w w' := by
 have HIN := zz h; have HSA := zz (fun k (hk : k ≤ ys.length) => sane_run (t0 := t0) (t1 := t1) (t2 := t2) (t3 := t3) ht hg k hk); have HGB := zz hg.2; have HG1 := zz hg.1; have hd0 : decide ((200 : Int) < (ys.length : Int)) = false := decide_eq_false (by omega); clear h hg
 have B2 := zz (show Blk ((w.alloc (.cells #[.int .i64 t0, .int .i64 t1, .int .i64 t2, .int .i64 t3] 23)).alloc (.cells Try.zeroCells48 48)) w.heap.size 23 #[.int .i64 t0, .int .i64 t1, .int .i64 t2, .int .i64 t3] from (Blk.fresh _ _ _).alloc _)
 have B4 := zz (show Blk ((w.alloc (.cells #[.int .i64 t0, .int .i64 t1, .int .i64 t2, .int .i64 t3] 23)).alloc (.cells Try.zeroCells48 48)) (w.heap.size + 1) 48 Try.zeroCells48 from Blk.new (by simp))
 have HB := zz (((Below.refl w.heap.size w).alloc (Nat.le_refl _) (.cells #[.int .i64 t0, .int .i64 t1, .int .i64 t2, .int .i64 t3] 23)).alloc (by simp) (.cells Try.zeroCells48 48))
 go_enter Try.func15, Try.ntmps15
 go_upto_region 1 with fail
 generalize ((w.alloc (.cells #[.int .i64 t0, .int .i64 t1, .int .i64 t2, .int .i64 t3] 23)).alloc (.cells Try.zeroCells48 48)) = w1 at *
 obtain ⟨gt, hgt⟩ : ∃ g, w.heap.size = g := ⟨_, rfl⟩; have HGT := zz hgt; rw [hgt] at B2 B4 HB ⊢; clear hgt; obtain ⟨gr, hgr⟩ : ∃ g, gt + 1 = g := ⟨_, rfl⟩; have HGR := zz hgr; rw [hgr] at B4 ⊢; clear hgr
 go_upto_region 3 with fail
 go_wp2_with (refine wpList_whole rfl 23 _ rfl gt rfl B2.out _ Try.underlying23 rfl (by kernel_rfl) ?_)
 refine (cluster_any t0 t1 t2 t3 w1).mono ?_; rintro e w2 ⟨rfl, hb⟩; rw [begin_row]
 have i0 : (Try.prog.info? 48).map (·.size) = some (row 297 (cluCell (beginS t0 t1 t2 t3).fr (beginS t0 t1 t2 t3).F (verOf (fun _ => none) (beginS t0 t1 t2 t3).V (fun _ => 0)))).size := by rw [row_size]; kernel_rfl
 have z0 : (Try.zeroCells48).size = (row 297 (cluCell (beginS t0 t1 t2 t3).fr (beginS t0 t1 t2 t3).F (verOf (fun _ => none) (beginS t0 t1 t2 t3).V (fun _ => 0)))).size := by rw [row_size]; kernel_rfl
 have o0 := row_one (cluCell_one (sane_begin ht).ok (beginS t0 t1 t2 t3).fr (beginS t0 t1 t2 t3).V (fun _ => none) (fun _ => 0)); obtain ⟨R0, hR0⟩ : ∃ R, row 297 (cluCell (beginS t0 t1 t2 t3).fr (beginS t0 t1 t2 t3).F (verOf (fun _ => none) (beginS t0 t1 t2 t3).V (fun _ => 0))) = R := ⟨_, rfl⟩; rw [hR0] at i0 z0 o0 ⊢; have HR0 := zz hR0; clear hR0; have F1 : Hid (Blk (w2.alloc (.cells Try.zeroCells48 48)) w2.heap.size 48 Try.zeroCells48) := zz (Blk.fresh _ _ _); have hq1 : gt ≤ w1.heap.size := Nat.le_of_lt B2.out.lt; have hq2 : gt ≤ w2.heap.size := Nat.le_trans hq1 hb.size; have B4 := zz (B4.out.below hb B4.out.lt)
 have HRC := zz (show gr < w2.heap.size from B4.out.lt)
 have HB := zz (HB.out.trans (hb.mono hq1)); have HGC := zz hq2; have hbA := (Below.refl w2.heap.size w2).alloc (Nat.le_refl _) (.cells Try.zeroCells48 48)
 go_upto_region 4 with (refine wpList_store_row rfl 48 _ _ rfl w2.heap.size R0 rfl rfl 48 _ F1.out i0 z0 o0 ?_)
 have hbS := below_setRow hbA (Nat.le_refl _) R0; have BC := zz (F1.out.setRow R0); have B4 := zz (B4.out.below hbS B4.out.lt); have HB := zz (HB.out.trans (hbS.mono hq2))
 have HIN := zz ((HIN.out.below (by rw [HGT.out]; exact HB.out)).more (show w.heap.size ≤ w2.heap.size by rw [HGT.out]; exact HGC.out))
 clear F1 i0 z0 o0 hb hq1 hq2 hbA hbS B2
 generalize ((w2.alloc (.cells Try.zeroCells48 48)).setRow w2.heap.size R0) = w3 at *
 obtain ⟨gc, hgc⟩ : ∃ g, w2.heap.size = g := ⟨_, rfl⟩; rw [hgc] at BC HGC HRC HIN ⊢; clear hgc
 have HC3 := zz (show gc ≤ w3.heap.size from Nat.le_of_lt BC.out.lt)
 go_wp2_with fail
 go_loopw [22, 8] (fun v u wr => ∃ (i : Nat) (VA : Nat → Option Addr) (VC : Nat → Nat) (OA : Option Addr) (OC : Nat), i ≤ ys.length ∧ v = .int .i64 (i : Int) ∧ u = .slice OA (allS t0 t1 t2 t3 ys i).2 OC ∧ Blk wr gc 48 (row 297 (cluCell (runS t0 t1 t2 t3 ys i).fr (runS t0 t1 t2 t3 ys i).F (verOf VA (runS t0 t1 t2 t3 ys i).V VC))) ∧ VerOk wr (runS t0 t1 t2 t3 ys i) VA VC (WY gc gr OA (allS t0 t1 t2 t3 ys i).2 OC) ∧ wr.ownsRow gc 53 14 (.slice OA (allS t0 t1 t2 t3 ys i).2 OC) (allS t0 t1 t2 t3 ys i).2 (allS t0 t1 t2 t3 ys i).1 ∧ Below gc w3 wr) (fun v _ _ => ys.length - (intOf v).toNat)
 case atStart => exact ⟨0, fun _ => none, fun _ => 0, none, 0, by omega, rfl, rfl, by show Blk w3 gc _ (row 297 (cluCell (beginS t0 t1 t2 t3).fr (beginS t0 t1 t2 t3).F (verOf (fun _ => none) (beginS t0 t1 t2 t3).V (fun _ => 0)))); rw [HR0.out]; exact BC.out, fun j hj => ⟨fun _ => rfl, by show (([] : List Bool)).length ≤ _; simp, Rd.nil _ _ _ _, fun hn => absurd hn (by show ¬ 0 < (([] : List Bool)).length; simp)⟩, World.ownsRow_nil _ _ _ _, Below.refl _ _⟩
 case round =>
  obtain ⟨i, VA, VC, OA, OC, hi, rfl, rfl, hbc, hvo, hoo, hbw⟩ := hrel; have BC := zz hbc; have HVO := zz hvo; have HOO := zz hoo; have HBW := zz hbw; have HNL := zz (allS_le t0 t1 t2 t3 ys i); clear hbc hvo hoo hbw
  by_cases hlt : i < ys.length
  ·
   have hx : ys[i]? = some (ys.getD i default) := by rw [List.getD_eq_getElem?_getD, List.getElem?_eq_getElem hlt]; rfl
   have hgy := HGB.out i hlt; have hrs : repS t0 t1 t2 t3 ys i = (reps (runS t0 t1 t2 t3 ys i) (ys.getD i default) 4, (goods (ys.getD i default).bad 4).length) := rfl; have hS : (allS t0 t1 t2 t3 ys (i + 1)) = ((allS t0 t1 t2 t3 ys i).1 ++ (repS t0 t1 t2 t3 ys i).1, (allS t0 t1 t2 t3 ys i).2 + (repS t0 t1 t2 t3 ys i).2) := rfl; have hr2 : (runS t0 t1 t2 t3 ys (i + 1)) = next (runS t0 t1 t2 t3 ys i) (ys.getD i default) := runS_succ _ _ _ _ _ _; have h1o := reps_one (runS t0 t1 t2 t3 ys i) (ys.getD i default) (by rw [← hr2]; exact HSA.out (i + 1) (by omega)); obtain ⟨y, hye⟩ : ∃ y, ys.getD i default = y := ⟨_, rfl⟩; rw [hye] at hx hgy hrs hr2 h1o; rw [hrs] at hS; have HS := zz hS; have HR2 := zz hr2; have HGY := zz hgy; have H1O := zz h1o; clear hye hgy hrs hS hr2 h1o; have hin := HIN.out.below HBW.out; obtain ⟨bi, oi, LA, LC, rfl, hbl, hrg, hLA, hLn, hLc, hlies⟩ := hin.at hx
   have hi0 : (0 : Int) ≤ (i : Int) := by omega
   have hi3 : (i : Int) < (ys.length : Int) := by omega
   have HRG := zz hrg; have HLI := zz (lies_more hlies (Nat.le_trans HC3.out HBW.out.size)); clear hrg hlies hin hx hbl hLA hLn hLc; obtain ⟨NN, hNN⟩ : ∃ N, (allS t0 t1 t2 t3 ys i).2 = N := ⟨_, rfl⟩; obtain ⟨XS, hXS⟩ : ∃ X, (allS t0 t1 t2 t3 ys i).1 = X := ⟨_, rfl⟩; rw [hNN] at HVO HOO HNL HS ⊢; rw [hXS] at HOO HS; clear hNN hXS; have F1 : Hid (Blk (wr.alloc (.cells #[.int .i64 0, .int .i64 0, .int .i64 0, .int .i64 0, .int .i64 0, .int .i64 0, .int .i64 0, .int .i64 0, .int .i64 0, .int .i64 0, .int .i64 0, .int .i64 0, .int .i64 0, .slice none 0 0] 56)) wr.heap.size 56 #[.int .i64 0, .int .i64 0, .int .i64 0, .int .i64 0, .int .i64 0, .int .i64 0, .int .i64 0, .int .i64 0, .int .i64 0, .int .i64 0, .int .i64 0, .int .i64 0, .int .i64 0, .slice none 0 0]) := zz (Blk.fresh _ _ _); have hbA : Below wr.heap.size wr (wr.alloc (.cells #[.int .i64 0, .int .i64 0, .int .i64 0, .int .i64 0, .int .i64 0, .int .i64 0, .int .i64 0, .int .i64 0, .int .i64 0, .int .i64 0, .int .i64 0, .int .i64 0, .int .i64 0, .slice none 0 0] 56)) := (Below.refl _ _).alloc (Nat.le_refl _) _; obtain ⟨R1, hR1⟩ : ∃ R, row 14 (inCell y.rd y.bad (.slice LA y.ls.length LC)) = R := ⟨_, rfl⟩
   have i1 : (Try.prog.info? 56).map (·.size) = some R1.size := by rw [← hR1, row_size]; kernel_rfl
   have z1 : (#[.int .i64 0, .int .i64 0, .int .i64 0, .int .i64 0, .int .i64 0, .int .i64 0, .int .i64 0, .int .i64 0, .int .i64 0, .int .i64 0, .int .i64 0, .int .i64 0, .int .i64 0, .slice none 0 0] : Array Value).size = R1.size := by rw [← hR1, row_size]; rfl
   have o1 : R1.all (·.oneCell') = true := by rw [← hR1]; exact row_one fun j _ => inCell_one _ _ _ _ _ j
   have HR1 := zz hR1
   go_upto_region 8 with (first
    | (refine wpList_rng rfl 56 _ rfl bi (oi + i * 14) 14 rfl (inCell y.rd y.bad (.slice LA y.ls.length LC)) HRG.out _ Try.underlying56 rfl (by kernel_rfl) ?_; rw [hR1])
    | (refine wpList_store_row rfl 56 _ _ rfl wr.heap.size R1 rfl rfl 56 _ F1.out i1 z1 o1 ?_))
   have hbS := below_setRow hbA (Nat.le_refl _) R1
   have HLT := zz (show ∀ b, WY gc gr OA NN OC b → b < wr.heap.size from fun b h => by
    have h0 := BC.out.lt; have h1 := HRC.out
    rcases h with (h | h) | h
    · omega
    · omega
    · exact (HOO.out.lt b h).2)
   have HPW := zz hbS.size; have BI := zz (F1.out.setRow R1); have BC := zz (BC.out.below hbS BC.out.lt); have HVO := zz (HVO.out.below hbS); have HOO := zz (ownsRow_below HOO.out hbS); have HBW := zz (onward HBW.out HC3.out hbS); have HLI := zz (lies_more (HLI.out.below hbS) hbS.size); clear F1 hbA hbS hR1 z1 o1 HRG
   generalize ((wr.alloc (.cells #[.int .i64 0, .int .i64 0, .int .i64 0, .int .i64 0, .int .i64 0, .int .i64 0, .int .i64 0, .int .i64 0, .int .i64 0, .int .i64 0, .int .i64 0, .int .i64 0, .int .i64 0, .slice none 0 0] 56)).setRow wr.heap.size R1) = wp at *
   obtain ⟨gi, hgi⟩ : ∃ g, wr.heap.size = g := ⟨_, rfl⟩; rw [hgi] at BI ⊢; clear hgi
   have iJ : (Try.prog.info? 48).map (·.size) = some (row 297 (cluCell (runS t0 t1 t2 t3 ys i).fr (runS t0 t1 t2 t3 ys i).F (verOf VA (runS t0 t1 t2 t3 ys i).V VC))).size := by rw [row_size]; kernel_rfl
   obtain ⟨RJ, hRJ⟩ : ∃ R, (row 297 (cluCell (runS t0 t1 t2 t3 ys i).fr (runS t0 t1 t2 t3 ys i).F (verOf VA (runS t0 t1 t2 t3 ys i).V VC))) = R := ⟨_, rfl⟩; rw [hRJ] at BC iJ; have HRJ := zz hRJ; clear hRJ
   go_wp2_with (first
    | (refine wpList_whole rfl 48 _ rfl gc rfl BC.out _ Try.underlying48 rfl iJ ?_)
    | (refine wpList_whole rfl 56 _ rfl gi rfl BI.out _ Try.underlying56 rfl i1 ?_))
   rw [← HRJ.out, ← HR1.out]; refine (frame_any (runS t0 t1 t2 t3 ys i) y (HSA.out i (by omega)) HGY.out.1 HGY.out.2.1 HGY.out.2.2 VA VC LA LC wp (fun j hj => ⟨(HVO.out j hj).1, (HVO.out j hj).2.1, (HVO.out j hj).2.2.1⟩) HLI.out).mono ?_; rintro e w4 ⟨VA2, VC2, RA, RC, rfl, hv2, hown, hb⟩; rw [← HR2.out] at hv2 ⊢
   have iN : (Try.prog.info? 48).map (·.size) = some (row 297 (cluCell (runS t0 t1 t2 t3 ys (i + 1)).fr (runS t0 t1 t2 t3 ys (i + 1)).F (verOf VA2 (runS t0 t1 t2 t3 ys (i + 1)).V VC2))).size := by rw [row_size]; kernel_rfl
   have zN : (Try.zeroCells48).size = (row 297 (cluCell (runS t0 t1 t2 t3 ys (i + 1)).fr (runS t0 t1 t2 t3 ys (i + 1)).F (verOf VA2 (runS t0 t1 t2 t3 ys (i + 1)).V VC2))).size := by rw [row_size]; kernel_rfl
   have zM : RJ.size = (row 297 (cluCell (runS t0 t1 t2 t3 ys (i + 1)).fr (runS t0 t1 t2 t3 ys (i + 1)).F (verOf VA2 (runS t0 t1 t2 t3 ys (i + 1)).V VC2))).size := by rw [← HRJ.out, row_size, row_size]
   have oN := row_one (cluCell_one (HSA.out (i + 1) (by omega)).ok (runS t0 t1 t2 t3 ys (i + 1)).fr (runS t0 t1 t2 t3 ys (i + 1)).V VA2 VC2); obtain ⟨RN, hRN⟩ : ∃ R, (row 297 (cluCell (runS t0 t1 t2 t3 ys (i + 1)).fr (runS t0 t1 t2 t3 ys (i + 1)).F (verOf VA2 (runS t0 t1 t2 t3 ys (i + 1)).V VC2))) = R := ⟨_, rfl⟩; rw [hRN] at iN zN zM oN ⊢; have HRN := zz hRN; clear hRN
   have HRX := zz (show ∀ b, (Value.slice RA (goods y.bad 4).length RC).ownBlock = some b → ¬ WY gc gr OA NN OC b from fun b e hx => by have h1 := (hown.lt b e).1; have h2 := HLT.out _ hx; have h3 := HPW.out; omega)
   have HVN := zz (show VerOk w4 (runS t0 t1 t2 t3 ys (i + 1)) VA2 VC2 (WY gc gr OA NN OC) from fun j hj => ⟨(hv2 j hj).1, (hv2 j hj).2.1, (hv2 j hj).2.2.1, fun hn a e hx => by have h1 := (hv2 j hj).2.2.2 hn a e; have h2 := HLT.out _ hx; have h3 := HPW.out; omega⟩)
   have HRO := zz (own_weaken hown (show gc ≤ wp.heap.size from Nat.le_of_lt BC.out.lt))
   have BC := zz (BC.out.below hb BC.out.lt); have HOO := zz (ownsRow_below HOO.out hb); have HBW := zz (onward HBW.out HC3.out hb); clear hv2 hown hb; have F1 : Hid (Blk (w4.alloc (.cells Try.zeroCells48 48)) w4.heap.size 48 Try.zeroCells48) := zz (Blk.fresh _ _ _); have hbA : Below w4.heap.size w4 (w4.alloc (.cells Try.zeroCells48 48)) := (Below.refl _ _).alloc (Nat.le_refl _) _
   go_upto_region 9 with (refine wpList_store_row rfl 48 _ _ rfl w4.heap.size RN rfl rfl 48 _ F1.out iN zN oN ?_)
   have hbS := below_setRow hbA (Nat.le_refl _) RN; have BD := zz (F1.out.setRow RN); have BC := zz (BC.out.below hbS BC.out.lt); have HVN := zz (HVN.out.below hbS); have HOO := zz (ownsRow_below HOO.out hbS); have HRO := zz (ownsRow_below HRO.out hbS); have HBW := zz (onward HBW.out HC3.out hbS); clear F1 hbA hbS zN
   generalize ((w4.alloc (.cells Try.zeroCells48 48)).setRow w4.heap.size RN) = w5 at *
   obtain ⟨gd, hgd⟩ : ∃ g, w4.heap.size = g := ⟨_, rfl⟩; rw [hgd] at BD ⊢; clear hgd
   have hwi : IntKind.i64.wrap ((i : Int) + 1) = ((i + 1 : Nat) : Int) := by rw [IntKind.wrap_i64]; have := HG1.out; omega
   go_upto_region 11 with fail
   go_upto_region 12 with (first
    | (refine wpList_whole rfl 48 _ rfl gd rfl BD.out _ Try.underlying48 rfl iN ?_)
    | (refine wpList_store_row rfl 48 _ _ rfl gc RN rfl rfl 48 _ BC.out iN zM oN ?_))
   have hgr := gr_setRowR w5 gc RN; have hX0 : ∀ g, some gc = some g → WY gc gr OA NN OC g := fun g e => .inl (.inl (by injection e with e; exact e.symm)); have HOO := zz (HOO.out.kept hgr (.inr (own_ne_blk HOO.out BC.out (by decide)))); have HRO := zz (HRO.out.kept hgr (.inr (own_ne_blk HRO.out BC.out (by decide)))); have BC := zz (BC.out.setRow RN); have HVN := zz (HVN.out.grown hgr hX0); have HBW := zz (below_setRow HBW.out (Nat.le_refl _) RN); clear hgr hX0 BD iN zM oN iJ i1
   generalize (w5.setRow gc RN) = w6 at *
   obtain ⟨br, orr, hRA, hbr, hcr⟩ := (Rd.of_own HRO.out).2 (goods_pos y.bad)
   have HCF := zz (show ∀ j u, (reps (runS t0 t1 t2 t3 ys i) y 4)[j]? = some u → w6.cell? (Addr.add ⟨br, orr, none⟩ j) = some u from fun j u hu => by rw [Addr.add_lit]; exact hcr j u hu)
   have HRL := zz (show (reps (runS t0 t1 t2 t3 ys i) y 4).length = (goods y.bad 4).length * 14 from HRO.out.1)
   have hgl : (goods y.bad 4).length ≤ 4 := goods_len _ 4; have HGL := zz hgl
   have HGS := zz (show gc ≤ w6.heap.size from Nat.le_of_lt BC.out.lt)
   clear hbr hcr hgl; subst hRA; refine wp_region_list ?_; refine wpList_wanted (by rfl) (fun K hK => ?_); go_simp; refine hK _ _ ?_; clear hK K; (try simp only [Rg.lp]); refine wpList_wanted (by rfl) (fun K hK => ?_); go_simp; refine hK _ _ ?_; clear hK K; (try simp only [Rg.lp]); refine wpList_append_at _ rfl (.tmp 38) (.tmp 39) 51 rfl (base := gc) elemReps rfl HOO.out rfl (news := reps (runS t0 t1 t2 t3 ys i) y 4) HRL.out HCF.out H1O.out (by have := HG1.out; have := HNL.out; have := HGL.out; unfold maxLen; omega) (by have := HG1.out; have := HNL.out; have := HGL.out; omega) HGS.out ?_; intro A5 C5 w7 hown5 hg5 hat5; (try simp only [Rg.lp]); have hz1 := wz_wider (X := WY gc gr OA NN OC) hat5 (fun b e => .inr e); have hx1 : ∀ g, (Value.slice OA NN OC).ownBlock = some g → WZ (WY gc gr OA NN OC) (Value.slice A5 (NN + (goods y.bad 4).length) C5).ownBlock g := fun g e => .inl (.inr e)
   have HVN := zz (((HVN.out.wider hz1).grown hg5 hx1).wider (Y := WY gc gr A5 (NN + (goods y.bad 4).length) C5) (fun b _ h => by
    rcases h with h | h
    · exact .inl (.inl h)
    · exact .inr h))
   have BC := zz (BC.out.grown hg5 (fun e => own_ne_blk HOO.out BC.out (by decide) e.symm)); have HBW := zz (HBW.out.grown hg5 (Nat.le_trans HC3.out HBW.out.size) (fun g e => (HOO.out.lt g e).1)); have HO5 := zz hown5; clear hown5 hg5 hat5 hz1 hx1 HGS HCF HRL H1O HRO HOO HRX HLT; refine wpList_wanted (by rfl) (fun K hK => ?_); go_simp; refine hK _ _ ?_; clear hK K; (try simp only [Rg.lp]); go_wp2_with fail; refine ⟨⟨i + 1, VA2, VC2, A5, C5, by omega, by go_num, ?_, ?_, ?_, ?_, HBW.out⟩, by simp [intOf]; omega⟩
   · rw [HS.out]
   · rw [HRN.out]; exact BC.out
   · rw [HS.out]; exact HVN.out
   · rw [HS.out]; exact HO5.out
  ·
   obtain rfl : i = ys.length := by omega
   have hd1 : decide ((ys.length : Int) < (ys.length : Int)) = false := decide_eq_false (by omega)
   have iJ : (Try.prog.info? 48).map (·.size) = some (row 297 (cluCell (runS t0 t1 t2 t3 ys ys.length).fr (runS t0 t1 t2 t3 ys ys.length).F (verOf VA (runS t0 t1 t2 t3 ys ys.length).V VC))).size := by rw [row_size]; kernel_rfl
   have zJ : (Try.zeroCells48).size = (row 297 (cluCell (runS t0 t1 t2 t3 ys ys.length).fr (runS t0 t1 t2 t3 ys ys.length).F (verOf VA (runS t0 t1 t2 t3 ys ys.length).V VC))).size := by rw [row_size]; kernel_rfl
   have oJ := row_one (cluCell_one (HSA.out ys.length (by omega)).ok (runS t0 t1 t2 t3 ys ys.length).fr (runS t0 t1 t2 t3 ys ys.length).V VA VC); obtain ⟨RJ, hRJ⟩ : ∃ R, (row 297 (cluCell (runS t0 t1 t2 t3 ys ys.length).fr (runS t0 t1 t2 t3 ys ys.length).F (verOf VA (runS t0 t1 t2 t3 ys ys.length).V VC))) = R := ⟨_, rfl⟩; rw [hRJ] at BC iJ zJ oJ; have HRJ := zz hRJ; clear hRJ; have B4 := zz (B4.out.below HBW.out HRC.out)
   go_wp2_with (first
    | (refine wpList_whole rfl 48 _ rfl gc rfl BC.out _ Try.underlying48 rfl iJ ?_)
    | (refine wpList_store_row rfl 48 _ _ rfl gr RJ rfl rfl 48 _ B4.out iJ zJ oJ ?_))
   have hgr := gr_setRowR wr gr RJ; have HOO2 := zz (HOO.out.kept hgr (.inr (fun e => by have := (HOO.out.lt _ e).1; have := HRC.out; omega))); refine ret_row3 rfl rfl rfl rfl (B4.out.setRow RJ) ⟨by rw [Try.underlying48], iJ⟩ rfl ⟨VA, VC, OA, OC, by rw [HRJ.out]; rfl, ?_, own_weaken HOO2.out (by rw [HGT.out]; exact HGC.out), ?_⟩
   · exact (HVO.out.grown hgr (fun g e => .inl (.inr (by injection e with e; exact e.symm)))).wider (fun _ _ h => h.elim)
   ·
    rw [HGT.out]; exact below_setRow (HB.out.trans (HBW.out.mono HGC.out)) (by have := HGR.out; omega) RJ
end Cf
namespace Cf
open Go.ChangeShapes Go.WideShapes Go.ChangeAt Go.RowKit Mem Rws Nd Cl Flat
theorem exec_neq_same {P : Program} {o : Oper} {a : Act} (t u : TypeId) (x y : Operand) (ho : o.op = .binOp .neq t x y u) {d : Nat} {ls : List Bool} (he : eqOK P d t = some ls) (hd : d ≤ 10000) {e : TypeDesc} (hu : P.underlying t = some e) (hr : e.isRow = true) (hi : (P.info? t).map (·.size) = some ls.length) (hq : P.eqGuardType P.depth t = false)
  (f : Nat → Value) (hx : a.eval x = .agg (row ls.length f)) (hy : a.eval y = .agg (row ls.length f)) (ht : Typed ls ((List.range ls.length).map f)) (w : World) : (execOp a.eval o).run P w = .ok (.value (.bool false)) w := by
 unfold execOp
 simp only [ho, hx, hy, Sem.run_bind, run_neqGuard_rows hq, run_neq_refl he hd hu hr hi _ (row_size _ _) ht, Result.andThen_ok, Sem.run_pure]
theorem rep_ok {t0 t1 t2 t3 : Int} {ys : List InS} (h : Wf t0 ∧ Wf t1 ∧ Wf t2 ∧ Wf t3) (hg : GoodIns ys) {j : Nat} (hj : j < ys.length) {k : Nat} (hk : k < (repS t0 t1 t2 t3 ys j).2) :
  ∃ g : Nat → Value, (∀ i, i < 14 → (repS t0 t1 t2 t3 ys j).1[k * 14 + i]? = some (repF g i)) ∧ ∀ i, i < 73 → okT (nodeT i) (g i) := by
 unfold repS at hk ⊢
 obtain ⟨hp, hpb⟩ := goods_get _ _ _ hk; refine ⟨G6 (runS t0 t1 t2 t3 ys j) (ys.getD j default) ((goods (ys.getD j default).bad 4).getD k 0), fun i hi => reps_get _ _ k i hk hi, ?_⟩; have h2 := (sane_run (ys := ys) h hg (j + 1) (by omega)).ok _ hp
 have e : (runS t0 t1 t2 t3 ys (j + 1)).F ((goods (ys.getD j default).bad 4).getD k 0) = G6 (runS t0 t1 t2 t3 ys j) (ys.getD j default) ((goods (ys.getD j default).bad 4).getD k 0) := by
  rw [runS_succ]
  show F6 _ _ _ = _
  unfold F6
  rw [newK_good hp hpb]
 rw [e] at h2; exact h2
end Cf
namespace Cf
open Go.ChangeShapes Go.WideShapes Go.ChangeAt Go.RowKit Mem Rws Nd Cl Flat
theorem flat_len {α : Type} (n : Nat) (g : α → List Value) (hg : ∀ a, (g a).length = n) : ∀ l : List α, (l.flatMap g).length = l.length * n
 | [] => by simp
 | a :: l => by rw [List.flatMap_cons, List.length_append, hg, flat_len n g hg l, List.length_cons, Nat.add_mul]; omega
theorem repS_len (t0 t1 t2 t3 : Int) (ys : List InS) (k : Nat) : (repS t0 t1 t2 t3 ys k).1.length = (repS t0 t1 t2 t3 ys k).2 * 14 :=
 flat_len 14 _ (fun a => by rw [Array.length_toList, row_size]) _
theorem allS_len (t0 t1 t2 t3 : Int) (ys : List InS) : ∀ k, (allS t0 t1 t2 t3 ys k).1.length = (allS t0 t1 t2 t3 ys k).2 * 14
 | 0 => rfl
 | k + 1 => by
  show ((allS t0 t1 t2 t3 ys k).1 ++ (repS t0 t1 t2 t3 ys k).1).length = ((allS t0 t1 t2 t3 ys k).2 + (repS t0 t1 t2 t3 ys k).2) * 14
  rw [List.length_append, allS_len t0 t1 t2 t3 ys k, repS_len, Nat.add_mul]
theorem allS_mono (t0 t1 t2 t3 : Int) (ys : List InS) {j : Nat} : ∀ {n : Nat}, j ≤ n → (allS t0 t1 t2 t3 ys j).2 ≤ (allS t0 t1 t2 t3 ys n).2 ∧ ∀ i, i < (allS t0 t1 t2 t3 ys j).1.length → (allS t0 t1 t2 t3 ys n).1[i]? = (allS t0 t1 t2 t3 ys j).1[i]?
 | 0, h => by
        obtain rfl : j = 0 := by omega
        exact ⟨Nat.le_refl _, fun _ _ => rfl⟩
 | n + 1, h => by
  by_cases e : j = n + 1
  · subst e; exact ⟨Nat.le_refl _, fun _ _ => rfl⟩
  ·
   obtain ⟨h1, h2⟩ := allS_mono t0 t1 t2 t3 ys (j := j) (n := n) (by omega); refine ⟨Nat.le_trans h1 (Nat.le_add_right _ _), fun i hi => ?_⟩; rw [← h2 i hi]
   show ((allS t0 t1 t2 t3 ys n).1 ++ (repS t0 t1 t2 t3 ys n).1)[i]? = _
   rw [List.getElem?_append_left]; rw [allS_len] at hi ⊢; exact Nat.lt_of_lt_of_le hi (Nat.mul_le_mul_right _ h1)
theorem allS_lt {t0 t1 t2 t3 : Int} {ys : List InS} {j k n : Nat} (hj : j < n) (hk : k < (repS t0 t1 t2 t3 ys j).2) : (allS t0 t1 t2 t3 ys j).2 + k < (allS t0 t1 t2 t3 ys n).2 := by
 have h1 := (allS_mono t0 t1 t2 t3 ys (j := j + 1) (n := n) (by omega)).1; have h2 : (allS t0 t1 t2 t3 ys (j + 1)).2 = (allS t0 t1 t2 t3 ys j).2 + (repS t0 t1 t2 t3 ys j).2 := rfl; omega
theorem allS_get {t0 t1 t2 t3 : Int} {ys : List InS} {j k n i : Nat} (hj : j < n) (hk : k < (repS t0 t1 t2 t3 ys j).2) (hi : i < 14) : (allS t0 t1 t2 t3 ys n).1[((allS t0 t1 t2 t3 ys j).2 + k) * 14 + i]? = (repS t0 t1 t2 t3 ys j).1[k * 14 + i]? := by
 have h1 := (allS_mono t0 t1 t2 t3 ys (j := j + 1) (n := n) (by omega)).2 (((allS t0 t1 t2 t3 ys j).2 + k) * 14 + i) (by
  rw [allS_len]
  show _ < ((allS t0 t1 t2 t3 ys j).2 + (repS t0 t1 t2 t3 ys j).2) * 14
  omega)
 rw [h1]
 show ((allS t0 t1 t2 t3 ys j).1 ++ (repS t0 t1 t2 t3 ys j).1)[_]? = _
 rw [List.getElem?_append_right (by rw [allS_len]; omega), allS_len]
 congr 1
 omega
end Cf
namespace lawTopRun
open Go.ChangeShapes Go.WideShapes Go.ChangeAt Go.RowKit Mem Rws Nd Cl Cf
set_option maxRecDepth 100000 in
set_option maxHeartbeats 4000000 in
theorem walk (t0 t1 t2 t3 : Int) (ht : Wf t0 ∧ Wf t1 ∧ Wf t2 ∧ Wf t3) (A : Option Addr) (c : Nat) (xs : List InS) (hxl : xs.length ≤ 1099511627776) (hxw : ∀ x ∈ xs, (∀ i, i < 12 → Wf (x.rd i)) ∧ Wf x.bad) (bad : Int) (hbad : -9223372036854775808 ≤ bad ∧ bad ≤ 9223372036854775807) (w : World) (h : InsAt w w.heap.size A xs) :
  Calls Try.prog 8 #[.agg #[.int .i64 t0, .int .i64 t1, .int .i64 t2, .int .i64 t3], .slice A xs.length c, .int .i64 bad] w fun e w' => e = .returned (.bool true) ∧ Below w.heap.size w w' := by
 have HIN := zz h
 have B3 := zz (show Blk (w.alloc (.cells #[.int .i64 t0, .int .i64 t1, .int .i64 t2, .int .i64 t3] 23)) w.heap.size 23 #[.int .i64 t0, .int .i64 t1, .int .i64 t2, .int .i64 t3] from Blk.fresh _ _ _)
 have hb : Below w.heap.size w (w.alloc (.cells #[.int .i64 t0, .int .i64 t1, .int .i64 t2, .int .i64 t3] 23)) := (Below.refl _ _).alloc (Nat.le_refl _) _; have HB := zz hb; have HIN := zz ((HIN.out.below hb).more hb.size); clear h hb
 go_enter Try.func8, Try.ntmps8
 go_wp2_with fail; refine (spot_any bad 5 hbad (.inr rfl) _).mono ?_; rintro e w1 ⟨r, hr0, hr5, rfl, rfl⟩; obtain ⟨bd, hbd⟩ : ∃ b, r - 1 = b := ⟨_, rfl⟩
 have hwr : IntKind.i64.wrap (r - 1) = bd := by rw [IntKind.wrap_i64]; omega
 have hol : (ones bd xs).length ≤ 200 := by rw [ones_len]; omega
 have HGI := zz (ones_good (bad := bd) (xs := xs) (by omega) hxw); clear hbd hr0 hr5 hbad hxw
 go_upto_region 2 with fail
 generalize (w.alloc (.cells #[.int .i64 t0, .int .i64 t1, .int .i64 t2, .int .i64 t3] 23)) = w1 at *
 obtain ⟨gt, hgt⟩ : ∃ g, w.heap.size = g := ⟨_, rfl⟩; have HGT := zz hgt; rw [hgt] at B3 HB ⊢; clear hgt; go_wp2_with fail; refine (one_any A c xs bd w1 hxl HIN.out).mono ?_; rintro e w4 ⟨A4, c4, rfl, ha4, hc4, hin4, hb⟩; have HIN4 := zz hin4; have HB := zz (onward HB.out (Nat.le_of_eq HGT.out.symm) hb); have B3 := zz (B3.out.below hb B3.out.lt); clear hin4 hb
 go_wp2_with (refine wpList_whole rfl 23 _ rfl gt rfl B3.out _ Try.underlying23 rfl (by kernel_rfl) ?_)
 refine (behind_any t0 t1 t2 t3 ht A4 c4 (ones bd xs) HGI.out.1 w4 HIN4.out).mono ?_; rintro e w5 ⟨CA, CC, OA, OC, cs, os, rfl, hoc, hci, hoo, hri, hb⟩; have HOC := zz hoc; have HCI := zz hci; have HOO := zz hoo; have HRI := zz hri; have HB := zz (onward HB.out (Nat.le_of_eq HGT.out.symm) hb); have HIN4 := zz ((HIN4.out.below hb).more hb.size); have B3 := zz (B3.out.below hb B3.out.lt); clear hoc hci hoo hri hb HIN
 go_upto_region 4 with fail
 go_wp2_with (refine wpList_whole rfl 23 _ rfl gt rfl B3.out _ Try.underlying23 rfl (by kernel_rfl) ?_)
 refine (run_any t0 t1 t2 t3 ht A4 c4 (ones bd xs) HGI.out.1 hol w5 HIN4.out).mono ?_; rintro e w6 ⟨VR, KR, QA, QC, rfl, hvr, hor, hb⟩; have HOC := zz (ownsRow_below HOC.out hb); have HCI := zz (HCI.out.below hb); have HOO := zz (ownsRow_below HOO.out hb); have HRI := zz (HRI.out.below hb); have HB := zz (onward HB.out (Nat.le_of_eq HGT.out.symm) hb); have HVR := zz hvr; have HOR := zz hor; clear hvr hor hb HIN4 B3
 have iN : (Try.prog.info? 48).map (·.size) = some (row 297 (cluCell (runS t0 t1 t2 t3 (ones bd xs) (ones bd xs).length).fr (runS t0 t1 t2 t3 (ones bd xs) (ones bd xs).length).F (verOf VR (runS t0 t1 t2 t3 (ones bd xs) (ones bd xs).length).V KR))).size := by rw [row_size]; kernel_rfl
 have zN : (Try.zeroCells48).size = (row 297 (cluCell (runS t0 t1 t2 t3 (ones bd xs) (ones bd xs).length).fr (runS t0 t1 t2 t3 (ones bd xs) (ones bd xs).length).F (verOf VR (runS t0 t1 t2 t3 (ones bd xs) (ones bd xs).length).V KR))).size := by rw [row_size]; kernel_rfl
 have oN := row_one (cluCell_one (sane_run ht HGI.out.1 _ (Nat.le_refl _)).ok (runS t0 t1 t2 t3 (ones bd xs) (ones bd xs).length).fr (runS t0 t1 t2 t3 (ones bd xs) (ones bd xs).length).V VR KR); obtain ⟨RN, hRN⟩ : ∃ R, row 297 (cluCell (runS t0 t1 t2 t3 (ones bd xs) (ones bd xs).length).fr (runS t0 t1 t2 t3 (ones bd xs) (ones bd xs).length).F (verOf VR (runS t0 t1 t2 t3 (ones bd xs) (ones bd xs).length).V KR)) = R := ⟨_, rfl⟩; rw [hRN] at iN zN oN ⊢; have HRN := zz hRN; have F1 : Hid (Blk (w6.alloc (.cells Try.zeroCells48 48)) w6.heap.size 48 Try.zeroCells48) := zz (Blk.fresh _ _ _); have hbA : Below w6.heap.size w6 (w6.alloc (.cells Try.zeroCells48 48)) := (Below.refl _ _).alloc (Nat.le_refl _) _
 go_upto_region 5 with (refine wpList_store_row rfl 48 _ _ rfl w6.heap.size RN rfl rfl 48 _ F1.out iN zN oN ?_)
 have hbS := below_setRow hbA (Nat.le_refl _) RN; have B10 := zz (F1.out.setRow RN); have HOC := zz (ownsRow_below HOC.out hbS); have HCI := zz (HCI.out.below hbS); have HOO := zz (ownsRow_below HOO.out hbS); have HRI := zz (HRI.out.below hbS); have HVR := zz (HVR.out.below hbS); have HOR := zz (ownsRow_below HOR.out hbS); have HB := zz (onward HB.out (Nat.le_of_eq HGT.out.symm) hbS); clear F1 hbA hbS hRN iN zN oN
 generalize ((w6.alloc (.cells Try.zeroCells48 48)).setRow w6.heap.size RN) = w7 at *
 obtain ⟨g10, hg10⟩ : ∃ g, w6.heap.size = g := ⟨_, rfl⟩; rw [hg10] at B10 ⊢; clear hg10; rw [← HRN.out] at B10; clear HRN; go_wp2_with fail; refine (alive_any _).mono ?_; rintro e w8 ⟨rfl, hb⟩; have B10 := zz (B10.out.below hb B10.out.lt); have HOC := zz (ownsRow_below HOC.out hb); have HCI := zz (HCI.out.below hb); have HOO := zz (ownsRow_below HOO.out hb); have HRI := zz (HRI.out.below hb); have HVR := zz (HVR.out.below hb); have HOR := zz (ownsRow_below HOR.out hb); have HB := zz (onward HB.out (Nat.le_of_eq HGT.out.symm) hb); clear hb; have HNT := zz (allS_le t0 t1 t2 t3 (ones bd xs) (ones bd xs).length); obtain ⟨NT, hNT⟩ : ∃ N, (allS t0 t1 t2 t3 (ones bd xs) (ones bd xs).length).2 = N := ⟨_, rfl⟩; obtain ⟨XS, hXS⟩ : ∃ X, (allS t0 t1 t2 t3 (ones bd xs) (ones bd xs).length).1 = X := ⟨_, rfl⟩; have HAG := zz (fun (j k : Nat) (hj : j < (ones bd xs).length) (hk : k < (repS t0 t1 t2 t3 (ones bd xs) j).2) => (⟨allS_lt hj hk, fun i hi => allS_get hj hk hi⟩ : (allS t0 t1 t2 t3 (ones bd xs) j).2 + k < (allS t0 t1 t2 t3 (ones bd xs) (ones bd xs).length).2 ∧ ∀ i, i < 14 → (allS t0 t1 t2 t3 (ones bd xs) (ones bd xs).length).1[((allS t0 t1 t2 t3 (ones bd xs) j).2 + k) * 14 + i]? = (repS t0 t1 t2 t3 (ones bd xs) j).1[k * 14 + i]?)); rw [hNT] at HNT HOR HAG ⊢; rw [hXS] at HOR HAG; have HNT2 := zz hNT; clear hNT hXS; go_wp2_with fail
 go_loopw [49, 13] (fun v kk wr => ∃ j : Nat, j ≤ (ones bd xs).length ∧ v = .int .i64 (j : Int) ∧ kk = .int .i64 (((allS t0 t1 t2 t3 (ones bd xs) j).2 : Nat) : Int) ∧ Below w8.heap.size w8 wr) (fun v _ _ => (ones bd xs).length - (intOf v).toNat)
 case atStart => exact ⟨0, by omega, rfl, rfl, Below.refl _ _⟩
 case round =>
  obtain ⟨j, hj, rfl, rfl, hbr⟩ := hrel; have HBR := zz hbr; clear hbr
  by_cases hlj : j < (ones bd xs).length
  ·
   have hj0 : (0 : Int) ≤ (j : Int) := by omega
   have hj1 : (j : Int) < ((ones bd xs).length : Int) := by omega
   obtain ⟨RA, RC, hos, hra, hrc, hrd, _⟩ := HRI.out j hlj; obtain ⟨bo, oo, rfl, hbo, hoc⟩ := (Rd.of_own HOO.out).2 (by omega); have yo := (HBR.out.cell (p := ⟨bo, oo + j, none⟩) hbo).trans (hoc _ _ hos); have HBO := zz hbo; clear hos hbo hoc; have HRD := zz ((hrd.below HBR.out).more HBR.out.size); have HRC := zz hrc; clear hrd hrc; have HRU := zz (fun k hk => rep_ok (k := k) ht HGI.out.1 hlj hk); have HAJ := zz (fun k hk => HAG.out j k hlj hk)
   have HSJ := zz (show (allS t0 t1 t2 t3 (ones bd xs) (j + 1)).2 = (allS t0 t1 t2 t3 (ones bd xs) j).2 + (repS t0 t1 t2 t3 (ones bd xs) j).2 from rfl)
   have hrp : (repS t0 t1 t2 t3 (ones bd xs) j).2 ≤ 4 := goods_len_le _ 4
   generalize repS t0 t1 t2 t3 (ones bd xs) j = rp at *
   obtain ⟨NJ, hNJ⟩ : ∃ N, (allS t0 t1 t2 t3 (ones bd xs) j).2 = N := ⟨_, rfl⟩; rw [hNJ] at HAJ HSJ ⊢; clear hNJ
   generalize wr = wr0 at *
   go_wp2_with fail
   go_loopw [57, 13] (fun v kk wr => ∃ k : Nat, k ≤ rp.2 ∧ v = .int .i64 (k : Int) ∧ kk = .int .i64 ((NJ + k : Nat) : Int) ∧ Below wr0.heap.size wr0 wr) (fun v _ _ => rp.2 - (intOf v).toNat)
   case atStart => exact ⟨0, by omega, rfl, rfl, Below.refl _ _⟩
   case round =>
    obtain ⟨k, hk, rfl, rfl, hbk⟩ := hrel; have HBK := zz hbk; clear hbk
    by_cases hlk : k < rp.2
    ·
     have hk0 : (0 : Int) ≤ (k : Int) := by omega
     have hk1 : (k : Int) < (rp.2 : Int) := by omega
     obtain ⟨g, hg1, hg2⟩ := HRU.out k hlk; obtain ⟨ha1, ha2⟩ := HAJ.out k hlk; have hnt := HNT.out; obtain ⟨q, hq⟩ : ∃ q, NJ + k = q := ⟨_, rfl⟩; rw [hq] at ha1 ha2 ⊢
     have HQ := zz (show NJ + (k + 1) = q + 1 by omega)
     have hq0 : (0 : Int) ≤ (q : Int) := by omega
     have hq1 : (q : Int) < (NT : Int) := by omega
     have hq2 : decide ((NT : Int) ≤ (q : Int)) = false := decide_eq_false (by omega)
     have hq3 : IntKind.i64.wrap ((q : Int) + 1) = ((q + 1 : Nat) : Int) := by rw [IntKind.wrap_i64]; omega
     obtain ⟨br, orr, rfl, hbr, hrr⟩ := HRD.out.2 (by omega); obtain ⟨bq, oq, rfl, hbq, hqq⟩ := (Rd.of_own HOR.out).2 (by omega)
     have HRR := zz (show wr.rangeAt br (orr + k * 14) ((List.range 14).map (repF g)) from fun i v hv => by
      have hi : i < 14 := by have := (List.getElem?_eq_some_iff.1 hv).1; simpa using this
      rw [List.getElem?_map, List.getElem?_range hi] at hv; have h2 := hrr _ _ (hg1 i hi); rw [← Nat.add_assoc] at h2; rw [HBK.out.cell (p := ⟨br, orr + k * 14 + i, none⟩) hbr, h2]
      exact hv)
     have HQQ := zz (show wr.rangeAt bq (oq + q * 14) ((List.range 14).map (repF g)) from fun i v hv => by
      have hi : i < 14 := by have := (List.getElem?_eq_some_iff.1 hv).1; simpa using this
      rw [List.getElem?_map, List.getElem?_range hi] at hv; have h2 := hqq _ _ ((ha2 i hi).trans (hg1 i hi)); rw [← Nat.add_assoc] at h2; rw [HBK.out.cell (p := ⟨bq, oq + q * 14 + i, none⟩) (Nat.lt_of_lt_of_le hbq HBR.out.size), HBR.out.cell (p := ⟨bq, oq + q * 14 + i, none⟩) hbq, h2]
      exact hv)
     have HYO := zz ((HBK.out.cell (p := ⟨bo, oo + j, none⟩) (Nat.lt_of_lt_of_le HBO.out HBR.out.size)).trans yo); have HTR := zz (rep_typed hg2); clear hnt hq ha1 ha2 hg1 hg2 hbr hrr hbq hqq
     go_upto_region 14 with fail
     have hbd : Below wr.heap.size wr wr.drew := (Below.refl _ _).drew; have HBK := zz (onward HBK.out (Nat.le_refl _) hbd); clear hbd; refine wp_region_noPanic ?_; have HSS : wr.drew.rangeAt bq (oq + q * 14) ((List.range 14).map (repF g)) ∧ wr.drew.rangeAt br (orr + k * 14) ((List.range 14).map (repF g)) ∧ wr.drew.cell? ⟨bo, oo + j, none⟩ = some (.slice (some ⟨br, orr, none⟩) rp.2 RC) := ⟨HQQ.out, HRR.out, HYO.out⟩; refine Rg.beginR [8, 12, 15] (fun w' => w'.rangeAt bq (oq + q * 14) ((List.range 14).map (repF g)) ∧ w'.rangeAt br (orr + k * 14) ((List.range 14).map (repF g)) ∧ w'.cell? ⟨bo, oo + j, none⟩ = some (.slice (some ⟨br, orr, none⟩) rp.2 RC)) (by kernel_rfl) ?_
     generalize wr.drew = wv at *
     refine Rg.tq 0 ⟨some 60, .move (.tmp 13), _, _, _, none⟩ rfl ?_; (try simp only [Rg.lp]); refine Rg.tq 1 ⟨some 61, .move (.tmp 11), _, _, _, none⟩ rfl ?_; (try simp only [Rg.lp]); refine Rg.tq 2 ⟨some 62, .call { callee := .builtin .len, args := #[.tmp 61], argTypes := _ }, _, _, _, none⟩ rfl ?_; (try simp only [Rg.lp]); refine Rg.tp 3 ⟨some 63, .binOp .geq 3 (.tmp 60) (.tmp 62) 3, _, _, _, none⟩ (v := .bool false) rfl ?_ ?_
     · (intro w; go_simp; omega)
     (try simp only [Rg.lp]); refine Rg.tq 4 ⟨some 64, .move (.tmp 63), _, _, _, none⟩ rfl ?_; (try simp only [Rg.lp]); refine Rg.tq 5 ⟨some 65, .move (.tmp 11), _, _, _, some (4, false)⟩ rfl ?_; (try simp only [Rg.lp]); refine Rg.tq 6 ⟨some 66, .move (.tmp 13), _, _, _, some (4, false)⟩ rfl ?_; (try simp only [Rg.lp]); refine Rg.tq 7 ⟨some 67, .indexAddr 51 (.tmp 65) (.tmp 66), _, _, _, some (4, false)⟩ rfl ?_; (try simp only [Rg.lp]); refine Rg.ts 8 ⟨some 68, .load 53 (.tmp 67), _, _, _, some (4, false)⟩ (v := .agg (row 14 (repF g))) rfl HSS ?_ ?_
     · (intro w' hSw; exact exec_load_mid 53 _ rfl bq (oq + q * 14) 14 rfl _ _ hSw.1 Try.underlying53 rfl (by kernel_rfl))
     (try simp only [Rg.lp]); refine Rg.tq 9 ⟨some 69, .move (.tmp 8), _, _, _, some (4, false)⟩ rfl ?_; (try simp only [Rg.lp]); refine Rg.tq 10 ⟨some 70, .move (.tmp 14), _, _, _, some (4, false)⟩ rfl ?_; (try simp only [Rg.lp]); refine Rg.tq 11 ⟨some 71, .indexAddr 27 (.tmp 69) (.tmp 70), _, _, _, some (4, false)⟩ rfl ?_; (try simp only [Rg.lp]); refine Rg.tr 12 ⟨some 72, .load 51 (.tmp 71), _, _, _, some (4, false)⟩ rfl HSS ?_; (try simp only [Rg.lp]); refine Rg.tq 13 ⟨some 73, .move (.tmp 15), _, _, _, some (4, false)⟩ rfl ?_; (try simp only [Rg.lp]); refine Rg.tq 14 ⟨some 74, .indexAddr 51 (.tmp 72) (.tmp 73), _, _, _, some (4, false)⟩ rfl ?_; (try simp only [Rg.lp]); refine Rg.ts 15 ⟨some 75, .load 53 (.tmp 74), _, _, _, some (4, false)⟩ (v := .agg (row 14 (repF g))) rfl HSS ?_ ?_
     · (intro w' hSw; exact exec_load_mid 53 _ rfl br (orr + k * 14) 14 rfl _ _ hSw.2.1 Try.underlying53 rfl (by kernel_rfl))
     (try simp only [Rg.lp]); refine Rg.tp 16 ⟨some 76, .binOp .neq 53 (.tmp 68) (.tmp 75) 53, _, _, _, some (4, false)⟩ (v := .bool false) rfl ?_ ?_
     · (intro w; exact exec_neq_same 53 _ _ _ rfl (d := 20) (ls := repB) (by kernel_rfl) (by omega) Try.underlying53 rfl (by kernel_rfl) (by kernel_rfl) (repF g) rfl rfl HTR.out w)
     (try simp only [Rg.lp]); refine Rg.tq 17 ⟨some 77, .pick (.tmp 64) (.const (.bool true)) (.tmp 76), _, _, _, none⟩ rfl ?_; (try simp only [Rg.lp]); refine Rg.doneR (by kernel_rfl) ?_ _; refine NoPanic.normal ?_; clear HSS; go_wp2_with fail; exact ⟨⟨k + 1, by omega, by go_num, by rw [HQ.out]; go_num, HBK.out⟩, by simp [intOf]; omega⟩
    ·
     obtain rfl : k = rp.2 := by omega
     clear hlk; go_wp2_with fail; exact ⟨⟨j + 1, by omega, by go_num, by rw [HSJ.out], onward HBR.out (Nat.le_refl _) HBK.out⟩, by simp [intOf]; omega⟩
  ·
   obtain rfl : j = (ones bd xs).length := by omega
   clear hlj; have y0 := (HBR.out.cell (p := ⟨g10, 0, none⟩) B10.out.lt).trans (B10.out.cell 0)
   rw [row_at (by omega), show cluCell (runS t0 t1 t2 t3 (ones bd xs) (ones bd xs).length).fr (runS t0 t1 t2 t3 (ones bd xs) (ones bd xs).length).F (verOf VR (runS t0 t1 t2 t3 (ones bd xs) (ones bd xs).length).V KR) 0 = .int .i64 (runS t0 t1 t2 t3 (ones bd xs) (ones bd xs).length).fr from rfl, runS_fr] at y0
   rw [HNT2.out]
   generalize wr = w9 at *
   go_wp2_with fail; clear y0
   go_loopw [16] (fun v wr => ∃ p : Nat, p ≤ 4 ∧ ((ones bd xs).length = 0 → p = 0) ∧ v = .int .i64 (p : Int) ∧ Below w9.heap.size w9 wr) (fun v _ => 4 - (intOf v).toNat)
   case atStart => exact ⟨0, by omega, fun _ => rfl, rfl, Below.refl _ _⟩
   case round =>
    obtain ⟨p, hp, hpz, rfl, hbp⟩ := hrel; have HBP := zz hbp; clear hbp
    by_cases hp4 : p < 4
    ·
     have hp0 : (0 : Int) ≤ (p : Int) := by omega
     have hp1 : (p : Int) < 4 := by omega
     by_cases hn : 0 < (ones bd xs).length
     ·
      have hn1 : (0 : Int) < ((ones bd xs).length : Int) := by omega
      obtain ⟨m, hm⟩ : ∃ m, (ones bd xs).length = m + 1 := ⟨(ones bd xs).length - 1, by omega⟩
      have hm0 : (0 : Int) ≤ (m : Int) := by omega
      have hm1 : (m : Int) < ((ones bd xs).length : Int) := by omega
      have hwm : IntKind.i64.wrap (((ones bd xs).length : Int) - 1) = (m : Int) := by rw [IntKind.wrap_i64]; omega
      obtain ⟨bc, oc, VA, VC, rfl, hbl, hrg, hvo⟩ := clus_at HOC.out HCI.out (j := m) (by omega)
      have hrg := clus_node (show w8.rangeAt bc (oc + m * 297) ((List.range 297).map (cluCell (runS t0 t1 t2 t3 (ones bd xs) (m + 1)).fr (runS t0 t1 t2 t3 (ones bd xs) (m + 1)).F (verOf VA (runS t0 t1 t2 t3 (ones bd xs) (m + 1)).V VC))) from hrg) hp4
      have hvo := show VerOk w8 (runS t0 t1 t2 t3 (ones bd xs) (m + 1)) VA VC (fun _ => False) from hvo
      rw [← hm] at hrg hvo; have HVO := zz (hvo.below HBR.out)
      have HRG := zz (show wr.rangeAt bc (oc + m * 297 + 1 + p * 74) ((List.range 74).map (nodeW ((runS t0 t1 t2 t3 (ones bd xs) (ones bd xs).length).F p) (.slice (VA p) ((runS t0 t1 t2 t3 (ones bd xs) (ones bd xs).length).V p).length (VC p)))) from fun k v hv => (HBP.out.cell (p := ⟨bc, oc + m * 297 + 1 + p * 74 + k, none⟩) (Nat.lt_of_lt_of_le hbl HBR.out.size)).trans ((HBR.out.cell (p := ⟨bc, oc + m * 297 + 1 + p * 74 + k, none⟩) hbl).trans (hrg k v hv)))
      have HB1 := zz (B10.out.below (HBR.out.trans (HBP.out.mono HBR.out.size)) B10.out.lt); have HVR := zz (HVR.out.below HBR.out); have HPZ := zz hpz; clear hvo hrg hbl hm hpz
      go_upto_region 24 with fail
      have hbd : Below wr.heap.size wr wr.drew := (Below.refl _ _).drew; have HBP := zz (onward HBP.out (Nat.le_refl _) hbd); clear hbd; refine wp_region_noPanic ?_; have HSS : Blk wr.drew g10 48 (row 297 (cluCell (runS t0 t1 t2 t3 (ones bd xs) (ones bd xs).length).fr (runS t0 t1 t2 t3 (ones bd xs) (ones bd xs).length).F (verOf VR (runS t0 t1 t2 t3 (ones bd xs) (ones bd xs).length).V KR))) ∧ wr.drew.rangeAt bc (oc + m * 297 + 1 + p * 74) ((List.range 74).map (nodeW ((runS t0 t1 t2 t3 (ones bd xs) (ones bd xs).length).F p) (.slice (VA p) ((runS t0 t1 t2 t3 (ones bd xs) (ones bd xs).length).V p).length (VC p)))) := ⟨HB1.out, HRG.out⟩; refine Rg.beginR [3, 12] (fun w' => Blk w' g10 48 (row 297 (cluCell (runS t0 t1 t2 t3 (ones bd xs) (ones bd xs).length).fr (runS t0 t1 t2 t3 (ones bd xs) (ones bd xs).length).F (verOf VR (runS t0 t1 t2 t3 (ones bd xs) (ones bd xs).length).V KR))) ∧ w'.rangeAt bc (oc + m * 297 + 1 + p * 74) ((List.range 74).map (nodeW ((runS t0 t1 t2 t3 (ones bd xs) (ones bd xs).length).F p) (.slice (VA p) ((runS t0 t1 t2 t3 (ones bd xs) (ones bd xs).length).V p).length (VC p))))) (by kernel_rfl) ?_
      generalize wr.drew = wv at *
      refine Rg.tq 0 ⟨some 102, .move (.tmp 16), _, _, _, none⟩ rfl ?_; (try simp only [Rg.lp]); refine Rg.tq 1 ⟨some 103, .fieldAddr 48 (.tmp 10) 1, _, _, _, none⟩ rfl ?_; (try simp only [Rg.lp]); refine Rg.tq 2 ⟨some 104, .indexAddr 46 (.tmp 103) (.tmp 102), _, _, _, none⟩ rfl ?_; (try simp only [Rg.lp]); refine Rg.ts 3 ⟨some 105, .load 45 (.tmp 104), _, _, _, none⟩ (v := .agg (row 74 (nodeW ((runS t0 t1 t2 t3 (ones bd xs) (ones bd xs).length).F p) (.slice (VR p) ((runS t0 t1 t2 t3 (ones bd xs) (ones bd xs).length).V p).length (KR p))))) rfl HSS ?_ ?_
      · (intro w' hSw; exact exec_load_mid 45 _ rfl g10 (1 + p * 74) 74 rfl _ _ (node_range hSw.1 hp4) Try.underlying45 rfl (by kernel_rfl))
      (try simp only [Rg.lp]); refine Rg.tq 4 ⟨some 106, .move (.tmp 7), _, _, _, none⟩ rfl ?_; (try simp only [Rg.lp]); refine Rg.tq 5 ⟨some 107, .move (.tmp 7), _, _, _, none⟩ rfl ?_; (try simp only [Rg.lp]); refine Rg.tq 6 ⟨some 108, .call { callee := .builtin .len, args := #[.tmp 107], argTypes := _ }, _, _, _, none⟩ rfl ?_; (try simp only [Rg.lp]); refine Rg.tq 7 ⟨some 109, .binOp .sub 3 (.tmp 108) (.const (.int .i64 1)) 3, _, _, _, none⟩ rfl ?_; (try simp only [Rg.lp]); refine Rg.tq 8 ⟨some 110, .move (.tmp 16), _, _, _, none⟩ rfl ?_; (try simp only [Rg.lp]); refine Rg.tq 9 ⟨some 111, .indexAddr 26 (.tmp 106) (.tmp 109), _, _, _, none⟩ rfl ?_; (try simp only [Rg.lp]); refine Rg.tq 10 ⟨some 112, .fieldAddr 48 (.tmp 111) 1, _, _, _, none⟩ rfl ?_; (try simp only [Rg.lp]); refine Rg.tq 11 ⟨some 113, .indexAddr 46 (.tmp 112) (.tmp 110), _, _, _, none⟩ rfl ?_; (try simp only [Rg.lp]); refine Rg.ts 12 ⟨some 114, .load 45 (.tmp 113), _, _, _, none⟩ (v := .agg (row 74 (nodeW ((runS t0 t1 t2 t3 (ones bd xs) (ones bd xs).length).F p) (.slice (VA p) ((runS t0 t1 t2 t3 (ones bd xs) (ones bd xs).length).V p).length (VC p))))) rfl HSS ?_ ?_
      · (intro w' hSw; exact exec_load_mid 45 _ rfl bc (oc + m * 297 + 1 + p * 74) 74 rfl _ _ hSw.2 Try.underlying45 rfl (by kernel_rfl))
      (try simp only [Rg.lp]); refine Rg.or1 13 ⟨some 115, .call { callee := .value (.func 13), args := #[.tmp 105, .tmp 114], argTypes := _ }, _, _, _, none⟩ rfl ?_; refine Rg.stepF ?_ ?_
      · kernel_rfl
      intro K hK; rw [if_pos (by rfl)]; go_simp; clear HSS; refine (twins_any ((runS t0 t1 t2 t3 (ones bd xs) (ones bd xs).length).F p) ((runS t0 t1 t2 t3 (ones bd xs) (ones bd xs).length).F p) ((sane_run ht HGI.out.1 _ (Nat.le_refl _)).ok p hp4) (fun _ _ => rfl) (VR p) (VA p) (KR p) (VC p) ((runS t0 t1 t2 t3 (ones bd xs) (ones bd xs).length).V p) wv (by have := (sane_run ht HGI.out.1 _ (Nat.le_refl _)).v p hp4; omega) (((HVR.out p hp4).2.2.1.below HBP.out).more HBP.out.size) (((HVO.out p hp4).2.2.1.below HBP.out).more HBP.out.size)).mono ?_; rintro e w10 ⟨rfl, hb⟩; have HBP := zz (onward HBP.out (Nat.le_refl _) hb); clear hb; refine hK.out _ _ ?_; clear hK K; (try simp only [Rg.lp]); refine Rg.tq 14 ⟨some 116, .unOp UnOp.not 4 (.tmp 115), _, _, _, none⟩ rfl ?_; (try simp only [Rg.lp]); refine Rg.doneR (by kernel_rfl) ?_ _; refine NoPanic.normal ?_; go_wp2_with fail; exact ⟨⟨p + 1, by omega, by omega, by go_num, HBP.out⟩, by simp [intOf]; omega⟩
     ·
      have hn1 : decide ((0 : Int) < ((ones bd xs).length : Int)) = false := decide_eq_false (by omega); clear hpz; go_wp2_with fail
      go_ret
      exact ⟨rfl, by rw [HGT.out]; exact onward (onward HB.out (Nat.le_of_eq HGT.out.symm) HBR.out) (Nat.le_of_eq HGT.out.symm) HBP.out⟩
    ·
     obtain rfl : p = 4 := by omega
     clear hp4 hpz; go_wp2_with fail
     go_ret
     exact ⟨rfl, by rw [HGT.out]; exact onward (onward HB.out (Nat.le_of_eq HGT.out.symm) HBR.out) (Nat.le_of_eq HGT.out.symm) HBP.out⟩
set_option maxRecDepth 100000 in
set_option maxHeartbeats 1000000 in
theorem lifted (os : Os) (started : os.Started) (H : Type) (enc : TypeId × Value → H) :
  ReturnsInHanded {} Try.checked os 8 .any (Rows.topRunSpec.pre6 enc Try.prog Try.f8 Rows.topRunRow.domain false) (Rows.topRunSpec.post enc Try.prog Try.f8 false true false false) := by
 refine returnsInHanded_of_change_sized (C := Try.checked) Fr.own started (by kernel_rfl) Try.func8
  (ChangeSpec.witness6 (enc := enc) (C := Try.checked) false ⟨#[], #[.agg #[.int .i64 0, .int .i64 0, .int .i64 0, .int .i64 0], .slice none 0 0, .int .i64 0], []⟩ 8 (by kernel_rfl) (by kernel_rfl) (by kernel_rfl) (by kernel_rfl)) ?_
 intro W base args ds gs before hval0 hW _ hsz0 _; have hval : ∀ (j : Nat) t v, Try.f8.params[j]? = some t → args[j]? = some v → Value.okWide Try.prog W .any base t v := hval0; have hsz : (DataW.weightsEach Try.prog (Try.f8.params.toList ++ Rows.topRunSpec.plain.varTypes Try.prog) (ds ++ gs)).all (· ≤ reachBytes) = true := hsz0; clear hval0 hsz0; obtain ⟨p, q, hA0, hV0, _⟩ := id hW; have hA : DataW.TrodAll enc Try.prog W 0 (fun _ => true) true Try.f8.params.toList args.toList ds p := hA0; rw [Try.params8] at hA hval hsz; obtain ⟨v0, vs0, d0, ds0, p0, q0, hargs, rfl, rfl, h0, r0⟩ := trodAll_cons hA; obtain ⟨v1, vs1, d1, ds1, p1, q1, rfl, rfl, rfl, h1, r1⟩ := trodAll_cons r0; obtain ⟨v2, vs2, d2, ds2, p2, q2, rfl, rfl, rfl, h2, r2⟩ := trodAll_cons r1; obtain ⟨rfl, rfl, rfl⟩ := trodAll_nil r2
 obtain rfl : args = #[v0, v1, v2] := by cases args; simp_all
 obtain ⟨rfl, rfl⟩ := trodVars_none hV0
 refine Fr.of_walk (f := Try.f8) Fr.laidOut (by rw [Try.params8]; intro t ht; simp at ht; (first | (rcases ht with rfl | rfl | rfl | rfl | rfl | rfl) | (rcases ht with rfl | rfl | rfl | rfl | rfl) | (rcases ht with rfl | rfl | rfl | rfl) | (rcases ht with rfl | rfl | rfl) | (rcases ht with rfl | rfl) | (subst ht)) <;> exact ⟨by kernel_rfl, of_decide_eq_true (by kernel_rfl)⟩) rfl rfl Try.underlying4 (fun _ => rfl) hW ?_
 clear hW hA hA0 hV0; obtain ⟨cs0, rfl⟩ := Op.okWide_agg (t := 23) (by kernel_rfl) (hval 0 23 v0 rfl rfl); have k0 := Op.flat_arg (ls := [3,3,3,3]) (by kernel_rfl) h0 (Op.light_of_each (j := 0) hsz rfl rfl); obtain ⟨y0_0, l0, e0, f0_0, k0⟩ := k0.cons; obtain ⟨y0_1, l0, rfl, f0_1, k0⟩ := k0.cons; obtain ⟨y0_2, l0, rfl, f0_2, k0⟩ := k0.cons; obtain ⟨y0_3, l0, rfl, f0_3, k0⟩ := k0.cons; obtain rfl := k0.nil_; obtain rfl := Op.arr_of e0; obtain ⟨t0, rfl, wf_t0⟩ := f0_0.int Try.underlying3; obtain ⟨t1, rfl, wf_t1⟩ := f0_1.int Try.underlying3; obtain ⟨t2, rfl, wf_t2⟩ := f0_2.int Try.underlying3; obtain ⟨t3, rfl, wf_t3⟩ := f0_3.int Try.underlying3; obtain ⟨AI, ci, xs, rfl, hxc, hxb, _, hxs, hxw⟩ := Cf.openInputs (hval 1 24 v1 rfl rfl) h1 (Op.light_of_each (j := 1) hsz rfl rfl); obtain ⟨bad, rfl, rfl, rfl, wf_bad⟩ := open_int Try.underlying3 (hval 2 3 v2 rfl rfl) h2; have bd_bad := Op.wf_i64 wf_bad; exact walk t0 t1 t2 t3 ⟨wf_t0, wf_t1, wf_t2, wf_t3⟩ AI ci xs (by omega) (fun x hx => (hxw x hx).1) bad bd_bad W hxs
set_option maxHeartbeats 2000000 in
theorem closedFacts : joinedFacts Try.prog 8 Try.f8 Rows.topRunSpec Rows.topRunRow = true := by
 unfold joinedFacts
 simp only [Bool.and_eq_true]; refine ⟨⟨⟨⟨⟨⟨⟨⟨⟨⟨⟨⟨⟨⟨⟨⟨⟨⟨⟨⟨⟨⟨⟨⟨⟨⟨⟨⟨⟨⟨⟨?_, ?_⟩, ?_⟩, ?_⟩, ?_⟩, ?_⟩, ?_⟩, ?_⟩, ?_⟩, ?_⟩, ?_⟩, ?_⟩, ?_⟩, ?_⟩, ?_⟩, ?_⟩, ?_⟩, ?_⟩, ?_⟩, ?_⟩, ?_⟩, ?_⟩, ?_⟩, ?_⟩, ?_⟩, ?_⟩, ?_⟩, ?_⟩, ?_⟩, ?_⟩, ?_⟩, ?_⟩
 · as_aux_lemma => kernel_rfl
 · exact Fr.laidOut
 · exact Facts.mapsRowed_
 · as_aux_lemma => kernel_rfl
 · as_aux_lemma => kernel_rfl
 · as_aux_lemma => kernel_rfl
 · exact Facts.stops_
 · as_aux_lemma => kernel_rfl
 · exact Facts.knobs_
 · as_aux_lemma => kernel_rfl
 · as_aux_lemma => kernel_rfl
 · as_aux_lemma => kernel_rfl
 · as_aux_lemma => kernel_rfl
 · as_aux_lemma => kernel_rfl
 · as_aux_lemma => kernel_rfl
 · as_aux_lemma => kernel_rfl
 · as_aux_lemma => kernel_rfl
 · as_aux_lemma => kernel_rfl
 · as_aux_lemma => kernel_rfl
 · as_aux_lemma => kernel_rfl
 · as_aux_lemma => kernel_rfl
 · as_aux_lemma => kernel_rfl
 · exact Facts.keys_
 · as_aux_lemma => kernel_rfl
 · exact Facts.heard_
 · exact Facts.enter_
 · exact Facts.lifts_
 · exact Facts.make_
 · as_aux_lemma => kernel_rfl
 · as_aux_lemma => kernel_rfl
 · as_aux_lemma => kernel_rfl
 · as_aux_lemma => kernel_rfl
theorem proved : Rows.TopRunSaid :=
 OpenClaim.holds_of_wide 8 Try.f8 rfl rfl rfl rfl rfl rfl rfl ⟨rfl, rfl, rfl, rfl, rfl⟩ rfl rfl rfl rfl rfl (by kernel_rfl) Try.func8 closedFacts
  (of_decide_eq_true (by kernel_rfl)) (by unfold Func.isWrapper; first | (rw [if_pos (by decide +kernel)]; kernel_rfl) | (rw [if_neg (by decide +kernel)]; exact ⟨rfl, rfl⟩))
  (fun os started H enc _ => lifted os started H enc)
end lawTopRun
end Go.Proofs.Ytobigbnmbnhikaa
