import Derived.Test.YtobigbnmbnhikaaPb0
import Derived.Test.YtobigbnmbnhikaaPbc18
import Derived.Test.YtobigbnmbnhikaaPbc29
import Derived.Test.YtobigbnmbnhikaaPb1
import Derived.Test.YtobigbnmbnhikaaPb2
set_option linter.unusedVariables false
set_option linter.unusedSimpArgs false
namespace Go.Proofs.Ytobigbnmbnhikaa
namespace Cf
open Go.RowKit Mem Rws Nd Cl
theorem alike_begin (t0 t1 t2 t3 bad : Int) : Alike (beginS t0 t1 t2 t3) bad := by
 refine ⟨fun p q _ _ _ _ j h1 h2 => ?_, fun p q _ hq _ _ => ?_, fun p _ _ => ?_⟩
 ·
  show nodeK (p : Int) t0 t1 t2 t3 3 j = nodeK (q : Int) t0 t1 t2 t3 3 j
  unfold nodeK nodeU
  by_cases a : 6 ≤ j ∧ j < 27
  · rw [if_pos a, if_pos a]
  ·
   rw [if_neg a, if_neg a]
   by_cases b : 27 ≤ j ∧ j < 39
   · rw [if_pos b, if_pos b]
   · rw [if_neg b, if_neg b, if_neg (show ¬ j = 0 by omega), if_neg (show ¬ j = 0 by omega)]
 ·
  obtain rfl | rfl | rfl | rfl : q = 0 ∨ q = 1 ∨ q = 2 ∨ q = 3 := by omega
  all_goals exact ⟨rfl, rfl⟩
 · rfl
def OneBad (bad : Int) (ys : List InS) : Prop := ∀ i, i < ys.length → (ys.getD i default).bad = bad
theorem ones_len (bad : Int) (xs : List InS) : (ones bad xs).length = min 200 xs.length := by unfold ones; rw [List.length_map, List.length_take]
theorem ones_getD (bad : Int) (xs : List InS) {i : Nat} (hi : i < (ones bad xs).length) : (ones bad xs).getD i default = capIn bad (xs.getD i default) ∧ i < xs.length := by
 have hl := ones_len bad xs
 have h1 : i < xs.length := by omega
 refine ⟨?_, h1⟩
 unfold ones
 rw [List.getD_eq_getElem?_getD, List.getElem?_map, List.getElem?_take, if_pos (by omega), List.getD_eq_getElem?_getD, List.getElem?_eq_getElem h1]; rfl
theorem ones_good {bad : Int} {xs : List InS} (hb : -1 ≤ bad ∧ bad ≤ 3) (h : ∀ x ∈ xs, (∀ i, i < 12 → Wf (x.rd i)) ∧ Wf x.bad) : GoodIns (ones bad xs) ∧ OneBad bad (ones bad xs) := by
 refine ⟨⟨by rw [ones_len]; omega, fun i hi => ?_⟩, fun i hi => ?_⟩
 ·
  obtain ⟨e, hl⟩ := ones_getD bad xs hi; rw [e]
  refine ⟨hb, ?_, by show (List.take 400 _).length ≤ 400; rw [List.length_take]; omega⟩
  have hm : xs.getD i default ∈ xs := by rw [List.getD_eq_getElem?_getD, List.getElem?_eq_getElem hl]; exact List.getElem_mem hl
  exact (h _ hm).1
 · rw [(ones_getD bad xs hi).1]; rfl
def aliveIn : InS := ⟨fun i => if i % 3 = 0 then 4294967296 else 0, -1, []⟩
def aliveB : CluS := beginS 4294967296 0 4294967296 429496729600
theorem alive_wf : Wf 4294967296 ∧ Wf 0 ∧ Wf 4294967296 ∧ Wf 429496729600 := ⟨wf_of (by omega), wf_zero, wf_of (by omega), wf_of (by omega)⟩
theorem alive_rd : ∀ i, i < 12 → Wf (aliveIn.rd i) := fun i _ => by
 show Wf (if i % 3 = 0 then 4294967296 else 0)
 split
 · exact wf_of (by omega)
 · exact wf_zero
theorem alive_used {p : Nat} (hp : p < 4) : usedZ (F2 aliveB aliveIn p) (A3 aliveB aliveIn p) 0 = 4294967296 := by
 have h := used_within (c := aliveB) (x := aliveIn) (sane_begin alive_wf) alive_rd (alike_begin _ _ _ _ _) hp (by show (p : Int) ≠ -1; omega) (a := 0) (by omega) (lo := 4294967296) (hi := 4294967296) (fun s hs hb => by
  show (4294967296 : Int) ≤ (if (s * 3 + 0) % 3 = 0 then 4294967296 else 0) ∧ (if (s * 3 + 0) % 3 = 0 then (4294967296 : Int) else 0) ≤ 4294967296
  rw [if_pos (by omega)]
  omega)
 omega
theorem alive_place {p : Nat} (hp : p < 4) : 0 < (newSt (F2 aliveB aliveIn p) (A3 aliveB aliveIn p) 0).X := by
 have hb : (p : Int) ≠ aliveIn.bad := by show (p : Int) ≠ -1; omega
 unfold newSt
 rw [alive_used hp]
 have hst : stOf (F2 aliveB aliveIn p) 0 = ⟨0, 0, 4294967296, 0, 4294967296, false, 0⟩ := by
  rw [stOf_congr (g := aliveB.F p) (fun j h1 h2 => F2_keeps hp hb j (by omega) (by omega)) 0 (by omega)]; rfl
 have ht : ∀ j, 2 ≤ j → j < 6 → F2 aliveB aliveIn p j = aliveB.F p j := fun j h1 h2 => F2_keeps hp hb j (by omega) (by omega); rw [hst, ht 2 (by omega) (by omega), ht 3 (by omega) (by omega), ht 4 (by omega) (by omega), ht 5 (by omega) (by omega)]
 show 0 < (BigW.fstep ⟨0, 0, 4294967296, 0, 4294967296, false, 0⟩ 4294967296 0 4294967296 429496729600 4294967296).1.X
 decide +kernel
theorem alive_cells {p : Nat} (hp : p < 4) : G6 aliveB aliveIn p 72 = .bool true ∧ G6 aliveB aliveIn p 67 = .int .i64 4294967296 ∧ ∃ z, 0 < z ∧ G6 aliveB aliveIn p 6 = .int .i64 z := by
 have hs : Sane aliveB := sane_begin alive_wf
 have hb : (p : Int) ≠ aliveIn.bad := by show (p : Int) ≠ -1; omega
 have hf := facts hs alive_rd (alike_begin _ _ _ _ _) hp hb
 have e : G6 aliveB aliveIn p = F6 aliveB aliveIn p := by unfold F6; rw [newK_good hp hb]
 rw [e]; refine ⟨(F6_high hp hb hf).2.2, ?_, _, alive_place hp, ?_⟩
 · rw [F6_low hp hb hf 67 (by omega), decG_us _ _ _ _ _ (by omega) 0 (by omega) (by omega), alive_used hp]
 ·
  rw [F6_low hp hb hf 6 (by omega)]
  unfold decG
  rw [if_pos (by omega)]; rfl
end Cf
namespace Cf
open Go.ChangeShapes Go.WideShapes Go.ChangeAt Go.RowKit Mem Rws Nd Cl
theorem reps_get (g : Nat → Nat → Value) : ∀ (gs : List Nat) (k j : Nat), k < gs.length → j < 14 → (gs.flatMap fun i => (row 14 (repF (g i))).toList)[k * 14 + j]? = some (repF (g (gs.getD k 0)) j)
 | [], k, j, hk, _ => by simp at hk
 | a :: gs, 0, j, _, hj => by
  rw [List.flatMap_cons, Nat.zero_mul, Nat.zero_add, List.getElem?_append_left (by rw [Array.length_toList, row_size]; exact hj), row_toList, List.getElem?_map, List.getElem?_range hj]; rfl
 | a :: gs, k + 1, j, hk, hj => by
  rw [List.flatMap_cons, List.getElem?_append_right (by rw [Array.length_toList, row_size]; omega), Array.length_toList, row_size, show (k + 1) * 14 + j - 14 = k * 14 + j by omega, reps_get g gs k j (by simpa using hk) hj]
  rfl
theorem alive_sane : Sane aliveB := sane_begin alive_wf
theorem alive_goods : goods aliveIn.bad 4 = [0, 1, 2, 3] := by decide
set_option maxRecDepth 100000 in
set_option maxHeartbeats 4000000 in
theorem alive_any (w : World) : Calls Try.prog 12 #[] w fun e w' => e = .returned (.bool true) ∧ Below w.heap.size w w' := by
 go_enter Try.func12, Try.ntmps12
 go_wp2_with fail; refine (cluster_any 4294967296 0 4294967296 429496729600 w).mono ?_; rintro e w2 ⟨rfl, hb⟩; rw [begin_row]; have HB := zz hb; clear hb; obtain ⟨R0, hR0⟩ : ∃ R, row 297 (cluCell (beginS 4294967296 0 4294967296 429496729600).fr (beginS 4294967296 0 4294967296 429496729600).F (verOf (fun _ => none) (beginS 4294967296 0 4294967296 429496729600).V (fun _ => 0))) = R := ⟨_, rfl⟩; rw [hR0]; have HR0 := zz hR0; clear hR0; go_wp2_with fail
 rw [← HR0.out, show ((#[.int .i64 4294967296, .int .i64 0, .int .i64 0, .int .i64 4294967296, .int .i64 0, .int .i64 0, .int .i64 4294967296, .int .i64 0, .int .i64 0, .int .i64 4294967296, .int .i64 0, .int .i64 0, .int .i64 (-1), .slice none 0 0]) : Array Value) = row 14 (inCell aliveIn.rd aliveIn.bad (.slice none aliveIn.ls.length 0)) from rfl]
 refine (frame_any aliveB aliveIn alive_sane (by show (-1 : Int) ≤ -1 ∧ (-1 : Int) ≤ 3; omega) alive_rd (by show ([] : List Lie).length ≤ 400; simp) (fun _ => none) (fun _ => 0) none 0 w2 (fun j hj => ⟨fun _ => rfl, by show (([] : List Bool)).length ≤ 0; simp, Rd.nil _ _ _ _⟩) (LiesAt.nil _ _ _)).mono ?_
 rintro e w3 ⟨VA2, VC2, RA, RC, rfl, hv2, hown, hb⟩; rw [HR0.out]
 have iN : (Try.prog.info? 48).map (·.size) = some (row 297 (cluCell (next aliveB aliveIn).fr (next aliveB aliveIn).F (verOf VA2 (next aliveB aliveIn).V VC2))).size := by rw [row_size]; kernel_rfl
 have zN : (Try.zeroCells48).size = (row 297 (cluCell (next aliveB aliveIn).fr (next aliveB aliveIn).F (verOf VA2 (next aliveB aliveIn).V VC2))).size := by rw [row_size]; kernel_rfl
 have oN := row_one (cluCell_one (sane_next alive_sane alive_rd (by show (0 : Int) + 1 < _; omega)).ok (next aliveB aliveIn).fr (next aliveB aliveIn).V VA2 VC2)
 have c0 : (row 297 (cluCell (next aliveB aliveIn).fr (next aliveB aliveIn).F (verOf VA2 (next aliveB aliveIn).V VC2)))[0]? = some (.int .i64 1) := by rw [row_at (by omega)]; rfl
 obtain ⟨RN, hRN⟩ : ∃ R, (row 297 (cluCell (next aliveB aliveIn).fr (next aliveB aliveIn).F (verOf VA2 (next aliveB aliveIn).V VC2))) = R := ⟨_, rfl⟩; rw [hRN] at iN zN oN c0 ⊢; clear hRN; have HOW := zz hown; have HB := zz (HB.out.trans (hb.mono HB.out.size)); clear hb hown hv2; have F1 : Hid (Blk (w3.alloc (.cells Try.zeroCells48 48)) w3.heap.size 48 Try.zeroCells48) := zz (Blk.fresh _ _ _)
 go_upto_region 2 with (refine wpList_store_row rfl 48 _ _ rfl w3.heap.size RN rfl rfl 48 _ F1.out iN zN oN ?_)
 have hbn := below_setRow ((Below.refl w3.heap.size w3).alloc (Nat.le_refl _) (.cells Try.zeroCells48 48)) (Nat.le_refl _) RN; have HOW := zz (ownsRow_below HOW.out hbn); have HB := zz (HB.out.trans (hbn.mono HB.out.size)); have y0 := (F1.out.setRow RN).cell 0; rw [c0] at y0; clear F1 hbn iN zN oN c0
 generalize ((w3.alloc (.cells Try.zeroCells48 48)).setRow w3.heap.size RN) = w4 at *
 obtain ⟨g1, hg1⟩ : ∃ g, w3.heap.size = g := ⟨_, rfl⟩; rw [hg1] at y0 ⊢; clear hg1
 have hlen : (goods aliveIn.bad 4).length = 4 := by rw [alive_goods]; rfl
 rw [hlen] at HOW ⊢; obtain ⟨br, orr, rfl, _, hrc⟩ := (Rd.of_own HOW.out).2 (by omega)
 have hrep : ∀ k j v, k < 4 → j < 14 → repF (G6 aliveB aliveIn k) j = v → w4.cell? ⟨br, orr + (k * 14 + j), none⟩ = some v := fun k j v hk hj e => by
  refine hrc _ _ ?_; have := reps_get (G6 aliveB aliveIn) (goods aliveIn.bad 4) k j (by rw [hlen]; exact hk) hj
  rw [show (goods aliveIn.bad 4).getD k 0 = k from by
                            rw [alive_goods]; obtain rfl | rfl | rfl | rfl : k = 0 ∨ k = 1 ∨ k = 2 ∨ k = 3 := by omega
                            all_goals rfl, e] at this
  exact this
 obtain ⟨s3, _, _⟩ := alive_cells (p := 3) (by omega); obtain ⟨_, u2, _⟩ := alive_cells (p := 2) (by omega); obtain ⟨_, _, z, hz, p1⟩ := alive_cells (p := 1) (by omega); have x3 := hrep 3 9 _ (by omega) (by omega) s3; have x2 := hrep 2 2 _ (by omega) (by omega) u2; have x1 := hrep 1 5 _ (by omega) (by omega) p1; have hzd : decide (0 < z) = true := decide_eq_true hz; clear hrep hrc s3 u2 p1 hz; go_wp2_with fail
 go_ret
 exact ⟨rfl, HB.out⟩
end Cf
namespace Nd
open Go.ChangeShapes Go.WideShapes Go.ChangeAt Go.RowKit Mem Rws Flat
section
variable {P : Program} {ops : Array Oper} {rest : List Oper} {o : Oper} {a : Act} {w : World} {Q : Exit → Act → World → Prop}
theorem run_neq_refl {t : TypeId} {d : Nat} {ls : List Bool} (he : eqOK P d t = some ls) (hd : d ≤ 10000) {u : TypeDesc} (hu : P.underlying t = some u) (hr : u.isRow = true) (hi : (P.info? t).map (·.size) = some ls.length) (xs : Array Value) (hs : xs.size = ls.length) (ht : Typed ls xs.toList) (w : World) :
  (binOp .neq t (.agg xs) (.agg xs)).run P w = .ok (.bool false) w := by
 obtain ⟨v, h1, h2⟩ := Flat.refl d t ls he xs 0 (by rw [List.drop_zero, ← hs, ← Array.length_toList, List.take_length]; exact ht) hi w; rw [run_part_row hu hr hi] at h1
 have e : xs.extract 0 (0 + ls.length) = xs := by rw [Nat.zero_add, ← hs]; simp
 rw [e] at h1
 injection h1 with h1
 subst h1; rw [run_neq_struct, h2 10000 hd]; rfl
theorem run_neqGuard_rows {t : TypeId} (hq : P.eqGuardType P.depth t = false) (x y : Operand) (xs ys : Array Value) (w : World) : (eqGuard .neq t x y (.agg xs) (.agg ys)).run P w = .ok () w := by
 unfold eqGuard
 simp [run_program, hq]
theorem wpList_neq (hw : Region.wanted o (yielded ops a.tmps) = true) (t u : TypeId) (x y : Operand) (ho : o.op = .binOp .neq t x y u) {d : Nat} {ls : List Bool} (he : eqOK P d t = some ls) (hd : d ≤ 10000) {e : TypeDesc} (hu : P.underlying t = some e) (hr : e.isRow = true) (hi : (P.info? t).map (·.size) = some ls.length) (hq : P.eqGuardType P.depth t = false)
  (f : Nat → Value) (hx : a.eval x = .agg (row ls.length f)) (hy : a.eval y = .agg (row ls.length f)) (ht : Typed ls ((List.range ls.length).map f))
  (h : wpList P ops Q rest (a.put o.dst (.bool false)) w) : wpList P ops Q (o :: rest) a w :=
 wpList_wanted hw fun _ hK => by
  unfold Oper.wp execOp
  simp only [ho, hx, hy, Sem.run_bind, run_neqGuard_rows hq, run_neq_refl he hd hu hr hi _ (row_size _ _) ht, Result.andThen_ok, Sem.run_pure]; exact hK _ _ h
end
end Nd
namespace Cf
open Go.RowKit Mem Rws Nd Cl
theorem clus_at {w : World} {base n c : Nat} {A : Option Addr} {cs : List Value} {cl : Nat → CluS} {X : Nat → Prop} (ho : w.ownsRow base 48 297 (.slice A n c) n cs) (h : ClusIn w cs cl n X) {j : Nat} (hj : j < n) :
  ∃ b o VA VC, A = some ⟨b, o, none⟩ ∧ b < w.heap.size ∧ w.rangeAt b (o + j * 297) ((List.range 297).map (cluCell (cl j).fr (cl j).F (verOf VA (cl j).V VC))) ∧ VerOk w (cl j) VA VC X := by
 obtain ⟨VA, VC, h1, h2⟩ := h j hj; obtain ⟨b, o, e, hb, hc⟩ := (Rd.of_own ho).2 (by omega); refine ⟨b, o, VA, VC, e, hb, fun k v hv => ?_, h2⟩
 have hk : k < 297 := by have := (List.getElem?_eq_some_iff.1 hv).1; simpa using this
 have hv2 : ((row 297 (cluCell (cl j).fr (cl j).F (verOf VA (cl j).V VC))).toList)[k]? = some v := by rw [row_toList]; exact hv
 rw [← h1, List.getElem?_take, if_pos hk, List.getElem?_drop] at hv2; have := hc _ _ hv2
 rwa [← Nat.add_assoc] at this
end Cf
namespace Cf
open Go.RowKit Mem Rws Nd Cl
theorem clus_node {w : World} {b o : Nat} {c : CluS} {VA : Nat → Option Addr} {VC : Nat → Nat} (h : w.rangeAt b o ((List.range 297).map (cluCell c.fr c.F (verOf VA c.V VC)))) {k : Nat} (hk : k < 4) : w.rangeAt b (o + 1 + k * 74) ((List.range 74).map (nodeW (c.F k) (.slice (VA k) (c.V k).length (VC k)))) := fun i v hv => by
 have hi : i < 74 := by have := (List.getElem?_eq_some_iff.1 hv).1; simpa using this
 rw [List.getElem?_map, List.getElem?_range hi] at hv
 have h1 := h (1 + k * 74 + i) v (by
  rw [List.getElem?_map, List.getElem?_range (by omega)]; rw [← hv]
  show some (cluCell _ _ _ (1 + k * 74 + i)) = some (nodeW _ _ i)
  unfold cluCell
  rw [if_neg (by omega), show (1 + k * 74 + i - 1) / 74 = k by omega, show (1 + k * 74 + i - 1) % 74 = i by omega]
  rfl)
 rw [show o + 1 + k * 74 + i = o + (1 + k * 74 + i) by omega]
 exact h1
end Cf
namespace Cf
end Cf
end Go.Proofs.Ytobigbnmbnhikaa
