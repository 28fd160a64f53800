/- Contracts: member.stay and member.wait. -/
import Derived.Test.YtjfllpmiajkenaaStepF
import Derived.Deep.DeepCutAuto
import Derived.Test.YtjfllpmiajkenaaSameN
import Derived.Test.YtjfllpmiajkenaaRes
namespace Go.Proofs.Ytjfllpmiajkenaa.Nd
open Go.RowKit Go.Proofs.Ytjfllpmiajkenaa.Mem Go.Proofs.Ytjfllpmiajkenaa.Rws
set_option linter.unusedVariables false
set_option linter.unusedSimpArgs false

theorem upd_upd {α : Type} (g : Nat → α) (i : Nat) (a b : α) : upd (upd g i a) i b = upd g i b := funext fun k => by unfold upd; split <;> rfl
theorem upd_id {α : Type} (g : Nat → α) (i : Nat) {a : α} (h : g i = a) : upd g i a = g := funext fun k => by unfold upd; split; subst_vars; rfl; rfl
section
variable {w w1 w2 : World} {row : Option Nat}
theorem gr_refl (w : World) (row : Option Nat) : w.grownBy w row := ⟨rfl, rfl, rfl, Nat.le_refl _, fun _ _ _ => rfl⟩
theorem gr_trans (h : w.grownBy w1 row) (k : w1.grownBy w2 row) : w.grownBy w2 row := ⟨k.os.trans h.os, k.tape.trans h.tape, k.output.trans h.output, Nat.le_trans h.size k.size, fun g hg hne => (k.block g (Nat.lt_of_lt_of_le hg h.size) hne).trans (h.block g hg hne)⟩
theorem gr_drewN (w : World) (n : Nat) (row : Option Nat) : w.grownBy (w.drewN n) row := ⟨rfl, rfl, rfl, Nat.le_refl _, fun _ _ _ => rfl⟩
theorem gr_set (w : World) (g i : Nat) (u : Value) : w.grownBy (w.setCell ⟨g, i, none⟩ u) (some g) := ⟨rfl, rfl, rfl, by simp, fun k hk hne => Below.heap_setCell w ⟨g, i, none⟩ u k (fun e => hne (by rw [e]))⟩
theorem gr_below (h : Below w.heap.size w w1) : w.grownBy w1 row := ⟨h.os, h.tape, h.output, h.size, fun k hk _ => h.block k hk⟩
end

/-- what stay and wait do -/
def TurnAs (w w' : World) (g : Nat) (s : RS) (i : Nat) (b : Bool) (kind : Int) (e : Ending) : Prop :=
  ∃ out : Bool, e = .returned (.bool out) ∧ (one s i b).2 = (if out = true then [(kind, (i : Int))] else []) ∧ Blk w' g 30 (one s i b).1.row ∧ w.grownBy w' (some g)

set_option maxRecDepth 100000 in
set_option maxHeartbeats 4000000 in
theorem stay_any (s : RS) (i : Nat) (hi : i < 4) (b : Bool) (hf : s.f i = true) (hg : GoodAt s i) (g : Nat) (w : World) (hr : Blk w g 30 s.row) :
    Calls Try.prog 81 #[.pointer (some ⟨g, 0, none⟩), .int .i64 (i : Int), .bool b] w fun e w' => TurnAs w w' g s i b 1 e := by
  obtain ⟨h1, h2, h3⟩ := good_in hg hf
  obtain ⟨f, m, j⟩ := s
  dsimp only at hf h1 h2 h3
  have hr : Blk w g 30 (row 12 (rollF f m j)) := hr
  have HR := Lib.hid hr
  have hlt := hr.lt
  have xm : w.cell? ⟨g, 4 + i, none⟩ = some (.int .i64 (m i)) := by rw [hr.cell, row_at (by omega), rollF_miss hi]
  have fm := hr.thaw (4 + i)
  have xi : w.cell? ⟨g, i, none⟩ = some (.bool true) := by rw [hr.cell, row_at (by omega), rollF_in hi, hf]
  have hi0 : (0 : Int) ≤ (i : Int) := by omega
  have hi1 : (i : Int) < 4 := by omega
  have HF := Lib.hid hf
  have H3 := Lib.hid h3
  clear hg hr hf h3
  cases b with
  | true =>
    have HO := Lib.hid (show one ⟨f, m, j⟩ i true = (⟨f, upd m i 0, j⟩, []) by unfold one; rw [if_pos HF.out, if_pos rfl])
    go_enter Try.func81, Try.ntmps81
    go_wp2_with fail
    go_ret
    refine ⟨false, rfl, by rw [HO.out]; rfl, ?_, gr_set _ _ _ _⟩
    rw [HO.out]
    show Blk _ _ _ (row 12 (rollF f (upd m i 0) j))
    rw [← roll_miss f m j i hi 0]
    exact HR.out.set (4 + i) _
  | false =>
    obtain ⟨q, hq⟩ : ∃ q, m i = q := ⟨_, rfl⟩
    rw [hq] at xm h1 h2
    have HQ := Lib.hid hq
    clear hq
    have ew : IntKind.i64.wrap (q + 1) = q + 1 := IntWalk.i64_in _ (by omega)
    go_enter Try.func81, Try.ntmps81
    go_wp2_with fail
    go_region
    have R1 := Lib.hid ((HR.out.set (4 + i) (.int .i64 (q + 1))).drew)
    rw [roll_miss f m j i hi] at R1
    have G1 : Hid (w.grownBy ((w.setCell ⟨g, 4 + i, none⟩ (.int .i64 (q + 1))).drew) (some g)) := Lib.hid (gr_trans (gr_set w g (4 + i) (.int .i64 (q + 1))) (gr_drewN _ 1 _))
    generalize ((w.setCell ⟨g, 4 + i, none⟩ (.int .i64 (q + 1))).drew) = w1 at *
    have xm : w1.cell? ⟨g, 4 + i, none⟩ = some (.int .i64 (q + 1)) := by rw [R1.out.cell, row_at (by omega), rollF_miss hi, upd_same]
    have fm := R1.out.thaw (4 + i)
    have i1 : (Try.prog.info? 30).map (·.size) = some (row 12 (rollF f (upd m i (q + 1)) j)).size := by rw [row_size]; kernel_rfl
    clear HR
    by_cases hq2 : q + 1 < 2
    · have HO := Lib.hid (show one ⟨f, m, j⟩ i false = (⟨f, upd m i (min (q + 1) 2), j⟩, []) by unfold one; dsimp only; rw [if_pos HF.out, if_neg (by decide), if_neg (by rw [HQ.out]; omega), HQ.out])
      have hmin : min (q + 1) 2 = q + 1 := by omega
      go_wp2_with fail
      go_region
      go_wp2_with fail
      go_ret
      refine ⟨false, rfl, by rw [HO.out]; rfl, ?_, gr_trans G1.out (gr_trans (gr_set _ g (4 + i) _) (gr_drewN _ 1 _))⟩
      rw [HO.out]
      show Blk _ _ _ (row 12 (rollF f (upd m i (min (q + 1) 2)) j))
      rw [hmin]
      have h := (R1.out.set (4 + i) (.int .i64 (q + 1))).drew
      rw [roll_miss _ _ _ i hi, upd_upd] at h
      exact h
    · have hd : decide (q + 1 < 2) = false := decide_eq_false hq2
      have hq2 : 2 ≤ q + 1 := by omega
      go_upto_region 5 with fail
      refine wp_region_list ?_
      iterate 8
        refine wpList_wanted (by rfl) (fun K hK => ?_)
        go_simp
        try simp only [hd]
        refine hK _ _ ?_
        clear hK K
        try simp only [Act.put, List.setIfInBounds_toArray, List.set_cons_zero, List.set_cons_succ]
      iterate 2
        refine wpList_wanted (by rfl) (fun K hK => ?_)
        go_simp
        refine hK _ _ ?_
        clear hK K
        try simp only [Act.put, List.setIfInBounds_toArray, List.set_cons_zero, List.set_cons_succ]
      refine wpList_whole (by rfl) 30 _ rfl g rfl R1.out _ Try.underlying30 rfl i1 ?_
      try simp only [Act.put, List.setIfInBounds_toArray, List.set_cons_zero, List.set_cons_succ]
      refine wpList_wanted (by rfl) (fun K hK => ?_)
      go_simp
      go_at_call 100
      refine (count_any f (upd m i (q + 1)) j _).mono ?_
      rintro e w2 ⟨rfl, hb⟩
      have R2 := Lib.hid (R1.out.below hb R1.out.lt)
      have G2 : Hid (w.grownBy w2 (some g)) := Lib.hid (gr_trans G1.out (gr_below hb))
      have hc4 := cntTo_le f 4
      obtain ⟨C, hC⟩ : ∃ C : Int, (cntTo f 4 : Int) = C := ⟨_, rfl⟩
      rw [hC]
      have xm : w2.cell? ⟨g, 4 + i, none⟩ = some (.int .i64 (q + 1)) := by rw [R2.out.cell, row_at (by omega), rollF_miss hi, upd_same]
      have fm := R2.out.thaw (4 + i)
      clear hb R1 G1
      by_cases hc : C ≤ 2
      · have HO := Lib.hid (show one ⟨f, m, j⟩ i false = (⟨f, upd m i (min (q + 1) 2), j⟩, []) by unfold one; dsimp only; rw [if_pos HF.out, if_neg (by decide), if_neg (by rw [HQ.out]; omega), HQ.out])
        have hmin : min (q + 1) 2 = 2 := by omega
        have hcd : decide (C ≤ 2) = true := decide_eq_true hc
        go_wp2_with fail
        go_region
        all_goals go_wp2_with fail
        all_goals
          go_ret
          refine ⟨false, rfl, by rw [HO.out]; rfl, ?_, gr_trans G2.out (gr_trans (gr_set _ g (4 + i) _) (gr_drewN _ 1 _))⟩
          rw [HO.out]
          show Blk _ _ _ (row 12 (rollF f (upd m i (min (q + 1) 2)) j))
          rw [hmin]
          have h := (R2.out.set (4 + i) (.int .i64 2)).drew
          rw [roll_miss _ _ _ i hi, upd_upd] at h
          first | exact h | (rw [show q + 1 = 2 by omega]; exact h)
      · have HO := Lib.hid (show one ⟨f, m, j⟩ i false = (⟨upd f i false, upd m i 0, j⟩, [(1, (i : Int))]) by unfold one; dsimp only; rw [if_pos HF.out, if_neg (by decide), if_pos (by rw [HQ.out]; omega)])
        have hcd : decide (C ≤ 2) = false := decide_eq_false hc
        have xi : w2.cell? ⟨g, i, none⟩ = some (.bool true) := by rw [R2.out.cell, row_at (by omega), rollF_in hi, HF.out]
        have xj : w2.cell? ⟨g, 8 + i, none⟩ = some (.int .i64 0) := by rw [R2.out.cell, row_at (by omega), rollF_join hi, H3.out]
        have fi := R2.out.thaw i
        have fj := R2.out.thaw (8 + i)
        go_wp2_with fail
        go_region
        go_wp2_with fail
        go_ret
        refine ⟨true, rfl, by rw [HO.out]; rfl, ?_, gr_trans G2.out (gr_trans (gr_set _ g i _) (gr_trans (gr_set _ g (4 + i) _) (gr_trans (gr_set _ g (8 + i) _) (gr_drewN _ 1 _))))⟩
        rw [HO.out]
        show Blk _ _ _ (row 12 (rollF (upd f i false) (upd m i 0) j))
        have h := (((R2.out.set i (.bool false)).set (4 + i) (.int .i64 0)).set (8 + i) (.int .i64 0)).drew
        rw [roll_in _ _ _ i hi, roll_miss _ _ _ i hi, roll_join _ _ _ i hi, upd_upd, upd_id j i H3.out] at h
        exact h

set_option maxRecDepth 100000 in
set_option maxHeartbeats 4000000 in
theorem wait_any (s : RS) (i : Nat) (hi : i < 4) (b : Bool) (hf : s.f i = false) (hg : GoodAt s i) (g : Nat) (w : World) (hr : Blk w g 30 s.row) :
    Calls Try.prog 82 #[.pointer (some ⟨g, 0, none⟩), .int .i64 (i : Int), .bool b] w fun e w' => TurnAs w w' g s i b 2 e := by
  obtain ⟨h1, h2, h3⟩ := good_out hg hf
  obtain ⟨f, m, j⟩ := s
  dsimp only at hf h1 h2 h3
  have hr : Blk w g 30 (row 12 (rollF f m j)) := hr
  have HR := Lib.hid hr
  have hlt := hr.lt
  have xj : w.cell? ⟨g, 8 + i, none⟩ = some (.int .i64 (j i)) := by rw [hr.cell, row_at (by omega), rollF_join hi]
  have fj := hr.thaw (8 + i)
  have hi0 : (0 : Int) ≤ (i : Int) := by omega
  have hi1 : (i : Int) < 4 := by omega
  have HF := Lib.hid hf
  have H1 := Lib.hid h1
  have hne : ¬ (f i = true) := by rw [hf]; decide
  have HNE := Lib.hid hne
  clear hg hr hf h1 hne
  cases b with
  | false =>
    have HO := Lib.hid (show one ⟨f, m, j⟩ i false = (⟨f, m, upd j i 0⟩, []) by unfold one; rw [if_neg HNE.out, if_pos rfl])
    go_enter Try.func82, Try.ntmps82
    go_wp2_with fail
    go_ret
    refine ⟨false, rfl, by rw [HO.out]; rfl, ?_, gr_set _ _ _ _⟩
    rw [HO.out]
    show Blk _ _ _ (row 12 (rollF f m (upd j i 0)))
    rw [← roll_join f m j i hi 0]
    exact HR.out.set (8 + i) _
  | true =>
    obtain ⟨q, hq⟩ : ∃ q, j i = q := ⟨_, rfl⟩
    rw [hq] at xj h2 h3
    have HQ := Lib.hid hq
    clear hq
    have ew : IntKind.i64.wrap (q + 1) = q + 1 := IntWalk.i64_in _ (by omega)
    go_enter Try.func82, Try.ntmps82
    go_wp2_with fail
    go_region
    have R1 := Lib.hid ((HR.out.set (8 + i) (.int .i64 (q + 1))).drew)
    rw [roll_join f m j i hi] at R1
    have G1 : Hid (w.grownBy ((w.setCell ⟨g, 8 + i, none⟩ (.int .i64 (q + 1))).drew) (some g)) := Lib.hid (gr_trans (gr_set w g (8 + i) (.int .i64 (q + 1))) (gr_drewN _ 1 _))
    generalize ((w.setCell ⟨g, 8 + i, none⟩ (.int .i64 (q + 1))).drew) = w1 at *
    have xj : w1.cell? ⟨g, 8 + i, none⟩ = some (.int .i64 (q + 1)) := by rw [R1.out.cell, row_at (by omega), rollF_join hi, upd_same]
    have fj := R1.out.thaw (8 + i)
    clear HR
    by_cases hq3 : q + 1 < 3
    · have HO := Lib.hid (show one ⟨f, m, j⟩ i true = (⟨f, m, upd j i (q + 1)⟩, []) by unfold one; dsimp only; rw [if_neg HNE.out, if_neg (by decide), if_neg (by rw [HQ.out]; omega), HQ.out])
      go_wp2_with fail
      go_ret
      exact ⟨false, rfl, by rw [HO.out]; rfl, by rw [HO.out]; exact R1.out, G1.out⟩
    · have HO := Lib.hid (show one ⟨f, m, j⟩ i true = (⟨upd f i true, m, upd j i 0⟩, [(2, (i : Int))]) by unfold one; dsimp only; rw [if_neg HNE.out, if_neg (by decide), if_pos (by rw [HQ.out]; omega)])
      have hq3 : 3 ≤ q + 1 := by omega
      have xi : w1.cell? ⟨g, i, none⟩ = some (.bool false) := by rw [R1.out.cell, row_at (by omega), rollF_in hi, HF.out]
      have xm : w1.cell? ⟨g, 4 + i, none⟩ = some (.int .i64 0) := by rw [R1.out.cell, row_at (by omega), rollF_miss hi, H1.out]
      have fi := R1.out.thaw i
      have fm := R1.out.thaw (4 + i)
      go_wp2_with fail
      go_region
      go_wp2_with fail
      go_ret
      refine ⟨true, rfl, by rw [HO.out]; rfl, ?_, gr_trans G1.out (gr_trans (gr_set _ g i _) (gr_trans (gr_set _ g (4 + i) _) (gr_trans (gr_set _ g (8 + i) _) (gr_drewN _ 1 _))))⟩
      rw [HO.out]
      show Blk _ _ _ (row 12 (rollF (upd f i true) m (upd j i 0)))
      have h := (((R1.out.set i (.bool true)).set (4 + i) (.int .i64 0)).set (8 + i) (.int .i64 0)).drew
      rw [roll_in _ _ _ i hi, roll_miss _ _ _ i hi, roll_join _ _ _ i hi, upd_upd, upd_id m i H1.out] at h
      exact h
end Go.Proofs.Ytjfllpmiajkenaa.Nd
