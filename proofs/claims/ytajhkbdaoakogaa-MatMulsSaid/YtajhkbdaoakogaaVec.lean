/- Contracts: the inner product of vec and of the reference. -/
import Derived.Test.YtajhkbdaoakogaaReck
import Derived.Deep.RegionHeld3
namespace Go.Proofs.Ytajhkbdaoakogaa.BigW
open Go.RowKit Go.Proofs.Ytajhkbdaoakogaa.Mem Go.Proofs.Ytajhkbdaoakogaa.BigLaw
set_option linter.unusedVariables false

theorem grown_at {w w' : World} {g b : Nat} (h : w.grownBy w' (some g)) (hb : b < w.heap.size) (hne : b ≠ g) : ∀ o, w'.cell? ⟨b, o, none⟩ = w.cell? ⟨b, o, none⟩ :=
  fun o => World.cell?_of_block (h.block b hb (fun e => hne (by injection e)))

/-- P2.2 -/
def dotV (ax ay az bx b_y bz : Int) : Int × Bool :=
  let m1 := fmul ax bx
  let m2 := fmul ay b_y
  let s := fadd m1.1 m2.1
  let m3 := fmul az bz
  let t := fadd s.1 m3.1
  (t.1, m1.2 || m2.2 || s.2 || m3.2 || t.2)

def vecV (x y z : Int) : Value := .agg #[.int .i64 x, .int .i64 y, .int .i64 z]

set_option maxRecDepth 100000 in
set_option maxHeartbeats 2000000 in
theorem vdot_any (g : Nat) (x : Bool) (ax ay az bx b_y bz : Int) (w : World) (h : Bent w 76 g x) (h1 : In64 ax) (h2 : In64 ay) (h3 : In64 az) (h4 : In64 bx) (h5 : In64 b_y) (h6 : In64 bz) :
    Calls Try.prog 62 #[.pointer (some ⟨g, 0, none⟩), vecV ax ay az, vecV bx b_y bz] w fun e w' => Stepd w w' 76 g x (dotV ax ay az bx b_y bz) e := by
  have HB := Lib.hid h
  have hB := h
  have hG : w.grownBy w (some g) := grown_same _ _
  have hgl : g < w.heap.size := Blk.lt h
  unfold vecV
  go_enter Try.func62, Try.ntmps62
  go_wp2_with fail
  have hb0 : w.grownBy ((w.alloc (.cells #[.int .i64 ax, .int .i64 ay, .int .i64 az] 37)).alloc (.cells #[.int .i64 bx, .int .i64 b_y, .int .i64 bz] 37)).drew (some g) := grown_of_below ((((Below.refl _ _).alloc (Nat.le_refl _) _).alloc (by simp) _).drew)
  have hbe : Bent ((w.alloc (.cells #[.int .i64 ax, .int .i64 ay, .int .i64 az] 37)).alloc (.cells #[.int .i64 bx, .int .i64 b_y, .int .i64 bz] 37)).drew 76 g x := ((Blk.alloc h _).alloc _).drew
  have HBE := Lib.hid hbe
  have HG := Lib.hid hb0
  clear hbe hb0 hB hG h
  have hne0 : w.heap.size ≠ g := by omega
  have hne1 : w.heap.size + 1 ≠ g := by omega
  have hs : w.heap.size + 2 ≤ ((w.alloc (.cells #[.int .i64 ax, .int .i64 ay, .int .i64 az] 37)).alloc (.cells #[.int .i64 bx, .int .i64 b_y, .int .i64 bz] 37)).drew.heap.size := by simp
  go_region_held3 (fun w' => w'.cell? ⟨w.heap.size, 0, none⟩ = some (.int .i64 ax) ∧ w'.cell? ⟨w.heap.size, 1, none⟩ = some (.int .i64 ay) ∧ w'.cell? ⟨w.heap.size, 2, none⟩ = some (.int .i64 az) ∧ w'.cell? ⟨w.heap.size + 1, 0, none⟩ = some (.int .i64 bx) ∧ w'.cell? ⟨w.heap.size + 1, 1, none⟩ = some (.int .i64 b_y) ∧ w'.cell? ⟨w.heap.size + 1, 2, none⟩ = some (.int .i64 bz)) (go_keep) (first
    | (go_at_call_of 59 (Value.int .i64 ax); refine (vmul_any g _ ax bx _ HBE.out h1 h4).mono ?_; rintro e w1 ⟨rfl, hbn, hgn⟩; have HBE := Lib.hid hbn; have HG := Lib.hid (HG.out.trans hgn); have hk0 := grown_at hgn (show w.heap.size < _ by omega) hne0; have hk1 := grown_at hgn (show w.heap.size + 1 < _ by omega) hne1; have hs := Nat.le_trans hs hgn.size; clear hbn hgn)
    | (go_at_call_of 59 (Value.int .i64 ay); refine (vmul_any g _ ay b_y _ HBE.out h2 h5).mono ?_; rintro e w1 ⟨rfl, hbn, hgn⟩; have HBE := Lib.hid hbn; have HG := Lib.hid (HG.out.trans hgn); have hk0 := grown_at hgn (show w.heap.size < _ by omega) hne0; have hk1 := grown_at hgn (show w.heap.size + 1 < _ by omega) hne1; have hs := Nat.le_trans hs hgn.size; clear hbn hgn)
    | (go_at_call_of 59 (Value.int .i64 az); refine (vmul_any g _ az bz _ HBE.out h3 h6).mono ?_; rintro e w1 ⟨rfl, hbn, hgn⟩; have HBE := Lib.hid hbn; have HG := Lib.hid (HG.out.trans hgn); have hk0 := grown_at hgn (show w.heap.size < _ by omega) hne0; have hk1 := grown_at hgn (show w.heap.size + 1 < _ by omega) hne1; have hs := Nat.le_trans hs hgn.size; clear hbn hgn)
    | (go_at_call_of 57 (Value.int .i64 (fmul ay b_y).1); refine (vadd_any g _ (fmul ax bx).1 (fmul ay b_y).1 _ HBE.out (stop_range _) (stop_range _)).mono ?_; rintro e w1 ⟨rfl, hbn, hgn⟩; have HBE := Lib.hid hbn; have HG := Lib.hid (HG.out.trans hgn); have hk0 := grown_at hgn (show w.heap.size < _ by omega) hne0; have hk1 := grown_at hgn (show w.heap.size + 1 < _ by omega) hne1; have hs := Nat.le_trans hs hgn.size; clear hbn hgn)
    | (go_at_call_of 57 (Value.int .i64 (fmul az bz).1); refine (vadd_any g _ (fadd (fmul ax bx).1 (fmul ay b_y).1).1 (fmul az bz).1 _ HBE.out (stop_range _) (stop_range _)).mono ?_; rintro e w1 ⟨rfl, hbn, hgn⟩; have HBE := Lib.hid hbn; have HG := Lib.hid (HG.out.trans hgn); have hk0 := grown_at hgn (show w.heap.size < _ by omega) hne0; have hk1 := grown_at hgn (show w.heap.size + 1 < _ by omega) hne1; have hs := Nat.le_trans hs hgn.size; clear hbn hgn))
  have HE := Lib.hid (show (x || (dotV ax ay az bx b_y bz).2) = (x || (fmul ax bx).2 || (fmul ay b_y).2 || (fadd (fmul ax bx).1 (fmul ay b_y).1).2 || (fmul az bz).2 || (fadd (fadd (fmul ax bx).1 (fmul ay b_y).1).1 (fmul az bz).1).2) by simp [dotV, Bool.or_assoc])
  clear hk0 hk1 hs
  go_wp2_with fail
  go_ret
  exact ⟨rfl, by rw [HE.out]; exact HBE.out, HG.out⟩

/-- an answer of a reckoning: two results -/
def Two (w w' : World) (r : Int × Bool) (e : Ending) : Prop := e = .returned (.tuple #[.int .i64 r.1, .bool r.2]) ∧ Below w.heap.size w w'

theorem below_new {w W w' : World} {g : Nat} (hb : Below w.heap.size w W) (hg : W.grownBy w' (some g)) (h : w.heap.size ≤ g) : Below w.heap.size w w' :=
  below_grown hb (Nat.le_refl _) hg (fun k e => by injection e with e; omega)

set_option maxRecDepth 100000 in
set_option maxHeartbeats 2000000 in
theorem refDot_any (ax ay az bx b_y bz : Int) (w : World) (h1 : In64 ax) (h2 : In64 ay) (h3 : In64 az) (h4 : In64 bx) (h5 : In64 b_y) (h6 : In64 bz) :
    Calls Try.prog 63 #[vecV ax ay az, vecV bx b_y bz] w fun e w' => Two w w' (dotV ax ay az bx b_y bz) e := by
  unfold vecV
  go_enter Try.func63, Try.ntmps63
  go_wp2_with fail
  have hW : Below w.heap.size w (((w.alloc (.cells #[.int .i64 ax, .int .i64 ay, .int .i64 az] 37)).alloc (.cells #[.int .i64 bx, .int .i64 b_y, .int .i64 bz] 37)).alloc (.cells #[.bool false] 70)) := (((Below.refl _ _).alloc (Nat.le_refl _) _).alloc (by simp) _).alloc (by simp; omega) _
  have b0 := ((Blk.new (w := w) (t := 37) (cs := #[.int .i64 ax, .int .i64 ay, .int .i64 az]) rfl).alloc (.cells #[.int .i64 bx, .int .i64 b_y, .int .i64 bz] 37)).alloc (.cells #[.bool false] 70)
  have b1 := (Blk.new (w := w.alloc (.cells #[.int .i64 ax, .int .i64 ay, .int .i64 az] 37)) (g := w.heap.size + 1) (t := 37) (cs := #[.int .i64 bx, .int .i64 b_y, .int .i64 bz]) (by simp)).alloc (.cells #[.bool false] 70)
  have HBE : Hid (Bent (((w.alloc (.cells #[.int .i64 ax, .int .i64 ay, .int .i64 az] 37)).alloc (.cells #[.int .i64 bx, .int .i64 b_y, .int .i64 bz] 37)).alloc (.cells #[.bool false] 70)) 70 (w.heap.size + 1 + 1) false) := Lib.hid (Blk.new (by simp))
  have HG : Hid (World.grownBy (((w.alloc (.cells #[.int .i64 ax, .int .i64 ay, .int .i64 az] 37)).alloc (.cells #[.int .i64 bx, .int .i64 b_y, .int .i64 bz] 37)).alloc (.cells #[.bool false] 70)) (((w.alloc (.cells #[.int .i64 ax, .int .i64 ay, .int .i64 az] 37)).alloc (.cells #[.int .i64 bx, .int .i64 b_y, .int .i64 bz] 37)).alloc (.cells #[.bool false] 70)) (some (w.heap.size + 1 + 1))) := Lib.hid (grown_same _ _)
  have hs : w.heap.size + 3 ≤ (World.heap (((w.alloc (.cells #[.int .i64 ax, .int .i64 ay, .int .i64 az] 37)).alloc (.cells #[.int .i64 bx, .int .i64 b_y, .int .i64 bz] 37)).alloc (.cells #[.bool false] 70))).size := by simp
  have k00 := b0.cell 0
  have k01 := b0.cell 1
  have k02 := b0.cell 2
  have k10 := b1.cell 0
  have k11 := b1.cell 1
  have k12 := b1.cell 2
  simp only [List.getElem?_toArray, List.getElem?_cons_zero, List.getElem?_cons_succ] at k00 k01 k02 k10 k11 k12
  have hne0 : w.heap.size ≠ w.heap.size + 1 + 1 := by omega
  have hne1 : w.heap.size + 1 ≠ w.heap.size + 1 + 1 := by omega
  clear b0 b1
  refine (rmul_any _ _ ax bx _ HBE.out h1 h4).mono ?_
  rintro e w1 ⟨rfl, hbn, hgn⟩
  have HBE := Lib.hid hbn
  have HG := Lib.hid (HG.out.trans hgn)
  have k00 := (grown_at hgn (show w.heap.size < _ by omega) hne0 0).trans k00
  have k01 := (grown_at hgn (show w.heap.size < _ by omega) hne0 1).trans k01
  have k02 := (grown_at hgn (show w.heap.size < _ by omega) hne0 2).trans k02
  have k10 := (grown_at hgn (show w.heap.size + 1 < _ by omega) hne1 0).trans k10
  have k11 := (grown_at hgn (show w.heap.size + 1 < _ by omega) hne1 1).trans k11
  have k12 := (grown_at hgn (show w.heap.size + 1 < _ by omega) hne1 2).trans k12
  have hs := Nat.le_trans hs hgn.size
  clear hbn hgn
  go_wp2_with fail
  refine (rmul_any _ _ ay b_y _ HBE.out h2 h5).mono ?_
  rintro e w1 ⟨rfl, hbn, hgn⟩
  have HBE := Lib.hid hbn
  have HG := Lib.hid (HG.out.trans hgn)
  have k00 := (grown_at hgn (show w.heap.size < _ by omega) hne0 0).trans k00
  have k01 := (grown_at hgn (show w.heap.size < _ by omega) hne0 1).trans k01
  have k02 := (grown_at hgn (show w.heap.size < _ by omega) hne0 2).trans k02
  have k10 := (grown_at hgn (show w.heap.size + 1 < _ by omega) hne1 0).trans k10
  have k11 := (grown_at hgn (show w.heap.size + 1 < _ by omega) hne1 1).trans k11
  have k12 := (grown_at hgn (show w.heap.size + 1 < _ by omega) hne1 2).trans k12
  have hs := Nat.le_trans hs hgn.size
  clear hbn hgn
  go_wp2_with fail
  refine (rmul_any _ _ az bz _ HBE.out h3 h6).mono ?_
  rintro e w1 ⟨rfl, hbn, hgn⟩
  have HBE := Lib.hid hbn
  have HG := Lib.hid (HG.out.trans hgn)
  have k00 := (grown_at hgn (show w.heap.size < _ by omega) hne0 0).trans k00
  have k01 := (grown_at hgn (show w.heap.size < _ by omega) hne0 1).trans k01
  have k02 := (grown_at hgn (show w.heap.size < _ by omega) hne0 2).trans k02
  have k10 := (grown_at hgn (show w.heap.size + 1 < _ by omega) hne1 0).trans k10
  have k11 := (grown_at hgn (show w.heap.size + 1 < _ by omega) hne1 1).trans k11
  have k12 := (grown_at hgn (show w.heap.size + 1 < _ by omega) hne1 2).trans k12
  have hs := Nat.le_trans hs hgn.size
  clear hbn hgn
  go_wp2_with fail
  refine (radd_any _ _ (fmul ax bx).1 (fmul ay b_y).1 _ HBE.out (fmul_range _ _) (fmul_range _ _)).mono ?_
  rintro e w1 ⟨rfl, hbn, hgn⟩
  have HBE := Lib.hid hbn
  have HG := Lib.hid (HG.out.trans hgn)
  have k00 := (grown_at hgn (show w.heap.size < _ by omega) hne0 0).trans k00
  have k01 := (grown_at hgn (show w.heap.size < _ by omega) hne0 1).trans k01
  have k02 := (grown_at hgn (show w.heap.size < _ by omega) hne0 2).trans k02
  have k10 := (grown_at hgn (show w.heap.size + 1 < _ by omega) hne1 0).trans k10
  have k11 := (grown_at hgn (show w.heap.size + 1 < _ by omega) hne1 1).trans k11
  have k12 := (grown_at hgn (show w.heap.size + 1 < _ by omega) hne1 2).trans k12
  have hs := Nat.le_trans hs hgn.size
  clear hbn hgn
  go_wp2_with fail
  refine (radd_any _ _ (fadd (fmul ax bx).1 (fmul ay b_y).1).1 (fmul az bz).1 _ HBE.out (fadd_range _ _) (fmul_range _ _)).mono ?_
  rintro e w1 ⟨rfl, hbn, hgn⟩
  have HBE := Lib.hid hbn
  have HG := Lib.hid (HG.out.trans hgn)
  have k00 := (grown_at hgn (show w.heap.size < _ by omega) hne0 0).trans k00
  have k01 := (grown_at hgn (show w.heap.size < _ by omega) hne0 1).trans k01
  have k02 := (grown_at hgn (show w.heap.size < _ by omega) hne0 2).trans k02
  have k10 := (grown_at hgn (show w.heap.size + 1 < _ by omega) hne1 0).trans k10
  have k11 := (grown_at hgn (show w.heap.size + 1 < _ by omega) hne1 1).trans k11
  have k12 := (grown_at hgn (show w.heap.size + 1 < _ by omega) hne1 2).trans k12
  have hs := Nat.le_trans hs hgn.size
  clear hbn hgn
  have HE := Lib.hid (show (dotV ax ay az bx b_y bz).2 = (false || (fmul ax bx).2 || (fmul ay b_y).2 || (fmul az bz).2 || (fadd (fmul ax bx).1 (fmul ay b_y).1).2 || (fadd (fadd (fmul ax bx).1 (fmul ay b_y).1).1 (fmul az bz).1).2) by
    simp only [dotV]
    cases (fmul ax bx).2 <;> cases (fmul ay b_y).2 <;> cases (fmul az bz).2 <;> cases (fadd (fmul ax bx).1 (fmul ay b_y).1).2 <;> rfl)
  have c0 := Blk.cell HBE.out 0
  simp only [List.getElem?_toArray, List.getElem?_cons_zero] at c0
  rw [← HE.out] at c0
  have HB := Lib.hid (below_new hW HG.out (by omega))
  have HV : Hid ((dotV ax ay az bx b_y bz).1 = (fadd (fadd (fmul ax bx).1 (fmul ay b_y).1).1 (fmul az bz).1).1) := Lib.hid rfl
  rw [← HV.out]
  obtain ⟨r, hr⟩ : ∃ r, dotV ax ay az bx b_y bz = r := ⟨_, rfl⟩
  have HR := Lib.hid hr
  rw [hr] at c0 ⊢
  clear hr hW
  go_wp2_with fail
  go_quiet (fail)
  go_wp2_with fail
  go_ret2
  exact ⟨by rw [HR.out]; rfl, below_drewN HB.out _⟩
end Go.Proofs.Ytajhkbdaoakogaa.BigW
