/- Contracts of filter's hand, and of the reference's Reckon's div: each reckons, and remembers whether anything stopped. -/
import Derived.Test.YtajhkbdaoakogaaReck
import Derived.Test.YtajhkbdaoakogaaFixDiv
import Derived.Deep.RegionHeld3
namespace Go.Proofs.Ytajhkbdaoakogaa.BigW
open Go.RowKit Go.Proofs.Ytajhkbdaoakogaa.Mem Go.Proofs.Ytajhkbdaoakogaa.BigLaw
set_option linter.unusedVariables false

theorem fdiv_range (a b : Int) : In64 (fdiv a b).1 := by
  unfold fdiv
  split
  · split
    · unfold In64; omega
    · split <;> (unfold In64; omega)
  · exact stop_range _

/-- a filter's state -/
structure St where
  X : Int
  V : Int
  P00 : Int
  P01 : Int
  P11 : Int
  bent : Bool
  missed : Int

def stC (s : St) : Array Value := #[.int .i64 s.X, .int .i64 s.V, .int .i64 s.P00, .int .i64 s.P01, .int .i64 s.P11, .bool s.bent, .int .i64 s.missed]
def StAt (w : World) (g : Nat) (s : St) : Prop := Blk w g 23 (stC s)
/-- a step of a hand on a state -/
def Handd (w w' : World) (g : Nat) (s : St) (r : Int × Bool) (e : Ending) : Prop :=
  e = .returned (.int .i64 r.1) ∧ StAt w' g { s with bent := s.bent || r.2 } ∧ w.grownBy w' (some g)
theorem StAt.below {w w' : World} {g : Nat} {s : St} (h : StAt w g s) (hb : Below w.heap.size w w') : StAt w' g s := Blk.below h hb (Blk.lt h)

theorem grown_one {w w' : World} {g : Nat} {row : Nat} (h : w.grownBy w' (some row)) (hg : g < w.heap.size) (hne : g ≠ row) : ∀ o, w'.cell? ⟨g, o, none⟩ = w.cell? ⟨g, o, none⟩ := fun o => World.cell?_of_block (h.block g hg (fun e => hne (by injection e)))

theorem hsee_any (g : Nat) (s : St) (n : Int) (b : Bool) (w : World) (h : StAt w g s) :
    Calls Try.prog 97 #[.agg #[.pointer (some ⟨g, 0, none⟩)], .int .i64 n, .bool b] w fun e w' => Handd w w' g s (n, b) e := by
  obtain ⟨X, V, P00, P01, P11, bent, missed⟩ := s
  have c5 := Blk.cell h 5
  have f5 := Blk.thaw h 5
  simp only [stC, List.getElem?_toArray, List.getElem?_cons_zero, List.getElem?_cons_succ] at c5
  have HB := Lib.hid h
  have hgl := Blk.lt h
  clear h
  cases bent <;> cases b
  all_goals
    go_enter Try.func97, Try.ntmps97
    go_wp2_with fail
    go_region
    go_wp2_with fail
    go_ret
    exact ⟨rfl, ((Blk.set HB.out 5 _).alloc _).drew, (grown_setCell _ _ _ _).trans (grown_of_below (((Below.refl _ _).alloc (Nat.le_refl _) _).drew))⟩

theorem hadd_any (g : Nat) (s : St) (a b : Int) (w : World) (h : StAt w g s) (ha : In64 a) (hb : In64 b) :
    Calls Try.prog 47 #[.agg #[.pointer (some ⟨g, 0, none⟩)], .int .i64 a, .int .i64 b] w fun e w' => Handd w w' g s (fadd a b) e := by
  have hA : Below w.heap.size w (w.alloc (.cells #[.pointer (some ⟨g, 0, none⟩)] 66)).drew := ((Below.refl _ _).alloc (Nat.le_refl _) _).drew
  have HB := Lib.hid (h.below hA)
  have hgl := Blk.lt h
  have hs : w.heap.size + 1 ≤ (w.alloc (.cells #[.pointer (some ⟨g, 0, none⟩)] 66)).drew.heap.size := by simp
  have HAA := Lib.hid hA
  have HA := Lib.hid ha
  have HC := Lib.hid hb
  clear h ha hb hA
  go_enter Try.func47, Try.ntmps47
  go_wp2_with fail
  go_region_held3 (fun w' => w'.cell? ⟨w.heap.size, 0, none⟩ = some (.pointer (some ⟨g, 0, none⟩))) (go_keep) (first
    | (go_at_call 71; refine (fixAdd_any a b _ HA.out HC.out).mono ?_; rintro e w1 ⟨rfl, rfl⟩)
    | (go_at_call 97; refine (hsee_any g s (stop (a + b)).1 (stop (a + b)).2 _ HB.out).mono ?_; rintro e w2 ⟨rfl, hbe, hg⟩; have hk0 := grown_one hg (g := w.heap.size) (by omega) (by omega) 0))
  have HBE := Lib.hid hbe
  have HG := Lib.hid ((grown_of_below HAA.out).trans hg)
  clear hbe hg hs hk0
  go_wp2_with fail
  go_ret
  exact ⟨rfl, HBE.out, HG.out⟩

theorem hsub_any (g : Nat) (s : St) (a b : Int) (w : World) (h : StAt w g s) (ha : In64 a) (hb : In64 b) :
    Calls Try.prog 46 #[.agg #[.pointer (some ⟨g, 0, none⟩)], .int .i64 a, .int .i64 b] w fun e w' => Handd w w' g s (fsub a b) e := by
  have hA : Below w.heap.size w (w.alloc (.cells #[.pointer (some ⟨g, 0, none⟩)] 66)).drew := ((Below.refl _ _).alloc (Nat.le_refl _) _).drew
  have HB := Lib.hid (h.below hA)
  have hgl := Blk.lt h
  have hs : w.heap.size + 1 ≤ (w.alloc (.cells #[.pointer (some ⟨g, 0, none⟩)] 66)).drew.heap.size := by simp
  have HAA := Lib.hid hA
  have HA := Lib.hid ha
  have HC := Lib.hid hb
  clear h ha hb hA
  go_enter Try.func46, Try.ntmps46
  go_wp2_with fail
  go_region_held3 (fun w' => w'.cell? ⟨w.heap.size, 0, none⟩ = some (.pointer (some ⟨g, 0, none⟩))) (go_keep) (first
    | (go_at_call 98; refine (fixSub_any a b _ HA.out HC.out).mono ?_; rintro e w1 ⟨rfl, rfl⟩)
    | (go_at_call 97; refine (hsee_any g s (stop (a - b)).1 (stop (a - b)).2 _ HB.out).mono ?_; rintro e w2 ⟨rfl, hbe, hg⟩; have hk0 := grown_one hg (g := w.heap.size) (by omega) (by omega) 0))
  have HBE := Lib.hid hbe
  have HG := Lib.hid ((grown_of_below HAA.out).trans hg)
  clear hbe hg hs hk0
  go_wp2_with fail
  go_ret
  exact ⟨rfl, HBE.out, HG.out⟩

theorem hmul_any (g : Nat) (s : St) (a b : Int) (w : World) (h : StAt w g s) (ha : In64 a) (hb : In64 b) :
    Calls Try.prog 48 #[.agg #[.pointer (some ⟨g, 0, none⟩)], .int .i64 a, .int .i64 b] w fun e w' => Handd w w' g s (fmul a b) e := by
  have hA : Below w.heap.size w (w.alloc (.cells #[.pointer (some ⟨g, 0, none⟩)] 66)).drew := ((Below.refl _ _).alloc (Nat.le_refl _) _).drew
  have HB := Lib.hid (h.below hA)
  have hgl := Blk.lt h
  have hs : w.heap.size + 1 ≤ (w.alloc (.cells #[.pointer (some ⟨g, 0, none⟩)] 66)).drew.heap.size := by simp
  have HAA := Lib.hid hA
  have HA := Lib.hid ha
  have HC := Lib.hid hb
  clear h ha hb hA
  go_enter Try.func48, Try.ntmps48
  go_wp2_with fail
  go_region_held3 (fun w' => w'.cell? ⟨w.heap.size, 0, none⟩ = some (.pointer (some ⟨g, 0, none⟩))) (go_keep) (first
    | (go_at_call 72; refine (fixMul_any a b _ HA.out HC.out).mono ?_; rintro e w1 ⟨rfl, hb1⟩; have hk0 := below_cell hb1 w.heap.size 0 (by simp); have hs := Nat.le_trans hs hb1.size; have HB := Lib.hid (HB.out.below hb1); have HAA := Lib.hid (onward HAA.out (Nat.le_refl _) hb1))
    | (go_at_call 97; refine (hsee_any g s (fmul a b).1 (fmul a b).2 _ HB.out).mono ?_; rintro e w2 ⟨rfl, hbe, hg⟩; have hk0 := grown_one hg (g := w.heap.size) (by omega) (by omega) 0))
  have HBE := Lib.hid hbe
  have HG := Lib.hid ((grown_of_below HAA.out).trans hg)
  clear hbe hg hs hk0
  go_wp2_with fail
  go_ret
  exact ⟨rfl, HBE.out, HG.out⟩

theorem hdiv_any (g : Nat) (s : St) (a b : Int) (w : World) (h : StAt w g s) (ha : In64 a) (hb : In64 b) :
    Calls Try.prog 49 #[.agg #[.pointer (some ⟨g, 0, none⟩)], .int .i64 a, .int .i64 b] w fun e w' => Handd w w' g s (fdiv a b) e := by
  have hA : Below w.heap.size w (w.alloc (.cells #[.pointer (some ⟨g, 0, none⟩)] 66)).drew := ((Below.refl _ _).alloc (Nat.le_refl _) _).drew
  have HB := Lib.hid (h.below hA)
  have hgl := Blk.lt h
  have hs : w.heap.size + 1 ≤ (w.alloc (.cells #[.pointer (some ⟨g, 0, none⟩)] 66)).drew.heap.size := by simp
  have HAA := Lib.hid hA
  have HA := Lib.hid ha
  have HC := Lib.hid hb
  clear h ha hb hA
  go_enter Try.func49, Try.ntmps49
  go_wp2_with fail
  go_region_held3 (fun w' => w'.cell? ⟨w.heap.size, 0, none⟩ = some (.pointer (some ⟨g, 0, none⟩))) (go_keep) (first
    | (go_at_call 99; refine (fixDiv_any a b _ HA.out HC.out).mono ?_; rintro e w1 ⟨rfl, hb1⟩; have hk0 := below_cell hb1 w.heap.size 0 (by simp); have hs := Nat.le_trans hs hb1.size; have HB := Lib.hid (HB.out.below hb1); have HAA := Lib.hid (onward HAA.out (Nat.le_refl _) hb1))
    | (go_at_call 97; refine (hsee_any g s (fdiv a b).1 (fdiv a b).2 _ HB.out).mono ?_; rintro e w2 ⟨rfl, hbe, hg⟩; have hk0 := grown_one hg (g := w.heap.size) (by omega) (by omega) 0))
  have HBE := Lib.hid hbe
  have HG := Lib.hid ((grown_of_below HAA.out).trans hg)
  clear hbe hg hs hk0
  go_wp2_with fail
  go_ret
  exact ⟨rfl, HBE.out, HG.out⟩

theorem rdiv_any (g : Nat) (x : Bool) (a b : Int) (w : World) (h : Bent w 70 g x) (ha : In64 a) (hb : In64 b) :
    Calls Try.prog 53 #[.pointer (some ⟨g, 0, none⟩), .int .i64 a, .int .i64 b] w fun e w' => Stepd w w' 70 g x (fdiv a b) e := by
  have HB := Lib.hid h
  have HA := Lib.hid ha
  have HC := Lib.hid hb
  clear h ha hb
  go_enter Try.func53, Try.ntmps53
  go_wp2_with fail
  refine (refDiv_any a b _ HA.out HC.out).mono ?_
  rintro e w1 ⟨rfl, hb1⟩
  have HB1 := Lib.hid (HB.out.below hb1)
  obtain ⟨r, hr⟩ : ∃ r, fdiv a b = r := ⟨_, rfl⟩
  have HR := Lib.hid hr
  rw [hr]
  clear hr
  obtain ⟨n, b'⟩ := r
  go_wp2_with fail
  refine (rsee_any g x n b' _ HB1.out).mono ?_
  rintro e w2 ⟨rfl, hbe, hg⟩
  have HBE := Lib.hid hbe
  have HG := Lib.hid ((grown_of_below hb1).trans hg)
  clear hbe hg
  go_wp2_with fail
  go_ret
  exact ⟨by rw [HR.out]; rfl, by rw [HR.out]; exact HBE.out, HG.out⟩
end Go.Proofs.Ytajhkbdaoakogaa.BigW
