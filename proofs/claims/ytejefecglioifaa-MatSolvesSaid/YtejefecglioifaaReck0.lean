/- Contracts of the reference's Reckon: each reckons, and remembers whether anything stopped. -/
import Derived.Test.YtejefecglioifaaFixMul
namespace Go.Proofs.Ytejefecglioifaa.BigW
open Go.RowKit Go.Proofs.Ytejefecglioifaa.Mem Go.Proofs.Ytejefecglioifaa.BigLaw
set_option linter.unusedVariables false

def fadd (a b : Int) : Int × Bool := stop (a + b)
def fsub (a b : Int) : Int × Bool := stop (a - b)
def In64 (a : Int) : Prop := -9223372036854775808 ≤ a ∧ a ≤ 9223372036854775807
theorem stop_range (X : Int) : In64 (stop X).1 := by
  unfold stop in64 In64
  split
  · rename_i h; exact of_decide_eq_true h
  · split <;> exact ⟨by decide, by decide⟩

theorem fmul_range (a b : Int) : In64 (fmul a b).1 := stop_range _
theorem fadd_range (a b : Int) : In64 (fadd a b).1 := stop_range _
theorem fsub_range (a b : Int) : In64 (fsub a b).1 := stop_range _

/-- a reckoner's block -/
def Bent (w : World) (T : TypeId) (g : Nat) (x : Bool) : Prop := Blk w g T #[.bool x]
/-- a step of a reckoner -/
def Stepd (w w' : World) (T : TypeId) (g : Nat) (x : Bool) (r : Int × Bool) (e : Ending) : Prop :=
  e = .returned (.int .i64 r.1) ∧ Bent w' T g (x || r.2) ∧ w.grownBy w' (some g)

theorem Bent.grown {w w' : World} {T : TypeId} {g : Nat} {x : Bool} (h : Bent w T g x) {row : Option Nat} (hg : w.grownBy w' row) (hne : some g ≠ row) : Bent w' T g x := Blk.grown h hg hne
theorem Bent.below {w w' : World} {T : TypeId} {g : Nat} {x : Bool} (h : Bent w T g x) (hb : Below w.heap.size w w') : Bent w' T g x := Blk.below h hb (Blk.lt h)

theorem rsee_any (g : Nat) (x : Bool) (n : Int) (b : Bool) (w : World) (h : Bent w 55 g x) :
    Calls Try.prog 51 #[.pointer (some ⟨g, 0, none⟩), .int .i64 n, .bool b] w fun e w' => Stepd w w' 55 g x (n, b) e := by
  have c0 := Blk.cell h 0
  have f0 := Blk.thaw h 0
  simp only [List.getElem?_toArray, List.getElem?_cons_zero] at c0
  have HB := Lib.hid h
  clear h
  cases b
  · go_enter Try.func51, Try.ntmps51
    go_wp2_with fail
    go_ret
    exact ⟨rfl, by rw [Bool.or_false]; exact HB.out, grown_same _ _⟩
  · go_enter Try.func51, Try.ntmps51
    go_wp2_with fail
    go_ret
    exact ⟨rfl, by rw [Bool.or_true]; exact HB.out.set 0 _, grown_setCell _ _ _ _⟩

theorem radd_any (g : Nat) (x : Bool) (a b : Int) (w : World) (h : Bent w 55 g x) (ha : In64 a) (hb : In64 b) :
    Calls Try.prog 44 #[.pointer (some ⟨g, 0, none⟩), .int .i64 a, .int .i64 b] w fun e w' => Stepd w w' 55 g x (fadd a b) e := by
  have HB := Lib.hid h
  have HA := Lib.hid ha
  have HC := Lib.hid hb
  clear h ha hb
  go_enter Try.func44, Try.ntmps44
  go_wp2_with fail
  refine (refAdd_any a b _ HA.out HC.out).mono ?_
  rintro e w1 ⟨rfl, hb1⟩
  have HB1 := Lib.hid (HB.out.below hb1)
  obtain ⟨r, hr⟩ : ∃ r, fadd a b = r := ⟨_, rfl⟩
  have HR := Lib.hid hr
  rw [show stop (a + b) = r from hr]
  clear hr
  obtain ⟨n, b'⟩ := r
  go_wp2_with fail
  refine (rsee_any g x n b' _ HB1.out).mono ?_
  rintro e w2 ⟨rfl, hbe, hg⟩
  have HBE := Lib.hid hbe
  have HG := Lib.hid ((grown_of_below hb1).trans hg)
  clear hbe hg
  go_wp2_with fail
  go_ret
  exact ⟨by rw [HR.out]; rfl, by rw [HR.out]; exact HBE.out, HG.out⟩

theorem rsub_any (g : Nat) (x : Bool) (a b : Int) (w : World) (h : Bent w 55 g x) (ha : In64 a) (hb : In64 b) :
    Calls Try.prog 31 #[.pointer (some ⟨g, 0, none⟩), .int .i64 a, .int .i64 b] w fun e w' => Stepd w w' 55 g x (fsub a b) e := by
  have HB := Lib.hid h
  have HA := Lib.hid ha
  have HC := Lib.hid hb
  clear h ha hb
  go_enter Try.func31, Try.ntmps31
  go_wp2_with fail
  refine (refSub_any a b _ HA.out HC.out).mono ?_
  rintro e w1 ⟨rfl, hb1⟩
  have HB1 := Lib.hid (HB.out.below hb1)
  obtain ⟨r, hr⟩ : ∃ r, fsub a b = r := ⟨_, rfl⟩
  have HR := Lib.hid hr
  rw [show stop (a - b) = r from hr]
  clear hr
  obtain ⟨n, b'⟩ := r
  go_wp2_with fail
  refine (rsee_any g x n b' _ HB1.out).mono ?_
  rintro e w2 ⟨rfl, hbe, hg⟩
  have HBE := Lib.hid hbe
  have HG := Lib.hid ((grown_of_below hb1).trans hg)
  clear hbe hg
  go_wp2_with fail
  go_ret
  exact ⟨by rw [HR.out]; rfl, by rw [HR.out]; exact HBE.out, HG.out⟩

theorem rmul_any (g : Nat) (x : Bool) (a b : Int) (w : World) (h : Bent w 55 g x) (ha : In64 a) (hb : In64 b) :
    Calls Try.prog 30 #[.pointer (some ⟨g, 0, none⟩), .int .i64 a, .int .i64 b] w fun e w' => Stepd w w' 55 g x (fmul a b) e := by
  have HB := Lib.hid h
  have HA := Lib.hid ha
  have HC := Lib.hid hb
  clear h ha hb
  go_enter Try.func30, Try.ntmps30
  go_wp2_with fail
  refine (refMul_any a b _ HA.out HC.out).mono ?_
  rintro e w1 ⟨rfl, hb1⟩
  have HB1 := Lib.hid (HB.out.below hb1)
  obtain ⟨r, hr⟩ : ∃ r, fmul a b = r := ⟨_, rfl⟩
  have HR := Lib.hid hr
  rw [hr]
  clear hr
  obtain ⟨n, b'⟩ := r
  go_wp2_with fail
  refine (rsee_any g x n b' _ HB1.out).mono ?_
  rintro e w2 ⟨rfl, hbe, hg⟩
  have HBE := Lib.hid hbe
  have HG := Lib.hid ((grown_of_below hb1).trans hg)
  clear hbe hg
  go_wp2_with fail
  go_ret
  exact ⟨by rw [HR.out]; rfl, by rw [HR.out]; exact HBE.out, HG.out⟩
end Go.Proofs.Ytejefecglioifaa.BigW
