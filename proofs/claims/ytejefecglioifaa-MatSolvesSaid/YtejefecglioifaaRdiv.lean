/- Contract: the reference's Reckon's div. -/
import Derived.Test.YtejefecglioifaaReck0
import Derived.Test.YtejefecglioifaaFixDiv
namespace Go.Proofs.Ytejefecglioifaa.BigW
open Go.RowKit Go.Proofs.Ytejefecglioifaa.Mem Go.Proofs.Ytejefecglioifaa.BigLaw
set_option linter.unusedVariables false

theorem fdiv_range (a b : Int) : In64 (fdiv a b).1 := by
  unfold fdiv
  split
  · split
    · unfold In64; omega
    · split <;> (unfold In64; omega)
  · exact stop_range _

theorem rdiv_any (g : Nat) (x : Bool) (a b : Int) (w : World) (h : Bent w 55 g x) (ha : In64 a) (hb : In64 b) :
    Calls Try.prog 32 #[.pointer (some ⟨g, 0, none⟩), .int .i64 a, .int .i64 b] w fun e w' => Stepd w w' 55 g x (fdiv a b) e := by
  have HB := Lib.hid h
  have HA := Lib.hid ha
  have HC := Lib.hid hb
  clear h ha hb
  go_enter Try.func32, Try.ntmps32
  go_wp2_with fail
  refine (refDiv_any a b _ HA.out HC.out).mono ?_
  rintro e w1 ⟨rfl, hb1⟩
  have HB1 := Lib.hid (HB.out.below hb1)
  obtain ⟨r, hr⟩ : ∃ r, fdiv a b = r := ⟨_, rfl⟩
  have HR := Lib.hid hr
  rw [hr]
  clear hr
  obtain ⟨n, b'⟩ := r
  go_wp2_with fail
  refine (rsee_any g x n b' _ HB1.out).mono ?_
  rintro e w2 ⟨rfl, hbe, hg⟩
  have HBE := Lib.hid hbe
  have HG := Lib.hid ((grown_of_below hb1).trans hg)
  clear hbe hg
  go_wp2_with fail
  go_ret
  exact ⟨by rw [HR.out]; rfl, by rw [HR.out]; exact HBE.out, HG.out⟩
end Go.Proofs.Ytejefecglioifaa.BigW
