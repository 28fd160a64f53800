/- Contracts: vec.Length and the reference's Length. -/
import Derived.Test.YtajhkbdaoakogaaRefRoot
import Derived.Test.YtajhkbdaoakogaaVec
import Derived.Test.YtajhkbdaoakogaaRws
namespace Go.Proofs.Ytajhkbdaoakogaa.BigW
open Go.RowKit Go.Proofs.Ytajhkbdaoakogaa.Mem Go.Proofs.Ytajhkbdaoakogaa.BigLaw Go.Proofs.Ytajhkbdaoakogaa.Rws
set_option linter.unusedVariables false
set_option linter.unusedSimpArgs false

/-- P2.4 -/
def lengthV (ax ay az : Int) : Int × Bool := ((froot (dotV ax ay az ax ay az).1).1, (dotV ax ay az ax ay az).2 || (froot (dotV ax ay az ax ay az).1).2)
theorem dot_range (ax ay az bx b_y bz : Int) : In64 (dotV ax ay az bx b_y bz).1 := fadd_range _ _

set_option maxRecDepth 100000 in
set_option maxHeartbeats 1000000 in
theorem length_any' (ax ay az : Int) (w : World) (h1 : In64 ax) (h2 : In64 ay) (h3 : In64 az) :
    Calls Try.prog 30 #[vecV ax ay az] w fun e w' => Two w w' (lengthV ax ay az) e := by
  obtain ⟨⟨d, db⟩, hd⟩ : ∃ d, dotV ax ay az ax ay az = d := ⟨_, rfl⟩
  have r_d : In64 d := by have h := dot_range ax ay az ax ay az; rw [hd] at h; exact h
  obtain ⟨⟨q, qb⟩, hq⟩ : ∃ q, froot d = q := ⟨_, rfl⟩
  have HL := Lib.hid (show lengthV ax ay az = (q, db || qb) from by unfold lengthV; simp only [hd, hq])
  have HD := Lib.hid hd
  have HQ := Lib.hid hq
  have H1 := Lib.hid h1
  have H2 := Lib.hid h2
  have H3 := Lib.hid h3
  have HR := Lib.hid r_d
  clear hd hq h1 h2 h3 r_d
  unfold vecV
  have HA := Lib.hid (show Blk ((w.alloc (.cells #[.int .i64 ax, .int .i64 ay, .int .i64 az] 37)).alloc (.cells #[.bool false] 76)) w.heap.size 37 #[.int .i64 ax, .int .i64 ay, .int .i64 az] from (Blk.new rfl).alloc _)
  have HK := Lib.hid (show Bent ((w.alloc (.cells #[.int .i64 ax, .int .i64 ay, .int .i64 az] 37)).alloc (.cells #[.bool false] 76)) 76 (w.heap.size + 1) false from Blk.new (by simp))
  have HB := Lib.hid (show Below w.heap.size w ((w.alloc (.cells #[.int .i64 ax, .int .i64 ay, .int .i64 az] 37)).alloc (.cells #[.bool false] 76)) from ((Below.refl _ _).alloc (Nat.le_refl _) _).alloc (by simp) _)
  go_enter Try.func30, Try.ntmps30
  go_upto_region 2 with fail
  generalize ((w.alloc (.cells #[.int .i64 ax, .int .i64 ay, .int .i64 az] 37)).alloc (.cells #[.bool false] 76)) = w1 at *
  obtain ⟨gk, hgk⟩ : ∃ g, w.heap.size + 1 = g := ⟨_, rfl⟩
  rw [hgk] at HK ⊢
  go_wp2_with (refine wpList_whole rfl 37 _ rfl w.heap.size rfl HA.out _ Try.underlying37 rfl (by kernel_rfl) ?_)
  refine (vdot_any gk false ax ay az ax ay az w1 HK.out H1.out H2.out H3.out H1.out H2.out H3.out).mono ?_
  intro e w2 hc
  rw [HD.out] at hc
  obtain ⟨rfl, hst, hg⟩ := hc
  dsimp only at hst
  have HK := Lib.hid hst
  have HB := Lib.hid (below_grown HB.out (Nat.le_refl _) hg (fun g e => by injection e with e; omega))
  clear hst hg
  go_wp2_with fail
  refine (fixSqrt_any d w2 HR.out).mono ?_
  rintro e w3 ⟨rfl, rfl⟩
  rw [HQ.out]
  go_wp2_with fail
  refine (vsee_any gk _ q qb _ HK.out).mono ?_
  rintro e w4 ⟨rfl, hst, hg⟩
  have HK := Lib.hid hst
  have HB := Lib.hid (below_grown HB.out (Nat.le_refl _) hg (fun g e => by injection e with e; omega))
  clear hst hg
  have c0 : w4.cell? ⟨gk, 0, none⟩ = some (.bool (db || qb)) := by have h := (Blk.cell HK.out 0).trans rfl; rw [h]; simp
  go_wp2_with fail
  go_quiet (fail)
  go_wp2_with fail
  go_ret2
  exact ⟨by rw [HL.out]; rfl, below_drewN HB.out _⟩

set_option maxRecDepth 100000 in
set_option maxHeartbeats 1000000 in
theorem refLength_any (ax ay az : Int) (w : World) (h1 : In64 ax) (h2 : In64 ay) (h3 : In64 az) :
    Calls Try.prog 31 #[vecV ax ay az] w fun e w' => Two w w' (lengthV ax ay az) e := by
  obtain ⟨⟨d, db⟩, hd⟩ : ∃ d, dotV ax ay az ax ay az = d := ⟨_, rfl⟩
  have r_d : In64 d := by have h := dot_range ax ay az ax ay az; rw [hd] at h; exact h
  obtain ⟨⟨q, qb⟩, hq⟩ : ∃ q, froot d = q := ⟨_, rfl⟩
  have HL := Lib.hid (show lengthV ax ay az = (q, db || qb) from by unfold lengthV; simp only [hd, hq])
  have HD := Lib.hid hd
  have HQ := Lib.hid hq
  have H1 := Lib.hid h1
  have H2 := Lib.hid h2
  have H3 := Lib.hid h3
  have HR := Lib.hid r_d
  clear hd hq h1 h2 h3 r_d
  unfold vecV
  have HA := Lib.hid (show Blk (w.alloc (.cells #[.int .i64 ax, .int .i64 ay, .int .i64 az] 37)) w.heap.size 37 #[.int .i64 ax, .int .i64 ay, .int .i64 az] from Blk.new rfl)
  have HB := Lib.hid (show Below w.heap.size w (w.alloc (.cells #[.int .i64 ax, .int .i64 ay, .int .i64 az] 37)) from (Below.refl _ _).alloc (Nat.le_refl _) _)
  go_enter Try.func31, Try.ntmps31
  go_upto_region 1 with fail
  generalize (w.alloc (.cells #[.int .i64 ax, .int .i64 ay, .int .i64 az] 37)) = w1 at *
  go_wp2_with (refine wpList_whole rfl 37 _ rfl w.heap.size rfl HA.out _ Try.underlying37 rfl (by kernel_rfl) ?_)
  refine (refDot_any ax ay az ax ay az w1 H1.out H2.out H3.out H1.out H2.out H3.out).mono ?_
  intro e w2 hc
  rw [HD.out] at hc
  obtain ⟨rfl, hb⟩ := hc
  have HB := Lib.hid (onward HB.out (Nat.le_refl _) hb)
  clear hb
  go_wp2_with fail
  refine (refSqrt_any d w2 HR.out).mono ?_
  rintro e w3 ⟨rfl, hb⟩
  have HB := Lib.hid (onward HB.out (Nat.le_refl _) hb)
  clear hb
  rw [HQ.out]
  cases db <;> cases qb
  all_goals
    go_wp2_with fail
    go_ret2
    exact ⟨by rw [HL.out]; rfl, HB.out⟩
end Go.Proofs.Ytajhkbdaoakogaa.BigW
