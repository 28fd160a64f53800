/- A computer's cells at first. -/
import Derived.Test.YtjfllpmiajkenaaRoll
import Derived.Test.YtjfllpmiajkenaaRegR
import Derived.Test.YtjfllpmiajkenaaRes
namespace Go.Proofs.Ytjfllpmiajkenaa.Nd
open Go.RowKit Go.Proofs.Ytjfllpmiajkenaa.Mem Go.Proofs.Ytjfllpmiajkenaa.Rws
set_option linter.unusedVariables false

/-- of the three axes' cells: k are laid -/
def axK (k j : Nat) : Value := if j / 7 < k then state0 (j % 7) else if j % 7 = 5 then .bool false else .int .i64 0
def nodeU (id t0 t1 t2 t3 : Int) (i : Nat) : Value :=
  if i = 0 then .int .i64 id else if i = 2 then .int .i64 t0 else if i = 3 then .int .i64 t1 else if i = 4 then .int .i64 t2 else if i = 5 then .int .i64 t3
  else if i = 72 then .bool false else if i = 73 then .slice none 0 0 else .int .i64 0
/-- a computer at first, of which k axes are laid -/
def nodeK (id t0 t1 t2 t3 : Int) (k i : Nat) : Value :=
  if 6 ≤ i ∧ i < 27 then axK k (i - 6) else if 27 ≤ i ∧ i < 39 then roll0 (i - 27) else nodeU id t0 t1 t2 t3 i
/-- no computer -/
def node0 (i : Nat) : Value := if i = 11 ∨ i = 18 ∨ i = 25 ∨ i = 27 ∨ i = 28 ∨ i = 29 ∨ i = 30 ∨ i = 72 then .bool false else if i = 73 then .slice none 0 0 else .int .i64 0

theorem begin_any (w : World) : Calls Try.prog 76 #[.int .i64 0] w fun e w' => e = .returned (.agg (row 7 state0)) ∧ Below w.heap.size w w' := by
  go_enter Try.func76, Try.ntmps76
  go_wp2
  refine bodyPost_ret (v := .agg (row 7 state0)) (by simp [results, Try.results76, go_sem]; rfl) rfl ⟨rfl, ?_⟩
  exact (Below.refl _ _).alloc (Nat.le_refl _) _
theorem refbegin_any (w : World) : Calls Try.prog 78 #[.int .i64 0] w fun e w' => e = .returned (.agg (row 7 state0)) ∧ Below w.heap.size w w' := by
  go_enter Try.func78, Try.ntmps78
  go_wp2
  refine bodyPost_ret (v := .agg (row 7 state0)) (by simp [results, Try.results78, go_sem]; rfl) rfl ⟨rfl, ?_⟩
  exact ((Below.refl _ _).alloc (Nat.le_refl _) _).alloc (by simp) _

set_option maxRecDepth 100000 in
theorem zero_node : Try.zeroCells37 = row 74 node0 := by kernel_rfl

set_option maxRecDepth 100000 in
theorem built_node (id t0 t1 t2 t3 : Int) : Array.foldl (fun cs x => cs.setIfInBounds (27 + x.snd) x.fst)
                (((((Try.zeroCells37.setIfInBounds 0 (Value.int IntKind.i64 id)).setIfInBounds 2
                              (Value.int IntKind.i64 t0)).setIfInBounds
                          3 (Value.int IntKind.i64 t1)).setIfInBounds
                      4 (Value.int IntKind.i64 t2)).setIfInBounds
                  5 (Value.int IntKind.i64 t3))
                (row 12 roll0).zipIdx 0 12 = row 74 (nodeK id t0 t1 t2 t3 0) := by kernel_rfl

theorem state0_one (i : Nat) : (state0 i).oneCell' = true := by unfold state0; (repeat' split) <;> rfl
theorem roll0_one (i : Nat) : (roll0 i).oneCell' = true := by unfold roll0; split <;> rfl
theorem axK_one (k i : Nat) : (axK k i).oneCell' = true := by
  unfold axK
  split
  · exact state0_one _
  · split <;> rfl
theorem nodeU_one (id t0 t1 t2 t3 : Int) (i : Nat) : (nodeU id t0 t1 t2 t3 i).oneCell' = true := by unfold nodeU; (repeat' split) <;> rfl
theorem nodeK_one (id t0 t1 t2 t3 : Int) (k i : Nat) : (nodeK id t0 t1 t2 t3 k i).oneCell' = true := by
  unfold nodeK
  split
  · exact axK_one _ _
  · split
    · exact roll0_one _
    · exact nodeU_one _ _ _ _ _ _
theorem nodeK_succ (id t0 t1 t2 t3 : Int) (k : Nat) (hk : k < 3) (i : Nat) : over (6 + k * 7) 7 state0 (nodeK id t0 t1 t2 t3 k) i = nodeK id t0 t1 t2 t3 (k + 1) i := by
  by_cases h : 6 + k * 7 ≤ i ∧ i < 6 + k * 7 + 7
  · rw [over_in h.1 h.2]
    unfold nodeK axK
    rw [if_pos (by omega), if_pos (by omega)]
    congr 1
    omega
  · rw [over_out (by omega)]
    unfold nodeK
    by_cases h6 : 6 ≤ i ∧ i < 27
    · rw [if_pos h6, if_pos h6]
      unfold axK
      by_cases h7 : (i - 6) / 7 < k
      · rw [if_pos h7, if_pos (by omega)]
      · rw [if_neg h7, if_neg (show ¬ (i - 6) / 7 < k + 1 by omega)]
    · rw [if_neg h6, if_neg h6]

theorem below_undrew {B : Nat} {w w' : World} (h : Below B w.drew w') : Below B w w' := ⟨h.os, h.tape, h.output, h.size, h.block⟩
/-- a variable laid behind a call, or ahead of it -/
theorem meetA {W0 w1 : World} {r : Nat} {t : TypeId} {cs Z R : Array Value} (hb : Below W0.drew.heap.size W0.drew w1) (hr : Blk W0 r t cs) :
    Blk ((w1.alloc (.cells Z t)).setRow w1.heap.size R) w1.heap.size t R ∧ Blk ((w1.alloc (.cells Z t)).setRow w1.heap.size R) r t cs ∧ Below W0.heap.size W0 ((w1.alloc (.cells Z t)).setRow w1.heap.size R) ∧ W0.heap.size ≤ w1.heap.size := by
  have hb' : Below W0.heap.size W0 w1 := below_undrew hb
  have hs := hb'.size
  have hl := hr.lt
  exact ⟨(Blk.fresh w1 t Z).setRow R, ((hr.below hb' hr.lt).alloc _).setRow_other (by omega) R, below_setRow (hb'.alloc hs _) hs _, hs⟩
theorem meetB {W0 w1 : World} {r : Nat} {t : TypeId} {cs Z R : Array Value} (hb : Below (W0.alloc (.cells Z t)).drew.heap.size (W0.alloc (.cells Z t)).drew w1) (hr : Blk W0 r t cs) :
    Blk (w1.setRow W0.heap.size R) W0.heap.size t R ∧ Blk (w1.setRow W0.heap.size R) r t cs ∧ Below W0.heap.size W0 (w1.setRow W0.heap.size R) := by
  have hb' : Below (W0.alloc (.cells Z t)).heap.size (W0.alloc (.cells Z t)) w1 := below_undrew hb
  have hl := hr.lt
  refine ⟨((Blk.fresh W0 t Z).below hb' (by simp)).setRow R, ((hr.alloc _).below hb' (by simp; omega)).setRow_other (by omega) R, below_setRow (((Below.refl _ _).alloc (Nat.le_refl _) _).trans (hb'.mono (by simp))) (Nat.le_refl _) _⟩

end Go.Proofs.Ytjfllpmiajkenaa.Nd
