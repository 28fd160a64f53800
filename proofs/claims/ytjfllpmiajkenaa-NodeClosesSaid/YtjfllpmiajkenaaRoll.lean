/- Contracts: member.Begin, the reference's BeginRoll, filter.Begin, BeginState, SameVerdict. -/
import Derived.Test.YtjfllpmiajkenaaRws
import Derived.Test.YtjfllpmiajkenaaProg
import Derived.WalkSpells
import Derived.WalkLawsBesides
import Derived.Deep.RegionHeld3
import Derived.Deep.QuietTactic
import Derived.BigQuiet
namespace Go.Proofs.Ytjfllpmiajkenaa.Nd
open Go.RowKit Go.Proofs.Ytjfllpmiajkenaa.Mem Go.Proofs.Ytjfllpmiajkenaa.Rws
set_option linter.unusedVariables false

def roll0 (i : Nat) : Value := if i < 4 then .bool true else .int .i64 0
def rollK (k i : Nat) : Value := if i < 4 then .bool (decide (i < k)) else .int .i64 0
def state0 (i : Nat) : Value := if i = 2 then .int .i64 4294967296 else if i = 4 then .int .i64 4294967296 else if i = 5 then .bool false else .int .i64 0

set_option maxRecDepth 100000 in
theorem roll_any (w : World) : Calls Try.prog 75 #[] w fun e w' => e = .returned (.agg (row 12 roll0)) ∧ Below w.heap.size w w' := by
  go_enter Try.func75, Try.ntmps75
  go_wp2_with fail
  go_loopw [3] (fun i wr => ∃ k : Nat, k ≤ 4 ∧ i = .int .i64 k ∧ Blk wr w.heap.size 30 (row 12 (rollK 0)) ∧ Blk wr (w.heap.size + 1) 30 (row 12 (rollK k)) ∧ Below w.heap.size w wr) (fun i _ => 4 - (intOf i).toNat)
  case atStart => exact ⟨0, by omega, rfl, (Blk.new rfl).alloc _, Blk.new (by simp), ((Below.refl _ _).alloc (Nat.le_refl _) _).alloc (by simp) _⟩
  case round =>
    obtain ⟨k, hk, rfl, b0, b1, hb⟩ := hrel
    by_cases hlt : k < 4
    · have c1 := b1.cell k
      have f1 := b1.thaw k
      rw [row_at (by omega), show rollK k k = .bool (decide (k < k)) by unfold rollK; rw [if_pos hlt]] at c1
      go_wp2_with fail
      refine ⟨⟨k + 1, by omega, by go_num, b0.other (by simp) _, ?_, hb.setCell (by simp) _⟩, by simp [intOf]; omega⟩
      have := b1.set k (.bool true)
      rw [row_set, row_congr (g := rollK (k + 1)) (fun i hi => ?_)] at this
      · exact this
      · unfold rollK
        by_cases e : i = k
        · subst e; rw [if_pos rfl, if_pos hlt]; simp
        · rw [if_neg e]
          by_cases h4 : i < 4
          · rw [if_pos h4, if_pos h4]; congr 1; simp; omega
          · rw [if_neg h4, if_neg h4]
    · obtain rfl : k = 4 := by omega
      clear hlt
      go_wp2_with (first
        | (refine wpList_whole rfl 30 _ rfl (w.heap.size + 1) rfl b1 _ Try.underlying30 rfl (by rw [row_size]; kernel_rfl) ?_)
        | (refine wpList_store_row rfl 30 _ _ rfl w.heap.size (row 12 (rollK 4)) rfl rfl 30 _ b0 (by rw [row_size]; kernel_rfl) (by rw [row_size, row_size]) (row_one fun i hi => by unfold rollK; split <;> rfl) ?_))
      refine ret_row rfl rfl (b0.setRow _) Try.underlying30 rfl (by rw [row_size]; kernel_rfl) rfl ⟨?_, below_setRow hb (Nat.le_refl _) _⟩
      rw [row_congr (f := rollK 4) (g := roll0) (fun i hi => by unfold rollK roll0; split <;> simp [*])]

theorem refroll_any (w : World) : Calls Try.prog 77 #[] w fun e w' => e = .returned (.agg (row 12 roll0)) ∧ Below w.heap.size w w' := by
  go_enter Try.func77, Try.ntmps77
  go_wp2
  refine bodyPost_ret (v := .agg (row 12 roll0)) (by simp [results, Try.results77, go_sem]; rfl) rfl ⟨rfl, ?_⟩
  exact (Below.refl _ _).alloc (Nat.le_refl _) _
end Go.Proofs.Ytjfllpmiajkenaa.Nd
