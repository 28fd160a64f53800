/- Contracts: member.Count, member.Good, the reference's Count and GoodRoll. -/
import Derived.Test.YtjfllpmiajkenaaRoll
namespace Go.Proofs.Ytjfllpmiajkenaa.Nd
open Go.RowKit Go.Proofs.Ytjfllpmiajkenaa.Mem Go.Proofs.Ytjfllpmiajkenaa.Rws
set_option linter.unusedVariables false

/-- a roll's cells -/
def rollF (f : Nat → Bool) (m j : Nat → Int) (i : Nat) : Value := if i < 4 then .bool (f i) else if i < 8 then .int .i64 (m (i - 4)) else .int .i64 (j (i - 8))
theorem rollF_in {f : Nat → Bool} {m j : Nat → Int} {k : Nat} (h : k < 4) : rollF f m j k = .bool (f k) := by unfold rollF; rw [if_pos h]
theorem rollF_miss {f : Nat → Bool} {m j : Nat → Int} {k : Nat} (h : k < 4) : rollF f m j (4 + k) = .int .i64 (m k) := by
  unfold rollF; rw [if_neg (by omega), if_pos (by omega), Nat.add_sub_cancel_left]
theorem rollF_join {f : Nat → Bool} {m j : Nat → Int} {k : Nat} (h : k < 4) : rollF f m j (8 + k) = .int .i64 (j k) := by
  unfold rollF; rw [if_neg (by omega), if_neg (by omega), Nat.add_sub_cancel_left]
theorem rollF_one (f : Nat → Bool) (m j : Nat → Int) (i : Nat) : (rollF f m j i).oneCell' = true := by unfold rollF; split; rfl; split <;> rfl

def cntTo (f : Nat → Bool) : Nat → Nat
  | 0 => 0
  | k + 1 => if f k then cntTo f k + 1 else cntTo f k
theorem cntTo_le (f : Nat → Bool) : ∀ k, cntTo f k ≤ k
  | 0 => Nat.le_refl _
  | k + 1 => by have := cntTo_le f k; unfold cntTo; split <;> omega

theorem run_index_row {P : Program} {t : TypeId} {n : Nat} {e : TypeId} (hu : P.underlying t = some (.array n e)) {u : TypeDesc} (he : P.underlying e = some u) (hr : u.isRow = false) (hs : (P.info? e).map (·.size) = some 1) (g : Nat → Value) (k : Nat) (hk : k < n) (w : World) :
    (Instr.index t (.agg (row n g)) (.int .i64 (k : Int))).run P w = .ok (g k) w := by
  have hp := Flat.run_part_one he hr (row n g) (k * 1) (g k) (by rw [Nat.mul_one]; exact row_at hk) w
  obtain ⟨i, hi, hz⟩ := Option.map_eq_some_iff.1 hs
  have h0 : 0 ≤ (k : Int) ∧ (k : Int) < (n : Int) := by omega
  unfold Instr.index
  simp only [Sem.run_bind, asIntOf, Sem.run_pure, Result.andThen_ok, run_underlying hu, h0, and_self, if_true, sizeOf, typeInfo, run_program, hi, hz, Int.toNat_natCast, hp]

set_option maxRecDepth 100000 in
set_option maxHeartbeats 1000000 in
theorem count_any (f : Nat → Bool) (m j : Nat → Int) (w : World) : Calls Try.prog 100 #[.agg (row 12 (rollF f m j))] w fun e w' => e = .returned (.int .i64 (cntTo f 4)) ∧ Below w.heap.size w w' := by
  have b : Blk (w.alloc (.cells (row 12 (rollF f m j)) 30)) w.heap.size 30 (row 12 (rollF f m j)) := Blk.new rfl
  have hix : ∀ k : Nat, k < 4 → ∀ w, (Instr.index 27 (.agg (row 4 fun i => rollF f m j i)) (.int .i64 (k : Int))).run Try.prog w = .ok (.bool (f k)) w := fun k hk w => by
    rw [run_index_row Try.underlying27 Try.underlying4 rfl (by kernel_rfl) _ k hk, rollF_in hk]
  have Hix := Lib.hid hix
  clear hix
  go_enter Try.func100, Try.ntmps100
  go_wp2_with (refine wpList_mid rfl 27 _ rfl w.heap.size 0 4 rfl b (by omega) _ Try.underlying27 rfl (by kernel_rfl) ?_)
  clear b
  go_loop [3, 8] (fun n i => ∃ k : Nat, k ≤ 4 ∧ i = .int .i64 k ∧ n = .int .i64 (cntTo f k)) (fun _ i => 4 - (intOf i).toNat)
  case atStart => exact ⟨0, by omega, rfl, rfl⟩
  case round =>
    obtain ⟨k, hk, rfl, rfl⟩ := hrel
    have hc := cntTo_le f k
    by_cases hlt : k < 4
    · have hx := Hix.out k hlt
      cases hf : f k
      · have HS := Lib.hid (show cntTo f (k + 1) = cntTo f k by rw [cntTo, hf]; rfl)
        rw [hf] at hx
        clear hf
        go_wp2_with fail
        go_round
        case rel => exact ⟨k + 1, by omega, by go_num, by rw [HS.out]⟩
        case measure => simp [intOf]; omega
      · have HS := Lib.hid (show cntTo f (k + 1) = cntTo f k + 1 by rw [cntTo, hf]; rfl)
        rw [hf] at hx
        clear hf
        go_wp2_with fail
        go_round
        case rel => exact ⟨k + 1, by omega, by go_num, by rw [HS.out]; go_num⟩
        case measure => simp [intOf]; omega
    · obtain rfl : k = 4 := by omega
      clear hlt
      go_wp2_with fail
      go_ret
      exact ⟨rfl, (Below.refl _ _).alloc (Nat.le_refl _) _⟩

set_option maxRecDepth 100000 in
set_option maxHeartbeats 1000000 in
theorem refcount_any (f : Nat → Bool) (m j : Nat → Int) (w : World) : Calls Try.prog 86 #[.agg (row 12 (rollF f m j))] w fun e w' => e = .returned (.int .i64 (cntTo f 4)) ∧ Below w.heap.size w w' := by
  have b : Blk (w.alloc (.cells (row 12 (rollF f m j)) 30)) w.heap.size 30 (row 12 (rollF f m j)) := Blk.new rfl
  have HB := Lib.hid b
  clear b
  go_enter Try.func86, Try.ntmps86
  go_wp2_with fail
  go_loop [3, 4] (fun n i => ∃ k : Nat, k ≤ 4 ∧ i = .int .i64 k ∧ n = .int .i64 (cntTo f k)) (fun _ i => 4 - (intOf i).toNat)
  case atStart => exact ⟨0, by omega, rfl, rfl⟩
  case round =>
    obtain ⟨k, hk, rfl, rfl⟩ := hrel
    have hc := cntTo_le f k
    by_cases hlt : k < 4
    · have hx := HB.out.cell k
      rw [row_at (by omega), rollF_in hlt] at hx
      cases hf : f k
      · have HS := Lib.hid (show cntTo f (k + 1) = cntTo f k by rw [cntTo, hf]; rfl)
        rw [hf] at hx
        clear hf
        go_wp2_with fail
        go_round
        case rel => exact ⟨k + 1, by omega, by go_num, by rw [HS.out]⟩
        case measure => simp [intOf]; omega
      · have HS := Lib.hid (show cntTo f (k + 1) = cntTo f k + 1 by rw [cntTo, hf]; rfl)
        rw [hf] at hx
        clear hf
        go_wp2_with fail
        go_round
        case rel => exact ⟨k + 1, by omega, by go_num, by rw [HS.out]; go_num⟩
        case measure => simp [intOf]; omega
    · obtain rfl : k = 4 := by omega
      clear hlt
      go_wp2_with fail
      go_ret
      exact ⟨rfl, (Below.refl _ _).alloc (Nat.le_refl _) _⟩

def okAt (f : Nat → Bool) (m j : Nat → Int) (k : Nat) : Bool := bif f k then decide (0 ≤ m k) && decide (m k ≤ 2) && decide (j k = 0) else decide (m k = 0) && decide (0 ≤ j k) && decide (j k < 3)
def okTo (f : Nat → Bool) (m j : Nat → Int) : Nat → Bool
  | 0 => true
  | k + 1 => okTo f m j k && okAt f m j k
theorem okTo_bad {f : Nat → Bool} {m j : Nat → Int} {k : Nat} (hb : okAt f m j k = false) : ∀ {n : Nat}, k < n → okTo f m j n = false
  | 0, h => absurd h (by omega)
  | n + 1, h => by
    unfold okTo
    by_cases e : k = n
    · subst e; rw [hb, Bool.and_false]
    · rw [okTo_bad hb (by omega), Bool.false_and]

def okP (p : Bool) (q r : Int) : Bool := bif p then decide (0 ≤ q) && decide (q ≤ 2) && decide (r = 0) else decide (q = 0) && decide (0 ≤ r) && decide (r < 3)
theorem okAt_is {f : Nat → Bool} {m j : Nat → Int} {k : Nat} {p : Bool} {q r : Int} (hp : f k = p) (hq : m k = q) (hr : j k = r) : okAt f m j k = okP p q r := by
  subst hp; subst hq; subst hr; rfl
theorem okTo_on {f : Nat → Bool} {m j : Nat → Int} {k : Nat} {p : Bool} {q r : Int} (h : okTo f m j k = true) (hp : f k = p) (hq : m k = q) (hr : j k = r) (ho : okP p q r = true) : okTo f m j (k + 1) = true := by
  unfold okTo; rw [h, okAt_is hp hq hr, ho]; rfl
theorem okTo_off {f : Nat → Bool} {m j : Nat → Int} {k : Nat} {p : Bool} {q r : Int} (hk : k < 4) (hp : f k = p) (hq : m k = q) (hr : j k = r) (ho : okP p q r = false) : okTo f m j 4 = false :=
  okTo_bad ((okAt_is hp hq hr).trans ho) hk
theorem okP_in {q r : Int} : okP true q r = (decide (0 ≤ q) && decide (q ≤ 2) && decide (r = 0)) := rfl
theorem okP_out {q r : Int} : okP false q r = (decide (q = 0) && decide (0 ≤ r) && decide (r < 3)) := rfl


set_option maxRecDepth 100000 in
set_option maxHeartbeats 4000000 in
theorem refgood_any (f : Nat → Bool) (m j : Nat → Int) (w : World) : Calls Try.prog 85 #[.agg (row 12 (rollF f m j))] w fun e w' => e = .returned (.bool (okTo f m j 4)) ∧ Below w.heap.size w w' := by
  have b : Blk (w.alloc (.cells (row 12 (rollF f m j)) 30)) w.heap.size 30 (row 12 (rollF f m j)) := Blk.new rfl
  have HB := Lib.hid b
  clear b
  go_enter Try.func85, Try.ntmps85
  go_wp2_with fail
  go_loop [3] (fun i => ∃ k : Nat, k ≤ 4 ∧ i = .int .i64 k ∧ okTo f m j k = true) (fun i => 4 - (intOf i).toNat)
  case atStart => exact ⟨0, by omega, rfl, rfl⟩
  case round =>
    obtain ⟨k, hk, rfl, hok⟩ := hrel
    have HK := Lib.hid hok
    clear hok
    by_cases hlt : k < 4
    · have hx := HB.out.cell k
      have hy := HB.out.cell (4 + k)
      have hz := HB.out.cell (8 + k)
      rw [row_at (by omega), rollF_in hlt] at hx
      rw [row_at (by omega), rollF_miss hlt] at hy
      rw [row_at (by omega), rollF_join hlt] at hz
      generalize hp : f k = p at hx
      generalize hq : m k = q at hy
      generalize hr : j k = r at hz
      have HP := Lib.hid hp
      have HQ := Lib.hid hq
      have HR := Lib.hid hr
      clear hp hq hr
      cases p
      all_goals go_wp2_with fail
      all_goals first
        | (refine ⟨⟨k + 1, by omega, by go_num, okTo_on HK.out HP.out HQ.out HR.out ?_⟩, by simp [intOf]; omega⟩
           first | rw [okP_in] | rw [okP_out]
           simp only [Bool.and_eq_true, decide_eq_true_eq]; omega)
        | (go_ret
           refine ⟨ret_bool (Eq.symm (okTo_off hlt HP.out HQ.out HR.out ?_)), (Below.refl _ _).alloc (Nat.le_refl _) _⟩
           first | rw [okP_in] | rw [okP_out]
           rw [Bool.eq_false_iff]
           intro hh
           simp only [Bool.and_eq_true, decide_eq_true_eq] at hh
           omega)
    · obtain rfl : k = 4 := by omega
      clear hlt
      go_wp2_with fail
      go_ret
      exact ⟨by rw [HK.out]; rfl, (Below.refl _ _).alloc (Nat.le_refl _) _⟩

set_option maxRecDepth 100000 in
set_option maxHeartbeats 4000000 in
theorem good_any (f : Nat → Bool) (m j : Nat → Int) (w : World) : Calls Try.prog 80 #[.agg (row 12 (rollF f m j))] w fun e w' => e = .returned (.bool (okTo f m j 4)) ∧ Below w.heap.size w w' := by
  have b : Blk (w.alloc (.cells (row 12 (rollF f m j)) 30)) w.heap.size 30 (row 12 (rollF f m j)) := Blk.new rfl
  have HB := Lib.hid b
  clear b
  go_enter Try.func80, Try.ntmps80
  go_wp2_with fail
  go_loop [4] (fun i => ∃ k : Nat, k ≤ 4 ∧ i = .int .i64 k ∧ okTo f m j k = true) (fun i => 4 - (intOf i).toNat)
  case atStart => exact ⟨0, by omega, rfl, rfl⟩
  case round =>
    obtain ⟨k, hk, rfl, hok⟩ := hrel
    have HK := Lib.hid hok
    clear hok
    by_cases hlt : k < 4
    · have hx := HB.out.cell k
      have hy := HB.out.cell (4 + k)
      have hz := HB.out.cell (8 + k)
      rw [row_at (by omega), rollF_in hlt] at hx
      rw [row_at (by omega), rollF_miss hlt] at hy
      rw [row_at (by omega), rollF_join hlt] at hz
      generalize hp : f k = p at hx
      generalize hq : m k = q at hy
      generalize hr : j k = r at hz
      have HP := Lib.hid hp
      have HQ := Lib.hid hq
      have HR := Lib.hid hr
      clear hp hq hr
      cases p
      all_goals go_wp2_with fail
      all_goals first
        | (refine ⟨⟨k + 1, by omega, by go_num, okTo_on HK.out HP.out HQ.out HR.out ?_⟩, by simp [intOf]; omega⟩
           first | rw [okP_in] | rw [okP_out]
           simp only [Bool.and_eq_true, decide_eq_true_eq]; omega)
        | (go_ret
           refine ⟨ret_bool (Eq.symm (okTo_off hlt HP.out HQ.out HR.out ?_)), (Below.refl _ _).alloc (Nat.le_refl _) _⟩
           first | rw [okP_in] | rw [okP_out]
           rw [Bool.eq_false_iff]
           intro hh
           simp only [Bool.and_eq_true, decide_eq_true_eq] at hh
           omega)
    · obtain rfl : k = 4 := by omega
      clear hlt
      go_wp2_with fail
      go_ret
      exact ⟨by rw [HK.out]; rfl, (Below.refl _ _).alloc (Nat.le_refl _) _⟩
end Go.Proofs.Ytjfllpmiajkenaa.Nd
