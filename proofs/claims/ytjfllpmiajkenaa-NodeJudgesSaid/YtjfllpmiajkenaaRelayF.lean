/- P12.3, plainly: what Relay makes of a computer's cells; a law at copy. -/
import Derived.Test.YtjfllpmiajkenaaPassF
import Derived.Test.YtjfllpmiajkenaaNodeMR
import Derived.Laws.CopyOwn
namespace Go.Proofs.Ytjfllpmiajkenaa.Nd
open Go.RowKit Go.Proofs.Ytjfllpmiajkenaa.Mem Go.Proofs.Ytjfllpmiajkenaa.Rws Go.Proofs.Ytjfllpmiajkenaa.Flat
set_option linter.unusedVariables false

def rz (zs : List Int) (j : Nat) : Value := .int .i64 (zs.getD j 0)
/-- what k nodes read laid in -/
def relayK (f : Nat → Value) (rv : Nat → Option (List Int)) (k i : Nat) : Value := if 39 ≤ i ∧ i < 39 + k * 3 then (match rv ((i - 39) / 3) with | some zs => rz zs ((i - 39) % 3) | none => f i) else f i
theorem relayK_zero (f : Nat → Value) (rv : Nat → Option (List Int)) (S : Value) : row 74 (nodeW (relayK f rv 0) S) = row 74 (nodeW f S) := row_congr fun i hi => by
  unfold nodeW relayK
  rw [if_neg (show ¬ (39 ≤ i ∧ i < 39 + 0 * 3) by omega)]
theorem relayK_none (f : Nat → Value) (rv : Nat → Option (List Int)) (k : Nat) (S : Value) (h : rv k = none) : row 74 (nodeW (relayK f rv (k + 1)) S) = row 74 (nodeW (relayK f rv k) S) := row_congr fun i hi => by
  unfold nodeW relayK
  by_cases h1 : 39 ≤ i ∧ i < 39 + k * 3
  · rw [if_pos h1, if_pos (show 39 ≤ i ∧ i < 39 + (k + 1) * 3 by omega)]
  · by_cases h2 : 39 ≤ i ∧ i < 39 + (k + 1) * 3
    · rw [if_neg h1, if_pos h2, show (i - 39) / 3 = k by omega, h]
    · rw [if_neg h1, if_neg h2]
theorem relayK_some (f : Nat → Value) (rv : Nat → Option (List Int)) (k : Nat) (hk : k < 4) (S : Value) {zs : List Int} (h : rv k = some zs) : row 74 (over (39 + k * 3) 3 (rz zs) (nodeW (relayK f rv k) S)) = row 74 (nodeW (relayK f rv (k + 1)) S) := row_congr fun i hi => by
  by_cases h1 : 39 + k * 3 ≤ i ∧ i < 39 + k * 3 + 3
  · rw [over_in h1.1 h1.2]
    unfold nodeW relayK
    rw [if_neg (show ¬ (i = 73) by omega), if_pos (show 39 ≤ i ∧ i < 39 + (k + 1) * 3 by omega), show (i - 39) / 3 = k by omega, h, show i - (39 + k * 3) = (i - 39) % 3 by omega]
  · rw [over_out (by omega)]
    unfold nodeW relayK
    by_cases h2 : 39 ≤ i ∧ i < 39 + k * 3
    · rw [if_pos h2, if_pos (show 39 ≤ i ∧ i < 39 + (k + 1) * 3 by omega)]
    · rw [if_neg h2, if_neg (show ¬ (39 ≤ i ∧ i < 39 + (k + 1) * 3) by omega)]
theorem relayK_low (f : Nat → Value) (rv : Nat → Option (List Int)) (k i : Nat) (h : i < 39) : relayK f rv k i = f i := if_neg (by omega)
theorem ok_relay {f : Nat → Value} (hf : ∀ i, i < 73 → okT (nodeT i) (f i)) (rv : Nat → Option (List Int)) (k : Nat) (hk : k ≤ 4) : ∀ i, i < 73 → okT (nodeT i) (relayK f rv k i) := fun i hi => by
  unfold relayK
  by_cases h1 : 39 ≤ i ∧ i < 39 + k * 3
  · rw [if_pos h1]
    have e : nodeT i = true := by
      obtain ⟨a, b⟩ := h1
      unfold nodeT
      simp
      omega
    cases rv ((i - 39) / 3) with
    | some z => rw [e]; exact ⟨_, rfl⟩
    | none => exact hf i hi
  · rw [if_neg h1]; exact hf i hi

/-- the twelve numbers read -/
def dvs (f : Nat → Value) : List Int := (List.range 12).map fun j => iv (f (39 + j))
theorem dvs_row {f : Nat → Value} (hf : ∀ i, i < 73 → okT (nodeT i) (f i)) : ((List.range 12).map fun j => f (39 + j)) = Ms.intsV (dvs f) := by
  unfold Ms.intsV dvs
  rw [List.map_map]
  refine List.map_congr_left fun j hj => ?_
  have hj := List.mem_range.1 hj
  have e : nodeT (39 + j) = true := by unfold nodeT; simp; omega
  have := hf (39 + j) (by omega)
  rw [e] at this
  exact iv_of this
/-- what node i told that it read -/
def relayV (id fr : Int) (ms : List Ms.Msg) (i : Nat) : Option (List Int) := (Ms.firstOf id fr 1 3 (i : Int) ms).map fun m => m.zs

theorem wpList_copy_cells {P : Program} {w : World} {ops : Array Oper} {rest : List Oper} {o : Oper} {a : Act} {Q : Exit → Act → World → Prop} (hgd : o.guard = none) (d s : Operand) (dT sT : TypeId)
    (ho : o.op = .call { callee := .builtin .copy, args := #[d, s], argTypes := #[dT, sT] }) (elem : TypeId) (hu : P.underlying dT = some (.slice elem)) (hsz : (P.info? elem).map (·.size) = some 1)
    (b off dLen dCap : Nat) (ad : Addr) (sLen sCap : Nat) (hd : a.eval d = .slice (some ⟨b, off, none⟩) dLen dCap) (hs : a.eval s = .slice (some ad) sLen sCap)
    (cs : List Value) (hn : cs.length = Nat.min sLen dLen) (hsrc : ∀ j v, cs[j]? = some v → w.cell? (ad.add j) = some v)
    (hc : ∀ j, j < cs.length → (w.cell? ⟨b, off + j, none⟩).isSome = true) (hf : ∀ j, j < cs.length → w.frozen? ⟨b, off + j, none⟩ = false) (h1 : ∀ v ∈ cs, v.oneCell' = true)
    (h : wpList P ops Q rest (a.put o.dst (goInt cs.length)) (w.setCells b off cs)) : wpList P ops Q (o :: rest) a w := by
  refine wpList_plain hgd fun K hK => ?_
  have hrun := run_copy_cells (P := P) w dT sT o.type elem b off dLen dCap ad sLen sCap cs hu hsz hn hsrc hc hf h1
  unfold Oper.wp
  simp [execOp, ho, resolve, invoke, builtin, hd, hs, hrun, Result.andThen]
  exact hK _ _ h

theorem own_blk {w : World} {base : Nat} {e : TypeId} {size n B : Nat} {v : Value} {xs : List Value} (h : w.ownsRow base e size v n xs) (hB : B + 1 + 1 < base) : ∀ g, g ≤ B + 1 + 1 → some g ≠ v.ownBlock := fun g hg e => by
  have := (h.lt g e.symm).1
  omega
theorem range3 (F : Nat → Value) (n : Nat) : (List.range (n + 3)).map F = (List.range n).map F ++ (List.range 3).map fun a => F (n + a) := by
  simp [List.range_succ]
theorem run_index_direct (F : Nat → Value) (k : Nat) (hk : k < 4) (w : World) : (Instr.index 32 (.agg (row 12 F)) (.int .i64 (k : Int))).run Try.prog w = .ok (.agg (row 3 fun a => F (k * 3 + a))) w := by
  obtain rfl | rfl | rfl | rfl : k = 0 ∨ k = 1 ∨ k = 2 ∨ k = 3 := by omega
  all_goals kernel_rfl
end Go.Proofs.Ytjfllpmiajkenaa.Nd
