/- Contract: slices.Chunk at bytes, by eights: the iterator's. -/
import Derived.Test.YtjfllpmiajkenaaDecF
import Derived.Test.YtjfllpmiajkenaaFence
namespace Go.Proofs.Ytjfllpmiajkenaa.Fc
open Go.RowKit Go.Shelf
set_option linter.unusedVariables false
set_option linter.unusedSimpArgs false
attribute [local go_sem] Oper.semAt_some

/-- what lay below B, but for block g, lies as it lay -/
def But (g B : Nat) (W W' : World) : Prop := W.heap.size ≤ W'.heap.size ∧ ∀ k, k < B → k ≠ g → W'.heap[k]? = W.heap[k]?
theorem But.refl (g B : Nat) (W : World) : But g B W W := ⟨Nat.le_refl _, fun _ _ _ => rfl⟩
theorem But.trans {g B : Nat} {A C D : World} (h : But g B A C) (k : But g B C D) : But g B A D := ⟨Nat.le_trans h.1 k.1, fun i hi hg => (k.2 i hi hg).trans (h.2 i hi hg)⟩
theorem But.cell {g B : Nat} {W W' : World} (h : But g B W W') {p : Addr} (hp : p.block < B) (hg : p.block ≠ g) : W'.cell? p = W.cell? p := by
  have e := h.2 p.block hp hg
  unfold World.cell?
  rw [e]
theorem But.turn {g B : Nat} {w : World} (hn : B ≤ w.heap.size) (W : World) (l : Nat) (o o' : Obj) (hl : w.heap.size ≤ l) (h : W.heap[l]? = some o) (_ : o.isCells = false) (_ : o.isWalk = false) : But g B W (W.putObj l o') :=
  ⟨by have := belowK_b (Nat.le_refl w.heap.size) W l o o' hl h ‹_› ‹_›; exact this.size, fun k hk _ => World.putObj_heap_other (by omega)⟩

theorem take_one {k i : Nat} (h : i < k) : (List.finRange k).take (i + 1) = (List.finRange k).take i ++ [⟨i, h⟩] := by
  rw [List.take_add_one, List.getElem?_eq_getElem (by simpa using h)]
  simp
theorem take_len {k i : Nat} (h : i ≤ k) : ((List.finRange k).take i).length = i := by simp [h]
theorem take_all (k : Nat) : (List.finRange k).take k = List.finRange k := List.take_of_length_le (by simp)
/-- the piece x of the bytes at b from q on -/
abbrev pieceV (b q : Nat) (x : Nat) : Value := .slice (some ⟨b, q + 8 * x, none⟩) 8 8

set_option maxRecDepth 100000 in
set_option maxHeartbeats 4000000 in
theorem chunk1_in (n : Nat) (hn : 1 ≤ n) (l Bs Bn b q k cap g B : Nat) (hk : k ≤ 100) (hcap : 8 * k ≤ cap) (hb : b < B ∧ b ≠ g) (hBs : Bs < B ∧ Bs ≠ g) (hBn : Bn < B ∧ Bn ≠ g) (J Jx : List (Fin k) → World → Prop) (hd : ∀ pre W, J pre W → J pre W.drew)
    (hY : ∀ (pre : List (Fin k)) (x : Fin k) (W : World), J pre W → pre.length < k → YieldAt Fence.wide (n - 1) Try.prog l #[pieceV b q x] W fun e W' =>
      (e = .returned (.bool true) ∧ J (pre ++ [x]) W' ∧ But g B W W') ∨ (e = .returned (.bool false) ∧ Jx (pre ++ [x]) W'))
    (W : World) (cs : W.cell? ⟨Bs, 0, none⟩ = some (.slice (some ⟨b, q, none⟩) (8 * k : Nat) cap)) (cn : W.cell? ⟨Bn, 0, none⟩ = some (.int .i64 8)) (h0 : J [] W) :
    CallsIn Fence.wide n Try.prog 90 #[.func (.yield l) #[] #[], .pointer (some ⟨Bs, 0, none⟩), .pointer (some ⟨Bn, 0, none⟩)] W fun e W' => (∃ v, e = .returned v) ∧
      ((∃ ys, ys = List.finRange k ∧ J ys W') ∨ (∃ pre, (∃ i, i ≤ k ∧ pre = (List.finRange k).take i) ∧ Jx pre W')) := by
  refine callsIn_of_wp Try.func90 rfl trivial ?_ rfl
  simp only [Try.ntmps90, List.size_toArray, List.length_cons, List.length_nil, Nat.reduceAdd, Nat.reduceSub, Array.replicate_succ, Array.replicate_zero, List.push_toArray, List.append_toArray, List.nil_append, List.cons_append]
  gi_wp2
  gi_loopw [4] (fun iv wr => ∃ i : Nat, i ≤ k ∧ iv = .int .i64 (8 * i : Nat) ∧ J ((List.finRange k).take i) wr ∧ But g B W wr)
    (fun iv _ => 8 * k - (intOf iv).toNat)
  case atStart => exact ⟨0, Nat.zero_le _, rfl, h0, But.refl _ _ _⟩
  case round =>
    obtain ⟨i, hi, rfl, hJs, hnx⟩ := hrel
    have cs' := (hnx.cell (p := ⟨Bs, 0, none⟩) hBs.1 hBs.2).trans cs
    have cn' := (hnx.cell (p := ⟨Bn, 0, none⟩) hBn.1 hBn.2).trans cn
    by_cases hlt : i < k
    · obtain ⟨fn, tmps, assign, body, hy, hR⟩ := hY _ ⟨i, hlt⟩ wr.drew (hd _ _ hJs) (by rw [take_len hi]; exact hlt)
      dsimp only [pieceV] at hy
      have hlt' : ((8 * i : Nat) : Int) < ((8 * k : Nat) : Int) := by omega
      have hge : (0 : Int) ≤ ((8 * i : Nat) : Int) := by omega
      have hle : ((8 * i : Nat) : Int) ≤ ((8 * k : Nat) : Int) := by omega
      gi_wp2
      gi_region
      gi_wp2
      refine hR.mono ?_
      rintro e W3 (⟨rfl, hJ3, hk3⟩ | ⟨rfl, hJx3⟩)
      · have cn3 := (hk3.cell (p := ⟨Bn, 0, none⟩) hBn.1 hBn.2).trans cn'
        gi_wp2
        go_roundw
        case rel => exact ⟨i + 1, by omega, by go_num, by rw [take_one hlt]; exact hJ3, hnx.trans (But.trans ⟨Nat.le_refl _, fun _ _ _ => rfl⟩ hk3)⟩
        case measure => simp [intOf]; omega
      · gi_wp2
        refine bodyPost_ret (results_none rfl _ _ _) rfl ?_
        exact ⟨⟨_, rfl⟩, .inr ⟨_, ⟨i + 1, by omega, (take_one hlt).symm⟩, hJx3⟩⟩
    · obtain rfl : i = k := by omega
      gi_wp2
      go_end0
      exact ⟨⟨_, rfl⟩, .inl ⟨_, rfl, by rw [take_all] at hJs; exact hJs⟩⟩

set_option maxHeartbeats 1000000 in
/-- slices.Chunk at eights: the slice and the size are boxed -/
theorem chunk_in (a : Option Addr) (len cap : Nat) (w : World) :
    Calls Try.prog 62 #[.slice a len cap, .int .i64 8] w fun e w' => e = .returned (.func (.func 90) #[] #[.pointer (some ⟨w.heap.size, 0, none⟩), .pointer (some ⟨w.heap.size + 1, 0, none⟩)]) ∧ w' = (w.alloc (.cells #[.slice a len cap] 54)).alloc (.cells #[.int .i64 8] 3) := by
  go_enter Try.func62, Try.ntmps62
  go_wp2_with fail
  go_ret
  exact ⟨by simp, rfl⟩

theorem chunk_stops (n : Nat) (hn : 1 ≤ n) (Bs Bn b q k cap g B : Nat) (hk : k ≤ 100) (hcap : 8 * k ≤ cap) (hb : b < B ∧ b ≠ g) (hBs : Bs < B ∧ Bs ≠ g) (hBn : Bn < B ∧ Bn ≠ g) (w : World) (hB : B ≤ w.heap.size)
    (cs : w.cell? ⟨Bs, 0, none⟩ = some (.slice (some ⟨b, q, none⟩) (8 * k : Nat) cap)) (cn : w.cell? ⟨Bn, 0, none⟩ = some (.int .i64 8)) :
    SeqStopsK Fence.wide n Try.prog 90 #[.pointer (some ⟨Bs, 0, none⟩), .pointer (some ⟨Bn, 0, none⟩)] (fun x : Fin k => #[pieceV b q x]) (But g B) (fun ys => ys = List.finRange k) (fun pre => ∃ i, i ≤ k ∧ pre = (List.finRange k).take i) k w := fun l J Jx W hW hJ _ hY h0 =>
  chunk1_in n hn l Bs Bn b q k cap g B hk hcap hb hBs hBn J Jx (fun pre W h => hJ pre W W.drew none h ⟨rfl, rfl, rfl, Nat.le_refl _, fun _ _ _ => rfl⟩ (fun r e => by cases e)) hY W ((hW.cell (p := ⟨Bs, 0, none⟩) (Nat.lt_of_lt_of_le hBs.1 hB)).trans cs) ((hW.cell (p := ⟨Bn, 0, none⟩) (Nat.lt_of_lt_of_le hBn.1 hB)).trans cn) h0
end Go.Proofs.Ytjfllpmiajkenaa.Fc
