/- Bytes with their sum behind, plainly; make with room. -/
import Derived.Test.YtjfllpmiajkenaaSumOf
import Derived.Deep.RegionHeld3
namespace Go.Proofs.Ytjfllpmiajkenaa.Sm
open Go.ChangeShapes Go.WideShapes Go.ChangeAt Go.RowKit Go.Proofs.Ytjfllpmiajkenaa.Mem Go.Proofs.Ytjfllpmiajkenaa.SumLaw
set_option linter.unusedVariables false

/-- P5.2: the bytes of a sum, the lowest first -/
def tailTo (s k : Nat) : List Nat := (List.range k).map fun i => s / 256 ^ i % 256
def sealed (bs : List Nat) : List Nat := bs ++ tailTo (more 0 bs).toNat 4
theorem tailTo_succ (s k : Nat) : tailTo s (k + 1) = tailTo s k ++ [s / 256 ^ k % 256] := by
  simp [tailTo, List.range_succ]
theorem tailTo_four (s : Nat) : tailTo s 4 = [s % 256, s / 256 % 256, s / 65536 % 256, s / 16777216 % 256] := by simp [tailTo, List.range_succ]
theorem tailTo_length (s k : Nat) : (tailTo s k).length = k := by simp [tailTo]
theorem bytesV_append (a b : List Nat) : bytesV (a ++ b) = bytesV a ++ bytesV b := by simp [bytesV]
theorem bytesV_length (a : List Nat) : (bytesV a).length = a.length := by simp [bytesV]
theorem more_nat (bs : List Nat) (h : ∀ x ∈ bs, x < 256) : ∃ s : Nat, more 0 bs = (s : Int) ∧ s < 4294967296 := by
  have := over_lt bs (4294967295 - ((0 : Int) % 4294967296).toNat) (by omega) h
  unfold more
  exact ⟨4294967295 - over byteT (4294967295 - ((0 : Int) % 4294967296).toNat) bs, by omega, by omega⟩

theorem rd_one (w : World) (v : Value) (e : TypeId) : Rd (w.alloc (.cells #[v] e)) (w.heap.size + 1) 1 (some ⟨w.heap.size, 0, none⟩) 1 [v] := rd_alloc w #[v] e (0, 0)

/-- 'make([]T, 0, n)': a row of the call's own, none of it taken yet. -/
theorem wpList_make_cap {P : Program} {w : World} {ops : Array Oper} {rest : List Oper} {o : Oper} {a : Act} {Q : Exit → Act → World → Prop}
    (hg : o.guard = none) (l c : Operand) (t : TypeId) (hop : o.op = Op.makeSlice t l c) {e : TypeId} {z : Value} {size bytes : Nat} (E : Elem P t e z size bytes)
    {kl kc : IntKind} {L C : Int} (n : Nat) (hl : a.eval l = .int kl L) (hc : a.eval c = .int kc C) (hL : L = 0) (hC : C = (n : Int)) (hb : bytes * n ≤ 281474976710656) (hn : n ≤ maxLen) {base : Nat} (hbase : base ≤ w.heap.size)
    (h : ∀ w1, w1.ownsRow base e size (.slice (some ⟨w.heap.size, 0, none⟩) 0 n) 0 [] → w.grownBy w1 none → wpList P ops Q rest (a.put o.dst (.slice (some ⟨w.heap.size, 0, none⟩) 0 n)) w1) : wpList P ops Q (o :: rest) a w := by
  obtain ⟨i, hi, hz0, hz1, hz2⟩ := info_parts E.info
  subst hz2
  have hb' : (i.bytes : Int) * (n : Int) ≤ 281474976710656 := by
    have h : ((i.bytes * n : Nat) : Int) ≤ 281474976710656 := by omega
    rwa [Int.natCast_mul] at h
  unfold maxLen at hn
  have hr := run_make (P := P) w t e i z E.und hi hz0 kl kc 0 n (by omega) (by omega) hb' (by omega)
  refine wpList_plain hg fun K hK => ?_
  subst hL
  subst hC
  simp only [Int.toNat_natCast, Int.toNat_zero, hz1] at hr
  unfold Oper.wp
  simp only [execOp, hop, hl, hc, hr, Result.andThen_ok, Sem.run_bind, Sem.run_pure]
  refine hK _ _ (h _ (World.ownsRow_made w _ n hbase (by unfold maxLen; omega) ?_) ?_)
  · rw [size_madeCells]
  · exact World.grownBy_alloc _ _ _

def OwnV (w wr : World) (v : Value) (n : Nat) (bs : List Nat) : Prop := ∃ A c, v = .slice A n c ∧ n = bs.length ∧ wr.ownsRow w.heap.size 5 1 (.slice A n c) n (bytesV bs)

end Go.Proofs.Ytjfllpmiajkenaa.Sm
