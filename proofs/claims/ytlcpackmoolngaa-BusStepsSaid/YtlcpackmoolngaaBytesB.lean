/- Bytes in memory: as cells, as an argument, of a call's own; make with room. -/
import Derived.Test.YtlcpackmoolngaaOpen
import Derived.WalkSpells
import Derived.WalkLawsBesides
import Derived.Deep.RegionHeld3
namespace Go.Proofs.Ytlcpackmoolngaa.Sm
open Go.ChangeShapes Go.WideShapes Go.ChangeAt Go.RowKit Go.Proofs.Ytlcpackmoolngaa.Mem
set_option linter.unusedVariables false

/-- bytes, as cells -/
def bytesV (bs : List Nat) : List Value := bs.map fun (x : Nat) => Value.int .u8 (x : Int)
theorem bytesV_at (bs : List Nat) (k : Nat) (hk : k < bs.length) : (bytesV bs)[k]? = some (.int .u8 (bs[k] : Int)) := by
  simp [bytesV, hk]

theorem bytes_of : ∀ (zs : List Int), (∀ z ∈ zs, (Lit.int .u8 z).wf = true) → ∃ bs : List Nat, zs.map (Value.int .u8) = bytesV bs ∧ bs.length = zs.length ∧ ∀ x ∈ bs, x < 256
  | [], _ => ⟨[], rfl, rfl, by simp⟩
  | z :: zs, h => by
    obtain ⟨bs, h1, h2, h3⟩ := bytes_of zs (fun y hy => h y (List.mem_cons_of_mem _ hy))
    have hz := Op.wf_u8 (h z List.mem_cons_self)
    refine ⟨z.toNat :: bs, ?_, by simp [h2], ?_⟩
    · have e : ((z.toNat : Nat) : Int) = z := Int.toNat_of_nonneg hz.1
      simp only [bytesV, List.map_cons, e]
      exact congrArg _ h1
    · intro x hx
      cases List.mem_cons.1 hx with
      | inl e => subst e; omega
      | inr e => exact h3 x e


set_option maxRecDepth 100000 in
theorem openBytes {H : Type} {enc : TypeId × Value → H} {W : World} {base : Nat} {v : Value} {d : DataW H} {ps : List MemPlace} (hv : Value.okWide Try.prog W .any base 38 v)
    (h : DataW.Trod enc Try.prog W 0 (fun _ => true) true 38 v d ps) (hl : Op.Light Try.prog 38 d) :
    ∃ (A : Option Addr) (c : Nat) (bs : List Nat), v = .slice A bs.length c ∧ bs.length ≤ c ∧ c ≤ 140737488351232 ∧ (A = none → c = 0) ∧ Rd W W.heap.size 1 A bs.length (bytesV bs) ∧ ∀ x ∈ bs, x < 256 := by
  obtain ⟨a0, len, cap, rfl⟩ := okWide_slice Try.underlying38 hv
  obtain ⟨n, hn⟩ := h
  obtain ⟨A, c, zs, e, h1, h2, h3, h4, h5, h6⟩ := Op.Leaf.ints (enc := enc) (held := true) (base := 0) (spare := fun _ => true) (w := W) (v := .slice a0 len cap) Try.underlying38 Try.underlying5 (by kernel_rfl) (fun _ => rfl) ⟨n, _, hn, hl⟩
  rw [show Try.prog.bytesOf 5 = 1 from by kernel_rfl] at h3
  obtain ⟨bs, g1, g2, g3⟩ := bytes_of zs h6
  rw [g1] at h5
  rw [e]
  refine ⟨A, c, bs, by rw [g2], by omega, ?_, h4, by rw [g2]; exact h5, g3⟩
  have : reachBytes = 140737488351232 := by decide
  omega

theorem elemBytes : Elem Try.prog 38 5 (.int .u8 0) 1 1 := ⟨Try.underlying38, by kernel_rfl, rfl, by omega⟩
theorem bytesV_one (bs : List Nat) : ∀ u ∈ bytesV bs, u.oneCell' = true := fun u hu => by
  obtain ⟨z, _, rfl⟩ := List.mem_map.1 hu
  rfl

def OwnBytes (w w' : World) (bs : List Nat) (e : Ending) : Prop :=
  ∃ A c, e = .returned (.slice A bs.length c) ∧ w'.ownsRow w.heap.size 5 1 (.slice A bs.length c) bs.length (bytesV bs) ∧ Below w.heap.size w w'

theorem rd_alloc (w : World) (C : Array Value) (e : TypeId) (fr : Nat × Nat) : Rd (w.alloc (.cells C e fr)) (w.heap.size + 1) 1 (some ⟨w.heap.size, 0, none⟩) C.size C.toList := by
  have h : (w.alloc (.cells C e fr)).heap[w.heap.size]? = some (.cells C e fr) := by
    show (w.heap.push _)[w.heap.size]? = _; simp
  refine ⟨by simp, fun _ => ⟨w.heap.size, 0, rfl, by omega, fun j u hu => ?_⟩⟩
  rw [Nat.zero_add]
  simp only [World.cell?, h]
  simpa using hu
theorem bytesV_append (a b : List Nat) : bytesV (a ++ b) = bytesV a ++ bytesV b := by simp [bytesV]
theorem bytesV_length (a : List Nat) : (bytesV a).length = a.length := by simp [bytesV]
theorem rd_one (w : World) (v : Value) (e : TypeId) : Rd (w.alloc (.cells #[v] e)) (w.heap.size + 1) 1 (some ⟨w.heap.size, 0, none⟩) 1 [v] := rd_alloc w #[v] e (0, 0)

/-- 'make([]T, 0, n)': a row of the call's own, none of it taken yet. -/
theorem wpList_make_cap {P : Program} {w : World} {ops : Array Oper} {rest : List Oper} {o : Oper} {a : Act} {Q : Exit → Act → World → Prop}
    (hg : o.guard = none) (l c : Operand) (t : TypeId) (hop : o.op = Op.makeSlice t l c) {e : TypeId} {z : Value} {size bytes : Nat} (E : Elem P t e z size bytes)
    {kl kc : IntKind} {L C : Int} (n : Nat) (hl : a.eval l = .int kl L) (hc : a.eval c = .int kc C) (hL : L = 0) (hC : C = (n : Int)) (hb : bytes * n ≤ 281474976710656) (hn : n ≤ maxLen) {base : Nat} (hbase : base ≤ w.heap.size)
    (h : ∀ w1, w1.ownsRow base e size (.slice (some ⟨w.heap.size, 0, none⟩) 0 n) 0 [] → w.grownBy w1 none → wpList P ops Q rest (a.put o.dst (.slice (some ⟨w.heap.size, 0, none⟩) 0 n)) w1) : wpList P ops Q (o :: rest) a w := by
  obtain ⟨i, hi, hz0, hz1, hz2⟩ := info_parts E.info
  subst hz2
  have hb' : (i.bytes : Int) * (n : Int) ≤ 281474976710656 := by
    have h : ((i.bytes * n : Nat) : Int) ≤ 281474976710656 := by omega
    rwa [Int.natCast_mul] at h
  unfold maxLen at hn
  have hr := run_make (P := P) w t e i z E.und hi hz0 kl kc 0 n (by omega) (by omega) hb' (by omega)
  refine wpList_plain hg fun K hK => ?_
  subst hL
  subst hC
  simp only [Int.toNat_natCast, Int.toNat_zero, hz1] at hr
  unfold Oper.wp
  simp only [execOp, hop, hl, hc, hr, Result.andThen_ok, Sem.run_bind, Sem.run_pure]
  refine hK _ _ (h _ (World.ownsRow_made w _ n hbase (by unfold maxLen; omega) ?_) ?_)
  · rw [size_madeCells]
  · exact World.grownBy_alloc _ _ _

def OwnV (w wr : World) (v : Value) (n : Nat) (bs : List Nat) : Prop := ∃ A c, v = .slice A n c ∧ n = bs.length ∧ wr.ownsRow w.heap.size 5 1 (.slice A n c) n (bytesV bs)

end Go.Proofs.Ytlcpackmoolngaa.Sm
