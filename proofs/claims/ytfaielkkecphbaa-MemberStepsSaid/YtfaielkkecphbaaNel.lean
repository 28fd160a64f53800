/- '!=' between a struct and itself says false; a Verdict argument opened; the cells of a roll are integers and bools. -/
import Derived.Test.YtfaielkkecphbaaOpen
import Derived.Test.YtfaielkkecphbaaOpenN
import Derived.Test.YtfaielkkecphbaaStepM
namespace Go.Proofs.Ytfaielkkecphbaa.Nd
open Go.ChangeShapes Go.WideShapes Go.ChangeAt Go.RowKit Go.Proofs.Ytfaielkkecphbaa.Mem Go.Proofs.Ytfaielkkecphbaa.Rws Go.Proofs.Ytfaielkkecphbaa.Flat
set_option linter.unusedVariables false

section
variable {P : Program} {ops : Array Oper} {rest : List Oper} {o : Oper} {a : Act} {w : World} {Q : Exit → Act → World → Prop}
theorem run_nel_refl {t : TypeId} {d : Nat} {ls : List Bool} (he : eqOK P d t = some ls) (hd : d ≤ 10000) {u : TypeDesc} (hu : P.underlying t = some u) (hr : u.isRow = true) (hi : (P.info? t).map (·.size) = some ls.length) (xs : Array Value) (hs : xs.size = ls.length) (ht : Typed ls xs.toList) (w : World) :
    (binOp .neq t (.agg xs) (.agg xs)).run P w = .ok (.bool false) w := by
  obtain ⟨v, h1, h2⟩ := Flat.refl d t ls he xs 0 (by rw [List.drop_zero, ← hs, ← Array.length_toList, List.take_length]; exact ht) hi w
  rw [run_part_row hu hr hi] at h1
  have e : xs.extract 0 (0 + ls.length) = xs := by rw [Nat.zero_add, ← hs]; simp
  rw [e] at h1
  injection h1 with h1
  subst h1
  rw [run_neq_struct, h2 10000 hd]
  rfl
theorem wpList_nel (hw : Region.wanted o (yielded ops a.tmps) = true) (t u : TypeId) (x y : Operand) (ho : o.op = .binOp .neq t x y u) {d : Nat} {ls : List Bool} (he : eqOK P d t = some ls) (hd : d ≤ 10000) {e : TypeDesc} (hu : P.underlying t = some e) (hr : e.isRow = true) (hi : (P.info? t).map (·.size) = some ls.length) (hq : P.eqGuardType P.depth t = false)
    (xs : Array Value) (hx : a.eval x = .agg xs) (hy : a.eval y = .agg xs) (hs : xs.size = ls.length) (ht : Typed ls xs.toList)
    (h : wpList P ops Q rest (a.put o.dst (.bool false)) w) : wpList P ops Q (o :: rest) a w :=
  wpList_wanted hw fun _ hK => by
    unfold Oper.wp execOp
    have hqq : (eqGuard .neq t x y (.agg xs) (.agg xs)).run P w = .ok () w := by unfold eqGuard; simp [run_program, hq]
    simp only [ho, hx, hy, Sem.run_bind, hqq, Result.andThen_ok, Sem.run_pure]
    rw [run_nel_refl he hd hu hr hi xs hs ht]
    exact hK _ _ h
end

theorem make4 (w : World) : (Instr.makeSlice 49 (.int .i64 4) (.int .i64 4)).run Try.prog w = .ok (.slice (some ⟨w.heap.size, 0, none⟩) 4 4) (w.alloc (.cells #[.bool false, .bool false, .bool false, .bool false] 4)) := by
  obtain ⟨i, hi, hz0, hz1, hz2⟩ := info_parts (elemBools).info
  have h := run_make (P := Try.prog) w 49 4 i (.bool false) elemBools.und hi hz0 .i64 .i64 4 4 (by omega) (by omega) (by rw [hz2]; omega) (by omega)
  rw [hz1, show madeCells (Value.bool false).cells (Int.toNat 4 * 1) = #[.bool false, .bool false, .bool false, .bool false] from by kernel_rfl] at h
  exact h
theorem changesV_at : ∀ (l : List (Int × Int)) {k : Nat} (h : k < l.length), (changesV l)[k * 2]? = some (.int .i64 l[k].1) ∧ (changesV l)[k * 2 + 1]? = some (.int .i64 l[k].2)
  | x :: l, 0, _ => ⟨rfl, rfl⟩
  | x :: l, k + 1, h => by
    have := changesV_at l (k := k) (by simpa using h)
    rw [show (k + 1) * 2 = k * 2 + 1 + 1 by omega, show changesV (x :: l) = .int .i64 x.1 :: .int .i64 x.2 :: changesV l from rfl]
    simpa using this
def rollLs : List Bool := [false, false, false, false, true, true, true, true, true, true, true, true]
theorem typed_roll (s : RS) : Typed rollLs s.row.toList := by
  unfold RS.row
  rw [row_toList]
  exact ⟨⟨_, rfl⟩, ⟨_, rfl⟩, ⟨_, rfl⟩, ⟨_, rfl⟩, ⟨_, _, rfl⟩, ⟨_, _, rfl⟩, ⟨_, _, rfl⟩, ⟨_, _, rfl⟩, ⟨_, _, rfl⟩, ⟨_, _, rfl⟩, ⟨_, _, rfl⟩, ⟨_, _, rfl⟩, trivial⟩
set_option maxRecDepth 100000 in
theorem ok_roll : eqOK Try.prog 20 31 = some rollLs := by kernel_rfl
end Go.Proofs.Ytfaielkkecphbaa.Nd
namespace Go.Proofs.Ytfaielkkecphbaa.Op
open Go.ChangeShapes Go.WideShapes Go.ChangeAt Go.RowKit Go.Proofs.Ytfaielkkecphbaa.Mem Go.Proofs.Ytfaielkkecphbaa.Rws Go.Proofs.Ytfaielkkecphbaa.Nd
set_option maxRecDepth 100000 in
theorem openVerdict {H : Type} {enc : TypeId × Value → H} {W : World} {base : Nat} {v : Value} {d : DataW H} {ps : List MemPlace} (hv : Value.okWide Try.prog W .any base 51 v)
    (h : DataW.Trod enc Try.prog W 0 (fun _ => true) true 51 v d ps) (hl : Op.Light Try.prog 51 d) :
    ∃ (x : Int) (st : Bool) (A : Option Addr) (c : Nat) (bs : List Bool), v = .agg #[.int .i64 x, .bool st, .slice A bs.length c] ∧ bs.length ≤ c ∧ c ≤ 140737488351232 ∧ (A = none → c = 0) ∧ Rd W W.heap.size 1 A bs.length (boolsV bs) := by
  obtain ⟨cs, rfl⟩ := Op.okWide_agg (t := 51) (by kernel_rfl) hv
  have k := Op.flat_arg (ls := [3, 4, 49]) (by kernel_rfl) h hl
  obtain ⟨x0, l, e0, f0, k⟩ := k.cons
  obtain ⟨x1, l, rfl, f1, k⟩ := k.cons
  obtain ⟨x2, l, rfl, f2, k⟩ := k.cons
  obtain rfl := k.nil_
  obtain rfl := Op.arr_of e0
  obtain ⟨m0, rfl, w0⟩ := f0.int Try.underlying3
  obtain ⟨b1, rfl⟩ := f1.bool Try.underlying4
  obtain ⟨A, c, bs, rfl, h1, h2, h3, h4, h5⟩ := f2.bools Try.underlying49 Try.underlying4 (by kernel_rfl) (fun _ => rfl)
  rw [show Try.prog.bytesOf 4 = 1 from by kernel_rfl] at h3
  exact ⟨m0, b1, A, c, bs, rfl, h1, by unfold reachBytes at h3; omega, h4, h5⟩
end Go.Proofs.Ytfaielkkecphbaa.Op
