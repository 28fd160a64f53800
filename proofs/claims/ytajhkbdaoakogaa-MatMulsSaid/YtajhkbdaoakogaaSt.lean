/- A filter's state in memory; what Predict and Update answer (P4.2, P4.3). -/
import Derived.Test.YtajhkbdaoakogaaHand
import Derived.Test.YtajhkbdaoakogaaRegR
import Derived.Test.YtajhkbdaoakogaaReg3
import Derived.Test.YtajhkbdaoakogaaRes
import Derived.Test.YtajhkbdaoakogaaRws
namespace Go.Proofs.Ytajhkbdaoakogaa.BigW
open Go.RowKit Go.Proofs.Ytajhkbdaoakogaa.Mem Go.Proofs.Ytajhkbdaoakogaa.BigLaw
set_option linter.unusedVariables false

theorem st_cells {w : World} {g : Nat} {X V P00 P01 P11 : Int} {b : Bool} {m : Int} (h : StAt w g ⟨X, V, P00, P01, P11, b, m⟩) :
    w.cell? ⟨g, 0, none⟩ = some (.int .i64 X) ∧ w.cell? ⟨g, 1, none⟩ = some (.int .i64 V) ∧ w.cell? ⟨g, 2, none⟩ = some (.int .i64 P00) ∧ w.cell? ⟨g, 3, none⟩ = some (.int .i64 P01) ∧ w.cell? ⟨g, 4, none⟩ = some (.int .i64 P11) ∧ w.cell? ⟨g, 5, none⟩ = some (.bool b) ∧ w.cell? ⟨g, 6, none⟩ = some (.int .i64 m) :=
  ⟨(Blk.cell h 0).trans rfl, (Blk.cell h 1).trans rfl, (Blk.cell h 2).trans rfl, (Blk.cell h 3).trans rfl, (Blk.cell h 4).trans rfl, (Blk.cell h 5).trans rfl, (Blk.cell h 6).trans rfl⟩
theorem st_thaws {w : World} {g : Nat} {s : St} (h : StAt w g s) :
    w.frozen? ⟨g, 0, none⟩ = false ∧ w.frozen? ⟨g, 1, none⟩ = false ∧ w.frozen? ⟨g, 2, none⟩ = false ∧ w.frozen? ⟨g, 3, none⟩ = false ∧ w.frozen? ⟨g, 4, none⟩ = false ∧ w.frozen? ⟨g, 5, none⟩ = false ∧ w.frozen? ⟨g, 6, none⟩ = false :=
  ⟨Blk.thaw h 0, Blk.thaw h 1, Blk.thaw h 2, Blk.thaw h 3, Blk.thaw h 4, Blk.thaw h 5, Blk.thaw h 6⟩
theorem one_cell {w : World} {g : Nat} {t : TypeId} {v : Value} (h : Blk w g t #[v]) : w.cell? ⟨g, 0, none⟩ = some v := (Blk.cell h 0).trans rfl

/-- P4.2 -/
def predict (s : St) (dt q : Int) : St :=
  let t := fmul s.P01 dt
  let u := fmul s.P11 dt
  let m := fmul s.V dt
  let x := fadd s.X m.1
  let a := fadd s.P00 t.1
  let b := fadd a.1 t.1
  let c := fmul u.1 dt
  let d := fadd b.1 c.1
  let e := fadd s.P01 u.1
  let f := fadd s.P11 q
  { X := x.1, V := s.V, P00 := d.1, P01 := e.1, P11 := f.1, bent := s.bent || t.2 || u.2 || m.2 || x.2 || a.2 || b.2 || c.2 || d.2 || e.2 || f.2, missed := s.missed }

/-- P4.3 -/
def update (s : St) (z r gate : Int) : St × Bool :=
  let y := fsub z s.X
  let w := fadd s.P00 r
  let yy := fmul y.1 y.1
  let gw := fmul gate w.1
  if w.1 ≤ 0 ∨ gw.1 < yy.1 then ({ s with missed := IntKind.i64.wrap (s.missed + 1) }, false)
  else
    let k := fdiv s.P00 w.1
    let l := fdiv s.P01 w.1
    let m1 := fmul k.1 y.1
    let x := fadd s.X m1.1
    let m2 := fmul l.1 y.1
    let v := fadd s.V m2.1
    let m3 := fmul k.1 s.P00
    let p00 := fsub s.P00 m3.1
    let m4 := fmul k.1 s.P01
    let p01 := fsub s.P01 m4.1
    let m5 := fmul l.1 s.P01
    let p11 := fsub s.P11 m5.1
    ({ X := x.1, V := v.1, P00 := p00.1, P01 := p01.1, P11 := p11.1, bent := s.bent || y.2 || w.2 || yy.2 || gw.2 || k.2 || l.2 || m1.2 || x.2 || m2.2 || v.2 || m3.2 || p00.2 || m4.2 || p01.2 || m5.2 || p11.2, missed := 0 }, true)

def StIn (s : St) : Prop := In64 s.X ∧ In64 s.V ∧ In64 s.P00 ∧ In64 s.P01 ∧ In64 s.P11
def stV (s : St) : Value := .agg (stC s)

/-- a state handed back -/
def GaveSt (w w' : World) (s : St) (e : Ending) : Prop := e = .returned (stV s) ∧ Below w.heap.size w w'
/-- a state and whether the reading was taken -/
def GaveSt2 (w w' : World) (r : St × Bool) (e : Ending) : Prop := e = .returned (.tuple #[stV r.1, .bool r.2]) ∧ Below w.heap.size w w'
theorem predict_in {s : St} (h : StIn s) (dt q : Int) : StIn (predict s dt q) := ⟨fadd_range _ _, h.2.1, fadd_range _ _, fadd_range _ _, fadd_range _ _⟩
theorem update_in {s : St} (h : StIn s) (z r gate : Int) : StIn (update s z r gate).1 := by
  unfold update
  dsimp only
  split
  · exact h
  · exact ⟨fadd_range _ _, fadd_range _ _, fsub_range _ _, fsub_range _ _, fsub_range _ _⟩
theorem neq_of {r g : Nat} (h : r ≠ g) : some r ≠ some g := fun e => h (by injection e)
theorem exec_load_st {P : Program} {op : Oper} {a : Act} {w : World} (ty : TypeId) (x : Operand) (ho : op.op = .load ty x) (b : Nat) (hx : a.eval x = .pointer (some ⟨b, 0, none⟩)) {t : TypeId} {cs : Array Value} (h : Blk w b t cs)
    {d : TypeDesc} (hu : P.underlying ty = some d) (hd : (match d with | .struct _ | .array _ _ => true | _ => false) = true) (hi : (P.info? ty).map (·.size) = some cs.size) : (execOp a.eval op).run P w = .ok (.value (.agg cs)) w := by
  unfold execOp
  simp only [ho, hx, Instr.loadAt, Instr.sureAddr, Sem.run_bind, Sem.run_pure, Result.andThen_ok, run_loadVar_row w b t ty cs _ d h hu hd hi]
end Go.Proofs.Ytajhkbdaoakogaa.BigW
