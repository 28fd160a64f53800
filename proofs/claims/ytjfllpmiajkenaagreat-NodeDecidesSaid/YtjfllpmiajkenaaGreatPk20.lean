import Derived.Test.YtjfllpmiajkenaaGreatPk17
import Derived.Test.YtjfllpmiajkenaaGreatPk19
import Derived.Deep.RegionHeld3
import Derived.Test.YtjfllpmiajkenaaGreatPk1
import Derived.Test.YtjfllpmiajkenaaGreatPk0
namespace Go.Proofs.YtjfllpmiajkenaaGreat.BigW
open Go.RowKit Go.Proofs.YtjfllpmiajkenaaGreat.Mem Go.Proofs.YtjfllpmiajkenaaGreat.BigLaw
set_option linter.unusedVariables false
structure St where
  X : Int
  V : Int
  P00 : Int
  P01 : Int
  P11 : Int
  bent : Bool
  missed : Int
def stC (s : St) : Array Value := #[.int .i64 s.X, .int .i64 s.V, .int .i64 s.P00, .int .i64 s.P01, .int .i64 s.P11, .bool s.bent, .int .i64 s.missed]
def StAt (w : World) (g : Nat) (s : St) : Prop := Blk w g 25 (stC s)
def Handd (w w' : World) (g : Nat) (s : St) (r : Int × Bool) (e : Ending) : Prop :=
  e = .returned (.int .i64 r.1) ∧ StAt w' g { s with bent := s.bent || r.2 } ∧ w.grownBy w' (some g)
theorem StAt.below {w w' : World} {g : Nat} {s : St} (h : StAt w g s) (hb : Below w.heap.size w w') : StAt w' g s := Blk.below h hb (Blk.lt h)
theorem grown_one {w w' : World} {g : Nat} {row : Nat} (h : w.grownBy w' (some row)) (hg : g < w.heap.size) (hne : g ≠ row) : ∀ o, w'.cell? ⟨g, o, none⟩ = w.cell? ⟨g, o, none⟩ := fun o => World.cell?_of_block (h.block g hg (fun e => hne (by injection e)))
theorem hsee_any (g : Nat) (s : St) (n : Int) (b : Bool) (w : World) (h : StAt w g s) :
    Calls Tryz.prog 122 #[.agg #[.pointer (some ⟨g, 0, none⟩)], .int .i64 n, .bool b] w fun e w' => Handd w w' g s (n, b) e := by
  obtain ⟨X, V, P00, P01, P11, bent, missed⟩ := s
  have c5 := Blk.cell h 5
  have f5 := Blk.thaw h 5
  simp only [stC, List.getElem?_toArray, List.getElem?_cons_zero, List.getElem?_cons_succ] at c5
  have HB := Lib.hid h
  have hgl := Blk.lt h
  clear h
  cases bent <;> cases b
  all_goals
    go_enter Tryz.func122, Tryz.ntmps122
    go_wp2_with fail
    go_region
    go_wp2_with fail
    go_ret
    exact ⟨rfl, ((Blk.set HB.out 5 _).alloc _).drew, (grown_setCell _ _ _ _).trans (grown_of_below (((Below.refl _ _).alloc (Nat.le_refl _) _).drew))⟩
theorem hadd_any (g : Nat) (s : St) (a b : Int) (w : World) (h : StAt w g s) (ha : In64 a) (hb : In64 b) :
    Calls Tryz.prog 90 #[.agg #[.pointer (some ⟨g, 0, none⟩)], .int .i64 a, .int .i64 b] w fun e w' => Handd w w' g s (fadd a b) e := by
  have hA : Below w.heap.size w (w.alloc (.cells #[.pointer (some ⟨g, 0, none⟩)] 141)).drew := ((Below.refl _ _).alloc (Nat.le_refl _) _).drew
  have HB := Lib.hid (h.below hA)
  have hgl := Blk.lt h
  have hs : w.heap.size + 1 ≤ (w.alloc (.cells #[.pointer (some ⟨g, 0, none⟩)] 141)).drew.heap.size := by simp
  have HAA := Lib.hid hA
  have HA := Lib.hid ha
  have HC := Lib.hid hb
  clear h ha hb hA
  go_enter Tryz.func90, Tryz.ntmps90
  go_wp2_with fail
  go_region_held3 (fun w' => w'.cell? ⟨w.heap.size, 0, none⟩ = some (.pointer (some ⟨g, 0, none⟩))) (go_keep) (first
    | (go_at_call 124; refine (fixAdd_any a b _ HA.out HC.out).mono ?_; rintro e w1 ⟨rfl, rfl⟩)
    | (go_at_call 122; refine (hsee_any g s (stop (a + b)).1 (stop (a + b)).2 _ HB.out).mono ?_; rintro e w2 ⟨rfl, hbe, hg⟩; have hk0 := grown_one hg (g := w.heap.size) (by omega) (by omega) 0))
  have HBE := Lib.hid hbe
  have HG := Lib.hid ((grown_of_below HAA.out).trans hg)
  clear hbe hg hs hk0
  go_wp2_with fail
  go_ret
  exact ⟨rfl, HBE.out, HG.out⟩
theorem hsub_any (g : Nat) (s : St) (a b : Int) (w : World) (h : StAt w g s) (ha : In64 a) (hb : In64 b) :
    Calls Tryz.prog 89 #[.agg #[.pointer (some ⟨g, 0, none⟩)], .int .i64 a, .int .i64 b] w fun e w' => Handd w w' g s (fsub a b) e := by
  have hA : Below w.heap.size w (w.alloc (.cells #[.pointer (some ⟨g, 0, none⟩)] 141)).drew := ((Below.refl _ _).alloc (Nat.le_refl _) _).drew
  have HB := Lib.hid (h.below hA)
  have hgl := Blk.lt h
  have hs : w.heap.size + 1 ≤ (w.alloc (.cells #[.pointer (some ⟨g, 0, none⟩)] 141)).drew.heap.size := by simp
  have HAA := Lib.hid hA
  have HA := Lib.hid ha
  have HC := Lib.hid hb
  clear h ha hb hA
  go_enter Tryz.func89, Tryz.ntmps89
  go_wp2_with fail
  go_region_held3 (fun w' => w'.cell? ⟨w.heap.size, 0, none⟩ = some (.pointer (some ⟨g, 0, none⟩))) (go_keep) (first
    | (go_at_call 123; refine (fixSub_any a b _ HA.out HC.out).mono ?_; rintro e w1 ⟨rfl, rfl⟩)
    | (go_at_call 122; refine (hsee_any g s (stop (a - b)).1 (stop (a - b)).2 _ HB.out).mono ?_; rintro e w2 ⟨rfl, hbe, hg⟩; have hk0 := grown_one hg (g := w.heap.size) (by omega) (by omega) 0))
  have HBE := Lib.hid hbe
  have HG := Lib.hid ((grown_of_below HAA.out).trans hg)
  clear hbe hg hs hk0
  go_wp2_with fail
  go_ret
  exact ⟨rfl, HBE.out, HG.out⟩
theorem hmul_any (g : Nat) (s : St) (a b : Int) (w : World) (h : StAt w g s) (ha : In64 a) (hb : In64 b) :
    Calls Tryz.prog 91 #[.agg #[.pointer (some ⟨g, 0, none⟩)], .int .i64 a, .int .i64 b] w fun e w' => Handd w w' g s (fmul a b) e := by
  have hA : Below w.heap.size w (w.alloc (.cells #[.pointer (some ⟨g, 0, none⟩)] 141)).drew := ((Below.refl _ _).alloc (Nat.le_refl _) _).drew
  have HB := Lib.hid (h.below hA)
  have hgl := Blk.lt h
  have hs : w.heap.size + 1 ≤ (w.alloc (.cells #[.pointer (some ⟨g, 0, none⟩)] 141)).drew.heap.size := by simp
  have HAA := Lib.hid hA
  have HA := Lib.hid ha
  have HC := Lib.hid hb
  clear h ha hb hA
  go_enter Tryz.func91, Tryz.ntmps91
  go_wp2_with fail
  go_region_held3 (fun w' => w'.cell? ⟨w.heap.size, 0, none⟩ = some (.pointer (some ⟨g, 0, none⟩))) (go_keep) (first
    | (go_at_call 125; refine (fixMul_any a b _ HA.out HC.out).mono ?_; rintro e w1 ⟨rfl, hb1⟩; have hk0 := below_cell hb1 w.heap.size 0 (by simp); have hs := Nat.le_trans hs hb1.size; have HB := Lib.hid (HB.out.below hb1); have HAA := Lib.hid (onward HAA.out (Nat.le_refl _) hb1))
    | (go_at_call 122; refine (hsee_any g s (fmul a b).1 (fmul a b).2 _ HB.out).mono ?_; rintro e w2 ⟨rfl, hbe, hg⟩; have hk0 := grown_one hg (g := w.heap.size) (by omega) (by omega) 0))
  have HBE := Lib.hid hbe
  have HG := Lib.hid ((grown_of_below HAA.out).trans hg)
  clear hbe hg hs hk0
  go_wp2_with fail
  go_ret
  exact ⟨rfl, HBE.out, HG.out⟩
theorem hdiv_any (g : Nat) (s : St) (a b : Int) (w : World) (h : StAt w g s) (ha : In64 a) (hb : In64 b) :
    Calls Tryz.prog 92 #[.agg #[.pointer (some ⟨g, 0, none⟩)], .int .i64 a, .int .i64 b] w fun e w' => Handd w w' g s (fdiv a b) e := by
  have hA : Below w.heap.size w (w.alloc (.cells #[.pointer (some ⟨g, 0, none⟩)] 141)).drew := ((Below.refl _ _).alloc (Nat.le_refl _) _).drew
  have HB := Lib.hid (h.below hA)
  have hgl := Blk.lt h
  have hs : w.heap.size + 1 ≤ (w.alloc (.cells #[.pointer (some ⟨g, 0, none⟩)] 141)).drew.heap.size := by simp
  have HAA := Lib.hid hA
  have HA := Lib.hid ha
  have HC := Lib.hid hb
  clear h ha hb hA
  go_enter Tryz.func92, Tryz.ntmps92
  go_wp2_with fail
  go_region_held3 (fun w' => w'.cell? ⟨w.heap.size, 0, none⟩ = some (.pointer (some ⟨g, 0, none⟩))) (go_keep) (first
    | (go_at_call 126; refine (fixDiv_any a b _ HA.out HC.out).mono ?_; rintro e w1 ⟨rfl, hb1⟩; have hk0 := below_cell hb1 w.heap.size 0 (by simp); have hs := Nat.le_trans hs hb1.size; have HB := Lib.hid (HB.out.below hb1); have HAA := Lib.hid (onward HAA.out (Nat.le_refl _) hb1))
    | (go_at_call 122; refine (hsee_any g s (fdiv a b).1 (fdiv a b).2 _ HB.out).mono ?_; rintro e w2 ⟨rfl, hbe, hg⟩; have hk0 := grown_one hg (g := w.heap.size) (by omega) (by omega) 0))
  have HBE := Lib.hid hbe
  have HG := Lib.hid ((grown_of_below HAA.out).trans hg)
  clear hbe hg hs hk0
  go_wp2_with fail
  go_ret
  exact ⟨rfl, HBE.out, HG.out⟩
end Go.Proofs.YtjfllpmiajkenaaGreat.BigW
namespace Go.Proofs.YtjfllpmiajkenaaGreat.BigW
open Go.RowKit Go.Proofs.YtjfllpmiajkenaaGreat.Mem
set_option linter.unusedVariables false
theorem neq_of {r g : Nat} (h : r ≠ g) : some r ≠ some g := fun e => h (by injection e)
theorem exec_load_st {P : Program} {op : Oper} {a : Act} {w : World} (ty : TypeId) (x : Operand) (ho : op.op = .load ty x) (b : Nat) (hx : a.eval x = .pointer (some ⟨b, 0, none⟩)) {t : TypeId} {cs : Array Value} (h : Blk w b t cs)
    {d : TypeDesc} (hu : P.underlying ty = some d) (hd : (match d with | .struct _ | .array _ _ => true | _ => false) = true) (hi : (P.info? ty).map (·.size) = some cs.size) : (execOp a.eval op).run P w = .ok (.value (.agg cs)) w := by
  unfold execOp
  simp only [ho, hx, Instr.loadAt, Instr.sureAddr, Sem.run_bind, Sem.run_pure, Result.andThen_ok, run_loadVar_row w b t ty cs _ d h hu hd hi]
end Go.Proofs.YtjfllpmiajkenaaGreat.BigW
namespace Go.Proofs.YtjfllpmiajkenaaGreat.BigW
open Go.RowKit Go.Proofs.YtjfllpmiajkenaaGreat.Mem Go.Proofs.YtjfllpmiajkenaaGreat.BigLaw
set_option linter.unusedVariables false
theorem st_cells {w : World} {g : Nat} {X V P00 P01 P11 : Int} {b : Bool} {m : Int} (h : StAt w g ⟨X, V, P00, P01, P11, b, m⟩) :
    w.cell? ⟨g, 0, none⟩ = some (.int .i64 X) ∧ w.cell? ⟨g, 1, none⟩ = some (.int .i64 V) ∧ w.cell? ⟨g, 2, none⟩ = some (.int .i64 P00) ∧ w.cell? ⟨g, 3, none⟩ = some (.int .i64 P01) ∧ w.cell? ⟨g, 4, none⟩ = some (.int .i64 P11) ∧ w.cell? ⟨g, 5, none⟩ = some (.bool b) ∧ w.cell? ⟨g, 6, none⟩ = some (.int .i64 m) :=
  ⟨(Blk.cell h 0).trans rfl, (Blk.cell h 1).trans rfl, (Blk.cell h 2).trans rfl, (Blk.cell h 3).trans rfl, (Blk.cell h 4).trans rfl, (Blk.cell h 5).trans rfl, (Blk.cell h 6).trans rfl⟩
theorem st_thaws {w : World} {g : Nat} {s : St} (h : StAt w g s) :
    w.frozen? ⟨g, 0, none⟩ = false ∧ w.frozen? ⟨g, 1, none⟩ = false ∧ w.frozen? ⟨g, 2, none⟩ = false ∧ w.frozen? ⟨g, 3, none⟩ = false ∧ w.frozen? ⟨g, 4, none⟩ = false ∧ w.frozen? ⟨g, 5, none⟩ = false ∧ w.frozen? ⟨g, 6, none⟩ = false :=
  ⟨Blk.thaw h 0, Blk.thaw h 1, Blk.thaw h 2, Blk.thaw h 3, Blk.thaw h 4, Blk.thaw h 5, Blk.thaw h 6⟩
theorem one_cell {w : World} {g : Nat} {t : TypeId} {v : Value} (h : Blk w g t #[v]) : w.cell? ⟨g, 0, none⟩ = some v := (Blk.cell h 0).trans rfl
def predict (s : St) (dt q : Int) : St :=
  let t := fmul s.P01 dt
  let u := fmul s.P11 dt
  let m := fmul s.V dt
  let x := fadd s.X m.1
  let a := fadd s.P00 t.1
  let b := fadd a.1 t.1
  let c := fmul u.1 dt
  let d := fadd b.1 c.1
  let e := fadd s.P01 u.1
  let f := fadd s.P11 q
  { X := x.1, V := s.V, P00 := d.1, P01 := e.1, P11 := f.1, bent := s.bent || t.2 || u.2 || m.2 || x.2 || a.2 || b.2 || c.2 || d.2 || e.2 || f.2, missed := s.missed }
def update (s : St) (z r gate : Int) : St × Bool :=
  let y := fsub z s.X
  let w := fadd s.P00 r
  let yy := fmul y.1 y.1
  let gw := fmul gate w.1
  if w.1 ≤ 0 ∨ gw.1 < yy.1 then ({ s with missed := IntKind.i64.wrap (s.missed + 1) }, false)
  else
    let k := fdiv s.P00 w.1
    let l := fdiv s.P01 w.1
    let m1 := fmul k.1 y.1
    let x := fadd s.X m1.1
    let m2 := fmul l.1 y.1
    let v := fadd s.V m2.1
    let m3 := fmul k.1 s.P00
    let p00 := fsub s.P00 m3.1
    let m4 := fmul k.1 s.P01
    let p01 := fsub s.P01 m4.1
    let m5 := fmul l.1 s.P01
    let p11 := fsub s.P11 m5.1
    ({ X := x.1, V := v.1, P00 := p00.1, P01 := p01.1, P11 := p11.1, bent := s.bent || y.2 || w.2 || yy.2 || gw.2 || k.2 || l.2 || m1.2 || x.2 || m2.2 || v.2 || m3.2 || p00.2 || m4.2 || p01.2 || m5.2 || p11.2, missed := 0 }, true)
def StIn (s : St) : Prop := In64 s.X ∧ In64 s.V ∧ In64 s.P00 ∧ In64 s.P01 ∧ In64 s.P11
def stV (s : St) : Value := .agg (stC s)
def GaveSt (w w' : World) (s : St) (e : Ending) : Prop := e = .returned (stV s) ∧ Below w.heap.size w w'
def GaveSt2 (w w' : World) (r : St × Bool) (e : Ending) : Prop := e = .returned (.tuple #[stV r.1, .bool r.2]) ∧ Below w.heap.size w w'
theorem predict_in {s : St} (h : StIn s) (dt q : Int) : StIn (predict s dt q) := ⟨fadd_range _ _, h.2.1, fadd_range _ _, fadd_range _ _, fadd_range _ _⟩
end Go.Proofs.YtjfllpmiajkenaaGreat.BigW
