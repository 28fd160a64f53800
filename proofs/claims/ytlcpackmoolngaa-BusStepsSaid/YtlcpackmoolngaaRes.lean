/- Results that lie in cells: a struct or an array, alone or beside others. -/
import Derived.Test.YtlcpackmoolngaaMem
import Derived.Laws.Rows
namespace Go.Proofs.Ytlcpackmoolngaa.Mem
open Go.RowKit
section
variable {P : Program}
def isRow (P : Program) (ty : TypeId) (cs : Array Value) : Prop := (match P.underlying ty with | some (.struct _) | some (.array _ _) => true | _ => false) = true ∧ (P.info? ty).map (·.size) = some cs.size

theorem load_cell {w : World} {ty : TypeId} {g : Nat} {t : TypeId} {cs : Array Value} (hg : Blk w g t cs) (hr : isRow P ty cs) : (loadVar ty ⟨g, 0, none⟩).run P w = .ok (.agg cs) w := by
  obtain ⟨h1, h2⟩ := hr
  cases hu : P.underlying ty with
  | none => rw [hu] at h1; cases h1
  | some d => exact run_loadVar_row w g t ty cs (0, 0) d hg hu (by rw [hu] at h1; cases d <;> first | rfl | cases h1) h2

theorem results_cell_tmp {fn : Func} {p u : Tmp} {ty : TypeId} (h : fn.results = #[.cell p ty, .tmp u]) (tmps : Array Value) (w : World) {g : Nat} {t : TypeId} {cs : Array Value}
    (hp : tmps.getD p undef = .pointer (some ⟨g, 0, none⟩)) (hg : Blk w g t cs) (hr : isRow P ty cs) :
    (results fn tmps).run P w = .ok (.tuple #[.agg cs, tmps.getD u undef]) w := by
  have hp' : tmps[p]?.getD undef = .pointer (some ⟨g, 0, none⟩) := by simpa using hp
  simp [results, h, hp', asAddr, load_cell hg hr]

theorem results_cell_tmp2 {fn : Func} {p u v : Tmp} {ty : TypeId} (h : fn.results = #[.cell p ty, .tmp u, .tmp v]) (tmps : Array Value) (w : World) {g : Nat} {t : TypeId} {cs : Array Value}
    (hp : tmps.getD p undef = .pointer (some ⟨g, 0, none⟩)) (hg : Blk w g t cs) (hr : isRow P ty cs) :
    (results fn tmps).run P w = .ok (.tuple #[.agg cs, tmps.getD u undef, tmps.getD v undef]) w := by
  have hp' : tmps[p]?.getD undef = .pointer (some ⟨g, 0, none⟩) := by simpa using hp
  simp [results, h, hp', asAddr, load_cell hg hr]

theorem results_cell_cell {fn : Func} {p q : Tmp} {ty ty' : TypeId} (h : fn.results = #[.cell p ty, .cell q ty']) (tmps : Array Value) (w : World) {g g' : Nat} {t t' : TypeId} {cs cs' : Array Value}
    (hp : tmps.getD p undef = .pointer (some ⟨g, 0, none⟩)) (hg : Blk w g t cs) (hr : isRow P ty cs) (hp' : tmps.getD q undef = .pointer (some ⟨g', 0, none⟩)) (hg' : Blk w g' t' cs') (hr' : isRow P ty' cs') :
    (results fn tmps).run P w = .ok (.tuple #[.agg cs, .agg cs']) w := by
  have h1 : tmps[p]?.getD undef = .pointer (some ⟨g, 0, none⟩) := by simpa using hp
  have h2 : tmps[q]?.getD undef = .pointer (some ⟨g', 0, none⟩) := by simpa using hp'
  simp [results, h, h1, h2, asAddr, load_cell hg hr, load_cell hg' hr']

/-- a struct, and a number or a slice beside it -/
theorem ret_row2 {fn : Func} {R : Ending → World → Prop} {a : Act} {w : World} {p u : Tmp} {ty : TypeId} (h : fn.results = #[.cell p ty, .tmp u]) {g : Nat} {t : TypeId} {cs : Array Value} {x : Value}
    (hp : a.tmps.getD p undef = .pointer (some ⟨g, 0, none⟩)) (hx : a.tmps.getD u undef = x) (hg : Blk w g t cs) (hr : isRow P ty cs) (hdf : a.defers = []) (hR : R (.returned (.tuple #[.agg cs, x])) w) : bodyPost P fn R .ret a w :=
  bodyPost_ret (results_cell_tmp h a.tmps w hp hg hr) hdf (by rw [hx]; exact hR)
theorem ret_row3 {fn : Func} {R : Ending → World → Prop} {a : Act} {w : World} {p u v : Tmp} {ty : TypeId} (h : fn.results = #[.cell p ty, .tmp u, .tmp v]) {g : Nat} {t : TypeId} {cs : Array Value} {x y : Value}
    (hp : a.tmps.getD p undef = .pointer (some ⟨g, 0, none⟩)) (hx : a.tmps.getD u undef = x) (hy : a.tmps.getD v undef = y) (hg : Blk w g t cs) (hr : isRow P ty cs) (hdf : a.defers = []) (hR : R (.returned (.tuple #[.agg cs, x, y])) w) : bodyPost P fn R .ret a w :=
  bodyPost_ret (results_cell_tmp2 h a.tmps w hp hg hr) hdf (by rw [hx, hy]; exact hR)
theorem ret_rows2 {fn : Func} {R : Ending → World → Prop} {a : Act} {w : World} {p q : Tmp} {ty ty' : TypeId} (h : fn.results = #[.cell p ty, .cell q ty']) {g g' : Nat} {t t' : TypeId} {cs cs' : Array Value}
    (hp : a.tmps.getD p undef = .pointer (some ⟨g, 0, none⟩)) (hp' : a.tmps.getD q undef = .pointer (some ⟨g', 0, none⟩)) (hg : Blk w g t cs) (hr : isRow P ty cs) (hg' : Blk w g' t' cs') (hr' : isRow P ty' cs') (hdf : a.defers = []) (hR : R (.returned (.tuple #[.agg cs, .agg cs'])) w) : bodyPost P fn R .ret a w :=
  bodyPost_ret (results_cell_cell h a.tmps w hp hg hr hp' hg' hr') hdf hR
end
end Go.Proofs.Ytlcpackmoolngaa.Mem
