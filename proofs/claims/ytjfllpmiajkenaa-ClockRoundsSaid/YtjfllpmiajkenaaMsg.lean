/- Contracts: a message handed on in memory of its own (message), what is wrong with one (right, the reference's MessageWrong). -/
import Derived.Test.YtjfllpmiajkenaaOpen
import Derived.WalkSpells
import Derived.WalkLawsBesides
namespace Go.Proofs.Ytjfllpmiajkenaa.Ms
open Go.ChangeShapes Go.WideShapes Go.ChangeAt Go.RowKit Go.Proofs.Ytjfllpmiajkenaa.Mem
set_option linter.unusedVariables false

def intsV (zs : List Int) : List Value := zs.map (Value.int .i64)
theorem intsV_at (zs : List Int) (k : Nat) (hk : k < zs.length) : (intsV zs)[k]? = some (.int .i64 zs[k]) := by simp [intsV, hk]
theorem intsV_one (zs : List Int) : ∀ u ∈ intsV zs, u.oneCell' = true := fun u hu => by
  obtain ⟨z, _, rfl⟩ := List.mem_map.1 hu
  rfl
theorem elemInts : Elem Try.prog 39 3 (.int .i64 0) 1 8 := ⟨Try.underlying39, by kernel_rfl, rfl, by omega⟩

/-- a message value -/
def msgV (k f n : Int) (A : Option Addr) (l c : Nat) : Value := .agg #[.int .i64 k, .int .i64 f, .int .i64 n, .slice A l c]
def msgC (k f n : Int) (A : Option Addr) (l c : Nat) : Array Value := #[.int .i64 k, .int .i64 f, .int .i64 n, .slice A l c]

/-- P6.1 -/
def wrong (k f n : Int) (l : Nat) : Int := if k < 1 ∨ 5 < k then 4 else if f < 0 ∨ 3 < f ∨ n < 0 ∨ 2147483647 < n then 3 else if 24 < l then 6 else 0

def OwnMsg (w w' : World) (k f n : Int) (zs : List Int) (e : Ending) : Prop :=
  ∃ A c, e = .returned (msgV k f n A zs.length c) ∧ w'.ownsRow w.heap.size 3 1 (.slice A zs.length c) zs.length (intsV zs) ∧ Below w.heap.size w w'

theorem message_any (k f n : Int) (A : Option Addr) (c : Nat) (zs : List Int) (B : Nat) (w : World) (hB : B ≤ w.heap.size) (hA : A = none → c = 0) (hnc : zs.length ≤ c) (hc : c * 8 ≤ 140737488351232) (hr : Rd w B 1 A zs.length (intsV zs)) :
    Calls Try.prog 49 #[msgV k f n A zs.length c] w fun e w' => OwnMsg w w' k f n zs e := by
  have hr1 := hr.alloc hB (.cells #[.int .i64 k, .int .i64 f, .int .i64 n, .slice A zs.length c] 41)
  have HR1 := Lib.hid hr1
  clear hr1 hr
  unfold msgV
  go_enter Try.func49, Try.ntmps49
  go_wp2_with (at_builtin; go_loud (refine wpList_append_rd _ rfl _ _ _ rfl (base := w.heap.size + 2) elemInts rfl (World.ownsRow_nil _ _ _ _) rfl (fun h => ⟨by have := hA h; omega, hA h⟩) (HR1.out.alloc (by simp; omega) _) (intsV_one zs) (by unfold maxLen; omega) (by omega) (by simp) ?_))
  intro A' c' w1 hA' hown hg
  (try simp only [List.nil_append, Nat.zero_add] at hown)
  have b0 := ((Blk.new (t := 41) (cs := #[.int .i64 k, .int .i64 f, .int .i64 n, .slice A zs.length c]) (w := w) rfl).alloc (.cells #[.int .i64 0, .int .i64 0, .int .i64 0, .slice none 0 0] 41)).grown hg (by simp [Value.ownBlock])
  have b1 := (Blk.new (t := 41) (cs := #[.int .i64 0, .int .i64 0, .int .i64 0, .slice none 0 0]) (w := w.alloc (.cells #[.int .i64 k, .int .i64 f, .int .i64 n, .slice A zs.length c] 41)) (g := w.heap.size + 1) (by simp)).grown hg (by simp [Value.ownBlock])
  have hb : Below w.heap.size w w1 := (((Below.refl _ _).alloc (Nat.le_refl _) _).alloc (by simp) _).grown hg (by simp; omega) (by simp [Value.ownBlock])
  have c00 := b0.cell 0
  have c01 := b0.cell 1
  have c02 := b0.cell 2
  have c03 := b0.cell 3
  have f03 := b0.thaw 3
  have c10 := b1.cell 0
  have c11 := b1.cell 1
  have c12 := b1.cell 2
  have c13 := b1.cell 3
  have f10 := b1.thaw 0
  have f11 := b1.thaw 1
  have f12 := b1.thaw 2
  have f13 := b1.thaw 3
  simp only [List.getElem?_toArray, List.getElem?_cons_zero, List.getElem?_cons_succ] at c00 c01 c02 c03 c10 c11 c12 c13
  have HO := Lib.hid hown
  have HB1 := Lib.hid b1
  have HB := Lib.hid hb
  clear hown b1 b0 hb hg hA'
  go_wp2
  refine ret_row rfl rfl (((((HB1.out.other (by simp) _).set 0 _).set 1 _).set 2 _).set 3 _) Try.underlying41 rfl (by kernel_rfl) rfl ⟨A', c', rfl, ?_, ?_⟩
  · exact own_weaken (ownsRow_setCell_below (ownsRow_setCell_below (ownsRow_setCell_below (ownsRow_setCell_below (ownsRow_setCell_below HO.out (by simp) _) (by simp) _) (by simp) _) (by simp) _) (by simp) _) (by omega)
  · exact ((((HB.out.setCell (by simp) _).setCell (by simp) _).setCell (by simp) _).setCell (by simp) _).setCell (by simp) _

set_option maxRecDepth 100000 in
theorem openMsg {H : Type} {enc : TypeId × Value → H} {W : World} {base : Nat} {v : Value} {d : DataW H} {ps : List MemPlace} (hv : Value.okWide Try.prog W .any base 41 v)
    (h : DataW.Trod enc Try.prog W 0 (fun _ => true) true 41 v d ps) (hl : Op.Light Try.prog 41 d) :
    ∃ (k f n : Int) (A : Option Addr) (c : Nat) (zs : List Int), v = msgV k f n A zs.length c ∧ zs.length ≤ c ∧ c * 8 ≤ 140737488351232 ∧ (A = none → c = 0) ∧
      Rd W W.heap.size 1 A zs.length (intsV zs) ∧ ((-9223372036854775808 ≤ k ∧ k ≤ 9223372036854775807) ∧ (-9223372036854775808 ≤ f ∧ f ≤ 9223372036854775807) ∧ (-9223372036854775808 ≤ n ∧ n ≤ 9223372036854775807)) ∧ ∀ z ∈ zs, (Lit.int .i64 z).wf = true := by
  obtain ⟨cs, rfl⟩ := Op.okWide_agg (t := 41) (by kernel_rfl) hv
  have k := Op.flat_arg (ls := [3, 3, 3, 39]) (by kernel_rfl) h hl
  obtain ⟨x0, l, e0, f0, k⟩ := k.cons
  obtain ⟨x1, l, rfl, f1, k⟩ := k.cons
  obtain ⟨x2, l, rfl, f2, k⟩ := k.cons
  obtain ⟨x3, l, rfl, f3, k⟩ := k.cons
  obtain rfl := k.nil_
  obtain rfl := Op.arr_of e0
  obtain ⟨m0, rfl, w0⟩ := f0.int Try.underlying3
  obtain ⟨m1, rfl, w1⟩ := f1.int Try.underlying3
  obtain ⟨m2, rfl, w2⟩ := f2.int Try.underlying3
  obtain ⟨A, c, zs, rfl, h1, h2, h3, h4, h5, h6⟩ := f3.ints Try.underlying39 Try.underlying3 (by kernel_rfl) (fun _ => rfl)
  rw [show Try.prog.bytesOf 3 = 8 from by kernel_rfl] at h3
  exact ⟨m0, m1, m2, A, c, zs, rfl, h1, h3, h4, h5, ⟨Op.wf_i64 w0, Op.wf_i64 w1, Op.wf_i64 w2⟩, h6⟩
end Go.Proofs.Ytjfllpmiajkenaa.Ms
