/- Lists of messages: how one reads, how an argument opens into one. -/
import Derived.Test.YtjfllpmiajkenaaMsg
import Derived.Test.YtjfllpmiajkenaaRws
import Derived.Test.YtjfllpmiajkenaaOwnCap
namespace Go.Proofs.Ytjfllpmiajkenaa.Ms
open Go.ChangeShapes Go.WideShapes Go.ChangeAt Go.RowKit Go.Proofs.Ytjfllpmiajkenaa.Mem Go.Proofs.Ytjfllpmiajkenaa.Op
set_option linter.unusedVariables false

structure Msg where
  k : Int
  f : Int
  n : Int
  zs : List Int
instance : Inhabited Msg := ⟨⟨0, 0, 0, []⟩⟩

def msgL (m : Msg) (A : Option Addr) (c : Nat) : List Value := [.int .i64 m.k, .int .i64 m.f, .int .i64 m.n, .slice A m.zs.length c]

/-- a list of messages reads so -/
def MsgsAt (w : World) (B : Nat) (A : Option Addr) (ms : List Msg) : Prop :=
  ∃ xs, Rd w B 4 A ms.length xs ∧ ∀ i m, ms[i]? = some m → ∃ a c, (xs.drop (i * 4)).take 4 = msgL m a c ∧ (a = none → c = 0) ∧ m.zs.length ≤ c ∧ m.zs.length * 8 ≤ 140737488351232 ∧ Rd w B 1 a m.zs.length (intsV m.zs)

section
variable {w w' : World} {B B' : Nat} {A : Option Addr} {ms : List Msg}
theorem MsgsAt.keep (h : MsgsAt w B A ms) (hk : ∀ b o, b < B → w'.cell? ⟨b, o, none⟩ = w.cell? ⟨b, o, none⟩) : MsgsAt w' B A ms := by
  obtain ⟨xs, hr, hx⟩ := h
  refine ⟨xs, hr.keep hk, fun i m hm => ?_⟩
  obtain ⟨a, c, h1, h2, h3, h4, h5⟩ := hx i m hm
  exact ⟨a, c, h1, h2, h3, h4, h5.keep hk⟩
theorem MsgsAt.more (h : MsgsAt w B A ms) (hB : B ≤ B') : MsgsAt w B' A ms := by
  obtain ⟨xs, hr, hx⟩ := h
  refine ⟨xs, hr.more hB, fun i m hm => ?_⟩
  obtain ⟨a, c, h1, h2, h3, h4, h5⟩ := hx i m hm
  exact ⟨a, c, h1, h2, h3, h4, h5.more hB⟩
theorem MsgsAt.below (h : MsgsAt w B A ms) (hb : Below B w w') : MsgsAt w' B A ms := h.keep fun b o hp => hb.cell (p := ⟨b, o, none⟩) hp
theorem MsgsAt.drewN (h : MsgsAt w B A ms) (k : Nat) : MsgsAt (w.drewN k) B A ms := h
theorem MsgsAt.drew (h : MsgsAt w B A ms) : MsgsAt w.drew B A ms := h
theorem MsgsAt.alloc (h : MsgsAt w B A ms) (hB : B ≤ w.heap.size) (o : Obj) : MsgsAt (w.alloc o) B A ms :=
  h.keep fun b o' hp => World.cell?_alloc_lt w o _ (show b < w.heap.size by omega)
theorem MsgsAt.nil (w : World) (B : Nat) (A : Option Addr) : MsgsAt w B A [] := ⟨[], Rd.nil _ _ _ _, fun i m h => by simp at h⟩
/-- one of them -/
theorem MsgsAt.at (h : MsgsAt w B A ms) {i : Nat} {m : Msg} (hm : ms[i]? = some m) : ∃ b o a c, A = some ⟨b, o, none⟩ ∧ b < B ∧ w.cell? ⟨b, o + i * 4, none⟩ = some (.int .i64 m.k) ∧ w.cell? ⟨b, o + i * 4 + 1, none⟩ = some (.int .i64 m.f) ∧
    w.cell? ⟨b, o + i * 4 + 2, none⟩ = some (.int .i64 m.n) ∧ w.cell? ⟨b, o + i * 4 + 3, none⟩ = some (.slice a m.zs.length c) ∧ (a = none → c = 0) ∧ m.zs.length ≤ c ∧ m.zs.length * 8 ≤ 140737488351232 ∧ Rd w B 1 a m.zs.length (intsV m.zs) := by
  obtain ⟨xs, hr, hx⟩ := h
  obtain ⟨a, c, h1, h2, h3, h4, h5⟩ := hx i m hm
  have hi : i < ms.length := (List.getElem?_eq_some_iff.1 hm).1
  obtain ⟨b, o, e, hb, hc⟩ := hr.2 (by omega)
  have hg : ∀ j v, j < 4 → (msgL m a c)[j]? = some v → w.cell? ⟨b, o + i * 4 + j, none⟩ = some v := fun j v hj hv => by
    rw [← h1, List.getElem?_take, if_pos hj, List.getElem?_drop] at hv
    have := hc _ _ hv
    rwa [← Nat.add_assoc] at this
  exact ⟨b, o, a, c, e, hb, hg 0 _ (by omega) rfl, hg 1 _ (by omega) rfl, hg 2 _ (by omega) rfl, hg 3 _ (by omega) rfl, h2, h3, h4, h5⟩
end

section
variable {H : Type} {enc : TypeId × Value → H} {W : World} {base : Nat} {spare : Nat → Bool} {held : Bool}
theorem msg_of_cells (hsp : ∀ b, spare b = true) {vs : List Value} (k : Cells enc Try.prog W base spare held [3, 3, 3, 39] vs) :
    ∃ m a c, vs = msgL m a c ∧ (a = none → c = 0) ∧ m.zs.length ≤ c ∧ m.zs.length * 8 ≤ 140737488351232 ∧ Rd W W.heap.size 1 a m.zs.length (intsV m.zs) ∧ ∀ z ∈ m.zs, (Lit.int .i64 z).wf = true := by
  obtain ⟨x0, l, rfl, f0, k⟩ := k.cons
  obtain ⟨x1, l, rfl, f1, k⟩ := k.cons
  obtain ⟨x2, l, rfl, f2, k⟩ := k.cons
  obtain ⟨x3, l, rfl, f3, k⟩ := k.cons
  obtain rfl := k.nil_
  obtain ⟨m0, rfl, w0⟩ := f0.int Try.underlying3
  obtain ⟨m1, rfl, w1⟩ := f1.int Try.underlying3
  obtain ⟨m2, rfl, w2⟩ := f2.int Try.underlying3
  obtain ⟨A, c, zs, rfl, h1, h2, h3, h4, h5, h6⟩ := f3.ints Try.underlying39 Try.underlying3 (by kernel_rfl) hsp
  rw [show Try.prog.bytesOf 3 = 8 from by kernel_rfl] at h3
  exact ⟨⟨m0, m1, m2, zs⟩, A, c, rfl, h4, h1, by show zs.length * 8 ≤ 140737488351232; unfold reachBytes at h3; omega, h5, h6⟩
end

set_option maxRecDepth 100000 in
theorem openMsgs2 {H : Type} {enc : TypeId × Value → H} {W : World} {base : Nat} {v : Value} {d : DataW H} {ps : List MemPlace} (hv : Value.okWide Try.prog W .any base 38 v)
    (h : DataW.Trod enc Try.prog W 0 (fun _ => true) true 38 v d ps) (hl : Op.Light Try.prog 38 d) :
    ∃ (A : Option Addr) (c : Nat) (ms : List Msg), v = .slice A ms.length c ∧ ms.length ≤ c ∧ c * 48 ≤ 140737488351232 ∧ (A = none → c = 0) ∧ MsgsAt W W.heap.size A ms ∧ ∀ m ∈ ms, ∀ z ∈ m.zs, (Lit.int .i64 z).wf = true := by
  obtain ⟨a0, len, cap, rfl⟩ := okWide_slice Try.underlying38 hv
  obtain ⟨n0, hn⟩ := h
  obtain ⟨A, n, c, xs, e, h1, h2, h3, h4, h5, h6⟩ := Op.Leaf.slice (enc := enc) (held := true) (base := 0) (spare := fun _ => true) (w := W) (v := .slice a0 len cap) (le := [3, 3, 3, 39]) Try.underlying38 (by kernel_rfl) (by kernel_rfl) (by simp) (fun _ => rfl) ⟨n0, _, hn, hl⟩
  rw [show Try.prog.bytesOf 41 = 48 from by kernel_rfl] at h3
  obtain ⟨f, hf⟩ := Deep.choose_lt (n := n) (fun i hi => msg_of_cells (fun _ => rfl) (h6 i hi))
  rw [e]
  have hlen : ((List.range n).map f).length = n := by simp
  refine ⟨A, c, (List.range n).map f, by rw [hlen], by rw [hlen]; exact h1, by unfold reachBytes at h3; omega, h4, ⟨xs, by rw [hlen]; exact h5, fun i m hm => ?_⟩, fun m hm => ?_⟩
  · have hi : i < n := by have := (List.getElem?_eq_some_iff.1 hm).1; simpa using this
    simp [hi] at hm
    subst hm
    obtain ⟨a, c, q1, q2, q3, q4, q5, q6⟩ := hf i hi
    exact ⟨a, c, q1, q2, q3, q4, q5⟩
  · obtain ⟨i, hi, rfl⟩ := List.mem_map.1 hm
    obtain ⟨a, c, q1, q2, q3, q4, q5, q6⟩ := hf i (List.mem_range.1 hi)
    exact q6
set_option maxRecDepth 100000 in
theorem openMsgs {H : Type} {enc : TypeId × Value → H} {W : World} {base : Nat} {v : Value} {d : DataW H} {ps : List MemPlace} (hv : Value.okWide Try.prog W .any base 38 v)
    (h : DataW.Trod enc Try.prog W 0 (fun _ => true) true 38 v d ps) (hl : Op.Light Try.prog 38 d) :
    ∃ (A : Option Addr) (c : Nat) (ms : List Msg), v = .slice A ms.length c ∧ ms.length ≤ c ∧ c * 48 ≤ 140737488351232 ∧ (A = none → c = 0) ∧ MsgsAt W W.heap.size A ms := by
  obtain ⟨A, c, ms, h1, h2, h3, h4, h5, _⟩ := openMsgs2 hv h hl
  exact ⟨A, c, ms, h1, h2, h3, h4, h5⟩
end Go.Proofs.Ytjfllpmiajkenaa.Ms
