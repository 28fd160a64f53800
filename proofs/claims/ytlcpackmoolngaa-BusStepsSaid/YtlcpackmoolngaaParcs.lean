/- Lists of parcels and buses: how one reads, how an argument opens into one; slices.Clone of bytes. -/
import Derived.Test.YtlcpackmoolngaaStr
import Derived.Test.YtlcpackmoolngaaOwnMore
import Derived.Test.YtlcpackmoolngaaOpen
namespace Go.Proofs.Ytlcpackmoolngaa.Bu
open Go.ChangeShapes Go.WideShapes Go.ChangeAt Go.RowKit Go.Proofs.Ytlcpackmoolngaa.Mem Go.Proofs.Ytlcpackmoolngaa.Op Go.Proofs.Ytlcpackmoolngaa.Sm
set_option linter.unusedVariables false
set_option linter.unusedSimpArgs false

structure Parc where
  f : Int
  t : Int
  d : Int
  s : Int
  bs : List Nat
instance : Inhabited Parc := ⟨⟨0, 0, 0, 0, []⟩⟩

def parcL (p : Parc) (A : Option Addr) (c : Nat) : List Value := [.int .i64 p.f, .int .i64 p.t, .int .i64 p.d, .int .i64 p.s, .slice A p.bs.length c]

/-- a list of parcels reads so -/
def ParcsAt (w : World) (B : Nat) (A : Option Addr) (ps : List Parc) : Prop :=
  ∃ xs, Rd w B 5 A ps.length xs ∧ ∀ i p, ps[i]? = some p → ∃ a c, (xs.drop (i * 5)).take 5 = parcL p a c ∧ (a = none → c = 0) ∧ p.bs.length ≤ c ∧ p.bs.length ≤ 140737488351232 ∧ Rd w B 1 a p.bs.length (bytesV p.bs)

section
variable {w w' : World} {B B' : Nat} {A : Option Addr} {ps : List Parc}
theorem ParcsAt.keep (h : ParcsAt w B A ps) (hk : ∀ b o, b < B → w'.cell? ⟨b, o, none⟩ = w.cell? ⟨b, o, none⟩) : ParcsAt w' B A ps := by
  obtain ⟨xs, hr, hx⟩ := h
  refine ⟨xs, hr.keep hk, fun i p hp => ?_⟩
  obtain ⟨a, c, h1, h2, h3, h4, h5⟩ := hx i p hp
  exact ⟨a, c, h1, h2, h3, h4, h5.keep hk⟩
theorem ParcsAt.more (h : ParcsAt w B A ps) (hB : B ≤ B') : ParcsAt w B' A ps := by
  obtain ⟨xs, hr, hx⟩ := h
  refine ⟨xs, hr.more hB, fun i p hp => ?_⟩
  obtain ⟨a, c, h1, h2, h3, h4, h5⟩ := hx i p hp
  exact ⟨a, c, h1, h2, h3, h4, h5.more hB⟩
theorem ParcsAt.below (h : ParcsAt w B A ps) (hb : Below B w w') : ParcsAt w' B A ps := h.keep fun b o hp => hb.cell (p := ⟨b, o, none⟩) hp
theorem ParcsAt.drewN (h : ParcsAt w B A ps) (k : Nat) : ParcsAt (w.drewN k) B A ps := h
theorem ParcsAt.drew (h : ParcsAt w B A ps) : ParcsAt w.drew B A ps := h
theorem ParcsAt.nil (w : World) (B : Nat) (A : Option Addr) : ParcsAt w B A [] := ⟨[], Rd.nil _ _ _ _, fun i p h => by simp at h⟩
/-- one of them -/
theorem ParcsAt.at (h : ParcsAt w B A ps) {i : Nat} {p : Parc} (hp : ps[i]? = some p) : ∃ b o a c, A = some ⟨b, o, none⟩ ∧ b < B ∧ w.cell? ⟨b, o + i * 5, none⟩ = some (.int .i64 p.f) ∧ w.cell? ⟨b, o + i * 5 + 1, none⟩ = some (.int .i64 p.t) ∧
    w.cell? ⟨b, o + i * 5 + 2, none⟩ = some (.int .i64 p.d) ∧ w.cell? ⟨b, o + i * 5 + 3, none⟩ = some (.int .i64 p.s) ∧ w.cell? ⟨b, o + i * 5 + 4, none⟩ = some (.slice a p.bs.length c) ∧ (a = none → c = 0) ∧ p.bs.length ≤ c ∧ p.bs.length ≤ 140737488351232 ∧ Rd w B 1 a p.bs.length (bytesV p.bs) := by
  obtain ⟨xs, hr, hx⟩ := h
  obtain ⟨a, c, h1, h2, h3, h4, h5⟩ := hx i p hp
  have hi : i < ps.length := (List.getElem?_eq_some_iff.1 hp).1
  obtain ⟨b, o, e, hb, hc⟩ := hr.2 (by omega)
  have hg : ∀ j v, j < 5 → (parcL p a c)[j]? = some v → w.cell? ⟨b, o + i * 5 + j, none⟩ = some v := fun j v hj hv => by
    rw [← h1, List.getElem?_take, if_pos hj, List.getElem?_drop] at hv
    have := hc _ _ hv
    rwa [← Nat.add_assoc] at this
  exact ⟨b, o, a, c, e, hb, hg 0 _ (by omega) rfl, hg 1 _ (by omega) rfl, hg 2 _ (by omega) rfl, hg 3 _ (by omega) rfl, hg 4 _ (by omega) rfl, h2, h3, h4, h5⟩
end

section
variable {H : Type} {enc : TypeId × Value → H} {W : World} {base : Nat} {spare : Nat → Bool} {held : Bool}
theorem parc_of_cells (hsp : ∀ b, spare b = true) {vs : List Value} (k : Cells enc Try.prog W base spare held [3, 3, 3, 3, 38] vs) :
    ∃ p a c, vs = parcL p a c ∧ (a = none → c = 0) ∧ p.bs.length ≤ c ∧ p.bs.length ≤ 140737488351232 ∧ Rd W W.heap.size 1 a p.bs.length (bytesV p.bs) := by
  obtain ⟨x0, l, rfl, f0, k⟩ := k.cons
  obtain ⟨x1, l, rfl, f1, k⟩ := k.cons
  obtain ⟨x2, l, rfl, f2, k⟩ := k.cons
  obtain ⟨x3, l, rfl, f3, k⟩ := k.cons
  obtain ⟨x4, l, rfl, f4, k⟩ := k.cons
  obtain rfl := k.nil_
  obtain ⟨m0, rfl, w0⟩ := f0.int Try.underlying3
  obtain ⟨m1, rfl, w1⟩ := f1.int Try.underlying3
  obtain ⟨m2, rfl, w2⟩ := f2.int Try.underlying3
  obtain ⟨m3, rfl, w3⟩ := f3.int Try.underlying3
  obtain ⟨A, c, zs, rfl, h1, h2, h3, h4, h5, h6⟩ := f4.ints Try.underlying38 Try.underlying5 (by kernel_rfl) hsp
  rw [show Try.prog.bytesOf 5 = 1 from by kernel_rfl] at h3
  obtain ⟨bs, g1, g2, g3⟩ := bytes_of zs h6
  rw [g1, ← g2] at h5
  rw [← g2] at h1 ⊢
  have hr : reachBytes = 140737488351232 := by decide
  exact ⟨⟨m0, m1, m2, m3, bs⟩, A, c, rfl, h4, h1, by show bs.length ≤ 140737488351232; omega, h5⟩
end

set_option maxRecDepth 100000 in
theorem openBus {H : Type} {enc : TypeId × Value → H} {W : World} {base : Nat} {v : Value} {d : DataW H} {ps : List MemPlace} (hv : Value.okWide Try.prog W .any base 24 v)
    (h : DataW.Trod enc Try.prog W 0 (fun _ => true) true 24 v d ps) (hl : Op.Light Try.prog 24 d) :
    ∃ (now ser : Int) (A : Option Addr) (c : Nat) (qs : List Parc), v = .agg #[.int .i64 now, .int .i64 ser, .slice A qs.length c] ∧ qs.length ≤ c ∧ c * 56 ≤ 140737488351232 ∧ (A = none → c = 0) ∧ ParcsAt W W.heap.size A qs ∧ (Lit.int .i64 now).wf = true ∧ (Lit.int .i64 ser).wf = true := by
  obtain ⟨cs, rfl⟩ := Op.okWide_agg (t := 24) (by kernel_rfl) hv
  have k := Op.flat_arg (ls := [3, 3, 22]) (by kernel_rfl) h hl
  obtain ⟨x0, l, e0, f0, k⟩ := k.cons
  obtain ⟨x1, l, rfl, f1, k⟩ := k.cons
  obtain ⟨x2, l, rfl, f2, k⟩ := k.cons
  obtain rfl := k.nil_
  obtain rfl := Op.arr_of e0
  obtain ⟨m0, rfl, w0⟩ := f0.int Try.underlying3
  obtain ⟨m1, rfl, w1⟩ := f1.int Try.underlying3
  obtain ⟨A, n, c, xs, rfl, h1, h2, h3, h4, h5, h6⟩ := Op.Leaf.slice (le := [3, 3, 3, 3, 38]) Try.underlying22 (by kernel_rfl) (by kernel_rfl) (by simp) (fun _ => rfl) f2
  rw [show Try.prog.bytesOf 52 = 56 from by kernel_rfl] at h3
  obtain ⟨f, hf⟩ := Deep.choose_lt (n := n) (fun i hi => parc_of_cells (fun _ => rfl) (h6 i hi))
  have hlen : ((List.range n).map f).length = n := by simp
  have hr : reachBytes = 140737488351232 := by decide
  refine ⟨m0, m1, A, c, (List.range n).map f, by rw [hlen], by rw [hlen]; exact h1, by omega, h4, ⟨xs, by rw [hlen]; exact h5, fun i m hm => ?_⟩, w0, w1⟩
  have hi : i < n := by have := (List.getElem?_eq_some_iff.1 hm).1; simpa using this
  simp [hi] at hm
  subst hm
  exact hf i hi

/-- a list of parcels in memory of its own -/
def OwnParcs (w : World) (base : Nat) (A : Option Addr) (c : Nat) (ps : List Parc) : Prop :=
  ∃ xs, w.ownsRow base 52 5 (.slice A ps.length c) ps.length xs ∧ ∀ i p, ps[i]? = some p → ∃ a c', (xs.drop (i * 5)).take 5 = parcL p a c' ∧ w.ownsRow base 5 1 (.slice a p.bs.length c') p.bs.length (bytesV p.bs) ∧ p.bs.length ≤ 140737488351232
theorem OwnParcs.at {w : World} {base : Nat} {A : Option Addr} {c : Nat} {ps : List Parc} (h : OwnParcs w base A c ps) : ParcsAt w w.heap.size A ps ∧ (A = none → c = 0) ∧ ps.length ≤ c ∧ ∀ a, A = some a → base ≤ a.block := by
  obtain ⟨xs, ho, hx⟩ := h
  refine ⟨⟨xs, Rd.of_own ho, fun i m hm => ?_⟩, (Mem.own_cap ho).1, (Mem.own_cap ho).2, own_lo ho⟩
  obtain ⟨a, c', h1, h2, h3⟩ := hx i m hm
  exact ⟨a, c', h1, (Mem.own_cap h2).1, (Mem.own_cap h2).2, h3, Rd.of_own h2⟩
theorem OwnParcs.keep {w w' : World} {base base' : Nat} {A : Option Addr} {c : Nat} {ps : List Parc} (h : OwnParcs w base A c ps) (hk : ∀ e size v n xs, w.ownsRow base e size v n xs → w'.ownsRow base' e size v n xs) : OwnParcs w' base' A c ps := by
  obtain ⟨xs, ho, hx⟩ := h
  refine ⟨xs, hk _ _ _ _ _ ho, fun i m hm => ?_⟩
  obtain ⟨a, c', h1, h2, h3⟩ := hx i m hm
  exact ⟨a, c', h1, hk _ _ _ _ _ h2, h3⟩
theorem OwnParcs.below {w w' : World} {base : Nat} {A : Option Addr} {c : Nat} {ps : List Parc} (h : OwnParcs w base A c ps) (hb : Below w.heap.size w w') : OwnParcs w' base A c ps := h.keep fun _ _ _ _ _ h => Nd.ownsRow_below h hb
/-- one more -/
theorem OwnParcs.snoc {w w' : World} {base : Nat} {A A' : Option Addr} {c c' : Nat} {ps : List Parc} {p : Parc} {a : Option Addr} {ca : Nat} {xs : List Value} (hx : ∀ i p, ps[i]? = some p → ∃ a c', (xs.drop (i * 5)).take 5 = parcL p a c' ∧ w.ownsRow base 5 1 (.slice a p.bs.length c') p.bs.length (bytesV p.bs) ∧ p.bs.length ≤ 140737488351232)
    (ho : w.ownsRow base 52 5 (.slice A ps.length c) ps.length xs) (hm : w.ownsRow base 5 1 (.slice a p.bs.length ca) p.bs.length (bytesV p.bs)) (hl : p.bs.length ≤ 140737488351232)
    (ho' : w'.ownsRow base 52 5 (.slice A' (ps.length + 1) c') (ps.length + 1) (xs ++ parcL p a ca)) (hg : w.grownBy w' (Value.slice A ps.length c).ownBlock) : OwnParcs w' base A' c' (ps ++ [p]) := by
  have hne : 52 ≠ 5 := by decide
  have hxl : xs.length = ps.length * 5 := ho.1
  refine ⟨xs ++ parcL p a ca, by rw [List.length_append]; exact ho', fun i m' hi => ?_⟩
  rcases Nat.lt_or_ge i ps.length with h | h
  · rw [List.getElem?_append_left h] at hi
    obtain ⟨a', c1, h1, h2, h3⟩ := hx i m' hi
    refine ⟨a', c1, ?_, Ms.own_kept h2 hg (Ms.own_is ho hne), h3⟩
    rw [List.drop_append_of_le_length (by omega), List.take_append_of_le_length (by rw [List.length_drop]; omega)]
    exact h1
  · rw [List.getElem?_append_right h] at hi
    have hi0 : i = ps.length := by
      have := (List.getElem?_eq_some_iff.1 hi).1
      simp at this; omega
    subst hi0
    simp at hi
    subst hi
    refine ⟨a, ca, ?_, Ms.own_kept hm hg (Ms.own_is ho hne), hl⟩
    rw [List.drop_append, List.drop_of_length_le (by omega), hxl, Nat.sub_self, List.drop_zero, List.nil_append]
    rfl
theorem elemParcs : Elem Try.prog 22 52 (.agg #[.int .i64 0, .int .i64 0, .int .i64 0, .int .i64 0, .slice none 0 0]) 5 56 := ⟨Try.underlying22, by kernel_rfl, rfl, by omega⟩
theorem rd_five (w : World) (cs : List Value) (h4 : cs.length = 5) (e : TypeId) : Rd (w.alloc (.cells cs.toArray e)) (w.heap.size + 1) 5 (some ⟨w.heap.size, 0, none⟩) 1 cs := by
  refine ⟨by omega, fun _ => ⟨w.heap.size, 0, rfl, by omega, fun j u hu => ?_⟩⟩
  have h := (Blk.fresh w e cs.toArray).cell j
  rw [Nat.zero_add, h]
  simpa using hu

set_option maxRecDepth 100000 in
theorem clone_any (A : Option Addr) (c : Nat) (bs : List Nat) (B : Nat) (w : World) (hB : B ≤ w.heap.size) (hA : A = none → c = 0) (hnc : bs.length ≤ c) (hc : bs.length ≤ 140737488351232) (hr : Rd w B 1 A bs.length (bytesV bs)) :
    Calls Try.prog 33 #[.slice A bs.length c] w fun e w' => OwnBytes w w' bs e := by
  cases A with
  | none =>
    have h0 : bs.length = 0 := by have := hA rfl; omega
    obtain rfl := List.eq_nil_of_length_eq_zero h0
    have hq : ∀ w, (binOp .eql 38 (.slice none 0 0) (.slice none 0 0)).run Try.prog w = .ok (.bool true) w := fun w => run_eql_nil_slice w 38 5 none 0 0 0 0 Try.underlying38
    have hc0 := hA rfl
    subst hc0
    simp only [List.length_nil]
    go_enter Try.func33, Try.ntmps33
    go_wp2_with fail
    go_ret
    exact ⟨none, 0, rfl, World.ownsRow_nil _ _ _ _, Below.refl _ _⟩
  | some a =>
    have HR := Lib.hid (hr.alloc hB (.cells #[] 5))
    have HZ : Hid ((w.alloc (.cells #[] 5)).ownsRow w.heap.size 5 1 (.slice (some ⟨w.heap.size, 0, none⟩) 0 0) 0 []) := Lib.hid ⟨rfl, .inr ⟨w.heap.size, 0, #[], rfl, Nat.le_refl _, Blk.fresh _ _ _, Nat.le_refl _, by unfold maxLen; omega, rfl, rfl⟩⟩
    have HB := Lib.hid ((Below.refl w.heap.size w).alloc (Nat.le_refl _) (.cells #[] 5))
    clear hr
    have hq : ∀ w, (binOp .eql 38 (.slice (some a) bs.length c) (.slice none 0 0)).run Try.prog w = .ok (.bool false) w := fun w => Lib.run_eql_slice_nil w 38 5 (some a) bs.length c 0 0 Try.underlying38
    go_enter Try.func33, Try.ntmps33
    go_wp2_with (at_builtin; refine wpList_append_rd _ rfl (.tmp 5) (.tmp 6) 38 rfl (base := w.heap.size) elemBytes rfl HZ.out rfl (fun h => by cases h) HR.out (bytesV_one bs) (by unfold maxLen; omega) (by omega) HB.out.size ?_; intro A' c' w1 hA' hown hg; (try simp only [List.nil_append, Nat.zero_add] at hown); (try simp only [Nat.zero_add]); have HO := Lib.hid hown; have HG := Lib.hid hg; clear hown hg hA')
    go_ret
    exact ⟨A', c', rfl, HO.out, HB.out.grown HG.out HB.out.size (fun g e => by have e : some w.heap.size = some g := e; injection e with e; omega)⟩
end Go.Proofs.Ytlcpackmoolngaa.Bu
