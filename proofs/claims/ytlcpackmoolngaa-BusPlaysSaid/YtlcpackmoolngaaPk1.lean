import Derived.Test.YtlcpackmoolngaaPk0
import Derived.Deep.MidRow
import Derived.Laws.StructEq
import Derived.Laws.Tables
import Derived.Laws.OwnMore
namespace Go.Proofs.Ytlcpackmoolngaa.Nd
open Go.RowKit Go.Proofs.Ytlcpackmoolngaa.Mem
set_option linter.unusedVariables false
theorem ownsRow_below {w w' : World} {base : Nat} {e : TypeId} {size : Nat} {v : Value} {n : Nat} {xs : List Value} (h : w.ownsRow base e size v n xs) (hb : Below w.heap.size w w') : w'.ownsRow base e size v n xs :=
  h.kept (row := none) ⟨hb.os, hb.tape, hb.output, hb.size, fun g hg _ => hb.block g hg⟩ (by cases v.ownBlock <;> simp)
theorem own_setRow {w : World} {base : Nat} {e : TypeId} {size : Nat} {v : Value} {n : Nat} {xs : List Value} (h : w.ownsRow base e size v n xs) {g : Nat} (hg : g < base) (R : Array Value) : (w.setRow g R).ownsRow base e size v n xs := by
  obtain ⟨hl, h | ⟨b, cap, cur, hv, hb, hh, hr⟩⟩ := h
  · exact ⟨hl, .inl h⟩
  · exact ⟨hl, .inr ⟨b, cap, cur, hv, hb, (setRow_other w g b R (by omega)).trans hh, hr⟩⟩
end Go.Proofs.Ytlcpackmoolngaa.Nd
namespace Go.Proofs.Ytlcpackmoolngaa.Ms
open Go.RowKit Go.Proofs.Ytlcpackmoolngaa.Mem
theorem own_kept {w w' : World} {base : Nat} {e : TypeId} {size : Nat} {v : Value} {n : Nat} {xs : List Value} {row : Option Nat} (h : w.ownsRow base e size v n xs) (hg : w.grownBy w' row)
    (hr : ∀ g, row = some g → ∃ cur t, w.heap[g]? = some (.cells cur t (0, 0)) ∧ t ≠ e) : w'.ownsRow base e size v n xs := by
  obtain ⟨hl, h | ⟨b, cap, cur, hv, hb, hh, hc⟩⟩ := h
  · exact ⟨hl, .inl h⟩
  · have hlt : b < w.heap.size := (Array.getElem?_eq_some_iff.1 hh).1
    have hne : some b ≠ row := fun e1 => by
      obtain ⟨cur', t, h1, h2⟩ := hr b e1.symm
      rw [h1] at hh
      injection hh with hh
      injection hh with _ h4 _
      exact h2 h4
    exact ⟨hl, .inr ⟨b, cap, cur, hv, hb, (hg.block b hlt hne).trans hh, hc⟩⟩
theorem own_is {w : World} {base : Nat} {e : TypeId} {size : Nat} {v : Value} {n : Nat} {xs : List Value} (h : w.ownsRow base e size v n xs) {t' : TypeId} (ht : e ≠ t') : ∀ g, v.ownBlock = some g → ∃ cur t, w.heap[g]? = some (.cells cur t (0, 0)) ∧ t ≠ t' := fun g hg => by
  obtain ⟨hl, ⟨rfl, _⟩ | ⟨b, cap, cur, rfl, hb, hh, hc⟩⟩ := h
  · cases hg
  · injection hg with hg
    subst hg
    exact ⟨cur, e, hh, ht⟩
end Go.Proofs.Ytlcpackmoolngaa.Ms
namespace Go.Proofs.Ytlcpackmoolngaa.Vt
open Go.RowKit Go.Proofs.Ytlcpackmoolngaa.Mem
theorem own_setCell {w : World} {base g : Nat} {e : TypeId} {size n : Nat} {v : Value} {xs : List Value} (h : w.ownsRow base e size v n xs) (hg : g < base) {i : Nat} (u : Value) : (w.setCell ⟨g, i, none⟩ u).ownsRow base e size v n xs := by
  obtain ⟨hl, h | ⟨b, cap, cur, hv, hb, hh, hr⟩⟩ := h
  · exact ⟨hl, .inl h⟩
  · exact ⟨hl, .inr ⟨b, cap, cur, hv, hb, (Below.heap_setCell w ⟨g, i, none⟩ u b (by show b ≠ g; omega)).trans hh, hr⟩⟩
end Go.Proofs.Ytlcpackmoolngaa.Vt
namespace Go.Proofs.Ytlcpackmoolngaa.Bu
open Go.ChangeShapes Go.WideShapes Go.ChangeAt Go.RowKit Go.Proofs.Ytlcpackmoolngaa.Mem Go.Proofs.Ytlcpackmoolngaa.Op Go.Proofs.Ytlcpackmoolngaa.Sm
set_option linter.unusedVariables false
set_option linter.unusedSimpArgs false
structure Parc where
  f : Int
  t : Int
  d : Int
  s : Int
  bs : List Nat
instance : Inhabited Parc := ⟨⟨0, 0, 0, 0, []⟩⟩
def parcL (p : Parc) (A : Option Addr) (c : Nat) : List Value := [.int .i64 p.f, .int .i64 p.t, .int .i64 p.d, .int .i64 p.s, .slice A p.bs.length c]
def ParcsAt (w : World) (B : Nat) (A : Option Addr) (ps : List Parc) : Prop :=
  ∃ xs, Rd w B 5 A ps.length xs ∧ ∀ i p, ps[i]? = some p → ∃ a c, (xs.drop (i * 5)).take 5 = parcL p a c ∧ (a = none → c = 0) ∧ p.bs.length ≤ c ∧ p.bs.length ≤ 140737488351232 ∧ Rd w B 1 a p.bs.length (bytesV p.bs)
section
variable {w w' : World} {B B' : Nat} {A : Option Addr} {ps : List Parc}
theorem ParcsAt.keep (h : ParcsAt w B A ps) (hk : ∀ b o, b < B → w'.cell? ⟨b, o, none⟩ = w.cell? ⟨b, o, none⟩) : ParcsAt w' B A ps := by
  obtain ⟨xs, hr, hx⟩ := h
  refine ⟨xs, hr.keep hk, fun i p hp => ?_⟩
  obtain ⟨a, c, h1, h2, h3, h4, h5⟩ := hx i p hp
  exact ⟨a, c, h1, h2, h3, h4, h5.keep hk⟩
theorem ParcsAt.more (h : ParcsAt w B A ps) (hB : B ≤ B') : ParcsAt w B' A ps := by
  obtain ⟨xs, hr, hx⟩ := h
  refine ⟨xs, hr.more hB, fun i p hp => ?_⟩
  obtain ⟨a, c, h1, h2, h3, h4, h5⟩ := hx i p hp
  exact ⟨a, c, h1, h2, h3, h4, h5.more hB⟩
theorem ParcsAt.below (h : ParcsAt w B A ps) (hb : Below B w w') : ParcsAt w' B A ps := h.keep fun b o hp => hb.cell (p := ⟨b, o, none⟩) hp
theorem ParcsAt.drewN (h : ParcsAt w B A ps) (k : Nat) : ParcsAt (w.drewN k) B A ps := h
theorem ParcsAt.drew (h : ParcsAt w B A ps) : ParcsAt w.drew B A ps := h
theorem ParcsAt.nil (w : World) (B : Nat) (A : Option Addr) : ParcsAt w B A [] := ⟨[], Rd.nil _ _ _ _, fun i p h => by simp at h⟩
theorem ParcsAt.at (h : ParcsAt w B A ps) {i : Nat} {p : Parc} (hp : ps[i]? = some p) : ∃ b o a c, A = some ⟨b, o, none⟩ ∧ b < B ∧ w.cell? ⟨b, o + i * 5, none⟩ = some (.int .i64 p.f) ∧ w.cell? ⟨b, o + i * 5 + 1, none⟩ = some (.int .i64 p.t) ∧
    w.cell? ⟨b, o + i * 5 + 2, none⟩ = some (.int .i64 p.d) ∧ w.cell? ⟨b, o + i * 5 + 3, none⟩ = some (.int .i64 p.s) ∧ w.cell? ⟨b, o + i * 5 + 4, none⟩ = some (.slice a p.bs.length c) ∧ (a = none → c = 0) ∧ p.bs.length ≤ c ∧ p.bs.length ≤ 140737488351232 ∧ Rd w B 1 a p.bs.length (bytesV p.bs) := by
  obtain ⟨xs, hr, hx⟩ := h
  obtain ⟨a, c, h1, h2, h3, h4, h5⟩ := hx i p hp
  have hi : i < ps.length := (List.getElem?_eq_some_iff.1 hp).1
  obtain ⟨b, o, e, hb, hc⟩ := hr.2 (by omega)
  have hg : ∀ j v, j < 5 → (parcL p a c)[j]? = some v → w.cell? ⟨b, o + i * 5 + j, none⟩ = some v := fun j v hj hv => by
    rw [← h1, List.getElem?_take, if_pos hj, List.getElem?_drop] at hv
    have := hc _ _ hv
    rwa [← Nat.add_assoc] at this
  exact ⟨b, o, a, c, e, hb, hg 0 _ (by omega) rfl, hg 1 _ (by omega) rfl, hg 2 _ (by omega) rfl, hg 3 _ (by omega) rfl, hg 4 _ (by omega) rfl, h2, h3, h4, h5⟩
end
section
variable {H : Type} {enc : TypeId × Value → H} {W : World} {base : Nat} {spare : Nat → Bool} {held : Bool}
theorem parc_of_cells (hsp : ∀ b, spare b = true) {vs : List Value} (k : Cells enc Try.prog W base spare held [3, 3, 3, 3, 38] vs) :
    ∃ p a c, vs = parcL p a c ∧ (a = none → c = 0) ∧ p.bs.length ≤ c ∧ p.bs.length ≤ 140737488351232 ∧ Rd W W.heap.size 1 a p.bs.length (bytesV p.bs) := by
  obtain ⟨x0, l, rfl, f0, k⟩ := k.cons
  obtain ⟨x1, l, rfl, f1, k⟩ := k.cons
  obtain ⟨x2, l, rfl, f2, k⟩ := k.cons
  obtain ⟨x3, l, rfl, f3, k⟩ := k.cons
  obtain ⟨x4, l, rfl, f4, k⟩ := k.cons
  obtain rfl := k.nil_
  obtain ⟨m0, rfl, w0⟩ := f0.int Try.underlying3
  obtain ⟨m1, rfl, w1⟩ := f1.int Try.underlying3
  obtain ⟨m2, rfl, w2⟩ := f2.int Try.underlying3
  obtain ⟨m3, rfl, w3⟩ := f3.int Try.underlying3
  obtain ⟨A, c, zs, rfl, h1, h2, h3, h4, h5, h6⟩ := f4.ints Try.underlying38 Try.underlying5 (by kernel_rfl) hsp
  rw [show Try.prog.bytesOf 5 = 1 from by kernel_rfl] at h3
  obtain ⟨bs, g1, g2, g3⟩ := bytes_of zs h6
  rw [g1, ← g2] at h5
  rw [← g2] at h1 ⊢
  have hr : reachBytes = 140737488351232 := by decide
  exact ⟨⟨m0, m1, m2, m3, bs⟩, A, c, rfl, h4, h1, by show bs.length ≤ 140737488351232; omega, h5⟩
end
def OwnParcs (w : World) (base : Nat) (A : Option Addr) (c : Nat) (ps : List Parc) : Prop :=
  ∃ xs, w.ownsRow base 52 5 (.slice A ps.length c) ps.length xs ∧ ∀ i p, ps[i]? = some p → ∃ a c', (xs.drop (i * 5)).take 5 = parcL p a c' ∧ w.ownsRow base 5 1 (.slice a p.bs.length c') p.bs.length (bytesV p.bs) ∧ p.bs.length ≤ 140737488351232
theorem OwnParcs.at {w : World} {base : Nat} {A : Option Addr} {c : Nat} {ps : List Parc} (h : OwnParcs w base A c ps) : ParcsAt w w.heap.size A ps ∧ (A = none → c = 0) ∧ ps.length ≤ c ∧ ∀ a, A = some a → base ≤ a.block := by
  obtain ⟨xs, ho, hx⟩ := h
  refine ⟨⟨xs, Rd.of_own ho, fun i m hm => ?_⟩, (Mem.own_cap ho).1, (Mem.own_cap ho).2, own_lo ho⟩
  obtain ⟨a, c', h1, h2, h3⟩ := hx i m hm
  exact ⟨a, c', h1, (Mem.own_cap h2).1, (Mem.own_cap h2).2, h3, Rd.of_own h2⟩
theorem OwnParcs.keep {w w' : World} {base base' : Nat} {A : Option Addr} {c : Nat} {ps : List Parc} (h : OwnParcs w base A c ps) (hk : ∀ e size v n xs, w.ownsRow base e size v n xs → w'.ownsRow base' e size v n xs) : OwnParcs w' base' A c ps := by
  obtain ⟨xs, ho, hx⟩ := h
  refine ⟨xs, hk _ _ _ _ _ ho, fun i m hm => ?_⟩
  obtain ⟨a, c', h1, h2, h3⟩ := hx i m hm
  exact ⟨a, c', h1, hk _ _ _ _ _ h2, h3⟩
theorem OwnParcs.below {w w' : World} {base : Nat} {A : Option Addr} {c : Nat} {ps : List Parc} (h : OwnParcs w base A c ps) (hb : Below w.heap.size w w') : OwnParcs w' base A c ps := h.keep fun _ _ _ _ _ h => Nd.ownsRow_below h hb
theorem OwnParcs.snoc {w w' : World} {base : Nat} {A A' : Option Addr} {c c' : Nat} {ps : List Parc} {p : Parc} {a : Option Addr} {ca : Nat} {xs : List Value} (hx : ∀ i p, ps[i]? = some p → ∃ a c', (xs.drop (i * 5)).take 5 = parcL p a c' ∧ w.ownsRow base 5 1 (.slice a p.bs.length c') p.bs.length (bytesV p.bs) ∧ p.bs.length ≤ 140737488351232)
    (ho : w.ownsRow base 52 5 (.slice A ps.length c) ps.length xs) (hm : w.ownsRow base 5 1 (.slice a p.bs.length ca) p.bs.length (bytesV p.bs)) (hl : p.bs.length ≤ 140737488351232)
    (ho' : w'.ownsRow base 52 5 (.slice A' (ps.length + 1) c') (ps.length + 1) (xs ++ parcL p a ca)) (hg : w.grownBy w' (Value.slice A ps.length c).ownBlock) : OwnParcs w' base A' c' (ps ++ [p]) := by
  have hne : 52 ≠ 5 := by decide
  have hxl : xs.length = ps.length * 5 := ho.1
  refine ⟨xs ++ parcL p a ca, by rw [List.length_append]; exact ho', fun i m' hi => ?_⟩
  rcases Nat.lt_or_ge i ps.length with h | h
  · rw [List.getElem?_append_left h] at hi
    obtain ⟨a', c1, h1, h2, h3⟩ := hx i m' hi
    refine ⟨a', c1, ?_, Ms.own_kept h2 hg (Ms.own_is ho hne), h3⟩
    rw [List.drop_append_of_le_length (by omega), List.take_append_of_le_length (by rw [List.length_drop]; omega)]
    exact h1
  · rw [List.getElem?_append_right h] at hi
    have hi0 : i = ps.length := by
      have := (List.getElem?_eq_some_iff.1 hi).1
      simp at this; omega
    subst hi0
    simp at hi
    subst hi
    refine ⟨a, ca, ?_, Ms.own_kept hm hg (Ms.own_is ho hne), hl⟩
    rw [List.drop_append, List.drop_of_length_le (by omega), hxl, Nat.sub_self, List.drop_zero, List.nil_append]
    rfl
theorem elemParcs : Elem Try.prog 22 52 (.agg #[.int .i64 0, .int .i64 0, .int .i64 0, .int .i64 0, .slice none 0 0]) 5 56 := ⟨Try.underlying22, by kernel_rfl, rfl, by omega⟩
theorem rd_five (w : World) (cs : List Value) (h4 : cs.length = 5) (e : TypeId) : Rd (w.alloc (.cells cs.toArray e)) (w.heap.size + 1) 5 (some ⟨w.heap.size, 0, none⟩) 1 cs := by
  refine ⟨by omega, fun _ => ⟨w.heap.size, 0, rfl, by omega, fun j u hu => ?_⟩⟩
  have h := (Blk.fresh w e cs.toArray).cell j
  rw [Nat.zero_add, h]
  simpa using hu
set_option maxRecDepth 100000 in
theorem clone_any (A : Option Addr) (c : Nat) (bs : List Nat) (B : Nat) (w : World) (hB : B ≤ w.heap.size) (hA : A = none → c = 0) (hnc : bs.length ≤ c) (hc : bs.length ≤ 140737488351232) (hr : Rd w B 1 A bs.length (bytesV bs)) :
    Calls Try.prog 33 #[.slice A bs.length c] w fun e w' => OwnBytes w w' bs e := by
  cases A with
  | none =>
    have h0 : bs.length = 0 := by have := hA rfl; omega
    obtain rfl := List.eq_nil_of_length_eq_zero h0
    have hq : ∀ w, (binOp .eql 38 (.slice none 0 0) (.slice none 0 0)).run Try.prog w = .ok (.bool true) w := fun w => run_eql_nil_slice w 38 5 none 0 0 0 0 Try.underlying38
    have hc0 := hA rfl
    subst hc0
    simp only [List.length_nil]
    go_enter Try.func33, Try.ntmps33
    go_wp2_with fail
    go_ret
    exact ⟨none, 0, rfl, World.ownsRow_nil _ _ _ _, Below.refl _ _⟩
  | some a =>
    have HR := Lib.hid (hr.alloc hB (.cells #[] 5))
    have HZ : Hid ((w.alloc (.cells #[] 5)).ownsRow w.heap.size 5 1 (.slice (some ⟨w.heap.size, 0, none⟩) 0 0) 0 []) := Lib.hid ⟨rfl, .inr ⟨w.heap.size, 0, #[], rfl, Nat.le_refl _, Blk.fresh _ _ _, Nat.le_refl _, by unfold maxLen; omega, rfl, rfl⟩⟩
    have HB := Lib.hid ((Below.refl w.heap.size w).alloc (Nat.le_refl _) (.cells #[] 5))
    clear hr
    have hq : ∀ w, (binOp .eql 38 (.slice (some a) bs.length c) (.slice none 0 0)).run Try.prog w = .ok (.bool false) w := fun w => Lib.run_eql_slice_nil w 38 5 (some a) bs.length c 0 0 Try.underlying38
    go_enter Try.func33, Try.ntmps33
    go_wp2_with (at_builtin; refine wpList_append_rd _ rfl (.tmp 5) (.tmp 6) 38 rfl (base := w.heap.size) elemBytes rfl HZ.out rfl (fun h => by cases h) HR.out (bytesV_one bs) (by unfold maxLen; omega) (by omega) HB.out.size ?_; intro A' c' w1 hA' hown hg; (try simp only [List.nil_append, Nat.zero_add] at hown); (try simp only [Nat.zero_add]); have HO := Lib.hid hown; have HG := Lib.hid hg; clear hown hg hA')
    go_ret
    exact ⟨A', c', rfl, HO.out, HB.out.grown HG.out HB.out.size (fun g e => by have e : some w.heap.size = some g := e; injection e with e; omega)⟩
end Go.Proofs.Ytlcpackmoolngaa.Bu
namespace Go.Proofs.Ytlcpackmoolngaa.Flat
open Go.RowKit Go.Proofs.Ytlcpackmoolngaa.Mem
def eqFieldsOK (P : Program) (L : TypeId → Option (List Bool)) : Nat → List Field → Option (List Bool)
  | _, [] => some []
  | off, f :: fs =>
    match L f.type with
    | none => none
    | some l =>
      if f.offset = off ∧ f.name ≠ "_" ∧ (P.info? f.type).map (·.size) = some l.length then
        match eqFieldsOK P L (off + l.length) fs with
        | none => none
        | some r => some (l ++ r)
      else none
def eqOK (P : Program) : Nat → TypeId → Option (List Bool)
  | 0, _ => none
  | d + 1, t =>
    match P.underlying t with
    | some .bool => some [false]
    | some (.int _) => some [true]
    | some (.struct fs) => if P.stoodInHeld t = false then eqFieldsOK P (eqOK P d) 0 fs.toList else none
    | some (.array n e) =>
      match eqOK P d e with
      | none => none
      | some l => if (P.info? e).map (·.size) = some l.length then some (List.replicate n l).flatten else none
    | _ => none
def Typed : List Bool → List Value → Prop
  | [], [] => True
  | b :: bs, v :: vs => (match b with | true => ∃ k n, v = Value.int k n | false => ∃ c, v = Value.bool c) ∧ Typed bs vs
  | _, _ => False
theorem Typed.length : ∀ {bs : List Bool} {vs : List Value}, Typed bs vs → vs.length = bs.length
  | [], [], _ => rfl
  | _ :: _, _ :: _, h => by simp [Typed.length h.2]
  | [], _ :: _, h => h.elim
  | _ :: _, [], h => h.elim
theorem Typed.split : ∀ {a b : List Bool} {vs : List Value}, Typed (a ++ b) vs → Typed a (vs.take a.length) ∧ Typed b (vs.drop a.length)
  | [], _, _, h => ⟨by simp [Typed], h⟩
  | _ :: a, b, [], h => h.elim
  | x :: a, b, v :: vs, h => by
    obtain ⟨h1, h2⟩ := h
    obtain ⟨h3, h4⟩ := Typed.split (a := a) h2
    exact ⟨⟨h1, by simpa using h3⟩, by simpa using h4⟩
section
variable {P : Program}
theorem run_isAgg {t : TypeId} {d : TypeDesc} (hu : P.underlying t = some d) (w : World) : (isAgg t).run P w = .ok d.isRow w := by
  unfold isAgg
  rw [Sem.run_bind, run_underlying hu w]
  cases d <;> rfl
theorem run_part_row {t : TypeId} {d : TypeDesc} (hu : P.underlying t = some d) (hd : d.isRow = true) {n : Nat} (hi : (P.info? t).map (·.size) = some n) (cs : Array Value) (off : Nat) (w : World) :
    (part t cs off).run P w = .ok (.agg (cs.extract off (off + n))) w := by
  obtain ⟨i, hq, hs⟩ := Option.map_eq_some_iff.1 hi
  unfold part
  simp [Sem.run_bind, run_isAgg hu, hd, sizeOf, typeInfo, hq, hs]
theorem run_part_one {t : TypeId} {d : TypeDesc} (hu : P.underlying t = some d) (hd : d.isRow = false) (cs : Array Value) (off : Nat) (v : Value) (hv : cs[off]? = some v) (w : World) :
    (part t cs off).run P w = .ok v w := by
  unfold part
  simp [Sem.run_bind, run_isAgg hu, hd, hv]
def Refl (P : Program) (d : Nat) (t : TypeId) (ls : List Bool) : Prop :=
  ∀ (xs : Array Value) (off : Nat), Typed ls ((xs.toList.drop off).take ls.length) → (P.info? t).map (·.size) = some ls.length → ∀ w : World, ∃ v, (part t xs off).run P w = .ok v w ∧ ∀ d', d ≤ d' → (Op.equalIn d' t v v).run P w = .ok true w
theorem fields_refl {d : Nat} {L : TypeId → Option (List Bool)} (ih : ∀ t ls, L t = some ls → Refl P d t ls) (xs : Array Value) {d' : Nat} (hd : d ≤ d') (w : World) :
    ∀ (fs : List Field) (off : Nat) (ls : List Bool), eqFieldsOK P L off fs = some ls → Typed ls ((xs.toList.drop off).take ls.length) → (Op.eqFields d' xs xs fs).run P w = .ok true w
  | [], _, _, _, _ => by simp [Op.eqFields]
  | f :: fs, off, ls, h, ht => by
    unfold eqFieldsOK at h
    cases hL : L f.type with
    | none => simp [hL] at h
    | some l =>
      simp only [hL] at h
      split at h
      · rename_i hc
        obtain ⟨ho, hn, hs⟩ := hc
        cases hr : eqFieldsOK P L (off + l.length) fs with
        | none => simp [hr] at h
        | some r =>
          simp only [hr, Option.some.injEq] at h
          subst h
          obtain ⟨t1, t2⟩ := ht.split
          have e1 : ((xs.toList.drop off).take (l ++ r).length).take l.length = (xs.toList.drop off).take l.length := by
            rw [List.take_take, List.length_append, Nat.min_eq_left (by omega)]
          have e2 : ((xs.toList.drop off).take (l ++ r).length).drop l.length = (xs.toList.drop (off + l.length)).take r.length := by
            rw [List.length_append, List.drop_take, List.drop_drop]
            congr 1; omega
          rw [e1] at t1
          rw [e2] at t2
          obtain ⟨v, hv, he⟩ := ih _ _ hL xs off t1 hs w
          unfold Op.eqFields
          rw [if_pos hn, ho]
          simp only [Sem.run_bind, hv, Result.andThen_ok, he d' hd, Bool.not_true, Bool.false_eq_true, if_false]
          exact fields_refl ih xs hd w fs _ _ hr t2
      · cases h
theorem array_refl {d e : Nat} {l : List Bool} (ih : Refl P d e l) (hs : (P.info? e).map (·.size) = some l.length) (xs : Array Value) {d' : Nat} (hd : d ≤ d') (w : World) (n : Nat) :
    ∀ (m k : Nat), k + m ≤ n → Typed (List.replicate m l).flatten ((xs.toList.drop (k * l.length)).take (m * l.length)) →
      ∀ b : Option Bool × Unit, b.1 = none → (forIn (m := Sem) (List.range' k m) b (fun i _ => do
        let a ← part e xs (i * l.length)
        let c ← part e xs (i * l.length)
        let r ← Op.equalIn d' e a c
        if (!r) = true then pure (ForInStep.done (some false, ())) else pure (ForInStep.yield (none, ())))).run P w = .ok (none, ()) w
  | 0, k, _, _, b, hb => by
    obtain ⟨b1, b2⟩ := b
    simp only at hb
    subst hb
    simp
  | m + 1, k, hk, ht, b, hb => by
    rw [List.replicate_succ, List.flatten_cons] at ht
    obtain ⟨t1, t2⟩ := ht.split
    have e1 : ((xs.toList.drop (k * l.length)).take ((m + 1) * l.length)).take l.length = (xs.toList.drop (k * l.length)).take l.length := by
      rw [List.take_take, Nat.succ_mul, Nat.min_eq_left (by omega)]
    have e2 : ((xs.toList.drop (k * l.length)).take ((m + 1) * l.length)).drop l.length = (xs.toList.drop ((k + 1) * l.length)).take (m * l.length) := by
      rw [List.drop_take, List.drop_drop, Nat.succ_mul, Nat.succ_mul]
      congr 1; omega
    rw [e1] at t1
    rw [e2] at t2
    obtain ⟨v, hv, he⟩ := ih xs (k * l.length) t1 hs w
    rw [List.range'_succ, List.forIn_cons]
    simp only [Sem.run_bind, hv, Result.andThen_ok, he d' hd, Bool.not_true, Bool.false_eq_true, if_false, Sem.run_pure]
    exact array_refl ih hs xs hd w n m (k + 1) (by omega) t2 _ rfl
theorem typed_flatten_length (n : Nat) (l : List Bool) : ((List.replicate n l).flatten).length = n * l.length := by simp
theorem refl : ∀ (d : Nat) (t : TypeId) (ls : List Bool), eqOK P d t = some ls → Refl P d t ls
  | 0, _, _, h => by simp [eqOK] at h
  | d + 1, t, ls, h => by
    intro xs off ht hs w
    unfold eqOK at h
    cases hu : P.underlying t with
    | none => simp [hu] at h
    | some u =>
      rw [hu] at h
      cases u with
      | bool =>
        simp only [Option.some.injEq] at h
        subst h
        obtain ⟨v, hv⟩ : ∃ v, xs[off]? = some v := by
          cases hx : xs[off]? with
          | some v => exact ⟨v, rfl⟩
          | none =>
            have := ht.length
            simp at this hx
            omega
        have hvt : ∃ c, v = Value.bool c := by
          have e : (xs.toList.drop off).take 1 = [v] := by
            have hlt : off < xs.toList.length := by
              have := (Array.getElem?_eq_some_iff.1 hv).1
              simpa using this
            rw [List.drop_eq_getElem_cons hlt, List.take_succ_cons, List.take_zero]
            congr 1
            have := (Array.getElem?_eq_some_iff.1 hv).2
            simpa using this
          rw [show [false].length = 1 from rfl, e] at ht
          exact ht.1
        obtain ⟨c, rfl⟩ := hvt
        refine ⟨_, run_part_one hu rfl xs off _ hv w, fun d' hd => ?_⟩
        obtain ⟨d'', rfl⟩ : ∃ d'', d' = d'' + 1 := ⟨d' - 1, by omega⟩
        rw [run_equalIn_bool' w d'' t c c hu]
        simp
      | int k =>
        simp only [Option.some.injEq] at h
        subst h
        obtain ⟨v, hv⟩ : ∃ v, xs[off]? = some v := by
          cases hx : xs[off]? with
          | some v => exact ⟨v, rfl⟩
          | none =>
            have := ht.length
            simp at this hx
            omega
        have hvt : ∃ k n, v = Value.int k n := by
          have e : (xs.toList.drop off).take 1 = [v] := by
            have hlt : off < xs.toList.length := by
              have := (Array.getElem?_eq_some_iff.1 hv).1
              simpa using this
            rw [List.drop_eq_getElem_cons hlt, List.take_succ_cons, List.take_zero]
            congr 1
            have := (Array.getElem?_eq_some_iff.1 hv).2
            simpa using this
          rw [show [true].length = 1 from rfl, e] at ht
          exact ht.1
        obtain ⟨k', n, rfl⟩ := hvt
        refine ⟨_, run_part_one hu rfl xs off _ hv w, fun d' hd => ?_⟩
        obtain ⟨d'', rfl⟩ : ∃ d'', d' = d'' + 1 := ⟨d' - 1, by omega⟩
        rw [run_equalIn_int w d'' t k' k n n hu]
        simp
      | struct fs =>
        simp only at h
        split at h
        · rename_i hp
          refine ⟨_, run_part_row hu rfl hs xs off w, fun d' hd => ?_⟩
          obtain ⟨d'', rfl⟩ : ∃ d'', d' = d'' + 1 := ⟨d' - 1, by omega⟩
          have hf : P.underlying t = some (.struct (P.fieldsOf t)) := by simp [Program.fieldsOf, hu]
          rw [run_equalIn_struct w d'' t _ _ hf hp]
          have hff : P.fieldsOf t = fs := by simp [Program.fieldsOf, hu]
          rw [hff]
          refine fields_refl (fun t ls hl => refl d t ls hl) _ (by omega) w _ 0 ls h ?_
          have e : (((xs.extract off (off + ls.length)).toList.drop 0).take ls.length) = (xs.toList.drop off).take ls.length := by
            simp [List.take_take, Array.toList_extract]
          rw [e]; exact ht
        · cases h
      | array n e =>
        simp only at h
        cases hl : eqOK P d e with
        | none => simp [hl] at h
        | some l =>
          simp only [hl] at h
          split at h
          · rename_i hse
            simp only [Option.some.injEq] at h
            subst h
            refine ⟨_, run_part_row hu rfl hs xs off w, fun d' hd => ?_⟩
            obtain ⟨d'', rfl⟩ : ∃ d'', d' = d'' + 1 := ⟨d' - 1, by omega⟩
            obtain ⟨i, hq, hsz⟩ := Option.map_eq_some_iff.1 hse
            have ha := array_refl (d' := d'') (refl d e l hl) hse (xs.extract off (off + (List.replicate n l).flatten.length)) (by omega) w n n 0 (by omega) (by
              have e2 : (((xs.extract off (off + (List.replicate n l).flatten.length)).toList.drop (0 * l.length)).take (n * l.length)) = (xs.toList.drop off).take (List.replicate n l).flatten.length := by
                rw [typed_flatten_length]
                simp [List.take_take, Array.toList_extract]
              rw [e2]; exact ht) (none, ()) rfl
            unfold Op.equalIn
            simp only [Sem.run_bind, run_underlying hu, Result.andThen_ok, sizeOf, typeInfo, run_program, hq, hsz, Sem.run_pure]
            rw [Std.Legacy.Range.forIn_eq_forIn_range']
            rw [show (List.range' [:n].start [:n].size [:n].step) = List.range' 0 n from by simp [Std.Legacy.Range.size]]
            rw [ha]
            rfl
          · cases h
      | _ => simp at h
end
end Go.Proofs.Ytlcpackmoolngaa.Flat
namespace Go.Proofs.Ytlcpackmoolngaa.Rws
open Go.RowKit Go.Proofs.Ytlcpackmoolngaa.Mem Go.Proofs.Ytlcpackmoolngaa.Flat
set_option linter.unusedVariables false
def row (n : Nat) (f : Nat → Value) : Array Value := ((List.range n).map f).toArray
section
variable {P : Program} {ops : Array Oper} {rest : List Oper} {o : Oper} {a : Act} {w : World} {Q : Exit → Act → World → Prop}
theorem wpList_wanted (hw : Region.wanted o (yielded ops a.tmps) = true)
    (h : ∀ K : Act → World → Prop, (∀ a w, wpList P ops Q rest a w → K a w) → o.wp P a w K Q) : wpList P ops Q (o :: rest) a w :=
  wpList_step fun K hK => by rw [if_pos hw]; exact h K hK
theorem wpList_whole (hw : Region.wanted o (yielded ops a.tmps) = true) (ty : TypeId) (x : Operand) (ho : o.op = .load ty x)
    (b : Nat) (hx : a.eval x = .pointer (some ⟨b, 0, none⟩)) {t : TypeId} {cs : Array Value} (hb : Blk w b t cs) (d : TypeDesc)
    (hu : P.underlying ty = some d) (hd : d.isRow = true) (hi : (P.info? ty).map (·.size) = some cs.size)
    (h : wpList P ops Q rest (a.put o.dst (.agg cs)) w) : wpList P ops Q (o :: rest) a w :=
  wpList_wanted hw fun _ hK => wp_load_row ty x ho b hx t cs (0, 0) d hb hu (by cases d <;> first | rfl | cases hd) hi (hK _ _ h)
end
end Go.Proofs.Ytlcpackmoolngaa.Rws
namespace Go.Proofs.Ytlcpackmoolngaa.Bu
open Go.ChangeShapes Go.WideShapes Go.ChangeAt Go.RowKit Go.Proofs.Ytlcpackmoolngaa.Mem Go.Proofs.Ytlcpackmoolngaa.Op Go.Proofs.Ytlcpackmoolngaa.Sm
set_option linter.unusedVariables false
set_option maxRecDepth 100000 in
theorem openDeeds {H : Type} {enc : TypeId × Value → H} {W : World} {base : Nat} {v : Value} {d : DataW H} {ps : List MemPlace} (hv : Value.okWide Try.prog W .any base 36 v)
    (h : DataW.Trod enc Try.prog W 0 (fun _ => true) true 36 v d ps) (hl : Op.Light Try.prog 36 d) :
    ∃ (A : Option Addr) (c : Nat) (qs : List Parc), v = .slice A qs.length c ∧ qs.length ≤ c ∧ c * 56 ≤ 140737488351232 ∧ (A = none → c = 0) ∧ ParcsAt W W.heap.size A qs := by
  obtain ⟨a0, len, cap, rfl⟩ := okWide_slice Try.underlying36 hv
  obtain ⟨n0, hn⟩ := h
  obtain ⟨A, n, c, xs, e, h1, h2, h3, h4, h5, h6⟩ := Op.Leaf.slice (enc := enc) (held := true) (base := 0) (spare := fun _ => true) (w := W) (v := .slice a0 len cap) (le := [3, 3, 3, 3, 38]) Try.underlying36 (by kernel_rfl) (by kernel_rfl) (by simp) (fun _ => rfl) ⟨n0, _, hn, hl⟩
  rw [show Try.prog.bytesOf 40 = 56 from by kernel_rfl] at h3
  obtain ⟨f, hf⟩ := Deep.choose_lt (n := n) (fun i hi => parc_of_cells (fun _ => rfl) (h6 i hi))
  rw [e]
  have hlen : ((List.range n).map f).length = n := by simp
  have hr : reachBytes = 140737488351232 := by decide
  refine ⟨A, c, (List.range n).map f, by rw [hlen], by rw [hlen]; exact h1, by omega, h4, ⟨xs, by rw [hlen]; exact h5, fun i m hm => ?_⟩⟩
  have hi : i < n := by have := (List.getElem?_eq_some_iff.1 hm).1; simpa using this
  simp [hi] at hm
  subst hm
  exact hf i hi
theorem ParcsAt.busrow {w : World} {B : Nat} {A : Option Addr} {ps : List Parc} (h : ParcsAt w B A ps) {g : Nat} {n s : Int} {A' : Option Addr} {k c : Nat} (hb : Blk w g 24 #[.int .i64 n, .int .i64 s, .slice A' k c]) (R : Array Value) : ParcsAt (w.setRow g R) B A ps := by
  have hcell : ∀ o, w.cell? ⟨g, o, none⟩ = (#[.int .i64 n, .int .i64 s, .slice A' k c] : Array Value)[o]? := fun o => hb.cell o
  have hk : ∀ b o, b ≠ g → (w.setRow g R).cell? ⟨b, o, none⟩ = w.cell? ⟨b, o, none⟩ := fun b o hne => World.cell?_of_block (setRow_other w g b R hne)
  obtain ⟨xs, hr, hx⟩ := h
  refine ⟨xs, ⟨hr.1, fun hn => ?_⟩, fun i p hp => ?_⟩
  · obtain ⟨b, o, e, hbB, hc⟩ := hr.2 hn
    refine ⟨b, o, e, hbB, fun j u hu => ?_⟩
    rw [hk b _ ?_]
    · exact hc j u hu
    · intro ebg
      subst ebg
      have hl := hr.1
      have h4 := hc 4 xs[4] (List.getElem?_eq_getElem (by omega))
      rw [hcell, Array.getElem?_eq_none (by simp)] at h4
      cases h4
  · obtain ⟨a, c1, h1, h2, h3, h4, h5⟩ := hx i p hp
    refine ⟨a, c1, h1, h2, h3, h4, h5.1, fun hn => ?_⟩
    obtain ⟨b, o, e, hbB, hc⟩ := h5.2 hn
    refine ⟨b, o, e, hbB, fun j u hu => ?_⟩
    rw [hk b _ ?_]
    · exact hc j u hu
    · intro ebg
      subst ebg
      have hlen : (bytesV p.bs).length = p.bs.length := by simp [bytesV]
      have h0 := hc 0 (bytesV p.bs)[0] (List.getElem?_eq_getElem (by omega))
      have hv : ∃ z, (bytesV p.bs)[0]'(by omega) = .int .u8 z := by
        unfold bytesV
        rw [List.getElem_map]
        exact ⟨_, rfl⟩
      obtain ⟨z, hz⟩ := hv
      rw [hz, hcell] at h0
      have : o + 0 < 3 := by
        have := (Array.getElem?_eq_some_iff.1 h0).1
        simpa using this
      have : o = 0 ∨ o = 1 ∨ o = 2 := by omega
      rcases this with rfl | rfl | rfl <;> simp at h0
end Go.Proofs.Ytlcpackmoolngaa.Bu
namespace Go.Proofs.Ytlcpackmoolngaa.Bu
open Go.ChangeShapes Go.WideShapes Go.ChangeAt Go.RowKit Go.Proofs.Ytlcpackmoolngaa.Mem Go.Proofs.Ytlcpackmoolngaa.Op Go.Proofs.Ytlcpackmoolngaa.Sm
set_option linter.unusedVariables false
def InD (w : World) (lo hi : Nat) (xs : List Value) (i : Nat) (p : Parc) : Prop :=
  ∃ a c', (xs.drop (i * 5)).take 5 = parcL p a c' ∧ w.ownsRow lo 5 1 (.slice a p.bs.length c') p.bs.length (bytesV p.bs) ∧ (∀ ad, a = some ad → ad.block < hi) ∧ p.bs.length ≤ 140737488351232
def Cut (base : Nat) (w : World) (n : Nat) (cut : Nat → Nat) : Prop := base ≤ cut 0 ∧ (∀ i, cut i ≤ cut (i + 1)) ∧ cut n ≤ w.heap.size
theorem Cut.le {base : Nat} {w : World} {n : Nat} {cut : Nat → Nat} (h : Cut base w n cut) : ∀ i j, i ≤ j → cut i ≤ cut j := fun i j hij => by
  obtain ⟨k, rfl⟩ : ∃ k, j = i + k := ⟨j - i, by omega⟩
  clear hij
  induction k with
  | zero => exact Nat.le_refl _
  | succ k ih => exact Nat.le_trans ih (h.2.1 (i + k))
theorem Cut.base {base : Nat} {w : World} {n : Nat} {cut : Nat → Nat} (h : Cut base w n cut) (i : Nat) : base ≤ cut i := Nat.le_trans h.1 (h.le 0 i (Nat.zero_le _))
def OwnD (w : World) (base : Nat) (A : Option Addr) (c : Nat) (ps : List Parc) : Prop :=
  ∃ xs cut, w.ownsRow base 52 5 (.slice A ps.length c) ps.length xs ∧ Cut base w ps.length cut ∧ ∀ i p, ps[i]? = some p → InD w (cut i) (cut (i + 1)) xs i p
theorem OwnD.own {w : World} {base : Nat} {A : Option Addr} {c : Nat} {ps : List Parc} (h : OwnD w base A c ps) : OwnParcs w base A c ps := by
  obtain ⟨xs, cut, ho, hc, hx⟩ := h
  refine ⟨xs, ho, fun i p hp => ?_⟩
  obtain ⟨a, c', h1, h2, h3, h4⟩ := hx i p hp
  exact ⟨a, c', h1, own_weaken h2 (hc.base i), h4⟩
theorem OwnD.keep {w w' : World} {base base' : Nat} {A : Option Addr} {c : Nat} {ps : List Parc} (h : OwnD w base A c ps) (hb : base' ≤ base) (hs : w.heap.size ≤ w'.heap.size) (hk : ∀ b e size v n xs, base ≤ b → w.ownsRow b e size v n xs → w'.ownsRow b e size v n xs) : OwnD w' base' A c ps := by
  obtain ⟨xs, cut, ho, hc, hx⟩ := h
  refine ⟨xs, cut, own_weaken (hk _ _ _ _ _ _ (Nat.le_refl _) ho) hb, ⟨Nat.le_trans hb hc.1, hc.2.1, Nat.le_trans hc.2.2 hs⟩, fun i p hp => ?_⟩
  obtain ⟨a, c', h1, h2, h3, h4⟩ := hx i p hp
  exact ⟨a, c', h1, hk _ _ _ _ _ _ (hc.base i) h2, h3, h4⟩
theorem OwnD.below {w w' : World} {base : Nat} {A : Option Addr} {c : Nat} {ps : List Parc} (h : OwnD w base A c ps) (hb : Below w.heap.size w w') : OwnD w' base A c ps := h.keep (Nat.le_refl _) hb.size fun _ _ _ _ _ _ _ h => Nd.ownsRow_below h hb
theorem OwnD.nil {w : World} {base : Nat} {A : Option Addr} {c : Nat} (h : w.ownsRow base 52 5 (.slice A 0 c) 0 []) (hb : base ≤ w.heap.size) : OwnD w base A c [] :=
  ⟨[], fun _ => base, h, ⟨Nat.le_refl _, fun _ => Nat.le_refl _, hb⟩, fun i p h => by simp at h⟩
theorem OwnD.snoc {w w' : World} {base lo : Nat} {A A' : Option Addr} {c c' : Nat} {ps : List Parc} {p : Parc} {a : Option Addr} {ca : Nat} {xs : List Value} {cut : Nat → Nat} (hlo : cut ps.length ≤ lo) (hc : base ≤ cut 0 ∧ ∀ i, cut i ≤ cut (i + 1)) (hx : ∀ i p, ps[i]? = some p → InD w (cut i) (cut (i + 1)) xs i p)
    (ho : w.ownsRow base 52 5 (.slice A ps.length c) ps.length xs) (hm : w.ownsRow lo 5 1 (.slice a p.bs.length ca) p.bs.length (bytesV p.bs)) (hl : p.bs.length ≤ 140737488351232) (hlw : lo ≤ w.heap.size)
    (ho' : w'.ownsRow base 52 5 (.slice A' (ps.length + 1) c') (ps.length + 1) (xs ++ parcL p a ca)) (hg : w.grownBy w' (Value.slice A ps.length c).ownBlock) : OwnD w' base A' c' (ps ++ [p]) := by
  have hne : 52 ≠ 5 := by decide
  have hxl : xs.length = ps.length * 5 := ho.1
  have hsz : w.heap.size ≤ w'.heap.size := hg.size
  refine ⟨xs ++ parcL p a ca, fun i => if i ≤ ps.length then cut i else w'.heap.size, by rw [List.length_append]; exact ho', ⟨?_, fun i => ?_, ?_⟩, fun i m' hi => ?_⟩
  · show base ≤ if 0 ≤ ps.length then cut 0 else _
    rw [if_pos (Nat.zero_le _)]; exact hc.1
  · show (if i ≤ ps.length then cut i else _) ≤ if i + 1 ≤ ps.length then cut (i + 1) else _
    by_cases h1 : i + 1 ≤ ps.length
    · rw [if_pos (by omega), if_pos h1]; exact hc.2 i
    · rw [if_neg h1]
      by_cases h2 : i ≤ ps.length
      · rw [if_pos h2]
        obtain rfl : i = ps.length := by omega
        omega
      · rw [if_neg h2]; exact Nat.le_refl _
  · show (if (ps ++ [p]).length ≤ ps.length then cut _ else _) ≤ _
    rw [if_neg (by simp)]; exact Nat.le_refl _
  · show InD w' (if i ≤ ps.length then cut i else _) (if i + 1 ≤ ps.length then cut (i + 1) else _) _ i m'
    rcases Nat.lt_or_ge i ps.length with h | h
    · rw [if_pos (by omega), if_pos (by omega)]
      rw [List.getElem?_append_left h] at hi
      obtain ⟨a', c1, h1, h2, h3, h4⟩ := hx i m' hi
      refine ⟨a', c1, ?_, Ms.own_kept h2 hg (Ms.own_is ho hne), h3, h4⟩
      rw [List.drop_append_of_le_length (by omega), List.take_append_of_le_length (by rw [List.length_drop]; omega)]
      exact h1
    · rw [List.getElem?_append_right h] at hi
      have hi0 : i = ps.length := by
        have := (List.getElem?_eq_some_iff.1 hi).1
        simp at this; omega
      subst hi0
      simp at hi
      subst hi
      rw [if_pos (Nat.le_refl _), if_neg (by omega)]
      have hk := Ms.own_kept hm hg (Ms.own_is ho hne)
      refine ⟨a, ca, ?_, own_weaken hk hlo, fun ad e => (hk.lt ad.block (by subst e; rfl)).2, hl⟩
      rw [List.drop_append, List.drop_of_length_le (by omega), hxl, Nat.sub_self, List.drop_zero, List.nil_append]
      rfl
end Go.Proofs.Ytlcpackmoolngaa.Bu
