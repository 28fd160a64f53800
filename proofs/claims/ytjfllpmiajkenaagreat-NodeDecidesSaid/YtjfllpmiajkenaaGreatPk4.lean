import Derived.Test.YtjfllpmiajkenaaGreatPk3
import Derived.Test.YtjfllpmiajkenaaGreatPk0
import Derived.Test.YtjfllpmiajkenaaGreatPk1
import Derived.Test.YtjfllpmiajkenaaGreatPk2
import Derived.Maps.OwnSet
import Derived.Maps.OwnOps
namespace Go.Proofs.YtjfllpmiajkenaaGreat.Ms
open Go.ChangeShapes Go.WideShapes Go.ChangeAt Go.RowKit Go.Proofs.YtjfllpmiajkenaaGreat.Mem Go.Proofs.YtjfllpmiajkenaaGreat.Op
set_option linter.unusedVariables false
structure Msg where
  k : Int
  f : Int
  n : Int
  zs : List Int
instance : Inhabited Msg := ⟨⟨0, 0, 0, []⟩⟩
def msgL (m : Msg) (A : Option Addr) (c : Nat) : List Value := [.int .i64 m.k, .int .i64 m.f, .int .i64 m.n, .slice A m.zs.length c]
def MsgsAt (w : World) (B : Nat) (A : Option Addr) (ms : List Msg) : Prop :=
  ∃ xs, Rd w B 4 A ms.length xs ∧ ∀ i m, ms[i]? = some m → ∃ a c, (xs.drop (i * 4)).take 4 = msgL m a c ∧ (a = none → c = 0) ∧ m.zs.length ≤ c ∧ m.zs.length * 8 ≤ 140737488351232 ∧ Rd w B 1 a m.zs.length (intsV m.zs)
section
variable {w w' : World} {B B' : Nat} {A : Option Addr} {ms : List Msg}
theorem MsgsAt.keep (h : MsgsAt w B A ms) (hk : ∀ b o, b < B → w'.cell? ⟨b, o, none⟩ = w.cell? ⟨b, o, none⟩) : MsgsAt w' B A ms := by
  obtain ⟨xs, hr, hx⟩ := h
  refine ⟨xs, hr.keep hk, fun i m hm => ?_⟩
  obtain ⟨a, c, h1, h2, h3, h4, h5⟩ := hx i m hm
  exact ⟨a, c, h1, h2, h3, h4, h5.keep hk⟩
theorem MsgsAt.more (h : MsgsAt w B A ms) (hB : B ≤ B') : MsgsAt w B' A ms := by
  obtain ⟨xs, hr, hx⟩ := h
  refine ⟨xs, hr.more hB, fun i m hm => ?_⟩
  obtain ⟨a, c, h1, h2, h3, h4, h5⟩ := hx i m hm
  exact ⟨a, c, h1, h2, h3, h4, h5.more hB⟩
theorem MsgsAt.below (h : MsgsAt w B A ms) (hb : Below B w w') : MsgsAt w' B A ms := h.keep fun b o hp => hb.cell (p := ⟨b, o, none⟩) hp
theorem MsgsAt.drewN (h : MsgsAt w B A ms) (k : Nat) : MsgsAt (w.drewN k) B A ms := h
theorem MsgsAt.drew (h : MsgsAt w B A ms) : MsgsAt w.drew B A ms := h
theorem MsgsAt.alloc (h : MsgsAt w B A ms) (hB : B ≤ w.heap.size) (o : Obj) : MsgsAt (w.alloc o) B A ms :=
  h.keep fun b o' hp => World.cell?_alloc_lt w o _ (show b < w.heap.size by omega)
theorem MsgsAt.nil (w : World) (B : Nat) (A : Option Addr) : MsgsAt w B A [] := ⟨[], Rd.nil _ _ _ _, fun i m h => by simp at h⟩
theorem MsgsAt.at (h : MsgsAt w B A ms) {i : Nat} {m : Msg} (hm : ms[i]? = some m) : ∃ b o a c, A = some ⟨b, o, none⟩ ∧ b < B ∧ w.cell? ⟨b, o + i * 4, none⟩ = some (.int .i64 m.k) ∧ w.cell? ⟨b, o + i * 4 + 1, none⟩ = some (.int .i64 m.f) ∧
    w.cell? ⟨b, o + i * 4 + 2, none⟩ = some (.int .i64 m.n) ∧ w.cell? ⟨b, o + i * 4 + 3, none⟩ = some (.slice a m.zs.length c) ∧ (a = none → c = 0) ∧ m.zs.length ≤ c ∧ m.zs.length * 8 ≤ 140737488351232 ∧ Rd w B 1 a m.zs.length (intsV m.zs) := by
  obtain ⟨xs, hr, hx⟩ := h
  obtain ⟨a, c, h1, h2, h3, h4, h5⟩ := hx i m hm
  have hi : i < ms.length := (List.getElem?_eq_some_iff.1 hm).1
  obtain ⟨b, o, e, hb, hc⟩ := hr.2 (by omega)
  have hg : ∀ j v, j < 4 → (msgL m a c)[j]? = some v → w.cell? ⟨b, o + i * 4 + j, none⟩ = some v := fun j v hj hv => by
    rw [← h1, List.getElem?_take, if_pos hj, List.getElem?_drop] at hv
    have := hc _ _ hv
    rwa [← Nat.add_assoc] at this
  exact ⟨b, o, a, c, e, hb, hg 0 _ (by omega) rfl, hg 1 _ (by omega) rfl, hg 2 _ (by omega) rfl, hg 3 _ (by omega) rfl, h2, h3, h4, h5⟩
end
section
variable {H : Type} {enc : TypeId × Value → H} {W : World} {base : Nat} {spare : Nat → Bool} {held : Bool}
theorem msg_of_cells (hsp : ∀ b, spare b = true) {vs : List Value} (k : Cells enc Tryz.prog W base spare held [3, 3, 3, 39] vs) :
    ∃ m a c, vs = msgL m a c ∧ (a = none → c = 0) ∧ m.zs.length ≤ c ∧ m.zs.length * 8 ≤ 140737488351232 ∧ Rd W W.heap.size 1 a m.zs.length (intsV m.zs) ∧ ∀ z ∈ m.zs, (Lit.int .i64 z).wf = true := by
  obtain ⟨x0, l, rfl, f0, k⟩ := k.cons
  obtain ⟨x1, l, rfl, f1, k⟩ := k.cons
  obtain ⟨x2, l, rfl, f2, k⟩ := k.cons
  obtain ⟨x3, l, rfl, f3, k⟩ := k.cons
  obtain rfl := k.nil_
  obtain ⟨m0, rfl, w0⟩ := f0.int Tryz.underlying3
  obtain ⟨m1, rfl, w1⟩ := f1.int Tryz.underlying3
  obtain ⟨m2, rfl, w2⟩ := f2.int Tryz.underlying3
  obtain ⟨A, c, zs, rfl, h1, h2, h3, h4, h5, h6⟩ := f3.ints Tryz.underlying39 Tryz.underlying3 (by kernel_rfl) hsp
  rw [show Tryz.prog.bytesOf 3 = 8 from by kernel_rfl] at h3
  exact ⟨⟨m0, m1, m2, zs⟩, A, c, rfl, h4, h1, by show zs.length * 8 ≤ 140737488351232; unfold reachBytes at h3; omega, h5, h6⟩
end
set_option maxRecDepth 100000 in
theorem openMsgs2 {H : Type} {enc : TypeId × Value → H} {W : World} {base : Nat} {v : Value} {d : DataW H} {ps : List MemPlace} (hv : Value.okWide Tryz.prog W .any base 38 v)
    (h : DataW.Trod enc Tryz.prog W 0 (fun _ => true) true 38 v d ps) (hl : Op.Light Tryz.prog 38 d) :
    ∃ (A : Option Addr) (c : Nat) (ms : List Msg), v = .slice A ms.length c ∧ ms.length ≤ c ∧ c * 48 ≤ 140737488351232 ∧ (A = none → c = 0) ∧ MsgsAt W W.heap.size A ms ∧ ∀ m ∈ ms, ∀ z ∈ m.zs, (Lit.int .i64 z).wf = true := by
  obtain ⟨a0, len, cap, rfl⟩ := okWide_slice Tryz.underlying38 hv
  obtain ⟨n0, hn⟩ := h
  obtain ⟨A, n, c, xs, e, h1, h2, h3, h4, h5, h6⟩ := Op.Leaf.slice (enc := enc) (held := true) (base := 0) (spare := fun _ => true) (w := W) (v := .slice a0 len cap) (le := [3, 3, 3, 39]) Tryz.underlying38 (by kernel_rfl) (by kernel_rfl) (by simp) (fun _ => rfl) ⟨n0, _, hn, hl⟩
  rw [show Tryz.prog.bytesOf 41 = 48 from by kernel_rfl] at h3
  obtain ⟨f, hf⟩ := Deep.choose_lt (n := n) (fun i hi => msg_of_cells (fun _ => rfl) (h6 i hi))
  rw [e]
  have hlen : ((List.range n).map f).length = n := by simp
  refine ⟨A, c, (List.range n).map f, by rw [hlen], by rw [hlen]; exact h1, by unfold reachBytes at h3; omega, h4, ⟨xs, by rw [hlen]; exact h5, fun i m hm => ?_⟩, fun m hm => ?_⟩
  · have hi : i < n := by have := (List.getElem?_eq_some_iff.1 hm).1; simpa using this
    simp [hi] at hm
    subst hm
    obtain ⟨a, c, q1, q2, q3, q4, q5, q6⟩ := hf i hi
    exact ⟨a, c, q1, q2, q3, q4, q5⟩
  · obtain ⟨i, hi, rfl⟩ := List.mem_map.1 hm
    obtain ⟨a, c, q1, q2, q3, q4, q5, q6⟩ := hf i (List.mem_range.1 hi)
    exact q6
end Go.Proofs.YtjfllpmiajkenaaGreat.Ms
namespace Go.Proofs.YtjfllpmiajkenaaGreat.Vt
def cnt (L : Nat → Int) (I : Nat → Bool) (v : Int) : Nat → Nat
  | 0 => 0
  | k + 1 => cnt L I v k + if I k = true ∧ L k = v then 1 else 0
def tot (I : Nat → Bool) : Nat → Nat
  | 0 => 0
  | k + 1 => tot I k + if I k = true then 1 else 0
def rv (L : Nat → Int) (I : Nat → Bool) : Nat → Int
  | 0 => 0
  | k + 1 => if I k = true ∧ (cnt L I (rv L I k) 4 < cnt L I (L k) 4 ∨ tot I k = 0) then L k else rv L I k
theorem cnt_le (L : Nat → Int) (I : Nat → Bool) (v : Int) : ∀ k, cnt L I v k ≤ k
  | 0 => Nat.le_refl _
  | k + 1 => by have := cnt_le L I v k; unfold cnt; split <;> omega
def val (L : Nat → Int) (I : Nat → Bool) : Int := rv L I 4
end Go.Proofs.YtjfllpmiajkenaaGreat.Vt
namespace Go.Proofs.YtjfllpmiajkenaaGreat.Nd
open Go.RowKit Go.Proofs.YtjfllpmiajkenaaGreat.Mem Go.Proofs.YtjfllpmiajkenaaGreat.Rws
set_option linter.unusedVariables false
def rollF (f : Nat → Bool) (m j : Nat → Int) (i : Nat) : Value := if i < 4 then .bool (f i) else if i < 8 then .int .i64 (m (i - 4)) else .int .i64 (j (i - 8))
def cntTo (f : Nat → Bool) : Nat → Nat
  | 0 => 0
  | k + 1 => if f k then cntTo f k + 1 else cntTo f k
theorem run_index_row {P : Program} {t : TypeId} {n : Nat} {e : TypeId} (hu : P.underlying t = some (.array n e)) {u : TypeDesc} (he : P.underlying e = some u) (hr : u.isRow = false) (hs : (P.info? e).map (·.size) = some 1) (g : Nat → Value) (k : Nat) (hk : k < n) (w : World) :
    (Instr.index t (.agg (row n g)) (.int .i64 (k : Int))).run P w = .ok (g k) w := by
  have hp := Flat.run_part_one he hr (row n g) (k * 1) (g k) (by rw [Nat.mul_one]; exact row_at hk) w
  obtain ⟨i, hi, hz⟩ := Option.map_eq_some_iff.1 hs
  have h0 : 0 ≤ (k : Int) ∧ (k : Int) < (n : Int) := by omega
  unfold Instr.index
  simp only [Sem.run_bind, asIntOf, Sem.run_pure, Result.andThen_ok, run_underlying hu, h0, and_self, if_true, sizeOf, typeInfo, run_program, hi, hz, Int.toNat_natCast, hp]
end Go.Proofs.YtjfllpmiajkenaaGreat.Nd
namespace Go.Proofs.YtjfllpmiajkenaaGreat.Vt
open Go.RowKit Go.Maps Go.WideShapes Go.Proofs.YtjfllpmiajkenaaGreat.Mem Go.Proofs.YtjfllpmiajkenaaGreat.Rws Go.Proofs.YtjfllpmiajkenaaGreat.Nd
set_option linter.unusedVariables false
set_option linter.unusedSimpArgs false
theorem rd_one (w : World) (v : Value) (e : TypeId) : Rd (w.alloc (.cells #[v] e)) (w.heap.size + 1) 1 (some ⟨w.heap.size, 0, none⟩) 1 [v] := by
  refine ⟨rfl, fun _ => ⟨w.heap.size, 0, rfl, by omega, fun j u hu => ?_⟩⟩
  have h := (Blk.fresh w e #[v]).cell j
  rw [Nat.zero_add, h]
  simpa using hu
theorem own_setCell {w : World} {base g : Nat} {e : TypeId} {size n : Nat} {v : Value} {xs : List Value} (h : w.ownsRow base e size v n xs) (hg : g < base) {i : Nat} (u : Value) : (w.setCell ⟨g, i, none⟩ u).ownsRow base e size v n xs := by
  obtain ⟨hl, h | ⟨b, cap, cur, hv, hb, hh, hr⟩⟩ := h
  · exact ⟨hl, .inl h⟩
  · exact ⟨hl, .inr ⟨b, cap, cur, hv, hb, (Below.heap_setCell w ⟨g, i, none⟩ u b (by show b ≠ g; omega)).trans hh, hr⟩⟩
end Go.Proofs.YtjfllpmiajkenaaGreat.Vt
namespace Go.Proofs.YtjfllpmiajkenaaGreat.Ms
open Go.ChangeShapes Go.WideShapes Go.ChangeAt Go.RowKit Go.Proofs.YtjfllpmiajkenaaGreat.Mem Go.Proofs.YtjfllpmiajkenaaGreat.Op
set_option linter.unusedVariables false
set_option linter.unusedSimpArgs false
def OwnMsgs (w : World) (base : Nat) (A : Option Addr) (c : Nat) (ms : List Msg) : Prop :=
  ∃ xs, w.ownsRow base 41 4 (.slice A ms.length c) ms.length xs ∧ ∀ i m, ms[i]? = some m → ∃ a c', (xs.drop (i * 4)).take 4 = msgL m a c' ∧ w.ownsRow base 3 1 (.slice a m.zs.length c') m.zs.length (intsV m.zs) ∧ m.zs.length * 8 ≤ 140737488351232
theorem OwnMsgs.at {w : World} {base : Nat} {A : Option Addr} {c : Nat} {ms : List Msg} (h : OwnMsgs w base A c ms) : MsgsAt w w.heap.size A ms ∧ (A = none → c = 0) ∧ ms.length ≤ c ∧ ∀ a, A = some a → base ≤ a.block := by
  obtain ⟨xs, ho, hx⟩ := h
  refine ⟨⟨xs, Rd.of_own ho, fun i m hm => ?_⟩, (own_cap ho).1, (own_cap ho).2, own_lo ho⟩
  obtain ⟨a, c', h1, h2, h3⟩ := hx i m hm
  exact ⟨a, c', h1, (own_cap h2).1, (own_cap h2).2, h3, Rd.of_own h2⟩
theorem OwnMsgs.nil (w : World) (base : Nat) : OwnMsgs w base none 0 [] := ⟨[], World.ownsRow_nil _ _ _ _, fun i m h => by simp at h⟩
theorem OwnMsgs.below {w w' : World} {base : Nat} {A : Option Addr} {c : Nat} {ms : List Msg} (h : OwnMsgs w base A c ms) (hb : Below w.heap.size w w') : OwnMsgs w' base A c ms := by
  obtain ⟨xs, ho, hx⟩ := h
  refine ⟨xs, Nd.ownsRow_below ho hb, fun i m hm => ?_⟩
  obtain ⟨a, c', h1, h2, h3⟩ := hx i m hm
  exact ⟨a, c', h1, Nd.ownsRow_below h2 hb, h3⟩
theorem OwnMsgs.snoc {w w' : World} {base : Nat} {A A' : Option Addr} {c c' : Nat} {ms : List Msg} {m : Msg} {a : Option Addr} {ca : Nat} {xs : List Value} (hx : ∀ i m, ms[i]? = some m → ∃ a c', (xs.drop (i * 4)).take 4 = msgL m a c' ∧ w.ownsRow base 3 1 (.slice a m.zs.length c') m.zs.length (intsV m.zs) ∧ m.zs.length * 8 ≤ 140737488351232)
    (ho : w.ownsRow base 41 4 (.slice A ms.length c) ms.length xs) (hm : w.ownsRow base 3 1 (.slice a m.zs.length ca) m.zs.length (intsV m.zs)) (hl : m.zs.length * 8 ≤ 140737488351232)
    (ho' : w'.ownsRow base 41 4 (.slice A' (ms.length + 1) c') (ms.length + 1) (xs ++ msgL m a ca)) (hg : w.grownBy w' (Value.slice A ms.length c).ownBlock) : OwnMsgs w' base A' c' (ms ++ [m]) := by
  have hne : 41 ≠ 3 := by decide
  have hxl : xs.length = ms.length * 4 := ho.1
  refine ⟨xs ++ msgL m a ca, by rw [List.length_append]; exact ho', fun i m' hi => ?_⟩
  rcases Nat.lt_or_ge i ms.length with h | h
  · rw [List.getElem?_append_left h] at hi
    obtain ⟨a', c1, h1, h2, h3⟩ := hx i m' hi
    refine ⟨a', c1, ?_, own_kept h2 hg (own_is ho hne), h3⟩
    rw [List.drop_append_of_le_length (by omega), List.take_append_of_le_length (by rw [List.length_drop]; omega)]
    exact h1
  · rw [List.getElem?_append_right h] at hi
    have hi0 : i = ms.length := by
      have := (List.getElem?_eq_some_iff.1 hi).1
      simp at this; omega
    subst hi0
    simp at hi
    subst hi
    refine ⟨a, ca, ?_, own_kept hm hg (own_is ho hne), hl⟩
    rw [List.drop_append, List.drop_of_length_le (by omega), hxl, Nat.sub_self, List.drop_zero, List.nil_append]
    rfl
theorem message_len (k f n : Int) (A : Option Addr) (c : Nat) (zs : List Int) (B : Nat) (w : World) (hB : B ≤ w.heap.size) (hA : A = none → c = 0) (hnc : zs.length ≤ c) (hc : zs.length * 8 ≤ 140737488351232) (hr : Rd w B 1 A zs.length (intsV zs)) :
    Calls Tryz.prog 31 #[msgV k f n A zs.length c] w fun e w' => OwnMsg w w' k f n zs e := by
  have hr1 := hr.alloc hB (.cells #[.int .i64 k, .int .i64 f, .int .i64 n, .slice A zs.length c] 41)
  have HR1 := Lib.hid hr1
  clear hr1 hr
  unfold msgV
  go_enter Tryz.func31, Tryz.ntmps31
  go_wp2_with (at_builtin; go_loud (refine wpList_append_rd _ rfl _ _ _ rfl (base := w.heap.size + 2) elemInts rfl (World.ownsRow_nil _ _ _ _) rfl (fun h => ⟨by have := hA h; omega, hA h⟩) (HR1.out.alloc (by simp; omega) _) (intsV_one zs) (by unfold maxLen; omega) (by omega) (by simp) ?_))
  intro A' c' w1 hA' hown hg
  (try simp only [List.nil_append, Nat.zero_add] at hown)
  have b0 := ((Blk.new (t := 41) (cs := #[.int .i64 k, .int .i64 f, .int .i64 n, .slice A zs.length c]) (w := w) rfl).alloc (.cells #[.int .i64 0, .int .i64 0, .int .i64 0, .slice none 0 0] 41)).grown hg (by simp [Value.ownBlock])
  have b1 := (Blk.new (t := 41) (cs := #[.int .i64 0, .int .i64 0, .int .i64 0, .slice none 0 0]) (w := w.alloc (.cells #[.int .i64 k, .int .i64 f, .int .i64 n, .slice A zs.length c] 41)) (g := w.heap.size + 1) (by simp)).grown hg (by simp [Value.ownBlock])
  have hb : Below w.heap.size w w1 := (((Below.refl _ _).alloc (Nat.le_refl _) _).alloc (by simp) _).grown hg (by simp; omega) (by simp [Value.ownBlock])
  have c00 := b0.cell 0
  have c01 := b0.cell 1
  have c02 := b0.cell 2
  have c03 := b0.cell 3
  have f03 := b0.thaw 3
  have c10 := b1.cell 0
  have c11 := b1.cell 1
  have c12 := b1.cell 2
  have c13 := b1.cell 3
  have f10 := b1.thaw 0
  have f11 := b1.thaw 1
  have f12 := b1.thaw 2
  have f13 := b1.thaw 3
  simp only [List.getElem?_toArray, List.getElem?_cons_zero, List.getElem?_cons_succ] at c00 c01 c02 c03 c10 c11 c12 c13
  have HO := Lib.hid hown
  have HB1 := Lib.hid b1
  have HB := Lib.hid hb
  clear hown b1 b0 hb hg hA'
  go_wp2
  refine ret_row rfl rfl (((((HB1.out.other (by simp) _).set 0 _).set 1 _).set 2 _).set 3 _) Tryz.underlying41 rfl (by kernel_rfl) rfl ⟨A', c', rfl, ?_, ?_⟩
  · exact own_weaken (ownsRow_setCell_below (ownsRow_setCell_below (ownsRow_setCell_below (ownsRow_setCell_below (ownsRow_setCell_below HO.out (by simp) _) (by simp) _) (by simp) _) (by simp) _) (by simp) _) (by omega)
  · exact ((((HB.out.setCell (by simp) _).setCell (by simp) _).setCell (by simp) _).setCell (by simp) _).setCell (by simp) _
theorem elemMsgs : Elem Tryz.prog 38 41 (.agg #[.int .i64 0, .int .i64 0, .int .i64 0, .slice none 0 0]) 4 48 := ⟨Tryz.underlying38, by kernel_rfl, rfl, by omega⟩
theorem rd_four (w : World) (cs : List Value) (h4 : cs.length = 4) (e : TypeId) : Rd (w.alloc (.cells cs.toArray e)) (w.heap.size + 1) 4 (some ⟨w.heap.size, 0, none⟩) 1 cs := by
  refine ⟨by omega, fun _ => ⟨w.heap.size, 0, rfl, by omega, fun j u hu => ?_⟩⟩
  have h := (Blk.fresh w e cs.toArray).cell j
  rw [Nat.zero_add, h]
  simpa using hu
set_option maxRecDepth 100000 in
set_option maxHeartbeats 2000000 in
theorem messages_any (A : Option Addr) (c : Nat) (ms : List Msg) (B : Nat) (w : World) (hB : B ≤ w.heap.size) (hl : ms.length * 48 ≤ 140737488351232) (hr : MsgsAt w B A ms) :
    Calls Tryz.prog 8 #[.slice A ms.length c] w fun e w' => ∃ A' c', e = .returned (.slice A' ms.length c') ∧ OwnMsgs w' w.heap.size A' c' ms ∧ Below w.heap.size w w' := by
  have HR := Lib.hid hr
  clear hr
  go_enter Tryz.func8, Tryz.ntmps8
  go_wp2_with fail
  go_loopw [3, 4] (fun v i wr => ∃ (k : Nat) (A' : Option Addr) (c' : Nat), k ≤ ms.length ∧ i = .int .i64 k ∧ v = .slice A' k c' ∧ OwnMsgs wr w.heap.size A' c' (ms.take k) ∧ Below w.heap.size w wr) (fun _ i _ => ms.length - (intOf i).toNat)
  case atStart => exact ⟨0, none, 0, by omega, rfl, rfl, OwnMsgs.nil _ _, Below.refl _ _⟩
  case round =>
    obtain ⟨k, A', c', hk, rfl, rfl, ho, hb⟩ := hrel
    by_cases hlt : k < ms.length
    · have hm : ms[k]? = some ms[k] := List.getElem?_eq_getElem hlt
      have HTK := Lib.hid (show ms.take (k + 1) = ms.take k ++ [ms[k]] from by rw [List.take_add_one, hm]; rfl)
      generalize ms[k] = m at *
      obtain ⟨b, o, a, ca, rfl, hbB, x0, x1, x2, x3, h2, h3, h4, h5⟩ := (HR.out.below (hb.mono hB)).at hm
      obtain ⟨xs, hrow, hxs⟩ := ho
      have htk : (ms.take k).length = k := by rw [List.length_take]; omega
      rw [htk] at hrow
      have HB := Lib.hid hb
      have HRow := Lib.hid hrow
      have HX := Lib.hid hxs
      have HM := Lib.hid (message_len m.k m.f m.n a ca m.zs B wr (Nat.le_trans hB hb.size) h2 h3 h4 h5)
      have HTL := Lib.hid htk
      have H4 := Lib.hid h4
      unfold msgV at HM
      have hk0 : (0 : Int) ≤ (k : Int) := by omega
      have hk1 : (k : Int) < (ms.length : Int) := by omega
      clear hb hrow hxs h2 h3 h4 h5 hm htk
      go_wp2_with fail
      refine HM.out.mono ?_
      rintro e w2 ⟨A2, c2, rfl, hown2, hb2⟩
      unfold msgV
      have HN : Hid (Rd (w2.alloc (.cells #[.int .i64 m.k, .int .i64 m.f, .int .i64 m.n, .slice A2 m.zs.length c2] 41)) (w2.heap.size + 1) 4 (some ⟨w2.heap.size, 0, none⟩) 1 (msgL m A2 c2)) := Lib.hid (rd_four w2 (msgL m A2 c2) rfl _)
      have hb3 : Below w2.heap.size w2 (w2.alloc (.cells #[.int .i64 m.k, .int .i64 m.f, .int .i64 m.n, .slice A2 m.zs.length c2] 41)) := (Below.refl _ _).alloc (Nat.le_refl _) _
      have HQ := Lib.hid (Nd.ownsRow_below (Nd.ownsRow_below HRow.out hb2) hb3)
      have HI := Lib.hid (own_weaken (Nd.ownsRow_below hown2 hb3) (Nat.le_trans HB.out.size (Nat.le_refl _)))
      have HXX : Hid (∀ i m', (ms.take k)[i]? = some m' → ∃ a c', (xs.drop (i * 4)).take 4 = msgL m' a c' ∧ (w2.alloc (.cells #[.int .i64 m.k, .int .i64 m.f, .int .i64 m.n, .slice A2 m.zs.length c2] 41)).ownsRow w.heap.size 3 1 (.slice a m'.zs.length c') m'.zs.length (intsV m'.zs) ∧ m'.zs.length * 8 ≤ 140737488351232) := Lib.hid fun i m' hi => by
        obtain ⟨a, c', g1, g2, g3⟩ := HX.out i m' hi
        exact ⟨a, c', g1, Nd.ownsRow_below (Nd.ownsRow_below g2 hb2) hb3, g3⟩
      have HY := Lib.hid (onward (onward HB.out (Nat.le_refl _) hb2) (Nat.le_refl _) hb3)
      have HBS := Lib.hid HY.out.size
      have hkl : (k + 1) * 48 ≤ 140737488351232 := by omega
      clear hown2 hb2 hb3 x0 x1 x2 x3
      go_wp2_with (at_builtin; refine wpList_append_rd _ rfl (.tmp 11) (.tmp 17) 38 rfl (base := w.heap.size) elemMsgs rfl HQ.out rfl (fun h => by cases h) HN.out (by simp [msgL, Value.oneCell']) (by unfold maxLen; omega) (by omega) HBS.out ?_; intro A4 c4 w4 hA4 hown4 hg4; have HO4 := Lib.hid hown4; have HG4 := Lib.hid hg4; clear hown4 hg4 hA4)
      refine ⟨⟨k + 1, A4, c4, by omega, by go_num, by go_num, ?_, HY.out.grown HG4.out HBS.out (fun g e => (HQ.out.lt g e).1)⟩, by simp [intOf]; omega⟩
      rw [HTK.out]
      exact OwnMsgs.snoc HXX.out (by rw [HTL.out]; exact HQ.out) HI.out H4.out (by rw [HTL.out]; exact HO4.out) (by rw [HTL.out]; exact HG4.out)
    · obtain rfl : k = ms.length := by omega
      clear hlt
      have HO := Lib.hid ho
      have HB := Lib.hid hb
      clear ho hb
      go_wp2_with fail
      go_ret
      refine ⟨A', c', rfl, ?_, HB.out⟩
      have h := HO.out
      rwa [List.take_length] at h
end Go.Proofs.YtjfllpmiajkenaaGreat.Ms
namespace Go.Proofs.YtjfllpmiajkenaaGreat.Ms
open Go.ChangeShapes Go.WideShapes Go.ChangeAt Go.RowKit Go.Proofs.YtjfllpmiajkenaaGreat.Mem Go.Proofs.YtjfllpmiajkenaaGreat.Op Go.Proofs.YtjfllpmiajkenaaGreat.Rws Go.Proofs.YtjfllpmiajkenaaGreat.Nd
set_option linter.unusedVariables false
set_option linter.unusedSimpArgs false
def fit (id fr kind : Int) (many : Nat) (fm : Int) (m : Msg) : Bool := m.f == fm && m.f != id && m.k == kind && m.n == fr && (m.zs.length : Int) == (many : Int)
def firstOf (id fr kind : Int) (many : Nat) (fm : Int) (ms : List Msg) : Option Msg := ms.find? (fit id fr kind many fm)
theorem find_at {α : Type} {p : α → Bool} {ms : List α} {k : Nat} {m : α} (h0 : (ms.take k).find? p = none) (hm : ms[k]? = some m) (hp : p m = true) : ms.find? p = some m := by
  have hk : k < ms.length := (List.getElem?_eq_some_iff.1 hm).1
  have e : ms = ms.take k ++ m :: ms.drop (k + 1) := by
    rw [(List.getElem?_eq_some_iff.1 hm).2.symm, List.getElem_cons_drop, List.take_append_drop]
  rw [e, List.find?_append, h0]
  simp [hp]
theorem find_not {α : Type} {p : α → Bool} {ms : List α} {k : Nat} {m : α} (h0 : (ms.take k).find? p = none) (hm : ms[k]? = some m) (hp : p m = false) : (ms.take (k + 1)).find? p = none := by
  rw [List.take_add_one, hm, List.find?_append, h0]
  simp [hp]
def FirstAs (w : World) (B : Nat) (o : Option Msg) (e : Ending) : Prop :=
  match o with
  | some m => ∃ a c, e = .returned (.tuple #[.slice a m.zs.length c, .bool true]) ∧ (a = none → c = 0) ∧ m.zs.length ≤ c ∧ Rd w B 1 a m.zs.length (intsV m.zs)
  | none => e = .returned (.tuple #[.slice none 0 0, .bool false])
set_option maxRecDepth 100000 in
set_option maxHeartbeats 2000000 in
theorem first_any (R : Array Value) (id fr : Int) (h0 : R[0]? = some (.int .i64 id)) (h1 : R[1]? = some (.int .i64 fr)) (A : Option Addr) (c : Nat) (ms : List Msg) (fm kind : Int) (many : Nat) (B : Nat) (w : World) (hB : B ≤ w.heap.size) (hl : ms.length ≤ 140737488355328) (hr : MsgsAt w B A ms) :
    Calls Tryz.prog 61 #[.agg R, .slice A ms.length c, .int .i64 fm, .int .i64 kind, .int .i64 (many : Int)] w fun e w' => FirstAs w' B (firstOf id fr kind many fm ms) e ∧ Below w.heap.size w w' := by
  have HR := Lib.hid hr
  have H0 := Lib.hid h0
  have H1 := Lib.hid h1
  clear hr h0 h1
  go_enter Tryz.func61, Tryz.ntmps61
  go_wp2_with fail
  go_loopw [16] (fun i wr => ∃ (k : Nat), k ≤ ms.length ∧ i = .int .i64 k ∧ firstOf id fr kind many fm (ms.take k) = none ∧ Blk wr w.heap.size 37 R ∧ Below w.heap.size w wr) (fun i _ => ms.length - (intOf i).toNat)
  case atStart => exact ⟨0, by omega, rfl, rfl, Blk.new rfl, (Below.refl _ _).alloc (Nat.le_refl _) _⟩
  case round =>
    obtain ⟨k, hk, rfl, hf, hn, hb⟩ := hrel
    by_cases hlt : k < ms.length
    · have hm : ms[k]? = some ms[k] := List.getElem?_eq_getElem hlt
      generalize ms[k] = m at *
      have HY := Lib.hid (fun (hp : fit id fr kind many fm m = true) => show firstOf id fr kind many fm ms = some m from find_at hf hm hp)
      have HN := Lib.hid (fun (hp : fit id fr kind many fm m = false) => show firstOf id fr kind many fm (ms.take (k + 1)) = none from find_not hf hm hp)
      obtain ⟨b, o, a, ca, rfl, hbB, x0, x1, x2, x3, h2, h3, h4, h5⟩ := (HR.out.below (hb.mono hB)).at hm
      have H5 := Lib.hid h5
      have HB := Lib.hid hb
      have HNd := Lib.hid hn
      have hk0 : (0 : Int) ≤ (k : Int) := by omega
      have hk1 : (k : Int) < (ms.length : Int) := by omega
      have hb0 := hb.size
      clear hb hn hm hf h5
      go_upto_region 4 with fail
      have M := Lib.hid (show Blk (wr.alloc (.cells #[.int .i64 m.k, .int .i64 m.f, .int .i64 m.n, .slice a m.zs.length ca] 41)) wr.heap.size 41 #[.int .i64 m.k, .int .i64 m.f, .int .i64 m.n, .slice a m.zs.length ca] from Blk.fresh _ _ _)
      have N := Lib.hid (HNd.out.alloc (.cells #[.int .i64 m.k, .int .i64 m.f, .int .i64 m.n, .slice a m.zs.length ca] 41))
      have HB := Lib.hid (HB.out.alloc HB.out.size (.cells #[.int .i64 m.k, .int .i64 m.f, .int .i64 m.n, .slice a m.zs.length ca] 41))
      have H5 := Lib.hid (H5.out.alloc (Nat.le_trans hB hb0) (.cells #[.int .i64 m.k, .int .i64 m.f, .int .i64 m.n, .slice a m.zs.length ca] 41))
      have y0 := M.out.cell 0
      have y1 := M.out.cell 1
      have y2 := M.out.cell 2
      have y3 := M.out.cell 3
      have z0 := (N.out.cell 0).trans H0.out
      have z1 := (N.out.cell 1).trans H1.out
      simp only [List.getElem?_toArray, List.getElem?_cons_zero, List.getElem?_cons_succ] at y0 y1 y2 y3
      have FD := Lib.hid (show fit id fr kind many fm m = (m.f == fm && m.f != id && m.k == kind && m.n == fr && (m.zs.length : Int) == (many : Int)) from rfl)
      clear x0 x1 x2 x3 HNd M
      generalize (wr.alloc (.cells #[.int .i64 m.k, .int .i64 m.f, .int .i64 m.n, .slice a m.zs.length ca] 41)) = w2 at *
      generalize wr.heap.size = g at *
      cases e1 : (m.f == fm) with
      | false =>
        have HF := Lib.hid (HN.out (by rw [FD.out]; simp only [e1, Bool.false_and, Bool.and_false]))
        clear FD HY HN
        go_wp2_with fail
        exact ⟨⟨k + 1, by omega, by go_num, HF.out, N.out, HB.out⟩, by simp [intOf]; omega⟩
      | true =>
        cases e2 : (m.f != id) with
        | false =>
          have HF := Lib.hid (HN.out (by rw [FD.out]; simp only [e1, e2, Bool.false_and, Bool.and_false]))
          clear FD HY HN
          go_wp2_with fail
          exact ⟨⟨k + 1, by omega, by go_num, HF.out, N.out, HB.out⟩, by simp [intOf]; omega⟩
        | true =>
          cases e3 : (m.k == kind) with
          | false =>
            have HF := Lib.hid (HN.out (by rw [FD.out]; simp only [e1, e2, e3, Bool.false_and, Bool.and_false]))
            clear FD HY HN
            go_wp2_with fail
            exact ⟨⟨k + 1, by omega, by go_num, HF.out, N.out, HB.out⟩, by simp [intOf]; omega⟩
          | true =>
            cases e4 : (m.n == fr) with
            | false =>
              have HF := Lib.hid (HN.out (by rw [FD.out]; simp only [e1, e2, e3, e4, Bool.false_and, Bool.and_false]))
              clear FD HY HN
              go_wp2_with fail
              exact ⟨⟨k + 1, by omega, by go_num, HF.out, N.out, HB.out⟩, by simp [intOf]; omega⟩
            | true =>
              cases e5 : ((m.zs.length : Int) == (many : Int)) with
              | false =>
                have HF := Lib.hid (HN.out (by rw [FD.out]; simp only [e1, e2, e3, e4, e5, Bool.false_and, Bool.and_false]))
                clear FD HY HN
                go_wp2_with fail
                exact ⟨⟨k + 1, by omega, by go_num, HF.out, N.out, HB.out⟩, by simp [intOf]; omega⟩
              | true =>
                have HF := Lib.hid (HY.out (by rw [FD.out]; simp only [e1, e2, e3, e4, e5, Bool.and_self]))
                clear FD HY HN
                go_wp2_with fail
                go_ret2
                refine ⟨?_, HB.out⟩
                rw [HF.out]
                exact ⟨a, ca, rfl, h2, h3, H5.out⟩
    · obtain rfl : k = ms.length := by omega
      clear hlt
      have HB := Lib.hid hb
      rw [List.take_length] at hf
      have HF := Lib.hid hf
      clear hb hf hn
      go_wp2_with fail
      go_ret2
      refine ⟨?_, HB.out⟩
      rw [HF.out]
      rfl
end Go.Proofs.YtjfllpmiajkenaaGreat.Ms
