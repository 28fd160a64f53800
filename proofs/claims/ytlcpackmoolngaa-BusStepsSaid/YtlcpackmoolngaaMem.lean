/- Words for memory that all walks of this seat share: a slice that reads as a list of cells (nil let in), a block known whole, and how both are kept. -/
import Derived.WalkKit
import Derived.Deep.QuietTactic
import Derived.BigQuiet
import Derived.Lib.Hide
import Derived.Deep.Draws
import Derived.Laws.CopyOwn
namespace Go.Proofs.Ytlcpackmoolngaa.Mem
open Go.RowKit

/-- The block g is just the cells cs of element type t, none frozen. -/
def Blk (w : World) (g : Nat) (t : TypeId) (cs : Array Value) : Prop := w.heap[g]? = some (.cells cs t (0, 0))

section
variable {w w' : World} {g : Nat} {t : TypeId} {cs : Array Value}
theorem Blk.lt (h : Blk w g t cs) : g < w.heap.size := by
  by_cases hl : g < w.heap.size
  · exact hl
  · unfold Blk at h; rw [Array.getElem?_eq_none (by omega)] at h; cases h
theorem Blk.cell (h : Blk w g t cs) (i : Nat) : w.cell? ⟨g, i, none⟩ = cs[i]? := by
  unfold Blk at h; simp [World.cell?, h]
theorem Blk.thaw (h : Blk w g t cs) (i : Nat) : w.frozen? ⟨g, i, none⟩ = false := by
  unfold Blk at h; simp [World.frozen?, h]
theorem Blk.fresh (w : World) (t : TypeId) (cs : Array Value) : Blk (w.alloc (.cells cs t)) w.heap.size t cs := by
  show (w.heap.push _)[w.heap.size]? = _; simp
theorem Blk.new (hg : g = w.heap.size) : Blk (w.alloc (.cells cs t)) g t cs := by subst hg; exact Blk.fresh w t cs
theorem Blk.drewN (h : Blk w g t cs) (n : Nat) : Blk (w.drewN n) g t cs := h
theorem Blk.drew (h : Blk w g t cs) : Blk w.drew g t cs := h
theorem Blk.alloc (h : Blk w g t cs) (o : Obj) : Blk (w.alloc o) g t cs := (Below.heap_alloc w o g h.lt).trans h
theorem Blk.set (h : Blk w g t cs) (i : Nat) (u : Value) : Blk (w.setCell ⟨g, i, none⟩ u) g t (cs.setIfInBounds i u) := by
  unfold Blk at h ⊢; simp [World.setCell, Array.getElem?_modify, h]
theorem Blk.other (h : Blk w g t cs) {p : Addr} (hp : g ≠ p.block) (u : Value) : Blk (w.setCell p u) g t cs := (Below.heap_setCell w p u g hp).trans h
theorem Blk.below {B : Nat} (h : Blk w g t cs) (hb : Below B w w') (hg : g < B) : Blk w' g t cs := (hb.block g hg).trans h
theorem Blk.grown {row : Option Nat} (h : Blk w g t cs) (hb : w.grownBy w' row) (hg : some g ≠ row) : Blk w' g t cs := (hb.block g h.lt hg).trans h
theorem Blk.setRow (h : Blk w g t cs) (cs' : Array Value) : Blk (w.setRow g cs') g t cs' := setRow_heap w g cs cs' t (0, 0) h
theorem Blk.setRow_other (h : Blk w g t cs) {g' : Nat} (hg : g ≠ g') (cs' : Array Value) : Blk (w.setRow g' cs') g t cs := (Go.setRow_other w g' g cs' hg).trans h
theorem Blk.apart {g' : Nat} {t' : TypeId} {cs' : Array Value} (h : Blk w g t cs) (h' : Blk w g' t' cs') (hne : t ≠ t') : g ≠ g' := by
  intro e; subst e; unfold Blk at h h'; rw [h] at h'; simp at h'; exact hne h'.2
end

/-- A slice (its address A, of n elements of size cells) reads as the cells xs, and lies below block B. -/
def Rd (w : World) (B size : Nat) (A : Option Addr) (n : Nat) (xs : List Value) : Prop :=
  xs.length = n * size ∧ (0 < n → ∃ b o, A = some ⟨b, o, none⟩ ∧ b < B ∧ ∀ j u, xs[j]? = some u → w.cell? ⟨b, o + j, none⟩ = some u)

section
variable {w w' : World} {B B' size n : Nat} {A : Option Addr} {xs : List Value}
theorem Rd.nil (w : World) (B size : Nat) (A : Option Addr) : Rd w B size A 0 [] := ⟨by simp, fun h => absurd h (by omega)⟩
theorem Rd.keep (h : Rd w B size A n xs) (hk : ∀ b o, b < B → w'.cell? ⟨b, o, none⟩ = w.cell? ⟨b, o, none⟩) : Rd w' B size A n xs :=
  ⟨h.1, fun hn => let ⟨b, o, e, hb, hc⟩ := h.2 hn; ⟨b, o, e, hb, fun j u hu => (hk b _ hb).trans (hc j u hu)⟩⟩
theorem Rd.more (h : Rd w B size A n xs) (hB : B ≤ B') : Rd w B' size A n xs :=
  ⟨h.1, fun hn => let ⟨b, o, e, hb, hc⟩ := h.2 hn; ⟨b, o, e, by omega, hc⟩⟩
theorem Rd.below (h : Rd w B size A n xs) (hb : Below B w w') : Rd w' B size A n xs := h.keep fun b o hp => hb.cell (p := ⟨b, o, none⟩) hp
theorem Rd.drewN (h : Rd w B size A n xs) (k : Nat) : Rd (w.drewN k) B size A n xs := h
theorem Rd.drew (h : Rd w B size A n xs) : Rd w.drew B size A n xs := h
theorem Rd.alloc (h : Rd w B size A n xs) (hB : B ≤ w.heap.size) (o : Obj) : Rd (w.alloc o) B size A n xs :=
  h.keep fun b o' hp => World.cell?_alloc_lt w o _ (show b < w.heap.size by omega)
theorem Rd.setCell (h : Rd w B size A n xs) {p : Addr} (hB : B ≤ p.block) (u : Value) : Rd (w.setCell p u) B size A n xs :=
  h.keep fun b o hq => World.cell?_setCell_other w p _ u (fun e => by subst e; exact absurd hq (Nat.not_lt.2 hB))
theorem Rd.grown (h : Rd w B size A n xs) {row : Option Nat} (hg : w.grownBy w' row) (hB : B ≤ w.heap.size) (hr : ∀ g, row = some g → B ≤ g) : Rd w' B size A n xs :=
  h.keep fun b o hp => World.cell?_of_block (hg.block b (by omega) (fun e => by have := hr _ e.symm; omega))
theorem Rd.at {k : Nat} (h : Rd w B 1 A n xs) (hk : k < n) : ∃ b o u, A = some ⟨b, o, none⟩ ∧ b < B ∧ xs[k]? = some u ∧ w.cell? ⟨b, o + k, none⟩ = some u := by
  obtain ⟨b, o, e, hb, hc⟩ := h.2 (by omega)
  have hl : k < xs.length := by have := h.1; omega
  exact ⟨b, o, xs[k], e, hb, List.getElem?_eq_getElem hl, hc k _ (List.getElem?_eq_getElem hl)⟩
theorem Rd.of_own {base : Nat} {e : TypeId} {c : Nat} (h : w.ownsRow base e size (.slice A n c) n xs) : Rd w w.heap.size size A n xs := by
  refine ⟨h.1, fun hn => ?_⟩
  have h' := h
  obtain ⟨_, ⟨_, rfl⟩ | ⟨g, cap, cur, hv, _, hh, _⟩⟩ := h
  · omega
  · have hA : A = some ⟨g, 0, none⟩ := by injection hv
    subst hA
    refine ⟨g, 0, rfl, ?_, fun j u hu => ?_⟩
    · by_cases hl : g < w.heap.size
      · exact hl
      · rw [Array.getElem?_eq_none (by omega)] at hh; cases hh
    · have := h'.cells (g := g) rfl j u hu
      have e : (⟨g, 0, none⟩ : Addr).add j = ⟨g, 0 + j, none⟩ := by unfold Addr.add; split <;> simp_all
      rwa [e] at this
/-- A cut 's[lo:hi]' of elements of one cell or more. -/
theorem Rd.cut (h : Rd w B size A n xs) {lo hi cap : Nat} (hl : lo ≤ hi) (hh : hi ≤ n) (hc : n ≤ cap) :
    Rd w B size (if cap = lo then A else A.map (·.add (lo * size))) (hi - lo) ((xs.take (hi * size)).drop (lo * size)) := by
  have hlen := h.1
  have h1 : hi * size ≤ n * size := Nat.mul_le_mul_right _ hh
  refine ⟨by rw [List.length_drop, List.length_take, hlen, Nat.sub_mul]; omega, fun hn => ?_⟩
  obtain ⟨b, o, rfl, hb, hcell⟩ := h.2 (by omega)
  rw [if_neg (by omega)]
  refine ⟨b, o + lo * size, ?_, hb, fun j u hu => ?_⟩
  · simp only [Option.map_some, Addr.add]
    split <;> simp_all
  · rw [Nat.add_assoc]
    refine hcell _ u ?_
    rw [List.getElem?_drop, List.getElem?_take] at hu
    split at hu
    · exact hu
    · cases hu
end

theorem below_drewN {B : Nat} {a w : World} (h : Below B a w) (n : Nat) : Below B a (w.drewN n) := ⟨h.os, h.tape, h.output, h.size, h.block⟩
theorem onward {B : Nat} {a w w' : World} (h : Below B a w) (hB : B ≤ a.heap.size) (k : Below w.heap.size w w') : Below B a w' := h.trans (k.mono (Nat.le_trans hB h.size))
theorem below_cell {B : Nat} {w w' : World} (h : Below B w w') : ∀ b o, b < B → w'.cell? ⟨b, o, none⟩ = w.cell? ⟨b, o, none⟩ := fun b o hb => h.cell (p := ⟨b, o, none⟩) hb
theorem below_thaw {B : Nat} {w w' : World} (h : Below B w w') : ∀ b o, b < B → w'.frozen? ⟨b, o, none⟩ = w.frozen? ⟨b, o, none⟩ := fun b o hb => h.frozen (p := ⟨b, o, none⟩) hb


/-- What the laws on append and make ask of a slice type and its element type, in one word. -/
structure Elem (P : Program) (t e : TypeId) (z : Value) (size bytes : Nat) : Prop where
  und : P.underlying t = some (.slice e)
  info : (P.info? e).map (fun i => (i.zero, i.size, i.bytes)) = some (some z, size, bytes)
  cells : z.cells.size = size
  pos : 0 < size

theorem own_form {w : World} {base : Nat} {e : TypeId} {size : Nat} {v : Value} {n : Nat} {xs : List Value} (h : w.ownsRow base e size v n xs) :
    ∃ A c, v = .slice A n c ∧ n ≤ c ∧ c ≤ maxLen ∧ (A = none → n = 0 ∧ c = 0) ∧ xs.length = n * size ∧ Rd w w.heap.size size A n xs := by
  obtain ⟨hl, ⟨rfl, rfl⟩ | ⟨g, cap, cur, rfl, hb, hg, hn, hc, hs, ht⟩⟩ := h
  · have : xs = [] := List.eq_nil_of_length_eq_zero (by simpa using hl)
    subst this
    exact ⟨none, 0, rfl, Nat.le_refl _, by unfold maxLen; omega, fun _ => ⟨rfl, rfl⟩, hl, Rd.nil _ _ _ _⟩
  · exact ⟨_, cap, rfl, hn, hc, (by simp), hl, Rd.of_own ⟨hl, .inr ⟨g, cap, cur, rfl, hb, hg, hn, hc, hs, ht⟩⟩⟩

theorem own_weaken {w : World} {base base' : Nat} {e : TypeId} {size : Nat} {v : Value} {n : Nat} {xs : List Value} (h : w.ownsRow base e size v n xs) (hb : base' ≤ base) : w.ownsRow base' e size v n xs := by
  obtain ⟨hl, h | ⟨g, cap, cur, hv, hg, hr⟩⟩ := h
  · exact ⟨hl, .inl h⟩
  · exact ⟨hl, .inr ⟨g, cap, cur, hv, by omega, hr⟩⟩

theorem heap_of_alloc (w : World) (o : Obj) (k : Nat) : (w.alloc o).heap[k]? = if k = w.heap.size then some o else w.heap[k]? := by
  show (w.heap.push o)[k]? = _
  rw [Array.getElem?_push]

section
variable {P : Program}

theorem grown_same (w : World) (row : Option Nat) : w.grownBy w row := ⟨rfl, rfl, rfl, Nat.le_refl _, fun _ _ _ => rfl⟩

theorem run_append_rd (w : World) {base : Nat} {t ty e : TypeId} {z : Value} {size bytes : Nat} (E : Elem P t e z size bytes)
    {v : Value} {n : Nat} {xs : List Value} (hown : w.ownsRow base e size v n xs) {B : Nat} {A : Option Addr} {m c : Nat} {news : List Value} (hA : A = none → m = 0 ∧ c = 0)
    (hr : Rd w B size A m news) (h1 : ∀ u ∈ news, u.oneCell' = true) (h63 : n + m ≤ maxLen) (hbytes : (n + m) * bytes ≤ 140737488355328) (hbase : base ≤ w.heap.size) :
    ∃ A' c' w', (Builtin.append_ #[t, t] ty #[v, .slice A m c]).run P w = .ok (.slice A' (n + m) c') w' ∧ (A' = none → n + m = 0 ∧ c' = 0) ∧ w'.ownsRow base e size (.slice A' (n + m) c') (n + m) (xs ++ news) ∧ w.grownBy w' v.ownBlock := by
  suffices hs : ∃ v' w', (Builtin.append_ #[t, t] ty #[v, .slice A m c]).run P w = .ok v' w' ∧ w'.ownsRow base e size v' (n + m) (xs ++ news) ∧ w.grownBy w' v.ownBlock by
    obtain ⟨v', w', h1, h2, h3⟩ := hs
    obtain ⟨A', c', rfl, _, _, h4, _⟩ := own_form h2
    exact ⟨A', c', w', h1, h4, h2, h3⟩
  obtain ⟨i, hi, hz0, hz1, hz2⟩ := info_parts E.info
  cases A with
  | none =>
    obtain ⟨rfl, rfl⟩ := hA rfl
    have hn : news = [] := List.eq_nil_of_length_eq_zero (by simpa using hr.1)
    subst hn
    exact ⟨v, w, run_append_owned_none w base t ty e i size E.und hi v n xs hown, by simpa using hown, grown_same w _⟩
  | some ad =>
    have hcells : ∀ j u, news[j]? = some u → w.cell? (ad.add j) = some u := by
      intro j u hu
      by_cases hm : 0 < m
      · obtain ⟨b, o, he, hb, hc⟩ := hr.2 hm
        injection he with he
        subst he
        have e1 : (⟨b, o, none⟩ : Addr).add j = ⟨b, o + j, none⟩ := by unfold Addr.add; split <;> simp_all
        rw [e1]
        exact hc j u hu
      · obtain rfl : m = 0 := by omega
        have hn : news = [] := List.eq_nil_of_length_eq_zero (by simpa using hr.1)
        subst hn
        simp at hu
    obtain ⟨v', w', hrun, h2, h3, _⟩ := run_append_own (P := P) w base t ty e i z size bytes E.und hi hz0 hz1 hz2 E.cells E.pos v n xs hown ad m c news hr.1 hcells h1 h63 hbytes hbase
    exact ⟨v', w', hrun, h2, h3⟩

theorem wp_append_rd (w : World) {o : Oper} {a : Act} {K : Act → World → Prop} {Q : Exit → Act → World → Prop} (s x : Operand) (t : TypeId)
    (ho : o.op = .call { callee := .builtin .append, args := #[s, x], argTypes := #[t, t] })
    {base : Nat} {e : TypeId} {z : Value} {size bytes : Nat} (E : Elem P t e z size bytes)
    {v : Value} {n : Nat} {xs : List Value} (hs : a.eval s = v) (hown : w.ownsRow base e size v n xs) {B : Nat} {A : Option Addr} {m c : Nat} {news : List Value} (hx : a.eval x = .slice A m c) (hA : A = none → m = 0 ∧ c = 0)
    (hr : Rd w B size A m news) (h1 : ∀ u ∈ news, u.oneCell' = true) (h63 : n + m ≤ maxLen) (hbytes : (n + m) * bytes ≤ 140737488355328) (hbase : base ≤ w.heap.size)
    (h : ∀ A' c' w', (A' = none → n + m = 0 ∧ c' = 0) → w'.ownsRow base e size (.slice A' (n + m) c') (n + m) (xs ++ news) → w.grownBy w' v.ownBlock → K (a.put o.dst (.slice A' (n + m) c')) w') : o.wp P a w K Q := by
  obtain ⟨A', c', w', hrun, h2, h3, h4⟩ := run_append_rd (P := P) (ty := o.type) w E hown hA hr h1 h63 hbytes hbase
  unfold Oper.wp execOp
  simp only [ho, resolve, invoke, builtin, Sem.run_bind, Sem.run_pure, Result.andThen_ok, List.map_toArray, List.map_cons, List.map_nil, hs, hx, hrun]
  exact h A' c' w' h2 h3 h4

theorem wpList_append_rd (w : World) {ops : Array Oper} {rest : List Oper} {o : Oper} {a : Act} {Q : Exit → Act → World → Prop} (hgd : o.guard = none) (s x : Operand) (t : TypeId)
    (ho : o.op = .call { callee := .builtin .append, args := #[s, x], argTypes := #[t, t] })
    {base : Nat} {e : TypeId} {z : Value} {size bytes : Nat} (E : Elem P t e z size bytes)
    {v : Value} {n : Nat} {xs : List Value} (hs : a.eval s = v) (hown : w.ownsRow base e size v n xs) {B : Nat} {A : Option Addr} {m c : Nat} {news : List Value} (hx : a.eval x = .slice A m c) (hA : A = none → m = 0 ∧ c = 0)
    (hr : Rd w B size A m news) (h1 : ∀ u ∈ news, u.oneCell' = true) (h63 : n + m ≤ maxLen) (hbytes : (n + m) * bytes ≤ 140737488355328) (hbase : base ≤ w.heap.size)
    (h : ∀ A' c' w', (A' = none → n + m = 0 ∧ c' = 0) → w'.ownsRow base e size (.slice A' (n + m) c') (n + m) (xs ++ news) → w.grownBy w' v.ownBlock → wpList P ops Q rest (a.put o.dst (.slice A' (n + m) c')) w') : wpList P ops Q (o :: rest) a w :=
  wpList_plain hgd fun _ hK => wp_append_rd w s x t ho E hs hown hx hA hr h1 h63 hbytes hbase fun A' c' w' h2 h3 h4 => hK _ _ (h A' c' w' h2 h3 h4)

/-- A result that lies in a cell: a struct or an array. -/
theorem ret_row {fn : Func} {R : Ending → World → Prop} {a : Act} {w : World} {p : Tmp} {ty : TypeId} (h : fn.results = #[.cell p ty]) {g : Nat} {t : TypeId} {cs : Array Value} {d : TypeDesc}
    (hp : a.tmps.getD p undef = .pointer (some ⟨g, 0, none⟩)) (hg : Blk w g t cs) (hu : P.underlying ty = some d) (hd : (match d with | .struct _ | .array _ _ => true | _ => false) = true) (hi : (P.info? ty).map (·.size) = some cs.size)
    (hdf : a.defers = []) (hR : R (.returned (.agg cs)) w) : bodyPost P fn R .ret a w :=
  bodyPost_ret (results_cell_row h a.tmps w g t cs (0, 0) d hp hg hu hd hi) hdf hR
end

theorem ret_int {k : IntKind} {a b : Int} (h : a = b) : Ending.returned (.int k a) = .returned (.int k b) := by rw [h]
theorem ret_bool {a b : Bool} (h : a = b) : Ending.returned (.bool a) = .returned (.bool b) := by rw [h]


/-- a row of n integers of one kind, told by a function -/
def rowF (k : IntKind) (n : Nat) (f : Nat → Int) : Array Value := ((List.range n).map fun i => Value.int k (f i)).toArray
theorem rowF_size (k : IntKind) (n : Nat) (f : Nat → Int) : (rowF k n f).size = n := by simp [rowF]
theorem rowF_at (k : IntKind) (n : Nat) (f : Nat → Int) (i : Nat) (hi : i < n) : (rowF k n f)[i]? = some (.int k (f i)) := by simp [rowF, hi]
theorem rowF_out (k : IntKind) (n : Nat) (f : Nat → Int) (i : Nat) (hi : n ≤ i) : (rowF k n f)[i]? = none := by rw [Array.getElem?_eq_none (by rw [rowF_size]; exact hi)]
theorem rowF_congr {k : IntKind} {n : Nat} {f g : Nat → Int} (h : ∀ i, i < n → f i = g i) : rowF k n f = rowF k n g := by
  unfold rowF
  congr 1
  exact List.map_congr_left fun i hi => by rw [h i (List.mem_range.1 hi)]
theorem rowF_set {k : IntKind} {n : Nat} {f g : Nat → Int} {j : Nat} {v : Int} (h : ∀ i, i < n → g i = if i = j then v else f i) : (rowF k n f).setIfInBounds j (.int k v) = rowF k n g := by
  apply Array.ext_getElem?
  intro i
  rw [Array.getElem?_setIfInBounds, rowF_size]
  by_cases hi : i < n
  · rw [rowF_at _ _ _ i hi, rowF_at _ _ _ i hi, h i hi]
    by_cases e : j = i
    · subst e; simp [hi]
    · rw [if_neg e, if_neg (fun h => e h.symm)]
  · rw [rowF_out _ _ _ i (by omega), rowF_out _ _ _ i (by omega)]
    split
    · rw [if_neg (by omega)]
    · rfl
theorem rowF_one {k : IntKind} {n : Nat} {f : Nat → Int} : (rowF k n f).all (·.oneCell') = true := by
  rw [Array.all_eq_true_iff_forall_mem]
  intro v hv
  simp only [rowF, List.mem_toArray, List.mem_map] at hv
  obtain ⟨i, _, rfl⟩ := hv
  rfl
theorem rowF_mem_one {k : IntKind} {l : List Nat} {f : Nat → Int} : ∀ v ∈ l.map (fun i => Value.int k (f i)), v.oneCell' = true := by
  intro v hv
  obtain ⟨i, _, rfl⟩ := List.mem_map.1 hv
  rfl
/-- what a copy of a row's tail over its head leaves -/
theorem rowF_toList (k : IntKind) (n : Nat) (f : Nat → Int) : rowF k n f = ((List.range n).map fun i => Value.int k (f i)).toArray := rfl


theorem madeCells_row (k : IntKind) (n : Nat) : madeCells #[Value.int k 0] n = rowF k n (fun _ => 0) := by
  apply Array.ext'
  rw [toList_madeCells_one]
  show List.replicate n (Value.int k 0) = (rowF k n (fun _ => 0)).toList
  simp only [rowF]
  rw [List.map_const', List.length_range]

/-- 'make([]T, n)' of integers: a new row of noughts, told by a function. -/
theorem wpList_make_row {P : Program} {w : World} {ops : Array Oper} {rest : List Oper} {o : Oper} {a : Act} {Q : Exit → Act → World → Prop}
    (hg : o.guard = none) (l c : Operand) (t : TypeId) (hop : o.op = Op.makeSlice t l c) {e : TypeId} {k : IntKind} {bytes : Nat} (E : Elem P t e (.int k 0) 1 bytes)
    {kl kc : IntKind} {L C : Int} (n : Nat) (hl : a.eval l = .int kl L) (hc : a.eval c = .int kc C) (hL : L = (n : Int)) (hC : C = (n : Int)) (hb : bytes * n ≤ 281474976710656) (hn : n ≤ 9223372036854775807)
    (h : wpList P ops Q rest (a.put o.dst (.slice (some ⟨w.heap.size, 0, none⟩) n n)) (w.alloc (.cells (rowF k n (fun _ => 0)) e))) : wpList P ops Q (o :: rest) a w := by
  obtain ⟨i, hi, hz0, hz1, hz2⟩ := info_parts E.info
  subst hz2
  have hb' : (i.bytes : Int) * (n : Int) ≤ 281474976710656 := by
    have h : ((i.bytes * n : Nat) : Int) ≤ 281474976710656 := by omega
    rwa [Int.natCast_mul] at h
  have hr := run_make (P := P) w t e i (.int k 0) E.und hi hz0 kl kc n n (by omega) (by omega) hb' (by omega)
  refine wpList_plain hg fun K hK => ?_
  subst hL
  subst hC
  simp only [Int.toNat_natCast, hz1, Nat.mul_one] at hr
  unfold Oper.wp
  simp only [execOp, hop, hl, hc, hr, Result.andThen_ok, Sem.run_bind, Sem.run_pure]
  refine hK _ _ ?_
  rw [← madeCells_row] at h
  exact h

theorem Blk.upto {w : World} {G : Nat} {t : TypeId} {k : IntKind} {n j : Nat} {f : Nat → Int} {v : Int} (h : Blk w G t (rowF k n fun i => if i < j then f i else 0)) (hv : v = f j) : Blk (w.setCell ⟨G, j, none⟩ (.int k v)) G t (rowF k n fun i => if i < j + 1 then f i else 0) := by
  rw [← rowF_set (f := fun i => if i < j then f i else 0) (j := j) (v := v) (fun i hi => ?_)]
  · exact h.set _ _
  · by_cases e : i = j
    · subst e; rw [if_pos rfl, if_pos (by omega), hv]
    · rw [if_neg e]
      by_cases h1 : i < j
      · rw [if_pos h1, if_pos (by omega)]
      · rw [if_neg h1, if_neg (by omega)]
theorem Blk.all {w : World} {G : Nat} {t : TypeId} {k : IntKind} {n : Nat} {f : Nat → Int} (h : Blk w G t (rowF k n fun i => if i < n then f i else 0)) : Blk w G t (rowF k n f) := by
  rw [← rowF_congr (f := fun i => if i < n then f i else 0) (fun i hi => if_pos hi)]; exact h
theorem Blk.none {w : World} {G : Nat} {t : TypeId} {k : IntKind} {n : Nat} {f : Nat → Int} (h : Blk w G t (rowF k n fun _ => 0)) : Blk w G t (rowF k n fun i => if i < 0 then f i else 0) := by
  rw [rowF_congr (g := fun _ => 0) (fun i hi => if_neg (by omega))]; exact h
theorem Blk.upto_cell {w : World} {G : Nat} {t : TypeId} {k : IntKind} {n j : Nat} {f : Nat → Int} (h : Blk w G t (rowF k n fun i => if i < j then f i else 0)) (hj : j < n) : w.cell? ⟨G, j, Option.none⟩ = some (.int k 0) := by
  rw [h.cell, rowF_at _ _ _ _ hj, if_neg (by omega)]

theorem u64wrap (n : Int) : IntKind.u64.wrap n = n % 18446744073709551616 := by simp [IntKind.wrap, IntKind.bits, IntKind.signed]

end Go.Proofs.Ytlcpackmoolngaa.Mem
