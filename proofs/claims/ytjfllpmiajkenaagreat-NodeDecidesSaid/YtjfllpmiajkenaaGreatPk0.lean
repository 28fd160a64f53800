import Derived.Test.YtjfllpmiajkenaaGreatRows
import Derived.WalkKit
import Derived.ProofKit
import Derived.OpenShut
import Derived.SizedLaws
import Derived.ChangeArms
import Derived.Deep.QuietTactic
import Derived.BigQuiet
import Derived.Lib.Hide
import Derived.Deep.Draws
import Derived.Laws.CopyOwn
import Derived.Deep.MidRow
import Derived.Laws.StructEq
import Derived.Laws.Tables
import Derived.Test.YtjfllpmiajkenaaGreatProg
import Derived.WalkSpells
import Derived.WalkLawsBesides
import Derived.Deep.RegionHeld3
namespace Go.Proofs.YtjfllpmiajkenaaGreat.Fr
open Go.ChangeShapes Go.WideShapes Go.ChangeAt Go.RowKit
section
variable {H : Type} {enc : TypeId × Value → H} {P : Program}
theorem args_kept (hl : laidOutB P = true) {W W' : World} (hb : Below W.heap.size W W') :
    ∀ {ts : List TypeId} {vs : List Value} {ds : List (DataW H)} {ps : List MemPlace}, (∀ t ∈ ts, P.readableRec t = true ∧ t < P.types.size) →
      DataW.TrodAll enc P W 0 (fun _ => true) true ts vs ds ps → (∀ x ∈ ps, x.block < W.heap.size) →
      DataW.TrodAll enc P W' 0 (fun b => decide (b < W.heap.size)) true ts vs ds ps
  | [], [], [], ps, _, h, _ => h
  | t :: ts, v :: vs, d :: ds, ps, hts, h, hlt => by
    obtain ⟨p, q, h1, h2, rfl⟩ := h
    obtain ⟨a, b⟩ := hts t List.mem_cons_self
    exact ⟨p, q, Below.trod hl a b h1 hb (fun x hx => hlt x (List.mem_append_left _ hx)), args_kept hl hb (fun t ht => hts t (List.mem_cons_of_mem _ ht)) h2 (fun x hx => hlt x (List.mem_append_right _ hx)), rfl⟩
  | [], _ :: _, _, _, _, h, _ => h.elim
  | [], [], _ :: _, _, _, h, _ => h.elim
  | _ :: _, [], _, _, _, h, _ => h.elim
  | _ :: _, _ :: _, [], _, _, h, _ => h.elim
theorem post_true (hl : laidOutB P = true) {f : Func} {s : ChangeSpec} {apart fresh handsOn : Bool} {W W' : World} {args : Array Value} {ds gs : List (DataW H)} {before : List MemPlace} {tb : TypeId}
    (hts : ∀ t ∈ f.params.toList, P.readableRec t = true ∧ t < P.types.size) (hv : s.vars = []) (hr : f.resultTypes = #[tb]) (hb : P.underlying tb = some .bool)
    (hfn : ds.length = f.params.size → s.fn H ds = { results := [.lit (.bool true)], args := ds })
    (hW : DataW.Whole enc P f.params.toList s.vars apart W args.toList ds gs before) (hbel : Below W.heap.size W W') :
    s.post enc P f apart fresh handsOn false W args (.bool true) W' := by
  have hW' := hW
  obtain ⟨p, q, hA, hV, hps, hfz, hnd⟩ := hW
  rw [hv] at hV
  obtain ⟨rfl, rfl⟩ := trodVars_none hV
  have hlen : ds.length = f.params.size := by
    have : ∀ (ts : List TypeId) (vs : List Value) (ds : List (DataW H)) (ps : List MemPlace), DataW.TrodAll enc P W 0 (fun _ => true) true ts vs ds ps → ds.length = ts.length := by
      intro ts
      induction ts with
      | nil => intro vs ds ps h; cases vs <;> cases ds <;> first | rfl | exact h.elim
      | cons t ts ih =>
        intro vs ds ps h
        cases vs with
        | nil => exact h.elim
        | cons v vs =>
          cases ds with
          | nil => exact h.elim
          | cons d ds => obtain ⟨_, _, _, h2, _⟩ := h; simp [ih _ _ _ h2]
    simpa using this _ _ _ _ hA
  have hspec := hfn hlen
  have hlt : ∀ x ∈ before, x.block < W.heap.size := fun x hx => by simpa using hW'.lt x hx
  have hbp : before = p := by simpa using hps
  subst hbp
  refine ⟨ds, [], before, [], before, [], hW', ?_, ?_, ?_, hbel.frame _, fun h => by cases h⟩
  · rw [hr, List.append_nil, hspec]
    exact trodAll_cons_mk (shut_bool hb true) trodAll_mk0
  · rw [List.append_nil, hspec]
    exact args_kept hl hbel hts hA hlt
  · rw [hv]
    show DataW.TrodVars enc P W' _ [] (s.fn H (ds ++ [])).vars []
    rw [List.append_nil, hspec]
    rfl
theorem of_walk (hl : laidOutB P = true) {k : FuncId} {f : Func} {s : ChangeSpec} {apart fresh handsOn : Bool} {W : World} {args : Array Value} {ds gs : List (DataW H)} {before : List MemPlace} {tb : TypeId}
    (hts : ∀ t ∈ f.params.toList, P.readableRec t = true ∧ t < P.types.size) (hv : s.vars = []) (hr : f.resultTypes = #[tb]) (hb : P.underlying tb = some .bool)
    (hfn : ds.length = f.params.size → s.fn H ds = { results := [.lit (.bool true)], args := ds })
    (hW : DataW.Whole enc P f.params.toList s.vars apart W args.toList ds gs before)
    (hwalk : Calls P k args W fun e W' => e = .returned (.bool true) ∧ Below W.heap.size W W') :
    Calls P k args W fun e W' => ∃ v, e = .returned v ∧ s.post enc P f apart fresh handsOn false W args v W' :=
  hwalk.mono fun _ _ ⟨he, hbel⟩ => ⟨_, he, post_true hl hts hv hr hb hfn hW hbel⟩
end
theorem own : ownKnob Tryz.prog.godebug = none := by kernel_rfl
theorem laidOut : laidOutB Tryz.prog = true := by kernel_rfl
end Go.Proofs.YtjfllpmiajkenaaGreat.Fr
namespace Go.Proofs.YtjfllpmiajkenaaGreat.Facts
theorem mapsRowed_ : mapsRowed Tryz.prog = true := by kernel_rfl
theorem stops_ : (Tryz.prog.stops == []) = true := by kernel_rfl
theorem knobs_ : (Tryz.prog.stopKnobs == []) = true := by kernel_rfl
theorem keys_ : (true == Tryz.prog.plainKeys) = true := by kernel_rfl
theorem heard_ : Tryz.prog.stopsHeard = true := by kernel_rfl
theorem enter_ : Tryz.prog.mayEnter = true := by kernel_rfl
theorem lifts_ : (false == Tryz.prog.liftsFinal) = true := by kernel_rfl
theorem make_ : (Tryz.prog.make == some .cut) = true := by kernel_rfl
end Go.Proofs.YtjfllpmiajkenaaGreat.Facts
namespace Go.Proofs.YtjfllpmiajkenaaGreat.Mem
open Go.RowKit
def Blk (w : World) (g : Nat) (t : TypeId) (cs : Array Value) : Prop := w.heap[g]? = some (.cells cs t (0, 0))
section
variable {w w' : World} {g : Nat} {t : TypeId} {cs : Array Value}
theorem Blk.lt (h : Blk w g t cs) : g < w.heap.size := by
  by_cases hl : g < w.heap.size
  · exact hl
  · unfold Blk at h; rw [Array.getElem?_eq_none (by omega)] at h; cases h
theorem Blk.cell (h : Blk w g t cs) (i : Nat) : w.cell? ⟨g, i, none⟩ = cs[i]? := by
  unfold Blk at h; simp [World.cell?, h]
theorem Blk.thaw (h : Blk w g t cs) (i : Nat) : w.frozen? ⟨g, i, none⟩ = false := by
  unfold Blk at h; simp [World.frozen?, h]
theorem Blk.fresh (w : World) (t : TypeId) (cs : Array Value) : Blk (w.alloc (.cells cs t)) w.heap.size t cs := by
  show (w.heap.push _)[w.heap.size]? = _; simp
theorem Blk.new (hg : g = w.heap.size) : Blk (w.alloc (.cells cs t)) g t cs := by subst hg; exact Blk.fresh w t cs
theorem Blk.drewN (h : Blk w g t cs) (n : Nat) : Blk (w.drewN n) g t cs := h
theorem Blk.drew (h : Blk w g t cs) : Blk w.drew g t cs := h
theorem Blk.alloc (h : Blk w g t cs) (o : Obj) : Blk (w.alloc o) g t cs := (Below.heap_alloc w o g h.lt).trans h
theorem Blk.set (h : Blk w g t cs) (i : Nat) (u : Value) : Blk (w.setCell ⟨g, i, none⟩ u) g t (cs.setIfInBounds i u) := by
  unfold Blk at h ⊢; simp [World.setCell, Array.getElem?_modify, h]
theorem Blk.other (h : Blk w g t cs) {p : Addr} (hp : g ≠ p.block) (u : Value) : Blk (w.setCell p u) g t cs := (Below.heap_setCell w p u g hp).trans h
theorem Blk.below {B : Nat} (h : Blk w g t cs) (hb : Below B w w') (hg : g < B) : Blk w' g t cs := (hb.block g hg).trans h
theorem Blk.grown {row : Option Nat} (h : Blk w g t cs) (hb : w.grownBy w' row) (hg : some g ≠ row) : Blk w' g t cs := (hb.block g h.lt hg).trans h
theorem Blk.setRow (h : Blk w g t cs) (cs' : Array Value) : Blk (w.setRow g cs') g t cs' := setRow_heap w g cs cs' t (0, 0) h
theorem Blk.setRow_other (h : Blk w g t cs) {g' : Nat} (hg : g ≠ g') (cs' : Array Value) : Blk (w.setRow g' cs') g t cs := (Go.setRow_other w g' g cs' hg).trans h
theorem Blk.apart {g' : Nat} {t' : TypeId} {cs' : Array Value} (h : Blk w g t cs) (h' : Blk w g' t' cs') (hne : t ≠ t') : g ≠ g' := by
  intro e; subst e; unfold Blk at h h'; rw [h] at h'; simp at h'; exact hne h'.2
end
def Rd (w : World) (B size : Nat) (A : Option Addr) (n : Nat) (xs : List Value) : Prop :=
  xs.length = n * size ∧ (0 < n → ∃ b o, A = some ⟨b, o, none⟩ ∧ b < B ∧ ∀ j u, xs[j]? = some u → w.cell? ⟨b, o + j, none⟩ = some u)
section
variable {w w' : World} {B B' size n : Nat} {A : Option Addr} {xs : List Value}
theorem Rd.nil (w : World) (B size : Nat) (A : Option Addr) : Rd w B size A 0 [] := ⟨by simp, fun h => absurd h (by omega)⟩
theorem Rd.keep (h : Rd w B size A n xs) (hk : ∀ b o, b < B → w'.cell? ⟨b, o, none⟩ = w.cell? ⟨b, o, none⟩) : Rd w' B size A n xs :=
  ⟨h.1, fun hn => let ⟨b, o, e, hb, hc⟩ := h.2 hn; ⟨b, o, e, hb, fun j u hu => (hk b _ hb).trans (hc j u hu)⟩⟩
theorem Rd.more (h : Rd w B size A n xs) (hB : B ≤ B') : Rd w B' size A n xs :=
  ⟨h.1, fun hn => let ⟨b, o, e, hb, hc⟩ := h.2 hn; ⟨b, o, e, by omega, hc⟩⟩
theorem Rd.below (h : Rd w B size A n xs) (hb : Below B w w') : Rd w' B size A n xs := h.keep fun b o hp => hb.cell (p := ⟨b, o, none⟩) hp
theorem Rd.drewN (h : Rd w B size A n xs) (k : Nat) : Rd (w.drewN k) B size A n xs := h
theorem Rd.drew (h : Rd w B size A n xs) : Rd w.drew B size A n xs := h
theorem Rd.alloc (h : Rd w B size A n xs) (hB : B ≤ w.heap.size) (o : Obj) : Rd (w.alloc o) B size A n xs :=
  h.keep fun b o' hp => World.cell?_alloc_lt w o _ (show b < w.heap.size by omega)
theorem Rd.setCell (h : Rd w B size A n xs) {p : Addr} (hB : B ≤ p.block) (u : Value) : Rd (w.setCell p u) B size A n xs :=
  h.keep fun b o hq => World.cell?_setCell_other w p _ u (fun e => by subst e; exact absurd hq (Nat.not_lt.2 hB))
theorem Rd.grown (h : Rd w B size A n xs) {row : Option Nat} (hg : w.grownBy w' row) (hB : B ≤ w.heap.size) (hr : ∀ g, row = some g → B ≤ g) : Rd w' B size A n xs :=
  h.keep fun b o hp => World.cell?_of_block (hg.block b (by omega) (fun e => by have := hr _ e.symm; omega))
theorem Rd.at {k : Nat} (h : Rd w B 1 A n xs) (hk : k < n) : ∃ b o u, A = some ⟨b, o, none⟩ ∧ b < B ∧ xs[k]? = some u ∧ w.cell? ⟨b, o + k, none⟩ = some u := by
  obtain ⟨b, o, e, hb, hc⟩ := h.2 (by omega)
  have hl : k < xs.length := by have := h.1; omega
  exact ⟨b, o, xs[k], e, hb, List.getElem?_eq_getElem hl, hc k _ (List.getElem?_eq_getElem hl)⟩
theorem Rd.of_own {base : Nat} {e : TypeId} {c : Nat} (h : w.ownsRow base e size (.slice A n c) n xs) : Rd w w.heap.size size A n xs := by
  refine ⟨h.1, fun hn => ?_⟩
  have h' := h
  obtain ⟨_, ⟨_, rfl⟩ | ⟨g, cap, cur, hv, _, hh, _⟩⟩ := h
  · omega
  · have hA : A = some ⟨g, 0, none⟩ := by injection hv
    subst hA
    refine ⟨g, 0, rfl, ?_, fun j u hu => ?_⟩
    · by_cases hl : g < w.heap.size
      · exact hl
      · rw [Array.getElem?_eq_none (by omega)] at hh; cases hh
    · have := h'.cells (g := g) rfl j u hu
      have e : (⟨g, 0, none⟩ : Addr).add j = ⟨g, 0 + j, none⟩ := by unfold Addr.add; split <;> simp_all
      rwa [e] at this
theorem Rd.cut (h : Rd w B size A n xs) {lo hi cap : Nat} (hl : lo ≤ hi) (hh : hi ≤ n) (hc : n ≤ cap) :
    Rd w B size (if cap = lo then A else A.map (·.add (lo * size))) (hi - lo) ((xs.take (hi * size)).drop (lo * size)) := by
  have hlen := h.1
  have h1 : hi * size ≤ n * size := Nat.mul_le_mul_right _ hh
  refine ⟨by rw [List.length_drop, List.length_take, hlen, Nat.sub_mul]; omega, fun hn => ?_⟩
  obtain ⟨b, o, rfl, hb, hcell⟩ := h.2 (by omega)
  rw [if_neg (by omega)]
  refine ⟨b, o + lo * size, ?_, hb, fun j u hu => ?_⟩
  · simp only [Option.map_some, Addr.add]
    split <;> simp_all
  · rw [Nat.add_assoc]
    refine hcell _ u ?_
    rw [List.getElem?_drop, List.getElem?_take] at hu
    split at hu
    · exact hu
    · cases hu
end
theorem below_drewN {B : Nat} {a w : World} (h : Below B a w) (n : Nat) : Below B a (w.drewN n) := ⟨h.os, h.tape, h.output, h.size, h.block⟩
theorem onward {B : Nat} {a w w' : World} (h : Below B a w) (hB : B ≤ a.heap.size) (k : Below w.heap.size w w') : Below B a w' := h.trans (k.mono (Nat.le_trans hB h.size))
theorem below_cell {B : Nat} {w w' : World} (h : Below B w w') : ∀ b o, b < B → w'.cell? ⟨b, o, none⟩ = w.cell? ⟨b, o, none⟩ := fun b o hb => h.cell (p := ⟨b, o, none⟩) hb
structure Elem (P : Program) (t e : TypeId) (z : Value) (size bytes : Nat) : Prop where
  und : P.underlying t = some (.slice e)
  info : (P.info? e).map (fun i => (i.zero, i.size, i.bytes)) = some (some z, size, bytes)
  cells : z.cells.size = size
  pos : 0 < size
theorem own_form {w : World} {base : Nat} {e : TypeId} {size : Nat} {v : Value} {n : Nat} {xs : List Value} (h : w.ownsRow base e size v n xs) :
    ∃ A c, v = .slice A n c ∧ n ≤ c ∧ c ≤ maxLen ∧ (A = none → n = 0 ∧ c = 0) ∧ xs.length = n * size ∧ Rd w w.heap.size size A n xs := by
  obtain ⟨hl, ⟨rfl, rfl⟩ | ⟨g, cap, cur, rfl, hb, hg, hn, hc, hs, ht⟩⟩ := h
  · have : xs = [] := List.eq_nil_of_length_eq_zero (by simpa using hl)
    subst this
    exact ⟨none, 0, rfl, Nat.le_refl _, by unfold maxLen; omega, fun _ => ⟨rfl, rfl⟩, hl, Rd.nil _ _ _ _⟩
  · exact ⟨_, cap, rfl, hn, hc, (by simp), hl, Rd.of_own ⟨hl, .inr ⟨g, cap, cur, rfl, hb, hg, hn, hc, hs, ht⟩⟩⟩
theorem own_weaken {w : World} {base base' : Nat} {e : TypeId} {size : Nat} {v : Value} {n : Nat} {xs : List Value} (h : w.ownsRow base e size v n xs) (hb : base' ≤ base) : w.ownsRow base' e size v n xs := by
  obtain ⟨hl, h | ⟨g, cap, cur, hv, hg, hr⟩⟩ := h
  · exact ⟨hl, .inl h⟩
  · exact ⟨hl, .inr ⟨g, cap, cur, hv, by omega, hr⟩⟩
section
variable {P : Program}
theorem grown_same (w : World) (row : Option Nat) : w.grownBy w row := ⟨rfl, rfl, rfl, Nat.le_refl _, fun _ _ _ => rfl⟩
theorem run_append_rd (w : World) {base : Nat} {t ty e : TypeId} {z : Value} {size bytes : Nat} (E : Elem P t e z size bytes)
    {v : Value} {n : Nat} {xs : List Value} (hown : w.ownsRow base e size v n xs) {B : Nat} {A : Option Addr} {m c : Nat} {news : List Value} (hA : A = none → m = 0 ∧ c = 0)
    (hr : Rd w B size A m news) (h1 : ∀ u ∈ news, u.oneCell' = true) (h63 : n + m ≤ maxLen) (hbytes : (n + m) * bytes ≤ 140737488355328) (hbase : base ≤ w.heap.size) :
    ∃ A' c' w', (Builtin.append_ #[t, t] ty #[v, .slice A m c]).run P w = .ok (.slice A' (n + m) c') w' ∧ (A' = none → n + m = 0 ∧ c' = 0) ∧ w'.ownsRow base e size (.slice A' (n + m) c') (n + m) (xs ++ news) ∧ w.grownBy w' v.ownBlock := by
  suffices hs : ∃ v' w', (Builtin.append_ #[t, t] ty #[v, .slice A m c]).run P w = .ok v' w' ∧ w'.ownsRow base e size v' (n + m) (xs ++ news) ∧ w.grownBy w' v.ownBlock by
    obtain ⟨v', w', h1, h2, h3⟩ := hs
    obtain ⟨A', c', rfl, _, _, h4, _⟩ := own_form h2
    exact ⟨A', c', w', h1, h4, h2, h3⟩
  obtain ⟨i, hi, hz0, hz1, hz2⟩ := info_parts E.info
  cases A with
  | none =>
    obtain ⟨rfl, rfl⟩ := hA rfl
    have hn : news = [] := List.eq_nil_of_length_eq_zero (by simpa using hr.1)
    subst hn
    exact ⟨v, w, run_append_owned_none w base t ty e i size E.und hi v n xs hown, by simpa using hown, grown_same w _⟩
  | some ad =>
    have hcells : ∀ j u, news[j]? = some u → w.cell? (ad.add j) = some u := by
      intro j u hu
      by_cases hm : 0 < m
      · obtain ⟨b, o, he, hb, hc⟩ := hr.2 hm
        injection he with he
        subst he
        have e1 : (⟨b, o, none⟩ : Addr).add j = ⟨b, o + j, none⟩ := by unfold Addr.add; split <;> simp_all
        rw [e1]
        exact hc j u hu
      · obtain rfl : m = 0 := by omega
        have hn : news = [] := List.eq_nil_of_length_eq_zero (by simpa using hr.1)
        subst hn
        simp at hu
    obtain ⟨v', w', hrun, h2, h3, _⟩ := run_append_own (P := P) w base t ty e i z size bytes E.und hi hz0 hz1 hz2 E.cells E.pos v n xs hown ad m c news hr.1 hcells h1 h63 hbytes hbase
    exact ⟨v', w', hrun, h2, h3⟩
theorem wp_append_rd (w : World) {o : Oper} {a : Act} {K : Act → World → Prop} {Q : Exit → Act → World → Prop} (s x : Operand) (t : TypeId)
    (ho : o.op = .call { callee := .builtin .append, args := #[s, x], argTypes := #[t, t] })
    {base : Nat} {e : TypeId} {z : Value} {size bytes : Nat} (E : Elem P t e z size bytes)
    {v : Value} {n : Nat} {xs : List Value} (hs : a.eval s = v) (hown : w.ownsRow base e size v n xs) {B : Nat} {A : Option Addr} {m c : Nat} {news : List Value} (hx : a.eval x = .slice A m c) (hA : A = none → m = 0 ∧ c = 0)
    (hr : Rd w B size A m news) (h1 : ∀ u ∈ news, u.oneCell' = true) (h63 : n + m ≤ maxLen) (hbytes : (n + m) * bytes ≤ 140737488355328) (hbase : base ≤ w.heap.size)
    (h : ∀ A' c' w', (A' = none → n + m = 0 ∧ c' = 0) → w'.ownsRow base e size (.slice A' (n + m) c') (n + m) (xs ++ news) → w.grownBy w' v.ownBlock → K (a.put o.dst (.slice A' (n + m) c')) w') : o.wp P a w K Q := by
  obtain ⟨A', c', w', hrun, h2, h3, h4⟩ := run_append_rd (P := P) (ty := o.type) w E hown hA hr h1 h63 hbytes hbase
  unfold Oper.wp execOp
  simp only [ho, resolve, invoke, builtin, Sem.run_bind, Sem.run_pure, Result.andThen_ok, List.map_toArray, List.map_cons, List.map_nil, hs, hx, hrun]
  exact h A' c' w' h2 h3 h4
theorem wpList_append_rd (w : World) {ops : Array Oper} {rest : List Oper} {o : Oper} {a : Act} {Q : Exit → Act → World → Prop} (hgd : o.guard = none) (s x : Operand) (t : TypeId)
    (ho : o.op = .call { callee := .builtin .append, args := #[s, x], argTypes := #[t, t] })
    {base : Nat} {e : TypeId} {z : Value} {size bytes : Nat} (E : Elem P t e z size bytes)
    {v : Value} {n : Nat} {xs : List Value} (hs : a.eval s = v) (hown : w.ownsRow base e size v n xs) {B : Nat} {A : Option Addr} {m c : Nat} {news : List Value} (hx : a.eval x = .slice A m c) (hA : A = none → m = 0 ∧ c = 0)
    (hr : Rd w B size A m news) (h1 : ∀ u ∈ news, u.oneCell' = true) (h63 : n + m ≤ maxLen) (hbytes : (n + m) * bytes ≤ 140737488355328) (hbase : base ≤ w.heap.size)
    (h : ∀ A' c' w', (A' = none → n + m = 0 ∧ c' = 0) → w'.ownsRow base e size (.slice A' (n + m) c') (n + m) (xs ++ news) → w.grownBy w' v.ownBlock → wpList P ops Q rest (a.put o.dst (.slice A' (n + m) c')) w') : wpList P ops Q (o :: rest) a w :=
  wpList_plain hgd fun _ hK => wp_append_rd w s x t ho E hs hown hx hA hr h1 h63 hbytes hbase fun A' c' w' h2 h3 h4 => hK _ _ (h A' c' w' h2 h3 h4)
theorem ret_row {fn : Func} {R : Ending → World → Prop} {a : Act} {w : World} {p : Tmp} {ty : TypeId} (h : fn.results = #[.cell p ty]) {g : Nat} {t : TypeId} {cs : Array Value} {d : TypeDesc}
    (hp : a.tmps.getD p undef = .pointer (some ⟨g, 0, none⟩)) (hg : Blk w g t cs) (hu : P.underlying ty = some d) (hd : (match d with | .struct _ | .array _ _ => true | _ => false) = true) (hi : (P.info? ty).map (·.size) = some cs.size)
    (hdf : a.defers = []) (hR : R (.returned (.agg cs)) w) : bodyPost P fn R .ret a w :=
  bodyPost_ret (results_cell_row h a.tmps w g t cs (0, 0) d hp hg hu hd hi) hdf hR
end
theorem ret_int {k : IntKind} {a b : Int} (h : a = b) : Ending.returned (.int k a) = .returned (.int k b) := by rw [h]
def rowF (k : IntKind) (n : Nat) (f : Nat → Int) : Array Value := ((List.range n).map fun i => Value.int k (f i)).toArray
theorem rowF_size (k : IntKind) (n : Nat) (f : Nat → Int) : (rowF k n f).size = n := by simp [rowF]
theorem rowF_at (k : IntKind) (n : Nat) (f : Nat → Int) (i : Nat) (hi : i < n) : (rowF k n f)[i]? = some (.int k (f i)) := by simp [rowF, hi]
theorem rowF_out (k : IntKind) (n : Nat) (f : Nat → Int) (i : Nat) (hi : n ≤ i) : (rowF k n f)[i]? = none := by rw [Array.getElem?_eq_none (by rw [rowF_size]; exact hi)]
theorem rowF_congr {k : IntKind} {n : Nat} {f g : Nat → Int} (h : ∀ i, i < n → f i = g i) : rowF k n f = rowF k n g := by
  unfold rowF
  congr 1
  exact List.map_congr_left fun i hi => by rw [h i (List.mem_range.1 hi)]
theorem rowF_set {k : IntKind} {n : Nat} {f g : Nat → Int} {j : Nat} {v : Int} (h : ∀ i, i < n → g i = if i = j then v else f i) : (rowF k n f).setIfInBounds j (.int k v) = rowF k n g := by
  apply Array.ext_getElem?
  intro i
  rw [Array.getElem?_setIfInBounds, rowF_size]
  by_cases hi : i < n
  · rw [rowF_at _ _ _ i hi, rowF_at _ _ _ i hi, h i hi]
    by_cases e : j = i
    · subst e; simp [hi]
    · rw [if_neg e, if_neg (fun h => e h.symm)]
  · rw [rowF_out _ _ _ i (by omega), rowF_out _ _ _ i (by omega)]
    split
    · rw [if_neg (by omega)]
    · rfl
theorem rowF_one {k : IntKind} {n : Nat} {f : Nat → Int} : (rowF k n f).all (·.oneCell') = true := by
  rw [Array.all_eq_true_iff_forall_mem]
  intro v hv
  simp only [rowF, List.mem_toArray, List.mem_map] at hv
  obtain ⟨i, _, rfl⟩ := hv
  rfl
theorem madeCells_row (k : IntKind) (n : Nat) : madeCells #[Value.int k 0] n = rowF k n (fun _ => 0) := by
  apply Array.ext'
  rw [toList_madeCells_one]
  show List.replicate n (Value.int k 0) = (rowF k n (fun _ => 0)).toList
  simp only [rowF]
  rw [List.map_const', List.length_range]
theorem wpList_make_row {P : Program} {w : World} {ops : Array Oper} {rest : List Oper} {o : Oper} {a : Act} {Q : Exit → Act → World → Prop}
    (hg : o.guard = none) (l c : Operand) (t : TypeId) (hop : o.op = Op.makeSlice t l c) {e : TypeId} {k : IntKind} {bytes : Nat} (E : Elem P t e (.int k 0) 1 bytes)
    {kl kc : IntKind} {L C : Int} (n : Nat) (hl : a.eval l = .int kl L) (hc : a.eval c = .int kc C) (hL : L = (n : Int)) (hC : C = (n : Int)) (hb : bytes * n ≤ 281474976710656) (hn : n ≤ 9223372036854775807)
    (h : wpList P ops Q rest (a.put o.dst (.slice (some ⟨w.heap.size, 0, none⟩) n n)) (w.alloc (.cells (rowF k n (fun _ => 0)) e))) : wpList P ops Q (o :: rest) a w := by
  obtain ⟨i, hi, hz0, hz1, hz2⟩ := info_parts E.info
  subst hz2
  have hb' : (i.bytes : Int) * (n : Int) ≤ 281474976710656 := by
    have h : ((i.bytes * n : Nat) : Int) ≤ 281474976710656 := by omega
    rwa [Int.natCast_mul] at h
  have hr := run_make (P := P) w t e i (.int k 0) E.und hi hz0 kl kc n n (by omega) (by omega) hb' (by omega)
  refine wpList_plain hg fun K hK => ?_
  subst hL
  subst hC
  simp only [Int.toNat_natCast, hz1, Nat.mul_one] at hr
  unfold Oper.wp
  simp only [execOp, hop, hl, hc, hr, Result.andThen_ok, Sem.run_bind, Sem.run_pure]
  refine hK _ _ ?_
  rw [← madeCells_row] at h
  exact h
theorem Blk.upto {w : World} {G : Nat} {t : TypeId} {k : IntKind} {n j : Nat} {f : Nat → Int} {v : Int} (h : Blk w G t (rowF k n fun i => if i < j then f i else 0)) (hv : v = f j) : Blk (w.setCell ⟨G, j, none⟩ (.int k v)) G t (rowF k n fun i => if i < j + 1 then f i else 0) := by
  rw [← rowF_set (f := fun i => if i < j then f i else 0) (j := j) (v := v) (fun i hi => ?_)]
  · exact h.set _ _
  · by_cases e : i = j
    · subst e; rw [if_pos rfl, if_pos (by omega), hv]
    · rw [if_neg e]
      by_cases h1 : i < j
      · rw [if_pos h1, if_pos (by omega)]
      · rw [if_neg h1, if_neg (by omega)]
theorem Blk.all {w : World} {G : Nat} {t : TypeId} {k : IntKind} {n : Nat} {f : Nat → Int} (h : Blk w G t (rowF k n fun i => if i < n then f i else 0)) : Blk w G t (rowF k n f) := by
  rw [← rowF_congr (f := fun i => if i < n then f i else 0) (fun i hi => if_pos hi)]; exact h
theorem Blk.none {w : World} {G : Nat} {t : TypeId} {k : IntKind} {n : Nat} {f : Nat → Int} (h : Blk w G t (rowF k n fun _ => 0)) : Blk w G t (rowF k n fun i => if i < 0 then f i else 0) := by
  rw [rowF_congr (g := fun _ => 0) (fun i hi => if_neg (by omega))]; exact h
theorem Blk.upto_cell {w : World} {G : Nat} {t : TypeId} {k : IntKind} {n j : Nat} {f : Nat → Int} (h : Blk w G t (rowF k n fun i => if i < j then f i else 0)) (hj : j < n) : w.cell? ⟨G, j, Option.none⟩ = some (.int k 0) := by
  rw [h.cell, rowF_at _ _ _ _ hj, if_neg (by omega)]
theorem u64wrap (n : Int) : IntKind.u64.wrap n = n % 18446744073709551616 := by simp [IntKind.wrap, IntKind.bits, IntKind.signed]
end Go.Proofs.YtjfllpmiajkenaaGreat.Mem
namespace Go.Proofs.YtjfllpmiajkenaaGreat.Flat
open Go.RowKit Go.Proofs.YtjfllpmiajkenaaGreat.Mem
def eqFieldsOK (P : Program) (L : TypeId → Option (List Bool)) : Nat → List Field → Option (List Bool)
  | _, [] => some []
  | off, f :: fs =>
    match L f.type with
    | none => none
    | some l =>
      if f.offset = off ∧ f.name ≠ "_" ∧ (P.info? f.type).map (·.size) = some l.length then
        match eqFieldsOK P L (off + l.length) fs with
        | none => none
        | some r => some (l ++ r)
      else none
def eqOK (P : Program) : Nat → TypeId → Option (List Bool)
  | 0, _ => none
  | d + 1, t =>
    match P.underlying t with
    | some .bool => some [false]
    | some (.int _) => some [true]
    | some (.struct fs) => if P.stoodInHeld t = false then eqFieldsOK P (eqOK P d) 0 fs.toList else none
    | some (.array n e) =>
      match eqOK P d e with
      | none => none
      | some l => if (P.info? e).map (·.size) = some l.length then some (List.replicate n l).flatten else none
    | _ => none
def Typed : List Bool → List Value → Prop
  | [], [] => True
  | b :: bs, v :: vs => (match b with | true => ∃ k n, v = Value.int k n | false => ∃ c, v = Value.bool c) ∧ Typed bs vs
  | _, _ => False
theorem Typed.length : ∀ {bs : List Bool} {vs : List Value}, Typed bs vs → vs.length = bs.length
  | [], [], _ => rfl
  | _ :: _, _ :: _, h => by simp [Typed.length h.2]
  | [], _ :: _, h => h.elim
  | _ :: _, [], h => h.elim
theorem Typed.split : ∀ {a b : List Bool} {vs : List Value}, Typed (a ++ b) vs → Typed a (vs.take a.length) ∧ Typed b (vs.drop a.length)
  | [], _, _, h => ⟨by simp [Typed], h⟩
  | _ :: a, b, [], h => h.elim
  | x :: a, b, v :: vs, h => by
    obtain ⟨h1, h2⟩ := h
    obtain ⟨h3, h4⟩ := Typed.split (a := a) h2
    exact ⟨⟨h1, by simpa using h3⟩, by simpa using h4⟩
section
variable {P : Program}
theorem run_isAgg {t : TypeId} {d : TypeDesc} (hu : P.underlying t = some d) (w : World) : (isAgg t).run P w = .ok d.isRow w := by
  unfold isAgg
  rw [Sem.run_bind, run_underlying hu w]
  cases d <;> rfl
theorem run_part_row {t : TypeId} {d : TypeDesc} (hu : P.underlying t = some d) (hd : d.isRow = true) {n : Nat} (hi : (P.info? t).map (·.size) = some n) (cs : Array Value) (off : Nat) (w : World) :
    (part t cs off).run P w = .ok (.agg (cs.extract off (off + n))) w := by
  obtain ⟨i, hq, hs⟩ := Option.map_eq_some_iff.1 hi
  unfold part
  simp [Sem.run_bind, run_isAgg hu, hd, sizeOf, typeInfo, hq, hs]
theorem run_part_one {t : TypeId} {d : TypeDesc} (hu : P.underlying t = some d) (hd : d.isRow = false) (cs : Array Value) (off : Nat) (v : Value) (hv : cs[off]? = some v) (w : World) :
    (part t cs off).run P w = .ok v w := by
  unfold part
  simp [Sem.run_bind, run_isAgg hu, hd, hv]
def Refl (P : Program) (d : Nat) (t : TypeId) (ls : List Bool) : Prop :=
  ∀ (xs : Array Value) (off : Nat), Typed ls ((xs.toList.drop off).take ls.length) → (P.info? t).map (·.size) = some ls.length → ∀ w : World, ∃ v, (part t xs off).run P w = .ok v w ∧ ∀ d', d ≤ d' → (Op.equalIn d' t v v).run P w = .ok true w
theorem fields_refl {d : Nat} {L : TypeId → Option (List Bool)} (ih : ∀ t ls, L t = some ls → Refl P d t ls) (xs : Array Value) {d' : Nat} (hd : d ≤ d') (w : World) :
    ∀ (fs : List Field) (off : Nat) (ls : List Bool), eqFieldsOK P L off fs = some ls → Typed ls ((xs.toList.drop off).take ls.length) → (Op.eqFields d' xs xs fs).run P w = .ok true w
  | [], _, _, _, _ => by simp [Op.eqFields]
  | f :: fs, off, ls, h, ht => by
    unfold eqFieldsOK at h
    cases hL : L f.type with
    | none => simp [hL] at h
    | some l =>
      simp only [hL] at h
      split at h
      · rename_i hc
        obtain ⟨ho, hn, hs⟩ := hc
        cases hr : eqFieldsOK P L (off + l.length) fs with
        | none => simp [hr] at h
        | some r =>
          simp only [hr, Option.some.injEq] at h
          subst h
          obtain ⟨t1, t2⟩ := ht.split
          have e1 : ((xs.toList.drop off).take (l ++ r).length).take l.length = (xs.toList.drop off).take l.length := by
            rw [List.take_take, List.length_append, Nat.min_eq_left (by omega)]
          have e2 : ((xs.toList.drop off).take (l ++ r).length).drop l.length = (xs.toList.drop (off + l.length)).take r.length := by
            rw [List.length_append, List.drop_take, List.drop_drop]
            congr 1; omega
          rw [e1] at t1
          rw [e2] at t2
          obtain ⟨v, hv, he⟩ := ih _ _ hL xs off t1 hs w
          unfold Op.eqFields
          rw [if_pos hn, ho]
          simp only [Sem.run_bind, hv, Result.andThen_ok, he d' hd, Bool.not_true, Bool.false_eq_true, if_false]
          exact fields_refl ih xs hd w fs _ _ hr t2
      · cases h
theorem array_refl {d e : Nat} {l : List Bool} (ih : Refl P d e l) (hs : (P.info? e).map (·.size) = some l.length) (xs : Array Value) {d' : Nat} (hd : d ≤ d') (w : World) (n : Nat) :
    ∀ (m k : Nat), k + m ≤ n → Typed (List.replicate m l).flatten ((xs.toList.drop (k * l.length)).take (m * l.length)) →
      ∀ b : Option Bool × Unit, b.1 = none → (forIn (m := Sem) (List.range' k m) b (fun i _ => do
        let a ← part e xs (i * l.length)
        let c ← part e xs (i * l.length)
        let r ← Op.equalIn d' e a c
        if (!r) = true then pure (ForInStep.done (some false, ())) else pure (ForInStep.yield (none, ())))).run P w = .ok (none, ()) w
  | 0, k, _, _, b, hb => by
    obtain ⟨b1, b2⟩ := b
    simp only at hb
    subst hb
    simp
  | m + 1, k, hk, ht, b, hb => by
    rw [List.replicate_succ, List.flatten_cons] at ht
    obtain ⟨t1, t2⟩ := ht.split
    have e1 : ((xs.toList.drop (k * l.length)).take ((m + 1) * l.length)).take l.length = (xs.toList.drop (k * l.length)).take l.length := by
      rw [List.take_take, Nat.succ_mul, Nat.min_eq_left (by omega)]
    have e2 : ((xs.toList.drop (k * l.length)).take ((m + 1) * l.length)).drop l.length = (xs.toList.drop ((k + 1) * l.length)).take (m * l.length) := by
      rw [List.drop_take, List.drop_drop, Nat.succ_mul, Nat.succ_mul]
      congr 1; omega
    rw [e1] at t1
    rw [e2] at t2
    obtain ⟨v, hv, he⟩ := ih xs (k * l.length) t1 hs w
    rw [List.range'_succ, List.forIn_cons]
    simp only [Sem.run_bind, hv, Result.andThen_ok, he d' hd, Bool.not_true, Bool.false_eq_true, if_false, Sem.run_pure]
    exact array_refl ih hs xs hd w n m (k + 1) (by omega) t2 _ rfl
theorem typed_flatten_length (n : Nat) (l : List Bool) : ((List.replicate n l).flatten).length = n * l.length := by simp
theorem refl : ∀ (d : Nat) (t : TypeId) (ls : List Bool), eqOK P d t = some ls → Refl P d t ls
  | 0, _, _, h => by simp [eqOK] at h
  | d + 1, t, ls, h => by
    intro xs off ht hs w
    unfold eqOK at h
    cases hu : P.underlying t with
    | none => simp [hu] at h
    | some u =>
      rw [hu] at h
      cases u with
      | bool =>
        simp only [Option.some.injEq] at h
        subst h
        obtain ⟨v, hv⟩ : ∃ v, xs[off]? = some v := by
          cases hx : xs[off]? with
          | some v => exact ⟨v, rfl⟩
          | none =>
            have := ht.length
            simp at this hx
            omega
        have hvt : ∃ c, v = Value.bool c := by
          have e : (xs.toList.drop off).take 1 = [v] := by
            have hlt : off < xs.toList.length := by
              have := (Array.getElem?_eq_some_iff.1 hv).1
              simpa using this
            rw [List.drop_eq_getElem_cons hlt, List.take_succ_cons, List.take_zero]
            congr 1
            have := (Array.getElem?_eq_some_iff.1 hv).2
            simpa using this
          rw [show [false].length = 1 from rfl, e] at ht
          exact ht.1
        obtain ⟨c, rfl⟩ := hvt
        refine ⟨_, run_part_one hu rfl xs off _ hv w, fun d' hd => ?_⟩
        obtain ⟨d'', rfl⟩ : ∃ d'', d' = d'' + 1 := ⟨d' - 1, by omega⟩
        rw [run_equalIn_bool' w d'' t c c hu]
        simp
      | int k =>
        simp only [Option.some.injEq] at h
        subst h
        obtain ⟨v, hv⟩ : ∃ v, xs[off]? = some v := by
          cases hx : xs[off]? with
          | some v => exact ⟨v, rfl⟩
          | none =>
            have := ht.length
            simp at this hx
            omega
        have hvt : ∃ k n, v = Value.int k n := by
          have e : (xs.toList.drop off).take 1 = [v] := by
            have hlt : off < xs.toList.length := by
              have := (Array.getElem?_eq_some_iff.1 hv).1
              simpa using this
            rw [List.drop_eq_getElem_cons hlt, List.take_succ_cons, List.take_zero]
            congr 1
            have := (Array.getElem?_eq_some_iff.1 hv).2
            simpa using this
          rw [show [true].length = 1 from rfl, e] at ht
          exact ht.1
        obtain ⟨k', n, rfl⟩ := hvt
        refine ⟨_, run_part_one hu rfl xs off _ hv w, fun d' hd => ?_⟩
        obtain ⟨d'', rfl⟩ : ∃ d'', d' = d'' + 1 := ⟨d' - 1, by omega⟩
        rw [run_equalIn_int w d'' t k' k n n hu]
        simp
      | struct fs =>
        simp only at h
        split at h
        · rename_i hp
          refine ⟨_, run_part_row hu rfl hs xs off w, fun d' hd => ?_⟩
          obtain ⟨d'', rfl⟩ : ∃ d'', d' = d'' + 1 := ⟨d' - 1, by omega⟩
          have hf : P.underlying t = some (.struct (P.fieldsOf t)) := by simp [Program.fieldsOf, hu]
          rw [run_equalIn_struct w d'' t _ _ hf hp]
          have hff : P.fieldsOf t = fs := by simp [Program.fieldsOf, hu]
          rw [hff]
          refine fields_refl (fun t ls hl => refl d t ls hl) _ (by omega) w _ 0 ls h ?_
          have e : (((xs.extract off (off + ls.length)).toList.drop 0).take ls.length) = (xs.toList.drop off).take ls.length := by
            simp [List.take_take, Array.toList_extract]
          rw [e]; exact ht
        · cases h
      | array n e =>
        simp only at h
        cases hl : eqOK P d e with
        | none => simp [hl] at h
        | some l =>
          simp only [hl] at h
          split at h
          · rename_i hse
            simp only [Option.some.injEq] at h
            subst h
            refine ⟨_, run_part_row hu rfl hs xs off w, fun d' hd => ?_⟩
            obtain ⟨d'', rfl⟩ : ∃ d'', d' = d'' + 1 := ⟨d' - 1, by omega⟩
            obtain ⟨i, hq, hsz⟩ := Option.map_eq_some_iff.1 hse
            have ha := array_refl (d' := d'') (refl d e l hl) hse (xs.extract off (off + (List.replicate n l).flatten.length)) (by omega) w n n 0 (by omega) (by
              have e2 : (((xs.extract off (off + (List.replicate n l).flatten.length)).toList.drop (0 * l.length)).take (n * l.length)) = (xs.toList.drop off).take (List.replicate n l).flatten.length := by
                rw [typed_flatten_length]
                simp [List.take_take, Array.toList_extract]
              rw [e2]; exact ht) (none, ()) rfl
            unfold Op.equalIn
            simp only [Sem.run_bind, run_underlying hu, Result.andThen_ok, sizeOf, typeInfo, run_program, hq, hsz, Sem.run_pure]
            rw [Std.Legacy.Range.forIn_eq_forIn_range']
            rw [show (List.range' [:n].start [:n].size [:n].step) = List.range' 0 n from by simp [Std.Legacy.Range.size]]
            rw [ha]
            rfl
          · cases h
      | _ => simp at h
end
end Go.Proofs.YtjfllpmiajkenaaGreat.Flat
namespace Go.Proofs.YtjfllpmiajkenaaGreat.Rws
open Go.RowKit Go.Proofs.YtjfllpmiajkenaaGreat.Mem Go.Proofs.YtjfllpmiajkenaaGreat.Flat
set_option linter.unusedVariables false
def row (n : Nat) (f : Nat → Value) : Array Value := ((List.range n).map f).toArray
theorem row_size (n : Nat) (f : Nat → Value) : (row n f).size = n := by simp [row]
theorem row_at {n : Nat} {f : Nat → Value} {i : Nat} (hi : i < n) : (row n f)[i]? = some (f i) := by simp [row, hi]
theorem row_out {n : Nat} {f : Nat → Value} {i : Nat} (hi : n ≤ i) : (row n f)[i]? = none := by rw [Array.getElem?_eq_none (by rw [row_size]; exact hi)]
theorem row_congr {n : Nat} {f g : Nat → Value} (h : ∀ i, i < n → f i = g i) : row n f = row n g := by
  unfold row
  congr 1
  exact List.map_congr_left fun i hi => h i (List.mem_range.1 hi)
theorem row_set {n : Nat} {f : Nat → Value} (j : Nat) (v : Value) : (row n f).setIfInBounds j v = row n fun i => if i = j then v else f i := by
  apply Array.ext_getElem?
  intro i
  rw [Array.getElem?_setIfInBounds]
  rcases Nat.lt_or_ge i n with h | h
  · rw [row_at h, row_at h]
    by_cases e : j = i
    · subst e; simp [row_size, h]
    · rw [if_neg e, if_neg (fun h => e h.symm)]
  · rw [row_out h, row_out h]
    by_cases e : j = i
    · subst e; simp [row_size]; omega
    · rw [if_neg e]
theorem row_toList (n : Nat) (f : Nat → Value) : (row n f).toList = (List.range n).map f := rfl
theorem row_one {n : Nat} {f : Nat → Value} (h : ∀ i, i < n → (f i).oneCell' = true) : (row n f).all (·.oneCell') = true := by
  rw [Array.all_eq_true_iff_forall_mem]
  intro v hv
  simp only [row, List.mem_toArray, List.mem_map, List.mem_range] at hv
  obtain ⟨i, hi, rfl⟩ := hv
  exact h i hi
def over (o m : Nat) (g f : Nat → Value) (i : Nat) : Value := if o ≤ i ∧ i < o + m then g (i - o) else f i
theorem over_in {o m : Nat} {g f : Nat → Value} {i : Nat} (h1 : o ≤ i) (h2 : i < o + m) : over o m g f i = g (i - o) := if_pos ⟨h1, h2⟩
theorem over_out {o m : Nat} {g f : Nat → Value} {i : Nat} (h : i < o ∨ o + m ≤ i) : over o m g f i = f i := if_neg (by omega)
theorem row_range {w : World} {b : Nat} {t : TypeId} {n : Nat} {f : Nat → Value} (h : Blk w b t (row n f)) (o m : Nat) (ho : o + m ≤ n) : w.rangeAt b o ((List.range m).map fun j => f (o + j)) := fun j v hv => by
  have hj : j < m := by have := (List.getElem?_eq_some_iff.1 hv).1; simpa using this
  rw [h.cell, row_at (by omega)]
  simp [hj] at hv
  rw [hv]
theorem row_there {w : World} {b : Nat} {t : TypeId} {n : Nat} {f : Nat → Value} (h : Blk w b t (row n f)) (o m : Nat) (ho : o + m ≤ n) : w.there b o m := fun j hj =>
  ⟨by rw [h.cell, row_at (by omega)]; rfl, h.thaw _⟩
theorem setCells_blk {b : Nat} {t : TypeId} {n : Nat} (g : Nat → Value) : ∀ (m k o : Nat) (w : World) (f : Nat → Value), Blk w b t (row n f) →
    Blk (w.setCells b (o + k) ((List.range' k m).map g)) b t (row n fun i => if o + k ≤ i ∧ i < o + k + m then g (i - o) else f i)
  | 0, k, o, w, f, h => by
    simp only [List.range'_zero, List.map_nil, World.setCells]
    rw [row_congr (f := fun i => if o + k ≤ i ∧ i < o + k + 0 then g (i - o) else f i) (g := f) (fun i hi => if_neg (by omega))]
    exact h
  | m + 1, k, o, w, f, h => by
    rw [List.range'_succ, List.map_cons, World.setCells]
    have h1 := h.set (o + k) (g k)
    rw [row_set] at h1
    have h2 := setCells_blk g m (k + 1) o _ _ h1
    rw [← Nat.add_assoc] at h2
    rw [row_congr (g := fun i => if o + k + 1 ≤ i ∧ i < o + k + 1 + m then g (i - o) else if i = o + k then g k else f i) (fun i hi => ?_)]
    · exact h2
    · by_cases e : i = o + k
      · subst e
        rw [if_pos (by omega), if_neg (by omega), if_pos rfl, Nat.add_sub_cancel_left]
      · by_cases h3 : o + k + 1 ≤ i ∧ i < o + k + 1 + m
        · rw [if_pos (by omega), if_pos h3]
        · rw [if_neg (by omega), if_neg h3, if_neg e]
theorem blk_mid {w : World} {b : Nat} {t : TypeId} {n : Nat} {f : Nat → Value} (h : Blk w b t (row n f)) (o m : Nat) (g : Nat → Value) : Blk (w.setCells b o (row m g).toList) b t (row n (over o m g f)) := by
  have := setCells_blk g m 0 o w f h
  rw [row_toList, List.range_eq_range']
  simp only [Nat.add_zero] at this
  exact this
theorem blk_mid_other {w : World} {b b' : Nat} {t : TypeId} {cs : Array Value} (hb : b ≠ b') : ∀ (vs : List Value) (o : Nat) (w : World), Blk w b t cs → Blk (w.setCells b' o vs) b t cs
  | [], _, _, h => h
  | v :: r, o, w, h => by
    rw [World.setCells]
    exact blk_mid_other (w := w) hb r (o + 1) _ (h.other (p := ⟨b', o, none⟩) hb v)
theorem below_setCells {B : Nat} {b : Nat} (hB : B ≤ b) : ∀ (vs : List Value) (o : Nat) {a w : World}, Below B a w → Below B a (w.setCells b o vs)
  | [], _, _, _, h => h
  | v :: r, o, a, w, h => by
    rw [World.setCells]
    exact below_setCells hB r (o + 1) (h.setCell hB v)
section
variable {P : Program} {ops : Array Oper} {rest : List Oper} {o : Oper} {a : Act} {w : World} {Q : Exit → Act → World → Prop}
theorem wpList_wanted (hw : Region.wanted o (yielded ops a.tmps) = true)
    (h : ∀ K : Act → World → Prop, (∀ a w, wpList P ops Q rest a w → K a w) → o.wp P a w K Q) : wpList P ops Q (o :: rest) a w :=
  wpList_step fun K hK => by rw [if_pos hw]; exact h K hK
theorem wpList_mid (hw : Region.wanted o (yielded ops a.tmps) = true) (ty : TypeId) (x : Operand) (ho : o.op = .load ty x)
    (b off m : Nat) (hx : a.eval x = .pointer (some ⟨b, off, none⟩)) {t : TypeId} {n : Nat} {f : Nat → Value} (hb : Blk w b t (row n f)) (hm : off + m ≤ n) (d : TypeDesc)
    (hu : P.underlying ty = some d) (hd : d.isRow = true) (hi : (P.info? ty).map (·.size) = some m)
    (h : wpList P ops Q rest (a.put o.dst (.agg (row m fun j => f (off + j)))) w) : wpList P ops Q (o :: rest) a w :=
  wpList_wanted hw fun _ hK => wp_load_mid ty x ho b off hx _ d (row_range hb off m hm) hu hd (by rw [hi]; simp) (hK _ _ h)
theorem wpList_whole (hw : Region.wanted o (yielded ops a.tmps) = true) (ty : TypeId) (x : Operand) (ho : o.op = .load ty x)
    (b : Nat) (hx : a.eval x = .pointer (some ⟨b, 0, none⟩)) {t : TypeId} {cs : Array Value} (hb : Blk w b t cs) (d : TypeDesc)
    (hu : P.underlying ty = some d) (hd : d.isRow = true) (hi : (P.info? ty).map (·.size) = some cs.size)
    (h : wpList P ops Q rest (a.put o.dst (.agg cs)) w) : wpList P ops Q (o :: rest) a w :=
  wpList_wanted hw fun _ hK => wp_load_row ty x ho b hx t cs (0, 0) d hb hu (by cases d <;> first | rfl | cases hd) hi (hK _ _ h)
theorem run_eql_refl {t : TypeId} {d : Nat} {ls : List Bool} (he : eqOK P d t = some ls) (hd : d ≤ 10000) {u : TypeDesc} (hu : P.underlying t = some u) (hr : u.isRow = true) (hi : (P.info? t).map (·.size) = some ls.length) (xs : Array Value) (hs : xs.size = ls.length) (ht : Typed ls xs.toList) (w : World) :
    (binOp .eql t (.agg xs) (.agg xs)).run P w = .ok (.bool true) w := by
  obtain ⟨v, h1, h2⟩ := Flat.refl d t ls he xs 0 (by rw [List.drop_zero, ← hs, ← Array.length_toList, List.take_length]; exact ht) hi w
  rw [run_part_row hu hr hi] at h1
  have e : xs.extract 0 (0 + ls.length) = xs := by rw [Nat.zero_add, ← hs]; simp
  rw [e] at h1
  injection h1 with h1
  subst h1
  rw [run_eql_struct, h2 10000 hd]
  rfl
theorem run_eqGuard_rows {t : TypeId} (hq : P.eqGuardType P.depth t = false) (x y : Operand) (xs ys : Array Value) (w : World) : (eqGuard .eql t x y (.agg xs) (.agg ys)).run P w = .ok () w := by
  unfold eqGuard
  simp [run_program, hq]
theorem wpList_eql (hw : Region.wanted o (yielded ops a.tmps) = true) (t u : TypeId) (x y : Operand) (ho : o.op = .binOp .eql t x y u) {d : Nat} {ls : List Bool} (he : eqOK P d t = some ls) (hd : d ≤ 10000) {e : TypeDesc} (hu : P.underlying t = some e) (hr : e.isRow = true) (hi : (P.info? t).map (·.size) = some ls.length) (hq : P.eqGuardType P.depth t = false)
    (f : Nat → Value) (hx : a.eval x = .agg (row ls.length f)) (hy : a.eval y = .agg (row ls.length f)) (ht : Typed ls ((List.range ls.length).map f))
    (h : wpList P ops Q rest (a.put o.dst (.bool true)) w) : wpList P ops Q (o :: rest) a w :=
  wpList_wanted hw fun _ hK => by
    unfold Oper.wp execOp
    simp only [ho, hx, hy, Sem.run_bind, run_eqGuard_rows hq, run_eql_refl he hd hu hr hi _ (row_size _ _) ht, Result.andThen_ok, Sem.run_pure]
    exact hK _ _ h
end
end Go.Proofs.YtjfllpmiajkenaaGreat.Rws
namespace Go.Proofs.YtjfllpmiajkenaaGreat.Nd
open Go.RowKit Go.Proofs.YtjfllpmiajkenaaGreat.Mem Go.Proofs.YtjfllpmiajkenaaGreat.Rws
set_option linter.unusedVariables false
def roll0 (i : Nat) : Value := if i < 4 then .bool true else .int .i64 0
def state0 (i : Nat) : Value := if i = 2 then .int .i64 4294967296 else if i = 4 then .int .i64 4294967296 else if i = 5 then .bool false else .int .i64 0
theorem refroll_any (w : World) : Calls Tryz.prog 73 #[] w fun e w' => e = .returned (.agg (row 12 roll0)) ∧ Below w.heap.size w w' := by
  go_enter Tryz.func73, Tryz.ntmps73
  go_wp2
  refine bodyPost_ret (v := .agg (row 12 roll0)) (by simp [results, Tryz.results73, go_sem]; rfl) rfl ⟨rfl, ?_⟩
  exact (Below.refl _ _).alloc (Nat.le_refl _) _
end Go.Proofs.YtjfllpmiajkenaaGreat.Nd
