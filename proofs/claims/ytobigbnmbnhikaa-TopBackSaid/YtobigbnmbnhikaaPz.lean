/- The law TopBack returns true: a computer that was faulty and then is good has the others' state behind its first good frame (unless its digest was theirs by chance), and all are in MaxJoin frames later. Conditions: none. -/
import Derived.Test.YtobigbnmbnhikaaPb0
import Derived.Test.YtobigbnmbnhikaaPbd30
set_option linter.unusedVariables false
set_option linter.unusedSimpArgs false
namespace Go.Proofs.Ytobigbnmbnhikaa
namespace Cf
open Go.RowKit Mem Rws Nd Cl
section
variable {c : CluS} {x : InS}
end
theorem cntTo_congr {f g : Nat → Bool} : ∀ k, (∀ i, i < k → f i = g i) → cntTo f k = cntTo g k
 | 0, _ => rfl
 | k + 1, h => by
  unfold cntTo
  rw [cntTo_congr k (fun i hi => h i (by omega)), h k (by omega)]
theorem upd_congr {α : Type} {g h : Nat → α} {i k : Nat} {v : α} (e : g k = h k) : upd g i v k = upd h i v k := by
 unfold upd
 split
 · rfl
 · exact e
theorem one_congr {r s : RS} (h : RSame r s) {i : Nat} (hi : i < 4) (b : Bool) : RSame (Nd.one r i b).1 (Nd.one s i b).1 := fun k hk => by
 obtain ⟨h1, h2, h3⟩ := h k hk; obtain ⟨g1, g2, g3⟩ := h i hi
 unfold Nd.one
 rw [g1, g2, g3, cntTo_congr 4 (fun i hi => (h i hi).1)]
 (repeat' split) <;> exact ⟨by first | exact h1 | exact upd_congr h1, by first | exact h2 | exact upd_congr h2, by first | exact h3 | exact upd_congr h3⟩
theorem many_congr {r s : RS} (h : RSame r s) {ag ag' : Nat → Bool} (ha : ∀ i, i < 4 → ag i = ag' i) : ∀ n, n ≤ 4 → RSame (many r ag n).1 (many s ag' n).1
 | 0, _ => h
 | n + 1, hn => by
  unfold many
  rw [ha n (by omega)]; exact one_congr (many_congr h ha n (by omega)) (by omega) _
theorem one_good {s : RS} {i : Nat} (h : GoodAt s i) (b : Bool) : GoodAt (Nd.one s i b).1 i := by
 cases e : s.f i with
 | true =>
  have hg := good_in h e
  unfold Nd.one
  rw [if_pos e]
  split
  ·
   unfold GoodAt
   rw [okAt_is (p := true) (q := 0) (r := s.j i) e (upd_same _ _ _) rfl, okP_in]
   simp; omega
  ·
   split
   ·
    unfold GoodAt
    rw [okAt_is (p := false) (q := 0) (r := s.j i) (upd_same _ _ _) (upd_same _ _ _) rfl, okP_out]
    simp; omega
   ·
    unfold GoodAt
    rw [okAt_is (p := true) (q := min (s.m i + 1) 2) (r := s.j i) e (upd_same _ _ _) rfl, okP_in]
    simp; omega
 | false =>
  have hg := good_out h e
  unfold Nd.one
  rw [if_neg (by rw [e]; simp)]
  split
  ·
   unfold GoodAt
   rw [okAt_is (p := false) (q := s.m i) (r := 0) e rfl (upd_same _ _ _), okP_out]
   simp; omega
  ·
   split
   ·
    unfold GoodAt
    rw [okAt_is (p := true) (q := s.m i) (r := 0) (upd_same _ _ _) rfl (upd_same _ _ _), okP_in]
    simp; omega
   ·
    unfold GoodAt
    rw [okAt_is (p := false) (q := s.m i) (r := s.j i + 1) e rfl (upd_same _ _ _), okP_out]
    simp; omega
theorem many_goods {s : RS} (h : ∀ i, i < 4 → GoodAt s i) (ag : Nat → Bool) : ∀ n, n ≤ 4 → ∀ i, i < 4 → GoodAt (many s ag n).1 i
 | 0, _ => h
 | n + 1, hn => fun i hi => by
  have ih := many_goods h ag n (by omega)
  unfold many
  by_cases e : i = n
  · subst e; exact one_good (ih i hi) _
  ·
   obtain ⟨e1, e2, e3⟩ := one_other (many s ag n).1 (ag n) e; have := ih i hi
   unfold GoodAt at this ⊢
   rw [← this]; exact okAt_congr e1 e2 e3
theorem okTo_all {s : RS} (h : ∀ i, i < 4 → GoodAt s i) : ∀ n, n ≤ 4 → okTo s.f s.m s.j n = true
 | 0, _ => rfl
 | n + 1, hn => by
  unfold okTo
  rw [okTo_all h n (by omega)]; exact h n (by omega)
theorem many_in {s : RS} {ag : Nat → Bool} {q : Nat} (hf : s.f q = true) (hm : s.m q = 0) (ha : ag q = true) : ∀ n, (many s ag n).1.f q = true ∧ (many s ag n).1.m q = 0
 | 0 => ⟨hf, hm⟩
 | n + 1 => by
  have ih := many_in hf hm ha n
  unfold many
  by_cases e : q = n
  ·
   subst e
   unfold Nd.one
   rw [if_pos ih.1, if_pos ha]; exact ⟨ih.1, upd_same _ _ _⟩
  ·
   obtain ⟨e1, e2, _⟩ := one_other (many s ag n).1 (ag n) e; exact ⟨e1.trans ih.1, e2.trans ih.2⟩
end Cf
namespace Cf
open Go.RowKit Mem Rws Nd Cl
section
variable {c : CluS} {x : InS}
theorem F6_roll {p : Nat} (hp : p < 4) (hb : (p : Int) ≠ x.bad) (hf : Facts c x p) (j : Nat) (h1 : 27 ≤ j) (h2 : j < 39) : F6 c x p j = rollF (RG c x p).f (RG c x p).m (RG c x p).j (j - 27) := by
 rw [F6_is hp hb hf]
 unfold rollW
 rw [if_pos ⟨h1, h2⟩]
theorem F6_fr (hs : Sane c) (hrd : ∀ i, i < 12 → Wf (x.rd i)) {p : Nat} (hp : p < 4) (hb : (p : Int) ≠ x.bad) : F6 c x p 0 = .int .i64 (p : Int) ∧ F6 c x p 1 = .int .i64 c.fr := by
 have := good6 (good5 (good4 (good3 (good2 (good1 hs hrd))))) p hp hb; exact ⟨this.1, this.2.1⟩
theorem RG_same (hs : Sane c) (hrd : ∀ i, i < 12 → Wf (x.rd i)) (ha : Alike c x.bad) {p q : Nat} (hp : p < 4) (hq : q < 4) (hpb : (p : Int) ≠ x.bad) (hqb : (q : Int) ≠ x.bad) : RSame (RG c x p) (RG c x q) := by
 unfold RG
 refine many_congr (fun i hi => ?_) (fun i hi => ?_) 4 (by omega)
 ·
  obtain ⟨a1, a2, a3⟩ := roll4 (c := c) (x := x) hp hpb i hi; obtain ⟨b1, b2, b3⟩ := roll4 (c := c) (x := x) hq hqb i hi
  have h1 : (rollOf (c.F p)).f i = (rollOf (c.F q)).f i ∧ (rollOf (c.F p)).m i = (rollOf (c.F q)).m i ∧ (rollOf (c.F p)).j i = (rollOf (c.F q)).j i := by
   unfold rollOf inB
   dsimp only; rw [ha.same p q hp hq hpb hqb (27 + i) (by omega) (by omega), ha.same p q hp hq hpb hqb (31 + i) (by omega) (by omega), ha.same p q hp hq hpb hqb (35 + i) (by omega) (by omega)]; exact ⟨rfl, rfl, rfl⟩
  exact ⟨a1.trans (h1.1.trans b1.symm), a2.trans (h1.2.1.trans b2.symm), a3.trans (h1.2.2.trans b3.symm)⟩
 · rw [(digest_same hs hrd (good2 (good1 hs hrd)) ha hp hq hpb hqb).2]
theorem twins_next (hs : Sane c) (hrd : ∀ i, i < 12 → Wf (x.rd i)) (ha : Alike c x.bad) {p q : Nat} (hp : p < 4) (hq : q < 4) (hpb : (p : Int) ≠ x.bad) (hqb : (q : Int) ≠ x.bad) :
  (∀ j, (1 ≤ j ∧ j < 39) ∨ (55 ≤ j ∧ j < 73) → F6 c x p j = F6 c x q j) ∧ W5 c x p = W5 c x q := by
 have fp := facts hs hrd ha hp hpb; have fq := facts hs hrd ha hq hqb; obtain ⟨hG, hD⟩ := digest_same hs hrd (good2 (good1 hs hrd)) ha hp hq hpb hqb; refine ⟨fun j hj => ?_, ?_⟩
 ·
  by_cases h1 : j = 1
  ·
   subst h1; rw [(F6_fr hs hrd hp hpb).2, (F6_fr hs hrd hq hqb).2]
  ·
   by_cases h2 : 27 ≤ j ∧ j < 39
   ·
    rw [F6_roll hp hpb fp j h2.1 h2.2, F6_roll hq hqb fq j h2.1 h2.2]; have hr := RG_same hs hrd ha hp hq hpb hqb
    unfold rollF
    by_cases a1 : j - 27 < 4
    · rw [if_pos a1, if_pos a1, (hr _ a1).1]
    ·
     rw [if_neg a1, if_neg a1]
     by_cases a2 : j - 27 < 8
     · rw [if_pos a2, if_pos a2, (hr (j - 27 - 4) (by omega)).2.1]
     · rw [if_neg a2, if_neg a2, (hr (j - 27 - 8) (by omega)).2.2]
   ·
    by_cases h3 : j < 70
    ·
     rw [F6_low hp hpb fp j (by omega), F6_low hq hqb fq j (by omega)]; exact hG j (by omega)
    ·
     obtain ⟨a1, a2, a3⟩ := F6_high hp hpb fp; obtain ⟨b1, b2, b3⟩ := F6_high hq hqb fq
     obtain rfl | rfl | rfl : j = 70 ∨ j = 71 ∨ j = 72 := by omega
     · rw [a1, b1, hD]
     · rw [a2, b2, hD]
     · rw [a3, b3]
 ·
  unfold W5
  rw [newK_good hp hpb, newK_good hq hqb, fp.agree, fq.agree, hD]
theorem VG_get {d : Int} {q : Nat} (hq : q < 4) : (VG c x d).getD q false = decide (LG c x q = d) := by
 unfold VG
 rw [List.getD_eq_getElem?_getD, List.getElem?_map, List.getElem?_range hq]; rfl
theorem RG_good (hs : Sane c) (hrd : ∀ i, i < 12 → Wf (x.rd i)) (ha : Alike c x.bad) {p : Nat} (hp : p < 4) (hpb : (p : Int) ≠ x.bad) : (∀ q : Nat, q < 4 → (q : Int) ≠ x.bad → (RG c x p).f q = true ∧ (RG c x p).m q = 0) ∧ ∀ i, i < 4 → GoodAt (RG c x p) i := by
 have fp := facts hs hrd ha hp hpb; refine ⟨fun q hq hqb => ?_, ?_⟩
 ·
  obtain ⟨a1, a2, a3⟩ := roll4 (c := c) (x := x) hp hpb q hq; refine many_in (a1.trans (ha.inn p q hp hq hpb hqb).1) (a2.trans (ha.inn p q hp hq hpb hqb).2) ?_ 4; rw [VG_get hq]
  unfold LG
  rw [if_neg hqb]; exact decide_eq_true (digest_same hs hrd (good2 (good1 hs hrd)) ha hq hp hqb hpb).2
 · exact many_goods (fun i hi => okTo_at fp.good i hi) _ 4 (by omega)
theorem roll6 (hs : Sane c) (hrd : ∀ i, i < 12 → Wf (x.rd i)) (ha : Alike c x.bad) {p : Nat} (hp : p < 4) (hpb : (p : Int) ≠ x.bad) : RSame (rollOf (F6 c x p)) (RG c x p) := fun i hi => by
 have fp := facts hs hrd ha hp hpb
 unfold rollOf inB
 dsimp only; rw [F6_roll hp hpb fp _ (by omega) (by omega), F6_roll hp hpb fp (31 + i) (by omega) (by omega), F6_roll hp hpb fp (35 + i) (by omega) (by omega)]
 unfold rollF
 rw [if_pos (by omega), if_neg (by omega), if_pos (by omega), if_neg (by omega), if_neg (by omega), show 27 + i - 27 = i by omega, show 31 + i - 27 - 4 = i by omega, show 35 + i - 27 - 8 = i by omega]
 exact ⟨rfl, rfl, rfl⟩
theorem alike_next (hs : Sane c) (hrd : ∀ i, i < 12 → Wf (x.rd i)) (ha : Alike c x.bad) : Alike (next c x) x.bad :=
 ⟨fun p q hp hq hpb hqb j h1 h2 => (twins_next hs hrd ha hp hq hpb hqb).1 j (by omega), fun p q hp hq hpb hqb => by
  obtain ⟨a1, a2, _⟩ := roll6 hs hrd ha hp hpb q hq; obtain ⟨b1, b2⟩ := (RG_good hs hrd ha hp hpb).1 q hq hqb
  exact ⟨a1.trans b1, a2.trans b2⟩, fun p hp hpb => by
  show okTo (rollOf (F6 c x p)).f (rollOf (F6 c x p)).m (rollOf (F6 c x p)).j 4 = true
  rw [okTo_congr (roll6 hs hrd ha hp hpb) 4 (by omega)]
  exact okTo_all (RG_good hs hrd ha hp hpb).2 4 (by omega)⟩
end
end Cf
namespace Op
open Go.ChangeShapes Go.WideShapes Go.ChangeAt Go.RowKit Mem
section
variable {H : Type} {enc : TypeId × Value → H} {P : Program} {w : World} {base : Nat} {spare : Nat → Bool} {held : Bool}
theorem light_of_each {ts : List TypeId} {ds : List (DataW H)} (h : (DataW.weightsEach P ts ds).all (· ≤ reachBytes) = true) {j : Nat} {t : TypeId} {d : DataW H} (ht : ts[j]? = some t) (hd : ds[j]? = some d) : Light P t d :=
 fun k hk => by simpa using List.all_eq_true.1 h _ (DataW.weights_mem_each ht hd k hk)
theorem flat_arg {t : TypeId} {ls : List TypeId} {v : Value} {d : DataW H} {ps : List MemPlace} (hl : leaves P 20 t = some ls) (h : DataW.Trod enc P w base spare held t v d ps) (hlt : Light P t d) : Cells enc P w base spare held ls v.cells.toList := by
 obtain ⟨n, hn⟩ := h; exact flat 20 t ls hl n _ _ hn hlt
theorem okWide_agg {r : Reach} {b0 : Nat} {t : TypeId} {v : Value} (hs : (match P.underlying t with | some (.struct _) | some (.array _ _) => true | _ => false) = true) (hv : Value.okWide P w r b0 t v) : ∃ cs : Array Value, v = .agg cs := by
 unfold Value.okWide at hv
 split at hv
 · obtain ⟨cs, h, _⟩ := hv; exact ⟨cs, h⟩
 · obtain ⟨cs, h, _⟩ := hv; exact ⟨cs, h⟩
 · split at hs <;> simp_all
end
theorem arr_of {cs : Array Value} {l : List Value} (h : cs.toList = l) : cs = l.toArray := by subst h; simp
end Op
namespace Cf
open Go.ChangeShapes Go.WideShapes Go.ChangeAt Go.RowKit Mem Rws Nd Cl Flat
theorem exec_neq_same {P : Program} {o : Oper} {a : Act} (t u : TypeId) (x y : Operand) (ho : o.op = .binOp .neq t x y u) {d : Nat} {ls : List Bool} (he : eqOK P d t = some ls) (hd : d ≤ 10000) {e : TypeDesc} (hu : P.underlying t = some e) (hr : e.isRow = true) (hi : (P.info? t).map (·.size) = some ls.length) (hq : P.eqGuardType P.depth t = false)
  (f : Nat → Value) (hx : a.eval x = .agg (row ls.length f)) (hy : a.eval y = .agg (row ls.length f)) (ht : Typed ls ((List.range ls.length).map f)) (w : World) : (execOp a.eval o).run P w = .ok (.value (.bool false)) w := by
 unfold execOp
 simp only [ho, hx, hy, Sem.run_bind, run_neqGuard_rows hq, run_neq_refl he hd hu hr hi _ (row_size _ _) ht, Result.andThen_ok, Sem.run_pure]
end Cf
namespace Flat
open Go.ChangeShapes Go.RowKit Nd Rws
def TypI : List Bool → List Value → Prop
 | [], [] => True
 | b :: bs, v :: vs => okT b v ∧ TypI bs vs
 | _, _ => False
theorem TypI.length : ∀ {bs : List Bool} {vs : List Value}, TypI bs vs → vs.length = bs.length
 | [], [], _ => rfl
 | _ :: _, _ :: _, h => by simp [TypI.length h.2]
 | [], _ :: _, h => h.elim
 | _ :: _, [], h => h.elim
theorem TypI.split : ∀ {a b : List Bool} {vs : List Value}, TypI (a ++ b) vs → TypI a (vs.take a.length) ∧ TypI b (vs.drop a.length)
 | [], _, _, h => ⟨by simp [TypI], h⟩
 | _ :: a, b, [], h => h.elim
 | x :: a, b, v :: vs, h => by
  obtain ⟨h1, h2⟩ := h; obtain ⟨h3, h4⟩ := TypI.split (a := a) h2; exact ⟨⟨h1, by simpa using h3⟩, by simpa using h4⟩
theorem typI_row : ∀ (ls : List Bool) (o : Nat) (f : Nat → Value), (∀ i (h : i < ls.length), okT ls[i] (f (o + i))) → TypI ls ((List.range ls.length).map fun j => f (o + j))
 | [], _, _, _ => trivial
 | b :: ls, o, f, h => by
  rw [List.length_cons, List.range_succ_eq_map, List.map_cons, List.map_map]; refine ⟨?_, ?_⟩
  ·
   have := h 0 (by simp)
   simpa using this
  ·
   have := typI_row ls (o + 1) f (fun i hi => by
    have := h (i + 1) (by simpa using hi); simp only [List.getElem_cons_succ] at this
    rwa [show o + (i + 1) = o + 1 + i by omega] at this)
   have e : ((fun j => f (o + j)) ∘ Nat.succ) = fun j => f (o + 1 + j) := funext fun j => by
    show f (o + (j + 1)) = _
    rw [show o + (j + 1) = o + 1 + j by omega]
   rw [e]; exact this
section
variable {P : Program}
abbrev cut (xs : Array Value) (off n : Nat) : List Value := (xs.toList.drop off).take n
theorem cut_head (xs : Array Value) (off a b : Nat) : (cut xs off (a + b)).take a = cut xs off a := by
 unfold cut
 rw [List.take_take, Nat.min_eq_left (by omega)]
theorem cut_tail (xs : Array Value) (off a b : Nat) : (cut xs off (a + b)).drop a = cut xs (off + a) b := by
 unfold cut
 rw [List.drop_take, List.drop_drop]
 congr 1
 omega
theorem cut_join {xs ys : Array Value} {off a b : Nat} (h1 : cut xs off a = cut ys off a) (h2 : cut xs (off + a) b = cut ys (off + a) b) : cut xs off (a + b) = cut ys off (a + b) := by
 rw [← List.take_append_drop a (cut xs off (a + b)), ← List.take_append_drop a (cut ys off (a + b)), cut_head, cut_head, cut_tail, cut_tail, h1, h2]
theorem cut_one {xs : Array Value} {off : Nat} {b : Bool} (h : TypI [b] (cut xs off 1)) : ∃ v, xs[off]? = some v ∧ cut xs off 1 = [v] ∧ okT b v := by
 have hlt : off < xs.toList.length := by
  have := h.length
  unfold cut at this
  rw [List.length_take, List.length_drop] at this
  simp at this
  simp
  omega
 have e : cut xs off 1 = [xs.toList[off]] := by
  unfold cut
  rw [List.drop_eq_getElem_cons hlt, List.take_succ_cons, List.take_zero]
 rw [e] at h; refine ⟨xs.toList[off], ?_, e, h.1⟩; rw [← Array.getElem?_toList]; exact List.getElem?_eq_getElem hlt
def Dec (P : Program) (d : Nat) (t : TypeId) (ls : List Bool) : Prop :=
 ∀ (xs ys : Array Value) (off : Nat), TypI ls (cut xs off ls.length) → TypI ls (cut ys off ls.length) → (P.info? t).map (·.size) = some ls.length → ∀ w : World, ∃ v u, (part t xs off).run P w = .ok v w ∧ (part t ys off).run P w = .ok u w ∧ ∀ d', d ≤ d' → ∃ r, (Op.equalIn d' t v u).run P w = .ok r w ∧ (r = true → cut xs off ls.length = cut ys off ls.length)
theorem fields_dec {d : Nat} {L : TypeId → Option (List Bool)} (ih : ∀ t ls, L t = some ls → Dec P d t ls) (xs ys : Array Value) {d' : Nat} (hd : d ≤ d') (w : World) :
  ∀ (fs : List Field) (off : Nat) (ls : List Bool), eqFieldsOK P L off fs = some ls → TypI ls (cut xs off ls.length) → TypI ls (cut ys off ls.length) → ∃ r, (Op.eqFields d' xs ys fs).run P w = .ok r w ∧ (r = true → cut xs off ls.length = cut ys off ls.length)
 | [], off, ls, h, _, _ => by
  unfold eqFieldsOK at h
  injection h with h
  subst h; exact ⟨true, by simp [Op.eqFields], fun _ => by simp [cut]⟩
 | f :: fs, off, ls, h, hx, hy => by
  unfold eqFieldsOK at h
  cases hL : L f.type with
  | none => simp [hL] at h
  | some l =>
   simp only [hL] at h
   split at h
   ·
    rename_i hc
    obtain ⟨ho, hn, hs⟩ := hc
    cases hr : eqFieldsOK P L (off + l.length) fs with
    | none => simp [hr] at h
    | some r =>
     simp only [hr, Option.some.injEq] at h; subst h; obtain ⟨x1, x2⟩ := hx.split; obtain ⟨y1, y2⟩ := hy.split; rw [List.length_append] at x1 x2 y1 y2 ⊢; rw [cut_head] at x1 y1; rw [cut_tail] at x2 y2; obtain ⟨v, u, hv, hu, he⟩ := ih _ _ hL xs ys off x1 y1 hs w; obtain ⟨q, hq, hqe⟩ := he d' hd; obtain ⟨q2, hq2, hqe2⟩ := fields_dec ih xs ys hd w fs _ _ hr x2 y2
     unfold Op.eqFields
     rw [if_pos hn, ho]; simp only [Sem.run_bind, hv, hu, Result.andThen_ok, hq]
     cases q with
     | false => exact ⟨false, by simp, fun h => by cases h⟩
     | true =>
      simp only [Bool.not_true, Bool.false_eq_true, if_false]; exact ⟨q2, hq2, fun h => cut_join (hqe rfl) (hqe2 h)⟩
   · cases h
theorem array_dec {d e : Nat} {l : List Bool} (ih : Dec P d e l) (hs : (P.info? e).map (·.size) = some l.length) (xs ys : Array Value) {d' : Nat} (hd : d ≤ d') (w : World) (n : Nat) :
  ∀ (m k : Nat), k + m ≤ n → TypI (List.replicate m l).flatten (cut xs (k * l.length) (m * l.length)) → TypI (List.replicate m l).flatten (cut ys (k * l.length) (m * l.length)) →
   ∀ b : Option Bool × Unit, b.1 = none → ∃ r : Option Bool, (forIn (m := Sem) (List.range' k m) b (fun i _ => do
    let a ← part e xs (i * l.length)
    let c ← part e ys (i * l.length)
    let r ← Op.equalIn d' e a c
    if (!r) = true then pure (ForInStep.done (some false, ())) else pure (ForInStep.yield (none, ())))).run P w = .ok (r, ()) w ∧ (r = some false ∨ r = none ∧ cut xs (k * l.length) (m * l.length) = cut ys (k * l.length) (m * l.length))
 | 0, k, _, _, _, b, hb => by
  obtain ⟨b1, b2⟩ := b
  simp only at hb
  subst hb; exact ⟨none, by simp, .inr ⟨rfl, by simp [cut]⟩⟩
 | m + 1, k, hk, hx, hy, b, hb => by
  rw [List.replicate_succ, List.flatten_cons] at hx hy; obtain ⟨x1, x2⟩ := hx.split; obtain ⟨y1, y2⟩ := hy.split
  rw [show (m + 1) * l.length = l.length + m * l.length by rw [Nat.succ_mul]; omega] at x1 x2 y1 y2 ⊢
  rw [cut_head] at x1 y1; rw [cut_tail] at x2 y2; obtain ⟨v, u, hv, hu, he⟩ := ih xs ys (k * l.length) x1 y1 hs w; obtain ⟨q, hq, hqe⟩ := he d' hd; rw [List.range'_succ, List.forIn_cons]; simp only [Sem.run_bind, hv, hu, Result.andThen_ok, hq]
  cases q with
  | false =>
   refine ⟨some false, ?_, .inl rfl⟩
   simp
  | true =>
   simp only [Bool.not_true, Bool.false_eq_true, if_false, Sem.run_pure, Result.andThen_ok]
   rw [show k * l.length + l.length = (k + 1) * l.length by rw [Nat.succ_mul]] at x2 y2
   obtain ⟨r, hr, hre⟩ := array_dec ih hs xs ys hd w n m (k + 1) (by omega) x2 y2 (none, ()) rfl; refine ⟨r, hr, ?_⟩
   rcases hre with h | ⟨h, h2⟩
   · exact .inl h
   ·
    refine .inr ⟨h, cut_join (hqe rfl) ?_⟩
    rw [show k * l.length + l.length = (k + 1) * l.length by rw [Nat.succ_mul]]
    exact h2
theorem dec : ∀ (d : Nat) (t : TypeId) (ls : List Bool), eqOK P d t = some ls → Dec P d t ls
 | 0, _, _, h => by simp [eqOK] at h
 | d + 1, t, ls, h => by
  intro xs ys off hx hy hs w
  unfold eqOK at h
  cases hu : P.underlying t with
  | none => simp [hu] at h
  | some u =>
   rw [hu] at h
   cases u with
   | bool =>
    simp only [Option.some.injEq] at h; subst h; obtain ⟨v, hv, ev, c, rfl⟩ := cut_one hx; obtain ⟨v', hv', ev', c', rfl⟩ := cut_one hy; refine ⟨_, _, run_part_one hu rfl xs off _ hv w, run_part_one hu rfl ys off _ hv' w, fun d' hd => ?_⟩; obtain ⟨d'', rfl⟩ : ∃ d'', d' = d'' + 1 := ⟨d' - 1, by omega⟩; rw [run_equalIn_bool' w d'' t c c' hu]; refine ⟨_, rfl, fun h => ?_⟩
    rw [show [false].length = 1 from rfl, ev, ev']
    simp at h
    rw [h]
   | int k =>
    simp only [Option.some.injEq] at h; subst h; obtain ⟨v, hv, ev, c, rfl⟩ := cut_one hx; obtain ⟨v', hv', ev', c', rfl⟩ := cut_one hy; refine ⟨_, _, run_part_one hu rfl xs off _ hv w, run_part_one hu rfl ys off _ hv' w, fun d' hd => ?_⟩; obtain ⟨d'', rfl⟩ : ∃ d'', d' = d'' + 1 := ⟨d' - 1, by omega⟩; rw [run_equalIn_int w d'' t .i64 k c c' hu]; refine ⟨_, rfl, fun h => ?_⟩
    rw [show [true].length = 1 from rfl, ev, ev']
    simp at h
    rw [h]
   | struct fs =>
    simp only at h
    split at h
    ·
     rename_i hp
     refine ⟨_, _, run_part_row hu rfl hs xs off w, run_part_row hu rfl hs ys off w, fun d' hd => ?_⟩; obtain ⟨d'', rfl⟩ : ∃ d'', d' = d'' + 1 := ⟨d' - 1, by omega⟩
     have hf : P.underlying t = some (.struct (P.fieldsOf t)) := by simp [Program.fieldsOf, hu]
     rw [run_equalIn_struct w d'' t _ _ hf hp]
     have hff : P.fieldsOf t = fs := by simp [Program.fieldsOf, hu]
     rw [hff]
     have e : ∀ zs : Array Value, cut (zs.extract off (off + ls.length)) 0 ls.length = cut zs off ls.length := fun zs => by
      simp [cut, List.take_take, Array.toList_extract]
     obtain ⟨r, h1, h2⟩ := fields_dec (fun t ls hl => dec d t ls hl) (xs.extract off (off + ls.length)) (ys.extract off (off + ls.length)) (show d ≤ d'' by omega) w _ 0 ls h (by rw [e]; exact hx) (by rw [e]; exact hy)
     rw [e, e] at h2; exact ⟨r, h1, h2⟩
    · cases h
   | array n e =>
    simp only at h
    cases hl : eqOK P d e with
    | none => simp [hl] at h
    | some l =>
     simp only [hl] at h
     split at h
     ·
      rename_i hse
      simp only [Option.some.injEq] at h; subst h; refine ⟨_, _, run_part_row hu rfl hs xs off w, run_part_row hu rfl hs ys off w, fun d' hd => ?_⟩; obtain ⟨d'', rfl⟩ : ∃ d'', d' = d'' + 1 := ⟨d' - 1, by omega⟩; obtain ⟨i, hq, hsz⟩ := Option.map_eq_some_iff.1 hse
      have e2 : ∀ zs : Array Value, cut (zs.extract off (off + (List.replicate n l).flatten.length)) (0 * l.length) (n * l.length) = cut zs off (List.replicate n l).flatten.length := fun zs => by
       rw [typed_flatten_length]
       simp [cut, List.take_take, Array.toList_extract]
      obtain ⟨r, h1, h2⟩ := array_dec (d' := d'') (dec d e l hl) hse (xs.extract off (off + (List.replicate n l).flatten.length)) (ys.extract off (off + (List.replicate n l).flatten.length)) (by omega) w n n 0 (by omega) (by rw [e2]; exact hx) (by rw [e2]; exact hy) (none, ()) rfl; rw [e2, e2] at h2
      unfold Op.equalIn
      simp only [Sem.run_bind, run_underlying hu, Result.andThen_ok, sizeOf, typeInfo, run_program, hq, hsz, Sem.run_pure]; rw [Std.Legacy.Range.forIn_eq_forIn_range']
      rw [show (List.range' [:n].start [:n].size [:n].step) = List.range' 0 n from by simp [Std.Legacy.Range.size]]
      rw [h1]
      rcases h2 with h2 | ⟨h2, h3⟩
      ·
       subst h2; exact ⟨false, rfl, fun h => by cases h⟩
      ·
       subst h2; exact ⟨true, rfl, fun _ => h3⟩
     · cases h
   | _ => simp at h
theorem run_neq_dec {t : TypeId} {d : Nat} {ls : List Bool} (he : eqOK P d t = some ls) (hd : d ≤ 10000) {u : TypeDesc} (hu : P.underlying t = some u) (hr : u.isRow = true) (hi : (P.info? t).map (·.size) = some ls.length) (f g : Nat → Value) (hf : TypI ls ((List.range ls.length).map f)) (hg : TypI ls ((List.range ls.length).map g)) (w : World) :
  ∃ r, (binOp .neq t (.agg (row ls.length f)) (.agg (row ls.length g))).run P w = .ok (.bool r) w ∧ (r = false → ∀ i, i < ls.length → f i = g i) := by
 have e : ∀ k : Nat → Value, cut (row ls.length k) 0 ls.length = (List.range ls.length).map k := fun k => by
  unfold cut
  rw [List.drop_zero, row_toList, List.take_of_length_le (by simp)]
 obtain ⟨v, v', h1, h1', h2⟩ := dec d t ls he (row ls.length f) (row ls.length g) 0 (by rw [e]; exact hf) (by rw [e]; exact hg) hi w; rw [run_part_row hu hr hi] at h1 h1'
 have e2 : ∀ zs : Array Value, zs.size = ls.length → zs.extract 0 (0 + ls.length) = zs := fun zs hz => by rw [Nat.zero_add, ← hz]; simp
 rw [e2 _ (row_size _ _)] at h1 h1'
 injection h1 with h1
 injection h1' with h1'
 subst h1; subst h1'; obtain ⟨r, h3, h4⟩ := h2 10000 hd; refine ⟨!r, ?_, fun hr2 i hi2 => ?_⟩
 ·
  rw [run_neq_struct, h3]; rfl
 ·
  have hr3 : r = true := by simpa using hr2
  have h5 := h4 hr3; rw [e, e] at h5; have h6 := congrArg (·[i]?) h5
  simpa [hi2] using h6
end
end Flat
namespace Cf
open Go.RowKit Mem Rws Nd Cl
theorem bent_back (b : Bool) : (bentZ b == 1) = b := by cases b <;> rfl
theorem axV_pack {f : Nat → Value} (h : ∀ i, i < 73 → okT (nodeT i) (f i)) (i : Nat) (hi : i < 21) : axV (packZ f) i = f (6 + i) := by
 have hI : ∀ k, k < 73 → nodeT k = true → Value.int .i64 (iv (f k)) = f k := fun k hk ht => by
  have h1 := h k hk; rw [ht] at h1; exact (iv_of h1).symm
 have hB : ∀ k, k < 73 → nodeT k = false → Value.bool (bentZ (bv (f k)) == 1) = f k := fun k hk ht => by
  have h1 := h k hk; rw [ht] at h1; rw [bent_back]; exact (bv_of h1).symm
 obtain rfl | rfl | rfl | rfl | rfl | rfl | rfl | rfl | rfl | rfl | rfl | rfl | rfl | rfl | rfl | rfl | rfl | rfl | rfl | rfl | rfl : i = 0 ∨ i = 1 ∨ i = 2 ∨ i = 3 ∨ i = 4 ∨ i = 5 ∨ i = 6 ∨ i = 7 ∨ i = 8 ∨ i = 9 ∨ i = 10 ∨ i = 11 ∨ i = 12 ∨ i = 13 ∨ i = 14 ∨ i = 15 ∨ i = 16 ∨ i = 17 ∨ i = 18 ∨ i = 19 ∨ i = 20 := by omega
 · exact hI 6 (by omega) rfl
 · exact hI 7 (by omega) rfl
 · exact hI 8 (by omega) rfl
 · exact hI 9 (by omega) rfl
 · exact hI 10 (by omega) rfl
 · exact hB 11 (by omega) rfl
 · exact hI 12 (by omega) rfl
 · exact hI 13 (by omega) rfl
 · exact hI 14 (by omega) rfl
 · exact hI 15 (by omega) rfl
 · exact hI 16 (by omega) rfl
 · exact hI 17 (by omega) rfl
 · exact hB 18 (by omega) rfl
 · exact hI 19 (by omega) rfl
 · exact hI 20 (by omega) rfl
 · exact hI 21 (by omega) rfl
 · exact hI 22 (by omega) rfl
 · exact hI 23 (by omega) rfl
 · exact hI 24 (by omega) rfl
 · exact hB 25 (by omega) rfl
 · exact hI 26 (by omega) rfl
theorem zAt_tail (f : Nat → Value) : zAt (packZ f) 21 = ((inZ f 4 : Nat) : Int) ∧ zAt (packZ f) 22 = octZ 31 f 4 ∧ zAt (packZ f) 23 = octZ 35 f 4 := ⟨rfl, rfl, rfl⟩
theorem bits_back (b0 b1 b2 b3 : Bool) : ∀ i, i < 4 → ((((((0 + if b0 then 2 ^ 0 else 0) + if b1 then 2 ^ 1 else 0) + if b2 then 2 ^ 2 else 0) + if b3 then 2 ^ 3 else 0 : Nat) : Int).toNat / 2 ^ i % 2 == 1) = (if i = 0 then b0 else if i = 1 then b1 else if i = 2 then b2 else b3) := by
 cases b0 <;> cases b1 <;> cases b2 <;> cases b3 <;> decide
theorem bit_back (f : Nat → Value) (i : Nat) (hi : i < 4) : bitZ ((inZ f 4 : Nat) : Int) i = bv (f (27 + i)) := by
 unfold bitZ
 have h := bits_back (bv (f (27 + 0))) (bv (f (27 + 1))) (bv (f (27 + 2))) (bv (f (27 + 3))) i hi; refine Eq.trans h ?_
 obtain rfl | rfl | rfl | rfl : i = 0 ∨ i = 1 ∨ i = 2 ∨ i = 3 := by omega
 all_goals rfl
theorem oct_val {o : Nat} {f : Nat → Value} (h : ∀ k, k < 4 → 0 ≤ iv (f (o + k)) ∧ iv (f (o + k)) < 8) : octZ o f 4 = iv (f (o + 0)) * 512 + iv (f (o + 1)) * 64 + iv (f (o + 2)) * 8 + iv (f (o + 3)) := by
 have h0 := h 0 (by omega); have h1 := h 1 (by omega); have h2 := h 2 (by omega); have h3 := h 3 (by omega)
 have hw : ∀ x : Int, 0 ≤ x → x < 100000 → IntKind.i64.wrap x = x := fun x a b => by rw [IntKind.wrap_i64]; omega
 unfold octZ octZ octZ octZ octZ
 generalize iv (f (o + 0)) = a0 at *
 generalize iv (f (o + 1)) = a1 at *
 generalize iv (f (o + 2)) = a2 at *
 generalize iv (f (o + 3)) = a3 at *
 rw [hw (0 * 8) (by omega) (by omega), hw (0 * 8 + a0) (by omega) (by omega), hw ((0 * 8 + a0) * 8) (by omega) (by omega), hw ((0 * 8 + a0) * 8 + a1) (by omega) (by omega), hw (((0 * 8 + a0) * 8 + a1) * 8) (by omega) (by omega), hw (((0 * 8 + a0) * 8 + a1) * 8 + a2) (by omega) (by omega), hw ((((0 * 8 + a0) * 8 + a1) * 8 + a2) * 8) (by omega) (by omega), hw ((((0 * 8 + a0) * 8 + a1) * 8 + a2) * 8 + a3) (by omega) (by omega)]; omega
theorem oct_back {o : Nat} {f : Nat → Value} (h : ∀ k, k < 4 → 0 ≤ iv (f (o + k)) ∧ iv (f (o + k)) < 8) (i : Nat) (hi : i < 4) : octAt (octZ o f 4) i = iv (f (o + i)) := by
 have h0 := h 0 (by omega); have h1 := h 1 (by omega); have h2 := h 2 (by omega); have h3 := h 3 (by omega)
 unfold octAt
 rw [oct_val h]
 obtain rfl | rfl | rfl | rfl : i = 0 ∨ i = 1 ∨ i = 2 ∨ i = 3 := by omega
 ·
  show ((_ / 8 ^ 3 % 8 : Nat) : Int) = _
  rw [show (8 : Nat) ^ 3 = 512 from rfl]
  omega
 ·
  show ((_ / 8 ^ 2 % 8 : Nat) : Int) = _
  rw [show (8 : Nat) ^ 2 = 64 from rfl]
  omega
 ·
  show ((_ / 8 ^ 1 % 8 : Nat) : Int) = _
  rw [show (8 : Nat) ^ 1 = 8 from rfl]
  omega
 ·
  show ((_ / 8 ^ 0 % 8 : Nat) : Int) = _
  rw [show (8 : Nat) ^ 0 = 1 from rfl]
  omega
theorem roll_small {f : Nat → Value} (h : okTo (rollOf f).f (rollOf f).m (rollOf f).j 4 = true) : (∀ k, k < 4 → 0 ≤ iv (f (31 + k)) ∧ iv (f (31 + k)) < 8) ∧ ∀ k, k < 4 → 0 ≤ iv (f (35 + k)) ∧ iv (f (35 + k)) < 8 := by
 have hk : ∀ k, k < 4 → (0 ≤ iv (f (31 + k)) ∧ iv (f (31 + k)) < 8) ∧ 0 ≤ iv (f (35 + k)) ∧ iv (f (35 + k)) < 8 := fun k hk => by
  have h1 := okTo_at h k hk
  unfold okAt at h1
  cases e : (rollOf f).f k with
  | true =>
   rw [e] at h1; simp only [cond_true, Bool.and_eq_true, decide_eq_true_eq] at h1; obtain ⟨⟨a, b⟩, d⟩ := h1; have a : 0 ≤ iv (f (31 + k)) := a; have b : iv (f (31 + k)) ≤ 2 := b; have d : iv (f (35 + k)) = 0 := d; omega
  | false =>
   rw [e] at h1; simp only [cond_false, Bool.and_eq_true, decide_eq_true_eq] at h1; obtain ⟨⟨a, b⟩, d⟩ := h1; have a : iv (f (31 + k)) = 0 := a; have b : 0 ≤ iv (f (35 + k)) := b; have d : iv (f (35 + k)) < 3 := d; omega
 exact ⟨fun k h => (hk k h).1, fun k h => (hk k h).2⟩
theorem rollU_pack {f : Nat → Value} (h : okTo (rollOf f).f (rollOf f).m (rollOf f).j 4 = true) : RSame (rollU (packZ f)) (rollOf f) := fun i hi => by
 obtain ⟨h1, h2⟩ := roll_small h; obtain ⟨e1, e2, e3⟩ := zAt_tail f
 unfold rollU rollOf
 dsimp only; rw [e1, e2, e3]; exact ⟨bit_back f i hi, oct_back h1 i hi, oct_back h2 i hi⟩
theorem unpack_ok {f : Nat → Value} (h : ∀ i, i < 73 → okT (nodeT i) (f i)) (hr : okTo (rollOf f).f (rollOf f).m (rollOf f).j 4 = true) : unpackOk (packZ f) = true := by
 obtain ⟨h1, h2⟩ := roll_small hr; obtain ⟨e1, e2, e3⟩ := zAt_tail f; have hl := inZ_lt f 4
 have t1 : tailOk (packZ f) = true := by
  unfold tailOk
  rw [e1, e2, e3, oct_val h1, oct_val h2]; have a0 := h1 0 (by omega); have a1 := h1 1 (by omega); have a2 := h1 2 (by omega); have a3 := h1 3 (by omega); have b0 := h2 0 (by omega); have b1 := h2 1 (by omega); have b2 := h2 2 (by omega); have b3 := h2 3 (by omega)
  rw [show (2 : Nat) ^ 4 = 16 from rfl] at hl
  exact decide_eq_true ⟨by omega, by omega, by omega, by omega, by omega, by omega⟩
 have t2 : goodU (packZ f) = true := by
  unfold goodU
  rw [okTo_congr (rollU_pack hr) 4 (by omega)]; exact hr
 have hb : ∀ a, a < 3 → bentOk (packZ f) a = true := fun a ha => by
  have hz : ∀ b : Bool, bentZ b = 0 ∨ bentZ b = 1 := fun b => by cases b; exact .inl rfl; exact .inr rfl
  unfold bentOk
  refine decide_eq_true ?_
  obtain rfl | rfl | rfl : a = 0 ∨ a = 1 ∨ a = 2 := by omega
  · exact hz (bv (f 11))
  · exact hz (bv (f 18))
  · exact hz (bv (f 25))
 have t3 : bentTo (packZ f) 3 = true := by
  unfold bentTo bentTo bentTo bentTo
  rw [hb 0 (by omega), hb 1 (by omega), hb 2 (by omega)]; rfl
 unfold unpackOk
 rw [t1, t2, t3]; rfl
theorem take_back {f g : Nat → Value} (h : ∀ i, i < 73 → okT (nodeT i) (f i)) (hr : okTo (rollOf f).f (rollOf f).m (rollOf f).j 4 = true) (i : Nat) (h6 : 6 ≤ i) (h39 : i < 39) : takeU (packZ f) g i = f i := by
 unfold takeU
 rw [if_pos (unpack_ok h hr)]
 unfold unpackF rollW
 by_cases hi : 27 ≤ i ∧ i < 39
 ·
  rw [if_pos hi]; have hR := rollU_pack hr
  have hI : ∀ k, k < 73 → nodeT k = true → Value.int .i64 (iv (f k)) = f k := fun k hk ht => by
   have h1 := h k hk; rw [ht] at h1; exact (iv_of h1).symm
  unfold rollF
  by_cases a1 : i - 27 < 4
  ·
   rw [if_pos a1, (hR _ a1).1]; have h1 := h i (by omega)
   have ht : nodeT i = false := by
                   obtain rfl | rfl | rfl | rfl : i = 27 ∨ i = 28 ∨ i = 29 ∨ i = 30 := by omega
                   all_goals rfl
   rw [ht] at h1
   show Value.bool (bv (f (27 + (i - 27)))) = _
   rw [show 27 + (i - 27) = i by omega]
   exact (bv_of h1).symm
  ·
   rw [if_neg a1]
   have ht : nodeT i = true := by unfold nodeT; simp; omega
   by_cases a2 : i - 27 < 8
   ·
    rw [if_pos a2, (hR (i - 27 - 4) (by omega)).2.1]
    show Value.int .i64 (iv (f (31 + (i - 27 - 4)))) = _
    rw [show 31 + (i - 27 - 4) = i by omega]
    exact hI i (by omega) ht
   ·
    rw [if_neg a2, (hR (i - 27 - 8) (by omega)).2.2]
    show Value.int .i64 (iv (f (35 + (i - 27 - 8)))) = _
    rw [show 35 + (i - 27 - 8) = i by omega]
    exact hI i (by omega) ht
 ·
  rw [if_neg hi]
  unfold axU
  rw [if_pos (by omega), axV_pack h _ (by omega), show 6 + (i - 6) = i by omega]
theorem pair_all {o : Nat → Option Ms.Msg} {b : Nat} (hb : b < 4) {Z : List Int} (h : ∀ j, j < 4 → j ≠ b → ∃ m, o j = some m ∧ m.zs = Z) (hn : o b = none) : pairOf o = some Z := by
 have hp : ∀ i k, i < 4 → k < 4 → i ≠ b → k ≠ b → pairAt o i k = some Z := fun i k hi hk h1 h2 => by
  obtain ⟨m, e1, z1⟩ := h i hi h1; obtain ⟨m', e2, z2⟩ := h k hk h2; rw [pair_some e1 e2 (z1.trans z2.symm), z1]
 have h1 : ∀ k, pairAt o b k = none := fun k => pair_none1 hn; have h2 : ∀ k, pairAt o k b = none := fun k => pair_none2 hn
 unfold pairOf pairs
 obtain rfl | rfl | rfl | rfl : b = 0 ∨ b = 1 ∨ b = 2 ∨ b = 3 := by omega
 · simp [List.findSome?_cons, h1, hp 1 2]
 · simp [List.findSome?_cons, h2, hp 0 2]
 · simp [List.findSome?_cons, hp 0 1]
 · simp [List.findSome?_cons, hp 0 1]
end Cf
namespace Cf
open Go.RowKit Mem Rws Nd Cl
theorem pack_wf {f : Nat → Value} (h : ∀ i, i < 73 → okT (nodeT i) (f i)) (hw : WfF f) : ∀ z ∈ packZ f, Wf z := by
 have hax : ∀ n, n ≤ 3 → ∀ z ∈ axesZ f n, Wf z := fun n => by
  induction n with
  | zero => intro _ z hz; cases hz
  | succ n ih =>
   intro hn z hz
   rcases List.mem_append.1 (show z ∈ axesZ f n ++ axZ f n from hz) with hz | hz
   · exact ih (by omega) z hz
   ·
    unfold axZ at hz
    simp only [List.mem_cons, List.mem_nil_iff, or_false] at hz
    have hb : Wf (bentZ (bv (f (6 + (n * 7 + 5))))) := by
     cases bv (f (6 + (n * 7 + 5)))
     · exact wf_zero
     · exact wf_of (by show (-9223372036854775808 : Int) ≤ 1 ∧ (1 : Int) < _; omega)
    rcases hz with rfl | rfl | rfl | rfl | rfl | rfl | rfl
    · exact iv_wf h hw _ (by omega)
    · exact iv_wf h hw _ (by omega)
    · exact iv_wf h hw _ (by omega)
    · exact iv_wf h hw _ (by omega)
    · exact iv_wf h hw _ (by omega)
    · exact hb
    · exact iv_wf h hw _ (by omega)
 have ho : ∀ o, Wf (octZ o f 4) := fun o => wf_of (by
  show _ ≤ IntKind.i64.wrap _ ∧ IntKind.i64.wrap _ < _
  rw [IntKind.wrap_i64]
  omega)
 intro z hz
 unfold packZ at hz
 rcases List.mem_append.1 hz with hz | hz
 · exact hax 3 (by omega) z hz
 ·
  simp only [List.mem_cons, List.mem_nil_iff, or_false] at hz
  rcases hz with rfl | rfl | rfl
  ·
   have := inZ_lt f 4
   rw [show (2 : Nat) ^ 4 = 16 from rfl] at this
   exact wf_of (by omega)
  · exact ho 31
  · exact ho 35
section
variable {c : CluS} {x : InS}
noncomputable def VD (c : CluS) (x : InS) (d : Int) : List Bool := (List.range 4).map fun s => decide (D3 c x s = d)
noncomputable def RD (c : CluS) (x : InS) (p : Nat) (d : Int) : RS := (many (rollOf (F4 c x p)) (fun i => (VD c x d).getD i false) 4).1
theorem VD_get {d : Int} {q : Nat} (hq : q < 4) : (VD c x d).getD q false = decide (D3 c x q = d) := by
 unfold VD
 rw [List.getD_eq_getElem?_getD, List.getElem?_map, List.getElem?_range hq]; rfl
theorem nobody (hx : x.bad = -1) (p : Nat) : (p : Int) ≠ x.bad := by rw [hx]; omega
structure FactsB (c : CluS) (x : InS) (p : Nat) (d : Int) : Prop where
 val : Vt.val (L5 c x p) (inB (F4 c x p)) = d
 strong : Vt.strong (L5 c x p) (inB (F4 c x p)) = true
 agree : V5 c x p = VD c x d
 good : okTo (rollOf (F4 c x p)).f (rollOf (F4 c x p)).m (rollOf (F4 c x p)).j 4 = true
theorem L_all (hs : Sane c) (hrd : ∀ i, i < 12 → Wf (x.rd i)) (hx : x.bad = -1) {p s : Nat} (hp : p < 4) (hs4 : s < 4) : L5 c x p s = D3 c x s := by
 rw [votes_all hs (good4 (good3 (good2 (good1 hs hrd)))) hp (nobody hx p) s hs4]
 unfold LG
 rw [if_neg (nobody hx s)]
theorem facts_back (hs : Sane c) (hrd : ∀ i, i < 12 → Wf (x.rd i)) (hx : x.bad = -1) {b : Int} {d : Int} {p : Nat} (hp : p < 4) (hin : ∀ s : Nat, s < 4 → (s : Int) ≠ b → inB (c.F p) s = true) (hD : ∀ s : Nat, s < 4 → (s : Int) ≠ b → D3 c x s = d) (hr : okTo (rollOf (c.F p)).f (rollOf (c.F p)).m (rollOf (c.F p)).j 4 = true) : FactsB c x p d := by
 have hk : ∀ s : Nat, s < 4 → (s : Int) ≠ b → inB (F4 c x p) s = true ∧ L5 c x p s = d := fun s hs4 hsb => by
  refine ⟨?_, (L_all hs hrd hx hp hs4).trans (hD s hs4 hsb)⟩; have := (roll4 (c := c) (x := x) hp (nobody hx p) s hs4).1; exact this.trans (hin s hs4 hsb)
 obtain ⟨h1, h2, h3⟩ := vote_is hk; refine ⟨h1, h2, ?_, ?_⟩
 ·
  unfold V5 agreeL VD
  refine List.map_congr_left fun s hs' => ?_; have hs4 := List.mem_range.1 hs'
  unfold Vt.agrees
  rw [h1, L_all hs hrd hx hp hs4, decide_eq_true h3, Bool.true_and]
 ·
  rw [okTo_congr (roll4 hp (nobody hx p)) 4 (by omega)]; exact hr
theorem judge_back {p : Nat} {d : Int} (hf : FactsB c x p d) : G5 c x p = rollW (voteF (F4 c x p) d true) (RD c x p d) := by
 have hV : agreeL (L5 c x p) (inB (F4 c x p)) = VD c x d := hf.agree
 have hlen : (VD c x d).length = 4 := by unfold VD; simp
 have hJ : judgeR (L5 c x p) (F4 c x p) = (RD c x p d, (many (rollOf (F4 c x p)) (fun i => (VD c x d).getD i false) 4).2, 0) := by
  unfold judgeR
  rw [hf.strong, hV]
  unfold stepR
  rw [if_neg (by omega), if_neg (by rw [hf.good]; simp), if_neg (by simp)]; rfl
 unfold G5 judgeF
 rw [hJ, if_pos rfl, hf.val, hf.strong]
theorem G5_low {p : Nat} (hp : p < 4) (hx : x.bad = -1) {d : Int} (hf : FactsB c x p d) (j : Nat) (h : j < 27 ∨ (39 ≤ j ∧ j < 51) ∨ (55 ≤ j ∧ j < 70)) : G5 c x p j = decG (F2 c x p) (A3 c x p) allP 3 3 j := by
 rw [judge_back hf]
 unfold rollW voteF
 rw [if_neg (by omega), if_neg (by omega), if_neg (by omega)]; exact F4_low hp (nobody hx p) j (by omega) (by omega)
theorem G5_roll {p : Nat} {d : Int} (hf : FactsB c x p d) (j : Nat) (h1 : 27 ≤ j) (h2 : j < 39) : G5 c x p j = rollF (RD c x p d).f (RD c x p d).m (RD c x p d).j (j - 27) := by
 rw [judge_back hf]
 unfold rollW
 rw [if_pos ⟨h1, h2⟩]
theorem G5_high {p : Nat} (hp : p < 4) (hx : x.bad = -1) {d : Int} (hf : FactsB c x p d) : G5 c x p 70 = .int .i64 (D3 c x p) ∧ G5 c x p 71 = .int .i64 d ∧ G5 c x p 72 = .bool true := by
 rw [judge_back hf]; refine ⟨?_, ?_, ?_⟩
 ·
  unfold rollW voteF
  rw [if_neg (by omega), if_neg (by omega), if_neg (by omega)]; exact F4_dig hp (nobody hx p)
 ·
  unfold rollW voteF
  rw [if_neg (by omega), if_pos rfl]
 ·
  unfold rollW voteF
  rw [if_neg (by omega), if_neg (by omega), if_pos rfl]
theorem rollG5 {p : Nat} {d : Int} (hf : FactsB c x p d) : RSame (rollOf (G5 c x p)) (RD c x p d) := fun i hi => by
 unfold rollOf inB
 dsimp only; rw [G5_roll hf _ (by omega) (by omega), G5_roll hf (31 + i) (by omega) (by omega), G5_roll hf (35 + i) (by omega) (by omega)]
 unfold rollF
 rw [if_pos (by omega), if_neg (by omega), if_pos (by omega), if_neg (by omega), if_neg (by omega), show 27 + i - 27 = i by omega, show 31 + i - 27 - 4 = i by omega, show 35 + i - 27 - 8 = i by omega]
 exact ⟨rfl, rfl, rfl⟩
theorem RD_good {p : Nat} {d : Int} (hf : FactsB c x p d) : okTo (RD c x p d).f (RD c x p d).m (RD c x p d).j 4 = true := okTo_all (many_goods (fun i hi => okTo_at hf.good i hi) _ 4 (by omega)) 4 (by omega)
theorem F6_all (hx : x.bad = -1) {p : Nat} (hp : p < 4) : F6 c x p = G6 c x p := by unfold F6; rw [newK_good hp (nobody hx p)]
theorem close_same {p : Nat} (hp : p < 4) (hx : x.bad = -1) {d : Int} (hf : FactsB c x p d) (hd : D3 c x p = d) : F6 c x p = G5 c x p := by
 rw [F6_all hx hp]
 unfold G6 closeF
 rw [F5_good hp (nobody hx p)]; obtain ⟨h70, h71, _⟩ := G5_high hp hx hf
 have hl : lostB (G5 c x p) = false := by
  unfold lostB
  rw [h70, h71, hd]
  simp
 rw [hl, if_neg (by simp)]
theorem close_lost (hs : Sane c) (hrd : ∀ i, i < 12 → Wf (x.rd i)) (hx : x.bad = -1) {b : Nat} (hb : b < 4) {d : Int} (hf : ∀ p, p < 4 → FactsB c x p d) (hd : ¬ D3 c x b = d) {g : Nat} (hg : g < 4) (hgb : g ≠ b) (hsame : ∀ p, p < 4 → p ≠ b → ∀ j, 6 ≤ j → j < 39 → G5 c x p j = G5 c x g j) :
  ∀ j, 6 ≤ j → j < 39 → F6 c x b j = G5 c x g j := fun j h6 h39 => by
 have hG := good5 (good4 (good3 (good2 (good1 hs hrd))))
 have hh : ∀ p, p < 4 → p ≠ b → Ms.firstOf (b : Int) c.fr 5 24 (p : Int) (X5 c x b) = some ⟨5, (p : Int), c.fr, packZ (G5 c x p)⟩ := fun p hp hpb =>
  heard_good (mz := fun i => packZ (G5 c x i)) hb hp (fun e => hpb e.symm) (nobody hx p) (by omega) hs.fr (packZ_len _) (by omega) (fun z hz => by
   obtain ⟨_, _, h3, h4⟩ := hG p hp (nobody hx p); rw [F5_good hp (nobody hx p)] at h3 h4
   exact pack_wf h3 h4 z hz)
 have hpr : pairOf (fun j : Nat => Ms.firstOf (b : Int) c.fr 5 24 (j : Int) (X5 c x b)) = some (packZ (G5 c x g)) :=
  pair_all hb (fun p hp hpb => ⟨_, hh p hp hpb, pack_congr (fun j h1 h2 => hsame p hp hpb j h1 h2)⟩) (first_self _ _ _ _ _)
 rw [F6_all hx hb]
 unfold G6 closeF
 rw [F5_good hb (nobody hx b)]; obtain ⟨h70, h71, h72⟩ := G5_high hb hx (hf b hb)
 have hl : lostB (G5 c x b) = true := by
  unfold lostB
  rw [h70, h71, h72]
  show (true && (d != D3 c x b)) = true
  simp only [Bool.true_and, bne_iff_ne, ne_eq]; exact fun e => hd e.symm
 rw [hl, if_pos rfl]
 unfold adoptF
 rw [hpr]; obtain ⟨_, _, h3, _⟩ := hG g hg (nobody hx g); rw [F5_good hg (nobody hx g)] at h3; refine take_back h3 ?_ j h6 h39; rw [okTo_congr (rollG5 (hf g hg)) 4 (by omega)]; exact RD_good (hf g hg)
theorem RD_same {p q : Nat} (hp : p < 4) (hq : q < 4) (hx : x.bad = -1) (d : Int) (h : ∀ j, 27 ≤ j → j < 39 → c.F p j = c.F q j) : RSame (RD c x p d) (RD c x q d) := by
 unfold RD
 refine many_congr (fun i hi => ?_) (fun _ _ => rfl) 4 (by omega); obtain ⟨a1, a2, a3⟩ := roll4 (c := c) (x := x) hp (nobody hx p) i hi; obtain ⟨b1, b2, b3⟩ := roll4 (c := c) (x := x) hq (nobody hx q) i hi
 have h1 : (rollOf (c.F p)).f i = (rollOf (c.F q)).f i ∧ (rollOf (c.F p)).m i = (rollOf (c.F q)).m i ∧ (rollOf (c.F p)).j i = (rollOf (c.F q)).j i := by
  unfold rollOf inB
  dsimp only; rw [h (27 + i) (by omega) (by omega), h (31 + i) (by omega) (by omega), h (35 + i) (by omega) (by omega)]; exact ⟨rfl, rfl, rfl⟩
 exact ⟨a1.trans (h1.1.trans b1.symm), a2.trans (h1.2.1.trans b2.symm), a3.trans (h1.2.2.trans b3.symm)⟩
theorem both (hs : Sane c) (hrd : ∀ i, i < 12 → Wf (x.rd i)) (hx : x.bad = -1) {p q : Nat} (hp : p < 4) (hq : q < 4) (h : ∀ j, 2 ≤ j → j < 39 → c.F p j = c.F q j) :
  D3 c x p = D3 c x q ∧ ∀ d, FactsB c x p d → FactsB c x q d → ∀ j, 2 ≤ j → j < 39 → G5 c x p j = G5 c x q j := by
 have hg := good2 (good1 hs hrd)
 have h1 := fun j => decG_congr (f := F2 c x p) (g := F2 c x q) (z := A3 c x p) (y := A3 c x q) (fun j h2 h3 => by
  rw [F2_keeps hp (nobody hx p) j (by omega) (by omega), F2_keeps hq (nobody hx q) j (by omega) (by omega)]
  exact h j h2 h3) (fun j hj => (agreed_all hs hrd hg hp (nobody hx p) j hj).trans (agreed_all hs hrd hg hq (nobody hx q) j hj).symm) j
 refine ⟨?_, fun d fp fq j h2 h3 => ?_⟩
 ·
  unfold D3 digestZ
  rw [pack_congr fun j a b => h1 j (by omega)]
 ·
  by_cases hj : j < 27
  ·
   rw [G5_low hp hx fp j (by omega), G5_low hq hx fq j (by omega)]; exact h1 j (by omega)
  ·
   rw [G5_roll fp j (by omega) h3, G5_roll fq j (by omega) h3]; have hr := RD_same hp hq hx d (fun j a b => h j (by omega) b)
   unfold rollF
   by_cases a1 : j - 27 < 4
   · rw [if_pos a1, if_pos a1, (hr _ a1).1]
   ·
    rw [if_neg a1, if_neg a1]
    by_cases a2 : j - 27 < 8
    · rw [if_pos a2, if_pos a2, (hr (j - 27 - 4) (by omega)).2.1]
    · rw [if_neg a2, if_neg a2, (hr (j - 27 - 8) (by omega)).2.2]
end
structure Behind (c : CluS) (b : Nat) : Prop where
 alike : Alike c (b : Int)
 own : ∀ s : Nat, s < 4 → inB (c.F b) s = true
 roll : okTo (rollOf (c.F b)).f (rollOf (c.F b)).m (rollOf (c.F b)).j 4 = true
 tun : ∀ p : Nat, p < 4 → ∀ j, 2 ≤ j → j < 6 → c.F p j = c.F b j
structure Again (c : CluS) (b : Nat) (k : Int) : Prop where
 same : ∀ p q : Nat, p < 4 → q < 4 → ∀ j, 2 ≤ j → j < 39 → c.F p j = c.F q j
 inn : ∀ p q : Nat, p < 4 → q < 4 → q ≠ b → inB (c.F p) q = true ∧ (rollOf (c.F p)).m q = 0
 roll : ∀ p : Nat, p < 4 → okTo (rollOf (c.F p)).f (rollOf (c.F p)).m (rollOf (c.F p)).j 4 = true
 soon : ∀ p : Nat, p < 4 → inB (c.F p) b = true ∨ k ≤ (rollOf (c.F p)).j b
section
variable {c : CluS} {x : InS} {b : Nat}
theorem low_keeps (hs : Sane c) (hrd : ∀ i, i < 12 → Wf (x.rd i)) (hx : x.bad = -1) {d : Int} {p : Nat} (hp : p < 4) (hf : FactsB c x p d) (j : Nat) (h2 : 2 ≤ j) (h6 : j < 6) : F6 c x p j = c.F p j := by
 rw [F6_all hx hp]
 unfold G6
 rw [close_keep _ _ j (by omega), F5_good hp (nobody hx p), G5_low hp hx hf j (by omega), decG_low _ _ _ _ _ _ (by omega) (by omega) (by omega)]; exact F2_keeps hp (nobody hx p) j (by omega) (by omega)
theorem ne_int {p b : Nat} (h : p ≠ b) : (p : Int) ≠ (b : Int) := fun e => h (by omega)
theorem behind_next (hs : Sane c) (hrd : ∀ i, i < 12 → Wf (x.rd i)) (hx : x.bad = -1) (hb : b < 4) (h : Behind c b) {g : Nat} (hg : g < 4) (hgb : g ≠ b)
  (hne : F6 c x b 70 = F6 c x g 70 → ∀ j, 6 ≤ j → j < 39 → F6 c x b j = F6 c x g j) : Again (next c x) b 0 := by
 have hsm : ∀ p : Nat, p < 4 → p ≠ b → ∀ j, 2 ≤ j → j < 39 → c.F p j = c.F g j := fun p hp hpb j h1 h2 => h.alike.same p g hp hg (ne_int hpb) (ne_int hgb) j h1 h2; obtain ⟨d, hd⟩ : ∃ d, D3 c x g = d := ⟨_, rfl⟩
 have hD : ∀ s : Nat, s < 4 → (s : Int) ≠ (b : Int) → D3 c x s = d := fun s hs4 hsb => by
  rw [← hd]; exact (both hs hrd hx hs4 hg (hsm s hs4 (fun e => hsb (by omega)))).1
 have hF : ∀ p, p < 4 → FactsB c x p d := fun p hp => by
  by_cases e : p = b
  · subst e; exact facts_back hs hrd hx hp (fun s hs4 _ => h.own s hs4) hD h.roll
  · exact facts_back hs hrd hx hp (fun s hs4 hsb => (h.alike.inn p s hp hs4 (ne_int e) hsb).1) hD (h.alike.roll p hp (ne_int e))
 have hG : ∀ p, p < 4 → p ≠ b → F6 c x p = G5 c x p := fun p hp hpb => close_same hp hx (hF p hp) (hD p hp (ne_int hpb)); have hS : ∀ p, p < 4 → p ≠ b → ∀ j, 2 ≤ j → j < 39 → G5 c x p j = G5 c x g j := fun p hp hpb j h1 h2 => (both hs hrd hx hp hg (hsm p hp hpb)).2 d (hF p hp) (hF g hg) j h1 h2
 have hB : ∀ j, 6 ≤ j → j < 39 → F6 c x b j = F6 c x g j := by
  by_cases e : D3 c x b = d
  ·
   refine hne ?_; rw [hG g hg hgb, close_same hb hx (hF b hb) e, (G5_high hb hx (hF b hb)).1, (G5_high hg hx (hF g hg)).1, e, hd]
  ·
   intro j h1 h2; rw [close_lost hs hrd hx hb hF e hg hgb (fun p hp hpb j a b => hS p hp hpb j (by omega) b) j h1 h2, hG g hg hgb]
 have hall : ∀ p : Nat, p < 4 → ∀ j, 2 ≤ j → j < 39 → F6 c x p j = F6 c x g j := fun p hp j h1 h2 => by
  by_cases e : p = b
  ·
   subst e
   by_cases h6 : j < 6
   ·
    rw [low_keeps hs hrd hx hp (hF p hp) j h1 h6, low_keeps hs hrd hx hg (hF g hg) j h1 h6]; exact (h.tun g hg j h1 h6).symm
   · exact hB j (by omega) h2
  ·
   rw [hG p hp e, hG g hg hgb]; exact hS p hp e j h1 h2
 have hroll : ∀ p : Nat, p < 4 → RSame (rollOf (F6 c x p)) (RD c x g d) := fun p hp i hi => by
  have h0 := rollG5 (hF g hg) i hi; rw [← hG g hg hgb] at h0; have e1 := hall p hp (27 + i) (by omega) (by omega); have e2 := hall p hp (31 + i) (by omega) (by omega); have e3 := hall p hp (35 + i) (by omega) (by omega)
  unfold rollOf inB at h0 ⊢
  dsimp only at h0 ⊢; rw [e1, e2, e3]; exact h0
 refine ⟨fun p q hp hq j h1 h2 => (hall p hp j h1 h2).trans (hall q hq j h1 h2).symm, fun p q hp hq hqb => ?_, fun p hp => ?_, fun p hp => ?_⟩
 ·
  obtain ⟨a1, a2, _⟩ := hroll p hp q hq; obtain ⟨i1, i2⟩ := h.alike.inn g q hg hq (ne_int hgb) (ne_int hqb); obtain ⟨r1, r2, _⟩ := roll4 (c := c) (x := x) hg (nobody hx g) q hq
  have hm := many_in (s := rollOf (F4 c x g)) (ag := fun i => (VD c x d).getD i false) (q := q) (r1.trans i1) (r2.trans i2) (by
   show (VD c x d).getD q false = true
   rw [VD_get hq]
   exact decide_eq_true (hD q hq (ne_int hqb))) 4
  exact ⟨a1.trans hm.1, a2.trans hm.2⟩
 ·
  show okTo (rollOf (F6 c x p)).f (rollOf (F6 c x p)).m (rollOf (F6 c x p)).j 4 = true
  rw [okTo_congr (hroll p hp) 4 (by omega)]; exact RD_good (hF g hg)
 ·
  have h1 : okTo (rollOf (F6 c x p)).f (rollOf (F6 c x p)).m (rollOf (F6 c x p)).j 4 = true := by
   rw [okTo_congr (hroll p hp) 4 (by omega)]; exact RD_good (hF g hg)
  exact .inr ((roll_small h1).2 b hb).1
theorem many_soon {s : RS} {ag : Nat → Bool} {q : Nat} {k : Int} (h : s.f q = true ∨ k ≤ s.j q) (hm : s.f q = true → s.m q = 0 ∨ True) (ha : ag q = true) : ∀ n, q < n → (many s ag n).1.f q = true ∨ k + 1 ≤ (many s ag n).1.j q ∧ ¬ 2 ≤ k
 | 0, hq => by omega
 | n + 1, hq => by
  unfold many
  by_cases e : q = n
  ·
   subst e
   have hk : ∀ t, t ≤ q → (many s ag t).1.f q = s.f q ∧ (many s ag t).1.j q = s.j q := fun t => by
    induction t with
    | zero => intro _; exact ⟨rfl, rfl⟩
    | succ t ih =>
     intro ht; obtain ⟨i1, i2⟩ := ih (by omega)
     obtain ⟨o1, _, o3⟩ := one_other (many s ag t).1 (ag t) (show q ≠ t by omega)
     exact ⟨o1.trans i1, o3.trans i2⟩
   obtain ⟨h1, h2⟩ := hk q (Nat.le_refl _)
   unfold Nd.one
   by_cases hf : (many s ag q).1.f q = true
   ·
    rw [if_pos hf, if_pos ha]; exact .inl hf
   ·
    rw [if_neg hf, if_neg (by rw [ha]; simp)]
    have hj : k ≤ (many s ag q).1.j q := by
     rw [h2]
     rcases h with h | h
     · exact absurd (h1.trans h) hf
     · exact h
    by_cases h3 : 3 ≤ (many s ag q).1.j q + 1
    ·
     rw [if_pos h3]; exact .inl (upd_same _ _ _)
    ·
     rw [if_neg h3]; refine .inr ⟨?_, by omega⟩
     show _ ≤ upd _ _ _ _
     rw [upd_same]; omega
  ·
   have ih := many_soon h hm ha n (by omega); obtain ⟨o1, _, o3⟩ := one_other (many s ag n).1 (ag n) e; rw [o1, o3]; exact ih
theorem again_next (hs : Sane c) (hrd : ∀ i, i < 12 → Wf (x.rd i)) (hx : x.bad = -1) (hb : b < 4) {k : Int} (h : Again c b k) :
  Again (next c x) b (k + 1) ∧ (∀ p q : Nat, p < 4 → q < 4 → F6 c x p 70 = F6 c x q 70) ∧ (2 ≤ k → ∀ p : Nat, p < 4 → inB (F6 c x p) b = true) := by
 obtain ⟨d, hd⟩ : ∃ d, D3 c x b = d := ⟨_, rfl⟩
 have hD : ∀ s : Nat, s < 4 → D3 c x s = d := fun s hs4 => by
  rw [← hd]; exact (both hs hrd hx hs4 hb (fun j h1 h2 => h.same s b hs4 hb j h1 h2)).1
 have hF : ∀ p, p < 4 → FactsB c x p d := fun p hp => facts_back (b := (b : Int)) hs hrd hx hp (fun s hs4 hsb => (h.inn p s hp hs4 (fun e => hsb (by omega))).1) (fun s hs4 _ => hD s hs4) (h.roll p hp); have hG : ∀ p, p < 4 → F6 c x p = G5 c x p := fun p hp => close_same hp hx (hF p hp) (hD p hp)
 have hS : ∀ p q : Nat, p < 4 → q < 4 → ∀ j, 2 ≤ j → j < 39 → F6 c x p j = F6 c x q j := fun p q hp hq j h1 h2 => by
  rw [hG p hp, hG q hq]; exact (both hs hrd hx hp hq (fun j h1 h2 => h.same p q hp hq j h1 h2)).2 d (hF p hp) (hF q hq) j h1 h2
 have hroll : ∀ p : Nat, p < 4 → RSame (rollOf (F6 c x p)) (RD c x p d) := fun p hp => by
  rw [hG p hp]; exact rollG5 (hF p hp)
 have hag : ∀ q : Nat, q < 4 → (VD c x d).getD q false = true := fun q hq => by rw [VD_get hq]; exact decide_eq_true (hD q hq)
 have hsn : ∀ p : Nat, p < 4 → inB (F6 c x p) b = true ∨ k + 1 ≤ (rollOf (F6 c x p)).j b ∧ ¬ 2 ≤ k := fun p hp => by
  obtain ⟨a1, _, a3⟩ := hroll p hp b hb; obtain ⟨r1, r2, r3⟩ := roll4 (c := c) (x := x) hp (nobody hx p) b hb
  have hs0 : (rollOf (F4 c x p)).f b = true ∨ k ≤ (rollOf (F4 c x p)).j b := by
   rw [r1, r3]; exact h.soon p hp
  have hm := many_soon (ag := fun i => (VD c x d).getD i false) hs0 (fun _ => .inr trivial) (hag b hb) 4 hb
  rcases hm with hm | hm
  · exact .inl (a1.trans hm)
  · rw [a3]; exact .inr hm
 refine ⟨⟨hS, fun p q hp hq hqb => ?_, fun p hp => ?_, fun p hp => ?_⟩, fun p q hp hq => ?_, fun hk p hp => ?_⟩
 ·
  obtain ⟨a1, a2, _⟩ := hroll p hp q hq; obtain ⟨i1, i2⟩ := h.inn p q hp hq hqb; obtain ⟨r1, r2, _⟩ := roll4 (c := c) (x := x) hp (nobody hx p) q hq; have hm := many_in (s := rollOf (F4 c x p)) (ag := fun i => (VD c x d).getD i false) (q := q) (r1.trans i1) (r2.trans i2) (hag q hq) 4; exact ⟨a1.trans hm.1, a2.trans hm.2⟩
 ·
  show okTo (rollOf (F6 c x p)).f (rollOf (F6 c x p)).m (rollOf (F6 c x p)).j 4 = true
  rw [okTo_congr (hroll p hp) 4 (by omega)]; exact RD_good (hF p hp)
 ·
  rcases hsn p hp with h1 | h1
  · exact .inl h1
  · exact .inr h1.1
 · rw [hG p hp, hG q hq, (G5_high hp hx (hF p hp)).1, (G5_high hq hx (hF q hq)).1, hD p hp, hD q hq]
 ·
  rcases hsn p hp with h1 | h1
  · exact h1
  · exact absurd hk h1.2
end
end Cf
namespace Cf
open Go.RowKit Mem Rws Nd Cl
section
variable {t0 t1 t2 t3 : Int} {ys : List InS} {n b : Nat}
theorem behind_run (h : Wf t0 ∧ Wf t1 ∧ Wf t2 ∧ Wf t3) (hg : GoodIns ys) (hn : n ≤ ys.length) (hb4 : b < 4) (hb : ∀ i, i < n → (ys.getD i default).bad = (b : Int)) : ∀ k, k ≤ n → Alike (runS t0 t1 t2 t3 ys k) (b : Int) ∧ (runS t0 t1 t2 t3 ys k).F b = (beginS t0 t1 t2 t3).F b ∧ ∀ p : Nat, p < 4 → ∀ j, 2 ≤ j → j < 6 → (runS t0 t1 t2 t3 ys k).F p j = (beginS t0 t1 t2 t3).F p j
 | 0, _ => ⟨alike_begin _ _ _ _ _, rfl, fun _ _ _ _ _ => rfl⟩
 | k + 1, hk => by
  obtain ⟨h1, h2, h3⟩ := behind_run h hg hn hb4 hb k (by omega); have hs := sane_run (ys := ys) h hg k (by omega); have hr := (hg.2 k (by omega)).2.1; have e := hb k (by omega)
  have ha : Alike (runS t0 t1 t2 t3 ys k) (ys.getD k default).bad := by rw [e]; exact h1
  rw [runS_succ]; refine ⟨?_, ?_, fun p hp j a1 a2 => ?_⟩
  ·
   have := alike_next (x := ys.getD k default) hs hr ha; rw [e] at this; exact this
  · exact (stays (x := ys.getD k default) b e.symm).trans h2
  ·
   refine Eq.trans ?_ (h3 p hp j a1 a2)
   show F6 _ _ p j = _
   by_cases hpb : (p : Int) = (ys.getD k default).bad
   · rw [stays p hpb]
   ·
    rw [F6_low hp hpb (facts hs hr ha hp hpb) j (by omega), decG_low _ _ _ _ _ _ (by omega) (by omega) (by omega)]; exact F2_keeps hp hpb j (by omega) (by omega)
theorem begin_tun (p q : Nat) (j : Nat) (h2 : 2 ≤ j) (h6 : j < 6) : (beginS t0 t1 t2 t3).F p j = (beginS t0 t1 t2 t3).F q j := by
 obtain rfl | rfl | rfl | rfl : j = 2 ∨ j = 3 ∨ j = 4 ∨ j = 5 := by omega
 all_goals rfl
theorem behind_at (h : Wf t0 ∧ Wf t1 ∧ Wf t2 ∧ Wf t3) (hg : GoodIns ys) (hn : n ≤ ys.length) (hb4 : b < 4) (hb : ∀ i, i < n → (ys.getD i default).bad = (b : Int)) : Behind (runS t0 t1 t2 t3 ys n) b := by
 obtain ⟨h1, h2, h3⟩ := behind_run h hg hn hb4 hb n (Nat.le_refl _); refine ⟨h1, fun s hs4 => ?_, ?_, fun p hp j a1 a2 => ?_⟩
 ·
  unfold inB
  rw [h2]
  obtain rfl | rfl | rfl | rfl : s = 0 ∨ s = 1 ∨ s = 2 ∨ s = 3 := by omega
  all_goals rfl
 ·
  unfold rollOf inB
  rw [h2]; rfl
 ·
  rw [h3 p hp j a1 a2, h3 b hb4 j a1 a2]; exact begin_tun p b j a1 a2
theorem back_run (h : Wf t0 ∧ Wf t1 ∧ Wf t2 ∧ Wf t3) (hg : GoodIns ys) (hn : n < ys.length) (hb4 : b < 4) (hb : ∀ i, i < n → (ys.getD i default).bad = (b : Int)) (hm : ∀ i, n ≤ i → i < ys.length → (ys.getD i default).bad = -1) {g : Nat} (hg4 : g < 4) (hgb : g ≠ b)
  (hne : (runS t0 t1 t2 t3 ys (n + 1)).F b 70 = (runS t0 t1 t2 t3 ys (n + 1)).F g 70 → ∀ j, 6 ≤ j → j < 39 → (runS t0 t1 t2 t3 ys (n + 1)).F b j = (runS t0 t1 t2 t3 ys (n + 1)).F g j) :
  ∀ t, n + t < ys.length → Again (runS t0 t1 t2 t3 ys (n + t + 1)) b (t : Int) ∧ (0 < t → (runS t0 t1 t2 t3 ys (n + t + 1)).F b 70 = (runS t0 t1 t2 t3 ys (n + t + 1)).F g 70) ∧ (3 ≤ t → inB ((runS t0 t1 t2 t3 ys (n + t + 1)).F g) b = true)
 | 0, ht => by
  rw [runS_succ] at hne; refine ⟨?_, fun h => by omega, fun h => by omega⟩; rw [Nat.add_zero, runS_succ]; exact behind_next (sane_run h hg n (by omega)) (hg.2 n hn).2.1 (hm n (Nat.le_refl _) hn) hb4 (behind_at h hg (by omega) hb4 hb) hg4 hgb hne
 | t + 1, ht => by
  obtain ⟨h1, h2, h3⟩ := back_run h hg hn hb4 hb hm hg4 hgb hne t (by omega); have hs := sane_run (ys := ys) h hg (n + t + 1) (by omega); have hr := (hg.2 (n + t + 1) (by omega)).2.1; obtain ⟨a1, a2, a3⟩ := again_next hs hr (hm (n + t + 1) (by omega) (by omega)) hb4 h1
  rw [show n + (t + 1) + 1 = (n + t + 1) + 1 by omega, runS_succ]
  refine ⟨?_, fun _ => a2 b g hb4 hg4, fun h => a3 (by omega) g hg4⟩
  have e : ((t + 1 : Nat) : Int) = (t : Int) + 1 := by omega
  rw [e]; exact a1
theorem back_is (h : Wf t0 ∧ Wf t1 ∧ Wf t2 ∧ Wf t3) (hg : GoodIns ys) (hn : n < ys.length) (hb4 : b < 4) (hb : ∀ i, i < n → (ys.getD i default).bad = (b : Int)) (hm : ∀ i, n ≤ i → i < ys.length → (ys.getD i default).bad = -1) {g : Nat} (hg4 : g < 4) (hgb : g ≠ b)
  (hne : (runS t0 t1 t2 t3 ys (n + 1)).F b 70 = (runS t0 t1 t2 t3 ys (n + 1)).F g 70 → ∀ j, 6 ≤ j → j < 39 → (runS t0 t1 t2 t3 ys (n + 1)).F b j = (runS t0 t1 t2 t3 ys (n + 1)).F g j) {i : Nat} (hi : n ≤ i) (hl : i < ys.length) :
  (∀ j, 6 ≤ j → j < 39 → (runS t0 t1 t2 t3 ys (i + 1)).F b j = (runS t0 t1 t2 t3 ys (i + 1)).F g j) ∧ (n < i → (runS t0 t1 t2 t3 ys (i + 1)).F b 70 = (runS t0 t1 t2 t3 ys (i + 1)).F g 70) ∧ (n + 3 ≤ i → ∀ q, q < 4 → (runS t0 t1 t2 t3 ys (i + 1)).F g (27 + q) = .bool true) := by
 obtain ⟨h1, h2, h3⟩ := back_run h hg hn hb4 hb hm hg4 hgb hne (i - n) (by omega)
 rw [show n + (i - n) + 1 = i + 1 by omega] at h1 h2 h3
 have hk := (sane_run (ys := ys) h hg (i + 1) (by omega)).ok g hg4; refine ⟨fun j a1 a2 => h1.same b g hb4 hg4 j (by omega) a2, fun hni => h2 (by omega), fun hni q hq => ?_⟩
 have hv : inB ((runS t0 t1 t2 t3 ys (i + 1)).F g) q = true := by
  by_cases e : q = b
  · subst e; exact h3 (by omega)
  · exact (h1.inn g q hg4 hq e).1
 have ho := hk (27 + q) (by omega)
 have ht : nodeT (27 + q) = false := by
  obtain rfl | rfl | rfl | rfl : q = 0 ∨ q = 1 ∨ q = 2 ∨ q = 3 := by omega
  all_goals rfl
 rw [ht] at ho; rw [bv_of ho]; have hv2 : bv ((runS t0 t1 t2 t3 ys (i + 1)).F g (27 + q)) = true := hv; rw [hv2]
end
end Cf
namespace Cf
open Go.ChangeShapes Go.WideShapes Go.ChangeAt Go.RowKit Mem Rws Nd Cl Flat
def InsC (w : World) (B : Nat) (cs : List Value) (xs : List InS) : Prop := ∀ i x, xs[i]? = some x → ∃ LA LC, (cs.drop (i * 14)).take 14 = inL x LA LC ∧ (LA = none → LC = 0) ∧ x.ls.length ≤ LC ∧ LC ≤ 9223372036854775807 ∧ LiesAt w B LA x.ls
theorem InsAt.open {w : World} {B : Nat} {A : Option Addr} {xs : List InS} (h : InsAt w B A xs) : ∃ cs, Rd w B 14 A xs.length cs ∧ InsC w B cs xs := h
theorem InsC.shut {w : World} {B : Nat} {A : Option Addr} {cs : List Value} {xs : List InS} (h : InsC w B cs xs) (hr : Rd w B 14 A xs.length cs) : InsAt w B A xs := ⟨cs, hr, h⟩
theorem InsC.keep {w w' : World} {B : Nat} {cs : List Value} {xs : List InS} (h : InsC w B cs xs) (hk : ∀ b o, b < B → w'.cell? ⟨b, o, none⟩ = w.cell? ⟨b, o, none⟩) : InsC w' B cs xs := fun i x hi => by
 obtain ⟨LA, LC, h1, h2, h3, h4, h5⟩ := h i x hi; exact ⟨LA, LC, h1, h2, h3, h4, h5.keep hk⟩
theorem InsC.more {w : World} {B B' : Nat} {cs : List Value} {xs : List InS} (h : InsC w B cs xs) (hB : B ≤ B') : InsC w B' cs xs := fun i x hi => by
 obtain ⟨LA, LC, h1, h2, h3, h4, h5⟩ := h i x hi; exact ⟨LA, LC, h1, h2, h3, h4, lies_more h5 hB⟩
theorem InsC.join {w : World} {B : Nat} {cs ds : List Value} {xs ys : List InS} (h1 : InsC w B cs xs) (h2 : InsC w B ds ys) (hl : cs.length = xs.length * 14) : InsC w B (cs ++ ds) (xs ++ ys) := fun i x hi => by
 by_cases e : i < xs.length
 ·
  rw [List.getElem?_append_left e] at hi; rw [chunk_snoc hl i e]; exact h1 i x hi
 ·
  rw [List.getElem?_append_right (by omega)] at hi
  have e2 : (cs ++ ds).drop (i * 14) = ds.drop ((i - xs.length) * 14) := by
   rw [List.drop_append, List.drop_eq_nil_of_le (by rw [hl]; exact Nat.mul_le_mul_right _ (by omega)), List.nil_append, hl, Nat.sub_mul]
  rw [e2]; exact h2 (i - xs.length) x hi
theorem InsC.one {w : World} {B : Nat} {cs : List Value} {xs : List InS} (h : InsC w B cs xs) (hl : cs.length = xs.length * 14) : ∀ u ∈ cs, u.oneCell' = true := fun u hu => by
 obtain ⟨j, hj⟩ := List.mem_iff_getElem?.1 hu; have hjl : j < cs.length := (List.getElem?_eq_some_iff.1 hj).1
 obtain ⟨LA, LC, h1, _⟩ := h (j / 14) _ (List.getElem?_eq_getElem (show j / 14 < xs.length by omega))
 have h2 : ((cs.drop (j / 14 * 14)).take 14)[j % 14]? = some u := by
  rw [List.getElem?_take, if_pos (by omega), List.getElem?_drop, show j / 14 * 14 + j % 14 = j by omega, hj]
 rw [h1] at h2
 unfold inL at h2
 rw [row_toList, List.getElem?_map, List.getElem?_range (by omega)] at h2
 injection h2 with h2
 rw [← h2]; exact inCell_one _ _ _ _ _ _
theorem rd_none {w : World} {B size n : Nat} {A : Option Addr} {xs : List Value} (h : Rd w B size A n xs) (e : A = none) : n = 0 := by
 rcases Nat.eq_zero_or_pos n with h0 | h0
 · exact h0
 ·
  obtain ⟨_, _, e2, _⟩ := h.2 h0; rw [e] at e2
  cases e2
theorem join_good {xs ys : List InS} (h1 : GoodIns xs) (h2 : GoodIns ys) (hx : xs.length ≤ 200) (hy : ys.length ≤ 200) : GoodIns (xs ++ ys) := by
 refine ⟨by rw [List.length_append]; omega, fun i hi => ?_⟩; rw [List.length_append] at hi
 by_cases e : i < xs.length
 ·
  rw [List.getD_eq_getElem?_getD, List.getElem?_append_left e, ← List.getD_eq_getElem?_getD]; exact h1.2 i e
 ·
  rw [List.getD_eq_getElem?_getD, List.getElem?_append_right (by omega), ← List.getD_eq_getElem?_getD]; exact h2.2 (i - xs.length) (by omega)
theorem join_left {xs ys : List InS} {b : Int} (h : OneBad b xs) : ∀ i, i < xs.length → ((xs ++ ys).getD i default).bad = b := fun i hi => by
 rw [List.getD_eq_getElem?_getD, List.getElem?_append_left hi, ← List.getD_eq_getElem?_getD]; exact h i hi
theorem join_right {xs ys : List InS} {b : Int} (h : OneBad b ys) : ∀ i, xs.length ≤ i → i < (xs ++ ys).length → ((xs ++ ys).getD i default).bad = b := fun i h1 h2 => by
 rw [List.length_append] at h2; rw [List.getD_eq_getElem?_getD, List.getElem?_append_right h1, ← List.getD_eq_getElem?_getD]; exact h (i - xs.length) (by omega)
theorem back_rep {t0 t1 t2 t3 : Int} {ys : List InS} {n : Nat} (hx : (ys.getD n default).bad = -1) : (repS t0 t1 t2 t3 ys n).2 = 4 ∧ ∀ p, p < 4 → ∀ j, j < 14 → (repS t0 t1 t2 t3 ys n).1[p * 14 + j]? = some (repF ((runS t0 t1 t2 t3 ys (n + 1)).F p) j) := by
 have hg : goods (-1) 4 = [0, 1, 2, 3] := by decide
 refine ⟨?_, fun p hp j hj => ?_⟩
 ·
  show (goods (ys.getD n default).bad 4).length = 4
  rw [hx, hg]; rfl
 ·
  have h := reps_get (G6 (runS t0 t1 t2 t3 ys n) (ys.getD n default)) (goods (ys.getD n default).bad 4) p j (by rw [hx, hg]; exact hp) hj
  have e : (goods (ys.getD n default).bad 4).getD p 0 = p := by
   rw [hx, hg]
   obtain rfl | rfl | rfl | rfl : p = 0 ∨ p = 1 ∨ p = 2 ∨ p = 3 := by omega
   all_goals rfl
  rw [e] at h; refine Eq.trans h ?_; rw [runS_succ]
  show _ = some (repF (F6 _ _ p) j)
  rw [F6_all hx hp]
theorem exec_neq_diff {P : Program} {o : Oper} {a : Act} (t u : TypeId) (x y : Operand) (ho : o.op = .binOp .neq t x y u) {d : Nat} {ls : List Bool} (he : eqOK P d t = some ls) (hd : d ≤ 10000) {e : TypeDesc} (hu : P.underlying t = some e) (hr : e.isRow = true) (hi : (P.info? t).map (·.size) = some ls.length) (hq : P.eqGuardType P.depth t = false)
  (f g : Nat → Value) (hx : a.eval x = .agg (row ls.length f)) (hy : a.eval y = .agg (row ls.length g)) (hf : TypI ls ((List.range ls.length).map f)) (hg : TypI ls ((List.range ls.length).map g)) (hne : ¬ ∀ i, i < ls.length → f i = g i) (w : World) : (execOp a.eval o).run P w = .ok (.value (.bool true)) w := by
 obtain ⟨r, h1, h2⟩ := run_neq_dec he hd hu hr hi f g hf hg w
 have h3 : r = true := by
  cases r with
  | true => rfl
  | false => exact absurd (h2 rfl) hne
 rw [h3] at h1
 unfold execOp
 simp only [ho, hx, hy, Sem.run_bind, run_neqGuard_rows hq, h1, Result.andThen_ok, Sem.run_pure]
def BkS (w : World) (ba bo br o1 orr RC bN gN : Nat) (db dg : Int) (o2 : Nat) (s : CluS) (VA : Nat → Option Addr) (VC : Nat → Nat) : Prop := (w.cell? ⟨bo, o1, none⟩ = some (.slice (some ⟨br, orr, none⟩) 4 RC) ∧ w.cell? ⟨br, orr + bN * 14 + 8, none⟩ = some (.int .i64 db) ∧ w.cell? ⟨br, orr + gN * 14 + 8, none⟩ = some (.int .i64 dg)) ∧ (w.rangeAt ba (o2 + 1 + bN * 74) ((List.range 74).map (nodeW (s.F bN) (.slice (VA bN) (s.V bN).length (VC bN))))) ∧ w.rangeAt ba (o2 + 1 + gN * 74) ((List.range 74).map (nodeW (s.F gN) (.slice (VA gN) (s.V gN).length (VC gN))))
theorem bool_of (p : Prop) : ∃ r : Bool, r = false ↔ p := by
 by_cases h : p
 · exact ⟨false, by simp [h]⟩
 · exact ⟨true, by simp [h]⟩
theorem exec_neq_both {P : Program} {o : Oper} {a : Act} (t u : TypeId) (x y : Operand) (ho : o.op = .binOp .neq t x y u) {d : Nat} {ls : List Bool} (he : eqOK P d t = some ls) (hd : d ≤ 10000) {e : TypeDesc} (hu : P.underlying t = some e) (hr : e.isRow = true) (hi : (P.info? t).map (·.size) = some ls.length) (hq : P.eqGuardType P.depth t = false)
  (f g : Nat → Value) (hx : a.eval x = .agg (row ls.length f)) (hy : a.eval y = .agg (row ls.length g)) (hf : TypI ls ((List.range ls.length).map f)) (hg : TypI ls ((List.range ls.length).map g)) (ht : Typed ls ((List.range ls.length).map f)) {r : Bool} (hre : r = false ↔ ∀ i, i < ls.length → f i = g i) (w : World) : (execOp a.eval o).run P w = .ok (.value (.bool r)) w := by
 cases r with
 | true => exact exec_neq_diff t u x y ho he hd hu hr hi hq f g hx hy hf hg (fun h => by cases hre.2 h) w
 | false => exact exec_neq_same t u x y ho he hd hu hr hi hq f hx (hy.trans (congrArg Value.agg (row_congr fun i hi => (hre.1 rfl i hi).symm))) ht w
def axB : List Bool := [true, true, true, true, true, false, true, true, true, true, true, true, false, true, true, true, true, true, true, false, true]
def roB : List Bool := [false, false, false, false, true, true, true, true, true, true, true, true]
theorem node_sub {w : World} {b o : Nat} {f : Nat → Value} {S : Value} (h : w.rangeAt b o ((List.range 74).map (nodeW f S))) (k m : Nat) (hk : k + m ≤ 73) : w.rangeAt b (o + k) ((List.range m).map fun i => f (k + i)) := fun i v hv => by
 have hi : i < m := by have := (List.getElem?_eq_some_iff.1 hv).1; simpa using this
 rw [List.getElem?_map, List.getElem?_range hi] at hv
 have h1 := h (k + i) v (by
  rw [List.getElem?_map, List.getElem?_range (by omega)]; rw [← hv]
  show some (nodeW f S (k + i)) = some (f (k + i))
  unfold nodeW
  rw [if_neg (by omega)])
 rw [Nat.add_assoc]; exact h1
end Cf
namespace lawTopBack
open Go.ChangeShapes Go.WideShapes Go.ChangeAt Go.RowKit Mem Rws Nd Cl Cf Flat
set_option maxRecDepth 100000 in
set_option maxHeartbeats 4000000 in
theorem walk (t0 t1 t2 t3 : Int) (ht : Wf t0 ∧ Wf t1 ∧ Wf t2 ∧ Wf t3) (A : Option Addr) (c : Nat) (xs : List InS) (hxl : xs.length ≤ 1099511627776) (hxw : ∀ x ∈ xs, (∀ i, i < 12 → Wf (x.rd i)) ∧ Wf x.bad) (AM : Option Addr) (cm : Nat) (ms : List InS) (hml : ms.length ≤ 1099511627776) (hmw : ∀ x ∈ ms, (∀ i, i < 12 → Wf (x.rd i)) ∧ Wf x.bad) (bad : Int) (hbad : -9223372036854775808 ≤ bad ∧ bad ≤ 9223372036854775807) (w : World) (h : InsAt w w.heap.size A xs) (h2 : InsAt w w.heap.size AM ms) :
  Calls Try.prog 7 #[.agg #[.int .i64 t0, .int .i64 t1, .int .i64 t2, .int .i64 t3], .slice A xs.length c, .slice AM ms.length cm, .int .i64 bad] w fun e w' => e = .returned (.bool true) ∧ Below w.heap.size w w' := by
 have HIN := zz h; have HIM := zz h2
 have B3 := zz (show Blk (w.alloc (.cells #[.int .i64 t0, .int .i64 t1, .int .i64 t2, .int .i64 t3] 23)) w.heap.size 23 #[.int .i64 t0, .int .i64 t1, .int .i64 t2, .int .i64 t3] from Blk.fresh _ _ _)
 have hb : Below w.heap.size w (w.alloc (.cells #[.int .i64 t0, .int .i64 t1, .int .i64 t2, .int .i64 t3] 23)) := (Below.refl _ _).alloc (Nat.le_refl _) _; have HB := zz hb; replace HIN := zz ((HIN.out.below hb).more hb.size); replace HIM := zz ((HIM.out.below hb).more hb.size); clear h h2 hb
 go_enter Try.func7, Try.ntmps7
 go_wp2_with fail; refine (spot_any bad 4 hbad (.inl rfl) _).mono ?_; rintro e w1 ⟨bd, hr0, hr5, rfl, rfl⟩; obtain ⟨bN, rfl⟩ : ∃ k : Nat, bd = (k : Int) := ⟨bd.toNat, by omega⟩
 have hb4 : bN < 4 := by omega
 have hol : (ones (bN : Int) xs).length ≤ 200 := by rw [ones_len]; omega
 have hom : (ones (-1) ms).length ≤ 200 := by rw [ones_len]; omega
 have HGI := zz (ones_good (bad := (bN : Int)) (xs := xs) (by omega) hxw); have HGM := zz (ones_good (bad := -1) (xs := ms) (by omega) hmw); have HGG := zz (join_good HGI.out.1 HGM.out.1 hol hom); clear hbad hxw hmw
 go_upto_region 2 with fail
 generalize (w.alloc (.cells #[.int .i64 t0, .int .i64 t1, .int .i64 t2, .int .i64 t3] 23)) = w1 at *
 obtain ⟨gt, hgt⟩ : ∃ g, w.heap.size = g := ⟨_, rfl⟩; have HGT := zz hgt; rw [hgt] at B3 HB ⊢; clear hgt; go_wp2_with fail; refine (one_any A c xs (bN : Int) w1 hxl HIN.out).mono ?_; rintro e w4 ⟨A4, c4, rfl, ha4, hc4, hin4, hb⟩; have HIN4 := zz hin4; replace HIM := zz ((HIM.out.below hb).more hb.size); replace HB := zz (onward HB.out (Nat.le_of_eq HGT.out.symm) hb); replace B3 := zz (B3.out.below hb B3.out.lt); clear hin4 hb HIN; go_wp2_with fail; refine (one_any AM cm ms (-1) w4 hml HIM.out).mono ?_; rintro e w5 ⟨A5, c5, rfl, ha5, hc5, hin5, hb⟩; have HIN5 := zz hin5; replace HIN4 := zz ((HIN4.out.below hb).more hb.size); replace HB := zz (onward HB.out (Nat.le_of_eq HGT.out.symm) hb); replace B3 := zz (B3.out.below hb B3.out.lt); clear hin5 hb HIM
 generalize ones (bN : Int) xs = ys at *
 generalize ones (-1) ms = qs at *
 go_upto_region 3 with fail
 have hb : Below w5.heap.size w5 w5.drew := (Below.refl _ _).drew; replace HB := zz (onward HB.out (Nat.le_of_eq HGT.out.symm) hb); replace B3 := zz (B3.out.below hb B3.out.lt); replace HIN4 := zz ((HIN4.out.below hb).more hb.size); replace HIN5 := zz ((HIN5.out.below hb).more hb.size); clear hb; obtain ⟨cs4, hr4, hx4⟩ := HIN4.out.open; obtain ⟨cs5, hr5, hx5⟩ := HIN5.out.open; have HR4 := zz hr4; have HX4 := zz hx4; have HR5 := zz hr5; have HX5 := zz hx5
 have HGB := zz (show gt < w5.drew.heap.size from B3.out.lt)
 clear hr4 hx4 hr5 hx5 HIN4 HIN5; refine wp_region_noPanic ?_; have HSS : Blk w5.drew gt 23 #[.int .i64 t0, .int .i64 t1, .int .i64 t2, .int .i64 t3] := B3.out; refine Rg.beginR [0] (fun w' => Blk w' gt 23 #[.int .i64 t0, .int .i64 t1, .int .i64 t2, .int .i64 t3]) (by kernel_rfl) ?_
 generalize w5.drew = wv at *
 obtain ⟨bs, hbs⟩ : ∃ g, wv.heap.size = g := ⟨_, rfl⟩; have HBS := zz hbs; rw [hbs] at HR4 HX4 HR5 HX5 HGB; clear hbs; refine Rg.ts 0 ⟨some 25, .load 23 (.tmp 4), _, _, _, none⟩ (v := .agg #[.int .i64 t0, .int .i64 t1, .int .i64 t2, .int .i64 t3]) rfl HSS ?_ ?_
 · (intro w' hSw; exact exec_load_row 23 _ rfl _ rfl hSw Try.underlying23 rfl (by kernel_rfl))
 (try simp only [Rg.lp]); refine Rg.tq 1 ⟨some 26, .move (.tmp 1), _, _, _, none⟩ rfl ?_; (try simp only [Rg.lp]); refine Rg.tq 3 ⟨some 28, .move (.tmp 2), _, _, _, none⟩ rfl ?_; (try simp only [Rg.lp]); refine Rg.or1 2 ⟨some 27, .call { callee := .builtin .append, args := #[.const (.slice none 0 0), .tmp 26], argTypes := _ }, _, _, _, none⟩ rfl ?_; refine Rg.stepS ?_; intro K hK; rw [if_pos (by rfl)]; clear HSS; refine wp_append_rd wv (.const (.slice none 0 0)) (.tmp 26) 24 rfl (base := bs) elemIns rfl (World.ownsRow_nil _ _ _ _) rfl (fun e => ⟨rd_none HR4.out e, ha4 e⟩) HR4.out (HX4.out.one HR4.out.1) (by unfold maxLen; omega) (by omega) (Nat.le_of_eq HBS.out.symm) ?_; intro A6 c6 w6 hA6 hown6 hg6; simp only [List.nil_append, Nat.zero_add] at hown6 hA6 ⊢; have hb6 : Below bs wv w6 := (Below.refl _ _).grown hg6 (Nat.le_of_eq HBS.out.symm) (fun g e => by cases e); have HO6 := zz hown6; replace B3 := zz (B3.out.below hb6 HGB.out); replace HX4 := zz (HX4.out.keep (below_cell hb6)); replace HX5 := zz (HX5.out.keep (below_cell hb6)); replace HR5 := zz (HR5.out.below hb6); have HBV := zz hb6
 have HBS2 := zz (show bs ≤ w6.heap.size by rw [← HBS.out]; exact hb6.size)
 clear hown6 hg6 hb6
 generalize wv = w0 at *
 generalize w6 = wv at *
 have HSS : Blk wv gt 23 #[.int .i64 t0, .int .i64 t1, .int .i64 t2, .int .i64 t3] := B3.out; refine hK.out _ _ HSS ?_; clear hK K; (try simp only [Rg.lp]); refine Rg.or1 4 ⟨some 29, .call { callee := .builtin .append, args := #[.tmp 27, .tmp 28], argTypes := _ }, _, _, _, none⟩ rfl ?_; refine Rg.stepS ?_; intro K hK; rw [if_pos (by rfl)]; clear HSS; refine wp_append_rd wv (.tmp 27) (.tmp 28) 24 rfl (base := bs) elemIns rfl HO6.out rfl (fun e => ⟨rd_none HR5.out e, ha5 e⟩) HR5.out (HX5.out.one HR5.out.1) (by unfold maxLen; omega) (by omega) HBS2.out ?_; intro A7 c7 w7 hA7 hown7 hg7; have hb7 : Below bs wv w7 := (Below.refl _ _).grown hg7 HBS2.out (fun g e => (HO6.out.lt g e).1); have HO7 := zz hown7; replace B3 := zz (B3.out.below hb7 HGB.out); replace HX4 := zz (HX4.out.keep (below_cell hb7)); replace HX5 := zz (HX5.out.keep (below_cell hb7)); replace HBV := zz (HBV.out.trans hb7); replace HBS2 := zz (Nat.le_trans HBS2.out hb7.size); clear hown7 hg7 hb7 HO6 HR5
 generalize wv = wp at *
 generalize w7 = wv at *
 have HSS : Blk wv gt 23 #[.int .i64 t0, .int .i64 t1, .int .i64 t2, .int .i64 t3] := B3.out; refine hK.out _ _ HSS ?_; clear hK K; (try simp only [Rg.lp]); refine Rg.or1 5 ⟨some 30, .call { callee := .value (.func 10), args := #[.tmp 25, .tmp 29], argTypes := _ }, _, _, _, none⟩ rfl ?_; refine Rg.stepF ?_ ?_
 · kernel_rfl
 intro K hK; rw [if_pos (by rfl)]; go_simp; clear HSS
 have HI7 := zz (show InsAt wv wv.heap.size A7 (ys ++ qs) from by
  refine ((HX4.out.join HX5.out HR4.out.1).more HBS2.out).shut ?_; rw [List.length_append]
  exact Rd.of_own HO7.out)
 have CB := behind_any t0 t1 t2 t3 ht A7 c7 (ys ++ qs) HGG.out wv HI7.out; rw [List.length_append] at CB; obtain ⟨NT, hNT⟩ : ∃ N, ys.length + qs.length = N := ⟨_, rfl⟩; rw [hNT] at CB ⊢; have HNT := zz hNT; refine CB.mono ?_; clear CB; rintro e w8 ⟨CA, CC, OA, OC, cc, os, rfl, hoc, hci, hoo, hri, hb⟩; have HOC := zz hoc; have HCI := zz hci; have HOO := zz hoo; have HRI := zz hri; replace HB := zz (onward (HB.out.trans (HBV.out.mono (Nat.le_of_lt HGB.out))) (Nat.le_of_eq HGT.out.symm) hb); clear hoc hci hoo hri hb HI7 HX4 HX5 HO7 B3 HR4 HBV hA7 hNT
 generalize wv = wq at *
 generalize w8 = wv at *
 refine hK.out _ _ ?_; clear hK K; (try simp only [Rg.lp]); refine Rg.tq 6 ⟨some 24, .move (.tmp 30), _, _, _, none⟩ rfl ?_; (try simp only [Rg.lp]); refine Rg.tq 7 ⟨some 31, .extract (.tmp 24) 0, _, _, _, none⟩ rfl ?_; (try simp only [Rg.lp]); refine Rg.tq 8 ⟨some 32, .extract (.tmp 24) 1, _, _, _, none⟩ rfl ?_; (try simp only [Rg.lp]); refine Rg.tq 9 ⟨some 33, .extract (.tmp 24) 2, _, _, _, none⟩ rfl ?_; (try simp only [Rg.lp]); refine Rg.tq 10 ⟨some 9, .assign (.tmp 31), _, _, _, none⟩ rfl ?_; (try simp only [Rg.lp]); refine Rg.tq 11 ⟨some 10, .assign (.tmp 32), _, _, _, none⟩ rfl ?_; (try simp only [Rg.lp]); refine Rg.tq 12 ⟨some 11, .assign (.tmp 33), _, _, _, none⟩ rfl ?_; (try simp only [Rg.lp]); refine Rg.doneR (by kernel_rfl) ?_ _; refine NoPanic.normal ?_
 go_upto_region 4 with fail
 go_wp2_with fail; refine (alive_any _).mono ?_; rintro e w6 ⟨rfl, hb⟩; replace HOC := zz (ownsRow_below HOC.out hb); replace HCI := zz (HCI.out.below hb); replace HOO := zz (ownsRow_below HOO.out hb); replace HRI := zz (HRI.out.below hb); replace HB := zz (onward HB.out (Nat.le_of_eq HGT.out.symm) hb); clear hb
 by_cases hm0 : qs.length = 0
 ·
  have hmz : ((qs.length : Int) == 0) = true := by simp [hm0]
  clear hm0; go_wp2_with fail
  go_ret
  exact ⟨rfl, by rw [HGT.out]; exact HB.out⟩
 ·
  have hmz : ((qs.length : Int) == 0) = false := by simp [hm0]
  have hml0 : 0 < qs.length := by omega
  obtain ⟨gN, hgN⟩ : ∃ g, (bN + 1) % 4 = g := ⟨_, rfl⟩
  have hg4 : gN < 4 := by omega
  have hgb : gN ≠ bN := by omega
  have hw1 : IntKind.i64.wrap ((bN : Int) + 1) = (bN : Int) + 1 := by rw [IntKind.wrap_i64]; omega
  have hq : ((bN : Int) + 1).tmod 4 = (gN : Int) := by rw [Int.tmod_eq_emod_of_nonneg (by omega)]; omega
  have hw2 : IntKind.i64.wrap (gN : Int) = (gN : Int) := by rw [IntKind.wrap_i64]; omega
  have hb0 : (0 : Int) ≤ (bN : Int) := by omega
  have hb1 : (bN : Int) < 4 := by omega
  have hg0 : (0 : Int) ≤ (gN : Int) := by omega
  have hg1 : (gN : Int) < 4 := by omega
  have hn0 : (0 : Int) ≤ (ys.length : Int) := by omega
  have hnt := HNT.out
  have hn1 : (ys.length : Int) < (NT : Int) := by omega
  have hln : ys.length < NT := by omega
  have hll : ys.length < (ys ++ qs).length := by rw [List.length_append]; omega
  clear hnt; clear hm0 hgN; obtain ⟨hrp, hrc⟩ := back_rep (t0 := t0) (t1 := t1) (t2 := t2) (t3 := t3) (ys := (ys ++ qs)) (n := ys.length) (join_right HGM.out.2 _ (Nat.le_refl _) hll); obtain ⟨RA, RC, hos, _, hrcc, hrd, _⟩ := HRI.out ys.length hln; rw [hrp] at hos hrd; obtain ⟨bo, oo, rfl, hbo, hoc⟩ := (Rd.of_own HOO.out).2 (by omega); have HYO := zz (hoc _ _ hos); obtain ⟨br, orr, rfl, hbr, hrr⟩ := hrd.2 (by omega); have HBO := zz hbo; have HBR := zz hbr; have HOK := zz ((sane_run (ys := (ys ++ qs)) ht HGG.out (ys.length + 1) hll).ok); obtain ⟨db, hdb⟩ := HOK.out bN hb4 70 (by omega); obtain ⟨dg, hdg⟩ := HOK.out gN hg4 70 (by omega)
  have HDB := zz (show w6.cell? ⟨br, orr + bN * 14 + 8, none⟩ = some (.int .i64 db) from by
   have h := hrr _ _ (hrc bN hb4 8 (by omega))
   rw [show repF ((runS t0 t1 t2 t3 (ys ++ qs) (ys.length + 1)).F bN) 8 = (runS t0 t1 t2 t3 (ys ++ qs) (ys.length + 1)).F bN 70 from rfl, hdb, ← Nat.add_assoc] at h
   exact h)
  have HDG := zz (show w6.cell? ⟨br, orr + gN * 14 + 8, none⟩ = some (.int .i64 dg) from by
   have h := hrr _ _ (hrc gN hg4 8 (by omega))
   rw [show repF ((runS t0 t1 t2 t3 (ys ++ qs) (ys.length + 1)).F gN) 8 = (runS t0 t1 t2 t3 (ys ++ qs) (ys.length + 1)).F gN 70 from rfl, hdg, ← Nat.add_assoc] at h
   exact h)
  have HD1 := zz hdb; have HD2 := zz hdg; clear hos hoc hbo hrd hrr hbr hrc hrp hdb hdg hrcc HOO HRI; obtain ⟨ba, oa, VA, VC, rfl, hba, hga, _⟩ := clus_at HOC.out HCI.out hln; have HNB := zz (clus_node hga hb4); have HNG := zz (clus_node hga hg4); have HBA := zz hba; clear hba hga; have HTB6 := zz (typI_row axB 6 ((runS t0 t1 t2 t3 (ys ++ qs) (ys.length + 1)).F bN) (typ_part (HOK.out bN (by omega)) (by kernel_rfl))); have HTG6 := zz (typI_row axB 6 ((runS t0 t1 t2 t3 (ys ++ qs) (ys.length + 1)).F gN) (typ_part (HOK.out gN (by omega)) (by kernel_rfl))); have HTB27 := zz (typI_row roB 27 ((runS t0 t1 t2 t3 (ys ++ qs) (ys.length + 1)).F bN) (typ_part (HOK.out bN (by omega)) (by kernel_rfl))); have HTG27 := zz (typI_row roB 27 ((runS t0 t1 t2 t3 (ys ++ qs) (ys.length + 1)).F gN) (typ_part (HOK.out gN (by omega)) (by kernel_rfl))); have HTD6 := zz (typed_row axB 6 ((runS t0 t1 t2 t3 (ys ++ qs) (ys.length + 1)).F bN) (typ_part (HOK.out bN hb4) (by kernel_rfl))); have HTD27 := zz (typed_row roB 27 ((runS t0 t1 t2 t3 (ys ++ qs) (ys.length + 1)).F bN) (typ_part (HOK.out bN hb4) (by kernel_rfl)))
  go_upto_region 10 with fail
  go_cut [83] (fun v wx => ∃ r : Bool, v = .bool r ∧ Below w6.heap.size w6 wx ∧ (r = false → db = dg → ∀ i, i < 21 → (runS t0 t1 t2 t3 (ys ++ qs) (ys.length + 1)).F bN (6 + i) = (runS t0 t1 t2 t3 (ys ++ qs) (ys.length + 1)).F gN (6 + i)))
  case first =>
   have hbd : Below w6.heap.size w6 w6.drew := (Below.refl _ _).drew; have HB0 := zz hbd; have HSS : BkS w6.drew ba bo br (oo + ys.length) orr RC bN gN db dg (oa + ys.length * 297) (runS t0 t1 t2 t3 (ys ++ qs) (ys.length + 1)) VA VC := ⟨⟨HYO.out, HDB.out, HDG.out⟩, HNB.out, HNG.out⟩; clear hbd; refine wp_region_noPanic ?_; obtain ⟨r, hr⟩ := bool_of (∀ i, i < 21 → (runS t0 t1 t2 t3 (ys ++ qs) (ys.length + 1)).F bN (6 + i) = (runS t0 t1 t2 t3 (ys ++ qs) (ys.length + 1)).F gN (6 + i)); have HR := zz hr; clear hr; refine Rg.beginR [3, 7, 11, 15, 25, 33] (fun w' => BkS w' ba bo br (oo + ys.length) orr RC bN gN db dg (oa + ys.length * 297) (runS t0 t1 t2 t3 (ys ++ qs) (ys.length + 1)) VA VC) (by kernel_rfl) ?_
   generalize w6.drew = wv at *
   refine Rg.tq 0 ⟨some 48, .move (.tmp 10), _, _, _, none⟩ rfl ?_; (try simp only [Rg.lp]); refine Rg.tq 1 ⟨some 49, .move (.tmp 12), _, _, _, none⟩ rfl ?_; (try simp only [Rg.lp]); refine Rg.tq 2 ⟨some 50, .indexAddr 27 (.tmp 48) (.tmp 49), _, _, _, none⟩ rfl ?_; (try simp only [Rg.lp]); refine Rg.ts 3 ⟨some 51, .load 51 (.tmp 50), _, _, _, none⟩ (v := ?_) rfl HSS ?_ ?_; rotate_left 1
   · (intro w' hSw; have hq := hSw.1.1; clear hSw; go_simp; (try with_reducible rfl))
   (try simp only [Rg.lp]); refine Rg.tq 4 ⟨some 52, .move (.tmp 3), _, _, _, none⟩ rfl ?_; (try simp only [Rg.lp]); refine Rg.tq 5 ⟨some 53, .indexAddr 51 (.tmp 51) (.tmp 52), _, _, _, none⟩ rfl ?_; (try simp only [Rg.lp]); refine Rg.tq 6 ⟨some 54, .fieldAddr 53 (.tmp 53) 4, _, _, _, none⟩ rfl ?_; (try simp only [Rg.lp]); refine Rg.ts 7 ⟨some 55, .load 3 (.tmp 54), _, _, _, none⟩ (v := ?_) rfl HSS ?_ ?_; rotate_left 1
   · (intro w' hSw; have hq := hSw.1.2.1; clear hSw; go_simp; (try with_reducible rfl))
   (try simp only [Rg.lp]); refine Rg.tq 8 ⟨some 56, .move (.tmp 10), _, _, _, none⟩ rfl ?_; (try simp only [Rg.lp]); refine Rg.tq 9 ⟨some 57, .move (.tmp 12), _, _, _, none⟩ rfl ?_; (try simp only [Rg.lp]); refine Rg.tq 10 ⟨some 58, .indexAddr 27 (.tmp 56) (.tmp 57), _, _, _, none⟩ rfl ?_; (try simp only [Rg.lp]); refine Rg.ts 11 ⟨some 59, .load 51 (.tmp 58), _, _, _, none⟩ (v := ?_) rfl HSS ?_ ?_; rotate_left 1
   · (intro w' hSw; have hq := hSw.1.1; clear hSw; go_simp; (try with_reducible rfl))
   (try simp only [Rg.lp]); refine Rg.tq 12 ⟨some 60, .move (.tmp 13), _, _, _, none⟩ rfl ?_; (try simp only [Rg.lp]); refine Rg.tq 13 ⟨some 61, .indexAddr 51 (.tmp 59) (.tmp 60), _, _, _, none⟩ rfl ?_; (try simp only [Rg.lp]); refine Rg.tq 14 ⟨some 62, .fieldAddr 53 (.tmp 61) 4, _, _, _, none⟩ rfl ?_; (try simp only [Rg.lp]); refine Rg.ts 15 ⟨some 63, .load 3 (.tmp 62), _, _, _, none⟩ (v := ?_) rfl HSS ?_ ?_; rotate_left 1
   · (intro w' hSw; have hq := hSw.1.2.2; clear hSw; go_simp; (try with_reducible rfl))
   (try simp only [Rg.lp])
   by_cases hde : db = dg
   ·
    have hdd : (db == dg) = true := by simp [hde]
    clear hde; refine Rg.tq 16 ⟨some 64, .binOp .eql 3 (.tmp 55) (.tmp 63) 3, _, _, _, none⟩ rfl ?_; (try simp only [Rg.lp]); refine Rg.tq 17 ⟨some 65, .move (.tmp 64), _, _, _, none⟩ rfl ?_; (try simp only [Rg.lp]); refine Rg.tq 18 ⟨some 66, .move (.tmp 9), _, _, _, some (17, true)⟩ rfl ?_; (try simp only [Rg.lp]); refine Rg.tq 19 ⟨some 67, .move (.tmp 12), _, _, _, some (17, true)⟩ rfl ?_; (try simp only [Rg.lp]); refine Rg.tq 20 ⟨some 68, .move (.tmp 3), _, _, _, some (17, true)⟩ rfl ?_; (try simp only [Rg.lp]); refine Rg.tq 21 ⟨some 69, .indexAddr 26 (.tmp 66) (.tmp 67), _, _, _, some (17, true)⟩ rfl ?_; (try simp only [Rg.lp]); refine Rg.tq 22 ⟨some 70, .fieldAddr 48 (.tmp 69) 1, _, _, _, some (17, true)⟩ rfl ?_; (try simp only [Rg.lp]); refine Rg.tq 23 ⟨some 71, .indexAddr 46 (.tmp 70) (.tmp 68), _, _, _, some (17, true)⟩ rfl ?_; (try simp only [Rg.lp]); refine Rg.tq 24 ⟨some 72, .fieldAddr 45 (.tmp 71) 3, _, _, _, some (17, true)⟩ rfl ?_; (try simp only [Rg.lp]); refine Rg.ts 25 ⟨some 73, .load 34 (.tmp 72), _, _, _, some (17, true)⟩ (v := .agg (row 21 fun i => (runS t0 t1 t2 t3 (ys ++ qs) (ys.length + 1)).F bN (6 + i))) rfl HSS ?_ ?_
    · (intro w' hSw; exact exec_load_mid 34 _ rfl ba (oa + ys.length * 297 + 1 + bN * 74 + 6) 21 rfl _ _ (node_sub hSw.2.1 6 21 (by omega)) Try.underlying34 rfl (by kernel_rfl))
    (try simp only [Rg.lp]); refine Rg.tq 26 ⟨some 74, .move (.tmp 9), _, _, _, some (17, true)⟩ rfl ?_; (try simp only [Rg.lp]); refine Rg.tq 27 ⟨some 75, .move (.tmp 12), _, _, _, some (17, true)⟩ rfl ?_; (try simp only [Rg.lp]); refine Rg.tq 28 ⟨some 76, .move (.tmp 13), _, _, _, some (17, true)⟩ rfl ?_; (try simp only [Rg.lp]); refine Rg.tq 29 ⟨some 77, .indexAddr 26 (.tmp 74) (.tmp 75), _, _, _, some (17, true)⟩ rfl ?_; (try simp only [Rg.lp]); refine Rg.tq 30 ⟨some 78, .fieldAddr 48 (.tmp 77) 1, _, _, _, some (17, true)⟩ rfl ?_; (try simp only [Rg.lp]); refine Rg.tq 31 ⟨some 79, .indexAddr 46 (.tmp 78) (.tmp 76), _, _, _, some (17, true)⟩ rfl ?_; (try simp only [Rg.lp]); refine Rg.tq 32 ⟨some 80, .fieldAddr 45 (.tmp 79) 3, _, _, _, some (17, true)⟩ rfl ?_; (try simp only [Rg.lp]); refine Rg.ts 33 ⟨some 81, .load 34 (.tmp 80), _, _, _, some (17, true)⟩ (v := .agg (row 21 fun i => (runS t0 t1 t2 t3 (ys ++ qs) (ys.length + 1)).F gN (6 + i))) rfl HSS ?_ ?_
    · (intro w' hSw; exact exec_load_mid 34 _ rfl ba (oa + ys.length * 297 + 1 + gN * 74 + 6) 21 rfl _ _ (node_sub hSw.2.2 6 21 (by omega)) Try.underlying34 rfl (by kernel_rfl))
    (try simp only [Rg.lp]); refine Rg.tp 34 ⟨some 82, .binOp .neq 34 (.tmp 73) (.tmp 81) 34, _, _, _, some (17, true)⟩ (v := .bool r) rfl ?_ ?_
    · (intro w; exact exec_neq_both 34 _ _ _ rfl (d := 20) (ls := axB) (by kernel_rfl) (by omega) Try.underlying34 rfl (by kernel_rfl) (by kernel_rfl) (fun i => (runS t0 t1 t2 t3 (ys ++ qs) (ys.length + 1)).F bN (6 + i)) (fun i => (runS t0 t1 t2 t3 (ys ++ qs) (ys.length + 1)).F gN (6 + i)) rfl rfl HTB6.out HTG6.out HTD6.out HR.out w)
    (try simp only [Rg.lp]); refine Rg.tq 35 ⟨some 83, .pick (.tmp 65) (.tmp 82) (.const (.bool false)), _, _, _, none⟩ rfl ?_; (try simp only [Rg.lp]); refine Rg.doneR (by kernel_rfl) ?_ _; refine NoPanic.normal ?_; clear HSS; go_wp2_with fail
    go_meet
    exact ⟨r, rfl, HB0.out, fun h _ => HR.out.1 h⟩
   ·
    have hdd : (db == dg) = false := by simp [hde]
    refine Rg.tq 16 ⟨some 64, .binOp .eql 3 (.tmp 55) (.tmp 63) 3, _, _, _, none⟩ rfl ?_; (try simp only [Rg.lp]); refine Rg.tq 17 ⟨some 65, .move (.tmp 64), _, _, _, none⟩ rfl ?_; (try simp only [Rg.lp]); refine Rg.tn 18 ⟨some 66, _, _, _, _, some (17, true)⟩ rfl ?_; (try simp only [Rg.lp]); refine Rg.tn 19 ⟨some 67, _, _, _, _, some (17, true)⟩ rfl ?_; (try simp only [Rg.lp]); refine Rg.tn 20 ⟨some 68, _, _, _, _, some (17, true)⟩ rfl ?_; (try simp only [Rg.lp]); refine Rg.tn 21 ⟨some 69, _, _, _, _, some (17, true)⟩ rfl ?_; (try simp only [Rg.lp]); refine Rg.tn 22 ⟨some 70, _, _, _, _, some (17, true)⟩ rfl ?_; (try simp only [Rg.lp]); refine Rg.tn 23 ⟨some 71, _, _, _, _, some (17, true)⟩ rfl ?_; (try simp only [Rg.lp]); refine Rg.tn 24 ⟨some 72, _, _, _, _, some (17, true)⟩ rfl ?_; (try simp only [Rg.lp]); refine Rg.tn 25 ⟨some 73, _, _, _, _, some (17, true)⟩ rfl ?_; (try simp only [Rg.lp]); refine Rg.tn 26 ⟨some 74, _, _, _, _, some (17, true)⟩ rfl ?_; (try simp only [Rg.lp]); refine Rg.tn 27 ⟨some 75, _, _, _, _, some (17, true)⟩ rfl ?_; (try simp only [Rg.lp]); refine Rg.tn 28 ⟨some 76, _, _, _, _, some (17, true)⟩ rfl ?_; (try simp only [Rg.lp]); refine Rg.tn 29 ⟨some 77, _, _, _, _, some (17, true)⟩ rfl ?_; (try simp only [Rg.lp])
    refine Rg.tn 30 ⟨some 78, _, _, _, _, some (17, true)⟩ rfl ?_; (try simp only [Rg.lp]); refine Rg.tn 31 ⟨some 79, _, _, _, _, some (17, true)⟩ rfl ?_; (try simp only [Rg.lp]); refine Rg.tn 32 ⟨some 80, _, _, _, _, some (17, true)⟩ rfl ?_; (try simp only [Rg.lp]); refine Rg.tn 33 ⟨some 81, _, _, _, _, some (17, true)⟩ rfl ?_; (try simp only [Rg.lp]); refine Rg.tn 34 ⟨some 82, _, _, _, _, some (17, true)⟩ rfl ?_; (try simp only [Rg.lp]); refine Rg.tq 35 ⟨some 83, .pick (.tmp 65) (.tmp 82) (.const (.bool false)), _, _, _, none⟩ rfl ?_; (try simp only [Rg.lp]); refine Rg.doneR (by kernel_rfl) ?_ _; refine NoPanic.normal ?_; clear HSS; go_wp2_with fail
    go_meet
    exact ⟨false, rfl, HB0.out, fun _ e => absurd e hde⟩
  case rest =>
   obtain ⟨r, rfl, hcb, hce⟩ := hcut
   cases r with
   | true =>
    clear hce; go_wp2_with fail
    go_ret
    exact ⟨rfl, by rw [HGT.out]; exact onward HB.out (Nat.le_of_eq HGT.out.symm) hcb⟩
   | false =>
   have HE6 := zz (hce rfl); clear hce
   generalize wc = w7 at *
   replace HYO := zz ((hcb.cell (p := ⟨bo, oo + ys.length, none⟩) HBO.out).trans HYO.out); replace HDB := zz ((hcb.cell (p := ⟨br, orr + bN * 14 + 8, none⟩) HBR.out).trans HDB.out); replace HDG := zz ((hcb.cell (p := ⟨br, orr + gN * 14 + 8, none⟩) HBR.out).trans HDG.out); replace HNB := zz (fun k v hv => (hcb.cell (p := ⟨ba, oa + ys.length * 297 + 1 + bN * 74 + k, none⟩) HBA.out).trans (HNB.out k v hv)); replace HNG := zz (fun k v hv => (hcb.cell (p := ⟨ba, oa + ys.length * 297 + 1 + gN * 74 + k, none⟩) HBA.out).trans (HNG.out k v hv)); replace HBO := zz (Nat.lt_of_lt_of_le HBO.out hcb.size); replace HBR := zz (Nat.lt_of_lt_of_le HBR.out hcb.size); replace HBA := zz (Nat.lt_of_lt_of_le HBA.out hcb.size); replace HOC := zz (ownsRow_below HOC.out hcb); replace HCI := zz (HCI.out.below hcb); replace HB := zz (onward HB.out (Nat.le_of_eq HGT.out.symm) hcb); clear hcb
   go_upto_region 12 with fail
   go_cut [119] (fun v wx => ∃ r : Bool, v = .bool r ∧ Below w7.heap.size w7 wx ∧ (r = false → db = dg → ∀ i, i < 12 → (runS t0 t1 t2 t3 (ys ++ qs) (ys.length + 1)).F bN (27 + i) = (runS t0 t1 t2 t3 (ys ++ qs) (ys.length + 1)).F gN (27 + i)))
   case first =>
    have hbd : Below w7.heap.size w7 w7.drew := (Below.refl _ _).drew; have HB0 := zz hbd; have HSS : BkS w7.drew ba bo br (oo + ys.length) orr RC bN gN db dg (oa + ys.length * 297) (runS t0 t1 t2 t3 (ys ++ qs) (ys.length + 1)) VA VC := ⟨⟨HYO.out, HDB.out, HDG.out⟩, HNB.out, HNG.out⟩; clear hbd; refine wp_region_noPanic ?_; obtain ⟨r, hr⟩ := bool_of (∀ i, i < 12 → (runS t0 t1 t2 t3 (ys ++ qs) (ys.length + 1)).F bN (27 + i) = (runS t0 t1 t2 t3 (ys ++ qs) (ys.length + 1)).F gN (27 + i)); have HR := zz hr; clear hr; refine Rg.beginR [3, 7, 11, 15, 25, 33] (fun w' => BkS w' ba bo br (oo + ys.length) orr RC bN gN db dg (oa + ys.length * 297) (runS t0 t1 t2 t3 (ys ++ qs) (ys.length + 1)) VA VC) (by kernel_rfl) ?_
    generalize w7.drew = wv at *
    refine Rg.tq 0 ⟨some 84, .move (.tmp 10), _, _, _, none⟩ rfl ?_; (try simp only [Rg.lp]); refine Rg.tq 1 ⟨some 85, .move (.tmp 12), _, _, _, none⟩ rfl ?_; (try simp only [Rg.lp]); refine Rg.tq 2 ⟨some 86, .indexAddr 27 (.tmp 84) (.tmp 85), _, _, _, none⟩ rfl ?_; (try simp only [Rg.lp]); refine Rg.ts 3 ⟨some 87, .load 51 (.tmp 86), _, _, _, none⟩ (v := ?_) rfl HSS ?_ ?_; rotate_left 1
    · (intro w' hSw; have hq := hSw.1.1; clear hSw; go_simp; (try with_reducible rfl))
    (try simp only [Rg.lp]); refine Rg.tq 4 ⟨some 88, .move (.tmp 3), _, _, _, none⟩ rfl ?_; (try simp only [Rg.lp]); refine Rg.tq 5 ⟨some 89, .indexAddr 51 (.tmp 87) (.tmp 88), _, _, _, none⟩ rfl ?_; (try simp only [Rg.lp]); refine Rg.tq 6 ⟨some 90, .fieldAddr 53 (.tmp 89) 4, _, _, _, none⟩ rfl ?_; (try simp only [Rg.lp]); refine Rg.ts 7 ⟨some 91, .load 3 (.tmp 90), _, _, _, none⟩ (v := ?_) rfl HSS ?_ ?_; rotate_left 1
    · (intro w' hSw; have hq := hSw.1.2.1; clear hSw; go_simp; (try with_reducible rfl))
    (try simp only [Rg.lp]); refine Rg.tq 8 ⟨some 92, .move (.tmp 10), _, _, _, none⟩ rfl ?_; (try simp only [Rg.lp]); refine Rg.tq 9 ⟨some 93, .move (.tmp 12), _, _, _, none⟩ rfl ?_; (try simp only [Rg.lp]); refine Rg.tq 10 ⟨some 94, .indexAddr 27 (.tmp 92) (.tmp 93), _, _, _, none⟩ rfl ?_; (try simp only [Rg.lp]); refine Rg.ts 11 ⟨some 95, .load 51 (.tmp 94), _, _, _, none⟩ (v := ?_) rfl HSS ?_ ?_; rotate_left 1
    · (intro w' hSw; have hq := hSw.1.1; clear hSw; go_simp; (try with_reducible rfl))
    (try simp only [Rg.lp]); refine Rg.tq 12 ⟨some 96, .move (.tmp 13), _, _, _, none⟩ rfl ?_; (try simp only [Rg.lp]); refine Rg.tq 13 ⟨some 97, .indexAddr 51 (.tmp 95) (.tmp 96), _, _, _, none⟩ rfl ?_; (try simp only [Rg.lp]); refine Rg.tq 14 ⟨some 98, .fieldAddr 53 (.tmp 97) 4, _, _, _, none⟩ rfl ?_; (try simp only [Rg.lp]); refine Rg.ts 15 ⟨some 99, .load 3 (.tmp 98), _, _, _, none⟩ (v := ?_) rfl HSS ?_ ?_; rotate_left 1
    · (intro w' hSw; have hq := hSw.1.2.2; clear hSw; go_simp; (try with_reducible rfl))
    (try simp only [Rg.lp])
    by_cases hde : db = dg
    ·
     have hdd : (db == dg) = true := by simp [hde]
     clear hde; refine Rg.tq 16 ⟨some 100, .binOp .eql 3 (.tmp 91) (.tmp 99) 3, _, _, _, none⟩ rfl ?_; (try simp only [Rg.lp]); refine Rg.tq 17 ⟨some 101, .move (.tmp 100), _, _, _, none⟩ rfl ?_; (try simp only [Rg.lp]); refine Rg.tq 18 ⟨some 102, .move (.tmp 9), _, _, _, some (17, true)⟩ rfl ?_; (try simp only [Rg.lp]); refine Rg.tq 19 ⟨some 103, .move (.tmp 12), _, _, _, some (17, true)⟩ rfl ?_; (try simp only [Rg.lp]); refine Rg.tq 20 ⟨some 104, .move (.tmp 3), _, _, _, some (17, true)⟩ rfl ?_; (try simp only [Rg.lp]); refine Rg.tq 21 ⟨some 105, .indexAddr 26 (.tmp 102) (.tmp 103), _, _, _, some (17, true)⟩ rfl ?_; (try simp only [Rg.lp]); refine Rg.tq 22 ⟨some 106, .fieldAddr 48 (.tmp 105) 1, _, _, _, some (17, true)⟩ rfl ?_; (try simp only [Rg.lp]); refine Rg.tq 23 ⟨some 107, .indexAddr 46 (.tmp 106) (.tmp 104), _, _, _, some (17, true)⟩ rfl ?_; (try simp only [Rg.lp]); refine Rg.tq 24 ⟨some 108, .fieldAddr 45 (.tmp 107) 4, _, _, _, some (17, true)⟩ rfl ?_; (try simp only [Rg.lp]); refine Rg.ts 25 ⟨some 109, .load 38 (.tmp 108), _, _, _, some (17, true)⟩ (v := .agg (row 12 fun i => (runS t0 t1 t2 t3 (ys ++ qs) (ys.length + 1)).F bN (27 + i))) rfl HSS ?_ ?_
     · (intro w' hSw; exact exec_load_mid 38 _ rfl ba (oa + ys.length * 297 + 1 + bN * 74 + 27) 12 rfl _ _ (node_sub hSw.2.1 27 12 (by omega)) Try.underlying38 rfl (by kernel_rfl))
     (try simp only [Rg.lp]); refine Rg.tq 26 ⟨some 110, .move (.tmp 9), _, _, _, some (17, true)⟩ rfl ?_; (try simp only [Rg.lp]); refine Rg.tq 27 ⟨some 111, .move (.tmp 12), _, _, _, some (17, true)⟩ rfl ?_; (try simp only [Rg.lp]); refine Rg.tq 28 ⟨some 112, .move (.tmp 13), _, _, _, some (17, true)⟩ rfl ?_; (try simp only [Rg.lp]); refine Rg.tq 29 ⟨some 113, .indexAddr 26 (.tmp 110) (.tmp 111), _, _, _, some (17, true)⟩ rfl ?_; (try simp only [Rg.lp]); refine Rg.tq 30 ⟨some 114, .fieldAddr 48 (.tmp 113) 1, _, _, _, some (17, true)⟩ rfl ?_; (try simp only [Rg.lp]); refine Rg.tq 31 ⟨some 115, .indexAddr 46 (.tmp 114) (.tmp 112), _, _, _, some (17, true)⟩ rfl ?_; (try simp only [Rg.lp]); refine Rg.tq 32 ⟨some 116, .fieldAddr 45 (.tmp 115) 4, _, _, _, some (17, true)⟩ rfl ?_; (try simp only [Rg.lp]); refine Rg.ts 33 ⟨some 117, .load 38 (.tmp 116), _, _, _, some (17, true)⟩ (v := .agg (row 12 fun i => (runS t0 t1 t2 t3 (ys ++ qs) (ys.length + 1)).F gN (27 + i))) rfl HSS ?_ ?_
     · (intro w' hSw; exact exec_load_mid 38 _ rfl ba (oa + ys.length * 297 + 1 + gN * 74 + 27) 12 rfl _ _ (node_sub hSw.2.2 27 12 (by omega)) Try.underlying38 rfl (by kernel_rfl))
     (try simp only [Rg.lp]); refine Rg.tp 34 ⟨some 118, .binOp .neq 38 (.tmp 109) (.tmp 117) 38, _, _, _, some (17, true)⟩ (v := .bool r) rfl ?_ ?_
     · (intro w; exact exec_neq_both 38 _ _ _ rfl (d := 20) (ls := roB) (by kernel_rfl) (by omega) Try.underlying38 rfl (by kernel_rfl) (by kernel_rfl) (fun i => (runS t0 t1 t2 t3 (ys ++ qs) (ys.length + 1)).F bN (27 + i)) (fun i => (runS t0 t1 t2 t3 (ys ++ qs) (ys.length + 1)).F gN (27 + i)) rfl rfl HTB27.out HTG27.out HTD27.out HR.out w)
     (try simp only [Rg.lp]); refine Rg.tq 35 ⟨some 119, .pick (.tmp 101) (.tmp 118) (.const (.bool false)), _, _, _, none⟩ rfl ?_; (try simp only [Rg.lp]); refine Rg.doneR (by kernel_rfl) ?_ _; refine NoPanic.normal ?_; clear HSS; go_wp2_with fail
     go_meet
     exact ⟨r, rfl, HB0.out, fun h _ => HR.out.1 h⟩
    ·
     have hdd : (db == dg) = false := by simp [hde]
     refine Rg.tq 16 ⟨some 100, .binOp .eql 3 (.tmp 91) (.tmp 99) 3, _, _, _, none⟩ rfl ?_; (try simp only [Rg.lp]); refine Rg.tq 17 ⟨some 101, .move (.tmp 100), _, _, _, none⟩ rfl ?_; (try simp only [Rg.lp]); refine Rg.tn 18 ⟨some 102, _, _, _, _, some (17, true)⟩ rfl ?_; (try simp only [Rg.lp]); refine Rg.tn 19 ⟨some 103, _, _, _, _, some (17, true)⟩ rfl ?_; (try simp only [Rg.lp]); refine Rg.tn 20 ⟨some 104, _, _, _, _, some (17, true)⟩ rfl ?_; (try simp only [Rg.lp]); refine Rg.tn 21 ⟨some 105, _, _, _, _, some (17, true)⟩ rfl ?_; (try simp only [Rg.lp]); refine Rg.tn 22 ⟨some 106, _, _, _, _, some (17, true)⟩ rfl ?_; (try simp only [Rg.lp]); refine Rg.tn 23 ⟨some 107, _, _, _, _, some (17, true)⟩ rfl ?_; (try simp only [Rg.lp]); refine Rg.tn 24 ⟨some 108, _, _, _, _, some (17, true)⟩ rfl ?_; (try simp only [Rg.lp]); refine Rg.tn 25 ⟨some 109, _, _, _, _, some (17, true)⟩ rfl ?_; (try simp only [Rg.lp]); refine Rg.tn 26 ⟨some 110, _, _, _, _, some (17, true)⟩ rfl ?_; (try simp only [Rg.lp]); refine Rg.tn 27 ⟨some 111, _, _, _, _, some (17, true)⟩ rfl ?_; (try simp only [Rg.lp]); refine Rg.tn 28 ⟨some 112, _, _, _, _, some (17, true)⟩ rfl ?_; (try simp only [Rg.lp]); refine Rg.tn 29 ⟨some 113, _, _, _, _, some (17, true)⟩ rfl ?_
     (try simp only [Rg.lp]); refine Rg.tn 30 ⟨some 114, _, _, _, _, some (17, true)⟩ rfl ?_; (try simp only [Rg.lp]); refine Rg.tn 31 ⟨some 115, _, _, _, _, some (17, true)⟩ rfl ?_; (try simp only [Rg.lp]); refine Rg.tn 32 ⟨some 116, _, _, _, _, some (17, true)⟩ rfl ?_; (try simp only [Rg.lp]); refine Rg.tn 33 ⟨some 117, _, _, _, _, some (17, true)⟩ rfl ?_; (try simp only [Rg.lp]); refine Rg.tn 34 ⟨some 118, _, _, _, _, some (17, true)⟩ rfl ?_; (try simp only [Rg.lp]); refine Rg.tq 35 ⟨some 119, .pick (.tmp 101) (.tmp 118) (.const (.bool false)), _, _, _, none⟩ rfl ?_; (try simp only [Rg.lp]); refine Rg.doneR (by kernel_rfl) ?_ _; refine NoPanic.normal ?_; clear HSS; go_wp2_with fail
     go_meet
     exact ⟨false, rfl, HB0.out, fun _ e => absurd e hde⟩
   case rest =>
    obtain ⟨r, rfl, hcb, hce⟩ := hcut
    cases r with
    | true =>
     clear hce; go_wp2_with fail
     go_ret
     exact ⟨rfl, by rw [HGT.out]; exact onward HB.out (Nat.le_of_eq HGT.out.symm) hcb⟩
    | false =>
    replace hce := hce rfl
    have HNE := zz (show (runS t0 t1 t2 t3 (ys ++ qs) (ys.length + 1)).F bN 70 = (runS t0 t1 t2 t3 (ys ++ qs) (ys.length + 1)).F gN 70 → ∀ j, 6 ≤ j → j < 39 → (runS t0 t1 t2 t3 (ys ++ qs) (ys.length + 1)).F bN j = (runS t0 t1 t2 t3 (ys ++ qs) (ys.length + 1)).F gN j from fun h j h1 h2 => by
     rw [HD1.out, HD2.out] at h
     injection h with _ h
     by_cases e : j < 27
     ·
      have := HE6.out h (j - 6) (by omega)
      rwa [show 6 + (j - 6) = j by omega] at this
     ·
      have := hce h (j - 27) (by omega)
      rwa [show 27 + (j - 27) = j by omega] at this)
    generalize wc = w0 at *
    replace HOC := zz (ownsRow_below HOC.out hcb); replace HCI := zz (HCI.out.below hcb); replace HB := zz (onward HB.out (Nat.le_of_eq HGT.out.symm) hcb); clear hcb hce HNB HNG HYO HDB HDG HE6 HTB6 HTG6 HTB27 HTG27 HTD6 HTD27 HBO HBR HBA HD1 HD2; go_wp2_with fail
    go_loopw [14] (fun v wr => ∃ i : Nat, ys.length ≤ i ∧ i ≤ NT ∧ v = .int .i64 (i : Int) ∧ Below w0.heap.size w0 wr) (fun v _ => NT - (intOf v).toNat)
    case atStart => exact ⟨ys.length, by omega, by have := HNT.out; omega, rfl, Below.refl _ _⟩
    case round =>
     obtain ⟨i, hi1, hi2, rfl, hbq⟩ := hrel; have HBQ := zz hbq; clear hbq
     by_cases hli : i < NT
     ·
      have hi0 : (0 : Int) ≤ (i : Int) := by omega
      have hi3 : (i : Int) < (NT : Int) := by omega
      have hnt := HNT.out; obtain ⟨k1, k2, k3⟩ := back_is ht HGG.out (ys := (ys ++ qs)) (n := ys.length) (b := bN) (g := gN) (by rw [List.length_append]; omega) hb4 (join_left HGI.out.2) (join_right HGM.out.2) hg4 hgb HNE.out (i := i) hi1 (by rw [List.length_append]; omega); have HK1 := zz k1; have HK2 := zz k2; have HK3 := zz k3; clear k1 k2 k3
      have hil : i + 1 ≤ (ys ++ qs).length := by rw [List.length_append]; omega
      have HOI := zz ((sane_run (ys := (ys ++ qs)) ht HGG.out (i + 1) hil).ok); clear hil hnt; obtain ⟨ba2, oa2, VA, VC, hce, hba, hga, _⟩ := clus_at HOC.out HCI.out hli
      cases hce
      have HRB := zz (show wr.rangeAt ba (oa + i * 297 + 1 + bN * 74) ((List.range 74).map (nodeW ((runS t0 t1 t2 t3 (ys ++ qs) (i + 1)).F bN) (.slice (VA bN) ((runS t0 t1 t2 t3 (ys ++ qs) (i + 1)).V bN).length (VC bN)))) from fun k v hv => (HBQ.out.cell (p := ⟨ba, oa + i * 297 + 1 + bN * 74 + k, none⟩) hba).trans (clus_node hga hb4 k v hv))
      have HRG := zz (show wr.rangeAt ba (oa + i * 297 + 1 + gN * 74) ((List.range 74).map (nodeW ((runS t0 t1 t2 t3 (ys ++ qs) (i + 1)).F gN) (.slice (VA gN) ((runS t0 t1 t2 t3 (ys ++ qs) (i + 1)).V gN).length (VC gN)))) from fun k v hv => (HBQ.out.cell (p := ⟨ba, oa + i * 297 + 1 + gN * 74 + k, none⟩) hba).trans (clus_node hga hg4 k v hv))
      have HBL := zz (Nat.lt_of_lt_of_le hba HBQ.out.size); clear hba hga
      go_upto_region 17 with fail
      go_cut [15, 16] (fun p q wx => ∃ g15 g16, p = .pointer (some ⟨g15, 0, none⟩) ∧ q = .pointer (some ⟨g16, 0, none⟩) ∧ Blk wx g15 45 (row 74 (nodeW ((runS t0 t1 t2 t3 (ys ++ qs) (i + 1)).F bN) (.slice (VA bN) ((runS t0 t1 t2 t3 (ys ++ qs) (i + 1)).V bN).length (VC bN)))) ∧ Blk wx g16 45 (row 74 (nodeW ((runS t0 t1 t2 t3 (ys ++ qs) (i + 1)).F gN) (.slice (VA gN) ((runS t0 t1 t2 t3 (ys ++ qs) (i + 1)).V gN).length (VC gN)))) ∧ Below wr.heap.size wr wx)
      case first =>
       have iz : ∀ R : Array Value, R.size = 74 → (Try.prog.info? 45).map (·.size) = some R.size ∧ (Try.zeroCells45).size = R.size := fun R h => by rw [h]; exact ⟨by kernel_rfl, by kernel_rfl⟩
       have y15 := row_size 74 (nodeW ((runS t0 t1 t2 t3 (ys ++ qs) (i + 1)).F bN) (.slice (VA bN) ((runS t0 t1 t2 t3 (ys ++ qs) (i + 1)).V bN).length (VC bN))); have o15 := one_of (HOI.out bN hb4) (A := VA bN) (n := ((runS t0 t1 t2 t3 (ys ++ qs) (i + 1)).V bN).length) (c := VC bN); have y16 := row_size 74 (nodeW ((runS t0 t1 t2 t3 (ys ++ qs) (i + 1)).F gN) (.slice (VA gN) ((runS t0 t1 t2 t3 (ys ++ qs) (i + 1)).V gN).length (VC gN))); have o16 := one_of (HOI.out gN hg4) (A := VA gN) (n := ((runS t0 t1 t2 t3 (ys ++ qs) (i + 1)).V gN).length) (c := VC gN); obtain ⟨R15, h15⟩ : ∃ R, (row 74 (nodeW ((runS t0 t1 t2 t3 (ys ++ qs) (i + 1)).F bN) (.slice (VA bN) ((runS t0 t1 t2 t3 (ys ++ qs) (i + 1)).V bN).length (VC bN)))) = R := ⟨_, rfl⟩; rw [h15] at y15 o15; obtain ⟨R16, h16⟩ : ∃ R, (row 74 (nodeW ((runS t0 t1 t2 t3 (ys ++ qs) (i + 1)).F gN) (.slice (VA gN) ((runS t0 t1 t2 t3 (ys ++ qs) (i + 1)).V gN).length (VC gN)))) = R := ⟨_, rfl⟩; rw [h16] at y16 o16; have H15 := zz h15; have H16 := zz h16; clear h15 h16; have hbd : Below wr.heap.size wr wr.drew := (Below.refl _ _).drew; replace HBQ := zz hbd; clear hbd; refine wp_region_noPanic ?_; refine Rg.beginR [6, 13] (Below wr.heap.size wr) (by kernel_rfl) ?_
       generalize wr.drew = wv at *
       refine Rg.tq 0 ⟨some 127, .move (.tmp 9), _, _, _, none⟩ rfl ?_; (try simp only [Rg.lp]); refine Rg.tq 1 ⟨some 128, .move (.tmp 14), _, _, _, none⟩ rfl ?_; (try simp only [Rg.lp]); refine Rg.tq 2 ⟨some 129, .move (.tmp 3), _, _, _, none⟩ rfl ?_; (try simp only [Rg.lp]); refine Rg.tq 3 ⟨some 130, .indexAddr 26 (.tmp 127) (.tmp 128), _, _, _, none⟩ rfl ?_; (try simp only [Rg.lp]); refine Rg.tq 4 ⟨some 131, .fieldAddr 48 (.tmp 130) 1, _, _, _, none⟩ rfl ?_; (try simp only [Rg.lp]); refine Rg.tq 5 ⟨some 132, .indexAddr 46 (.tmp 131) (.tmp 129), _, _, _, none⟩ rfl ?_; (try simp only [Rg.lp]); refine Rg.ts 6 ⟨some 133, .load 45 (.tmp 132), _, _, _, none⟩ (v := .agg R15) rfl HBQ.out ?_ ?_
       · (intro w' hSw; rw [← H15.out]; exact exec_load_mid 45 _ rfl ba (oa + i * 297 + 1 + bN * 74) 74 rfl _ _ (fun k v hv => (hSw.cell (p := ⟨ba, _, none⟩) HBL.out).trans (HRB.out k v hv)) Try.underlying45 rfl (by kernel_rfl))
       (try simp only [Rg.lp]); refine Rg.tq 7 ⟨some 134, .move (.tmp 9), _, _, _, none⟩ rfl ?_; (try simp only [Rg.lp]); refine Rg.tq 8 ⟨some 135, .move (.tmp 14), _, _, _, none⟩ rfl ?_; (try simp only [Rg.lp]); refine Rg.tq 9 ⟨some 136, .move (.tmp 13), _, _, _, none⟩ rfl ?_; (try simp only [Rg.lp]); refine Rg.tq 10 ⟨some 137, .indexAddr 26 (.tmp 134) (.tmp 135), _, _, _, none⟩ rfl ?_; (try simp only [Rg.lp]); refine Rg.tq 11 ⟨some 138, .fieldAddr 48 (.tmp 137) 1, _, _, _, none⟩ rfl ?_; (try simp only [Rg.lp]); refine Rg.tq 12 ⟨some 139, .indexAddr 46 (.tmp 138) (.tmp 136), _, _, _, none⟩ rfl ?_; (try simp only [Rg.lp]); refine Rg.ts 13 ⟨some 140, .load 45 (.tmp 139), _, _, _, none⟩ (v := .agg R16) rfl HBQ.out ?_ ?_
       · (intro w' hSw; rw [← H16.out]; exact exec_load_mid 45 _ rfl ba (oa + i * 297 + 1 + gN * 74) 74 rfl _ _ (fun k v hv => (hSw.cell (p := ⟨ba, _, none⟩) HBL.out).trans (HRG.out k v hv)) Try.underlying45 rfl (by kernel_rfl))
       (try simp only [Rg.lp]); refine Rg.twoR (i := 14) (j := 15) (oi := ⟨some 15, .alloc 45, _, _, _, none⟩) (oj := ⟨some 16, .alloc 45, _, _, _, none⟩) (by kernel_rfl) rfl rfl ?_ ?_
       ·
        refine Rg.stepS ?_; intro K hK; go_simp; have hb : Below wv.heap.size wv (wv.alloc (.cells Try.zeroCells45 45)) := (Below.refl _ _).alloc (Nat.le_refl _) _
        have B15 := zz (show Blk (wv.alloc (.cells Try.zeroCells45 45)) wv.heap.size 45 Try.zeroCells45 from Blk.fresh _ _ _)
        have HG15 := zz (show wr.heap.size ≤ wv.heap.size from HBQ.out.size)
        replace HBQ := zz (onward HBQ.out (Nat.le_refl _) hb); clear hb; obtain ⟨g15, hg15⟩ : ∃ g, wv.heap.size = g := ⟨_, rfl⟩; rw [hg15] at B15 HG15 ⊢; clear hg15
        generalize (wv.alloc (.cells Try.zeroCells45 45)) = wv at *
        refine hK.out _ _ HBQ.out ?_; clear hK K; (try simp only [Rg.lp]); refine Rg.or1 15 ⟨some 16, .alloc 45, _, _, _, none⟩ rfl ?_; refine Rg.stepS ?_; intro K hK; go_simp; have hb : Below wv.heap.size wv (wv.alloc (.cells Try.zeroCells45 45)) := (Below.refl _ _).alloc (Nat.le_refl _) _
        have B16 := zz (show Blk (wv.alloc (.cells Try.zeroCells45 45)) wv.heap.size 45 Try.zeroCells45 from Blk.fresh _ _ _)
        have HG16 := zz (show wr.heap.size ≤ wv.heap.size from HBQ.out.size)
        have HNN := zz (show g15 ≠ wv.heap.size from Nat.ne_of_lt B15.out.lt)
        replace B15 := zz (B15.out.below hb B15.out.lt); replace HBQ := zz (onward HBQ.out (Nat.le_refl _) hb); clear hb; obtain ⟨g16, hg16⟩ : ∃ g, wv.heap.size = g := ⟨_, rfl⟩; rw [hg16] at B16 HG16 HNN ⊢; clear hg16
        generalize (wv.alloc (.cells Try.zeroCells45 45)) = wv at *
        refine hK.out _ _ HBQ.out ?_; clear hK K; (try simp only [Rg.lp]); refine Rg.or1 16 ⟨none, .store 45 (.tmp 15) (.tmp 133), _, _, _, none⟩ rfl ?_; refine Rg.stepS ?_; intro K hK; rw [if_pos (by rfl)]; refine wp_store_row 45 _ _ rfl g15 R15 rfl rfl 45 _ B15.out (iz R15 y15).1 (iz R15 y15).2 o15 ?_; replace B15 := zz (B15.out.setRow R15); replace B16 := zz (B16.out.setRow_other (by first | exact HNN.out | exact HNN.out.symm) R15); replace HBQ := zz (below_setRow HBQ.out HG15.out R15)
        generalize (wv.setRow g15 R15) = wv at *
        refine hK.out _ _ HBQ.out ?_; clear hK K; (try simp only [Rg.lp]); refine Rg.or1 17 ⟨none, .store 45 (.tmp 16) (.tmp 140), _, _, _, none⟩ rfl ?_; refine Rg.stepF ?_ ?_
        · kernel_rfl
        intro K hK; rw [if_pos (by rfl)]; refine wp_store_row 45 _ _ rfl g16 R16 rfl rfl 45 _ B16.out (iz R16 y16).1 (iz R16 y16).2 o16 ?_; replace B16 := zz (B16.out.setRow R16); replace B15 := zz (B15.out.setRow_other (by first | exact HNN.out | exact HNN.out.symm) R16); replace HBQ := zz (below_setRow HBQ.out HG16.out R16)
        generalize (wv.setRow g16 R16) = wv at *
        refine hK.out _ _ ?_; clear hK K; (try simp only [Rg.lp]); refine Rg.doneR (by kernel_rfl) ?_ _; refine NoPanic.normal ?_; go_wp2_with fail
        go_meet
        exact ⟨g15, g16, rfl, rfl, by rw [H15.out]; exact B15.out, by rw [H16.out]; exact B16.out, HBQ.out⟩
       ·
        refine Rg.stepS ?_; intro K hK; go_simp; have hb : Below wv.heap.size wv (wv.alloc (.cells Try.zeroCells45 45)) := (Below.refl _ _).alloc (Nat.le_refl _) _
        have B16 := zz (show Blk (wv.alloc (.cells Try.zeroCells45 45)) wv.heap.size 45 Try.zeroCells45 from Blk.fresh _ _ _)
        have HG16 := zz (show wr.heap.size ≤ wv.heap.size from HBQ.out.size)
        replace HBQ := zz (onward HBQ.out (Nat.le_refl _) hb); clear hb; obtain ⟨g16, hg16⟩ : ∃ g, wv.heap.size = g := ⟨_, rfl⟩; rw [hg16] at B16 HG16 ⊢; clear hg16
        generalize (wv.alloc (.cells Try.zeroCells45 45)) = wv at *
        refine hK.out _ _ HBQ.out ?_; clear hK K; (try simp only [Rg.lp]); refine Rg.or1 14 ⟨some 15, .alloc 45, _, _, _, none⟩ rfl ?_; refine Rg.stepS ?_; intro K hK; go_simp; have hb : Below wv.heap.size wv (wv.alloc (.cells Try.zeroCells45 45)) := (Below.refl _ _).alloc (Nat.le_refl _) _
        have B15 := zz (show Blk (wv.alloc (.cells Try.zeroCells45 45)) wv.heap.size 45 Try.zeroCells45 from Blk.fresh _ _ _)
        have HG15 := zz (show wr.heap.size ≤ wv.heap.size from HBQ.out.size)
        have HNN := zz (show g16 ≠ wv.heap.size from Nat.ne_of_lt B16.out.lt)
        replace B16 := zz (B16.out.below hb B16.out.lt); replace HBQ := zz (onward HBQ.out (Nat.le_refl _) hb); clear hb; obtain ⟨g15, hg15⟩ : ∃ g, wv.heap.size = g := ⟨_, rfl⟩; rw [hg15] at B15 HG15 HNN ⊢; clear hg15
        generalize (wv.alloc (.cells Try.zeroCells45 45)) = wv at *
        refine hK.out _ _ HBQ.out ?_; clear hK K; (try simp only [Rg.lp]); refine Rg.or1 16 ⟨none, .store 45 (.tmp 15) (.tmp 133), _, _, _, none⟩ rfl ?_; refine Rg.stepS ?_; intro K hK; rw [if_pos (by rfl)]; refine wp_store_row 45 _ _ rfl g15 R15 rfl rfl 45 _ B15.out (iz R15 y15).1 (iz R15 y15).2 o15 ?_; replace B15 := zz (B15.out.setRow R15); replace B16 := zz (B16.out.setRow_other (by first | exact HNN.out | exact HNN.out.symm) R15); replace HBQ := zz (below_setRow HBQ.out HG15.out R15)
        generalize (wv.setRow g15 R15) = wv at *
        refine hK.out _ _ HBQ.out ?_; clear hK K; (try simp only [Rg.lp]); refine Rg.or1 17 ⟨none, .store 45 (.tmp 16) (.tmp 140), _, _, _, none⟩ rfl ?_; refine Rg.stepF ?_ ?_
        · kernel_rfl
        intro K hK; rw [if_pos (by rfl)]; refine wp_store_row 45 _ _ rfl g16 R16 rfl rfl 45 _ B16.out (iz R16 y16).1 (iz R16 y16).2 o16 ?_; replace B16 := zz (B16.out.setRow R16); replace B15 := zz (B15.out.setRow_other (by first | exact HNN.out | exact HNN.out.symm) R16); replace HBQ := zz (below_setRow HBQ.out HG16.out R16)
        generalize (wv.setRow g16 R16) = wv at *
        refine hK.out _ _ ?_; clear hK K; (try simp only [Rg.lp]); refine Rg.doneR (by kernel_rfl) ?_ _; refine NoPanic.normal ?_; go_wp2_with fail
        go_meet
        exact ⟨g15, g16, rfl, rfl, by rw [H15.out]; exact B15.out, by rw [H16.out]; exact B16.out, HBQ.out⟩
      case rest =>
       obtain ⟨g15, g16, rfl, rfl, hb15, hb16, hbx⟩ := hcut; have B15 := zz hb15; have B16 := zz hb16; replace HBQ := zz (onward HBQ.out (Nat.le_refl _) hbx); clear hb15 hb16 hbx HRB HRG HBL; have e6 : (row 21 fun j => (runS t0 t1 t2 t3 (ys ++ qs) (i + 1)).F gN (6 + j)) = row 21 fun j => (runS t0 t1 t2 t3 (ys ++ qs) (i + 1)).F bN (6 + j) := row_congr fun j hj => (HK1.out (6 + j) (by omega) (by omega)).symm; have e27 : (row 12 fun j => (runS t0 t1 t2 t3 (ys ++ qs) (i + 1)).F gN (27 + j)) = row 12 fun j => (runS t0 t1 t2 t3 (ys ++ qs) (i + 1)).F bN (27 + j) := row_congr fun j hj => (HK1.out (27 + j) (by omega) (by omega)).symm; have HT6 := zz (typed_row axB 6 ((runS t0 t1 t2 t3 (ys ++ qs) (i + 1)).F bN) (typ_part (HOI.out bN hb4) (by kernel_rfl))); have HT27 := zz (typed_row roB 27 ((runS t0 t1 t2 t3 (ys ++ qs) (i + 1)).F bN) (typ_part (HOI.out bN hb4) (by kernel_rfl))); obtain ⟨n70, h70⟩ := HOI.out bN hb4 70 (by omega); obtain ⟨m70, h71⟩ := HOI.out gN hg4 70 (by omega); have y70 := B15.out.cell 70
       rw [row_at (by omega), show nodeW ((runS t0 t1 t2 t3 (ys ++ qs) (i + 1)).F bN) (.slice (VA bN) ((runS t0 t1 t2 t3 (ys ++ qs) (i + 1)).V bN).length (VC bN)) 70 = (runS t0 t1 t2 t3 (ys ++ qs) (i + 1)).F bN 70 from rfl, h70] at y70
       have y71 := B16.out.cell 70
       rw [row_at (by omega), show nodeW ((runS t0 t1 t2 t3 (ys ++ qs) (i + 1)).F gN) (.slice (VA gN) ((runS t0 t1 t2 t3 (ys ++ qs) (i + 1)).V gN).length (VC gN)) 70 = (runS t0 t1 t2 t3 (ys ++ qs) (i + 1)).F gN 70 from rfl, h71] at y71
       have HK4 := zz (show ys.length < i → n70 = m70 from fun h => by
        have := HK2.out h; rw [h70, h71] at this
        injection this)
       clear h70 h71; obtain ⟨n3, hn3⟩ : ∃ k : Nat, ys.length + 3 = k := ⟨_, rfl⟩; have hnt := HNT.out
       have hw3 : IntKind.i64.wrap ((ys.length : Int) + 3) = (n3 : Int) := by rw [IntKind.wrap_i64]; omega
       have hwi : IntKind.i64.wrap ((i : Int) + 1) = ((i + 1 : Nat) : Int) := by rw [IntKind.wrap_i64]; omega
       have HN3 := zz hn3; clear hnt hn3
       go_upto_region 18 with fail
       refine wp_region_list ?_; simp only [List.cons_append, List.nil_append, List.append_eq]
       iterate 1 (refine wpList_wanted (by rfl) (fun K hK => ?_); go_simp; refine hK _ _ ?_; clear hK K; try simp only [Rg.lp])
       refine wpList_part (by rfl) 34 _ rfl g15 6 21 rfl B15.out (by omega) _ Try.underlying34 rfl (by kernel_rfl) ?_; (try simp only [Rg.lp])
       iterate 1 (refine wpList_wanted (by rfl) (fun K hK => ?_); go_simp; refine hK _ _ ?_; clear hK K; try simp only [Rg.lp])
       refine wpList_part (by rfl) 34 _ rfl g16 6 21 rfl B16.out (by omega) _ Try.underlying34 rfl (by kernel_rfl) ?_; rw [e6]; (try simp only [Rg.lp]); refine wpList_neq (by rfl) 34 _ _ _ rfl (d := 20) (ls := axB) (by kernel_rfl) (by omega) Try.underlying34 rfl (by kernel_rfl) (by kernel_rfl) (fun j => (runS t0 t1 t2 t3 (ys ++ qs) (i + 1)).F bN (6 + j)) rfl rfl HT6.out ?_; (try simp only [Rg.lp])
       iterate 2 (refine wpList_wanted (by rfl) (fun K hK => ?_); go_simp; refine hK _ _ ?_; clear hK K; try simp only [Rg.lp])
       refine wpList_part (by rfl) 38 _ rfl g15 27 12 rfl B15.out (by omega) _ Try.underlying38 rfl (by kernel_rfl) ?_; (try simp only [Rg.lp])
       iterate 1 (refine wpList_wanted (by rfl) (fun K hK => ?_); go_simp; refine hK _ _ ?_; clear hK K; try simp only [Rg.lp])
       refine wpList_part (by rfl) 38 _ rfl g16 27 12 rfl B16.out (by omega) _ Try.underlying38 rfl (by kernel_rfl) ?_; rw [e27]; (try simp only [Rg.lp]); refine wpList_neq (by rfl) 38 _ _ _ rfl (d := 20) (ls := roB) (by kernel_rfl) (by omega) Try.underlying38 rfl (by kernel_rfl) (by kernel_rfl) (fun j => (runS t0 t1 t2 t3 (ys ++ qs) (i + 1)).F bN (27 + j)) rfl rfl HT27.out ?_; (try simp only [Rg.lp])
       iterate 4 (refine wpList_wanted (by rfl) (fun K hK => ?_); go_simp; refine hK _ _ ?_; clear hK K; try simp only [Rg.lp])
       by_cases hni : ys.length < i
       ·
        have hdn : decide ((ys.length : Int) < (i : Int)) = true := decide_eq_true (by omega); have hdn2 : decide (ys.length < i) = true := decide_eq_true hni; have h7 := HK4.out hni; subst h7; clear hni
        iterate 9 (refine wpList_wanted (by rfl) (fun K hK => ?_); go_simp; refine hK _ _ ?_; clear hK K; try simp only [Rg.lp])
        clear y70 y71
        by_cases h3 : n3 ≤ i
        ·
         have hge : decide ((n3 : Int) ≤ (i : Int)) = true := decide_eq_true (by omega); have hge2 : decide (n3 ≤ i) = true := decide_eq_true h3; have hin4 : (row 4 fun j => (runS t0 t1 t2 t3 (ys ++ qs) (i + 1)).F gN (27 + j)) = row 4 fun _ => .bool true := row_congr fun j hj => HK3.out (by rw [HN3.out]; exact h3) j hj
         go_upto_region 20 with fail
         refine wp_region_list ?_; simp only [List.cons_append, List.nil_append, List.append_eq]
         iterate 7 (refine wpList_wanted (by rfl) (fun K hK => ?_); go_simp; refine hK _ _ ?_; clear hK K; try simp only [Rg.lp])
         refine wpList_part (by rfl) 35 _ rfl g16 27 4 rfl B16.out (by omega) _ Try.underlying35 rfl (by kernel_rfl) ?_; rw [hin4]; (try simp only [Rg.lp])
         iterate 1 (refine wpList_wanted (by rfl) (fun K hK => ?_); go_simp; refine hK _ _ ?_; clear hK K; try simp only [Rg.lp])
         refine wpList_neq (by rfl) 35 _ _ _ rfl (d := 20) (ls := [false, false, false, false]) (by kernel_rfl) (by omega) Try.underlying35 rfl (by kernel_rfl) (by kernel_rfl) (fun _ => .bool true) rfl rfl ⟨⟨_, rfl⟩, ⟨_, rfl⟩, ⟨_, rfl⟩, ⟨_, rfl⟩, trivial⟩ ?_; (try simp only [Rg.lp])
         iterate 1 (refine wpList_wanted (by rfl) (fun K hK => ?_); go_simp; refine hK _ _ ?_; clear hK K; try simp only [Rg.lp])
         go_wp2_with fail; exact ⟨⟨i + 1, by omega, by omega, by go_num, HBQ.out⟩, by simp [intOf]; omega⟩
        ·
         have hge : decide ((n3 : Int) ≤ (i : Int)) = false := decide_eq_false (by omega); have hge2 : decide (n3 ≤ i) = false := decide_eq_false h3; clear h3; go_wp2_with fail; exact ⟨⟨i + 1, by omega, by omega, by go_num, HBQ.out⟩, by simp [intOf]; omega⟩
       ·
        have hdn : decide ((ys.length : Int) < (i : Int)) = false := decide_eq_false (by omega); have hdn2 : decide (ys.length < i) = false := decide_eq_false hni; have hge : decide ((n3 : Int) ≤ (i : Int)) = false := decide_eq_false (by have := HN3.out; omega); have hge2 : decide (n3 ≤ i) = false := decide_eq_false (by have := HN3.out; omega); clear hni
        iterate 2 (refine wpList_wanted (by rfl) (fun K hK => ?_); go_simp; refine hK _ _ ?_; clear hK K; try simp only [Rg.lp])
        clear y70 y71; go_wp2_with fail; exact ⟨⟨i + 1, by omega, by omega, by go_num, HBQ.out⟩, by simp [intOf]; omega⟩
     ·
      obtain rfl : i = NT := by omega
      go_wp2_with fail
      go_ret
      exact ⟨rfl, by rw [HGT.out]; exact onward HB.out (Nat.le_of_eq HGT.out.symm) HBQ.out⟩
set_option maxRecDepth 100000 in
set_option maxHeartbeats 1000000 in
theorem lifted (os : Os) (started : os.Started) (H : Type) (enc : TypeId × Value → H) :
  ReturnsInHanded {} Try.checked os 7 .any (Rows.topBackSpec.pre6 enc Try.prog Try.f7 Rows.topBackRow.domain false) (Rows.topBackSpec.post enc Try.prog Try.f7 false true false false) := by
 refine returnsInHanded_of_change_sized (C := Try.checked) Fr.own started (by kernel_rfl) Try.func7
  (ChangeSpec.witness6 (enc := enc) (C := Try.checked) false ⟨#[], #[.agg #[.int .i64 0, .int .i64 0, .int .i64 0, .int .i64 0], .slice none 0 0, .slice none 0 0, .int .i64 0], []⟩ 8 (by kernel_rfl) (by kernel_rfl) (by kernel_rfl) (by kernel_rfl)) ?_
 intro W base args ds gs before hval0 hW _ hsz0 _; have hval : ∀ (j : Nat) t v, Try.f7.params[j]? = some t → args[j]? = some v → Value.okWide Try.prog W .any base t v := hval0; have hsz : (DataW.weightsEach Try.prog (Try.f7.params.toList ++ Rows.topBackSpec.plain.varTypes Try.prog) (ds ++ gs)).all (· ≤ reachBytes) = true := hsz0; clear hval0 hsz0; obtain ⟨p, q, hA0, hV0, _⟩ := id hW; have hA : DataW.TrodAll enc Try.prog W 0 (fun _ => true) true Try.f7.params.toList args.toList ds p := hA0; rw [Try.params7] at hA hval hsz; obtain ⟨v0, vs0, d0, ds0, p0, q0, hargs, rfl, rfl, h0, r0⟩ := trodAll_cons hA; obtain ⟨v1, vs1, d1, ds1, p1, q1, rfl, rfl, rfl, h1, r1⟩ := trodAll_cons r0; obtain ⟨v2, vs2, d2, ds2, p2, q2, rfl, rfl, rfl, h2, r2⟩ := trodAll_cons r1; obtain ⟨v3, vs3, d3, ds3, p3, q3, rfl, rfl, rfl, h3, r3⟩ := trodAll_cons r2; obtain ⟨rfl, rfl, rfl⟩ := trodAll_nil r3
 obtain rfl : args = #[v0, v1, v2, v3] := by cases args; simp_all
 obtain ⟨rfl, rfl⟩ := trodVars_none hV0
 refine Fr.of_walk (f := Try.f7) Fr.laidOut (by rw [Try.params7]; intro t ht; simp at ht; (first | (rcases ht with rfl | rfl | rfl | rfl | rfl | rfl) | (rcases ht with rfl | rfl | rfl | rfl | rfl) | (rcases ht with rfl | rfl | rfl | rfl) | (rcases ht with rfl | rfl | rfl) | (rcases ht with rfl | rfl) | (subst ht)) <;> exact ⟨by kernel_rfl, of_decide_eq_true (by kernel_rfl)⟩) rfl rfl Try.underlying4 (fun _ => rfl) hW ?_
 clear hW hA hA0 hV0; obtain ⟨cs0, rfl⟩ := Op.okWide_agg (t := 23) (by kernel_rfl) (hval 0 23 v0 rfl rfl); have k0 := Op.flat_arg (ls := [3,3,3,3]) (by kernel_rfl) h0 (Op.light_of_each (j := 0) hsz rfl rfl); obtain ⟨y0_0, l0, e0, f0_0, k0⟩ := k0.cons; obtain ⟨y0_1, l0, rfl, f0_1, k0⟩ := k0.cons; obtain ⟨y0_2, l0, rfl, f0_2, k0⟩ := k0.cons; obtain ⟨y0_3, l0, rfl, f0_3, k0⟩ := k0.cons; obtain rfl := k0.nil_; obtain rfl := Op.arr_of e0; obtain ⟨t0, rfl, wf_t0⟩ := f0_0.int Try.underlying3; obtain ⟨t1, rfl, wf_t1⟩ := f0_1.int Try.underlying3; obtain ⟨t2, rfl, wf_t2⟩ := f0_2.int Try.underlying3; obtain ⟨t3, rfl, wf_t3⟩ := f0_3.int Try.underlying3; obtain ⟨AI, ci, xs, rfl, hxc, hxb, _, hxs, hxw⟩ := Cf.openInputs (hval 1 24 v1 rfl rfl) h1 (Op.light_of_each (j := 1) hsz rfl rfl); obtain ⟨AM, cm, ms, rfl, hmc, hmb, _, hms, hmw⟩ := Cf.openInputs (hval 2 24 v2 rfl rfl) h2 (Op.light_of_each (j := 2) hsz rfl rfl); obtain ⟨bad, rfl, rfl, rfl, wf_bad⟩ := open_int Try.underlying3 (hval 3 3 v3 rfl rfl) h3; have bd_bad := Op.wf_i64 wf_bad; exact walk t0 t1 t2 t3 ⟨wf_t0, wf_t1, wf_t2, wf_t3⟩ AI ci xs (by omega) (fun x hx => (hxw x hx).1) AM cm ms (by omega) (fun x hx => (hmw x hx).1) bad bd_bad W hxs hms
set_option maxHeartbeats 2000000 in
theorem closedFacts : joinedFacts Try.prog 7 Try.f7 Rows.topBackSpec Rows.topBackRow = true := by
 unfold joinedFacts
 simp only [Bool.and_eq_true]; refine ⟨⟨⟨⟨⟨⟨⟨⟨⟨⟨⟨⟨⟨⟨⟨⟨⟨⟨⟨⟨⟨⟨⟨⟨⟨⟨⟨⟨⟨⟨⟨?_, ?_⟩, ?_⟩, ?_⟩, ?_⟩, ?_⟩, ?_⟩, ?_⟩, ?_⟩, ?_⟩, ?_⟩, ?_⟩, ?_⟩, ?_⟩, ?_⟩, ?_⟩, ?_⟩, ?_⟩, ?_⟩, ?_⟩, ?_⟩, ?_⟩, ?_⟩, ?_⟩, ?_⟩, ?_⟩, ?_⟩, ?_⟩, ?_⟩, ?_⟩, ?_⟩, ?_⟩
 · as_aux_lemma => kernel_rfl
 · exact Fr.laidOut
 · exact Facts.mapsRowed_
 · as_aux_lemma => kernel_rfl
 · as_aux_lemma => kernel_rfl
 · as_aux_lemma => kernel_rfl
 · exact Facts.stops_
 · as_aux_lemma => kernel_rfl
 · exact Facts.knobs_
 · as_aux_lemma => kernel_rfl
 · as_aux_lemma => kernel_rfl
 · as_aux_lemma => kernel_rfl
 · as_aux_lemma => kernel_rfl
 · as_aux_lemma => kernel_rfl
 · as_aux_lemma => kernel_rfl
 · as_aux_lemma => kernel_rfl
 · as_aux_lemma => kernel_rfl
 · as_aux_lemma => kernel_rfl
 · as_aux_lemma => kernel_rfl
 · as_aux_lemma => kernel_rfl
 · as_aux_lemma => kernel_rfl
 · as_aux_lemma => kernel_rfl
 · exact Facts.keys_
 · as_aux_lemma => kernel_rfl
 · exact Facts.heard_
 · exact Facts.enter_
 · exact Facts.lifts_
 · exact Facts.make_
 · as_aux_lemma => kernel_rfl
 · as_aux_lemma => kernel_rfl
 · as_aux_lemma => kernel_rfl
 · as_aux_lemma => kernel_rfl
theorem proved : Rows.TopBackSaid :=
 OpenClaim.holds_of_wide 7 Try.f7 rfl rfl rfl rfl rfl rfl rfl ⟨rfl, rfl, rfl, rfl, rfl⟩ rfl rfl rfl rfl rfl (by kernel_rfl) Try.func7 closedFacts
  (of_decide_eq_true (by kernel_rfl)) (by unfold Func.isWrapper; first | (rw [if_pos (by decide +kernel)]; kernel_rfl) | (rw [if_neg (by decide +kernel)]; exact ⟨rfl, rfl⟩))
  (fun os started H enc _ => lifted os started H enc)
end lawTopBack
end Go.Proofs.Ytobigbnmbnhikaa
