/- The law TopNoise returns true: of what the faulty computer sends only the first message that fits, of each phase to each other one, makes any difference. Conditions: none. -/
import Derived.Test.YtobigbnmbnhikaaPb0
import Derived.Test.YtobigbnmbnhikaaPbc30
import Derived.WideKeyPair
import Derived.WideKeyEntry
set_option linter.unusedVariables false
set_option linter.unusedSimpArgs false
namespace Go.Proofs.Ytobigbnmbnhikaa
namespace Op
open Go.ChangeShapes Go.WideShapes Go.ChangeAt Go.RowKit Mem
section
variable {H : Type} {enc : TypeId × Value → H} {P : Program} {w : World} {base : Nat} {spare : Nat → Bool} {held : Bool}
theorem light_of_each {ts : List TypeId} {ds : List (DataW H)} (h : (DataW.weightsEach P ts ds).all (· ≤ reachBytes) = true) {j : Nat} {t : TypeId} {d : DataW H} (ht : ts[j]? = some t) (hd : ds[j]? = some d) : Light P t d :=
 fun k hk => by simpa using List.all_eq_true.1 h _ (DataW.weights_mem_each ht hd k hk)
theorem flat_arg {t : TypeId} {ls : List TypeId} {v : Value} {d : DataW H} {ps : List MemPlace} (hl : leaves P 20 t = some ls) (h : DataW.Trod enc P w base spare held t v d ps) (hlt : Light P t d) : Cells enc P w base spare held ls v.cells.toList := by
 obtain ⟨n, hn⟩ := h; exact flat 20 t ls hl n _ _ hn hlt
theorem okWide_agg {r : Reach} {b0 : Nat} {t : TypeId} {v : Value} (hs : (match P.underlying t with | some (.struct _) | some (.array _ _) => true | _ => false) = true) (hv : Value.okWide P w r b0 t v) : ∃ cs : Array Value, v = .agg cs := by
 unfold Value.okWide at hv
 split at hv
 · obtain ⟨cs, h, _⟩ := hv; exact ⟨cs, h⟩
 · obtain ⟨cs, h, _⟩ := hv; exact ⟨cs, h⟩
 · split at hs <;> simp_all
end
theorem arr_of {cs : Array Value} {l : List Value} (h : cs.toList = l) : cs = l.toArray := by subst h; simp
end Op
namespace Cf
open Go.ChangeShapes Go.WideShapes Go.ChangeAt Go.RowKit Mem Rws Nd Cl Flat
theorem exec_neq_same {P : Program} {o : Oper} {a : Act} (t u : TypeId) (x y : Operand) (ho : o.op = .binOp .neq t x y u) {d : Nat} {ls : List Bool} (he : eqOK P d t = some ls) (hd : d ≤ 10000) {e : TypeDesc} (hu : P.underlying t = some e) (hr : e.isRow = true) (hi : (P.info? t).map (·.size) = some ls.length) (hq : P.eqGuardType P.depth t = false)
  (f : Nat → Value) (hx : a.eval x = .agg (row ls.length f)) (hy : a.eval y = .agg (row ls.length f)) (ht : Typed ls ((List.range ls.length).map f)) (w : World) : (execOp a.eval o).run P w = .ok (.value (.bool false)) w := by
 unfold execOp
 simp only [ho, hx, hy, Sem.run_bind, run_neqGuard_rows hq, run_neq_refl he hd hu hr hi _ (row_size _ _) ht, Result.andThen_ok, Sem.run_pure]
theorem rep_ok {t0 t1 t2 t3 : Int} {ys : List InS} (h : Wf t0 ∧ Wf t1 ∧ Wf t2 ∧ Wf t3) (hg : GoodIns ys) {j : Nat} (hj : j < ys.length) {k : Nat} (hk : k < (repS t0 t1 t2 t3 ys j).2) :
  ∃ g : Nat → Value, (∀ i, i < 14 → (repS t0 t1 t2 t3 ys j).1[k * 14 + i]? = some (repF g i)) ∧ ∀ i, i < 73 → okT (nodeT i) (g i) := by
 unfold repS at hk ⊢
 obtain ⟨hp, hpb⟩ := goods_get _ _ _ hk; refine ⟨G6 (runS t0 t1 t2 t3 ys j) (ys.getD j default) ((goods (ys.getD j default).bad 4).getD k 0), fun i hi => reps_get _ _ k i hk hi, ?_⟩; have h2 := (sane_run (ys := ys) h hg (j + 1) (by omega)).ok _ hp
 have e : (runS t0 t1 t2 t3 ys (j + 1)).F ((goods (ys.getD j default).bad 4).getD k 0) = G6 (runS t0 t1 t2 t3 ys j) (ys.getD j default) ((goods (ys.getD j default).bad 4).getD k 0) := by
  rw [runS_succ]
  show F6 _ _ _ = _
  unfold F6
  rw [newK_good hp hpb]
 rw [e] at h2; exact h2
end Cf
namespace Cf
open Go.RowKit Mem Rws Nd Cl
def phB (p : Int) (m : Ms.Msg) : Bool :=
 if p = 0 then decide (m.k = 1) && decide (m.zs.length = 3)
 else if p = 1 then decide (m.k = 2) && decide (m.zs.length = 12)
 else if p = 2 then decide (m.k = 3) && decide (m.zs.length = 1)
 else if p = 3 then decide (m.k = 2) && decide (m.zs.length = 4)
 else if p = 4 then decide (m.k = 5) && decide (m.zs.length = 24) else false
noncomputable def fitsB (bad fr : Int) (l : Lie) : Bool := match came bad l.bs with
 | none => false
 | some m => decide (m.n = fr ∧ 0 ≤ l.t ∧ l.t < 4 ∧ l.t ≠ bad) && phB l.p m
noncomputable def noiStep (bad fr : Int) (a : List Lie × (Int → Int → Bool)) (l : Lie) : List Lie × (Int → Int → Bool) :=
 if fitsB bad fr l = true ∧ a.2 l.p l.t = false then (a.1 ++ [l], fun u v => a.2 u v || (u == l.p && v == l.t)) else a
noncomputable def noiS (bad fr : Int) (ls : List Lie) : List Lie × (Int → Int → Bool) := ls.foldl (noiStep bad fr) ([], fun _ _ => false)
theorem noiS_succ (bad fr : Int) {ls : List Lie} {j : Nat} {l : Lie} (hl : ls[j]? = some l) : noiS bad fr (ls.take (j + 1)) = noiStep bad fr (noiS bad fr (ls.take j)) l := by
 unfold noiS
 rw [List.take_add_one, hl, Option.toList_some, List.foldl_append]; rfl
theorem noi_len (bad fr : Int) : ∀ (ls : List Lie) (a : List Lie × (Int → Int → Bool)), (ls.foldl (noiStep bad fr) a).1.length ≤ a.1.length + ls.length
 | [], a => Nat.le_refl _
 | l :: ls, a => by
  have ih := noi_len bad fr ls (noiStep bad fr a l)
  have h : (noiStep bad fr a l).1.length ≤ a.1.length + 1 := by
   unfold noiStep
   split
   · simp
   · omega
  rw [List.foldl_cons, List.length_cons]; omega
theorem noiS_len (bad fr : Int) (ls : List Lie) : (noiS bad fr ls).1.length ≤ ls.length := by
 have := noi_len bad fr ls ([], fun _ _ => false)
 unfold noiS
 simpa using this
noncomputable def lieO (bad ph : Int) (i : Nat) (l : Lie) : List Ms.Msg := open Classical in if goes bad ph l ∧ l.t.toNat = i then (came bad l.bs).toList else []
theorem lieP_flat (bad ph : Int) (ls : List Lie) (i : Nat) : lieP bad ph ls i = ls.flatMap (lieO bad ph i) := rfl
def PhOk (ph kind : Int) (many : Nat) : Prop := (ph = 0 ∧ kind = 1 ∧ many = 3) ∨ (ph = 1 ∧ kind = 2 ∧ many = 12) ∨ (ph = 2 ∧ kind = 3 ∧ many = 1) ∨ (ph = 3 ∧ kind = 2 ∧ many = 4) ∨ (ph = 4 ∧ kind = 5 ∧ many = 24)
theorem phB_fit {ph kind : Int} {many : Nat} (h : PhOk ph kind many) (m : Ms.Msg) : phB ph m = true ↔ m.k = kind ∧ m.zs.length = many := by
 unfold phB
 rcases h with ⟨rfl, rfl, rfl⟩ | ⟨rfl, rfl, rfl⟩ | ⟨rfl, rfl, rfl⟩ | ⟨rfl, rfl, rfl⟩ | ⟨rfl, rfl, rfl⟩ <;> simp
theorem fit_iff {id fr kind fm : Int} {many : Nat} {m : Ms.Msg} (hf : m.f = fm) (hi : fm ≠ id) : Ms.fit id fr kind many fm m = true ↔ m.k = kind ∧ m.n = fr ∧ m.zs.length = many := by
 unfold Ms.fit
 have h1 : (fm != id) = true := by simp [hi]
 rw [hf]; simp only [Bool.and_eq_true, beq_iff_eq, h1]
 constructor
 ·
  rintro ⟨⟨⟨_, h2⟩, h3⟩, h4⟩; exact ⟨h2, h3, by omega⟩
 ·
  rintro ⟨h2, h3, h4⟩; exact ⟨⟨⟨⟨trivial, trivial⟩, h2⟩, h3⟩, by omega⟩
section
variable {bad fr ph kind id : Int} {many : Nat}
theorem kept_found (hk : PhOk ph kind many) (hb : 0 ≤ bad) (hi : bad ≠ id) {l : Lie} (hf : fitsB bad fr l = true) (hp : l.p = ph) {i : Nat} (ht : l.t = (i : Int)) : ∃ m, (lieO bad ph i l).find? (Ms.fit id fr kind many bad) = some m := by
 unfold fitsB at hf
 cases hc : came bad l.bs with
 | none => rw [hc] at hf; cases hf
 | some m =>
  rw [hc] at hf; simp only [Bool.and_eq_true, decide_eq_true_eq] at hf; obtain ⟨⟨h1, h2, h3, h4⟩, h5⟩ := hf; rw [hp] at h5; obtain ⟨h6, h7⟩ := (phB_fit hk m).1 h5; refine ⟨m, ?_⟩
  unfold lieO
  rw [if_pos ⟨⟨hb, hp, h2, h3, h4⟩, by omega⟩, hc]
  show [m].find? _ = _
  rw [List.find?_cons_of_pos]; exact (fit_iff (came_from hc) hi).2 ⟨h6, h1, h7⟩
theorem drop_not (hk : PhOk ph kind many) (hi : bad ≠ id) {l : Lie} (hf : fitsB bad fr l = false) (i : Nat) : (lieO bad ph i l).find? (Ms.fit id fr kind many bad) = none := by
 unfold lieO
 by_cases hg : goes bad ph l ∧ l.t.toNat = i
 ·
  rw [if_pos hg]
  cases hc : came bad l.bs with
  | none => rfl
  | some m =>
   show [m].find? _ = _
   rw [List.find?_cons_of_neg, List.find?_nil]; intro hm; obtain ⟨h1, h2, h3⟩ := (fit_iff (came_from hc) hi).1 hm; obtain ⟨⟨_, g1, g2, g3, g4⟩, _⟩ := hg
   unfold fitsB at hf
   rw [hc] at hf
   have h4 : phB l.p m = true := by rw [g1]; exact (phB_fit hk m).2 ⟨h1, h3⟩
   simp [h4, h2, g2, g3, g4] at hf
 · rw [if_neg hg]; rfl
theorem other_not {l : Lie} {i : Nat} (h : ¬ (l.p = ph ∧ l.t = (i : Int))) (p : Ms.Msg → Bool) : (lieO bad ph i l).find? p = none := by
 unfold lieO
 rw [if_neg]
 · rfl
 ·
  rintro ⟨⟨_, g1, g2, g3, g4⟩, g5⟩; exact h ⟨g1, by omega⟩
theorem noi_find (hk : PhOk ph kind many) (hb : 0 ≤ bad) (hi : bad ≠ id) (i : Nat) : ∀ (ls : List Lie) (a : List Lie × (Int → Int → Bool)), (a.2 ph (i : Int) = true → ∃ m, (a.1.flatMap (lieO bad ph i)).find? (Ms.fit id fr kind many bad) = some m) →
  (((ls.foldl (noiStep bad fr) a).1).flatMap (lieO bad ph i)).find? (Ms.fit id fr kind many bad) = (a.1.flatMap (lieO bad ph i) ++ ls.flatMap (lieO bad ph i)).find? (Ms.fit id fr kind many bad)
 | [], a, _ => by rw [List.foldl_nil, List.flatMap_nil, List.append_nil]
 | l :: ls, a, h => by
  rw [List.foldl_cons, List.flatMap_cons]
  by_cases hc : fitsB bad fr l = true ∧ a.2 l.p l.t = false
  ·
   have e : noiStep bad fr a l = (a.1 ++ [l], fun u v => a.2 u v || (u == l.p && v == l.t)) := if_pos hc; rw [e, noi_find hk hb hi i ls]
   ·
    dsimp only; rw [List.flatMap_append, List.flatMap_cons, List.flatMap_nil, List.append_nil, List.append_assoc]
   ·
    dsimp only; intro hs; rw [List.flatMap_append, List.find?_append]
    by_cases h1 : a.2 ph (i : Int) = true
    ·
     obtain ⟨m, hm⟩ := h h1; exact ⟨m, by rw [hm]; rfl⟩
    ·
     have h2 : ph = l.p ∧ (i : Int) = l.t := by
      have h3 : a.2 ph (i : Int) = false := by simpa using h1
      rw [h3] at hs
      simpa using hs
     obtain ⟨m, hm⟩ := kept_found (id := id) (many := many) hk hb hi hc.1 h2.1.symm h2.2.symm; rw [List.flatMap_cons, List.flatMap_nil, List.append_nil, hm]
     cases hq : (a.1.flatMap (lieO bad ph i)).find? (Ms.fit id fr kind many bad) with
     | none => exact ⟨m, rfl⟩
     | some q => exact ⟨q, rfl⟩
  ·
   have e : noiStep bad fr a l = a := if_neg hc; rw [e, noi_find hk hb hi i ls a h, List.find?_append, List.find?_append, List.find?_append]
   by_cases hf : fitsB bad fr l = true
   ·
    have hs : a.2 l.p l.t = true := by
     cases hx : a.2 l.p l.t with
     | true => rfl
     | false => exact absurd ⟨hf, hx⟩ hc
    by_cases hp : l.p = ph ∧ l.t = (i : Int)
    ·
     rw [hp.1, hp.2] at hs; obtain ⟨m, hm⟩ := h hs; rw [hm]; rfl
    · rw [other_not hp, Option.none_or]
   ·
    have hf2 : fitsB bad fr l = false := by simpa using hf
    rw [drop_not hk hi hf2, Option.none_or]
end
theorem first_out {bad ph : Int} {ls : List Lie} {mk mn : Nat → Int} {mz : Nat → List Int} {i j : Nat} (hj : ¬ j < 4) (id fr kind : Int) (many : Nat) :
  Ms.firstOf id fr kind many (j : Int) (phX bad ph ls mk nod mn mz 4 i) = none := by
 unfold Ms.firstOf
 rw [List.find?_eq_none]; intro m hm; rw [phX_part] at hm; obtain ⟨s, hs, hm⟩ := List.mem_flatMap.1 hm; have h1 := part_from (mf := nod) rfl hm; have h2 := List.mem_range.1 hs; rw [fit_not (by omega)]
 simp
theorem first_noi {bad fr ph kind : Int} {many : Nat} (hk : PhOk ph kind many) (hb : 0 ≤ bad) (ls : List Lie) (mk mn : Nat → Int) (mz : Nat → List Int) (id : Int) (i j : Nat) :
  Ms.firstOf id fr kind many (j : Int) (phX bad ph (noiS bad fr ls).1 mk nod mn mz 4 i) = Ms.firstOf id fr kind many (j : Int) (phX bad ph ls mk nod mn mz 4 i) := by
 by_cases hj : j < 4
 ·
  by_cases hid : (j : Int) = id
  ·
   subst hid; rw [first_self, first_self]
  ·
   have h1 := fun ls => first_part bad ph ls mk mn mz i j hj id fr kind many; refine (h1 _).trans (Eq.trans ?_ (h1 _).symm)
   unfold Cl.part
   by_cases e : (j : Int) = bad
   ·
    rw [if_pos e, if_pos e, lieP_flat, lieP_flat]; rw [e] at hid ⊢; have h2 := noi_find (fr := fr) (id := id) hk hb hid i ls ([], fun _ _ => false) (fun h => by cases h); exact h2
   · rw [if_neg e, if_neg e]
 · rw [first_out hj, first_out hj]
noncomputable def noiIn (fr : Int) (x : InS) : InS := ⟨x.rd, x.bad, (noiS x.bad fr x.ls).1⟩
section
variable (c : CluS) (x : InS)
theorem noi_X1 (hb : 0 ≤ x.bad) (id : Int) (i j : Nat) : Ms.firstOf id c.fr 1 3 (j : Int) (X1 c (noiIn c.fr x) i) = Ms.firstOf id c.fr 1 3 (j : Int) (X1 c x i) :=
 first_noi (bad := x.bad) (fr := c.fr) (ph := 0) (kind := 1) (many := 3) (.inl ⟨rfl, rfl, rfl⟩) hb x.ls (fun _ => 1) (fun _ => c.fr) (rds x) id i j
theorem noi_G2 (hb : 0 ≤ x.bad) : G2 c (noiIn c.fr x) = G2 c x := funext fun i => by
 have h : relayV (i : Int) c.fr (X1 c (noiIn c.fr x) i) = relayV (i : Int) c.fr (X1 c x i) := funext fun j => by
  unfold relayV
  rw [noi_X1 c x hb]
 show relayK (F1 c x i) (relayV (i : Int) c.fr (X1 c (noiIn c.fr x) i)) 4 = relayK (F1 c x i) (relayV (i : Int) c.fr (X1 c x i)) 4
 rw [h]
theorem noi_F2 (hb : 0 ≤ x.bad) : F2 c (noiIn c.fr x) = F2 c x := by
 show newK x.bad (G2 c (noiIn c.fr x)) (F1 c x) 4 = newK x.bad (G2 c x) (F1 c x) 4
 rw [noi_G2 c x hb]
theorem noi_X2 (hb : 0 ≤ x.bad) (id : Int) (i j : Nat) : Ms.firstOf id c.fr 2 12 (j : Int) (X2 c (noiIn c.fr x) i) = Ms.firstOf id c.fr 2 12 (j : Int) (X2 c x i) := by
 unfold X2
 rw [noi_G2 c x hb]; exact first_noi (bad := x.bad) (fr := c.fr) (ph := 1) (kind := 2) (many := 12) (.inr (.inl ⟨rfl, rfl, rfl⟩)) hb x.ls (fun _ => 2) (fun _ => c.fr) (fun i => dvs (G2 c x i)) id i j
theorem noi_A3 (hb : 0 ≤ x.bad) : A3 c (noiIn c.fr x) = A3 c x := funext fun i => funext fun j => by
 unfold A3 agreedZ
 rw [noi_F2 c x hb]; have h : (fun s : Nat => Ms.firstOf (i : Int) c.fr 2 12 (s : Int) (X2 c (noiIn c.fr x) i)) = fun s : Nat => Ms.firstOf (i : Int) c.fr 2 12 (s : Int) (X2 c x i) := funext fun s => noi_X2 c x hb _ _ _; rw [h]
theorem noi_D3 (hb : 0 ≤ x.bad) : D3 c (noiIn c.fr x) = D3 c x := funext fun i => by
 unfold D3
 rw [noi_F2 c x hb, noi_A3 c x hb]
theorem noi_F3 (hb : 0 ≤ x.bad) : F3 c (noiIn c.fr x) = F3 c x := by
 have h : G3 c (noiIn c.fr x) = G3 c x := funext fun i => by
  unfold G3
  rw [noi_F2 c x hb, noi_A3 c x hb]
 show newK x.bad (G3 c (noiIn c.fr x)) (F2 c (noiIn c.fr x)) 4 = newK x.bad (G3 c x) (F2 c x) 4
 rw [h, noi_F2 c x hb]
theorem noi_X3 (hb : 0 ≤ x.bad) (id : Int) (i j : Nat) : Ms.firstOf id c.fr 3 1 (j : Int) (X3 c (noiIn c.fr x) i) = Ms.firstOf id c.fr 3 1 (j : Int) (X3 c x i) := by
 unfold X3
 rw [noi_D3 c x hb]; exact first_noi (bad := x.bad) (fr := c.fr) (ph := 2) (kind := 3) (many := 1) (.inr (.inr (.inl ⟨rfl, rfl, rfl⟩))) hb x.ls (fun _ => 3) (fun _ => c.fr) (fun i => [D3 c x i]) id i j
theorem noi_G4 (hb : 0 ≤ x.bad) : G4 c (noiIn c.fr x) = G4 c x := funext fun i => by
 unfold G4
 rw [noi_F3 c x hb]
 have h : passV (i : Int) c.fr (X3 c (noiIn c.fr x) i) = passV (i : Int) c.fr (X3 c x i) := funext fun j => by
  unfold passV
  rw [noi_X3 c x hb]
 rw [h]
theorem noi_F4 (hb : 0 ≤ x.bad) : F4 c (noiIn c.fr x) = F4 c x := by
 show newK x.bad (G4 c (noiIn c.fr x)) (F3 c (noiIn c.fr x)) 4 = newK x.bad (G4 c x) (F3 c x) 4
 rw [noi_G4 c x hb, noi_F3 c x hb]
theorem noi_X4 (hb : 0 ≤ x.bad) (id : Int) (i j : Nat) : Ms.firstOf id c.fr 2 4 (j : Int) (X4 c (noiIn c.fr x) i) = Ms.firstOf id c.fr 2 4 (j : Int) (X4 c x i) := by
 unfold X4
 rw [noi_G4 c x hb]; exact first_noi (bad := x.bad) (fr := c.fr) (ph := 3) (kind := 2) (many := 4) (.inr (.inr (.inr (.inl ⟨rfl, rfl, rfl⟩)))) hb x.ls (fun _ => 2) (fun _ => c.fr) (fun i => hvs (G4 c x i)) id i j
theorem noi_L5 (hb : 0 ≤ x.bad) : L5 c (noiIn c.fr x) = L5 c x := funext fun i => funext fun s => by
 unfold L5 digestsZ
 rw [noi_F4 c x hb]; have h : (fun s : Nat => Ms.firstOf (i : Int) c.fr 2 4 (s : Int) (X4 c (noiIn c.fr x) i)) = fun s : Nat => Ms.firstOf (i : Int) c.fr 2 4 (s : Int) (X4 c x i) := funext fun s => noi_X4 c x hb _ _ _; rw [h]
theorem noi_G5 (hb : 0 ≤ x.bad) : G5 c (noiIn c.fr x) = G5 c x := funext fun i => by
 unfold G5
 rw [noi_L5 c x hb, noi_F4 c x hb]
theorem noi_F5 (hb : 0 ≤ x.bad) : F5 c (noiIn c.fr x) = F5 c x := by
 show newK x.bad (G5 c (noiIn c.fr x)) (F4 c (noiIn c.fr x)) 4 = newK x.bad (G5 c x) (F4 c x) 4
 rw [noi_G5 c x hb, noi_F4 c x hb]
theorem noi_W5 (hb : 0 ≤ x.bad) : W5 c (noiIn c.fr x) = W5 c x := by
 have h : V5 c (noiIn c.fr x) = V5 c x := funext fun i => by
  unfold V5
  rw [noi_L5 c x hb, noi_F4 c x hb]
 show newK x.bad (V5 c (noiIn c.fr x)) c.V 4 = newK x.bad (V5 c x) c.V 4
 rw [h]
theorem noi_X5 (hb : 0 ≤ x.bad) (id : Int) (i j : Nat) : Ms.firstOf id c.fr 5 24 (j : Int) (X5 c (noiIn c.fr x) i) = Ms.firstOf id c.fr 5 24 (j : Int) (X5 c x i) := by
 unfold X5
 rw [noi_G5 c x hb]; exact first_noi (bad := x.bad) (fr := c.fr) (ph := 4) (kind := 5) (many := 24) (.inr (.inr (.inr (.inr ⟨rfl, rfl, rfl⟩)))) hb x.ls (fun _ => 5) (fun _ => c.fr) (fun i => packZ (G5 c x i)) id i j
theorem noi_G6 (hb : 0 ≤ x.bad) : G6 c (noiIn c.fr x) = G6 c x := funext fun i => by
 unfold G6
 rw [noi_F5 c x hb]; have h : (fun s : Nat => Ms.firstOf (i : Int) c.fr 5 24 (s : Int) (X5 c (noiIn c.fr x) i)) = fun s : Nat => Ms.firstOf (i : Int) c.fr 5 24 (s : Int) (X5 c x i) := funext fun s => noi_X5 c x hb _ _ _; rw [h]
theorem noi_next (hb : 0 ≤ x.bad) : next c (noiIn c.fr x) = next c x := by
 have h6 : F6 c (noiIn c.fr x) = F6 c x := by
  show newK x.bad (G6 c (noiIn c.fr x)) (F5 c (noiIn c.fr x)) 4 = newK x.bad (G6 c x) (F5 c x) 4
  rw [noi_G6 c x hb, noi_F5 c x hb]
 unfold next
 rw [h6, noi_W5 c x hb]
theorem noi_reps (hb : 0 ≤ x.bad) (n : Nat) : reps c (noiIn c.fr x) n = reps c x n := by
 show (goods x.bad n).flatMap (fun i => (row 14 (repF (G6 c (noiIn c.fr x) i))).toList) = (goods x.bad n).flatMap (fun i => (row 14 (repF (G6 c x i))).toList)
 rw [noi_G6 c x hb]
end
end Cf
namespace Cf
open Go.RowKit Go.WideMaps Go.WideShapes Go.ChangeMaps Mem Nd
theorem pairKey : ArrKey Try.prog 61 3 2 := ⟨Try.underlying61, by kernel_rfl, by kernel_rfl, by kernel_rfl⟩
def pairV (p t : Int) : Value := .agg #[.int .i64 p, .int .i64 t]
theorem pair_inj {p t u v : Int} (h : pairV p t = pairV u v) : p = u ∧ t = v := by
 unfold pairV at h
 injection h with h
 have h1 : (Value.int .i64 p :: [Value.int .i64 t]) = Value.int .i64 u :: [Value.int .i64 v] := congrArg Array.toList h
 injection h1 with h1 h2
 injection h2 with h2
 injection h1 with _ h1
 injection h2 with _ h2
 exact ⟨h1, h2⟩
set_option maxRecDepth 100000 in
theorem key_pair {p t : Int} (hp : Wf p) (ht : Wf t) : ∃ l, keyOf Try.prog 61 (pairV p t) = some l :=
 ⟨_, keyOf_pair pairKey Try.underlying3 ⟨Try.prog.types.size - 1, by kernel_rfl⟩ hp ht⟩
theorem zeroI (w : World) : (zeroValue 3).run Try.prog w = .ok (.int .i64 0) w := by kernel_rfl
def SeenAt (w : World) (b : Nat) (s : Int → Int → Bool) : Prop :=
 ∃ es clock, w.heap[b]? = some (.map es clock) ∧ (∀ e ∈ es.toList, e.born < clock ∧ e.val = .int .i64 1 ∧ ∃ p t, Wf p ∧ Wf t ∧ e.key = pairV p t ∧ s p t = true) ∧ ∀ p t, s p t = true → ∃ e ∈ es.toList, e.key = pairV p t
theorem SeenAt.new (w : World) : SeenAt (w.alloc (.map #[] 0)) w.heap.size (fun _ _ => false) :=
 ⟨#[], 0, by rw [heap_of_alloc, if_pos rfl], fun e h => by simp at h, fun p t h => by cases h⟩
theorem SeenAt.lt {w : World} {b : Nat} {s : Int → Int → Bool} (h : SeenAt w b s) : b < w.heap.size := by
 obtain ⟨es, clock, h1, _⟩ := h; exact (Array.getElem?_eq_some_iff.1 h1).1
theorem SeenAt.same {w w' : World} {b : Nat} {s : Int → Int → Bool} (h : SeenAt w b s) (he : w'.heap[b]? = w.heap[b]?) : SeenAt w' b s := by
 obtain ⟨es, clock, h1, h2⟩ := h; exact ⟨es, clock, he.trans h1, h2⟩
theorem SeenAt.below {w w' : World} {b B : Nat} {s : Int → Int → Bool} (h : SeenAt w b s) (hb : Below B w w') (hB : b < B) : SeenAt w' b s := h.same (hb.block b hB)
theorem SeenAt.grown {w w' : World} {b : Nat} {row : Option Nat} {s : Int → Int → Bool} (h : SeenAt w b s) (hg : w.grownBy w' row) (hr : some b ≠ row) : SeenAt w' b s := h.same (hg.block b h.lt hr)
theorem SeenAt.keys {es : Array MapEntry} {clock : Nat} {s : Int → Int → Bool} (h : ∀ e ∈ es.toList, e.born < clock ∧ e.val = .int .i64 1 ∧ ∃ p t, Wf p ∧ Wf t ∧ e.key = pairV p t ∧ s p t = true) : ∀ e ∈ es.toList, ∃ l, keyOf Try.prog 61 e.key = some l := fun e he => by
 obtain ⟨_, _, p, t, hp, ht, hk, _⟩ := h e he; rw [hk]; exact key_pair hp ht
theorem SeenAt.look {w : World} {b : Nat} {s : Int → Int → Bool} (h : SeenAt w b s) {p t : Int} (hp : Wf p) (ht : Wf t) : (Instr.lookup 57 (.map (some b)) (pairV p t) false).run Try.prog w = .ok (.int .i64 (if s p t = true then 1 else 0)) w := by
 obtain ⟨es, clock, hb, h2, h3⟩ := h; obtain ⟨l, hkey⟩ := key_pair hp ht; have K := pairKey.law
 rcases K.find w hkey es.toList (SeenAt.keys h2) with ⟨g1, g2⟩ | ⟨j, e0, g1, g2, g3⟩
 ·
  have hs : ¬ s p t = true := fun e => by
   obtain ⟨x, hx, hk⟩ := h3 p t e; exact g2 x hx hk
  rw [if_neg hs]
  simp [Instr.lookup, run_underlying Try.underlying57, MapKept.run_getObj_map hb, K.check w _ hkey, g1, zeroI, Result.andThen]
 ·
  have hm := List.mem_of_getElem? g2; obtain ⟨_, hv, u, v, hu, hv2, hk, hs⟩ := h2 e0 hm; obtain ⟨rfl, rfl⟩ := pair_inj (g3.symm.trans hk); rw [if_pos hs]
  simp [Instr.lookup, run_underlying Try.underlying57, MapKept.run_getObj_map hb, K.check w _ hkey, g1, hv, Result.andThen]
theorem SeenAt.entry {w : World} {b : Nat} {s : Int → Int → Bool} (h : SeenAt w b s) {p t : Int} (hp : Wf p) (ht : Wf t) (hs : s p t = false) : ∃ (es1 : Array MapEntry) (clk st : Nat),
  (Instr.mapEntry 57 (.map (some b)) (pairV p t)).run Try.prog w = .ok (.tuple #[.int .i64 0, goInt st]) (setBlock w b (.map es1 clk)) ∧
  (∀ w2 : World, w2.heap[b]? = some (.map es1 clk) → (Instr.lookup 57 (.map (some b)) (pairV p t) false).run Try.prog w2 = .ok (.int .i64 0) w2) ∧
  ∀ w2 : World, w2.heap[b]? = some (.map es1 clk) → ∃ es2, (Instr.entryStore 57 (.map (some b)) (goInt st) (.int .i64 1)).run Try.prog w2 = .ok () (setBlock w2 b (.map es2 clk)) ∧ SeenAt (setBlock w2 b (.map es2 clk)) b (fun u v => s u v || (u == p && v == t)) := by
 obtain ⟨es, clock, hb, h2, h3⟩ := h; obtain ⟨l, hkey⟩ := key_pair hp ht; have K := pairKey.law
 rcases K.find w hkey es.toList (SeenAt.keys h2) with ⟨g1, g2⟩ | ⟨j, e0, g1, g2, g3⟩
 ·
  refine ⟨es.push ⟨pairV p t, .int .i64 0, clock⟩, clock + 1, clock, ?_, fun w2 hw2 => ?_, fun w2 hw2 => ⟨es.push ⟨pairV p t, .int .i64 1, clock⟩, ?_, ?_⟩⟩
  · simp [Instr.mapEntry, run_underlying Try.underlying57, MapKept.run_getObj_map hb, K.check w false hkey, g1, zeroI, MapKept.run_setObj_map _ hb, Result.andThen, setBlock]
  ·
   have hk2 : ∀ e ∈ (es.push ⟨pairV p t, .int .i64 0, clock⟩).toList, ∃ l, keyOf Try.prog 61 e.key = some l := fun e he => by
    rw [Array.toList_push, List.mem_append] at he
    rcases he with he | he
    · exact SeenAt.keys h2 e he
    ·
     simp at he
     subst he; exact ⟨l, hkey⟩
   rcases K.find w2 hkey _ hk2 with ⟨q1, q2⟩ | ⟨i, e1, q1, q2, q3⟩
   · exact absurd rfl (q2 ⟨pairV p t, .int .i64 0, clock⟩ (by simp))
   ·
    have hm := List.mem_of_getElem? q2; rw [Array.toList_push, List.mem_append] at hm
    have hv : e1.val = .int .i64 0 := by
     rcases hm with hm | hm
     · exact absurd q3 (g2 e1 hm)
     ·
      simp at hm
      rw [hm]
    rw [hv] at q1
    simp [Instr.lookup, run_underlying Try.underlying57, MapKept.run_getObj_map hw2, K.check w2 _ hkey, Result.andThen]
    rw [Array.toList_push] at q1
    simp [q1]
  ·
   have hidx : (es.push ⟨pairV p t, .int .i64 0, clock⟩).findIdx? (fun e => ((e.born : Nat) : Int) == ((clock : Nat) : Int)) = some es.size := by
    rw [WideElems.findIdx_arr, Array.toList_push, List.findIdx?_append]
    have hn : es.toList.findIdx? (fun e => ((e.born : Nat) : Int) == ((clock : Nat) : Int)) = none := by
     rw [List.findIdx?_eq_none_iff]; intro x hx; have := (h2 x hx).1
     simp
     omega
    rw [hn]
    simp
   have hmod : (es.push ⟨pairV p t, .int .i64 0, clock⟩).modify es.size (fun e => { e with val := .int .i64 1 }) = es.push ⟨pairV p t, .int .i64 1, clock⟩ := by
    apply Array.ext'
    rw [Array.toList_modify, Array.toList_push, Array.toList_push, ← Array.length_toList, WideElems.modify_last]
   simp [Instr.entryStore, MapKept.run_getObj_map hw2, asInt, asIntOf, goInt, hidx, hmod, MapKept.run_setObj_map _ hw2, Result.andThen, setBlock]
  ·
   refine ⟨es.push ⟨pairV p t, .int .i64 1, clock⟩, clock + 1, ?_, fun e he => ?_, fun u v huv => ?_⟩
   ·
    have hl : b < w2.heap.size := (Array.getElem?_eq_some_iff.1 hw2).1
    simp [setBlock, hl]
   ·
    rw [Array.toList_push, List.mem_append] at he
    rcases he with he | he
    ·
     obtain ⟨a1, a2, u, v, a3, a4, a5, a6⟩ := h2 e he; exact ⟨by omega, a2, u, v, a3, a4, a5, by simp [a6]⟩
    ·
     simp at he
     subst he; exact ⟨by simp, rfl, p, t, hp, ht, rfl, by simp⟩
   ·
    by_cases e : s u v = true
    ·
     obtain ⟨x, hx, hk⟩ := h3 u v e; exact ⟨x, by rw [Array.toList_push]; exact List.mem_append_left _ hx, hk⟩
    ·
     have e2 : s u v = false := by simpa using e
     simp [e2] at huv
     obtain ⟨rfl, rfl⟩ := huv; exact ⟨_, by rw [Array.toList_push]; exact List.mem_append_right _ (List.mem_singleton.2 rfl), rfl⟩
 ·
  have hm := List.mem_of_getElem? g2; obtain ⟨_, hv, u, v, hu, hv2, hk, hs2⟩ := h2 e0 hm; obtain ⟨rfl, rfl⟩ := pair_inj (g3.symm.trans hk); rw [hs] at hs2
  cases hs2
end Cf
namespace Cf
open Go.ChangeShapes Go.WideShapes Go.ChangeAt Go.RowKit Mem Rws Nd Cl
set_option maxRecDepth 100000 in
set_option maxHeartbeats 4000000 in
theorem fits_any (p t bad fr : Int) (A : Option Addr) (c : Nat) (bs : List Nat) (B : Nat) (w : World) (hB : B ≤ w.heap.size) (hA : A = none → c = 0) (hnc : bs.length ≤ c) (hc : c ≤ 140737488351232) (hbs : ∀ x ∈ bs, x < 256) (hr : Rd w B 1 A bs.length (Sm.bytesV bs)) :
  Calls Try.prog 14 #[.agg #[.int .i64 p, .int .i64 t, .slice A bs.length c], .int .i64 bad, .int .i64 fr] w fun e w' => e = .returned (.bool (fitsB bad fr ⟨p, t, bs⟩)) ∧ Below w.heap.size w w' := by
 have hb : Below w.heap.size w (w.alloc (.cells #[.int .i64 p, .int .i64 t, .slice A bs.length c] 60)) := (Below.refl _ _).alloc (Nat.le_refl _) _; have HB := zz hb
 have BX := zz (show Blk (w.alloc (.cells #[.int .i64 p, .int .i64 t, .slice A bs.length c] 60)) w.heap.size 60 #[.int .i64 p, .int .i64 t, .slice A bs.length c] from Blk.fresh _ _ _)
 have HR := zz ((hr.more hB).below hb); have HBS := zz hbs; clear hr hbs hb
 go_enter Try.func14, Try.ntmps14
 go_upto_region 1 with fail
 generalize (w.alloc (.cells #[.int .i64 p, .int .i64 t, .slice A bs.length c] 60)) = w1 at *
 obtain ⟨gx, hgx⟩ : ∃ g, w.heap.size = g := ⟨_, rfl⟩; have HGX := zz hgx; rw [hgx] at HB BX HR ⊢; clear hgx
 have HGW := zz (show gx ≤ w1.heap.size from Nat.le_of_lt BX.out.lt)
 have y2 := BX.out.cell 2; simp only [List.getElem?_toArray, List.getElem?_cons_zero, List.getElem?_cons_succ] at y2
 go_wp2_with (at_builtin; refine wpList_append_rd _ rfl (.const (.slice none 0 0)) (.tmp 11) 58 rfl (base := w1.heap.size) Sm.elemBytes rfl (World.ownsRow_nil _ _ _ _) rfl (fun h => ⟨by have := hA h; omega, hA h⟩) HR.out (Sm.bytesV_one bs) (by unfold maxLen; omega) (by omega) (Nat.le_refl _) ?_; intro A2 c2 w2 hA2 hown hg; (try simp only [List.nil_append, Nat.zero_add] at hown); (try simp only [Nat.zero_add]); have HO2 := zz hown; have HG2 := zz hg; clear hown hg)
 have hb2 : Below w1.heap.size w1 w2 := (Below.refl _ _).grown HG2.out (Nat.le_refl _) (fun g e => by cases e); obtain ⟨hca, hcb⟩ := own_cap HO2.out
 have hcm : c2 ≤ maxLen := by
  obtain ⟨_, _, h1, _, h2, _⟩ := own_form HO2.out
  injection h1 with _ _ h3
  rw [h3]; exact h2
 have HB := zz (onward HB.out (Nat.le_of_eq HGX.out.symm) hb2); have BX := zz (BX.out.below hb2 BX.out.lt); clear hb2 y2; refine (Ms.decode_any A2 c2 bs w2.heap.size w2 (Nat.le_refl _) hca hcb hcm (by omega) HBS.out (Rd.of_own HO2.out)).mono ?_; intro e w3 hd
 unfold Ms.DecAs Ms.msgV at hd
 by_cases hE : Ms.decE bs = 0
 ·
  rw [if_pos hE] at hd; obtain ⟨AZ, cz, rfl, hown, hb⟩ := hd
  have HCM := zz (show ∀ f : Int, ((Ms.bAt bs 2 : Nat) : Int) = f → came f bs = some ⟨Ms.bAt bs 1, f, Ms.valB bs 3 4, Ms.decZ bs (Ms.decN bs)⟩ from fun f h => if_pos ⟨hE, h⟩)
  have HCN := zz (show ∀ f : Int, ¬ ((Ms.bAt bs 2 : Nat) : Int) = f → came f bs = none from fun f h => if_neg (fun h2 => h h2.2))
  have HZL := zz (Ms.decZ_len bs (Ms.decN bs)); have hdn := Ms.decN_le hE; have HB := zz (onward HB.out (Nat.le_of_eq HGX.out.symm) hb); have BX := zz (BX.out.below hb BX.out.lt); clear hown hb; obtain ⟨KK, hKK⟩ : ∃ K : Int, ((Ms.bAt bs 1 : Nat) : Int) = K := ⟨_, rfl⟩; obtain ⟨FF, hFF⟩ : ∃ K : Int, ((Ms.bAt bs 2 : Nat) : Int) = K := ⟨_, rfl⟩; obtain ⟨NN, hNN⟩ : ∃ K : Int, ((Ms.valB bs 3 4 : Nat) : Int) = K := ⟨_, rfl⟩; obtain ⟨LL, hLL⟩ : ∃ K : Nat, Ms.decN bs = K := ⟨_, rfl⟩; rw [hKK, hNN, hLL] at HCM; rw [hFF] at HCM HCN; rw [hLL] at HZL hdn; rw [hKK, hFF, hNN, hLL]; clear hKK hFF hNN hLL; have F1 := zz (Blk.fresh w3 71 #[.int .i64 0, .int .i64 0, .int .i64 0, .slice none 0 0]); have hbA := (Below.refl w3.heap.size w3).alloc (Nat.le_refl _) (.cells #[.int .i64 0, .int .i64 0, .int .i64 0, .slice none 0 0] 71)
  go_upto_region 2 with (refine wpList_store_row rfl 71 _ _ rfl w3.heap.size #[.int .i64 KK, .int .i64 FF, .int .i64 NN, .slice AZ LL cz] rfl rfl 71 _ F1.out (by kernel_rfl) rfl (by simp [Value.oneCell']) ?_)
  have hbS := below_setRow hbA (Nat.le_refl _) #[.int .i64 KK, .int .i64 FF, .int .i64 NN, .slice AZ LL cz]; have BM := zz (F1.out.setRow #[.int .i64 KK, .int .i64 FF, .int .i64 NN, .slice AZ LL cz]); have HB := zz (onward HB.out (Nat.le_of_eq HGX.out.symm) hbS); have BX := zz (BX.out.below hbS BX.out.lt)
  have HBZ := zz (show Below w.heap.size w _ by rw [HGX.out]; exact HB.out)
  clear F1 hbA hbS
  generalize ((w3.alloc _).setRow w3.heap.size _) = w4 at *
  obtain ⟨gm, hgm⟩ : ∃ g, w3.heap.size = g := ⟨_, rfl⟩; rw [hgm] at BM ⊢; clear hgm; have m0 := BM.out.cell 0; have m1 := BM.out.cell 1; have m2 := BM.out.cell 2; have m3 := BM.out.cell 3; have x0 := BX.out.cell 0; have x1 := BX.out.cell 1; simp only [List.getElem?_toArray, List.getElem?_cons_zero, List.getElem?_cons_succ] at m0 m1 m2 m3 x0 x1
  by_cases hF : FF = bad
  ·
   have hF1 : (FF != bad) = false := by simp [hF]
   have HFB := zz (show fitsB bad fr ⟨p, t, bs⟩ = (decide (NN = fr ∧ 0 ≤ t ∧ t < 4 ∧ t ≠ bad) && phB p ⟨KK, bad, NN, Ms.decZ bs LL⟩) by
    unfold fitsB
    rw [HCM.out bad hF])
   by_cases hN : NN = fr
   ·
    have hN1 : (NN != fr) = false := by simp [hN]
    by_cases ht0 : t < 0
    ·
     have hd0 : decide (t < 0) = true := decide_eq_true ht0; go_wp2_with fail
     go_ret
     exact ⟨ret_bool (a := false) (by rw [HFB.out, decide_eq_false (by omega), Bool.false_and]), HBZ.out⟩
    ·
     have hd0 : decide (t < 0) = false := decide_eq_false ht0
     by_cases ht3 : 3 < t
     ·
      have hd3 : decide ((3 : Int) < t) = true := decide_eq_true ht3; go_wp2_with fail
      go_ret
      exact ⟨ret_bool (a := false) (by rw [HFB.out, decide_eq_false (by omega), Bool.false_and]), HBZ.out⟩
     ·
      have hd3 : decide ((3 : Int) < t) = false := decide_eq_false ht3
      by_cases htb : t = bad
      ·
       have hdb : (t == bad) = true := by simp [htb]
       have HTB := zz htb; clear htb; go_wp2_with fail
       go_ret
       exact ⟨ret_bool (a := false) (by rw [HFB.out, decide_eq_false (fun h => h.2.2.2 HTB.out), Bool.false_and]), HBZ.out⟩
      ·
       have hdb : (t == bad) = false := by simp [htb]
       have HFB := zz (show fitsB bad fr ⟨p, t, bs⟩ = phB p ⟨KK, bad, NN, Ms.decZ bs LL⟩ by rw [HFB.out, decide_eq_true (by omega), Bool.true_and])
       by_cases h0 : p = 0
       ·
        subst h0
        by_cases hk : KK = 1
        ·
         subst hk
         by_cases hl : LL = 3
         ·
          subst hl; go_wp2_with fail
          go_ret
          exact ⟨ret_bool (a := true) (by rw [HFB.out]; simp [phB, HZL.out]), HBZ.out⟩
         ·
          have hl1 : (((LL : Nat) : Int) == 3) = false := by simp; omega
          go_wp2_with fail
          go_ret
          exact ⟨ret_bool (a := false) (by rw [HFB.out]; simp [phB, HZL.out, hl]), HBZ.out⟩
        ·
         have hk1 : (KK == 1) = false := by simp [hk]
         go_wp2_with fail
         go_ret
         exact ⟨ret_bool (a := false) (by rw [HFB.out]; simp [phB, hk]), HBZ.out⟩
       ·
        have e0 : (p == 0) = false := by simp [h0]
        by_cases h1 : p = 1
        ·
         subst h1
         by_cases hk : KK = 2
         ·
          subst hk
          by_cases hl : LL = 12
          ·
           subst hl; go_wp2_with fail
           go_ret
           exact ⟨ret_bool (a := true) (by rw [HFB.out]; simp [phB, HZL.out]), HBZ.out⟩
          ·
           have hl1 : (((LL : Nat) : Int) == 12) = false := by simp; omega
           go_wp2_with fail
           go_ret
           exact ⟨ret_bool (a := false) (by rw [HFB.out]; simp [phB, HZL.out, hl]), HBZ.out⟩
         ·
          have hk1 : (KK == 2) = false := by simp [hk]
          go_wp2_with fail
          go_ret
          exact ⟨ret_bool (a := false) (by rw [HFB.out]; simp [phB, hk]), HBZ.out⟩
        ·
         have e1 : (p == 1) = false := by simp [h1]
         by_cases h2 : p = 2
         ·
          subst h2
          by_cases hk : KK = 3
          ·
           subst hk
           by_cases hl : LL = 1
           ·
            subst hl; go_wp2_with fail
            go_ret
            exact ⟨ret_bool (a := true) (by rw [HFB.out]; simp [phB, HZL.out]), HBZ.out⟩
           ·
            have hl1 : (((LL : Nat) : Int) == 1) = false := by simp; omega
            go_wp2_with fail
            go_ret
            exact ⟨ret_bool (a := false) (by rw [HFB.out]; simp [phB, HZL.out, hl]), HBZ.out⟩
          ·
           have hk1 : (KK == 3) = false := by simp [hk]
           go_wp2_with fail
           go_ret
           exact ⟨ret_bool (a := false) (by rw [HFB.out]; simp [phB, hk]), HBZ.out⟩
         ·
          have e2 : (p == 2) = false := by simp [h2]
          by_cases h3 : p = 3
          ·
           subst h3
           by_cases hk : KK = 2
           ·
            subst hk
            by_cases hl : LL = 4
            ·
             subst hl; go_wp2_with fail
             go_ret
             exact ⟨ret_bool (a := true) (by rw [HFB.out]; simp [phB, HZL.out]), HBZ.out⟩
            ·
             have hl1 : (((LL : Nat) : Int) == 4) = false := by simp; omega
             go_wp2_with fail
             go_ret
             exact ⟨ret_bool (a := false) (by rw [HFB.out]; simp [phB, HZL.out, hl]), HBZ.out⟩
           ·
            have hk1 : (KK == 2) = false := by simp [hk]
            go_wp2_with fail
            go_ret
            exact ⟨ret_bool (a := false) (by rw [HFB.out]; simp [phB, hk]), HBZ.out⟩
          ·
           have e3 : (p == 3) = false := by simp [h3]
           by_cases h4 : p = 4
           ·
            subst h4
            by_cases hk : KK = 5
            ·
             subst hk
             by_cases hl : LL = 24
             ·
              subst hl; go_wp2_with fail
              go_ret
              exact ⟨ret_bool (a := true) (by rw [HFB.out]; simp [phB, HZL.out]), HBZ.out⟩
             ·
              have hl1 : (((LL : Nat) : Int) == 24) = false := by simp; omega
              go_wp2_with fail
              go_ret
              exact ⟨ret_bool (a := false) (by rw [HFB.out]; simp [phB, HZL.out, hl]), HBZ.out⟩
            ·
             have hk1 : (KK == 5) = false := by simp [hk]
             go_wp2_with fail
             go_ret
             exact ⟨ret_bool (a := false) (by rw [HFB.out]; simp [phB, hk]), HBZ.out⟩
           ·
            have e4 : (p == 4) = false := by simp [h4]
            go_wp2_with fail
            go_ret
            exact ⟨ret_bool (a := false) (by rw [HFB.out]; simp [phB, h0, h1, h2, h3, h4]), HBZ.out⟩
   ·
    have hN1 : (NN != fr) = true := by simp [hN]
    go_wp2_with fail
    go_ret
    exact ⟨ret_bool (a := false) (by rw [HFB.out, decide_eq_false (fun h => hN h.1), Bool.false_and]), HBZ.out⟩
  ·
   have hF1 : (FF != bad) = true := by simp [hF]
   go_wp2_with fail
   go_ret
   exact ⟨ret_bool (a := false) (by unfold fitsB; rw [HCN.out bad hF]), HBZ.out⟩
 ·
  rw [if_neg hE] at hd; obtain ⟨rfl, hb⟩ := hd
  have hE1 : (Ms.decE bs != 0) = true := by simp [hE]
  have HCN := zz (show came bad bs = none from if_neg (fun h => hE h.1))
  have HB := zz (onward HB.out (Nat.le_of_eq HGX.out.symm) hb); have BX := zz (BX.out.below hb BX.out.lt); clear hb; have F1 := zz (Blk.fresh w3 71 #[.int .i64 0, .int .i64 0, .int .i64 0, .slice none 0 0]); have hbA := (Below.refl w3.heap.size w3).alloc (Nat.le_refl _) (.cells #[.int .i64 0, .int .i64 0, .int .i64 0, .slice none 0 0] 71)
  go_upto_region 2 with (refine wpList_store_row rfl 71 _ _ rfl w3.heap.size #[.int .i64 0, .int .i64 0, .int .i64 0, .slice none 0 0] rfl rfl 71 _ F1.out (by kernel_rfl) rfl (by simp [Value.oneCell']) ?_)
  have hbS := below_setRow hbA (Nat.le_refl _) #[.int .i64 0, .int .i64 0, .int .i64 0, .slice none 0 0]; have HB := zz (onward HB.out (Nat.le_of_eq HGX.out.symm) hbS)
  have HBZ := zz (show Below w.heap.size w _ by rw [HGX.out]; exact HB.out)
  clear F1 hbA hbS
  generalize ((w3.alloc _).setRow w3.heap.size _) = w4 at *
  go_wp2_with fail
  go_ret
  exact ⟨ret_bool (a := false) (by unfold fitsB; rw [HCN.out]), HBZ.out⟩
end Cf
namespace Cf
open Go.ChangeShapes Go.WideShapes Go.ChangeAt Go.RowKit Mem Rws Nd Cl
def LieC (w : World) (base : Nat) (ls : List Lie) (zs : List Value) : Prop :=
 zs.length = ls.length * 3 ∧ ∀ i l, ls[i]? = some l → ∃ a c, (zs.drop (i * 3)).take 3 = lieL l a c ∧ (a = none → c = 0) ∧ l.bs.length ≤ c ∧ c ≤ 140737488351232 ∧ (∀ x ∈ l.bs, x < 256) ∧ Rd w base 1 a l.bs.length (Sm.bytesV l.bs)
theorem LieC.nil (w : World) (base : Nat) : LieC w base [] [] := ⟨rfl, fun i l h => by simp at h⟩
theorem LieC.keep {w w' : World} {base : Nat} {ls : List Lie} {zs : List Value} (h : LieC w base ls zs) (hb : ∀ b, b < base → w'.heap[b]? = w.heap[b]?) : LieC w' base ls zs :=
 ⟨h.1, fun i l hl => by
  obtain ⟨a, c, h1, h2, h3, h4, h5, h6⟩ := h.2 i l hl
  exact ⟨a, c, h1, h2, h3, h4, h5, h6.keep fun b o hp => cell_same (hb b hp) _⟩⟩
theorem LieC.snoc {w : World} {base : Nat} {ls : List Lie} {zs : List Value} (h : LieC w base ls zs) {l : Lie} {a : Option Addr} {c : Nat} (h2 : a = none → c = 0) (h3 : l.bs.length ≤ c) (h4 : c ≤ 140737488351232) (h5 : ∀ x ∈ l.bs, x < 256) (h6 : Rd w base 1 a l.bs.length (Sm.bytesV l.bs)) : LieC w base (ls ++ [l]) (zs ++ lieL l a c) :=
 ⟨by rw [List.length_append, List.length_append, h.1, List.length_singleton, Nat.add_mul]; rfl, fun i m hm => by
  by_cases e : i < ls.length
  ·
   rw [List.getElem?_append_left e] at hm; rw [chunk_snoc h.1 i e]; exact h.2 i m hm
  ·
   have hi : i = ls.length := by
    have := (List.getElem?_eq_some_iff.1 hm).1; rw [List.length_append, List.length_singleton] at this; omega
   subst hi; rw [List.getElem?_append_right (Nat.le_refl _), Nat.sub_self] at hm
   have hm : l = m := by simpa using hm
   subst hm; rw [chunk_last h.1 rfl]
   exact ⟨a, c, rfl, h2, h3, h4, h5, h6⟩⟩
def NoiIn (w : World) (base : Nat) (cs : List Value) (xs : Nat → InS) (n : Nat) (X : Nat → Prop) : Prop := ∀ j, j < n → ∃ LA LC zs, (cs.drop (j * 14)).take 14 = inL (xs j) LA LC ∧ (LA = none → LC = 0) ∧ (xs j).ls.length ≤ LC ∧ LC ≤ 9223372036854775807 ∧ Rd w w.heap.size 3 LA (xs j).ls.length zs ∧ LieC w base (xs j).ls zs ∧ (0 < (xs j).ls.length → ∀ a, LA = some a → ¬ X a.block)
theorem NoiIn.grown {w w' : World} {base : Nat} {cs : List Value} {xs : Nat → InS} {n : Nat} {X : Nat → Prop} (h : NoiIn w base cs xs n X) {row : Option Nat} (hg : w.grownBy w' row) (hr : ∀ g, row = some g → X g) (hB : base ≤ w.heap.size) (hr2 : ∀ g, row = some g → base ≤ g) : NoiIn w' base cs xs n X := fun j hj => by
 obtain ⟨LA, LC, zs, h1, h2, h3, h4, h5, h6, h7⟩ := h j hj; refine ⟨LA, LC, zs, h1, h2, h3, h4, rd_kept h5 hg.size (fun hn a e => hg.block a.block (rd_lt h5 hn e) (fun e2 => h7 hn a e (hr _ e2.symm))), h6.keep (fun b hb => hg.block b (by omega) (fun e => by have := hr2 b e.symm; omega)), h7⟩
theorem NoiIn.below {w w' : World} {base : Nat} {cs : List Value} {xs : Nat → InS} {n : Nat} {X : Nat → Prop} (h : NoiIn w base cs xs n X) (hB : base ≤ w.heap.size) (hb : Below w.heap.size w w') : NoiIn w' base cs xs n X := fun j hj => by
 obtain ⟨LA, LC, zs, h1, h2, h3, h4, h5, h6, h7⟩ := h j hj; exact ⟨LA, LC, zs, h1, h2, h3, h4, (h5.below hb).more hb.size, h6.keep (fun b hx => hb.block b (by omega)), h7⟩
theorem NoiIn.wider {w : World} {base : Nat} {cs : List Value} {xs : Nat → InS} {n : Nat} {X Y : Nat → Prop} (h : NoiIn w base cs xs n X) (hY : ∀ b, b < w.heap.size → Y b → X b) : NoiIn w base cs xs n Y := fun j hj => by
 obtain ⟨LA, LC, zs, h1, h2, h3, h4, h5, h6, h7⟩ := h j hj; exact ⟨LA, LC, zs, h1, h2, h3, h4, h5, h6, fun hn a e hy => h7 hn a e (hY _ (rd_lt h5 hn e) hy)⟩
theorem NoiIn.snoc {w : World} {base : Nat} {cs : List Value} {xs : Nat → InS} {n : Nat} {X : Nat → Prop} (h : NoiIn w base cs xs n X) (hl : cs.length = n * 14) {LA : Option Addr} {LC : Nat} {zs : List Value} (h2 : LA = none → LC = 0) (h3 : (xs n).ls.length ≤ LC) (h4 : LC ≤ 9223372036854775807) (h5 : Rd w w.heap.size 3 LA (xs n).ls.length zs) (h6 : LieC w base (xs n).ls zs) (h7 : 0 < (xs n).ls.length → ∀ a, LA = some a → ¬ X a.block) : NoiIn w base (cs ++ inL (xs n) LA LC) xs (n + 1) X := fun j hj => by
 by_cases e : j = n
 ·
  subst e; rw [chunk_last hl (by unfold inL; rw [Array.length_toList, row_size])]; exact ⟨LA, LC, zs, rfl, h2, h3, h4, h5, h6, h7⟩
 ·
  rw [chunk_snoc hl j (by omega)]; exact h j (by omega)
theorem NoiIn.at {w : World} {base : Nat} {cs : List Value} {A : Option Addr} {xs : Nat → InS} {ys : List InS} {X : Nat → Prop} (h : NoiIn w base cs xs ys.length X) (hB : base ≤ w.heap.size) (hx : ∀ i y, ys[i]? = some y → y = xs i) (hr : Rd w w.heap.size 14 A ys.length cs) : InsAt w w.heap.size A ys :=
 ⟨cs, hr, fun i y hy => by
  have hi : i < ys.length := (List.getElem?_eq_some_iff.1 hy).1; obtain ⟨LA, LC, zs, h1, h2, h3, h4, h5, h6, _⟩ := h i hi; rw [hx i y hy]; refine ⟨LA, LC, h1, h2, h3, h4, zs, h5, fun k l hl => ?_⟩; obtain ⟨a, c, g1, g2, g3, g4, g5, g6⟩ := h6.2 k l hl
  exact ⟨a, c, g1, g2, g3, g4, g5, g6.more hB⟩⟩
theorem ones_lies {bd : Int} {xs : List InS} (h : ∀ x ∈ xs, ∀ l ∈ x.ls, Wf l.p ∧ Wf l.t) {i : Nat} {l : Lie} (hi : i < (ones bd xs).length) (hl : l ∈ ((ones bd xs).getD i default).ls) : Wf l.p ∧ Wf l.t := by
 have e : (ones bd xs).getD i default ∈ ones bd xs := by rw [List.getD_eq_getElem?_getD, List.getElem?_eq_getElem hi]; exact List.getElem_mem hi
 obtain ⟨x, hx, he⟩ := List.mem_map.1 e; rw [← he] at hl; exact h x (List.mem_of_mem_take hx) l (List.mem_of_mem_take hl)
def lieF (l : Lie) (a : Option Addr) (c : Nat) (k : Nat) : Value := if k = 0 then .int .i64 l.p else if k = 1 then .int .i64 l.t else .slice a l.bs.length c
theorem lieF_row (l : Lie) (a : Option Addr) (c : Nat) : row 3 (lieF l a c) = #[.int .i64 l.p, .int .i64 l.t, .slice a l.bs.length c] := rfl
theorem wpList_looked {P : Program} {ops : Array Oper} {rest : List Oper} {o : Oper} {a : Act} {w : World} {Q : Exit → Act → World → Prop} (hw : Region.wanted o (yielded ops a.tmps) = true) (t : TypeId) (m x : Operand) (ho : o.op = .lookup t m x false) {M X v : Value} (hm : a.eval m = M) (hx : a.eval x = X)
  (hr : (Instr.lookup t M X false).run P w = .ok v w) (h : wpList P ops Q rest (a.put o.dst v) w) : wpList P ops Q (o :: rest) a w :=
 wpList_wanted hw fun _ hK => by
  unfold Oper.wp execOp
  simp only [ho, hm, hx, Sem.run_bind, hr, Result.andThen_ok, Sem.run_pure]; exact hK _ _ h
theorem exec_lookup {P : Program} {o : Oper} {a : Act} {w : World} (t : TypeId) (m x : Operand) (ho : o.op = .lookup t m x false) {M X v : Value} (hm : a.eval m = M) (hx : a.eval x = X) (hr : (Instr.lookup t M X false).run P w = .ok v w) : (execOp a.eval o).run P w = .ok (.value v) w := by
 unfold execOp
 simp only [ho, hm, hx, Sem.run_bind, hr, Result.andThen_ok, Sem.run_pure]
theorem wp_entry {P : Program} {o : Oper} {a : Act} {w w' : World} {K : Act → World → Prop} {Q : Exit → Act → World → Prop} (t : TypeId) (m x : Operand) (ho : o.op = .mapEntry t m x) {M X v : Value} (hm : a.eval m = M) (hx : a.eval x = X)
  (hr : (Instr.mapEntry t M X).run P w = .ok v w') (h : K (a.put o.dst v) w') : o.wp P a w K Q := by
 unfold Oper.wp execOp
 simp only [ho, hm, hx, Sem.run_bind, hr, Result.andThen_ok, Sem.run_pure]; exact h
theorem wp_entryStore {P : Program} {o : Oper} {a : Act} {w w' : World} {K : Act → World → Prop} {Q : Exit → Act → World → Prop} (t : TypeId) (m s x : Operand) (ho : o.op = .entryStore t m s x) {M S X : Value} (hm : a.eval m = M) (hs : a.eval s = S) (hx : a.eval x = X)
  (hr : (Instr.entryStore t M S X).run P w = .ok () w') (h : K (a.put o.dst undef) w') : o.wp P a w K Q := by
 unfold Oper.wp execOp
 simp only [ho, hm, hs, hx, Sem.run_bind, hr, Result.andThen_ok, Sem.run_pure]; exact h
theorem setBlock_other (w : World) (b g : Nat) (o : Obj) (h : g ≠ b) : (ChangeMaps.setBlock w b o).heap[g]? = w.heap[g]? := by
 show (w.heap.setIfInBounds b o)[g]? = _
 rw [Array.getElem?_setIfInBounds_ne (fun e => h e.symm)]
theorem setBlock_at (w : World) (b : Nat) (o : Obj) (h : b < w.heap.size) : (ChangeMaps.setBlock w b o).heap[b]? = some o := by
 show (w.heap.setIfInBounds b o)[b]? = _
 simp [h]
theorem gr_setBlock (w : World) (b : Nat) (o : Obj) : w.grownBy (ChangeMaps.setBlock w b o) (some b) :=
 ⟨rfl, rfl, rfl, by show w.heap.size ≤ (w.heap.setIfInBounds b o).size; simp, fun g _ hne => setBlock_other w b g o (fun e => hne (by rw [e]))⟩
theorem lieF_one (l : Lie) (la : Option Addr) (lc : Nat) : ∀ u ∈ (row 3 (lieF l la lc)).toList, u.oneCell' = true := fun u hu => by
 rw [lieF_row] at hu
 simp at hu
 rcases hu with rfl | rfl | rfl <;> rfl
theorem elemLies : Elem Try.prog 54 60 (.agg #[.int .i64 0, .int .i64 0, .slice none 0 0]) 3 40 := ⟨Try.underlying54, by kernel_rfl, rfl, by omega⟩
theorem own_ne_map {w : World} {base : Nat} {e : TypeId} {size n g : Nat} {v : Value} {xs : List Value} {es : Array MapEntry} {clk : Nat} (h : w.ownsRow base e size v n xs) (hm : w.heap[g]? = some (.map es clk)) : v.ownBlock = none ∨ v.ownBlock ≠ some g := by
 obtain ⟨hl, ⟨rfl, _⟩ | ⟨b, cap, c2, rfl, _, hh, _⟩⟩ := h
 · exact .inl rfl
 ·
  refine .inr fun e2 => ?_
  injection e2 with e2
  subst e2; rw [hm] at hh
  cases hh
theorem own_ne_seen {w : World} {base : Nat} {e : TypeId} {size n g : Nat} {v : Value} {xs : List Value} {s : Int → Int → Bool} (h : w.ownsRow base e size v n xs) (hm : SeenAt w g s) : v.ownBlock ≠ some g := fun e2 => by
 obtain ⟨es, clk, h1, _⟩ := hm
 rcases own_ne_map h h1 with h2 | h2
 · rw [h2] at e2; cases e2
 · exact h2 e2
theorem range_sub {w : World} {b o n : Nat} {f : Nat → Value} (h : w.rangeAt b o ((List.range n).map f)) (k m : Nat) (hk : k + m ≤ n) : w.rangeAt b (o + k) ((List.range m).map fun i => f (k + i)) := fun i v hv => by
 have hi : i < m := by have := (List.getElem?_eq_some_iff.1 hv).1; simpa using this
 rw [List.getElem?_map, List.getElem?_range hi] at hv; have h1 := h (k + i) v (by rw [List.getElem?_map, List.getElem?_range (by omega)]; exact hv); rw [Nat.add_assoc]; exact h1
theorem node_direct {w : World} {b o : Nat} {f : Nat → Value} {S : Value} (h : w.rangeAt b o ((List.range 74).map (nodeW f S))) : w.rangeAt b (o + 39) ((List.range 12).map fun i => f (39 + i)) := by
 have h1 := range_sub h 39 12 (by omega); rw [List.map_congr_left (g := fun i => f (39 + i)) (fun i hi => by have := List.mem_range.1 hi; unfold nodeW; rw [if_neg (by omega)])] at h1; exact h1
noncomputable def noiL (ys : List InS) : List InS := (List.range ys.length).map fun (j : Nat) => noiIn (j : Int) (ys.getD j default)
theorem noiL_len (ys : List InS) : (noiL ys).length = ys.length := by unfold noiL; simp
theorem noiL_at (ys : List InS) {j : Nat} (hj : j < ys.length) : (noiL ys).getD j default = noiIn (j : Int) (ys.getD j default) := by
 unfold noiL
 rw [List.getD_eq_getElem?_getD, List.getElem?_map, List.getElem?_range hj]; rfl
theorem noiL_good {ys : List InS} (h : GoodIns ys) : GoodIns (noiL ys) := by
 refine ⟨by rw [noiL_len]; exact h.1, fun i hi => ?_⟩; rw [noiL_len] at hi; rw [noiL_at ys hi]; obtain ⟨h1, h2, h3⟩ := h.2 i hi; exact ⟨h1, h2, Nat.le_trans (noiS_len _ _ _) h3⟩
theorem noi_run {t0 t1 t2 t3 : Int} {ys : List InS} (hb : ∀ i, i < ys.length → 0 ≤ (ys.getD i default).bad) : ∀ k, k ≤ ys.length → runS t0 t1 t2 t3 (noiL ys) k = runS t0 t1 t2 t3 ys k
 | 0, _ => rfl
 | k + 1, hk => by
  rw [runS_succ, runS_succ, noi_run hb k (by omega), noiL_at ys (by omega)]; have h := noi_next (runS t0 t1 t2 t3 ys k) (ys.getD k default) (hb k (by omega)); rw [runS_fr] at h; exact h
theorem noi_rep {t0 t1 t2 t3 : Int} {ys : List InS} (hb : ∀ i, i < ys.length → 0 ≤ (ys.getD i default).bad) {k : Nat} (hk : k < ys.length) : repS t0 t1 t2 t3 (noiL ys) k = repS t0 t1 t2 t3 ys k := by
 unfold repS
 rw [noi_run hb k (by omega), noiL_at ys hk]; have h := noi_reps (runS t0 t1 t2 t3 ys k) (ys.getD k default) (hb k hk) 4; rw [runS_fr] at h; rw [h]; rfl
theorem ClusIn.congr {w : World} {cs : List Value} {cl cl' : Nat → CluS} {n : Nat} {X : Nat → Prop} (h : ClusIn w cs cl n X) (he : ∀ k, k < n → cl k = cl' k) : ClusIn w cs cl' n X := fun j hj => by
 rw [← he j hj]; exact h j hj
theorem RepIn.congr {w : World} {os : List Value} {rp rp' : Nat → List Value × Nat} {n : Nat} {X : Nat → Prop} (h : RepIn w os rp n X) (he : ∀ k, k < n → rp k = rp' k) : RepIn w os rp' n X := fun j hj => by
 rw [← he j hj]; exact h j hj
end Cf
namespace lawTopNoise
open Go.ChangeShapes Go.WideShapes Go.ChangeAt Go.RowKit Mem Rws Nd Cl Cf
set_option maxRecDepth 100000 in
set_option maxHeartbeats 4000000 in
theorem walk (t0 t1 t2 t3 : Int) (ht : Wf t0 ∧ Wf t1 ∧ Wf t2 ∧ Wf t3) (A : Option Addr) (c : Nat) (xs : List InS) (hxl : xs.length ≤ 1099511627776) (hxw : ∀ x ∈ xs, (∀ i, i < 12 → Wf (x.rd i)) ∧ Wf x.bad) (bad : Int) (hbad : -9223372036854775808 ≤ bad ∧ bad ≤ 9223372036854775807) (w : World) (h : InsAt w w.heap.size A xs) (hlw : ∀ x ∈ xs, ∀ l ∈ x.ls, Wf l.p ∧ Wf l.t) :
  Calls Try.prog 6 #[.agg #[.int .i64 t0, .int .i64 t1, .int .i64 t2, .int .i64 t3], .slice A xs.length c, .int .i64 bad] w fun e w' => e = .returned (.bool true) ∧ Below w.heap.size w w' := by
 have HIN := zz h
 have B3 := zz (show Blk (w.alloc (.cells #[.int .i64 t0, .int .i64 t1, .int .i64 t2, .int .i64 t3] 23)) w.heap.size 23 #[.int .i64 t0, .int .i64 t1, .int .i64 t2, .int .i64 t3] from Blk.fresh _ _ _)
 have hb : Below w.heap.size w (w.alloc (.cells #[.int .i64 t0, .int .i64 t1, .int .i64 t2, .int .i64 t3] 23)) := (Below.refl _ _).alloc (Nat.le_refl _) _; have HB := zz hb; have HIN := zz ((HIN.out.below hb).more hb.size); clear h hb
 go_enter Try.func6, Try.ntmps6
 go_wp2_with fail; refine (spot_any bad 4 hbad (.inl rfl) _).mono ?_; rintro e w1 ⟨bd, hr0, hr5, rfl, rfl⟩
 have hol : (ones bd xs).length ≤ 200 := by rw [ones_len]; omega
 have HGI := zz (ones_good (bad := bd) (xs := xs) (by omega) hxw); have HLW := zz (fun i l (hi : i < (ones bd xs).length) (hl : l ∈ ((ones bd xs).getD i default).ls) => ones_lies hlw hi hl); clear hbad hxw hlw; have hmm := @run_makeMap Try.prog
 go_upto_region 2 with fail
 generalize (w.alloc (.cells #[.int .i64 t0, .int .i64 t1, .int .i64 t2, .int .i64 t3] 23)) = w1 at *
 obtain ⟨gt, hgt⟩ : ∃ g, w.heap.size = g := ⟨_, rfl⟩; have HGT := zz hgt; rw [hgt] at B3 HB ⊢; clear hgt; go_wp2_with fail; refine (one_any A c xs bd w1 hxl HIN.out).mono ?_; rintro e w4 ⟨A4, c4, rfl, ha4, hc4, hin4, hb⟩; have HIN4 := zz hin4; replace HB := zz (onward HB.out (Nat.le_of_eq HGT.out.symm) hb); replace B3 := zz (B3.out.below hb B3.out.lt); clear hin4 hb; go_wp2_with fail
 go_loopw [8, 7] (fun v u wr => ∃ (i : Nat) (A' : Option Addr) (c' : Nat) (cs : List Value), i ≤ (ones bd xs).length ∧ v = .int .i64 (i : Int) ∧ u = .slice A' i c' ∧ wr.ownsRow w4.heap.size 56 14 (.slice A' i c') i cs ∧ NoiIn wr w4.heap.size cs (fun j => noiIn (j : Int) ((ones bd xs).getD j default)) i (fun b => (Value.slice A' i c').ownBlock = some b) ∧ Below w4.heap.size w4 wr) (fun v _ _ => (ones bd xs).length - (intOf v).toNat)
 case atStart => exact ⟨0, none, 0, [], by omega, rfl, rfl, World.ownsRow_nil _ _ _ _, fun j hj => by omega, Below.refl _ _⟩
 case round =>
  obtain ⟨i, A', c', cs, hi, rfl, rfl, ho, hni, hbw⟩ := hrel; have HO := zz ho; have HNI := zz hni; have HBW := zz hbw; clear ho hni hbw
  by_cases hlt : i < (ones bd xs).length
  ·
   generalize wr = wr0 at *
   have hx : (ones bd xs)[i]? = some ((ones bd xs).getD i default) := by rw [List.getD_eq_getElem?_getD, List.getElem?_eq_getElem hlt]; rfl
   have hxb := HGI.out.2 i hlt; have hxl2 := (HGI.out.1.2 i hlt).2.2; have hlw := fun l hl => HLW.out i l hlt hl; have hq : (fun j : Nat => noiIn (j : Int) ((ones bd xs).getD j default)) i = noiIn (i : Int) ((ones bd xs).getD i default) := rfl; obtain ⟨x, hxe⟩ : ∃ x, (ones bd xs).getD i default = x := ⟨_, rfl⟩; rw [hxe] at hx hxb hxl2 hlw hq; have HQ := zz hq; have HLW2 := zz hlw; have HXB := zz hxb; have HXL := zz hxl2; have hin := HIN4.out.below HBW.out; obtain ⟨bi, oi, LA, LC, rfl, hbl, hrg, hLA, hLn, hLc, hlies⟩ := hin.at hx; have HRG := zz hrg; have HLI := zz hlies; have HBI := zz hbl; have HB4 := zz HBW.out.size; have HOX := zz (fun b e => (HO.out.lt b e).2); clear hxe hx hxb hlw hq hin hrg hlies hbl hxl2
   have hi0 : (0 : Int) ≤ (i : Int) := by omega
   have hi3 : (i : Int) < ((ones bd xs).length : Int) := by omega
   have F1 := zz (Blk.fresh wr0 56 #[.int .i64 0, .int .i64 0, .int .i64 0, .int .i64 0, .int .i64 0, .int .i64 0, .int .i64 0, .int .i64 0, .int .i64 0, .int .i64 0, .int .i64 0, .int .i64 0, .int .i64 0, .slice none 0 0]); have hbA := (Below.refl wr0.heap.size wr0).alloc (Nat.le_refl _) (.cells #[.int .i64 0, .int .i64 0, .int .i64 0, .int .i64 0, .int .i64 0, .int .i64 0, .int .i64 0, .int .i64 0, .int .i64 0, .int .i64 0, .int .i64 0, .int .i64 0, .int .i64 0, .slice none 0 0] 56); obtain ⟨R1, hR1⟩ : ∃ R, row 14 (inCell x.rd x.bad (.slice LA x.ls.length LC)) = R := ⟨_, rfl⟩
   have i1 : (Try.prog.info? 56).map (·.size) = some R1.size := by rw [← hR1, row_size]; kernel_rfl
   have z1 : (#[.int .i64 0, .int .i64 0, .int .i64 0, .int .i64 0, .int .i64 0, .int .i64 0, .int .i64 0, .int .i64 0, .int .i64 0, .int .i64 0, .int .i64 0, .int .i64 0, .int .i64 0, .slice none 0 0] : Array Value).size = R1.size := by rw [← hR1, row_size]; rfl
   have o1 : R1.all (·.oneCell') = true := by rw [← hR1]; exact row_one fun j _ => inCell_one _ _ _ _ _ j
   have HR1 := zz hR1
   go_upto_region 8 with (first
    | (refine wpList_rng rfl 56 _ rfl bi (oi + i * 14) 14 rfl (inCell x.rd x.bad (.slice LA x.ls.length LC)) HRG.out _ Try.underlying56 rfl (by kernel_rfl) ?_; rw [hR1])
    | (refine wpList_store_row rfl 56 _ _ rfl wr0.heap.size R1 rfl rfl 56 _ F1.out i1 z1 o1 ?_))
   have hbS := below_setRow hbA (Nat.le_refl _) R1; have BN := zz (F1.out.setRow R1); have HBG := zz hbS; clear F1 hbA hbS hR1 i1 z1 o1
   generalize ((wr0.alloc _).setRow wr0.heap.size R1) = wp at *
   rw [← HR1.out] at BN; clear HR1; obtain ⟨g9, hg9⟩ : ∃ g, wr0.heap.size = g := ⟨_, rfl⟩; have HG9 := zz hg9; rw [hg9] at BN HBG HB4 ⊢; clear hg9; have f13 := BN.out.thaw 13; have y13 := BN.out.cell 13; rw [row_at (by omega)] at y13
   go_upto_region 9 with fail
   have hs := BN.out.set 13 (.slice none 0 0); rw [inCell_lies] at hs; replace BN := zz hs; replace HBG := zz (HBG.out.setCell (p := ⟨g9, 13, none⟩) (Nat.le_refl _) (.slice none 0 0)); clear hs f13 y13
   generalize (wp.setCell ⟨g9, 13, none⟩ (.slice none 0 0)) = wq at *
   have hbM : Below wq.heap.size wq (wq.alloc (.map #[] 0)) := (Below.refl _ _).alloc (Nat.le_refl _) _
   go_upto_region 10 with fail
   have HSE := zz (SeenAt.new wq)
   have HNM := zz (show g9 ≠ wq.heap.size from Nat.ne_of_lt BN.out.lt)
   have HGM := zz (show g9 ≤ wq.heap.size from Nat.le_of_lt BN.out.lt)
   replace BN := zz (BN.out.below hbM BN.out.lt); replace HBG := zz (HBG.out.trans (hbM.mono HGM.out)); clear hbM
   generalize (wq.alloc (.map #[] 0)) = wz at *
   obtain ⟨gm, hgm⟩ : ∃ g, wq.heap.size = g := ⟨_, rfl⟩; rw [hgm] at HSE HNM HGM ⊢; clear hgm
   have HMZ := zz (show gm < wz.heap.size from HSE.out.lt)
   have yl := (HBG.out.cell (p := ⟨bi, oi + i * 14 + 13, none⟩) (Nat.lt_of_lt_of_le HBI.out HB4.out)).trans (HRG.out 13 (.slice LA x.ls.length LC) rfl); go_wp2_with fail; clear yl; replace HLI := zz ((HLI.out.below (HBG.out.mono HB4.out)))
   go_loopw [46] (fun v wr => ∃ (j : Nat) (LB : Option Addr) (LD : Nat) (zs : List Value), j ≤ x.ls.length ∧ v = .int .i64 (j : Int) ∧ Blk wr g9 56 (row 14 (inCell x.rd x.bad (.slice LB ((noiS bd (i : Int) (x.ls.take j)).1).length LD))) ∧ wr.ownsRow g9 60 3 (.slice LB ((noiS bd (i : Int) (x.ls.take j)).1).length LD) ((noiS bd (i : Int) (x.ls.take j)).1).length zs ∧ LieC wr w4.heap.size (noiS bd (i : Int) (x.ls.take j)).1 zs ∧ SeenAt wr gm (noiS bd (i : Int) (x.ls.take j)).2 ∧ Below g9 wz wr) (fun v _ => x.ls.length - (intOf v).toNat)
   case atStart => exact ⟨0, none, 0, [], by omega, rfl, BN.out, World.ownsRow_nil _ _ _ _, LieC.nil _ _, HSE.out, Below.refl _ _⟩
   case round =>
    clear BN HSE; obtain ⟨j, LB, LD, zs, hj, rfl, hbn, hol2, hlc, hse, hbg⟩ := hrel; have BN := zz hbn; have BN0 := BN; have HOL := zz hol2; have HLC := zz hlc; have HSE := zz hse; have HBZ := zz hbg; have HNL := zz (Nat.le_trans (noiS_len bd (i : Int) (x.ls.take j)) (by rw [List.length_take]; exact Nat.min_le_right _ _)); clear hbn hol2 hlc hse hbg
    by_cases hlj : j < x.ls.length
    ·
     have hlx : x.ls[j]? = some (x.ls.getD j default) := by rw [List.getD_eq_getElem?_getD, List.getElem?_eq_getElem hlj]; rfl
     obtain ⟨l, hle⟩ : ∃ l, x.ls.getD j default = l := ⟨_, rfl⟩; rw [hle] at hlx; clear hle; have HSC := zz (noiS_succ bd (i : Int) hlx); obtain ⟨wp1, wp2⟩ := HLW2.out l (List.mem_of_getElem? hlx); have HWP := zz wp1; have HWT := zz wp2; obtain ⟨bl, ol, la, lc, hLAe, hbl, c0, c1, c2, hla, hln, hlm, hlb, hlr⟩ := (HLI.out.below (HBZ.out.mono HB4.out)).at hlx; subst hLAe
     have HRL := zz (show wr.rangeAt bl (ol + j * 3) ((List.range 3).map (lieF l la lc)) from fun k v hv => by
      have hk : k < 3 := by have := (List.getElem?_eq_some_iff.1 hv).1; simpa using this
      rw [List.getElem?_map, List.getElem?_range hk] at hv
      injection hv with hv
      subst hv
      obtain rfl | rfl | rfl : k = 0 ∨ k = 1 ∨ k = 2 := by omega
      · exact c0
      · exact c1
      · exact c2)
     have HLA := zz hla; have HLN := zz hln; have HLM := zz hlm; have HLB := zz hlb; have HLR := zz hlr; clear hlx wp1 wp2 c0 c1 c2 hla hln hlm hlb hlr hbl
     have hj0 : (0 : Int) ≤ (j : Int) := by omega
     have hj1 : (j : Int) < (x.ls.length : Int) := by omega
     have F1 := zz (Blk.fresh wr 60 #[.int .i64 0, .int .i64 0, .slice none 0 0]); have hbA := (Below.refl wr.heap.size wr).alloc (Nat.le_refl _) (.cells #[.int .i64 0, .int .i64 0, .slice none 0 0] 60)
     have iL : (Try.prog.info? 60).map (·.size) = some (row 3 (lieF l la lc)).size := by rw [row_size]; kernel_rfl
     have zL : (#[.int .i64 0, .int .i64 0, .slice none 0 0] : Array Value).size = (row 3 (lieF l la lc)).size := by rw [row_size]; rfl
     have oL : (row 3 (lieF l la lc)).all (·.oneCell') = true := row_one fun k _ => by unfold lieF; (repeat' split) <;> rfl
     obtain ⟨RL, hRL⟩ : ∃ R, row 3 (lieF l la lc) = R := ⟨_, rfl⟩; rw [hRL] at iL zL oL; have HRW := zz hRL; clear hRL
     go_upto_region 13 with (first
      | (refine wpList_rng rfl 60 _ rfl bl (ol + j * 3) 3 rfl (lieF l la lc) HRL.out _ Try.underlying60 rfl (by kernel_rfl) ?_; rw [HRW.out])
      | (refine wpList_store_row rfl 60 _ _ rfl wr.heap.size RL rfl rfl 60 _ F1.out iL zL oL ?_))
     have hbS := below_setRow hbA (Nat.le_refl _) RL; have B12 := zz (F1.out.setRow RL)
     have HN12 := zz (show wr.heap.size ≠ gm from fun e => by have := HSE.out.lt; omega)
     replace BN := zz (BN.out.below hbS BN.out.lt); replace HOL := zz (ownsRow_below HOL.out hbS); replace HSE := zz (HSE.out.below hbS HSE.out.lt)
     have HGW := zz (show g9 ≤ wr.heap.size from Nat.le_of_lt BN0.out.lt)
     replace HBZ := zz (HBZ.out.trans (hbS.mono HGW.out)); replace HLC := zz (HLC.out.keep (fun b hb => hbS.block b (by have := HB4.out; have := HGW.out; omega))); replace HLR := zz (HLR.out.below (hbS.mono (Nat.le_trans HB4.out HGW.out))); clear F1 hbA hbS iL zL oL HRL
     generalize ((wr.alloc _).setRow wr.heap.size RL) = wa at *
     rw [← HRW.out] at B12; obtain ⟨g12, hg12⟩ : ∃ g, wr.heap.size = g := ⟨_, rfl⟩; rw [hg12] at B12 HN12 ⊢; clear hg12 HRW HGW; have v0 := B12.out.cell 0; have v1 := B12.out.cell 1
     rw [row_at (by omega), show lieF l la lc 0 = .int .i64 l.p from rfl] at v0
     rw [row_at (by omega), show lieF l la lc 1 = .int .i64 l.t from rfl] at v1
     have F1 := zz (Blk.fresh wa 61 #[.int .i64 0, .int .i64 0]); have hbA := (Below.refl wa.heap.size wa).alloc (Nat.le_refl _) (.cells #[.int .i64 0, .int .i64 0] 61)
     go_upto_region 14 with (refine wpList_store_row rfl 61 _ _ rfl wa.heap.size #[.int .i64 l.p, .int .i64 l.t] rfl rfl 61 _ F1.out (by kernel_rfl) rfl (by simp [Value.oneCell']) ?_)
     have hbS := below_setRow hbA (Nat.le_refl _) #[.int .i64 l.p, .int .i64 l.t]; have B13 := zz (F1.out.setRow #[.int .i64 l.p, .int .i64 l.t])
     have HN13 := zz (show wa.heap.size ≠ gm from fun e => by have := HSE.out.lt; omega)
     replace B12 := zz (B12.out.below hbS B12.out.lt)
     have HGW := zz (show g9 ≤ wa.heap.size from Nat.le_of_lt BN.out.lt)
     replace BN := zz (BN.out.below hbS BN.out.lt); replace HOL := zz (ownsRow_below HOL.out hbS); replace HSE := zz (HSE.out.below hbS HSE.out.lt); replace HBZ := zz (HBZ.out.trans (hbS.mono HGW.out)); replace HLC := zz (HLC.out.keep (fun b hb => hbS.block b (by have := HB4.out; have := HGW.out; omega))); replace HLR := zz (HLR.out.below (hbS.mono (Nat.le_trans HB4.out HGW.out))); clear F1 hbA hbS v0 v1
     generalize ((wa.alloc _).setRow wa.heap.size _) = wb at *
     obtain ⟨g13, hg13⟩ : ∃ g, wa.heap.size = g := ⟨_, rfl⟩; rw [hg13] at B13 HN13 ⊢; clear hg13 HGW
     have HGW := zz (show g9 ≤ wb.heap.size from Nat.le_of_lt BN.out.lt)
     have iL : (Try.prog.info? 60).map (·.size) = some (row 3 (lieF l la lc)).size := by rw [row_size]; kernel_rfl
     go_upto_region 14 with fail
     refine wp_region_list ?_; refine wpList_whole (by rfl) 60 _ rfl g12 rfl B12.out _ Try.underlying60 rfl iL ?_; (try simp only [Rg.lp])
     iterate 2 (refine wpList_wanted (by rfl) (fun K hK => ?_); go_simp; refine hK _ _ ?_; clear hK K; try simp only [Rg.lp])
     refine wpList_wanted (by rfl) (fun K hK => ?_); rw [lieF_row]; go_simp; refine (fits_any l.p l.t bd (i : Int) la lc l.bs w4.heap.size wb (Nat.le_trans HB4.out HGW.out) HLA.out HLN.out HLM.out HLB.out HLR.out).mono ?_; rintro e wc ⟨rfl, hb⟩
     rw [show (⟨l.p, l.t, l.bs⟩ : Lie) = l from rfl]
     refine hK _ _ ?_; clear hK K; (try simp only [Rg.lp]); replace B12 := zz (B12.out.below hb B12.out.lt); replace B13 := zz (B13.out.below hb B13.out.lt); replace BN := zz (BN.out.below hb BN.out.lt); replace HOL := zz (ownsRow_below HOL.out hb); replace HSE := zz (HSE.out.below hb HSE.out.lt); replace HBZ := zz (HBZ.out.trans (hb.mono HGW.out)); replace HLC := zz (HLC.out.keep (fun b hx => hb.block b (by have := HB4.out; have := HGW.out; omega))); replace HLR := zz (HLR.out.below (hb.mono (Nat.le_trans HB4.out HGW.out))); clear hb iL HGW
     cases hf : fitsB bd (i : Int) l with
     | false =>
      have HSU := zz (show noiS bd (i : Int) (x.ls.take (j + 1)) = (noiS bd (i : Int) (x.ls.take j)) by rw [HSC.out]; unfold noiStep; rw [hf, if_neg (by simp)])
      clear hf; go_wp2_with fail; refine ⟨⟨j + 1, LB, LD, zs, by omega, by go_num, ?_, ?_, ?_, ?_, HBZ.out⟩, by simp [intOf]; omega⟩
      · rw [HSU.out]; exact BN.out
      · rw [HSU.out]; exact HOL.out
      · rw [HSU.out]; exact HLC.out
      · rw [HSU.out]; exact HSE.out
     | true =>
      have hlk := HSE.out.look HWP.out HWT.out
      iterate 2 (refine wpList_wanted (by rfl) (fun K hK => ?_); go_simp; refine hK _ _ ?_; clear hK K; try simp only [Rg.lp])
      refine wpList_whole (by rfl) 61 _ rfl g13 rfl B13.out _ Try.underlying61 rfl (by kernel_rfl) ?_; (try simp only [Rg.lp])
      cases hs : (noiS bd (i : Int) (x.ls.take j)).2 l.p l.t with
      | true =>
       have HSU := zz (show noiS bd (i : Int) (x.ls.take (j + 1)) = (noiS bd (i : Int) (x.ls.take j)) by rw [HSC.out]; unfold noiStep; rw [hs, if_neg (by simp)])
       rw [hs, if_pos rfl] at hlk; refine wpList_looked (by rfl) 57 _ _ rfl rfl rfl hlk ?_; (try simp only [Rg.lp]); clear hf hs hlk
       iterate 2 (refine wpList_wanted (by rfl) (fun K hK => ?_); go_simp; refine hK _ _ ?_; clear hK K; try simp only [Rg.lp])
       go_wp2_with fail; refine ⟨⟨j + 1, LB, LD, zs, by omega, by go_num, ?_, ?_, ?_, ?_, HBZ.out⟩, by simp [intOf]; omega⟩
       · rw [HSU.out]; exact BN.out
       · rw [HSU.out]; exact HOL.out
       · rw [HSU.out]; exact HLC.out
       · rw [HSU.out]; exact HSE.out
      | false =>
       have HSU := zz (show noiS bd (i : Int) (x.ls.take (j + 1)) = ((noiS bd (i : Int) (x.ls.take j)).1 ++ [l], fun u v => (noiS bd (i : Int) (x.ls.take j)).2 u v || (u == l.p && v == l.t)) by rw [HSC.out]; unfold noiStep; rw [if_pos ⟨hf, hs⟩])
       rw [hs, if_neg (by simp)] at hlk; refine wpList_looked (by rfl) 57 _ _ rfl rfl rfl hlk ?_; (try simp only [Rg.lp]); clear hlk
       iterate 2 (refine wpList_wanted (by rfl) (fun K hK => ?_); go_simp; refine hK _ _ ?_; clear hK K; try simp only [Rg.lp])
       clear hf
       go_upto_region 15 with fail
       have hbd : Below wc.heap.size wc wc.drew := (Below.refl _ _).drew
       have HGZ := zz (show g9 ≤ wz.heap.size from Nat.le_trans HGM.out (Nat.le_of_lt HMZ.out))
       have HBG := zz (onward HBZ.out HGZ.out hbd); replace B12 := zz (B12.out.below hbd B12.out.lt); replace B13 := zz (B13.out.below hbd B13.out.lt); replace BN := zz (BN.out.below hbd BN.out.lt); replace HOL := zz (ownsRow_below HOL.out hbd); replace HSE := zz (HSE.out.below hbd HSE.out.lt); have HSM := zz HSE.out.lt; obtain ⟨es0, clk0, hmp, _⟩ := id HSE.out; have HMP := zz hmp; obtain ⟨es1, clk, st, hen, hle, hst⟩ := HSE.out.entry HWP.out HWT.out hs; have hlk := HSE.out.look HWP.out HWT.out; rw [hs, if_neg (by simp)] at hlk; clear hs hmp hbd; refine wp_region_noPanic ?_; have HSS : Blk wc.drew g13 61 #[.int .i64 l.p, .int .i64 l.t] ∧ (Instr.lookup 57 (.map (some gm)) (pairV l.p l.t) false).run Try.prog wc.drew = .ok (.int .i64 0) wc.drew := ⟨B13.out, hlk⟩; refine Rg.beginR [1, 2] (fun w' => Blk w' g13 61 #[.int .i64 l.p, .int .i64 l.t] ∧ (Instr.lookup 57 (.map (some gm)) (pairV l.p l.t) false).run Try.prog w' = .ok (.int .i64 0) w') (by kernel_rfl) ?_; clear hlk HSE
       generalize wc.drew = wv at *
       refine Rg.tq 0 ⟨some 65, .move (.tmp 10), _, _, _, none⟩ rfl ?_; (try simp only [Rg.lp]); refine Rg.ts 1 ⟨some 66, .load 61 (.tmp 13), _, _, _, none⟩ (v := .agg #[.int .i64 l.p, .int .i64 l.t]) rfl HSS ?_ ?_
       · (intro w' hSw; exact exec_load_row 61 _ rfl _ rfl hSw.1 Try.underlying61 rfl (by kernel_rfl))
       (try simp only [Rg.lp]); refine Rg.ts 2 ⟨some 67, .lookup 57 (.tmp 65) (.tmp 66) false, _, _, _, none⟩ (v := .int .i64 0) rfl HSS ?_ ?_
       · (intro w' hSw; exact exec_lookup 57 (.tmp 65) (.tmp 66) (M := .map (some gm)) (X := pairV l.p l.t) rfl rfl rfl hSw.2)
       (try simp only [Rg.lp]); refine Rg.tq 3 ⟨some 68, .binOp .add 3 (.tmp 67) (.const (.int .i64 1)) 3, _, _, _, none⟩ rfl ?_; (try simp only [Rg.lp]); refine Rg.or1 4 ⟨some 69, .mapEntry 57 (.tmp 65) (.tmp 66), _, _, _, none⟩ rfl ?_; refine Rg.stepS ?_; intro K hK; rw [if_pos (by rfl)]; clear HSS; refine wp_entry 57 (.tmp 65) (.tmp 66) (M := .map (some gm)) (X := pairV l.p l.t) rfl rfl rfl hen ?_; have hgb := gr_setBlock wv gm (.map es1 clk); have HM1 := zz (setBlock_at wv gm (.map es1 clk) HSM.out); replace B12 := zz (B12.out.grown hgb (by intro e; injection e with e; exact HN12.out e)); replace B13 := zz (B13.out.grown hgb (by intro e; injection e with e; exact HN13.out e)); replace BN := zz (BN.out.grown hgb (by intro e; injection e with e; exact HNM.out e)); replace HOL := zz (HOL.out.kept hgb (own_ne_map HOL.out HMP.out)); replace HBG := zz (HBG.out.grown hgb (Nat.le_trans HGZ.out HBG.out.size) (fun g e => by injection e with e; rw [← e]; exact HGM.out)); replace HSM := zz (Nat.lt_of_lt_of_le HSM.out hgb.size); clear hgb
       generalize (ChangeMaps.setBlock wv gm (.map es1 clk)) = wu at *
       have HSS : Blk wu g13 61 #[.int .i64 l.p, .int .i64 l.t] ∧ (Instr.lookup 57 (.map (some gm)) (pairV l.p l.t) false).run Try.prog wu = .ok (.int .i64 0) wu := ⟨B13.out, hle wu HM1.out⟩; refine hK.out _ _ HSS ?_; clear hK K; (try simp only [Rg.lp]); refine Rg.tq 5 ⟨some 70, .extract (.tmp 69) 1, _, _, _, none⟩ rfl ?_; (try simp only [Rg.lp]); refine Rg.or1 6 ⟨none, .entryStore 57 (.tmp 65) (.tmp 70) (.tmp 68), _, _, _, none⟩ rfl ?_; refine Rg.stepF ?_ ?_
       · kernel_rfl
       intro K hK; rw [if_pos (by rfl)]; clear HSS; obtain ⟨es2, hes, hsn⟩ := hst wu HM1.out; refine wp_entryStore 57 (.tmp 65) (.tmp 70) (.tmp 68) (M := .map (some gm)) (S := goInt st) (X := .int .i64 1) rfl rfl rfl rfl hes ?_; have HSE := zz hsn; have hgb := gr_setBlock wu gm (.map es2 clk); replace B12 := zz (B12.out.grown hgb (by intro e; injection e with e; exact HN12.out e)); replace BN := zz (BN.out.grown hgb (by intro e; injection e with e; exact HNM.out e)); replace HOL := zz (HOL.out.kept hgb (own_ne_map HOL.out HM1.out)); replace HBG := zz (HBG.out.grown hgb (Nat.le_trans HGZ.out HBG.out.size) (fun g e => by injection e with e; rw [← e]; exact HGM.out)); clear hgb hes hsn
       generalize (ChangeMaps.setBlock wu gm (.map es2 clk)) = wt at *
       refine hK.out _ _ ?_; clear hK K; (try simp only [Rg.lp]); refine Rg.doneR (by kernel_rfl) ?_ _; refine NoPanic.normal ?_; clear hen hle hst B13 HM1 HMP; have y13 := BN.out.cell 13
       rw [row_at (by omega), show (inCell x.rd x.bad (.slice LB ((noiS bd (i : Int) (x.ls.take j)).1).length LD)) 13 = .slice LB ((noiS bd (i : Int) (x.ls.take j)).1).length LD from rfl] at y13
       go_upto_region 16 with fail
       have iL : (Try.prog.info? 60).map (·.size) = some (row 3 (lieF l la lc)).size := by rw [row_size]; kernel_rfl
       refine wp_region_list ?_
       iterate 2 (refine wpList_wanted (by rfl) (fun K hK => ?_); go_simp; refine hK _ _ ?_; clear hK K; try simp only [Rg.lp])
       refine wpList_whole (by rfl) 60 _ rfl g12 rfl B12.out _ Try.underlying60 rfl iL ?_; (try simp only [Rg.lp]); refine wpList_slice1 rfl 54 60 _ rfl (.agg (row 3 (lieF l la lc))) rfl 3 Try.underlying54 (by kernel_rfl) (by kernel_rfl) (by omega) (by omega) (row_size _ _) ?_; (try simp only [Rg.lp])
       rw [show (Value.agg (row 3 (lieF l la lc))).cells = row 3 (lieF l la lc) from rfl]
       have hbA : Below wt.heap.size wt (wt.alloc (.cells (row 3 (lieF l la lc)) 60)) := (Below.refl _ _).alloc (Nat.le_refl _) _
       have HCF := zz (show ∀ j u, (row 3 (lieF l la lc)).toList[j]? = some u → (wt.alloc (.cells (row 3 (lieF l la lc)) 60)).cell? (Addr.add ⟨wt.heap.size, 0, none⟩ j) = some u from fun j u hu => by
        have := cells_fresh wt (row 3 (lieF l la lc)).toList 60 j u hu
        rwa [Array.toArray_toList] at this)
       replace BN := zz (BN.out.below hbA BN.out.lt); replace HOL := zz (ownsRow_below HOL.out hbA); replace HSE := zz (HSE.out.below hbA HSE.out.lt); replace HBG := zz (onward HBG.out HGZ.out hbA)
       have HGS := zz (show g9 ≤ (wt.alloc (.cells (row 3 (lieF l la lc)) 60)).heap.size from Nat.le_of_lt BN.out.lt)
       clear hbA y13; obtain ⟨gq, hgq⟩ : ∃ g, wt.heap.size = g := ⟨_, rfl⟩; rw [hgq] at HCF ⊢; clear hgq
       generalize (wt.alloc (.cells (row 3 (lieF l la lc)) 60)) = ws at *
       refine wpList_append_at _ rfl (.tmp 72) (.tmp 74) 54 rfl (base := g9) elemLies rfl HOL.out rfl (news := (row 3 (lieF l la lc)).toList) (by rw [Array.length_toList, row_size]) HCF.out (lieF_one l la lc) (by have := HNL.out; have := HXL.out; unfold maxLen; omega) (by have := HNL.out; have := HXL.out; omega) HGS.out ?_; intro A5 C5 w5 hown5 hg5 hat5; (try simp only [Rg.lp]); replace BN := zz (BN.out.grown hg5 (fun e => own_ne_blk HOL.out BN.out (by decide) e.symm)); replace HSE := zz (HSE.out.grown hg5 (fun e => own_ne_seen HOL.out HSE.out e.symm)); replace HBG := zz (HBG.out.grown hg5 (Nat.le_trans HGZ.out HBG.out.size) (fun g e => (HOL.out.lt g e).1)); have HO5 := zz hown5; clear hown5 hg5 hat5 HGS HCF HOL B12; have f13 := BN.out.thaw 13; have y13 := BN.out.cell 13
       rw [row_at (by omega), show (inCell x.rd x.bad (.slice LB ((noiS bd (i : Int) (x.ls.take j)).1).length LD)) 13 = .slice LB ((noiS bd (i : Int) (x.ls.take j)).1).length LD from rfl] at y13
       go_wp2_with fail; clear f13 y13; have BNW := BN; have hs := BN.out.set 13 (.slice A5 (((noiS bd (i : Int) (x.ls.take j)).1).length + 1) C5); rw [inCell_lies] at hs; replace BN := zz hs; have hgs := gr_setCell w5 g9 13 (.slice A5 (((noiS bd (i : Int) (x.ls.take j)).1).length + 1) C5); replace HO5 := zz (HO5.out.kept hgs (.inr (own_ne_blk HO5.out BNW.out (by decide)))); replace HSE := zz (HSE.out.grown hgs (fun e => by injection e with e; exact HNM.out e.symm)); replace HBG := zz (HBG.out.grown hgs (Nat.le_trans HGZ.out HBG.out.size) (fun g e => by injection e with e; omega)); clear hs hgs
       generalize (w5.setCell ⟨g9, 13, none⟩ (.slice A5 (((noiS bd (i : Int) (x.ls.take j)).1).length + 1) C5)) = w6 at *
       have hkp : ∀ b, b < w4.heap.size → w6.heap[b]? = wc.heap[b]? := fun b hb => (HBG.out.block b (by have := HB4.out; omega)).trans (HBZ.out.block b (by have := HB4.out; omega)).symm; refine ⟨⟨j + 1, A5, C5, zs ++ (row 3 (lieF l la lc)).toList, by omega, by go_num, ?_, ?_, ?_, ?_, HBG.out⟩, by simp [intOf]; omega⟩
       · rw [HSU.out]; dsimp only; rw [List.length_append, List.length_singleton]; exact BN.out
       · rw [HSU.out]; dsimp only; rw [List.length_append, List.length_singleton]; exact HO5.out
       ·
        rw [HSU.out]; exact (HLC.out.keep hkp).snoc HLA.out HLN.out HLM.out HLB.out (HLR.out.keep fun b o hb => cell_same (hkp b hb) _)
       · rw [HSU.out]; exact HSE.out
    ·
     obtain rfl : j = x.ls.length := by omega
     clear hlj; rw [List.take_length] at BN HOL HLC HSE HNL
     have HNO := zz (show noiIn (i : Int) x = ⟨x.rd, x.bad, (noiS bd (i : Int) x.ls).1⟩ by unfold noiIn; rw [HXB.out])
     obtain ⟨KS, hKS⟩ : ∃ K, (noiS bd (i : Int) x.ls).1 = K := ⟨_, rfl⟩; rw [hKS] at BN HOL HLC HNL HNO; clear hKS HSE
     have hbt : Below wr0.heap.size wr0 wr := by rw [HG9.out]; exact HBG.out.trans HBZ.out
     replace HO := zz (ownsRow_below HO.out hbt)
     have HB5 := zz (show w4.heap.size ≤ wr0.heap.size by rw [HG9.out]; exact HB4.out)
     replace HNI := zz (HNI.out.below HB5.out hbt); replace HBW := zz (HBW.out.trans (hbt.mono HB5.out))
     have HOB := zz (show ∀ b, (Value.slice A' i c').ownBlock = some b → b < g9 from fun b e => by rw [← HG9.out]; exact HOX.out b e)
     obtain ⟨hlb, hld⟩ := own_cap HOL.out; obtain ⟨_, _, hq1, _, hq2, _⟩ := own_form HOL.out
     have hq3 : LD ≤ 9223372036854775807 := by
      injection hq1 with _ _ hq1
      rw [hq1]; exact hq2
     have HNI := zz (show NoiIn wr w4.heap.size (cs ++ inL ⟨x.rd, x.bad, KS⟩ LB LD) (fun j => noiIn (j : Int) ((ones bd xs).getD j default)) (i + 1) (fun b => (Value.slice A' i c').ownBlock = some b) from by
      have h9 := NoiIn.snoc (LA := LB) (LC := LD) (zs := zs) HNI.out HO.out.1 hlb (by rw [HQ.out, HNO.out]; exact hld) hq3 (by rw [HQ.out, HNO.out]; exact Rd.of_own HOL.out) (by rw [HQ.out, HNO.out]; exact HLC.out) (fun hn a e hx => by
       rw [HQ.out, HNO.out] at hn; have h1 := HOB.out _ hx; have h2 := (HOL.out.lt _ (own_block_of hn HOL.out e)).1
       omega)
      rw [HQ.out, HNO.out] at h9
      exact h9)
     clear hbt hq1 hq2 hq3 HLC HBZ hlb hld
     have i1 : (Try.prog.info? 56).map (·.size) = some (row 14 (inCell x.rd x.bad (.slice LB KS.length LD))).size := by rw [row_size]; kernel_rfl
     have o1 : (row 14 (inCell x.rd x.bad (.slice LB KS.length LD))).all (·.oneCell') = true := row_one fun j _ => inCell_one _ _ _ _ _ j
     have HO1 := zz (show ∀ u ∈ (row 14 (inCell x.rd x.bad (.slice LB KS.length LD))).toList, u.oneCell' = true from fun u hu => by rw [Array.all_eq_true'] at o1; exact o1 u (by simpa using hu))
     clear o1
     go_upto_region 18 with fail
     refine wp_region_list ?_
     iterate 1 (refine wpList_wanted (by rfl) (fun K hK => ?_); go_simp; refine hK _ _ ?_; clear hK K; try simp only [Rg.lp])
     refine wpList_whole (by rfl) 56 _ rfl g9 rfl BN.out _ Try.underlying56 rfl i1 ?_; (try simp only [Rg.lp]); refine wpList_slice1 rfl 24 56 _ rfl (.agg (row 14 (inCell x.rd x.bad (.slice LB KS.length LD)))) rfl 14 Try.underlying24 (by kernel_rfl) (by kernel_rfl) (by omega) (by omega) (row_size _ _) ?_; (try simp only [Rg.lp])
     rw [show (Value.agg (row 14 (inCell x.rd x.bad (.slice LB KS.length LD)))).cells = row 14 (inCell x.rd x.bad (.slice LB KS.length LD)) from rfl]
     have hbA : Below wr.heap.size wr (wr.alloc (.cells (row 14 (inCell x.rd x.bad (.slice LB KS.length LD))) 56)) := (Below.refl _ _).alloc (Nat.le_refl _) _
     have HCF := zz (show ∀ j u, (row 14 (inCell x.rd x.bad (.slice LB KS.length LD))).toList[j]? = some u → (wr.alloc (.cells (row 14 (inCell x.rd x.bad (.slice LB KS.length LD))) 56)).cell? (Addr.add ⟨wr.heap.size, 0, none⟩ j) = some u from fun j u hu => by
      have := cells_fresh wr (row 14 (inCell x.rd x.bad (.slice LB KS.length LD))).toList 56 j u hu
      rwa [Array.toArray_toList] at this)
     replace HO := zz (ownsRow_below HO.out hbA); replace HNI := zz (HNI.out.below HBW.out.size hbA); replace HBW := zz (onward HBW.out (Nat.le_refl _) hbA); clear hbA HOL BN i1; obtain ⟨gq, hgq⟩ : ∃ g, wr.heap.size = g := ⟨_, rfl⟩; rw [hgq] at HCF ⊢; clear hgq
     generalize (wr.alloc (.cells (row 14 (inCell x.rd x.bad (.slice LB KS.length LD))) 56)) = ws at *
     have HN2 := zz HGI.out.1.1; refine wpList_append_at _ rfl (.tmp 78) (.tmp 80) 24 rfl (base := w4.heap.size) elemIns rfl HO.out rfl (news := (row 14 (inCell x.rd x.bad (.slice LB KS.length LD))).toList) (by rw [Array.length_toList, row_size]) HCF.out HO1.out (by have := HN2.out; unfold maxLen; omega) (by have := HN2.out; omega) HBW.out.size ?_; intro A5 C5 w5 hown5 hg5 hat5; (try simp only [Rg.lp]); have hz1 := wz_wider (X := fun b => (Value.slice A' i c').ownBlock = some b) hat5 (fun b e => e); have hx1 : ∀ g, (Value.slice A' i c').ownBlock = some g → WZ (fun b => (Value.slice A' i c').ownBlock = some b) (Value.slice A5 (i + 1) C5).ownBlock g := fun g e => .inl e; replace HNI := zz (((HNI.out.wider hz1).grown hg5 hx1 HBW.out.size (fun g e => (HO.out.lt g e).1)).wider (Y := fun b => (Value.slice A5 (i + 1) C5).ownBlock = some b) (fun b _ h => .inr h)); replace HBW := zz (HBW.out.grown hg5 HBW.out.size (fun g e => (HO.out.lt g e).1)); have HO5 := zz hown5; clear hown5 hg5 hat5 hz1 hx1 HCF HO1 HO
     iterate 1 (refine wpList_wanted (by rfl) (fun K hK => ?_); go_simp; refine hK _ _ ?_; clear hK K; try simp only [Rg.lp])
     have hn2 := HN2.out
     have hwi : IntKind.i64.wrap ((i : Int) + 1) = ((i + 1 : Nat) : Int) := by rw [IntKind.wrap_i64]; omega
     clear hn2; go_wp2_with fail; exact ⟨⟨i + 1, A5, C5, cs ++ inL ⟨x.rd, x.bad, KS⟩ LB LD, by omega, by go_num, rfl, HO5.out, HNI.out, HBW.out⟩, by simp [intOf]; omega⟩
  ·
   obtain rfl : i = (ones bd xs).length := by omega
   clear hlt
   have HM := zz (show InsAt wr wr.heap.size A' (noiL (ones bd xs)) from by
    have h := HNI.out; have h2 := Rd.of_own HO.out; rw [← noiL_len (ones bd xs)] at h h2; refine NoiIn.at h HBW.out.size (fun q y hy => ?_) h2; have hq : q < (noiL (ones bd xs)).length := (List.getElem?_eq_some_iff.1 hy).1; rw [noiL_len] at hq; have h3 := noiL_at (ones bd xs) hq; rw [List.getD_eq_getElem?_getD, hy] at h3
    exact h3)
   have HIN5 := zz ((HIN4.out.below HBW.out).more HBW.out.size); replace B3 := zz (B3.out.below HBW.out B3.out.lt); replace HB := zz (onward HB.out (Nat.le_of_eq HGT.out.symm) HBW.out)
   have HBD := zz (show ∀ i, i < (ones bd xs).length → 0 ≤ ((ones bd xs).getD i default).bad from fun i hi => by rw [HGI.out.2 i hi]; exact hr0)
   clear HIN4 HO HNI HBW HLW hmm
   generalize wr = wn at *
   go_wp2_with (refine wpList_whole rfl 23 _ rfl gt rfl B3.out _ Try.underlying23 rfl (by kernel_rfl) ?_)
   refine (behind_any t0 t1 t2 t3 ht A4 c4 (ones bd xs) HGI.out.1 wn HIN5.out).mono ?_; rintro e w5 ⟨CA, CC, OA, OC, cc, os, rfl, hoc, hci, hoo, hri, hb⟩; have HOC := zz hoc; have HCI := zz hci; have HOO := zz hoo; have HRI := zz hri; replace HM := zz ((HM.out.below hb).more hb.size); replace B3 := zz (B3.out.below hb B3.out.lt); replace HB := zz (onward HB.out (Nat.le_of_eq HGT.out.symm) hb); clear hoc hci hoo hri hb HIN5
   go_upto_region 20 with fail
   have CB := behind_any t0 t1 t2 t3 ht A' c' (noiL (ones bd xs)) (noiL_good HGI.out.1) w5 HM.out; simp only [noiL_len] at CB; have HCB := zz CB; clear CB
   go_wp2_with (refine wpList_whole rfl 23 _ rfl gt rfl B3.out _ Try.underlying23 rfl (by kernel_rfl) ?_)
   refine HCB.out.mono ?_; rintro e w6 ⟨CA2, CC2, OA2, OC2, cs2, os2, rfl, hoc2, hci2, hoo2, hri2, hb⟩; have HOC2 := zz hoc2; have HCI2 := zz (hci2.congr (fun k hk => noi_run HBD.out (k + 1) (by omega))); have HOO2 := zz hoo2; have HRI2 := zz (hri2.congr (fun k hk => noi_rep HBD.out hk)); replace HOC := zz (ownsRow_below HOC.out hb); replace HCI := zz (HCI.out.below hb); replace HOO := zz (ownsRow_below HOO.out hb); replace HRI := zz (HRI.out.below hb); replace HB := zz (onward HB.out (Nat.le_of_eq HGT.out.symm) hb); clear hoc2 hci2 hoo2 hri2 hb HM B3 HCB; go_wp2_with fail; refine (alive_any _).mono ?_; rintro e w7 ⟨rfl, hb⟩; replace HOC := zz (ownsRow_below HOC.out hb); replace HCI := zz (HCI.out.below hb); replace HOO := zz (ownsRow_below HOO.out hb); replace HRI := zz (HRI.out.below hb); replace HOC2 := zz (ownsRow_below HOC2.out hb); replace HCI2 := zz (HCI2.out.below hb); replace HOO2 := zz (ownsRow_below HOO2.out hb); replace HRI2 := zz (HRI2.out.below hb); replace HB := zz (onward HB.out (Nat.le_of_eq HGT.out.symm) hb); clear hb; go_wp2_with fail
   go_loopw [108] (fun v wr => ∃ j : Nat, j ≤ (ones bd xs).length ∧ v = .int .i64 (j : Int) ∧ Below w7.heap.size w7 wr) (fun v _ => (ones bd xs).length - (intOf v).toNat)
   case atStart => exact ⟨0, by omega, rfl, Below.refl _ _⟩
   case round =>
    obtain ⟨j, hj, rfl, hbr⟩ := hrel; have HBR := zz hbr; clear hbr
    by_cases hlj : j < (ones bd xs).length
    ·
     generalize wr = wr0 at *
     have hj0 : (0 : Int) ≤ (j : Int) := by omega
     have hj1 : (j : Int) < ((ones bd xs).length : Int) := by omega
     obtain ⟨RA, RC, hos, hra, hrc, hrd, _⟩ := HRI.out j hlj; obtain ⟨bo, oo, rfl, hbo, hoc⟩ := (Rd.of_own HOO.out).2 (by omega); have yo := (HBR.out.cell (p := ⟨bo, oo + j, none⟩) hbo).trans (hoc _ _ hos); have HBO := zz hbo; have HRD := zz ((hrd.below HBR.out).more HBR.out.size); clear hos hbo hoc hrd; obtain ⟨RA2, RC2, hos, hra2, hrc2, hrd, _⟩ := HRI2.out j hlj; obtain ⟨bo2, oo2, rfl, hbo, hoc⟩ := (Rd.of_own HOO2.out).2 (by omega); have yo2 := (HBR.out.cell (p := ⟨bo2, oo2 + j, none⟩) hbo).trans (hoc _ _ hos); have HBO2 := zz hbo; have HRD2 := zz ((hrd.below HBR.out).more HBR.out.size); clear hos hbo hoc hrd; have HRU := zz (fun k hk => rep_ok (k := k) ht HGI.out.1 hlj hk); have hrp : (repS t0 t1 t2 t3 (ones bd xs) j).2 ≤ 4 := goods_len_le _ 4
     have HSN := zz (sane_run ht HGI.out.1 (j + 1) (show j + 1 ≤ (ones bd xs).length by omega))
     obtain ⟨ba, oa, VA, VC, rfl, hba, hga, hva⟩ := clus_at HOC.out HCI.out hlj; obtain ⟨bb, ob, VB, VD, rfl, hbb, hgb, hvb⟩ := clus_at HOC2.out HCI2.out hlj
     have HRGA := zz (show wr0.rangeAt ba (oa + j * 297) _ from fun k v hv => (HBR.out.cell (p := ⟨ba, oa + j * 297 + k, none⟩) hba).trans (hga k v hv))
     have HRGB := zz (show wr0.rangeAt bb (ob + j * 297) _ from fun k v hv => (HBR.out.cell (p := ⟨bb, ob + j * 297 + k, none⟩) hbb).trans (hgb k v hv))
     have HBA := zz (Nat.lt_of_lt_of_le hba HBR.out.size); have HBB := zz (Nat.lt_of_lt_of_le hbb HBR.out.size); have HVA := zz (hva.below HBR.out); have HVB := zz (hvb.below HBR.out); clear hba hga hva hbb hgb hvb hra hrc hra2 hrc2
     generalize repS t0 t1 t2 t3 (ones bd xs) j = rp at *
     generalize (runS t0 t1 t2 t3 (ones bd xs) (j + 1)) = cl at *
     have HYO := zz yo; have HYO2 := zz yo2; clear yo yo2; go_wp2_with fail
     go_loopw [21] (fun v wr => ∃ k : Nat, k ≤ 4 ∧ v = .int .i64 (k : Int) ∧ Below wr0.heap.size wr0 wr) (fun v _ => 4 - (intOf v).toNat)
     case atStart => exact ⟨0, by omega, rfl, Below.refl _ _⟩
     case round =>
      obtain ⟨k, hk, rfl, hbk⟩ := hrel; have HBK := zz hbk; clear hbk
      by_cases hk4 : k < 4
      ·
       have hk0 : (0 : Int) ≤ (k : Int) := by omega
       have hk1 : (k : Int) < 4 := by omega
       have HRA := zz (show wr.rangeAt ba (oa + j * 297 + 1 + k * 74) ((List.range 74).map (nodeW (cl.F k) (.slice (VA k) (cl.V k).length (VC k)))) from fun q v hv => (HBK.out.cell (p := ⟨ba, oa + j * 297 + 1 + k * 74 + q, none⟩) HBA.out).trans (clus_node HRGA.out hk4 q v hv))
       have HRB := zz (show wr.rangeAt bb (ob + j * 297 + 1 + k * 74) ((List.range 74).map (nodeW (cl.F k) (.slice (VB k) (cl.V k).length (VD k)))) from fun q v hv => (HBK.out.cell (p := ⟨bb, ob + j * 297 + 1 + k * 74 + q, none⟩) HBB.out).trans (clus_node HRGB.out hk4 q v hv))
       have HTD := zz (typed_row (List.replicate 12 true) 39 (cl.F k) (typ_part (HSN.out.ok k hk4) (by kernel_rfl)))
       have HBA2 := zz (show ba < wr.drew.heap.size from Nat.lt_of_lt_of_le HBA.out HBK.out.size)
       have HBB2 := zz (show bb < wr.drew.heap.size from Nat.lt_of_lt_of_le HBB.out HBK.out.size)
       go_upto_region 29 with fail
       have hbd : Below wr.heap.size wr wr.drew := (Below.refl _ _).drew; replace HBK := zz (onward HBK.out (Nat.le_refl _) hbd); clear hbd; refine wp_region_noPanic ?_; have HSS : wr.drew.rangeAt ba (oa + j * 297 + 1 + k * 74) ((List.range 74).map (nodeW (cl.F k) (.slice (VA k) (cl.V k).length (VC k)))) ∧ wr.drew.rangeAt bb (ob + j * 297 + 1 + k * 74) ((List.range 74).map (nodeW (cl.F k) (.slice (VB k) (cl.V k).length (VD k)))) := ⟨HRA.out, HRB.out⟩; refine Rg.beginR [6, 13, 24, 32] (fun w' => w'.rangeAt ba (oa + j * 297 + 1 + k * 74) ((List.range 74).map (nodeW (cl.F k) (.slice (VA k) (cl.V k).length (VC k)))) ∧ w'.rangeAt bb (ob + j * 297 + 1 + k * 74) ((List.range 74).map (nodeW (cl.F k) (.slice (VB k) (cl.V k).length (VD k))))) (by kernel_rfl) ?_; clear HRA HRB
       generalize wr.drew = wv at *
       refine Rg.tq 0 ⟨some 115, .move (.tmp 14), _, _, _, none⟩ rfl ?_; (try simp only [Rg.lp]); refine Rg.tq 1 ⟨some 116, .move (.tmp 20), _, _, _, none⟩ rfl ?_; (try simp only [Rg.lp]); refine Rg.tq 2 ⟨some 117, .move (.tmp 21), _, _, _, none⟩ rfl ?_; (try simp only [Rg.lp]); refine Rg.tq 3 ⟨some 118, .indexAddr 26 (.tmp 115) (.tmp 116), _, _, _, none⟩ rfl ?_; (try simp only [Rg.lp]); refine Rg.tq 4 ⟨some 119, .fieldAddr 48 (.tmp 118) 1, _, _, _, none⟩ rfl ?_; (try simp only [Rg.lp]); refine Rg.tq 5 ⟨some 120, .indexAddr 46 (.tmp 119) (.tmp 117), _, _, _, none⟩ rfl ?_; (try simp only [Rg.lp]); refine Rg.ts 6 ⟨some 121, .load 45 (.tmp 120), _, _, _, none⟩ (v := .agg (row 74 (nodeW (cl.F k) (.slice (VA k) (cl.V k).length (VC k))))) rfl HSS ?_ ?_
       · (intro w' hSw; exact exec_load_mid 45 _ rfl ba (oa + j * 297 + 1 + k * 74) 74 rfl _ _ hSw.1 Try.underlying45 rfl (by kernel_rfl))
       (try simp only [Rg.lp]); refine Rg.tq 7 ⟨some 122, .move (.tmp 17), _, _, _, none⟩ rfl ?_; (try simp only [Rg.lp]); refine Rg.tq 8 ⟨some 123, .move (.tmp 20), _, _, _, none⟩ rfl ?_; (try simp only [Rg.lp]); refine Rg.tq 9 ⟨some 124, .move (.tmp 21), _, _, _, none⟩ rfl ?_; (try simp only [Rg.lp]); refine Rg.tq 10 ⟨some 125, .indexAddr 26 (.tmp 122) (.tmp 123), _, _, _, none⟩ rfl ?_; (try simp only [Rg.lp]); refine Rg.tq 11 ⟨some 126, .fieldAddr 48 (.tmp 125) 1, _, _, _, none⟩ rfl ?_; (try simp only [Rg.lp]); refine Rg.tq 12 ⟨some 127, .indexAddr 46 (.tmp 126) (.tmp 124), _, _, _, none⟩ rfl ?_; (try simp only [Rg.lp]); refine Rg.ts 13 ⟨some 128, .load 45 (.tmp 127), _, _, _, none⟩ (v := .agg (row 74 (nodeW (cl.F k) (.slice (VB k) (cl.V k).length (VD k))))) rfl HSS ?_ ?_
       · (intro w' hSw; exact exec_load_mid 45 _ rfl bb (ob + j * 297 + 1 + k * 74) 74 rfl _ _ hSw.2 Try.underlying45 rfl (by kernel_rfl))
       (try simp only [Rg.lp]); refine Rg.or1 14 ⟨some 129, .call { callee := .value (.func 13), args := #[.tmp 121, .tmp 128], argTypes := _ }, _, _, _, none⟩ rfl ?_; refine Rg.stepS ?_; intro K hK; rw [if_pos (by rfl)]; go_simp; refine (twins_any (cl.F k) (cl.F k) (HSN.out.ok k hk4) (fun _ _ => rfl) (VA k) (VB k) (VC k) (VD k) (cl.V k) wv (by have := HSN.out.v k hk4; omega) (((HVA.out k hk4).2.2.1.below HBK.out).more HBK.out.size) (((HVB.out k hk4).2.2.1.below HBK.out).more HBK.out.size)).mono ?_; rintro e w10 ⟨rfl, hb⟩; replace HBK := zz (onward HBK.out (Nat.le_refl _) hb); replace HSS : w10.rangeAt ba (oa + j * 297 + 1 + k * 74) ((List.range 74).map (nodeW (cl.F k) (.slice (VA k) (cl.V k).length (VC k)))) ∧ w10.rangeAt bb (ob + j * 297 + 1 + k * 74) ((List.range 74).map (nodeW (cl.F k) (.slice (VB k) (cl.V k).length (VD k)))) := ⟨fun q v hv => (hb.cell (p := ⟨ba, oa + j * 297 + 1 + k * 74 + q, none⟩) HBA2.out).trans (HSS.1 q v hv), fun q v hv => (hb.cell (p := ⟨bb, ob + j * 297 + 1 + k * 74 + q, none⟩) HBB2.out).trans (HSS.2 q v hv)⟩; clear hb
       generalize wv = wq at *
       generalize w10 = wv at *
       refine hK.out _ _ HSS ?_; clear hK K; (try simp only [Rg.lp]); refine Rg.tq 15 ⟨some 130, .unOp UnOp.not 4 (.tmp 129), _, _, _, none⟩ rfl ?_; (try simp only [Rg.lp]); refine Rg.tq 16 ⟨some 131, .move (.tmp 130), _, _, _, none⟩ rfl ?_; (try simp only [Rg.lp]); refine Rg.tq 17 ⟨some 132, .move (.tmp 14), _, _, _, some (16, false)⟩ rfl ?_; (try simp only [Rg.lp]); refine Rg.tq 18 ⟨some 133, .move (.tmp 20), _, _, _, some (16, false)⟩ rfl ?_; (try simp only [Rg.lp]); refine Rg.tq 19 ⟨some 134, .move (.tmp 21), _, _, _, some (16, false)⟩ rfl ?_; (try simp only [Rg.lp]); refine Rg.tq 20 ⟨some 135, .indexAddr 26 (.tmp 132) (.tmp 133), _, _, _, some (16, false)⟩ rfl ?_; (try simp only [Rg.lp]); refine Rg.tq 21 ⟨some 136, .fieldAddr 48 (.tmp 135) 1, _, _, _, some (16, false)⟩ rfl ?_; (try simp only [Rg.lp]); refine Rg.tq 22 ⟨some 137, .indexAddr 46 (.tmp 136) (.tmp 134), _, _, _, some (16, false)⟩ rfl ?_; (try simp only [Rg.lp]); refine Rg.tq 23 ⟨some 138, .fieldAddr 45 (.tmp 137) 5, _, _, _, some (16, false)⟩ rfl ?_; (try simp only [Rg.lp]); refine Rg.ts 24 ⟨some 139, .load 40 (.tmp 138), _, _, _, some (16, false)⟩ (v := .agg (row 12 fun i => cl.F k (39 + i))) rfl HSS ?_ ?_
       · (intro w' hSw; exact exec_load_mid 40 _ rfl ba (oa + j * 297 + 1 + k * 74 + 39) 12 rfl _ _ (node_direct hSw.1) Try.underlying40 rfl (by kernel_rfl))
       (try simp only [Rg.lp]); refine Rg.tq 25 ⟨some 140, .move (.tmp 17), _, _, _, some (16, false)⟩ rfl ?_; (try simp only [Rg.lp]); refine Rg.tq 26 ⟨some 141, .move (.tmp 20), _, _, _, some (16, false)⟩ rfl ?_; (try simp only [Rg.lp]); refine Rg.tq 27 ⟨some 142, .move (.tmp 21), _, _, _, some (16, false)⟩ rfl ?_; (try simp only [Rg.lp]); refine Rg.tq 28 ⟨some 143, .indexAddr 26 (.tmp 140) (.tmp 141), _, _, _, some (16, false)⟩ rfl ?_; (try simp only [Rg.lp]); refine Rg.tq 29 ⟨some 144, .fieldAddr 48 (.tmp 143) 1, _, _, _, some (16, false)⟩ rfl ?_; (try simp only [Rg.lp]); refine Rg.tq 30 ⟨some 145, .indexAddr 46 (.tmp 144) (.tmp 142), _, _, _, some (16, false)⟩ rfl ?_; (try simp only [Rg.lp]); refine Rg.tq 31 ⟨some 146, .fieldAddr 45 (.tmp 145) 5, _, _, _, some (16, false)⟩ rfl ?_; (try simp only [Rg.lp]); refine Rg.ts 32 ⟨some 147, .load 40 (.tmp 146), _, _, _, some (16, false)⟩ (v := .agg (row 12 fun i => cl.F k (39 + i))) rfl HSS ?_ ?_
       · (intro w' hSw; exact exec_load_mid 40 _ rfl bb (ob + j * 297 + 1 + k * 74 + 39) 12 rfl _ _ (node_direct hSw.2) Try.underlying40 rfl (by kernel_rfl))
       (try simp only [Rg.lp]); refine Rg.tp 33 ⟨some 148, .binOp .neq 40 (.tmp 139) (.tmp 147) 40, _, _, _, some (16, false)⟩ (v := .bool false) rfl ?_ ?_
       · (intro w; exact exec_neq_same 40 _ _ _ rfl (d := 20) (ls := List.replicate 12 true) (by kernel_rfl) (by omega) Try.underlying40 rfl (by kernel_rfl) (by kernel_rfl) (fun i => cl.F k (39 + i)) rfl rfl HTD.out w)
       (try simp only [Rg.lp]); refine Rg.tq 34 ⟨some 149, .pick (.tmp 131) (.const (.bool true)) (.tmp 148), _, _, _, none⟩ rfl ?_; (try simp only [Rg.lp]); refine Rg.doneR (by kernel_rfl) ?_ _; refine NoPanic.normal ?_; clear HSS; go_wp2_with fail; exact ⟨⟨k + 1, by omega, by go_num, HBK.out⟩, by simp [intOf]; omega⟩
      ·
       obtain rfl : k = 4 := by omega
       clear hk4
       generalize wr = wm at *
       have yo := (HBK.out.cell (p := ⟨bo, oo + j, none⟩) (Nat.lt_of_lt_of_le HBO.out HBR.out.size)).trans HYO.out; go_wp2_with fail; clear yo
       go_loopw [155] (fun v wr => ∃ k : Nat, k ≤ rp.2 ∧ v = .int .i64 (k : Int) ∧ Below wm.heap.size wm wr) (fun v _ => rp.2 - (intOf v).toNat)
       case atStart => exact ⟨0, by omega, rfl, Below.refl _ _⟩
       case round =>
        obtain ⟨k, hk, rfl, hbk⟩ := hrel; have HBQ := zz hbk; clear hbk
        by_cases hlk : k < rp.2
        ·
         have hk0 : (0 : Int) ≤ (k : Int) := by omega
         have hk1 : (k : Int) < (rp.2 : Int) := by omega
         obtain ⟨g, hg1, hg2⟩ := HRU.out k hlk; obtain ⟨br, orr, rfl, hbr, hrr⟩ := HRD.out.2 (by omega); obtain ⟨br2, or2, rfl, hbr2, hrr2⟩ := HRD2.out.2 (by omega)
         have HRR := zz (show wr.rangeAt br (orr + k * 14) ((List.range 14).map (repF g)) from fun i v hv => by
          have hi : i < 14 := by have := (List.getElem?_eq_some_iff.1 hv).1; simpa using this
          rw [List.getElem?_map, List.getElem?_range hi] at hv; have h2 := hrr _ _ (hg1 i hi); rw [← Nat.add_assoc] at h2; rw [HBQ.out.cell (p := ⟨br, orr + k * 14 + i, none⟩) (Nat.lt_of_lt_of_le hbr HBK.out.size), HBK.out.cell (p := ⟨br, orr + k * 14 + i, none⟩) hbr, h2]
          exact hv)
         have HRR2 := zz (show wr.rangeAt br2 (or2 + k * 14) ((List.range 14).map (repF g)) from fun i v hv => by
          have hi : i < 14 := by have := (List.getElem?_eq_some_iff.1 hv).1; simpa using this
          rw [List.getElem?_map, List.getElem?_range hi] at hv; have h2 := hrr2 _ _ (hg1 i hi); rw [← Nat.add_assoc] at h2; rw [HBQ.out.cell (p := ⟨br2, or2 + k * 14 + i, none⟩) (Nat.lt_of_lt_of_le hbr2 HBK.out.size), HBK.out.cell (p := ⟨br2, or2 + k * 14 + i, none⟩) hbr2, h2]
          exact hv)
         have HYP := zz ((HBQ.out.cell (p := ⟨bo, oo + j, none⟩) (Nat.lt_of_lt_of_le (Nat.lt_of_lt_of_le HBO.out HBR.out.size) HBK.out.size)).trans ((HBK.out.cell (p := ⟨bo, oo + j, none⟩) (Nat.lt_of_lt_of_le HBO.out HBR.out.size)).trans HYO.out)); have HYP2 := zz ((HBQ.out.cell (p := ⟨bo2, oo2 + j, none⟩) (Nat.lt_of_lt_of_le (Nat.lt_of_lt_of_le HBO2.out HBR.out.size) HBK.out.size)).trans ((HBK.out.cell (p := ⟨bo2, oo2 + j, none⟩) (Nat.lt_of_lt_of_le HBO2.out HBR.out.size)).trans HYO2.out)); have HTR := zz (rep_typed hg2); clear hg1 hg2 hbr hrr hbr2 hrr2
         go_upto_region 34 with fail
         have hbd : Below wr.heap.size wr wr.drew := (Below.refl _ _).drew; replace HBQ := zz (onward HBQ.out (Nat.le_refl _) hbd); clear hbd; refine wp_region_noPanic ?_; have HSS : wr.drew.cell? ⟨bo, oo + j, none⟩ = some (.slice (some ⟨br, orr, none⟩) rp.2 RC) ∧ wr.drew.rangeAt br (orr + k * 14) ((List.range 14).map (repF g)) ∧ wr.drew.cell? ⟨bo2, oo2 + j, none⟩ = some (.slice (some ⟨br2, or2, none⟩) rp.2 RC2) ∧ wr.drew.rangeAt br2 (or2 + k * 14) ((List.range 14).map (repF g)) := ⟨HYP.out, HRR.out, HYP2.out, HRR2.out⟩; refine Rg.beginR [3, 6, 10, 13] (fun w' => w'.cell? ⟨bo, oo + j, none⟩ = some (.slice (some ⟨br, orr, none⟩) rp.2 RC) ∧ w'.rangeAt br (orr + k * 14) ((List.range 14).map (repF g)) ∧ w'.cell? ⟨bo2, oo2 + j, none⟩ = some (.slice (some ⟨br2, or2, none⟩) rp.2 RC2) ∧ w'.rangeAt br2 (or2 + k * 14) ((List.range 14).map (repF g))) (by kernel_rfl) ?_
         generalize wr.drew = wv at *
         refine Rg.tq 0 ⟨some 158, .move (.tmp 15), _, _, _, none⟩ rfl ?_; (try simp only [Rg.lp]); refine Rg.tq 1 ⟨some 159, .move (.tmp 20), _, _, _, none⟩ rfl ?_; (try simp only [Rg.lp]); refine Rg.tq 2 ⟨some 160, .indexAddr 27 (.tmp 158) (.tmp 159), _, _, _, none⟩ rfl ?_; (try simp only [Rg.lp]); refine Rg.tr 3 ⟨some 161, .load 51 (.tmp 160), _, _, _, none⟩ rfl HSS ?_; (try simp only [Rg.lp]); refine Rg.tq 4 ⟨some 162, .move (.tmp 22), _, _, _, none⟩ rfl ?_; (try simp only [Rg.lp]); refine Rg.tq 5 ⟨some 163, .indexAddr 51 (.tmp 161) (.tmp 162), _, _, _, none⟩ rfl ?_; (try simp only [Rg.lp]); refine Rg.ts 6 ⟨some 164, .load 53 (.tmp 163), _, _, _, none⟩ (v := .agg (row 14 (repF g))) rfl HSS ?_ ?_
         · (intro w' hSw; exact exec_load_mid 53 _ rfl br (orr + k * 14) 14 rfl _ _ hSw.2.1 Try.underlying53 rfl (by kernel_rfl))
         (try simp only [Rg.lp]); refine Rg.tq 7 ⟨some 165, .move (.tmp 18), _, _, _, none⟩ rfl ?_; (try simp only [Rg.lp]); refine Rg.tq 8 ⟨some 166, .move (.tmp 20), _, _, _, none⟩ rfl ?_; (try simp only [Rg.lp]); refine Rg.tq 9 ⟨some 167, .indexAddr 27 (.tmp 165) (.tmp 166), _, _, _, none⟩ rfl ?_; (try simp only [Rg.lp]); refine Rg.tr 10 ⟨some 168, .load 51 (.tmp 167), _, _, _, none⟩ rfl HSS ?_; (try simp only [Rg.lp]); refine Rg.tq 11 ⟨some 169, .move (.tmp 22), _, _, _, none⟩ rfl ?_; (try simp only [Rg.lp]); refine Rg.tq 12 ⟨some 170, .indexAddr 51 (.tmp 168) (.tmp 169), _, _, _, none⟩ rfl ?_; (try simp only [Rg.lp]); refine Rg.ts 13 ⟨some 171, .load 53 (.tmp 170), _, _, _, none⟩ (v := .agg (row 14 (repF g))) rfl HSS ?_ ?_
         · (intro w' hSw; exact exec_load_mid 53 _ rfl br2 (or2 + k * 14) 14 rfl _ _ hSw.2.2.2 Try.underlying53 rfl (by kernel_rfl))
         (try simp only [Rg.lp]); refine Rg.tp 14 ⟨some 172, .binOp .neq 53 (.tmp 164) (.tmp 171) 53, _, _, _, none⟩ (v := .bool false) rfl ?_ ?_
         · (intro w; exact exec_neq_same 53 _ _ _ rfl (d := 20) (ls := repB) (by kernel_rfl) (by omega) Try.underlying53 rfl (by kernel_rfl) (by kernel_rfl) (repF g) rfl rfl HTR.out w)
         (try simp only [Rg.lp]); refine Rg.doneR (by kernel_rfl) ?_ _; refine NoPanic.normal ?_; clear HSS; go_wp2_with fail; exact ⟨⟨k + 1, by omega, by go_num, HBQ.out⟩, by simp [intOf]; omega⟩
        ·
         obtain rfl : k = rp.2 := by omega
         clear hlk; go_wp2_with fail; exact ⟨⟨j + 1, by omega, by go_num, onward HBR.out (Nat.le_refl _) (onward HBK.out (Nat.le_refl _) HBQ.out)⟩, by simp [intOf]; omega⟩
    ·
     obtain rfl : j = (ones bd xs).length := by omega
     clear hlj; go_wp2_with fail
     go_ret
     exact ⟨rfl, by rw [HGT.out]; exact onward HB.out (Nat.le_of_eq HGT.out.symm) HBR.out⟩
set_option maxRecDepth 100000 in
set_option maxHeartbeats 1000000 in
theorem lifted (os : Os) (started : os.Started) (H : Type) (enc : TypeId × Value → H) :
  ReturnsInHanded {} Try.checked os 6 .any (Rows.topNoiseSpec.pre6 enc Try.prog Try.f6 Rows.topNoiseRow.domain false) (Rows.topNoiseSpec.post enc Try.prog Try.f6 false true false false) := by
 refine returnsInHanded_of_change_sized (C := Try.checked) Fr.own started (by kernel_rfl) Try.func6
  (ChangeSpec.witness6 (enc := enc) (C := Try.checked) false ⟨#[], #[.agg #[.int .i64 0, .int .i64 0, .int .i64 0, .int .i64 0], .slice none 0 0, .int .i64 0], []⟩ 8 (by kernel_rfl) (by kernel_rfl) (by kernel_rfl) (by kernel_rfl)) ?_
 intro W base args ds gs before hval0 hW _ hsz0 _; have hval : ∀ (j : Nat) t v, Try.f6.params[j]? = some t → args[j]? = some v → Value.okWide Try.prog W .any base t v := hval0; have hsz : (DataW.weightsEach Try.prog (Try.f6.params.toList ++ Rows.topNoiseSpec.plain.varTypes Try.prog) (ds ++ gs)).all (· ≤ reachBytes) = true := hsz0; clear hval0 hsz0; obtain ⟨p, q, hA0, hV0, _⟩ := id hW; have hA : DataW.TrodAll enc Try.prog W 0 (fun _ => true) true Try.f6.params.toList args.toList ds p := hA0; rw [Try.params6] at hA hval hsz; obtain ⟨v0, vs0, d0, ds0, p0, q0, hargs, rfl, rfl, h0, r0⟩ := trodAll_cons hA; obtain ⟨v1, vs1, d1, ds1, p1, q1, rfl, rfl, rfl, h1, r1⟩ := trodAll_cons r0; obtain ⟨v2, vs2, d2, ds2, p2, q2, rfl, rfl, rfl, h2, r2⟩ := trodAll_cons r1; obtain ⟨rfl, rfl, rfl⟩ := trodAll_nil r2
 obtain rfl : args = #[v0, v1, v2] := by cases args; simp_all
 obtain ⟨rfl, rfl⟩ := trodVars_none hV0
 refine Fr.of_walk (f := Try.f6) Fr.laidOut (by rw [Try.params6]; intro t ht; simp at ht; (rcases ht with rfl | rfl | rfl) <;> exact ⟨by kernel_rfl, of_decide_eq_true (by kernel_rfl)⟩) rfl rfl Try.underlying4 (fun _ => rfl) hW ?_
 clear hW hA hA0 hV0; obtain ⟨cs0, rfl⟩ := Op.okWide_agg (t := 23) (by kernel_rfl) (hval 0 23 v0 rfl rfl); have k0 := Op.flat_arg (ls := [3,3,3,3]) (by kernel_rfl) h0 (Op.light_of_each (j := 0) hsz rfl rfl); obtain ⟨y0_0, l0, e0, f0_0, k0⟩ := k0.cons; obtain ⟨y0_1, l0, rfl, f0_1, k0⟩ := k0.cons; obtain ⟨y0_2, l0, rfl, f0_2, k0⟩ := k0.cons; obtain ⟨y0_3, l0, rfl, f0_3, k0⟩ := k0.cons; obtain rfl := k0.nil_; obtain rfl := Op.arr_of e0; obtain ⟨t0, rfl, wf_t0⟩ := f0_0.int Try.underlying3; obtain ⟨t1, rfl, wf_t1⟩ := f0_1.int Try.underlying3; obtain ⟨t2, rfl, wf_t2⟩ := f0_2.int Try.underlying3; obtain ⟨t3, rfl, wf_t3⟩ := f0_3.int Try.underlying3; obtain ⟨AI, ci, xs, rfl, hxc, hxb, _, hxs, hxw⟩ := Cf.openInputs (hval 1 24 v1 rfl rfl) h1 (Op.light_of_each (j := 1) hsz rfl rfl); obtain ⟨bad, rfl, rfl, rfl, wf_bad⟩ := open_int Try.underlying3 (hval 2 3 v2 rfl rfl) h2; have bd_bad := Op.wf_i64 wf_bad; exact walk t0 t1 t2 t3 ⟨wf_t0, wf_t1, wf_t2, wf_t3⟩ AI ci xs (by omega) (fun x hx => (hxw x hx).1) bad bd_bad W hxs (fun x hx => (hxw x hx).2)
set_option maxHeartbeats 2000000 in
theorem closedFacts : joinedFacts Try.prog 6 Try.f6 Rows.topNoiseSpec Rows.topNoiseRow = true := by
 unfold joinedFacts
 simp only [Bool.and_eq_true]
 and_intros
 · as_aux_lemma => kernel_rfl
 · exact Fr.laidOut
 · exact Facts.mapsRowed_
 · as_aux_lemma => kernel_rfl
 · as_aux_lemma => kernel_rfl
 · as_aux_lemma => kernel_rfl
 · exact Facts.stops_
 · as_aux_lemma => kernel_rfl
 · exact Facts.knobs_
 · as_aux_lemma => kernel_rfl
 · as_aux_lemma => kernel_rfl
 · as_aux_lemma => kernel_rfl
 · as_aux_lemma => kernel_rfl
 · as_aux_lemma => kernel_rfl
 · as_aux_lemma => kernel_rfl
 · as_aux_lemma => kernel_rfl
 · as_aux_lemma => kernel_rfl
 · as_aux_lemma => kernel_rfl
 · as_aux_lemma => kernel_rfl
 · as_aux_lemma => kernel_rfl
 · as_aux_lemma => kernel_rfl
 · as_aux_lemma => kernel_rfl
 · exact Facts.keys_
 · as_aux_lemma => kernel_rfl
 · exact Facts.heard_
 · exact Facts.enter_
 · exact Facts.lifts_
 · exact Facts.make_
 · as_aux_lemma => kernel_rfl
 · as_aux_lemma => kernel_rfl
 · as_aux_lemma => kernel_rfl
 · as_aux_lemma => kernel_rfl
theorem proved : Rows.TopNoiseSaid :=
 OpenClaim.holds_of_wide 6 Try.f6 rfl rfl rfl rfl rfl rfl rfl ⟨rfl, rfl, rfl, rfl, rfl⟩ rfl rfl rfl rfl rfl (by kernel_rfl) Try.func6 closedFacts
  (of_decide_eq_true (by kernel_rfl)) (by unfold Func.isWrapper; first | (rw [if_pos (by decide +kernel)]; kernel_rfl) | (rw [if_neg (by decide +kernel)]; exact ⟨rfl, rfl⟩))
  (fun os started H enc _ => lifted os started H enc)
end lawTopNoise
end Go.Proofs.Ytobigbnmbnhikaa
