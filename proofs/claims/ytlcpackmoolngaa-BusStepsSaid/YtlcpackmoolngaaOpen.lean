/- How a reading of an argument opens: a struct or an array of whatever depth into its cells; a slice into its elements' cells. -/
import Derived.Test.YtlcpackmoolngaaFrame
import Derived.Test.YtlcpackmoolngaaMem
import Derived.Deep.Slices
namespace Go.Proofs.Ytlcpackmoolngaa.Op
open Go.ChangeShapes Go.WideShapes Go.ChangeAt Go.RowKit Go.Proofs.Ytlcpackmoolngaa.Mem

/-- The types of a type's cells, in order; none where the table's offsets do not follow one another. -/
def fieldLeaves (L : TypeId → Option (List TypeId)) (C : TypeId → Nat) : Nat → List Field → Option (List TypeId)
  | _, [] => some []
  | off, f :: fs =>
    match L f.type with
    | none => none
    | some l =>
      if f.offset = off ∧ C f.type = l.length then
        match fieldLeaves L C (off + l.length) fs with
        | none => none
        | some r => some (l ++ r)
      else none

def leaves (P : Program) : Nat → TypeId → Option (List TypeId)
  | 0, _ => none
  | d + 1, t =>
    match P.underlying t with
    | some (.struct fs) =>
      match fieldLeaves (leaves P d) P.cellsOf 0 fs.toList with
      | some l => if P.cellsOf t = l.length then some l else none
      | none => none
    | some (.array n e) =>
      match leaves P d e with
      | some l => if P.cellsOf e = l.length ∧ P.cellsOf t = n * l.length then some (List.replicate n l).flatten else none
      | none => none
    | some _ => some [t]
    | none => none

section
variable {H : Type} (enc : TypeId × Value → H) (P : Program) (w : World) (base : Nat) (spare : Nat → Bool) (held : Bool)

/-- What a datum takes up is within the form's reach. -/
def Light (t : TypeId) (d : DataW H) : Prop := ∀ k ∈ d.weights P t, k ≤ reachBytes

/-- One cell reads at one type, within the reach. -/
def Leaf (t : TypeId) (v : Value) : Prop := ∃ n y, DataW.trod enc P w base spare held n t [v] = some y ∧ Light P t y.1

/-- A row of cells reads, cell by cell. -/
def Cells : List TypeId → List Value → Prop
  | [], [] => True
  | t :: ts, v :: vs => Leaf enc P w base spare held t v ∧ Cells ts vs
  | _, _ => False
end

section
variable {H : Type} {enc : TypeId × Value → H} {P : Program} {w : World} {base : Nat} {spare : Nat → Bool} {held : Bool}

theorem Cells.length : ∀ {ts : List TypeId} {vs : List Value}, Cells enc P w base spare held ts vs → vs.length = ts.length
  | [], [], _ => rfl
  | _ :: _, _ :: _, h => by simp [Cells.length h.2]
  | [], _ :: _, h => h.elim
  | _ :: _, [], h => h.elim

theorem Cells.append : ∀ {ts ts' : List TypeId} {vs vs' : List Value}, Cells enc P w base spare held ts vs → Cells enc P w base spare held ts' vs' → Cells enc P w base spare held (ts ++ ts') (vs ++ vs')
  | [], _, [], _, _, h' => h'
  | _ :: _, _, _ :: _, _, h, h' => ⟨h.1, Cells.append h.2 h'⟩
  | [], _, _ :: _, _, h, _ => h.elim
  | _ :: _, _, [], _, h, _ => h.elim

theorem Cells.cons {t : TypeId} {ts : List TypeId} {vs : List Value} (h : Cells enc P w base spare held (t :: ts) vs) : ∃ v vs', vs = v :: vs' ∧ Leaf enc P w base spare held t v ∧ Cells enc P w base spare held ts vs' := by
  cases vs with
  | nil => exact h.elim
  | cons v vs' => exact ⟨v, vs', rfl, h.1, h.2⟩

theorem Cells.nil_ {vs : List Value} (h : Cells enc P w base spare held [] vs) : vs = [] := by
  cases vs with
  | nil => rfl
  | cons v vs' => exact h.elim

theorem take_drop_split (cs : List Value) (off a b : Nat) : (cs.drop off).take (a + b) = (cs.drop off).take a ++ (cs.drop (off + a)).take b := by
  rw [List.take_add, List.drop_drop]

theorem mapM_cons_some {α β : Type} {f : α → Option β} {a : α} {l : List α} {r : List β} (h : (a :: l).mapM f = some r) : ∃ b r', f a = some b ∧ l.mapM f = some r' ∧ r = b :: r' := by
  rw [List.mapM_cons] at h
  cases hf : f a with
  | none => simp [hf] at h
  | some b =>
    cases hl : l.mapM f with
    | none => simp [hf, hl] at h
    | some r' => simp [hf, hl] at h; exact ⟨b, r', rfl, rfl, h.symm⟩

theorem mapM_mem_some {α β : Type} {f : α → Option β} : ∀ {l : List α} {r : List β}, l.mapM f = some r → ∀ a ∈ l, ∃ b, f a = some b
  | [], _, _, a, ha => by cases ha
  | x :: l, r, h, a, ha => by
    obtain ⟨b, r', h1, h2, _⟩ := mapM_cons_some h
    cases List.mem_cons.1 ha with
    | inl e => subst e; exact ⟨b, h1⟩
    | inr e => exact mapM_mem_some h2 a e

theorem mapM_mem_in {α β : Type} {f : α → Option β} : ∀ {l : List α} {r : List β}, l.mapM f = some r → ∀ a ∈ l, ∃ b, f a = some b ∧ b ∈ r
  | [], _, _, a, ha => by cases ha
  | x :: l, r, h, a, ha => by
    obtain ⟨b, r', h1, h2, rfl⟩ := mapM_cons_some h
    cases List.mem_cons.1 ha with
    | inl e => subst e; exact ⟨b, h1, List.mem_cons_self⟩
    | inr e => obtain ⟨b', hb1, hb2⟩ := mapM_mem_in h2 a e; exact ⟨b', hb1, List.mem_cons_of_mem _ hb2⟩

theorem light_of_all {e : TypeId} : ∀ {ds : List (DataW H)}, (∀ k ∈ DataW.weightsAll P e ds, k ≤ reachBytes) → ∀ {d : DataW H}, d ∈ ds → Light P e d
  | [], _, _, hd => by cases hd
  | x :: ds, h, d, hd => by
    simp only [DataW.weightsAll, List.mem_append] at h
    cases List.mem_cons.1 hd with
    | inl e => subst e; exact fun k hk => h k (Or.inl hk)
    | inr e => exact light_of_all (fun k hk => h k (Or.inr hk)) e

theorem light_of_each {ts : List TypeId} {ds : List (DataW H)} (h : (DataW.weightsEach P ts ds).all (· ≤ reachBytes) = true) {j : Nat} {t : TypeId} {d : DataW H} (ht : ts[j]? = some t) (hd : ds[j]? = some d) : Light P t d :=
  fun k hk => by simpa using List.all_eq_true.1 h _ (DataW.weights_mem_each ht hd k hk)

theorem flat_fields {d n : Nat} (ih : ∀ t ls, leaves P d t = some ls → ∀ cs x, DataW.trod enc P w base spare held n t cs = some x → Light P t x.1 → Cells enc P w base spare held ls cs) (cs : List Value) :
    ∀ (fs : List Field) (off : Nat) (ls : List TypeId) (xs : List (DataW H × List MemPlace)), fieldLeaves (leaves P d) P.cellsOf off fs = some ls →
      fs.mapM (fun f => DataW.trod enc P w base spare held n f.type ((cs.drop f.offset).take (P.cellsOf f.type))) = some xs →
      (∀ k ∈ DataW.weightsEach P (fs.map (·.type)) (xs.map (·.1)), k ≤ reachBytes) →
      Cells enc P w base spare held ls ((cs.drop off).take ls.length)
  | [], off, ls, xs, hl, _, _ => by
    simp only [fieldLeaves, Option.some.injEq] at hl
    subst hl
    simp [Cells]
  | f :: fs, off, ls, xs, hl, h, hwt => by
    obtain ⟨b, r', h1, h2, rfl⟩ := mapM_cons_some h
    simp only [List.map_cons, DataW.weightsEach, List.mem_append] at hwt
    unfold fieldLeaves at hl
    cases hL : leaves P d f.type with
    | none => simp [hL] at hl
    | some l =>
      simp only [hL] at hl
      split at hl
      · rename_i hc
        obtain ⟨ho, hC⟩ := hc
        cases hr : fieldLeaves (leaves P d) P.cellsOf (off + l.length) fs with
        | none => simp [hr] at hl
        | some r =>
          simp only [hr, Option.some.injEq] at hl
          subst hl
          rw [List.length_append, take_drop_split]
          rw [ho, hC] at h1
          exact Cells.append (ih _ _ hL _ _ h1 (fun k hk => hwt k (Or.inl hk))) (flat_fields ih cs fs _ _ _ hr h2 (fun k hk => hwt k (Or.inr hk)))
      · cases hl

theorem flat_array {l : List TypeId} {n : Nat} {e : TypeId} (ih : ∀ cs x, DataW.trod enc P w base spare held n e cs = some x → Light P e x.1 → Cells enc P w base spare held l cs) (cs : List Value) :
    ∀ (m k : Nat), (∀ i, i < k + m → ∃ y, DataW.trod enc P w base spare held n e ((cs.drop (i * l.length)).take l.length) = some y ∧ Light P e y.1) →
      Cells enc P w base spare held (List.replicate m l).flatten ((cs.drop (k * l.length)).take (m * l.length))
  | 0, k, _ => by simp [Cells]
  | m + 1, k, h => by
    obtain ⟨y, hy, hlt⟩ := h k (by omega)
    rw [List.replicate_succ, List.flatten_cons, Nat.succ_mul, Nat.add_comm (m * l.length), take_drop_split]
    refine Cells.append (ih _ _ hy hlt) ?_
    have e1 : k * l.length + l.length = (k + 1) * l.length := by rw [Nat.succ_mul]
    rw [e1]
    exact flat_array ih cs m (k + 1) (fun i hi => h i (by omega))

/-- A READING OPENED: its cells read, each at its own type. -/
theorem flat : ∀ (d : Nat) (t : TypeId) (ls : List TypeId), leaves P d t = some ls → ∀ (n : Nat) (cs : List Value) (x : DataW H × List MemPlace), DataW.trod enc P w base spare held n t cs = some x → Light P t x.1 → Cells enc P w base spare held ls cs
  | 0, _, _, h, _, _, _, _, _ => by simp [leaves] at h
  | d + 1, t, ls, h, 0, cs, x, hx, _ => by simp [DataW.trod] at hx
  | d + 1, t, ls, h, n + 1, cs, x, hx, hlight => by
    have hx0 := hx
    unfold leaves at h
    unfold DataW.trod at hx
    cases hu : P.underlying t with
    | none => simp [hu] at h
    | some u =>
      by_cases hs : ∃ fs, u = .struct fs
      · obtain ⟨fs, rfl⟩ := hs
        simp only [hu] at h hx
        cases hf : fieldLeaves (leaves P d) P.cellsOf 0 fs.toList with
        | none => simp [hf] at h
        | some l =>
          simp only [hf] at h
          split at h
          · rename_i hc
            simp only [Option.some.injEq] at h
            subst h
            split at hx
            · rename_i hlen
              simp only [Option.map_eq_some_iff] at hx
              obtain ⟨xs, hxs, rfl⟩ := hx
              have hwt : ∀ k ∈ DataW.weightsEach P (fs.toList.map (·.type)) (xs.map (·.1)), k ≤ reachBytes := by simpa [Light, DataW.weights, hu] using hlight
              have := flat_fields (fun t ls hl cs x hx => flat d t ls hl n cs x hx) cs fs.toList 0 l xs hf hxs hwt
              rwa [List.drop_zero, List.take_of_length_le (by omega)] at this
            · cases hx
          · cases h
      · by_cases ha : ∃ m e, u = .array m e
        · obtain ⟨m, e, rfl⟩ := ha
          simp only [hu] at h hx
          cases hf : leaves P d e with
          | none => simp [hf] at h
          | some l =>
            simp only [hf] at h
            split at h
            · rename_i hc
              simp only [Option.some.injEq] at h
              subst h
              split at hx
              · rename_i hlen
                simp only [Option.map_eq_some_iff] at hx
                obtain ⟨xs, hxs, rfl⟩ := hx
                have hwt : ∀ k ∈ DataW.weightsAll P e (xs.map (·.1)), k ≤ reachBytes := by simpa [Light, DataW.weights, hu] using hlight
                have := flat_array (l := l) (n := n) (e := e) (fun cs x hx => flat d e l hf n cs x hx) cs m 0 (fun i hi => by
                  obtain ⟨y, hy, hmem⟩ := mapM_mem_in hxs i (List.mem_range.2 (by omega))
                  rw [hc.1] at hy
                  exact ⟨y, hy, light_of_all hwt (List.mem_map.2 ⟨y, hmem, rfl⟩)⟩)
                rwa [Nat.zero_mul, List.drop_zero, List.take_of_length_le (by rw [hlen, hc.2]; exact Nat.le_refl _)] at this
              · cases hx
            · cases h
        · have hone : ls = [t] := by
            rw [hu] at h
            cases u <;> simp_all
          subst hone
          have hsing : ∃ v, cs = [v] := by
            rw [hu] at hx
            split at hx <;> simp_all
          obtain ⟨v, rfl⟩ := hsing
          exact ⟨⟨n + 1, x, hx0, hlight⟩, trivial⟩

/-- An argument of whatever type, opened into its cells. -/
theorem flat_arg {t : TypeId} {ls : List TypeId} {v : Value} {d : DataW H} {ps : List MemPlace} (hl : leaves P 20 t = some ls) (h : DataW.Trod enc P w base spare held t v d ps) (hlt : Light P t d) : Cells enc P w base spare held ls v.cells.toList := by
  obtain ⟨n, hn⟩ := h
  exact flat 20 t ls hl n _ _ hn hlt

/-- A struct or array value is the row of its cells. -/
theorem okWide_agg {r : Reach} {b0 : Nat} {t : TypeId} {v : Value} (hs : (match P.underlying t with | some (.struct _) | some (.array _ _) => true | _ => false) = true) (hv : Value.okWide P w r b0 t v) : ∃ cs : Array Value, v = .agg cs := by
  unfold Value.okWide at hv
  split at hv
  · obtain ⟨cs, h, _⟩ := hv; exact ⟨cs, h⟩
  · obtain ⟨cs, h, _⟩ := hv; exact ⟨cs, h⟩
  · split at hs <;> simp_all

theorem Leaf.int {t : TypeId} {k : IntKind} {v : Value} (ht : P.underlying t = some (.int k)) (h : Leaf enc P w base spare held t v) : ∃ m, v = .int k m ∧ (Lit.int k m).wf = true := by
  obtain ⟨n, y, hy, _⟩ := h
  obtain ⟨m, h1, _, hw⟩ := DataW.trod_int ht hy
  simp at h1
  exact ⟨m, h1, hw⟩

theorem Leaf.bool {t : TypeId} {v : Value} (ht : P.underlying t = some .bool) (h : Leaf enc P w base spare held t v) : ∃ b, v = .bool b := by
  obtain ⟨n, y, hy, _⟩ := h
  cases n with
  | zero => simp [DataW.trod] at hy
  | succ n =>
    unfold DataW.trod at hy
    rw [ht] at hy
    split at hy <;> simp_all

theorem wf_i64 {m : Int} (h : (Lit.int .i64 m).wf = true) : -9223372036854775808 ≤ m ∧ m ≤ 9223372036854775807 := by
  simpa [Lit.wf, IntKind.min, IntKind.max, IntKind.signed, IntKind.bits] using h
theorem wf_u8 {m : Int} (h : (Lit.int .u8 m).wf = true) : 0 ≤ m ∧ m ≤ 255 := by
  simpa [Lit.wf, IntKind.min, IntKind.max, IntKind.signed, IntKind.bits] using h

theorem cells_of {a : Addr} {n : Nat} {cs : List Value} (h : w.cells? base a n = some cs) : cs.length = n ∧ ∀ k, k < n → w.cell? (a.add k) = cs[k]? := by
  unfold World.cells? at h
  split at h
  · have hlen : cs.length = n := by
      have : ∀ (l : List Nat) (r : List Value), l.mapM (fun i => w.cell? (a.add i)) = some r → r.length = l.length := by
        intro l
        induction l with
        | nil => intro r h; simp at h; simp [h.symm]
        | cons x l ih => intro r h; obtain ⟨b, r', _, h2, rfl⟩ := mapM_cons_some h; simp [ih _ h2]
      simpa using this _ _ h
    refine ⟨hlen, fun k hk => ?_⟩
    have : ∀ (l : List Nat) (r : List Value), l.mapM (fun i => w.cell? (a.add i)) = some r → ∀ (j x : Nat), l[j]? = some x → w.cell? (a.add x) = r[j]? := by
      intro l
      induction l with
      | nil => intro r h j x hx; simp at hx
      | cons x l ih =>
        intro r h j y hy
        obtain ⟨b, r', h1, h2, rfl⟩ := mapM_cons_some h
        cases j with
        | zero => simp at hy; subst hy; simpa using h1
        | succ j => simp at hy; simpa using ih _ h2 j y hy
    exact this _ _ h k k (by simp [hk])
  · cases h

theorem add_lit (b o : Nat) (s : Option Nat) (n : Nat) (h : s = none) : (⟨b, o, s⟩ : Addr).add n = ⟨b, o + n, none⟩ := by
  subst h; unfold Addr.add; split <;> simp_all

/-- A SLICE OPENED: its elements' cells in one row, each element's cells reading at the element's types. -/
theorem Leaf.slice {t e : TypeId} {v : Value} {le : List TypeId} (ht : P.underlying t = some (.slice e)) (hle : leaves P 20 e = some le) (hce : P.cellsOf e = le.length) (hpos : 0 < le.length) (hsp : ∀ b, spare b = true) (h : Leaf enc P w base spare held t v) :
    ∃ (A : Option Addr) (n c : Nat) (xs : List Value), v = .slice A n c ∧ n ≤ c ∧ c ≤ maxLen ∧ c * P.bytesOf e ≤ reachBytes ∧ (A = none → c = 0) ∧ Rd w w.heap.size le.length A n xs ∧
      ∀ i, i < n → Cells enc P w base spare held le ((xs.drop (i * le.length)).take le.length) := by
  obtain ⟨fuel, y, hy, hlight⟩ := h
  rcases Deep.open_slice ht hy with ⟨hcs, _⟩ | ⟨a, len, cap, m, n, D, Pl, hcs, hb, hlc, hcm, hm, rfl, hel⟩
  · simp at hcs
    subst hcs
    exact ⟨none, 0, 0, [], rfl, by omega, by omega, by omega, fun _ => rfl, Rd.nil _ _ _ _, fun i hi => by omega⟩
  · simp at hcs
    subst hcs
    have hmc : m = cap := by rw [hm, if_pos (hsp _)]
    subst hmc
    clear hm
    have hlm : len ≤ m := hlc
    simp only [Light, DataW.weights, ht, List.length_map, List.length_range, List.mem_cons, List.mem_append] at hlight
    have hbytes : m * P.bytesOf e ≤ reachBytes := by
      have := hlight _ (Or.inl rfl)
      rwa [show len + (m - len) = m by omega] at this
    have hwt : ∀ k ∈ DataW.weightsAll P e ((List.range len).map D), k ≤ reachBytes := fun k hk => hlight k (Or.inr (Or.inl hk))
    have hex : ∀ i, i < len → ∃ cs' : List Value, (cs'.length = le.length ∧ ∀ k, k < le.length → w.cell? ((a.add (i * le.length)).add k) = cs'[k]?) ∧ Cells enc P w base spare held le cs' := by
      intro i hi
      obtain ⟨cs', h1, h2⟩ := hel i (by omega)
      rw [hce] at h1
      exact ⟨cs', cells_of h1, flat 20 e le hle _ _ _ h2 (light_of_all hwt (List.mem_map.2 ⟨i, List.mem_range.2 hi, rfl⟩))⟩
    obtain ⟨f, hf⟩ := Deep.choose_lt hex
    have hlenf : ∀ i, i < len → (f i).length = le.length := fun i hi => (hf i hi).1.1
    -- the row of all cells
    have hrow : ∀ k, k ≤ len → (((List.range k).map f).flatten).length = k * le.length ∧ ∀ i, i < k → ((((List.range k).map f).flatten).drop (i * le.length)).take le.length = f i := by
      intro k
      induction k with
      | zero => intro _; simp
      | succ k ih =>
        intro hk
        obtain ⟨h1, h2⟩ := ih (by omega)
        rw [List.range_succ, List.map_append, List.flatten_append]
        simp only [List.map_cons, List.map_nil, List.flatten_cons, List.flatten_nil, List.append_nil]
        refine ⟨by rw [List.length_append, h1, hlenf k (by omega), Nat.succ_mul], fun i hi => ?_⟩
        by_cases hik : i = k
        · subst hik
          rw [List.drop_append, h1, List.drop_of_length_le (by omega)]
          simp only [Nat.sub_self, List.drop_zero, List.nil_append]
          exact List.take_of_length_le (by rw [hlenf i (by omega)]; exact Nat.le_refl _)
        · have hi' : i < k := by omega
          have hle2 : (i + 1) * le.length ≤ k * le.length := Nat.mul_le_mul_right _ hi'
          rw [Nat.succ_mul] at hle2
          rw [List.drop_append_of_le_length (by omega), List.take_append_of_le_length (by rw [List.length_drop, h1]; omega)]
          exact h2 i hi'
    obtain ⟨hl1, hl2⟩ := hrow len (Nat.le_refl _)
    refine ⟨some a, len, m, ((List.range len).map f).flatten, rfl, hlc, hcm, hbytes, (by simp), ⟨hl1, fun hn => ?_⟩, fun i hi => ?_⟩
    · have h0 := (hf 0 hn).1.2 0 hpos
      have hsome : ∃ u, (f 0)[0]? = some u := ⟨(f 0)[0]'(by rw [hlenf 0 hn]; exact hpos), List.getElem?_eq_getElem _⟩
      obtain ⟨u0, hu0⟩ := hsome
      rw [Nat.zero_mul] at h0
      have ha : (a.add 0).add 0 = a := by simp [Addr.add]
      rw [ha, hu0] at h0
      obtain ⟨ab, ao, asp⟩ := a
      have hsp : asp = none := by
        unfold World.cell? at h0
        split at h0
        · cases asp <;> simp_all
        · cases h0
      have hlt : ab < w.heap.size := block_lt_of_cell h0
      subst hsp
      refine ⟨ab, ao, rfl, hlt, fun j u hu => ?_⟩
      have hj : j < len * le.length := by
        have := (List.getElem?_eq_some_iff.1 hu).1
        omega
      have hdm := Nat.div_add_mod j le.length
      have hi : j / le.length < len := Nat.div_lt_of_lt_mul (by rw [Nat.mul_comm]; exact hj)
      have hmod : j % le.length < le.length := Nat.mod_lt _ hpos
      have hc := (hf _ hi).1.2 _ hmod
      rw [add_lit _ _ _ _ rfl, add_lit _ _ _ _ rfl] at hc
      have e1 : ao + j / le.length * le.length + j % le.length = ao + j := by rw [Nat.mul_comm]; omega
      rw [e1] at hc
      rw [hc, ← hl2 _ hi, List.getElem?_take, if_pos hmod, List.getElem?_drop]
      have e2 : j / le.length * le.length + j % le.length = j := by rw [Nat.mul_comm]; omega
      rw [e2]
      exact hu
    · rw [hl2 i hi]
      exact (hf i hi).2
end


theorem arr_of {cs : Array Value} {l : List Value} (h : cs.toList = l) : cs = l.toArray := by subst h; simp

/-- one-cell elements, by their index -/
theorem one_cells {H : Type} {enc : TypeId × Value → H} {P : Program} {w : World} {base : Nat} {spare : Nat → Bool} {held : Bool} {t : TypeId} {n : Nat} {xs : List Value} (hl : xs.length = n * 1)
    (h : ∀ i, i < n → Cells enc P w base spare held [t] ((xs.drop (i * 1)).take 1)) : ∀ x ∈ xs, Leaf enc P w base spare held t x := by
  intro x hx
  obtain ⟨i, hi, rfl⟩ := List.getElem_of_mem hx
  have := h i (by omega)
  rw [Nat.mul_one, List.drop_eq_getElem_cons hi] at this
  exact this.1

theorem ints_of {H : Type} {enc : TypeId × Value → H} {P : Program} {w : World} {base : Nat} {spare : Nat → Bool} {held : Bool} {t : TypeId} {k : IntKind} (ht : P.underlying t = some (.int k)) :
    ∀ {xs : List Value}, (∀ x ∈ xs, Leaf enc P w base spare held t x) → ∃ zs : List Int, xs = zs.map (Value.int k) ∧ ∀ z ∈ zs, (Lit.int k z).wf = true
  | [], _ => ⟨[], rfl, by simp⟩
  | x :: xs, h => by
    obtain ⟨zs, rfl, hz⟩ := ints_of ht (fun y hy => h y (List.mem_cons_of_mem _ hy))
    obtain ⟨m, rfl, hm⟩ := Leaf.int ht (h x List.mem_cons_self)
    exact ⟨m :: zs, rfl, by intro z hzm; cases List.mem_cons.1 hzm with | inl e => subst e; exact hm | inr e => exact hz z e⟩

/-- a slice of integers -/
theorem Leaf.ints {H : Type} {enc : TypeId × Value → H} {P : Program} {w : World} {base : Nat} {spare : Nat → Bool} {held : Bool} {t e : TypeId} {v : Value} {k : IntKind} (ht : P.underlying t = some (.slice e)) (he : P.underlying e = some (.int k)) (hce : P.cellsOf e = 1) (hsp : ∀ b, spare b = true)
    (h : Leaf enc P w base spare held t v) : ∃ (A : Option Addr) (c : Nat) (zs : List Int), v = .slice A zs.length c ∧ zs.length ≤ c ∧ c ≤ maxLen ∧ c * P.bytesOf e ≤ reachBytes ∧ (A = none → c = 0) ∧ Rd w w.heap.size 1 A zs.length (zs.map (Value.int k)) ∧ ∀ z ∈ zs, (Lit.int k z).wf = true := by
  obtain ⟨A, n, c, xs, rfl, h1, h2, h3, h4, h5, h6⟩ := Leaf.slice (le := [e]) ht (by simp [leaves, he]) hce (by simp) hsp h
  obtain ⟨zs, rfl, hz⟩ := ints_of he (one_cells (by simpa using h5.1) h6)
  have hn : n = zs.length := by have := h5.1; simp at this; omega
  subst hn
  exact ⟨A, c, zs, rfl, h1, h2, h3, h4, h5, hz⟩

end Go.Proofs.Ytlcpackmoolngaa.Op
