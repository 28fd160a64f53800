/- A region that draws its order, walked by hand: a condition on the world that is held for the reads alone; what comes behind all of them need not keep it. -/
import Derived.Deep.RegionHeld3
namespace Go.Proofs.Ytlcpackmoolngaa.Rg
set_option linter.unusedVariables false
section
variable {P : Program} {ops : Array Oper} {Q : Exit → Act → World → Prop} {md : Region.Mode} {S T : World → Prop} {reads : List Nat}

/-- j waits for i, at first or at second hand -/
def anc (md : Region.Mode) (ops : Array Oper) (i : Nat) : Nat → Nat → Bool
  | 0, _ => false
  | f + 1, j => match ops[j]? with
    | none => false
    | some o => o.after.any fun e => Region.binds md e && (e.on == i || anc md ops i f e.on)
/-- whatever is listed, that for which it waited is too -/
def Closed (md : Region.Mode) (ops : Array Oper) (L : Array Bool) : Prop := ∀ j o, ops[j]? = some o → L.getD j false = true → ∀ e ∈ o.after, Region.binds md e = true → L.getD e.on false = true
def closedB (md : Region.Mode) (ops : Array Oper) (L : Array Bool) : Bool := (List.range ops.size).all fun j => !L.getD j false || ((ops[j]?).map (·.after.all fun e => !Region.binds md e || L.getD e.on false)).getD true
theorem closed_of {L : Array Bool} (h : closedB md ops L = true) : Closed md ops L := by
  intro j o ho hl e he hb
  have hj := (Array.getElem?_eq_some_iff.1 ho).1
  have h1 := List.all_eq_true.1 h j (List.mem_range.2 hj)
  rw [hl, ho] at h1
  simp only [Bool.not_true, Bool.false_or, Option.map_some, Option.getD_some] at h1
  have h2 := Array.all_eq_true_iff_forall_mem.1 h1 e he
  rw [hb] at h2
  simpa using h2
theorem anc_listed {L : Array Bool} {i : Nat} (hc : Closed md ops L) : ∀ (f j : Nat), anc md ops i f j = true → (∀ o, ops[j]? = some o → ∀ e ∈ o.after, Region.binds md e = true → L.getD e.on false = true) → L.getD i false = true
  | 0, _, h, _ => by cases h
  | f + 1, j, h, hj => by
    unfold anc at h
    cases ho : ops[j]? with
    | none => rw [ho] at h; cases h
    | some o =>
      rw [ho] at h
      simp only [← Array.any_toList] at h
      obtain ⟨e, he0, h1⟩ := List.any_eq_true.1 h
      have he : e ∈ o.after := Array.mem_toList_iff.1 he0
      simp only [Bool.and_eq_true, Bool.or_eq_true, beq_iff_eq] at h1
      obtain ⟨hb, rfl | h2⟩ := h1
      · exact hj o ho e he hb
      · exact anc_listed hc f e.on h2 fun o' ho' e' he' hb' => hc e.on o' ho' (hj o ho e he hb) e' he' hb'

/-- some read may come up behind j -/
def late (md : Region.Mode) (ops : Array Oper) (reads : List Nat) (j : Nat) : Bool := reads.any fun i => i != j && !anc md ops i ops.size j

def wpAnyR (P : Program) (md : Region.Mode) (ops : Array Oper) (Q : Exit → Act → World → Prop) (reads : List Nat) (S : World → Prop) : Nat → Array Bool → Act → World → Prop
  | 0, listed, a, w => Region.ready md ops listed = [] ∧ Q .normal a w
  | fuel + 1, listed, a, w =>
    (Region.ready md ops listed = [] → Q .normal a w) ∧
    ∀ i ∈ Region.ready md ops listed, wpOp P ops Q i (fun a' w' => (late md ops reads i = true → S w → S w') ∧ wpAnyR P md ops Q reads S fuel (listed.setIfInBounds i true) a' w') a w

theorem wpAny_of_R : ∀ (fuel : Nat) (listed : Array Bool) (a : Act) (w : World), wpAnyR P md ops Q reads S fuel listed a w → wpAny P md ops Q fuel listed a w
  | 0, _, _, _, h => h
  | fuel + 1, _, _, _, h => ⟨h.1, fun i hi => wpOp_mono (fun a' w' h' => wpAny_of_R fuel _ a' w' h'.2) (h.2 i hi)⟩

theorem closed_set {L : Array Bool} {j : Nat} (hc : Closed md ops L) (hj : j ∈ Region.ready md ops L) : Closed md ops (L.setIfInBounds j true) := by
  obtain ⟨_, oj, hoj, hall⟩ := mem_ready.1 hj
  intro k o ho hl e he hb
  by_cases hk : j = k
  · subst hk
    rw [hoj] at ho
    obtain rfl := Option.some.inj ho
    exact getD_set_true (hall e he hb)
  · rw [getD_set_ne false hk] at hl
    exact getD_set_true (hc k o ho hl e he hb)

theorem firstR {i : Nat} {oi : Oper} {v : Value} (hi : ops[i]? = some oi) (hsel : ∀ (j : Nat) (o : Oper) cs b, ops[j]? = some o → o.op ≠ .select cs b)
    (hQ : ∀ c a w, Q (.panic c) (a.put oi.dst v) w → Q (.panic c) a w) (hT : (∀ w, T w) ∨ (i ∈ reads ∧ T = S)) :
    ∀ (fuel : Nat) (listed : Array Bool) (a : Act) (w : World), Closed md ops listed →
      (∀ j oj, ops[j]? = some oj → j ≠ i → listed.getD j true = false → (∀ e ∈ oj.after, Region.binds md e = true → e.on ≠ i) → oi.apart ops oj = true) →
      i ∈ Region.ready md ops listed → YieldsIf P ops T oi v a → T w →
      wpAnyR P md ops Q reads S fuel (listed.setIfInBounds i true) (a.put oi.dst v) w → wpAnyR P md ops Q reads S (fuel + 1) listed a w := by
  intro fuel
  induction fuel with
  | zero =>
    intro listed a w _ _ hr hy hS H
    refine ⟨fun h => (by rw [h] at hr; cases hr), fun j hj => ?_⟩
    by_cases hji : j = i
    · subst hji; exact hy.wpOp hi hS ⟨fun _ h => h, H⟩
    · have := ready_mono hj hji
      rw [H.1] at this
      cases this
  | succ fuel ih =>
    intro listed a w hc hfree hr hy hS H
    refine ⟨fun h => (by rw [h] at hr; cases hr), fun j hj => ?_⟩
    by_cases hji : j = i
    · subst hji; exact hy.wpOp hi hS ⟨fun _ h => h, H⟩
    · have h1 := H.2 j (ready_mono hj hji)
      obtain ⟨hjun, oj, hoj, hall⟩ := mem_ready.1 hj
      have hiun := (mem_ready.1 hr).1
      have hnot : ∀ e ∈ oj.after, Region.binds md e = true → e.on ≠ i := fun e he hb heq => by
        have h1 := hall e he hb
        rw [heq] at h1
        rcases Nat.lt_or_ge i listed.size with h' | h'
        · simp [h'] at hiun h1; rw [hiun] at h1; cases h1
        · simp [Array.getElem?_eq_none h'] at h1
      have hlate : i ∈ reads → late md ops reads j = true := fun hmem => by
        refine List.any_eq_true.2 ⟨i, hmem, ?_⟩
        rw [Bool.and_eq_true]
        refine ⟨by simpa using Ne.symm hji, ?_⟩
        cases ha : anc md ops i ops.size j
        · rfl
        · have h2 := anc_listed hc _ _ ha fun o ho e he hb => by rw [hoj] at ho; obtain rfl := Option.some.inj ho; exact hall e he hb
          rcases Nat.lt_or_ge i listed.size with h' | h'
          · simp [h'] at hiun h2; rw [hiun] at h2; cases h2
          · simp [Array.getElem?_eq_none h'] at h2
      have h2 := wpOp_putIf hoj (hfree j oj hoj hji hjun hnot) (fun cs b => hsel i oi cs b hi) (fun cs b => hsel j oj cs b hoj) hQ hy h1
      have hfree' : ∀ k ok, ops[k]? = some ok → k ≠ i → (listed.setIfInBounds j true).getD k true = false →
          (∀ e ∈ ok.after, Region.binds md e = true → e.on ≠ i) → oi.apart ops ok = true := fun k ok hk hki hun hno => by
        refine hfree k ok hk hki ?_ hno
        by_cases hjk : j = k
        · subst hjk; exact hjun
        · rw [getD_set_ne true hjk] at hun; exact hun
      refine wpOp_mono (fun a' w' h3 => ⟨h3.2.1, ih (listed.setIfInBounds j true) a' w' (closed_set hc hj) hfree' (ready_mono hr (Ne.symm hji)) h3.1 ?_ ?_⟩) h2
      · rcases hT with hT | ⟨hmem, rfl⟩
        · exact hT _
        · exact h3.2.1 (hlate hmem) hS
      · rw [Array.setIfInBounds_comm _ _ hji]
        exact h3.2.2

/-- number i is taken first; it yields in whatever world -/
theorem takeP {i : Nat} {oi : Oper} {v : Value} {fuel : Nat} {listed : Array Bool} {a : Act} {w : World} (hi : ops[i]? = some oi)
    (hs : (Region.noSelect ops && Region.free md ops listed i && (Region.ready md ops listed).contains i && closedB md ops listed) = true)
    (hQ : ∀ c a w, Q (.panic c) (a.put oi.dst v) w → Q (.panic c) a w) (hw : Region.wanted oi (yielded ops a.tmps) = true) (hy : ∀ w, (execOp a.eval oi).run P w = .ok (.value v) w)
    (h : wpAnyR P md ops Q reads S fuel (listed.setIfInBounds i true) (a.put oi.dst v) w) : wpAnyR P md ops Q reads S (fuel + 1) listed a w := by
  simp only [Bool.and_eq_true] at hs
  obtain ⟨⟨⟨h1, h2⟩, h3⟩, h4⟩ := hs
  exact firstR (T := fun _ => True) hi (Region.noSelect_spec h1) hQ (.inl fun _ => trivial) fuel listed a w (closed_of h4) (Region.free_spec hi h2) (by simpa using h3) (.inl ⟨hw, fun w _ => hy w⟩) trivial h
/-- number i is taken first; it is not wanted -/
theorem takeN {i : Nat} {oi : Oper} {fuel : Nat} {listed : Array Bool} {a : Act} {w : World} (hi : ops[i]? = some oi)
    (hs : (Region.noSelect ops && Region.free md ops listed i && (Region.ready md ops listed).contains i && closedB md ops listed) = true)
    (hQ : ∀ c a w, Q (.panic c) (a.put oi.dst undef) w → Q (.panic c) a w) (hw : Region.wanted oi (yielded ops a.tmps) = false)
    (h : wpAnyR P md ops Q reads S fuel (listed.setIfInBounds i true) (a.put oi.dst undef) w) : wpAnyR P md ops Q reads S (fuel + 1) listed a w := by
  simp only [Bool.and_eq_true] at hs
  obtain ⟨⟨⟨h1, h2⟩, h3⟩, h4⟩ := hs
  exact firstR (T := fun _ => True) hi (Region.noSelect_spec h1) hQ (.inl fun _ => trivial) fuel listed a w (closed_of h4) (Region.free_spec hi h2) (by simpa using h3) (.inr ⟨hw, rfl⟩) trivial h
/-- number i is taken first; it yields in every world that meets S -/
theorem takeS {i : Nat} {oi : Oper} {v : Value} {fuel : Nat} {listed : Array Bool} {a : Act} {w : World} (hi : ops[i]? = some oi)
    (hs : (Region.noSelect ops && Region.free md ops listed i && (Region.ready md ops listed).contains i && closedB md ops listed && reads.contains i) = true)
    (hQ : ∀ c a w, Q (.panic c) (a.put oi.dst v) w → Q (.panic c) a w) (hw : Region.wanted oi (yielded ops a.tmps) = true) (hS : S w) (hy : ∀ w, S w → (execOp a.eval oi).run P w = .ok (.value v) w)
    (h : wpAnyR P md ops Q reads S fuel (listed.setIfInBounds i true) (a.put oi.dst v) w) : wpAnyR P md ops Q reads S (fuel + 1) listed a w := by
  simp only [Bool.and_eq_true] at hs
  obtain ⟨⟨⟨⟨h1, h2⟩, h3⟩, h4⟩, h5⟩ := hs
  exact firstR (T := S) hi (Region.noSelect_spec h1) hQ (.inr ⟨by simpa using h5, rfl⟩) fuel listed a w (closed_of h4) (Region.free_spec hi h2) (by simpa using h3) (.inl ⟨hw, hy⟩) hS h

/-- a step: operation i is carried out -/
def StepR (P : Program) (md : Region.Mode) (ops : Array Oper) (Q : Exit → Act → World → Prop) (reads : List Nat) (S : World → Prop) (fuel : Nat) (listed : Array Bool) (i : Nat) (oi : Oper) (a : Act) (w : World) : Prop :=
  ∀ K' : Act → World → Prop, (∀ a w', (late md ops reads i = true → S w → S w') → wpAnyR P md ops Q reads S fuel (listed.setIfInBounds i true) a w' → K' a w') → if Region.wanted oi (yielded ops a.tmps) = true then Oper.wp P oi a w K' Q else K' (a.put oi.dst undef) w
/-- number i alone comes up -/
theorem oneR {i : Nat} {oi : Oper} {fuel : Nat} {listed : Array Bool} {a : Act} {w : World} (hi : ops[i]? = some oi) (hr : Region.ready md ops listed = [i])
    (h : StepR P md ops Q reads S fuel listed i oi a w) : wpAnyR P md ops Q reads S (fuel + 1) listed a w :=
  ⟨fun h0 => absurd (hr ▸ h0) (by simp), fun j hj => by
    rw [hr] at hj
    obtain rfl : j = i := by simpa using hj
    exact wpOp_step hi fun K' hK => h K' fun a w' h1 h2 => hK a w' ⟨h1, h2⟩⟩
/-- the two of them come up -/
theorem twoR {i j : Nat} {oi oj : Oper} {fuel : Nat} {listed : Array Bool} {a : Act} {w : World} (hr : Region.ready md ops listed = [i, j]) (hi : ops[i]? = some oi) (hj : ops[j]? = some oj)
    (h1 : StepR P md ops Q reads S fuel listed i oi a w) (h2 : StepR P md ops Q reads S fuel listed j oj a w) : wpAnyR P md ops Q reads S (fuel + 1) listed a w :=
  ⟨fun h0 => absurd (hr ▸ h0) (by simp), fun k hk => by
    rw [hr] at hk
    rcases List.mem_cons.1 hk with rfl | hk
    · exact wpOp_step hi fun K' hK => h1 K' fun a w' h1 h2 => hK a w' ⟨h1, h2⟩
    · obtain rfl : k = j := by simpa using hk
      exact wpOp_step hj fun K' hK => h2 K' fun a w' h1 h2 => hK a w' ⟨h1, h2⟩⟩
/-- how a step is shown: no read comes up behind it; or S is shown anew -/
theorem stepF {i : Nat} {oi : Oper} {fuel : Nat} {listed : Array Bool} {a : Act} {w : World} (hl : late md ops reads i = false)
    (h : ∀ K' : Act → World → Prop, Shut (∀ a w', wpAnyR P md ops Q reads S fuel (listed.setIfInBounds i true) a w' → K' a w') → if Region.wanted oi (yielded ops a.tmps) = true then Oper.wp P oi a w K' Q else K' (a.put oi.dst undef) w) :
    StepR P md ops Q reads S fuel listed i oi a w :=
  fun K' hK => h K' fun a w' h2 => hK a w' (fun hh => absurd (hl.symm.trans hh) (by simp)) h2
theorem stepS {i : Nat} {oi : Oper} {fuel : Nat} {listed : Array Bool} {a : Act} {w : World}
    (h : ∀ K' : Act → World → Prop, Shut (∀ a w', S w' → wpAnyR P md ops Q reads S fuel (listed.setIfInBounds i true) a w' → K' a w') → if Region.wanted oi (yielded ops a.tmps) = true then Oper.wp P oi a w K' Q else K' (a.put oi.dst undef) w) :
    StepR P md ops Q reads S fuel listed i oi a w :=
  fun K' hK => h K' fun a w' h1 h2 => hK a w' (fun _ _ => h1) h2

theorem doneR {listed : Array Bool} {a : Act} {w : World} (hr : Region.ready md ops listed = []) (h : Q .normal a w) : ∀ fuel, wpAnyR P md ops Q reads S fuel listed a w
  | 0 => ⟨hr, h⟩
  | _ + 1 => ⟨fun _ => h, by rw [hr]; simp⟩

/-- the beginning: from the world behind the draw -/
theorem beginR {id : Nat} {a : Act} {w : World} (reads : List Nat) (S : World → Prop) (hm : P.follows .mixedOrders = true)
    (h : wpAnyR P .any ops Q reads S ops.size (Array.replicate ops.size false) a w.drew) : (Code.region id ops true).wp P Q a w :=
  wp_region_any hm (wpAny_of_R _ _ _ _ h)
end
end Go.Proofs.Ytlcpackmoolngaa.Rg
