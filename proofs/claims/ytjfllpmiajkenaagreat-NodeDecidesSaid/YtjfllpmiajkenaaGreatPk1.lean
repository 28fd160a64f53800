import Derived.Deep.RegionHeld3
import Derived.Test.YtjfllpmiajkenaaGreatPk0
import Derived.Laws.Rows
import Derived.Deep.DeepCutAuto
namespace Go.Proofs.YtjfllpmiajkenaaGreat.Rg
set_option linter.unusedVariables false
section
variable {P : Program} {ops : Array Oper} {Q : Exit → Act → World → Prop} {md : Region.Mode} {S T : World → Prop} {reads : List Nat}
def anc (md : Region.Mode) (ops : Array Oper) (i : Nat) : Nat → Nat → Bool
  | 0, _ => false
  | f + 1, j => match ops[j]? with
    | none => false
    | some o => o.after.any fun e => Region.binds md e && (e.on == i || anc md ops i f e.on)
def Closed (md : Region.Mode) (ops : Array Oper) (L : Array Bool) : Prop := ∀ j o, ops[j]? = some o → L.getD j false = true → ∀ e ∈ o.after, Region.binds md e = true → L.getD e.on false = true
def closedB (md : Region.Mode) (ops : Array Oper) (L : Array Bool) : Bool := (List.range ops.size).all fun j => !L.getD j false || ((ops[j]?).map (·.after.all fun e => !Region.binds md e || L.getD e.on false)).getD true
theorem closed_of {L : Array Bool} (h : closedB md ops L = true) : Closed md ops L := by
  intro j o ho hl e he hb
  have hj := (Array.getElem?_eq_some_iff.1 ho).1
  have h1 := List.all_eq_true.1 h j (List.mem_range.2 hj)
  rw [hl, ho] at h1
  simp only [Bool.not_true, Bool.false_or, Option.map_some, Option.getD_some] at h1
  have h2 := Array.all_eq_true_iff_forall_mem.1 h1 e he
  rw [hb] at h2
  simpa using h2
theorem anc_listed {L : Array Bool} {i : Nat} (hc : Closed md ops L) : ∀ (f j : Nat), anc md ops i f j = true → (∀ o, ops[j]? = some o → ∀ e ∈ o.after, Region.binds md e = true → L.getD e.on false = true) → L.getD i false = true
  | 0, _, h, _ => by cases h
  | f + 1, j, h, hj => by
    unfold anc at h
    cases ho : ops[j]? with
    | none => rw [ho] at h; cases h
    | some o =>
      rw [ho] at h
      simp only [← Array.any_toList] at h
      obtain ⟨e, he0, h1⟩ := List.any_eq_true.1 h
      have he : e ∈ o.after := Array.mem_toList_iff.1 he0
      simp only [Bool.and_eq_true, Bool.or_eq_true, beq_iff_eq] at h1
      obtain ⟨hb, rfl | h2⟩ := h1
      · exact hj o ho e he hb
      · exact anc_listed hc f e.on h2 fun o' ho' e' he' hb' => hc e.on o' ho' (hj o ho e he hb) e' he' hb'
def late (md : Region.Mode) (ops : Array Oper) (reads : List Nat) (j : Nat) : Bool := reads.any fun i => i != j && !anc md ops i ops.size j
def wpAnyR (P : Program) (md : Region.Mode) (ops : Array Oper) (Q : Exit → Act → World → Prop) (reads : List Nat) (S : World → Prop) : Nat → Array Bool → Act → World → Prop
  | 0, listed, a, w => Region.ready md ops listed = [] ∧ Q .normal a w
  | fuel + 1, listed, a, w =>
    (Region.ready md ops listed = [] → Q .normal a w) ∧
    ∀ i ∈ Region.ready md ops listed, wpOp P ops Q i (fun a' w' => (late md ops reads i = true → S w → S w') ∧ wpAnyR P md ops Q reads S fuel (listed.setIfInBounds i true) a' w') a w
theorem wpAny_of_R : ∀ (fuel : Nat) (listed : Array Bool) (a : Act) (w : World), wpAnyR P md ops Q reads S fuel listed a w → wpAny P md ops Q fuel listed a w
  | 0, _, _, _, h => h
  | fuel + 1, _, _, _, h => ⟨h.1, fun i hi => wpOp_mono (fun a' w' h' => wpAny_of_R fuel _ a' w' h'.2) (h.2 i hi)⟩
theorem closed_set {L : Array Bool} {j : Nat} (hc : Closed md ops L) (hj : j ∈ Region.ready md ops L) : Closed md ops (L.setIfInBounds j true) := by
  obtain ⟨_, oj, hoj, hall⟩ := mem_ready.1 hj
  intro k o ho hl e he hb
  by_cases hk : j = k
  · subst hk
    rw [hoj] at ho
    obtain rfl := Option.some.inj ho
    exact getD_set_true (hall e he hb)
  · rw [getD_set_ne false hk] at hl
    exact getD_set_true (hc k o ho hl e he hb)
theorem firstR {i : Nat} {oi : Oper} {v : Value} (hi : ops[i]? = some oi) (hsel : ∀ (j : Nat) (o : Oper) cs b, ops[j]? = some o → o.op ≠ .select cs b)
    (hQ : ∀ c a w, Q (.panic c) (a.put oi.dst v) w → Q (.panic c) a w) (hT : (∀ w, T w) ∨ (i ∈ reads ∧ T = S)) :
    ∀ (fuel : Nat) (listed : Array Bool) (a : Act) (w : World), Closed md ops listed →
      (∀ j oj, ops[j]? = some oj → j ≠ i → listed.getD j true = false → (∀ e ∈ oj.after, Region.binds md e = true → e.on ≠ i) → oi.apart ops oj = true) →
      i ∈ Region.ready md ops listed → YieldsIf P ops T oi v a → T w →
      wpAnyR P md ops Q reads S fuel (listed.setIfInBounds i true) (a.put oi.dst v) w → wpAnyR P md ops Q reads S (fuel + 1) listed a w := by
  intro fuel
  induction fuel with
  | zero =>
    intro listed a w _ _ hr hy hS H
    refine ⟨fun h => (by rw [h] at hr; cases hr), fun j hj => ?_⟩
    by_cases hji : j = i
    · subst hji; exact hy.wpOp hi hS ⟨fun _ h => h, H⟩
    · have := ready_mono hj hji
      rw [H.1] at this
      cases this
  | succ fuel ih =>
    intro listed a w hc hfree hr hy hS H
    refine ⟨fun h => (by rw [h] at hr; cases hr), fun j hj => ?_⟩
    by_cases hji : j = i
    · subst hji; exact hy.wpOp hi hS ⟨fun _ h => h, H⟩
    · have h1 := H.2 j (ready_mono hj hji)
      obtain ⟨hjun, oj, hoj, hall⟩ := mem_ready.1 hj
      have hiun := (mem_ready.1 hr).1
      have hnot : ∀ e ∈ oj.after, Region.binds md e = true → e.on ≠ i := fun e he hb heq => by
        have h1 := hall e he hb
        rw [heq] at h1
        rcases Nat.lt_or_ge i listed.size with h' | h'
        · simp [h'] at hiun h1; rw [hiun] at h1; cases h1
        · simp [Array.getElem?_eq_none h'] at h1
      have hlate : i ∈ reads → late md ops reads j = true := fun hmem => by
        refine List.any_eq_true.2 ⟨i, hmem, ?_⟩
        rw [Bool.and_eq_true]
        refine ⟨by simpa using Ne.symm hji, ?_⟩
        cases ha : anc md ops i ops.size j
        · rfl
        · have h2 := anc_listed hc _ _ ha fun o ho e he hb => by rw [hoj] at ho; obtain rfl := Option.some.inj ho; exact hall e he hb
          rcases Nat.lt_or_ge i listed.size with h' | h'
          · simp [h'] at hiun h2; rw [hiun] at h2; cases h2
          · simp [Array.getElem?_eq_none h'] at h2
      have h2 := wpOp_putIf hoj (hfree j oj hoj hji hjun hnot) (fun cs b => hsel i oi cs b hi) (fun cs b => hsel j oj cs b hoj) hQ hy h1
      have hfree' : ∀ k ok, ops[k]? = some ok → k ≠ i → (listed.setIfInBounds j true).getD k true = false →
          (∀ e ∈ ok.after, Region.binds md e = true → e.on ≠ i) → oi.apart ops ok = true := fun k ok hk hki hun hno => by
        refine hfree k ok hk hki ?_ hno
        by_cases hjk : j = k
        · subst hjk; exact hjun
        · rw [getD_set_ne true hjk] at hun; exact hun
      refine wpOp_mono (fun a' w' h3 => ⟨h3.2.1, ih (listed.setIfInBounds j true) a' w' (closed_set hc hj) hfree' (ready_mono hr (Ne.symm hji)) h3.1 ?_ ?_⟩) h2
      · rcases hT with hT | ⟨hmem, rfl⟩
        · exact hT _
        · exact h3.2.1 (hlate hmem) hS
      · rw [Array.setIfInBounds_comm _ _ hji]
        exact h3.2.2
theorem takeP {i : Nat} {oi : Oper} {v : Value} {fuel : Nat} {listed : Array Bool} {a : Act} {w : World} (hi : ops[i]? = some oi)
    (hs : (Region.noSelect ops && Region.free md ops listed i && (Region.ready md ops listed).contains i && closedB md ops listed) = true)
    (hQ : ∀ c a w, Q (.panic c) (a.put oi.dst v) w → Q (.panic c) a w) (hw : Region.wanted oi (yielded ops a.tmps) = true) (hy : ∀ w, (execOp a.eval oi).run P w = .ok (.value v) w)
    (h : wpAnyR P md ops Q reads S fuel (listed.setIfInBounds i true) (a.put oi.dst v) w) : wpAnyR P md ops Q reads S (fuel + 1) listed a w := by
  simp only [Bool.and_eq_true] at hs
  obtain ⟨⟨⟨h1, h2⟩, h3⟩, h4⟩ := hs
  exact firstR (T := fun _ => True) hi (Region.noSelect_spec h1) hQ (.inl fun _ => trivial) fuel listed a w (closed_of h4) (Region.free_spec hi h2) (by simpa using h3) (.inl ⟨hw, fun w _ => hy w⟩) trivial h
theorem takeN {i : Nat} {oi : Oper} {fuel : Nat} {listed : Array Bool} {a : Act} {w : World} (hi : ops[i]? = some oi)
    (hs : (Region.noSelect ops && Region.free md ops listed i && (Region.ready md ops listed).contains i && closedB md ops listed) = true)
    (hQ : ∀ c a w, Q (.panic c) (a.put oi.dst undef) w → Q (.panic c) a w) (hw : Region.wanted oi (yielded ops a.tmps) = false)
    (h : wpAnyR P md ops Q reads S fuel (listed.setIfInBounds i true) (a.put oi.dst undef) w) : wpAnyR P md ops Q reads S (fuel + 1) listed a w := by
  simp only [Bool.and_eq_true] at hs
  obtain ⟨⟨⟨h1, h2⟩, h3⟩, h4⟩ := hs
  exact firstR (T := fun _ => True) hi (Region.noSelect_spec h1) hQ (.inl fun _ => trivial) fuel listed a w (closed_of h4) (Region.free_spec hi h2) (by simpa using h3) (.inr ⟨hw, rfl⟩) trivial h
theorem takeS {i : Nat} {oi : Oper} {v : Value} {fuel : Nat} {listed : Array Bool} {a : Act} {w : World} (hi : ops[i]? = some oi)
    (hs : (Region.noSelect ops && Region.free md ops listed i && (Region.ready md ops listed).contains i && closedB md ops listed && reads.contains i) = true)
    (hQ : ∀ c a w, Q (.panic c) (a.put oi.dst v) w → Q (.panic c) a w) (hw : Region.wanted oi (yielded ops a.tmps) = true) (hS : S w) (hy : ∀ w, S w → (execOp a.eval oi).run P w = .ok (.value v) w)
    (h : wpAnyR P md ops Q reads S fuel (listed.setIfInBounds i true) (a.put oi.dst v) w) : wpAnyR P md ops Q reads S (fuel + 1) listed a w := by
  simp only [Bool.and_eq_true] at hs
  obtain ⟨⟨⟨⟨h1, h2⟩, h3⟩, h4⟩, h5⟩ := hs
  exact firstR (T := S) hi (Region.noSelect_spec h1) hQ (.inr ⟨by simpa using h5, rfl⟩) fuel listed a w (closed_of h4) (Region.free_spec hi h2) (by simpa using h3) (.inl ⟨hw, hy⟩) hS h
def StepR (P : Program) (md : Region.Mode) (ops : Array Oper) (Q : Exit → Act → World → Prop) (reads : List Nat) (S : World → Prop) (fuel : Nat) (listed : Array Bool) (i : Nat) (oi : Oper) (a : Act) (w : World) : Prop :=
  ∀ K' : Act → World → Prop, (∀ a w', (late md ops reads i = true → S w → S w') → wpAnyR P md ops Q reads S fuel (listed.setIfInBounds i true) a w' → K' a w') → if Region.wanted oi (yielded ops a.tmps) = true then Oper.wp P oi a w K' Q else K' (a.put oi.dst undef) w
theorem oneR {i : Nat} {oi : Oper} {fuel : Nat} {listed : Array Bool} {a : Act} {w : World} (hi : ops[i]? = some oi) (hr : Region.ready md ops listed = [i])
    (h : StepR P md ops Q reads S fuel listed i oi a w) : wpAnyR P md ops Q reads S (fuel + 1) listed a w :=
  ⟨fun h0 => absurd (hr ▸ h0) (by simp), fun j hj => by
    rw [hr] at hj
    obtain rfl : j = i := by simpa using hj
    exact wpOp_step hi fun K' hK => h K' fun a w' h1 h2 => hK a w' ⟨h1, h2⟩⟩
theorem twoR {i j : Nat} {oi oj : Oper} {fuel : Nat} {listed : Array Bool} {a : Act} {w : World} (hr : Region.ready md ops listed = [i, j]) (hi : ops[i]? = some oi) (hj : ops[j]? = some oj)
    (h1 : StepR P md ops Q reads S fuel listed i oi a w) (h2 : StepR P md ops Q reads S fuel listed j oj a w) : wpAnyR P md ops Q reads S (fuel + 1) listed a w :=
  ⟨fun h0 => absurd (hr ▸ h0) (by simp), fun k hk => by
    rw [hr] at hk
    rcases List.mem_cons.1 hk with rfl | hk
    · exact wpOp_step hi fun K' hK => h1 K' fun a w' h1 h2 => hK a w' ⟨h1, h2⟩
    · obtain rfl : k = j := by simpa using hk
      exact wpOp_step hj fun K' hK => h2 K' fun a w' h1 h2 => hK a w' ⟨h1, h2⟩⟩
theorem stepF {i : Nat} {oi : Oper} {fuel : Nat} {listed : Array Bool} {a : Act} {w : World} (hl : late md ops reads i = false)
    (h : ∀ K' : Act → World → Prop, Shut (∀ a w', wpAnyR P md ops Q reads S fuel (listed.setIfInBounds i true) a w' → K' a w') → if Region.wanted oi (yielded ops a.tmps) = true then Oper.wp P oi a w K' Q else K' (a.put oi.dst undef) w) :
    StepR P md ops Q reads S fuel listed i oi a w :=
  fun K' hK => h K' fun a w' h2 => hK a w' (fun hh => absurd (hl.symm.trans hh) (by simp)) h2
theorem stepS {i : Nat} {oi : Oper} {fuel : Nat} {listed : Array Bool} {a : Act} {w : World}
    (h : ∀ K' : Act → World → Prop, Shut (∀ a w', S w' → wpAnyR P md ops Q reads S fuel (listed.setIfInBounds i true) a w' → K' a w') → if Region.wanted oi (yielded ops a.tmps) = true then Oper.wp P oi a w K' Q else K' (a.put oi.dst undef) w) :
    StepR P md ops Q reads S fuel listed i oi a w :=
  fun K' hK => h K' fun a w' h1 h2 => hK a w' (fun _ _ => h1) h2
theorem doneR {listed : Array Bool} {a : Act} {w : World} (hr : Region.ready md ops listed = []) (h : Q .normal a w) : ∀ fuel, wpAnyR P md ops Q reads S fuel listed a w
  | 0 => ⟨hr, h⟩
  | _ + 1 => ⟨fun _ => h, by rw [hr]; simp⟩
theorem beginR {id : Nat} {a : Act} {w : World} (reads : List Nat) (S : World → Prop) (hm : P.follows .mixedOrders = true)
    (h : wpAnyR P .any ops Q reads S ops.size (Array.replicate ops.size false) a w.drew) : (Code.region id ops true).wp P Q a w :=
  wp_region_any hm (wpAny_of_R _ _ _ _ h)
end
end Go.Proofs.YtjfllpmiajkenaaGreat.Rg
namespace Go.Proofs.YtjfllpmiajkenaaGreat.Mem
open Go.RowKit
section
variable {P : Program}
def isRow (P : Program) (ty : TypeId) (cs : Array Value) : Prop := (match P.underlying ty with | some (.struct _) | some (.array _ _) => true | _ => false) = true ∧ (P.info? ty).map (·.size) = some cs.size
theorem load_cell {w : World} {ty : TypeId} {g : Nat} {t : TypeId} {cs : Array Value} (hg : Blk w g t cs) (hr : isRow P ty cs) : (loadVar ty ⟨g, 0, none⟩).run P w = .ok (.agg cs) w := by
  obtain ⟨h1, h2⟩ := hr
  cases hu : P.underlying ty with
  | none => rw [hu] at h1; cases h1
  | some d => exact run_loadVar_row w g t ty cs (0, 0) d hg hu (by rw [hu] at h1; cases d <;> first | rfl | cases h1) h2
theorem results_cell_tmp {fn : Func} {p u : Tmp} {ty : TypeId} (h : fn.results = #[.cell p ty, .tmp u]) (tmps : Array Value) (w : World) {g : Nat} {t : TypeId} {cs : Array Value}
    (hp : tmps.getD p undef = .pointer (some ⟨g, 0, none⟩)) (hg : Blk w g t cs) (hr : isRow P ty cs) :
    (results fn tmps).run P w = .ok (.tuple #[.agg cs, tmps.getD u undef]) w := by
  have hp' : tmps[p]?.getD undef = .pointer (some ⟨g, 0, none⟩) := by simpa using hp
  simp [results, h, hp', asAddr, load_cell hg hr]
theorem results_cell_cell {fn : Func} {p q : Tmp} {ty ty' : TypeId} (h : fn.results = #[.cell p ty, .cell q ty']) (tmps : Array Value) (w : World) {g g' : Nat} {t t' : TypeId} {cs cs' : Array Value}
    (hp : tmps.getD p undef = .pointer (some ⟨g, 0, none⟩)) (hg : Blk w g t cs) (hr : isRow P ty cs) (hp' : tmps.getD q undef = .pointer (some ⟨g', 0, none⟩)) (hg' : Blk w g' t' cs') (hr' : isRow P ty' cs') :
    (results fn tmps).run P w = .ok (.tuple #[.agg cs, .agg cs']) w := by
  have h1 : tmps[p]?.getD undef = .pointer (some ⟨g, 0, none⟩) := by simpa using hp
  have h2 : tmps[q]?.getD undef = .pointer (some ⟨g', 0, none⟩) := by simpa using hp'
  simp [results, h, h1, h2, asAddr, load_cell hg hr, load_cell hg' hr']
theorem ret_row2 {fn : Func} {R : Ending → World → Prop} {a : Act} {w : World} {p u : Tmp} {ty : TypeId} (h : fn.results = #[.cell p ty, .tmp u]) {g : Nat} {t : TypeId} {cs : Array Value} {x : Value}
    (hp : a.tmps.getD p undef = .pointer (some ⟨g, 0, none⟩)) (hx : a.tmps.getD u undef = x) (hg : Blk w g t cs) (hr : isRow P ty cs) (hdf : a.defers = []) (hR : R (.returned (.tuple #[.agg cs, x])) w) : bodyPost P fn R .ret a w :=
  bodyPost_ret (results_cell_tmp h a.tmps w hp hg hr) hdf (by rw [hx]; exact hR)
theorem ret_rows2 {fn : Func} {R : Ending → World → Prop} {a : Act} {w : World} {p q : Tmp} {ty ty' : TypeId} (h : fn.results = #[.cell p ty, .cell q ty']) {g g' : Nat} {t t' : TypeId} {cs cs' : Array Value}
    (hp : a.tmps.getD p undef = .pointer (some ⟨g, 0, none⟩)) (hp' : a.tmps.getD q undef = .pointer (some ⟨g', 0, none⟩)) (hg : Blk w g t cs) (hr : isRow P ty cs) (hg' : Blk w g' t' cs') (hr' : isRow P ty' cs') (hdf : a.defers = []) (hR : R (.returned (.tuple #[.agg cs, .agg cs'])) w) : bodyPost P fn R .ret a w :=
  bodyPost_ret (results_cell_cell h a.tmps w hp hg hr hp' hg' hr') hdf hR
end
end Go.Proofs.YtjfllpmiajkenaaGreat.Mem
namespace Go.Proofs.YtjfllpmiajkenaaGreat.Nd
open Go.RowKit Go.Proofs.YtjfllpmiajkenaaGreat.Mem Go.Proofs.YtjfllpmiajkenaaGreat.Rws
set_option linter.unusedVariables false
def axK (k j : Nat) : Value := if j / 7 < k then state0 (j % 7) else if j % 7 = 5 then .bool false else .int .i64 0
def nodeU (id t0 t1 t2 t3 : Int) (i : Nat) : Value :=
  if i = 0 then .int .i64 id else if i = 2 then .int .i64 t0 else if i = 3 then .int .i64 t1 else if i = 4 then .int .i64 t2 else if i = 5 then .int .i64 t3
  else if i = 72 then .bool false else if i = 73 then .slice none 0 0 else .int .i64 0
def nodeK (id t0 t1 t2 t3 : Int) (k i : Nat) : Value :=
  if 6 ≤ i ∧ i < 27 then axK k (i - 6) else if 27 ≤ i ∧ i < 39 then roll0 (i - 27) else nodeU id t0 t1 t2 t3 i
def node0 (i : Nat) : Value := if i = 11 ∨ i = 18 ∨ i = 25 ∨ i = 27 ∨ i = 28 ∨ i = 29 ∨ i = 30 ∨ i = 72 then .bool false else if i = 73 then .slice none 0 0 else .int .i64 0
theorem refbegin_any (w : World) : Calls Tryz.prog 74 #[.int .i64 0] w fun e w' => e = .returned (.agg (row 7 state0)) ∧ Below w.heap.size w w' := by
  go_enter Tryz.func74, Tryz.ntmps74
  go_wp2
  refine bodyPost_ret (v := .agg (row 7 state0)) (by simp [results, Tryz.results74, go_sem]; rfl) rfl ⟨rfl, ?_⟩
  exact ((Below.refl _ _).alloc (Nat.le_refl _) _).alloc (by simp) _
set_option maxRecDepth 100000 in
theorem zero_node : Tryz.zeroCells37 = row 74 node0 := by kernel_rfl
set_option maxRecDepth 100000 in
theorem built_node (id t0 t1 t2 t3 : Int) : Array.foldl (fun cs x => cs.setIfInBounds (27 + x.snd) x.fst)
                (((((Tryz.zeroCells37.setIfInBounds 0 (Value.int IntKind.i64 id)).setIfInBounds 2
                              (Value.int IntKind.i64 t0)).setIfInBounds
                          3 (Value.int IntKind.i64 t1)).setIfInBounds
                      4 (Value.int IntKind.i64 t2)).setIfInBounds
                  5 (Value.int IntKind.i64 t3))
                (row 12 roll0).zipIdx 0 12 = row 74 (nodeK id t0 t1 t2 t3 0) := by kernel_rfl
theorem state0_one (i : Nat) : (state0 i).oneCell' = true := by unfold state0; (repeat' split) <;> rfl
theorem roll0_one (i : Nat) : (roll0 i).oneCell' = true := by unfold roll0; split <;> rfl
theorem axK_one (k i : Nat) : (axK k i).oneCell' = true := by
  unfold axK
  split
  · exact state0_one _
  · split <;> rfl
theorem nodeU_one (id t0 t1 t2 t3 : Int) (i : Nat) : (nodeU id t0 t1 t2 t3 i).oneCell' = true := by unfold nodeU; (repeat' split) <;> rfl
theorem nodeK_one (id t0 t1 t2 t3 : Int) (k i : Nat) : (nodeK id t0 t1 t2 t3 k i).oneCell' = true := by
  unfold nodeK
  split
  · exact axK_one _ _
  · split
    · exact roll0_one _
    · exact nodeU_one _ _ _ _ _ _
theorem nodeK_succ (id t0 t1 t2 t3 : Int) (k : Nat) (hk : k < 3) (i : Nat) : over (6 + k * 7) 7 state0 (nodeK id t0 t1 t2 t3 k) i = nodeK id t0 t1 t2 t3 (k + 1) i := by
  by_cases h : 6 + k * 7 ≤ i ∧ i < 6 + k * 7 + 7
  · rw [over_in h.1 h.2]
    unfold nodeK axK
    rw [if_pos (by omega), if_pos (by omega)]
    congr 1
    omega
  · rw [over_out (by omega)]
    unfold nodeK
    by_cases h6 : 6 ≤ i ∧ i < 27
    · rw [if_pos h6, if_pos h6]
      unfold axK
      by_cases h7 : (i - 6) / 7 < k
      · rw [if_pos h7, if_pos (by omega)]
      · rw [if_neg h7, if_neg (show ¬ (i - 6) / 7 < k + 1 by omega)]
    · rw [if_neg h6, if_neg h6]
theorem below_undrew {B : Nat} {w w' : World} (h : Below B w.drew w') : Below B w w' := ⟨h.os, h.tape, h.output, h.size, h.block⟩
end Go.Proofs.YtjfllpmiajkenaaGreat.Nd
namespace Go.Proofs.YtjfllpmiajkenaaGreat.Nd
open Go.RowKit Go.Proofs.YtjfllpmiajkenaaGreat.Mem Go.Proofs.YtjfllpmiajkenaaGreat.Rws
set_option linter.unusedVariables false
set_option linter.unusedSimpArgs false
set_option maxRecDepth 100000 in
set_option maxHeartbeats 1000000 in
theorem refBegin_yes (id t0 t1 t2 t3 : Int) (w : World) (h0 : 0 ≤ id) (h1 : id < 4) :
    Calls Tryz.prog 37 #[.int .i64 id, .agg #[.int .i64 t0, .int .i64 t1, .int .i64 t2, .int .i64 t3]] w fun e w' => e = .returned (.tuple #[.agg (row 74 (nodeK id t0 t1 t2 t3 3)), .int .i64 0]) ∧ Below w.heap.size w w' := by
  go_enter Tryz.func37, Tryz.ntmps37
  go_upto_region 3 with fail
  go_cut [6] (fun v wx => ∃ g, v = .pointer (some ⟨g, 0, none⟩) ∧ w.heap.size + 1 < g ∧ Blk wx g 37 (row 74 (nodeK id t0 t1 t2 t3 0)) ∧ Blk wx (w.heap.size + 1) 37 (row 74 node0) ∧ Below w.heap.size w wx)
  case first =>
    have HBL := Lib.hid (built_node id t0 t1 t2 t3)
    have D3 : Hid (Blk ((w.alloc (.cells #[.int .i64 t0, .int .i64 t1, .int .i64 t2, .int .i64 t3] 23)).alloc (.cells Tryz.zeroCells37 37)) w.heap.size 23 #[.int .i64 t0, .int .i64 t1, .int .i64 t2, .int .i64 t3]) := Lib.hid ((Blk.new rfl).alloc _)
    have D4 : Hid (Blk ((w.alloc (.cells #[.int .i64 t0, .int .i64 t1, .int .i64 t2, .int .i64 t3] 23)).alloc (.cells Tryz.zeroCells37 37)) (w.heap.size + 1) 37 (row 74 node0)) := Lib.hid (by rw [zero_node]; exact Blk.new (by simp))
    have HB := Lib.hid (((Below.refl w.heap.size w).alloc (Nat.le_refl _) (.cells #[.int .i64 t0, .int .i64 t1, .int .i64 t2, .int .i64 t3] 23)).alloc (by simp) (.cells Tryz.zeroCells37 37))
    have hsz0 : ((w.alloc (.cells #[.int .i64 t0, .int .i64 t1, .int .i64 t2, .int .i64 t3] 23)).alloc (.cells Tryz.zeroCells37 37)).heap.size = w.heap.size + 1 + 1 := by simp
    generalize ((w.alloc (.cells #[.int .i64 t0, .int .i64 t1, .int .i64 t2, .int .i64 t3] 23)).alloc (.cells Tryz.zeroCells37 37)) = W0 at *
    have HB := Lib.hid HB.out.drew
    have D4 := Lib.hid D4.out.drew
    have D3 := Lib.hid D3.out.drew
    have hd0 : W0.drew.heap.size = w.heap.size + 1 + 1 := hsz0
    have HS := And.intro (D3.out.cell 0) (And.intro (D3.out.cell 1) (And.intro (D3.out.cell 2) (D3.out.cell 3)))
    refine wp_region_noPanic ?_
    refine Rg.beginR [1] (fun w' => w'.cell? ⟨w.heap.size, 0, none⟩ = some (.int .i64 t0) ∧ w'.cell? ⟨w.heap.size, 1, none⟩ = some (.int .i64 t1) ∧ w'.cell? ⟨w.heap.size, 2, none⟩ = some (.int .i64 t2) ∧ w'.cell? ⟨w.heap.size, 3, none⟩ = some (.int .i64 t3)) (by kernel_rfl) ?_
    refine Rg.takeP (i := 0) (oi := { dst := some 15, op := Op.move (Operand.tmp 0), type := 3, pos := "node.go:10", after := #[], guard := none }) (v := ?_) rfl (by kernel_rfl) (fun _ _ _ h => h) (by rfl) ?_ ?_
    rotate_left 1
    · (intro w; (try (have hbl := HBL.out)); (have hsz : (row 12 roll0).size = 12 := row_size _ _); go_simp; (try with_reducible rfl))
    try simp only [Act.put, List.setIfInBounds_toArray, List.set_cons_zero, List.set_cons_succ]
    refine Rg.takeS (i := 1) (oi := { dst := some 16, op := Op.load 23 (Operand.tmp 3), type := 23, pos := "node.go:10", after := #[], guard := none }) (v := ?_) rfl (by kernel_rfl) (fun _ _ _ h => h) (by rfl) HS ?_ ?_
    rotate_left 1
    · (intro w hSw; (try dsimp only at hSw); (try go_split_ands); go_simp; (try with_reducible rfl))
    try simp only [Act.put, List.setIfInBounds_toArray, List.set_cons_zero, List.set_cons_succ]
    refine Rg.twoR (i := 2) (j := 4) (oi := { dst := some 17, op := Op.call { callee := Callee.value (Operand.func 73), args := #[], argTypes := #[] }, type := 30, pos := "node.go:10", after := #[], guard := none }) (oj := { dst := some 6, op := Op.alloc 37, type := 0, pos := "node.go:10", after := #[], guard := none }) (by kernel_rfl) rfl rfl ?_ ?_
    ·
      refine Rg.stepS ?_
      intro K hK
      go_simp
      go_at_call 73
      refine (refroll_any _).mono ?_
      rintro e w1 ⟨rfl, hb1⟩
      have HB := Lib.hid (onward HB.out (Nat.le_refl _) hb1)
      have hs1 := hb1.size
      have D4 := Lib.hid (D4.out.below hb1 D4.out.lt)
      have D3 := Lib.hid (D3.out.below hb1 D3.out.lt)
      have HS := And.intro (D3.out.cell 0) (And.intro (D3.out.cell 1) (And.intro (D3.out.cell 2) (D3.out.cell 3)))
      clear hb1
      go_wp2_with fail
      refine hK.out _ _ HS ?_
      clear hK K
      try simp only [Act.put, List.setIfInBounds_toArray, List.set_cons_zero, List.set_cons_succ]
      refine Rg.takeP (i := 3) (oi := { dst := some 18, op := Op.build 37 #[(0, Operand.tmp 15), (2, Operand.tmp 16), (4, Operand.tmp 17)], type := 37, pos := "node.go:10", after := #[{ on := 0, ground := Ground.data }, { on := 1, ground := Ground.data }, { on := 2, ground := Ground.data }], guard := none }) (v := ?_) rfl (by kernel_rfl) (fun _ _ _ h => h) (by rfl) ?_ ?_
      rotate_left 1
      · (intro w; (try (have hbl := HBL.out)); (have hsz : (row 12 roll0).size = 12 := row_size _ _); go_simp; (try with_reducible rfl))
      try simp only [Act.put, List.setIfInBounds_toArray, List.set_cons_zero, List.set_cons_succ]
      refine Rg.oneR (i := 4) (oi := { dst := some 6, op := Op.alloc 37, type := 0, pos := "node.go:10", after := #[], guard := none }) rfl (by kernel_rfl) ?_
      refine Rg.stepS ?_
      intro K hK
      go_simp
      have D4 := Lib.hid (D4.out.alloc (.cells Tryz.zeroCells37 37))
      have D6 : Hid (Blk (w1.alloc (.cells Tryz.zeroCells37 37)) w1.heap.size 37 Tryz.zeroCells37) := Lib.hid (Blk.fresh _ _ _)
      have HB := Lib.hid (HB.out.alloc HB.out.size (.cells Tryz.zeroCells37 37))
      have D3 := Lib.hid (D3.out.alloc (.cells Tryz.zeroCells37 37))
      have HS := And.intro (D3.out.cell 0) (And.intro (D3.out.cell 1) (And.intro (D3.out.cell 2) (D3.out.cell 3)))
      refine hK.out _ _ HS ?_
      clear hK K
      try simp only [Act.put, List.setIfInBounds_toArray, List.set_cons_zero, List.set_cons_succ]
      refine Rg.oneR (i := 5) (oi := { dst := none, op := Op.store 37 (Operand.tmp 6) (Operand.tmp 18), type := 0, pos := "node.go:10", after := #[{ on := 4, ground := Ground.data }, { on := 3, ground := Ground.data }, { on := 2, ground := Ground.chain }, { on := 0, ground := Ground.phase }, { on := 1, ground := Ground.phase }, { on := 2, ground := Ground.phase }, { on := 3, ground := Ground.phase }, { on := 4, ground := Ground.phase }], guard := none }) rfl (by kernel_rfl) ?_
      refine Rg.stepF ?_ ?_
      · kernel_rfl
      intro K hK
      rw [if_pos (by rfl)]
      refine wp_store_row 37 _ _ rfl w1.heap.size (row 74 (nodeK id t0 t1 t2 t3 0)) rfl rfl 37 Tryz.zeroCells37 D6.out (by rw [row_size]; kernel_rfl) (by rw [zero_node, row_size, row_size]) (row_one fun i _ => nodeK_one _ _ _ _ _ _ i) ?_
      refine hK.out _ _ ?_
      clear hK K
      try simp only [Act.put, List.setIfInBounds_toArray, List.set_cons_zero, List.set_cons_succ]
      refine Rg.doneR (by kernel_rfl) ?_ _
      refine NoPanic.normal ?_
      have hg : w.heap.size + 1 < w1.heap.size := by omega
      have G1 := Lib.hid (D6.out.setRow (row 74 (nodeK id t0 t1 t2 t3 0)))
      have G2 := Lib.hid (D4.out.setRow_other (g' := w1.heap.size) (by omega) (row 74 (nodeK id t0 t1 t2 t3 0)))
      have G3 := Lib.hid (below_setRow HB.out (show w.heap.size ≤ w1.heap.size by omega) (row 74 (nodeK id t0 t1 t2 t3 0)))
      clear HS D3 D4 D6 HB
      go_wp2_with fail
      go_meet
      exact ⟨_, rfl, hg, G1.out, G2.out, G3.out⟩
    ·
      refine Rg.stepS ?_
      intro K hK
      go_simp
      have D4 := Lib.hid (D4.out.alloc (.cells Tryz.zeroCells37 37))
      have D6 : Hid (Blk (W0.drew.alloc (.cells Tryz.zeroCells37 37)) (w.heap.size + 1 + 1) 37 Tryz.zeroCells37) := Lib.hid (Blk.new hd0.symm)
      have HB := Lib.hid (HB.out.alloc HB.out.size (.cells Tryz.zeroCells37 37))
      have D3 := Lib.hid (D3.out.alloc (.cells Tryz.zeroCells37 37))
      have HS := And.intro (D3.out.cell 0) (And.intro (D3.out.cell 1) (And.intro (D3.out.cell 2) (D3.out.cell 3)))
      refine hK.out _ _ HS ?_
      clear hK K
      try simp only [Act.put, List.setIfInBounds_toArray, List.set_cons_zero, List.set_cons_succ]
      refine Rg.oneR (i := 2) (oi := { dst := some 17, op := Op.call { callee := Callee.value (Operand.func 73), args := #[], argTypes := #[] }, type := 30, pos := "node.go:10", after := #[], guard := none }) rfl (by kernel_rfl) ?_
      refine Rg.stepS ?_
      intro K hK
      go_simp
      go_at_call 73
      refine (refroll_any _).mono ?_
      rintro e w1 ⟨rfl, hb1⟩
      have HB := Lib.hid (onward HB.out (Nat.le_refl _) hb1)
      have hs1 := hb1.size
      have D4 := Lib.hid (D4.out.below hb1 D4.out.lt)
      have D6 := Lib.hid (D6.out.below hb1 D6.out.lt)
      have D3 := Lib.hid (D3.out.below hb1 D3.out.lt)
      have HS := And.intro (D3.out.cell 0) (And.intro (D3.out.cell 1) (And.intro (D3.out.cell 2) (D3.out.cell 3)))
      clear hb1
      go_wp2_with fail
      refine hK.out _ _ HS ?_
      clear hK K
      try simp only [Act.put, List.setIfInBounds_toArray, List.set_cons_zero, List.set_cons_succ]
      refine Rg.takeP (i := 3) (oi := { dst := some 18, op := Op.build 37 #[(0, Operand.tmp 15), (2, Operand.tmp 16), (4, Operand.tmp 17)], type := 37, pos := "node.go:10", after := #[{ on := 0, ground := Ground.data }, { on := 1, ground := Ground.data }, { on := 2, ground := Ground.data }], guard := none }) (v := ?_) rfl (by kernel_rfl) (fun _ _ _ h => h) (by rfl) ?_ ?_
      rotate_left 1
      · (intro w; (try (have hbl := HBL.out)); (have hsz : (row 12 roll0).size = 12 := row_size _ _); go_simp; (try with_reducible rfl))
      try simp only [Act.put, List.setIfInBounds_toArray, List.set_cons_zero, List.set_cons_succ]
      refine Rg.oneR (i := 5) (oi := { dst := none, op := Op.store 37 (Operand.tmp 6) (Operand.tmp 18), type := 0, pos := "node.go:10", after := #[{ on := 4, ground := Ground.data }, { on := 3, ground := Ground.data }, { on := 2, ground := Ground.chain }, { on := 0, ground := Ground.phase }, { on := 1, ground := Ground.phase }, { on := 2, ground := Ground.phase }, { on := 3, ground := Ground.phase }, { on := 4, ground := Ground.phase }], guard := none }) rfl (by kernel_rfl) ?_
      refine Rg.stepF ?_ ?_
      · kernel_rfl
      intro K hK
      rw [if_pos (by rfl)]
      refine wp_store_row 37 _ _ rfl (w.heap.size + 1 + 1) (row 74 (nodeK id t0 t1 t2 t3 0)) rfl rfl 37 Tryz.zeroCells37 D6.out (by rw [row_size]; kernel_rfl) (by rw [zero_node, row_size, row_size]) (row_one fun i _ => nodeK_one _ _ _ _ _ _ i) ?_
      refine hK.out _ _ ?_
      clear hK K
      try simp only [Act.put, List.setIfInBounds_toArray, List.set_cons_zero, List.set_cons_succ]
      refine Rg.doneR (by kernel_rfl) ?_ _
      refine NoPanic.normal ?_
      have hg : w.heap.size + 1 < (w.heap.size + 1 + 1) := by omega
      have G1 := Lib.hid (D6.out.setRow (row 74 (nodeK id t0 t1 t2 t3 0)))
      have G2 := Lib.hid (D4.out.setRow_other (g' := (w.heap.size + 1 + 1)) (by omega) (row 74 (nodeK id t0 t1 t2 t3 0)))
      have G3 := Lib.hid (below_setRow HB.out (show w.heap.size ≤ (w.heap.size + 1 + 1) by omega) (row 74 (nodeK id t0 t1 t2 t3 0)))
      clear HS D3 D4 D6 HB
      go_wp2_with fail
      go_meet
      exact ⟨_, rfl, hg, G1.out, G2.out, G3.out⟩
  case rest =>
    obtain ⟨g, rfl, hg, bg, br, hb⟩ := hcut
    go_wp2_with fail
    go_loopw [7] (fun i wr => ∃ k : Nat, k ≤ 3 ∧ i = .int .i64 k ∧ Blk wr g 37 (row 74 (nodeK id t0 t1 t2 t3 k)) ∧ Blk wr (w.heap.size + 1) 37 (row 74 node0) ∧ Below w.heap.size w wr) (fun i _ => 3 - (intOf i).toNat)
    case atStart => exact ⟨0, by omega, rfl, bg, br, hb⟩
    case round =>
      clear bg br hb
      obtain ⟨k, hk, rfl, bg, br, hb⟩ := hrel
      have HG := Lib.hid bg
      have HR := Lib.hid br
      have HB := Lib.hid hb
      clear bg br hb
      by_cases hlt : k < 3
      · go_wp2_with fail
        refine (refbegin_any _).mono ?_
        rintro e w1 ⟨rfl, hb1⟩
        have HG1 := Lib.hid (HG.out.below hb1 HG.out.lt)
        have HR1 := Lib.hid (HR.out.below hb1 HR.out.lt)
        have HB1 := Lib.hid (onward HB.out (Nat.le_refl _) hb1)
        have hth := row_there HG1.out (6 + k * 7) 7 (by omega)
        clear hb1
        have hi7 : (Tryz.prog.info? 25).map (·.size) = some (row 7 state0).size := by rw [row_size]; kernel_rfl
        have hth : w1.there g (6 + k * 7) (row 7 state0).size := by rw [row_size]; exact hth
        have h17 : (row 7 state0).all (·.oneCell') = true := row_one fun i _ => state0_one i
        obtain ⟨R, hRR⟩ : ∃ R, row 7 state0 = R := ⟨_, rfl⟩
        have HRR := Lib.hid hRR
        rw [hRR] at hi7 hth h17 ⊢
        clear hRR
        go_wp2_with (refine wpList_wanted rfl (fun K hK => ?_); refine wp_store_mid 25 _ _ rfl g (6 + k * 7) R rfl rfl hth hi7 h17 (hK _ _ ?_))
        rw [← HRR.out]
        refine ⟨⟨k + 1, by omega, by go_num, ?_, blk_mid_other (w := w1) (by omega) _ _ _ HR1.out, below_setCells (by omega) _ _ HB1.out⟩, by simp [intOf]; omega⟩
        have := blk_mid HG1.out (6 + k * 7) 7 state0
        rw [row_congr (fun i _ => nodeK_succ id t0 t1 t2 t3 k hlt i)] at this
        exact this
      · obtain rfl : k = 3 := by omega
        clear hlt
        have hi74 : (Tryz.prog.info? 37).map (·.size) = some (row 74 (nodeK id t0 t1 t2 t3 3)).size := by rw [row_size]; kernel_rfl
        have h174 : (row 74 (nodeK id t0 t1 t2 t3 3)).all (·.oneCell') = true := row_one fun i _ => nodeK_one _ _ _ _ _ _ i
        have hs74 : (row 74 node0).size = (row 74 (nodeK id t0 t1 t2 t3 3)).size := by rw [row_size, row_size]
        obtain ⟨R, hRR⟩ : ∃ R, row 74 (nodeK id t0 t1 t2 t3 3) = R := ⟨_, rfl⟩
        have HRR := Lib.hid hRR
        rw [hRR] at HG hi74 h174 hs74
        clear hRR
        go_wp2_with (first
          | (refine wpList_whole rfl 37 _ rfl g rfl HG.out _ Tryz.underlying37 rfl hi74 ?_)
          | (refine wpList_store_row rfl 37 _ _ rfl (w.heap.size + 1) R rfl rfl 37 _ HR.out hi74 hs74 h174 ?_))
        exact ret_row2 rfl rfl rfl (HR.out.setRow R) ⟨by rw [Tryz.underlying37], hi74⟩ rfl ⟨by rw [HRR.out]; rfl, below_setRow HB.out (by omega) _⟩
end Go.Proofs.YtjfllpmiajkenaaGreat.Nd
namespace Go.Proofs.YtjfllpmiajkenaaGreat.Mem
theorem own_cap {w : World} {base : Nat} {e : TypeId} {size n c : Nat} {A : Option Addr} {xs : List Value} (h : w.ownsRow base e size (.slice A n c) n xs) : (A = none → c = 0) ∧ n ≤ c := by
  obtain ⟨_, ⟨hv, h0⟩ | ⟨g, cap, cur, hv, _, hh, hn, _⟩⟩ := h
  · cases hv; exact ⟨fun _ => rfl, Nat.le_refl _⟩
  · cases hv; exact ⟨(fun h => by cases h), hn⟩
theorem own_lo {w : World} {base : Nat} {e : TypeId} {size n c : Nat} {A : Option Addr} {xs : List Value} (h : w.ownsRow base e size (.slice A n c) n xs) : ∀ a, A = some a → base ≤ a.block := by
  obtain ⟨_, ⟨hv, h0⟩ | ⟨g, cap, cur, hv, hb, hh, hn, _⟩⟩ := h
  · cases hv; exact fun a h => by cases h
  · cases hv; exact fun a h => by cases h; exact hb
end Go.Proofs.YtjfllpmiajkenaaGreat.Mem
namespace Go.Proofs.YtjfllpmiajkenaaGreat.Nd
open Go.RowKit Go.Proofs.YtjfllpmiajkenaaGreat.Mem
set_option linter.unusedVariables false
theorem ownsRow_below {w w' : World} {base : Nat} {e : TypeId} {size : Nat} {v : Value} {n : Nat} {xs : List Value} (h : w.ownsRow base e size v n xs) (hb : Below w.heap.size w w') : w'.ownsRow base e size v n xs :=
  h.kept (row := none) ⟨hb.os, hb.tape, hb.output, hb.size, fun g hg _ => hb.block g hg⟩ (by cases v.ownBlock <;> simp)
theorem own_setRow {w : World} {base : Nat} {e : TypeId} {size : Nat} {v : Value} {n : Nat} {xs : List Value} (h : w.ownsRow base e size v n xs) {g : Nat} (hg : g < base) (R : Array Value) : (w.setRow g R).ownsRow base e size v n xs := by
  obtain ⟨hl, h | ⟨b, cap, cur, hv, hb, hh, hr⟩⟩ := h
  · exact ⟨hl, .inl h⟩
  · exact ⟨hl, .inr ⟨b, cap, cur, hv, hb, (setRow_other w g b R (by omega)).trans hh, hr⟩⟩
end Go.Proofs.YtjfllpmiajkenaaGreat.Nd
namespace Go.Proofs.YtjfllpmiajkenaaGreat.Ms
open Go.RowKit Go.Proofs.YtjfllpmiajkenaaGreat.Mem
theorem own_kept {w w' : World} {base : Nat} {e : TypeId} {size : Nat} {v : Value} {n : Nat} {xs : List Value} {row : Option Nat} (h : w.ownsRow base e size v n xs) (hg : w.grownBy w' row)
    (hr : ∀ g, row = some g → ∃ cur t, w.heap[g]? = some (.cells cur t (0, 0)) ∧ t ≠ e) : w'.ownsRow base e size v n xs := by
  obtain ⟨hl, h | ⟨b, cap, cur, hv, hb, hh, hc⟩⟩ := h
  · exact ⟨hl, .inl h⟩
  · have hlt : b < w.heap.size := (Array.getElem?_eq_some_iff.1 hh).1
    have hne : some b ≠ row := fun e1 => by
      obtain ⟨cur', t, h1, h2⟩ := hr b e1.symm
      rw [h1] at hh
      injection hh with hh
      injection hh with _ h4 _
      exact h2 h4
    exact ⟨hl, .inr ⟨b, cap, cur, hv, hb, (hg.block b hlt hne).trans hh, hc⟩⟩
theorem own_is {w : World} {base : Nat} {e : TypeId} {size : Nat} {v : Value} {n : Nat} {xs : List Value} (h : w.ownsRow base e size v n xs) {t' : TypeId} (ht : e ≠ t') : ∀ g, v.ownBlock = some g → ∃ cur t, w.heap[g]? = some (.cells cur t (0, 0)) ∧ t ≠ t' := fun g hg => by
  obtain ⟨hl, ⟨rfl, _⟩ | ⟨b, cap, cur, rfl, hb, hh, hc⟩⟩ := h
  · cases hg
  · injection hg with hg
    subst hg
    exact ⟨cur, e, hh, ht⟩
end Go.Proofs.YtjfllpmiajkenaaGreat.Ms
