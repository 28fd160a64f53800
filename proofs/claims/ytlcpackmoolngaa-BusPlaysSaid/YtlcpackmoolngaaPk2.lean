import Derived.Deep.RegionHeld3
import Derived.Test.YtlcpackmoolngaaPk1
import Derived.Deep.CutBlock
import Derived.Deep.DeepCutAuto
namespace Go.Proofs.Ytlcpackmoolngaa.Rg
set_option linter.unusedVariables false
section
variable {P : Program} {ops : Array Oper} {Q : Exit → Act → World → Prop} {md : Region.Mode} {S T : World → Prop} {reads : List Nat}
def anc (md : Region.Mode) (ops : Array Oper) (i : Nat) : Nat → Nat → Bool
  | 0, _ => false
  | f + 1, j => match ops[j]? with
    | none => false
    | some o => o.after.any fun e => Region.binds md e && (e.on == i || anc md ops i f e.on)
def Closed (md : Region.Mode) (ops : Array Oper) (L : Array Bool) : Prop := ∀ j o, ops[j]? = some o → L.getD j false = true → ∀ e ∈ o.after, Region.binds md e = true → L.getD e.on false = true
def closedB (md : Region.Mode) (ops : Array Oper) (L : Array Bool) : Bool := (List.range ops.size).all fun j => !L.getD j false || ((ops[j]?).map (·.after.all fun e => !Region.binds md e || L.getD e.on false)).getD true
theorem closed_of {L : Array Bool} (h : closedB md ops L = true) : Closed md ops L := by
  intro j o ho hl e he hb
  have hj := (Array.getElem?_eq_some_iff.1 ho).1
  have h1 := List.all_eq_true.1 h j (List.mem_range.2 hj)
  rw [hl, ho] at h1
  simp only [Bool.not_true, Bool.false_or, Option.map_some, Option.getD_some] at h1
  have h2 := Array.all_eq_true_iff_forall_mem.1 h1 e he
  rw [hb] at h2
  simpa using h2
theorem anc_listed {L : Array Bool} {i : Nat} (hc : Closed md ops L) : ∀ (f j : Nat), anc md ops i f j = true → (∀ o, ops[j]? = some o → ∀ e ∈ o.after, Region.binds md e = true → L.getD e.on false = true) → L.getD i false = true
  | 0, _, h, _ => by cases h
  | f + 1, j, h, hj => by
    unfold anc at h
    cases ho : ops[j]? with
    | none => rw [ho] at h; cases h
    | some o =>
      rw [ho] at h
      simp only [← Array.any_toList] at h
      obtain ⟨e, he0, h1⟩ := List.any_eq_true.1 h
      have he : e ∈ o.after := Array.mem_toList_iff.1 he0
      simp only [Bool.and_eq_true, Bool.or_eq_true, beq_iff_eq] at h1
      obtain ⟨hb, rfl | h2⟩ := h1
      · exact hj o ho e he hb
      · exact anc_listed hc f e.on h2 fun o' ho' e' he' hb' => hc e.on o' ho' (hj o ho e he hb) e' he' hb'
def late (md : Region.Mode) (ops : Array Oper) (reads : List Nat) (j : Nat) : Bool := reads.any fun i => i != j && !anc md ops i ops.size j
def wpAnyR (P : Program) (md : Region.Mode) (ops : Array Oper) (Q : Exit → Act → World → Prop) (reads : List Nat) (S : World → Prop) : Nat → Array Bool → Act → World → Prop
  | 0, listed, a, w => Region.ready md ops listed = [] ∧ Q .normal a w
  | fuel + 1, listed, a, w =>
    (Region.ready md ops listed = [] → Q .normal a w) ∧
    ∀ i ∈ Region.ready md ops listed, wpOp P ops Q i (fun a' w' => (late md ops reads i = true → S w → S w') ∧ wpAnyR P md ops Q reads S fuel (listed.setIfInBounds i true) a' w') a w
theorem wpAny_of_R : ∀ (fuel : Nat) (listed : Array Bool) (a : Act) (w : World), wpAnyR P md ops Q reads S fuel listed a w → wpAny P md ops Q fuel listed a w
  | 0, _, _, _, h => h
  | fuel + 1, _, _, _, h => ⟨h.1, fun i hi => wpOp_mono (fun a' w' h' => wpAny_of_R fuel _ a' w' h'.2) (h.2 i hi)⟩
theorem closed_set {L : Array Bool} {j : Nat} (hc : Closed md ops L) (hj : j ∈ Region.ready md ops L) : Closed md ops (L.setIfInBounds j true) := by
  obtain ⟨_, oj, hoj, hall⟩ := mem_ready.1 hj
  intro k o ho hl e he hb
  by_cases hk : j = k
  · subst hk
    rw [hoj] at ho
    obtain rfl := Option.some.inj ho
    exact getD_set_true (hall e he hb)
  · rw [getD_set_ne false hk] at hl
    exact getD_set_true (hc k o ho hl e he hb)
theorem firstR {i : Nat} {oi : Oper} {v : Value} (hi : ops[i]? = some oi) (hsel : ∀ (j : Nat) (o : Oper) cs b, ops[j]? = some o → o.op ≠ .select cs b)
    (hQ : ∀ c a w, Q (.panic c) (a.put oi.dst v) w → Q (.panic c) a w) (hT : (∀ w, T w) ∨ (i ∈ reads ∧ T = S)) :
    ∀ (fuel : Nat) (listed : Array Bool) (a : Act) (w : World), Closed md ops listed →
      (∀ j oj, ops[j]? = some oj → j ≠ i → listed.getD j true = false → (∀ e ∈ oj.after, Region.binds md e = true → e.on ≠ i) → oi.apart ops oj = true) →
      i ∈ Region.ready md ops listed → YieldsIf P ops T oi v a → T w →
      wpAnyR P md ops Q reads S fuel (listed.setIfInBounds i true) (a.put oi.dst v) w → wpAnyR P md ops Q reads S (fuel + 1) listed a w := by
  intro fuel
  induction fuel with
  | zero =>
    intro listed a w _ _ hr hy hS H
    refine ⟨fun h => (by rw [h] at hr; cases hr), fun j hj => ?_⟩
    by_cases hji : j = i
    · subst hji; exact hy.wpOp hi hS ⟨fun _ h => h, H⟩
    · have := ready_mono hj hji
      rw [H.1] at this
      cases this
  | succ fuel ih =>
    intro listed a w hc hfree hr hy hS H
    refine ⟨fun h => (by rw [h] at hr; cases hr), fun j hj => ?_⟩
    by_cases hji : j = i
    · subst hji; exact hy.wpOp hi hS ⟨fun _ h => h, H⟩
    · have h1 := H.2 j (ready_mono hj hji)
      obtain ⟨hjun, oj, hoj, hall⟩ := mem_ready.1 hj
      have hiun := (mem_ready.1 hr).1
      have hnot : ∀ e ∈ oj.after, Region.binds md e = true → e.on ≠ i := fun e he hb heq => by
        have h1 := hall e he hb
        rw [heq] at h1
        rcases Nat.lt_or_ge i listed.size with h' | h'
        · simp [h'] at hiun h1; rw [hiun] at h1; cases h1
        · simp [Array.getElem?_eq_none h'] at h1
      have hlate : i ∈ reads → late md ops reads j = true := fun hmem => by
        refine List.any_eq_true.2 ⟨i, hmem, ?_⟩
        rw [Bool.and_eq_true]
        refine ⟨by simpa using Ne.symm hji, ?_⟩
        cases ha : anc md ops i ops.size j
        · rfl
        · have h2 := anc_listed hc _ _ ha fun o ho e he hb => by rw [hoj] at ho; obtain rfl := Option.some.inj ho; exact hall e he hb
          rcases Nat.lt_or_ge i listed.size with h' | h'
          · simp [h'] at hiun h2; rw [hiun] at h2; cases h2
          · simp [Array.getElem?_eq_none h'] at h2
      have h2 := wpOp_putIf hoj (hfree j oj hoj hji hjun hnot) (fun cs b => hsel i oi cs b hi) (fun cs b => hsel j oj cs b hoj) hQ hy h1
      have hfree' : ∀ k ok, ops[k]? = some ok → k ≠ i → (listed.setIfInBounds j true).getD k true = false →
          (∀ e ∈ ok.after, Region.binds md e = true → e.on ≠ i) → oi.apart ops ok = true := fun k ok hk hki hun hno => by
        refine hfree k ok hk hki ?_ hno
        by_cases hjk : j = k
        · subst hjk; exact hjun
        · rw [getD_set_ne true hjk] at hun; exact hun
      refine wpOp_mono (fun a' w' h3 => ⟨h3.2.1, ih (listed.setIfInBounds j true) a' w' (closed_set hc hj) hfree' (ready_mono hr (Ne.symm hji)) h3.1 ?_ ?_⟩) h2
      · rcases hT with hT | ⟨hmem, rfl⟩
        · exact hT _
        · exact h3.2.1 (hlate hmem) hS
      · rw [Array.setIfInBounds_comm _ _ hji]
        exact h3.2.2
theorem takeP {i : Nat} {oi : Oper} {v : Value} {fuel : Nat} {listed : Array Bool} {a : Act} {w : World} (hi : ops[i]? = some oi)
    (hs : (Region.noSelect ops && Region.free md ops listed i && (Region.ready md ops listed).contains i && closedB md ops listed) = true)
    (hQ : ∀ c a w, Q (.panic c) (a.put oi.dst v) w → Q (.panic c) a w) (hw : Region.wanted oi (yielded ops a.tmps) = true) (hy : ∀ w, (execOp a.eval oi).run P w = .ok (.value v) w)
    (h : wpAnyR P md ops Q reads S fuel (listed.setIfInBounds i true) (a.put oi.dst v) w) : wpAnyR P md ops Q reads S (fuel + 1) listed a w := by
  simp only [Bool.and_eq_true] at hs
  obtain ⟨⟨⟨h1, h2⟩, h3⟩, h4⟩ := hs
  exact firstR (T := fun _ => True) hi (Region.noSelect_spec h1) hQ (.inl fun _ => trivial) fuel listed a w (closed_of h4) (Region.free_spec hi h2) (by simpa using h3) (.inl ⟨hw, fun w _ => hy w⟩) trivial h
theorem takeS {i : Nat} {oi : Oper} {v : Value} {fuel : Nat} {listed : Array Bool} {a : Act} {w : World} (hi : ops[i]? = some oi)
    (hs : (Region.noSelect ops && Region.free md ops listed i && (Region.ready md ops listed).contains i && closedB md ops listed && reads.contains i) = true)
    (hQ : ∀ c a w, Q (.panic c) (a.put oi.dst v) w → Q (.panic c) a w) (hw : Region.wanted oi (yielded ops a.tmps) = true) (hS : S w) (hy : ∀ w, S w → (execOp a.eval oi).run P w = .ok (.value v) w)
    (h : wpAnyR P md ops Q reads S fuel (listed.setIfInBounds i true) (a.put oi.dst v) w) : wpAnyR P md ops Q reads S (fuel + 1) listed a w := by
  simp only [Bool.and_eq_true] at hs
  obtain ⟨⟨⟨⟨h1, h2⟩, h3⟩, h4⟩, h5⟩ := hs
  exact firstR (T := S) hi (Region.noSelect_spec h1) hQ (.inr ⟨by simpa using h5, rfl⟩) fuel listed a w (closed_of h4) (Region.free_spec hi h2) (by simpa using h3) (.inl ⟨hw, hy⟩) hS h
def StepR (P : Program) (md : Region.Mode) (ops : Array Oper) (Q : Exit → Act → World → Prop) (reads : List Nat) (S : World → Prop) (fuel : Nat) (listed : Array Bool) (i : Nat) (oi : Oper) (a : Act) (w : World) : Prop :=
  ∀ K' : Act → World → Prop, (∀ a w', (late md ops reads i = true → S w → S w') → wpAnyR P md ops Q reads S fuel (listed.setIfInBounds i true) a w' → K' a w') → if Region.wanted oi (yielded ops a.tmps) = true then Oper.wp P oi a w K' Q else K' (a.put oi.dst undef) w
theorem oneR {i : Nat} {oi : Oper} {fuel : Nat} {listed : Array Bool} {a : Act} {w : World} (hi : ops[i]? = some oi) (hr : Region.ready md ops listed = [i])
    (h : StepR P md ops Q reads S fuel listed i oi a w) : wpAnyR P md ops Q reads S (fuel + 1) listed a w :=
  ⟨fun h0 => absurd (hr ▸ h0) (by simp), fun j hj => by
    rw [hr] at hj
    obtain rfl : j = i := by simpa using hj
    exact wpOp_step hi fun K' hK => h K' fun a w' h1 h2 => hK a w' ⟨h1, h2⟩⟩
theorem twoR {i j : Nat} {oi oj : Oper} {fuel : Nat} {listed : Array Bool} {a : Act} {w : World} (hr : Region.ready md ops listed = [i, j]) (hi : ops[i]? = some oi) (hj : ops[j]? = some oj)
    (h1 : StepR P md ops Q reads S fuel listed i oi a w) (h2 : StepR P md ops Q reads S fuel listed j oj a w) : wpAnyR P md ops Q reads S (fuel + 1) listed a w :=
  ⟨fun h0 => absurd (hr ▸ h0) (by simp), fun k hk => by
    rw [hr] at hk
    rcases List.mem_cons.1 hk with rfl | hk
    · exact wpOp_step hi fun K' hK => h1 K' fun a w' h1 h2 => hK a w' ⟨h1, h2⟩
    · obtain rfl : k = j := by simpa using hk
      exact wpOp_step hj fun K' hK => h2 K' fun a w' h1 h2 => hK a w' ⟨h1, h2⟩⟩
theorem stepF {i : Nat} {oi : Oper} {fuel : Nat} {listed : Array Bool} {a : Act} {w : World} (hl : late md ops reads i = false)
    (h : ∀ K' : Act → World → Prop, Shut (∀ a w', wpAnyR P md ops Q reads S fuel (listed.setIfInBounds i true) a w' → K' a w') → if Region.wanted oi (yielded ops a.tmps) = true then Oper.wp P oi a w K' Q else K' (a.put oi.dst undef) w) :
    StepR P md ops Q reads S fuel listed i oi a w :=
  fun K' hK => h K' fun a w' h2 => hK a w' (fun hh => absurd (hl.symm.trans hh) (by simp)) h2
theorem stepS {i : Nat} {oi : Oper} {fuel : Nat} {listed : Array Bool} {a : Act} {w : World}
    (h : ∀ K' : Act → World → Prop, Shut (∀ a w', S w' → wpAnyR P md ops Q reads S fuel (listed.setIfInBounds i true) a w' → K' a w') → if Region.wanted oi (yielded ops a.tmps) = true then Oper.wp P oi a w K' Q else K' (a.put oi.dst undef) w) :
    StepR P md ops Q reads S fuel listed i oi a w :=
  fun K' hK => h K' fun a w' h1 h2 => hK a w' (fun _ _ => h1) h2
theorem doneR {listed : Array Bool} {a : Act} {w : World} (hr : Region.ready md ops listed = []) (h : Q .normal a w) : ∀ fuel, wpAnyR P md ops Q reads S fuel listed a w
  | 0 => ⟨hr, h⟩
  | _ + 1 => ⟨fun _ => h, by rw [hr]; simp⟩
theorem beginR {id : Nat} {a : Act} {w : World} (reads : List Nat) (S : World → Prop) (hm : P.follows .mixedOrders = true)
    (h : wpAnyR P .any ops Q reads S ops.size (Array.replicate ops.size false) a w.drew) : (Code.region id ops true).wp P Q a w :=
  wp_region_any hm (wpAny_of_R _ _ _ _ h)
end
end Go.Proofs.Ytlcpackmoolngaa.Rg
namespace Go.Proofs.Ytlcpackmoolngaa.Bu
open Go.ChangeShapes Go.WideShapes Go.ChangeAt Go.RowKit Go.Proofs.Ytlcpackmoolngaa.Mem Go.Proofs.Ytlcpackmoolngaa.Op Go.Proofs.Ytlcpackmoolngaa.Sm Go.Proofs.Ytlcpackmoolngaa.Nd Go.Proofs.Ytlcpackmoolngaa.Rws
set_option linter.unusedVariables false
set_option linter.unusedSimpArgs false
def OwnBus (w w' : World) (now ser : Int) (qs : List Parc) (e : Ending) : Prop :=
  ∃ A c, e = .returned (.agg #[.int .i64 now, .int .i64 ser, .slice A qs.length c]) ∧ OwnParcs w' w.heap.size A c qs ∧ Below w.heap.size w w'
def OwnBusD (w w' : World) (now ser : Int) (qs : List Parc) (e : Ending) : Prop :=
  ∃ A c, e = .returned (.agg #[.int .i64 now, .int .i64 ser, .slice A qs.length c]) ∧ OwnD w' w.heap.size A c qs ∧ Below w.heap.size w w'
theorem OwnBusD.own {w w' : World} {now ser : Int} {qs : List Parc} {e : Ending} (h : OwnBusD w w' now ser qs e) : OwnBus w w' now ser qs e := by
  obtain ⟨A, c, h1, h2, h3⟩ := h
  exact ⟨A, c, h1, h2.own, h3⟩
theorem own_set_typed {w : World} {base : Nat} {e : TypeId} {size n : Nat} {v : Value} {xs : List Value} (h : w.ownsRow base e size v n xs) {g : Nat} {cs : Array Value} {t : TypeId} (hg : w.heap[g]? = some (.cells cs t (0, 0))) (hne : t ≠ e) (i : Nat) (u : Value) : (w.setCell ⟨g, i, none⟩ u).ownsRow base e size v n xs := by
  obtain ⟨hl, h | ⟨b, cap, cur, hv, hb, hh, hr⟩⟩ := h
  · exact ⟨hl, .inl h⟩
  · refine ⟨hl, .inr ⟨b, cap, cur, hv, hb, (Below.heap_setCell w ⟨g, i, none⟩ u b (fun e1 => ?_)).trans hh, hr⟩⟩
    have e1 : b = g := e1
    rw [e1, hg] at hh
    injection hh with hh
    injection hh with _ h4 _
    exact hne h4
theorem own_ge {w : World} {base : Nat} {e : TypeId} {size n : Nat} {v : Value} {xs : List Value} (h : w.ownsRow base e size v n xs) {g : Nat} (hg : g < base) : some g ≠ v.ownBlock := fun e => by
  have := (h.lt g e.symm).1
  omega
set_option maxRecDepth 100000 in
set_option maxHeartbeats 4000000 in
theorem copybusD_any (now ser : Int) (A : Option Addr) (c : Nat) (qs : List Parc) (B : Nat) (w : World) (hB : B ≤ w.heap.size) (hl : qs.length * 56 ≤ 140737488351232) (hr : ParcsAt w B A qs) :
    Calls Try.prog 10 #[.agg #[.int .i64 now, .int .i64 ser, .slice A qs.length c]] w fun e w' => OwnBusD w w' now ser qs e := by
  have HR := Lib.hid hr
  clear hr
  have D1 := Lib.hid (show Blk (((w.alloc (.cells #[.int .i64 now, .int .i64 ser, .slice A qs.length c] 24)).alloc (.cells #[.int .i64 0, .int .i64 0, .slice none 0 0] 24)).alloc (.cells #[.int .i64 now, .int .i64 ser, .slice none 0 0] 24)) w.heap.size 24 #[.int .i64 now, .int .i64 ser, .slice A qs.length c] from ((Blk.new rfl).alloc _).alloc _)
  have D2 := Lib.hid (show Blk (((w.alloc (.cells #[.int .i64 now, .int .i64 ser, .slice A qs.length c] 24)).alloc (.cells #[.int .i64 0, .int .i64 0, .slice none 0 0] 24)).alloc (.cells #[.int .i64 now, .int .i64 ser, .slice none 0 0] 24)) (w.heap.size + 1) 24 #[.int .i64 0, .int .i64 0, .slice none 0 0] from (Blk.new (by simp)).alloc _)
  have D3 := Lib.hid (show Blk (((w.alloc (.cells #[.int .i64 now, .int .i64 ser, .slice A qs.length c] 24)).alloc (.cells #[.int .i64 0, .int .i64 0, .slice none 0 0] 24)).alloc (.cells #[.int .i64 now, .int .i64 ser, .slice none 0 0] 24)) (w.heap.size + 1 + 1) 24 #[.int .i64 now, .int .i64 ser, .slice none 0 0] from Blk.new (by simp))
  have HB := Lib.hid ((((Below.refl w.heap.size w).alloc (Nat.le_refl _) (.cells #[.int .i64 now, .int .i64 ser, .slice A qs.length c] 24)).alloc (by simp) (.cells #[.int .i64 0, .int .i64 0, .slice none 0 0] 24)).alloc (by simp; omega) (.cells #[.int .i64 now, .int .i64 ser, .slice none 0 0] 24))
  go_enter Try.func10, Try.ntmps10
  go_upto_region 2 with fail
  generalize (((w.alloc (.cells #[.int .i64 now, .int .i64 ser, .slice A qs.length c] 24)).alloc (.cells #[.int .i64 0, .int .i64 0, .slice none 0 0] 24)).alloc (.cells #[.int .i64 now, .int .i64 ser, .slice none 0 0] 24)) = W at *
  have d2 := D1.out.cell 2
  simp only [List.getElem?_toArray, List.getElem?_cons_zero, List.getElem?_cons_succ] at d2
  go_wp2_with fail
  clear d2
  go_loopw [14] (fun i wr => ∃ (k : Nat) (A' : Option Addr) (c' : Nat), k ≤ qs.length ∧ i = .int .i64 k ∧ Blk wr w.heap.size 24 #[.int .i64 now, .int .i64 ser, .slice A qs.length c] ∧ Blk wr (w.heap.size + 1) 24 #[.int .i64 0, .int .i64 0, .slice none 0 0] ∧ Blk wr (w.heap.size + 1 + 1) 24 #[.int .i64 now, .int .i64 ser, .slice A' k c'] ∧ OwnD wr (w.heap.size + 1 + 1 + 1) A' c' (qs.take k) ∧ Below w.heap.size w wr) (fun i _ => qs.length - (intOf i).toNat)
  case atStart => exact ⟨0, none, 0, by omega, rfl, D1.out, D2.out, D3.out, OwnD.nil (World.ownsRow_nil _ _ _ _) D3.out.lt, HB.out⟩
  case round =>
    clear D1 D2 D3 HB
    obtain ⟨k, A', c', hk, rfl, b1, b2, b3, ho, hb⟩ := hrel
    have R3 := Lib.hid b3
    have R1 := Lib.hid b1
    have R2 := Lib.hid b2
    have HB := Lib.hid hb
    have HOP := Lib.hid ho
    by_cases hlt : k < qs.length
    · have hm : qs[k]? = some qs[k] := List.getElem?_eq_getElem hlt
      have HTK := Lib.hid (show qs.take (k + 1) = qs.take k ++ [qs[k]] from by rw [List.take_add_one, hm]; rfl)
      generalize qs[k] = p at *
      obtain ⟨b, o, a, ca, rfl, hbB, x0, x1, x2, x3, x4, h2, h3, h4, h5⟩ := (HR.out.below (hb.mono hB)).at hm
      obtain ⟨xs, cut, hrow, ⟨hc0, hcm, hcs⟩, hxs⟩ := ho
      have htk : (qs.take k).length = k := by rw [List.length_take]; omega
      rw [htk] at hrow hcs
      have HCT := Lib.hid (show w.heap.size + 1 + 1 ≤ cut 0 from by omega)
      have HCUT := Lib.hid (And.intro hc0 hcm)
      have HCS := Lib.hid hcs
      have HRow := Lib.hid hrow
      have HX := Lib.hid hxs
      have HTL := Lib.hid htk
      have H4 := Lib.hid h4
      have H5 := Lib.hid h5
      have hk0 : (0 : Int) ≤ (k : Int) := by omega
      have hk1 : (k : Int) < (qs.length : Int) := by omega
      have hb0 := hb.size
      have hbs : (w.heap.size + 1 + 1 + 1) ≤ wr.heap.size := b3.lt
      clear hrow hxs h5 hm htk hc0 hcm hcs HCT hb b1 b2 b3 HOP
      go_upto_region 5 with fail
      have PB := Lib.hid (show Blk (wr.alloc (.cells #[.int .i64 p.f, .int .i64 p.t, .int .i64 p.d, .int .i64 p.s, .slice a p.bs.length ca] 52)) wr.heap.size 52 #[.int .i64 p.f, .int .i64 p.t, .int .i64 p.d, .int .i64 p.s, .slice a p.bs.length ca] from Blk.fresh _ _ _)
      have hbl : Below wr.heap.size wr (wr.alloc (.cells #[.int .i64 p.f, .int .i64 p.t, .int .i64 p.d, .int .i64 p.s, .slice a p.bs.length ca] 52)) := (Below.refl _ _).alloc (Nat.le_refl _) _
      have HBL := Lib.hid hbl
      have H5 := Lib.hid (H5.out.below (hbl.mono (Nat.le_trans hB hb0)))
      have hgl := PB.out.lt
      clear x0 x1 x2 x3 x4 hbl
      generalize (wr.alloc (.cells #[.int .i64 p.f, .int .i64 p.t, .int .i64 p.d, .int .i64 p.s, .slice a p.bs.length ca] 52)) = w2 at *
      obtain ⟨g, hg⟩ : ∃ g, wr.heap.size = g := ⟨_, rfl⟩
      rw [hg] at PB hgl hbs ⊢
      have HGG := Lib.hid hg
      clear hg
      have y4 := PB.out.cell 4
      simp only [List.getElem?_toArray, List.getElem?_cons_zero, List.getElem?_cons_succ] at y4
      go_upto_region 6 with (at_builtin; refine wpList_append_rd _ rfl (.const (.slice none 0 0)) (.tmp 19) 38 rfl (base := wr.heap.size) elemBytes rfl (World.ownsRow_nil _ _ _ _) rfl (fun h => ⟨by have := h2 h; omega, h2 h⟩) H5.out (bytesV_one p.bs) (by unfold maxLen; omega) (by omega) HBL.out.size ?_; intro A2 c2 w3 hA2 hown hgr; (try simp only [List.nil_append, Nat.zero_add] at hown); (try simp only [Nat.zero_add]); have HI := Lib.hid hown; have HBL := Lib.hid (HBL.out.grown hgr HBL.out.size (by intro g e; cases e)); have PB := Lib.hid (PB.out.grown hgr (by simp [Value.ownBlock, Act.eval])); have y4 := PB.out.cell 4; have f4 := PB.out.thaw 4; clear hown hgr hA2)
      have PB0 := PB
      have PB : Hid (Blk (w3.setCell ⟨g, 4, none⟩ (.slice A2 p.bs.length c2)) g 52 #[.int .i64 p.f, .int .i64 p.t, .int .i64 p.d, .int .i64 p.s, .slice A2 p.bs.length c2]) := Lib.hid (PB.out.set 4 (.slice A2 p.bs.length c2))
      have HI := Lib.hid (own_set_typed HI.out (show w3.heap[g]? = some (.cells #[.int .i64 p.f, .int .i64 p.t, .int .i64 p.d, .int .i64 p.s, .slice a p.bs.length ca] 52 (0, 0)) from PB0.out) (by decide) 4 (.slice A2 p.bs.length c2))
      have HBL : Hid (Below wr.heap.size wr (w3.setCell ⟨g, 4, none⟩ (.slice A2 p.bs.length c2))) := Lib.hid (HBL.out.setCell (p := ⟨g, 4, none⟩) (by show wr.heap.size ≤ g; have := HGG.out; omega) (.slice A2 p.bs.length c2))
      clear PB0
      generalize (w3.setCell ⟨g, 4, none⟩ (.slice A2 p.bs.length c2)) = w4 at *
      have HRow := Lib.hid (Nd.ownsRow_below HRow.out HBL.out)
      have HXX : Hid (∀ i p', (qs.take k)[i]? = some p' → InD w4 (cut i) (cut (i + 1)) xs i p') := Lib.hid fun i p' hi => by
        obtain ⟨a, c', g1, g2, g3⟩ := HX.out i p' hi
        exact ⟨a, c', g1, Nd.ownsRow_below g2 HBL.out, g3⟩
      have R1 := Lib.hid (R1.out.below HBL.out R1.out.lt)
      have R2 := Lib.hid (R2.out.below HBL.out R2.out.lt)
      have R3 := Lib.hid (R3.out.below HBL.out R3.out.lt)
      have HB := Lib.hid (onward HB.out (Nat.le_refl _) HBL.out)
      have HZ4 := Lib.hid HBL.out.size
      clear HX y4 HBL H5
      have HN : Hid (Rd (w4.alloc (.cells #[.int .i64 p.f, .int .i64 p.t, .int .i64 p.d, .int .i64 p.s, .slice A2 p.bs.length c2] 52)) (w4.heap.size + 1) 5 (some ⟨w4.heap.size, 0, none⟩) 1 (parcL p A2 c2)) := Lib.hid (rd_five w4 (parcL p A2 c2) rfl _)
      have hb3 : Below w4.heap.size w4 (w4.alloc (.cells #[.int .i64 p.f, .int .i64 p.t, .int .i64 p.d, .int .i64 p.s, .slice A2 p.bs.length c2] 52)) := (Below.refl _ _).alloc (Nat.le_refl _) _
      have HQ := Lib.hid (Nd.ownsRow_below HRow.out hb3)
      have HI := Lib.hid (Nd.ownsRow_below HI.out hb3)
      have HLW := Lib.hid (Nat.le_trans HZ4.out hb3.size)
      have HXX : Hid (∀ i p', (qs.take k)[i]? = some p' → InD (w4.alloc (.cells #[.int .i64 p.f, .int .i64 p.t, .int .i64 p.d, .int .i64 p.s, .slice A2 p.bs.length c2] 52)) (cut i) (cut (i + 1)) xs i p') := Lib.hid fun i p' hi => by
        obtain ⟨a, c', g1, g2, g3⟩ := HXX.out i p' hi
        exact ⟨a, c', g1, Nd.ownsRow_below g2 hb3, g3⟩
      have QR1 := Lib.hid (R1.out.below hb3 R1.out.lt)
      have QR2 := Lib.hid (R2.out.below hb3 R2.out.lt)
      have QR3 := Lib.hid (R3.out.below hb3 R3.out.lt)
      have HY := Lib.hid (onward HB.out (Nat.le_refl _) hb3)
      have HBS : Hid ((w.heap.size + 1 + 1 + 1) ≤ (w4.alloc (.cells #[.int .i64 p.f, .int .i64 p.t, .int .i64 p.d, .int .i64 p.s, .slice A2 p.bs.length c2] 52)).heap.size) := Lib.hid (by have := PB.out.lt; simp; omega)
      have hkl : (k + 1) * 56 ≤ 140737488351232 := by omega
      have yy0 := PB.out.cell 0
      have yy1 := PB.out.cell 1
      have yy2 := PB.out.cell 2
      have yy3 := PB.out.cell 3
      have yy4 := PB.out.cell 4
      simp only [List.getElem?_toArray, List.getElem?_cons_zero, List.getElem?_cons_succ] at yy0 yy1 yy2 yy3 yy4
      have yq := R3.out.cell 2
      simp only [List.getElem?_toArray, List.getElem?_cons_zero, List.getElem?_cons_succ] at yq
      clear hb3
      go_wp2_with (at_builtin; refine wpList_append_rd _ rfl (.tmp 23) (.tmp 25) 22 rfl (base := (w.heap.size + 1 + 1 + 1)) elemParcs rfl HQ.out rfl (fun h => by cases h) HN.out (by simp [parcL, Value.oneCell']) (by unfold maxLen; omega) (by omega) HBS.out ?_; intro A4 c4 w5 hA4 hown4 hg4; have HO4 := Lib.hid hown4; have HG4 := Lib.hid hg4; clear hown4 hg4 hA4; have QR3 := Lib.hid (QR3.out.grown HG4.out (own_ge HQ.out (by omega))); have yq := QR3.out.cell 2; have fq := QR3.out.thaw 2)
      have hfin := OwnD.snoc (lo := wr.heap.size) (by rw [HTL.out]; exact HCS.out) HCUT.out HXX.out (by rw [HTL.out]; exact HQ.out) HI.out H4.out HLW.out (by rw [HTL.out]; exact HO4.out) (by rw [HTL.out]; exact HG4.out)
      rw [← HTK.out] at hfin
      exact ⟨⟨k + 1, A4, c4, by omega, by go_num, (QR1.out.grown HG4.out (own_ge HQ.out (by omega))).other (p := ⟨w.heap.size + 1 + 1, 2, none⟩) (by show w.heap.size ≠ w.heap.size + 1 + 1; omega) _, (QR2.out.grown HG4.out (own_ge HQ.out (by omega))).other (p := ⟨w.heap.size + 1 + 1, 2, none⟩) (by show w.heap.size + 1 ≠ w.heap.size + 1 + 1; omega) _, QR3.out.set 2 _, hfin.keep (Nat.le_refl _) (by simp) fun _ _ _ _ _ _ hle h => Vt.own_setCell h (by omega) _, (HY.out.grown HG4.out HY.out.size (fun g e => by have := (HQ.out.lt g e).1; omega)).setCell (p := ⟨w.heap.size + 1 + 1, 2, none⟩) (by show w.heap.size ≤ w.heap.size + 1 + 1; omega) _⟩, by simp [intOf]; omega⟩
    · obtain rfl : k = qs.length := by omega
      clear hlt b1 b2 b3 ho hb
      rw [List.take_length] at HOP
      go_wp2_with (first
        | (refine wpList_whole rfl 24 _ rfl (w.heap.size + 1 + 1) rfl R3.out _ Try.underlying24 rfl (by kernel_rfl) ?_)
        | (refine wpList_store_row rfl 24 _ _ rfl (w.heap.size + 1) #[.int .i64 now, .int .i64 ser, .slice A' qs.length c'] rfl rfl 24 _ R2.out (by kernel_rfl) rfl (by simp [Value.oneCell']) ?_))
      exact ret_row rfl rfl (R2.out.setRow _) Try.underlying24 rfl (by kernel_rfl) rfl ⟨A', c', rfl, HOP.out.keep (by omega) (below_setRow (Below.refl 0 _) (Nat.zero_le _) _).size fun _ _ _ _ _ _ hle h => own_setRow h (by omega) _, below_setRow HB.out (by omega) _⟩
set_option maxRecDepth 100000 in
set_option maxHeartbeats 4000000 in
theorem copiedD_any (now ser : Int) (A : Option Addr) (c : Nat) (qs : List Parc) (B : Nat) (w : World) (hB : B ≤ w.heap.size) (hl : qs.length * 56 ≤ 140737488351232) (hr : ParcsAt w B A qs) :
    Calls Try.prog 26 #[.agg #[.int .i64 now, .int .i64 ser, .slice A qs.length c]] w fun e w' => OwnBusD w w' now ser qs e := by
  have HR := Lib.hid hr
  clear hr
  have D1 := Lib.hid (show Blk ((w.alloc (.cells #[.int .i64 now, .int .i64 ser, .slice A qs.length c] 24)).alloc (.cells #[.int .i64 0, .int .i64 0, .slice none 0 0] 24)) w.heap.size 24 #[.int .i64 now, .int .i64 ser, .slice A qs.length c] from (Blk.new rfl).alloc _)
  have D2 := Lib.hid (show Blk ((w.alloc (.cells #[.int .i64 now, .int .i64 ser, .slice A qs.length c] 24)).alloc (.cells #[.int .i64 0, .int .i64 0, .slice none 0 0] 24)) (w.heap.size + 1) 24 #[.int .i64 0, .int .i64 0, .slice none 0 0] from Blk.new (by simp))
  have HB := Lib.hid (((Below.refl w.heap.size w).alloc (Nat.le_refl _) (.cells #[.int .i64 now, .int .i64 ser, .slice A qs.length c] 24)).alloc (by simp) (.cells #[.int .i64 0, .int .i64 0, .slice none 0 0] 24))
  go_enter Try.func26, Try.ntmps26
  go_upto_region 1 with fail
  generalize ((w.alloc (.cells #[.int .i64 now, .int .i64 ser, .slice A qs.length c] 24)).alloc (.cells #[.int .i64 0, .int .i64 0, .slice none 0 0] 24)) = W at *
  have d2 := D1.out.cell 2
  simp only [List.getElem?_toArray, List.getElem?_cons_zero, List.getElem?_cons_succ] at d2
  have hWs : w.heap.size + 1 + 1 ≤ W.heap.size := D2.out.lt
  have ew : IntKind.i64.wrap ((qs.length : Int) + 1) = (qs.length : Int) + 1 := IntWalk.i64_in _ (by omega)
  go_upto_region 2 with (refine wpList_make_cap rfl _ _ 22 rfl elemParcs (qs.length + 1) rfl rfl (by simp) (by simp) (by omega) (by unfold maxLen; omega) hWs ?_; intro W1 hown hg; have HQ0 := Lib.hid hown; have HG0 := Lib.hid hg; clear hown hg)
  have D1 := Lib.hid (D1.out.grown HG0.out (by simp))
  have D2 := Lib.hid (D2.out.grown HG0.out (by simp))
  have HB := Lib.hid (HB.out.grown HG0.out HB.out.size (fun g e => by cases e))
  have d2 := D1.out.cell 2
  simp only [List.getElem?_toArray, List.getElem?_cons_zero, List.getElem?_cons_succ] at d2
  go_wp2_with fail
  clear d2
  go_loopw [3, 14] (fun q i wr => ∃ (k : Nat) (A' : Option Addr) (c' : Nat), k ≤ qs.length ∧ i = .int .i64 k ∧ q = .slice A' k c' ∧ Blk wr w.heap.size 24 #[.int .i64 now, .int .i64 ser, .slice A qs.length c] ∧ Blk wr (w.heap.size + 1) 24 #[.int .i64 0, .int .i64 0, .slice none 0 0] ∧ OwnD wr (w.heap.size + 1 + 1) A' c' (qs.take k) ∧ Below w.heap.size w wr) (fun _ i _ => qs.length - (intOf i).toNat)
  case atStart => exact ⟨0, _, _, by omega, rfl, rfl, D1.out, D2.out, OwnD.nil HQ0.out D2.out.lt, HB.out⟩
  case round =>
    clear D1 D2 HB HQ0 HG0
    obtain ⟨k, A', c', hk, rfl, rfl, b1, b2, ho, hb⟩ := hrel
    have R1 := Lib.hid b1
    have R2 := Lib.hid b2
    have HB := Lib.hid hb
    have HOP := Lib.hid ho
    by_cases hlt : k < qs.length
    · have hm : qs[k]? = some qs[k] := List.getElem?_eq_getElem hlt
      have HTK := Lib.hid (show qs.take (k + 1) = qs.take k ++ [qs[k]] from by rw [List.take_add_one, hm]; rfl)
      generalize qs[k] = p at *
      obtain ⟨b, o, a, ca, rfl, hbB, x0, x1, x2, x3, x4, h2, h3, h4, h5⟩ := (HR.out.below (hb.mono hB)).at hm
      obtain ⟨xs, cut, hrow, ⟨hc0, hcm, hcs⟩, hxs⟩ := ho
      have htk : (qs.take k).length = k := by rw [List.length_take]; omega
      rw [htk] at hrow hcs
      have HCT := Lib.hid (show w.heap.size + 1 + 1 ≤ cut 0 from by omega)
      have HCUT := Lib.hid (And.intro hc0 hcm)
      have HCS := Lib.hid hcs
      have HRow := Lib.hid hrow
      have HX := Lib.hid hxs
      have HTL := Lib.hid htk
      have H4 := Lib.hid h4
      have H5 := Lib.hid h5
      have hk0 : (0 : Int) ≤ (k : Int) := by omega
      have hk1 : (k : Int) < (qs.length : Int) := by omega
      have hb0 := hb.size
      have hbs : (w.heap.size + 1 + 1) ≤ wr.heap.size := b2.lt
      clear hrow hxs h5 hm htk hc0 hcm hcs HCT hb b1 b2 HOP
      go_upto_region 5 with fail
      have PB := Lib.hid (show Blk (wr.alloc (.cells #[.int .i64 p.f, .int .i64 p.t, .int .i64 p.d, .int .i64 p.s, .slice a p.bs.length ca] 52)) wr.heap.size 52 #[.int .i64 p.f, .int .i64 p.t, .int .i64 p.d, .int .i64 p.s, .slice a p.bs.length ca] from Blk.fresh _ _ _)
      have hbl : Below wr.heap.size wr (wr.alloc (.cells #[.int .i64 p.f, .int .i64 p.t, .int .i64 p.d, .int .i64 p.s, .slice a p.bs.length ca] 52)) := (Below.refl _ _).alloc (Nat.le_refl _) _
      have HBL := Lib.hid hbl
      have H5 := Lib.hid (H5.out.below (hbl.mono (Nat.le_trans hB hb0)))
      have hgl := PB.out.lt
      clear x0 x1 x2 x3 x4 hbl
      generalize (wr.alloc (.cells #[.int .i64 p.f, .int .i64 p.t, .int .i64 p.d, .int .i64 p.s, .slice a p.bs.length ca] 52)) = w2 at *
      obtain ⟨g, hg⟩ : ∃ g, wr.heap.size = g := ⟨_, rfl⟩
      rw [hg] at PB hgl hbs ⊢
      have HGG := Lib.hid hg
      clear hg
      have y4 := PB.out.cell 4
      simp only [List.getElem?_toArray, List.getElem?_cons_zero, List.getElem?_cons_succ] at y4
      go_wp2_with fail
      refine (clone_any a ca p.bs w2.heap.size w2 (Nat.le_refl _) h2 h3 h4 (H5.out.more (by have := HBL.out.size; omega))).mono ?_
      rintro e w3 ⟨A2, c2, rfl, hown, hbc⟩
      have HI := Lib.hid (own_weaken hown (show wr.heap.size ≤ w2.heap.size from HBL.out.size))
      have HBL := Lib.hid (HBL.out.trans (hbc.mono (by have := HBL.out.size; omega)))
      have PB := Lib.hid (PB.out.below hbc PB.out.lt)
      have y4 := PB.out.cell 4
      have f4 := PB.out.thaw 4
      clear hown hbc
      go_upto_region 6 with fail
      have PB0 := PB
      have PB : Hid (Blk (w3.setCell ⟨g, 4, none⟩ (.slice A2 p.bs.length c2)) g 52 #[.int .i64 p.f, .int .i64 p.t, .int .i64 p.d, .int .i64 p.s, .slice A2 p.bs.length c2]) := Lib.hid (PB.out.set 4 (.slice A2 p.bs.length c2))
      have HI := Lib.hid (own_set_typed HI.out (show w3.heap[g]? = some (.cells #[.int .i64 p.f, .int .i64 p.t, .int .i64 p.d, .int .i64 p.s, .slice a p.bs.length ca] 52 (0, 0)) from PB0.out) (by decide) 4 (.slice A2 p.bs.length c2))
      have HBL : Hid (Below wr.heap.size wr (w3.setCell ⟨g, 4, none⟩ (.slice A2 p.bs.length c2))) := Lib.hid (HBL.out.setCell (p := ⟨g, 4, none⟩) (by show wr.heap.size ≤ g; have := HGG.out; omega) (.slice A2 p.bs.length c2))
      clear PB0
      generalize (w3.setCell ⟨g, 4, none⟩ (.slice A2 p.bs.length c2)) = w4 at *
      have HRow := Lib.hid (Nd.ownsRow_below HRow.out HBL.out)
      have HXX : Hid (∀ i p', (qs.take k)[i]? = some p' → InD w4 (cut i) (cut (i + 1)) xs i p') := Lib.hid fun i p' hi => by
        obtain ⟨a, c', g1, g2, g3⟩ := HX.out i p' hi
        exact ⟨a, c', g1, Nd.ownsRow_below g2 HBL.out, g3⟩
      have R1 := Lib.hid (R1.out.below HBL.out R1.out.lt)
      have R2 := Lib.hid (R2.out.below HBL.out R2.out.lt)
      have HB := Lib.hid (onward HB.out (Nat.le_refl _) HBL.out)
      have HZ4 := Lib.hid HBL.out.size
      clear HX y4 HBL H5
      have HN : Hid (Rd (w4.alloc (.cells #[.int .i64 p.f, .int .i64 p.t, .int .i64 p.d, .int .i64 p.s, .slice A2 p.bs.length c2] 52)) (w4.heap.size + 1) 5 (some ⟨w4.heap.size, 0, none⟩) 1 (parcL p A2 c2)) := Lib.hid (rd_five w4 (parcL p A2 c2) rfl _)
      have hb3 : Below w4.heap.size w4 (w4.alloc (.cells #[.int .i64 p.f, .int .i64 p.t, .int .i64 p.d, .int .i64 p.s, .slice A2 p.bs.length c2] 52)) := (Below.refl _ _).alloc (Nat.le_refl _) _
      have HQ := Lib.hid (Nd.ownsRow_below HRow.out hb3)
      have HI := Lib.hid (Nd.ownsRow_below HI.out hb3)
      have HLW := Lib.hid (Nat.le_trans HZ4.out hb3.size)
      have HXX : Hid (∀ i p', (qs.take k)[i]? = some p' → InD (w4.alloc (.cells #[.int .i64 p.f, .int .i64 p.t, .int .i64 p.d, .int .i64 p.s, .slice A2 p.bs.length c2] 52)) (cut i) (cut (i + 1)) xs i p') := Lib.hid fun i p' hi => by
        obtain ⟨a, c', g1, g2, g3⟩ := HXX.out i p' hi
        exact ⟨a, c', g1, Nd.ownsRow_below g2 hb3, g3⟩
      have QR1 := Lib.hid (R1.out.below hb3 R1.out.lt)
      have QR2 := Lib.hid (R2.out.below hb3 R2.out.lt)
      have HY := Lib.hid (onward HB.out (Nat.le_refl _) hb3)
      have HBS : Hid ((w.heap.size + 1 + 1) ≤ (w4.alloc (.cells #[.int .i64 p.f, .int .i64 p.t, .int .i64 p.d, .int .i64 p.s, .slice A2 p.bs.length c2] 52)).heap.size) := Lib.hid (by have := PB.out.lt; simp; omega)
      have hkl : (k + 1) * 56 ≤ 140737488351232 := by omega
      have yy0 := PB.out.cell 0
      have yy1 := PB.out.cell 1
      have yy2 := PB.out.cell 2
      have yy3 := PB.out.cell 3
      have yy4 := PB.out.cell 4
      simp only [List.getElem?_toArray, List.getElem?_cons_zero, List.getElem?_cons_succ] at yy0 yy1 yy2 yy3 yy4
      clear hb3
      go_wp2_with (at_builtin; refine wpList_append_rd _ rfl (.tmp 22) (.tmp 24) 22 rfl (base := (w.heap.size + 1 + 1)) elemParcs rfl HQ.out rfl (fun h => by cases h) HN.out (by simp [parcL, Value.oneCell']) (by unfold maxLen; omega) (by omega) HBS.out ?_; intro A4 c4 w5 hA4 hown4 hg4; have HO4 := Lib.hid hown4; have HG4 := Lib.hid hg4; clear hown4 hg4 hA4)
      have hfin := OwnD.snoc (lo := wr.heap.size) (by rw [HTL.out]; exact HCS.out) HCUT.out HXX.out (by rw [HTL.out]; exact HQ.out) HI.out H4.out HLW.out (by rw [HTL.out]; exact HO4.out) (by rw [HTL.out]; exact HG4.out)
      rw [← HTK.out] at hfin
      exact ⟨⟨k + 1, A4, c4, by omega, by go_num, rfl, QR1.out.grown HG4.out (own_ge HQ.out (by omega)), QR2.out.grown HG4.out (own_ge HQ.out (by omega)), hfin, HY.out.grown HG4.out HY.out.size (fun g e => by have := (HQ.out.lt g e).1; omega)⟩, by simp [intOf]; omega⟩
    · obtain rfl : k = qs.length := by omega
      clear hlt b1 b2 ho hb
      rw [List.take_length] at HOP
      have y2 := R1.out.cell 2
      have f2 := R1.out.thaw 2
      have R2 := Lib.hid (R2.out.other (p := ⟨w.heap.size, 2, none⟩) (by show w.heap.size + 1 ≠ w.heap.size; omega) (.slice A' qs.length c'))
      have R1 : Hid (Blk (wr.setCell ⟨w.heap.size, 2, none⟩ (.slice A' qs.length c')) w.heap.size 24 #[.int .i64 now, .int .i64 ser, .slice A' qs.length c']) := Lib.hid (R1.out.set 2 _)
      have HOP := Lib.hid (HOP.out.keep (base' := (w.heap.size + 1 + 1)) (w' := wr.setCell ⟨w.heap.size, 2, none⟩ (.slice A' qs.length c')) (Nat.le_refl _) (by simp) fun _ _ _ _ _ _ hle h => Vt.own_setCell (g := w.heap.size) (i := 2) h (by omega) (.slice A' qs.length c'))
      have HB := Lib.hid (HB.out.setCell (p := ⟨w.heap.size, 2, none⟩) (Nat.le_refl _) (.slice A' qs.length c'))
      go_wp2_with (first
        | (refine wpList_whole rfl 24 _ rfl w.heap.size rfl R1.out _ Try.underlying24 rfl (by kernel_rfl) ?_)
        | (refine wpList_store_row rfl 24 _ _ rfl (w.heap.size + 1) #[.int .i64 now, .int .i64 ser, .slice A' qs.length c'] rfl rfl 24 _ R2.out (by kernel_rfl) rfl (by simp [Value.oneCell']) ?_))
      exact ret_row rfl rfl (R2.out.setRow _) Try.underlying24 rfl (by kernel_rfl) rfl ⟨A', c', rfl, HOP.out.keep (by omega) (below_setRow (Below.refl 0 _) (Nat.zero_le _) _).size fun _ _ _ _ _ _ hle h => own_setRow h (by omega) _, below_setRow HB.out (by omega) _⟩
theorem copybus_any (now ser : Int) (A : Option Addr) (c : Nat) (qs : List Parc) (B : Nat) (w : World) (hB : B ≤ w.heap.size) (hl : qs.length * 56 ≤ 140737488351232) (hr : ParcsAt w B A qs) :
    Calls Try.prog 10 #[.agg #[.int .i64 now, .int .i64 ser, .slice A qs.length c]] w fun e w' => OwnBus w w' now ser qs e := (copybusD_any now ser A c qs B w hB hl hr).mono fun _ _ h => h.own
theorem copied_any (now ser : Int) (A : Option Addr) (c : Nat) (qs : List Parc) (B : Nat) (w : World) (hB : B ≤ w.heap.size) (hl : qs.length * 56 ≤ 140737488351232) (hr : ParcsAt w B A qs) :
    Calls Try.prog 26 #[.agg #[.int .i64 now, .int .i64 ser, .slice A qs.length c]] w fun e w' => OwnBus w w' now ser qs e := (copiedD_any now ser A c qs B w hB hl hr).mono fun _ _ h => h.own
end Go.Proofs.Ytlcpackmoolngaa.Bu
