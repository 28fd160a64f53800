import Derived.Test.YtobigbnmbnhikaaPb0
import Derived.Test.YtobigbnmbnhikaaPbc19
import Derived.Test.YtobigbnmbnhikaaPbc17
import Derived.Test.YtobigbnmbnhikaaPbc20
import Derived.Test.YtobigbnmbnhikaaPbc21
import Derived.Test.YtobigbnmbnhikaaPb8
import Derived.Test.YtobigbnmbnhikaaPbc22
set_option linter.unusedVariables false
set_option linter.unusedSimpArgs false
namespace Go.Proofs.Ytobigbnmbnhikaa
namespace Cf
open Go.ChangeShapes Go.WideShapes Go.ChangeAt Go.RowKit Mem Rws Nd Cl
theorem enter_of {P : Program} {f : FuncId} {fn : Func} {cd : Code} (hf : P.funcs[f]? = some fn) (hname : (fn.name == "runtime.NumGoroutine") = false) (hb : fn.body = some cd) (args : Array Value) (w : World) : (callFunc f args).run P w = .ok (.enter f args) w := by
 have h1 : fn.name ≠ "runtime.NumGoroutine" := by simpa using hname
 simp [callFunc, hf, h1, hb]
theorem old_trans {w w1 w2 : World} {R : Nat} (h : Old w w1 R) (k : Old w1 w2 R) : Old w w2 R := ⟨Nat.le_trans h.1 k.1, fun b hb hR => (k.2 b (Nat.lt_of_lt_of_le hb h.1) hR).trans (h.2 b hb hR)⟩
theorem old_blk {w w1 : World} {R b : Nat} {t : TypeId} {cs : Array Value} (h : Old w w1 R) (hb : Blk w b t cs) (hR : b ≠ R) : Blk w1 b t cs := (h.2 b hb.lt hR).trans hb
theorem old_lies {w w1 : World} {R B : Nat} {A : Option Addr} {ls : List Lie} (h : Old w w1 R) (hl : LiesAt w B A ls) (hB : B ≤ w.heap.size) (hR : B ≤ R) : LiesAt w1 B A ls := hl.keep fun b o hb => cell_same (h.2 b (by omega) (by omega)) o
theorem newK_same {α : Type} (bad : Int) (G : Nat → α) (n : Nat) : newK bad G G n = G := funext fun i => by unfold newK; split <;> rfl
structure FrAt (w0 wk : World) (gR gC : Nat) (x : InS) (LA : Option Addr) (F : Nat → Nat → Value) (V : Nat → List Bool) (X : Nat → List Ms.Msg) (s : RunC) : Prop where
 run : RunAt wk gR gC s
 hF : s.F = F
 hV : s.VL = V
 hX : s.bX = X
 bad : s.bad = x.bad
 la : s.LA = LA
 ll : s.LL = x.ls.length
 old : Old w0 wk gR
 os : wk.os = w0.os
 tape : wk.tape = w0.tape
 output : wk.output = w0.output
 va : ∀ j, j < 4 → ∀ a, s.VA j = some a → gR < a.block
theorem FrAt.go {w0 wk : World} {gR gC : Nat} {x : InS} {LA : Option Addr} {F : Nat → Nat → Value} {V : Nat → List Bool} {X : Nat → List Ms.Msg} {s : RunC} (h : FrAt w0 wk gR gC x LA F V X s) (hls : LiesAt w0 gC LA x.ls) (hC : gC ≤ w0.heap.size) (hCR : gC ≤ gR) (hn : x.ls.length ≤ 400)
  (ph : Int) (g : Nat) (lb : Array Value) (eg : ∀ args w, (callFunc g args).run Try.prog w = .ok (.enter g args) w) (G : Nat → Nat → Value) (V' : Nat → List Bool) (k fr : Int) (mz : Nat → List Int) (hV : ∀ i, i < 4 → (V' i).length ≤ 140737488351232) (hz : ∀ i, i < 4 → (mz i).length * 8 ≤ 140737488351232) (hG : ∀ i, i < 4 → ∀ j, j < 73 → okT (nodeT j) (G i j))
  (hf : ∀ i : Nat, i < 4 → (i : Int) ≠ x.bad → ∀ (W : World) (A : Option Addr) (c : Nat) (AI : Option Addr) (ci : Nat), Old w0 W gR → (A = none → c = 0) → (V i).length ≤ c → (V i).length ≤ 140737488351232 → Rd W W.heap.size 1 A (V i).length (boolsV (V i)) → Ms.MsgsAt W W.heap.size AI (X i) →
   Calls Try.prog g (#[.agg (row 74 (nodeW (F i) (.slice A (V i).length c))), .slice AI (X i).length ci] ++ lb) W fun e w' => NodeMsg W w' (G i) (V' i) k (i : Int) fr (mz i) e) :
  Calls Try.prog 20 #[.pointer (some ⟨gR, 0, none⟩), .int .i64 ph, .func (.func g) #[] lb] wk fun e w' => e = .returned (.tuple #[]) ∧ ∃ s', FrAt w0 w' gR gC x LA (newK x.bad G F 4) (newK x.bad V' V 4) (phX x.bad ph x.ls (fun _ => k) nod (fun _ => fr) mz 4) s' := by
 obtain ⟨h1, rfl, rfl, rfl, h5, h6, h7, h8, h9, h10, h11, h12⟩ := h; have hlt := h1.blk.lt; refine (phase_any gR gC s ph g lb eg x.ls h7 hn wk h1 (by rw [h6]; exact old_lies h8 hls hC hCR) G V' (fun _ => k) nod (fun _ => fr) mz hV hz hG (fun i hi hb W A c AI ci hO => ?_)).mono ?_
 · exact hf i hi (by rw [← h5]; exact hb) W A c AI ci (old_trans h8 hO)
 ·
  rintro e w' ⟨rfl, hO, ho, ht, hu, s', hr, ⟨e1, e2, e3, e4, e5, e6⟩, e7, e8, e9, e10⟩
  exact ⟨rfl, s', hr, by rw [e7, h5], by rw [e8, h5], by rw [e9, h5], e3.trans h5, e4.trans h6, e5.trans h7, old_trans h8 hO, ho.trans h9, ht.trans h10, hu.trans h11, fun j hj a e => by
   rcases e10 j hj with e11 | e11
   · exact h12 j hj a (e11.symm.trans e)
   · have := e11 a e; omega⟩
section
variable {w0 wk : World} {gR gC : Nat} {c : CluS} {x : InS} {LA : Option Addr} {s : RunC}
theorem phX_small (bad ph : Int) (ls : List Lie) (mk mf mn : Nat → Int) (mz : Nat → List Int) (hn : ls.length ≤ 400) (j : Nat) : (phX bad ph ls mk mf mn mz 4 j).length ≤ 140737488355328 := by
 have := phX_len bad ph ls mk mf mn mz hn j 4; omega
def AllOk (F : Nat → Nat → Value) : Prop := ∀ i, i < 4 → ∀ j, j < 73 → okT (nodeT j) (F i j)
theorem AllOk.new {bad : Int} {G F : Nat → Nat → Value} (hG : AllOk G) (hF : AllOk F) : AllOk (newK bad G F 4) := fun i hi => by
 by_cases h : (i : Int) = bad
 · rw [newK_bad h]; exact hF i hi
 · rw [newK_good hi h]; exact hG i hi
theorem all1 (hs : Sane c) : AllOk (F1 c x) := AllOk.new (fun i hi => ok_sense (hs.ok i hi) _ _ hi _ _ _) hs.ok
theorem allG2 (h : AllOk (F1 c x)) : AllOk (G2 c x) := fun i hi => ok_relay (h i hi) _ _ (Nat.le_refl _)
theorem all2 (h : AllOk (F1 c x)) : AllOk (F2 c x) := AllOk.new (allG2 h) h
theorem allG3 (h : AllOk (F2 c x)) : AllOk (G3 c x) := fun i hi => ok_decF (h i hi) _ hi _
theorem all3 (h : AllOk (F2 c x)) : AllOk (F3 c x) := AllOk.new (allG3 h) h
theorem allG4 (h : AllOk (F3 c x)) : AllOk (G4 c x) := fun i hi => ok_pass (h i hi) _ _ (Nat.le_refl _)
theorem all4 (h : AllOk (F3 c x)) : AllOk (F4 c x) := AllOk.new (allG4 h) h
theorem allG5 (h : AllOk (F4 c x)) : AllOk (G5 c x) := fun i hi => ok_judge (h i hi) _
theorem all5 (h : AllOk (F4 c x)) : AllOk (F5 c x) := AllOk.new (allG5 h) h
theorem allG6 (h : AllOk (F5 c x)) : AllOk (G6 c x) := fun i hi => ok_close (h i hi) _
theorem ph0 {X : Nat → List Ms.Msg} (hs : Sane c) (h : FrAt w0 wk gR gC x LA c.F c.V X s) (hls : LiesAt w0 gC LA x.ls) (hC : gC + 1 < w0.heap.size) (hCR : gC + 1 < gR) (hn : x.ls.length ≤ 400)
  (hc : w0.cell? ⟨gC, 0, none⟩ = some (.int .i64 c.fr)) (hi : ∀ k, k < 4 → w0.rangeAt (gC + 1) (k * 3) ((List.range 3).map fun j => .int .i64 (x.rd (k * 3 + j)))) :
  Calls Try.prog 20 #[.pointer (some ⟨gR, 0, none⟩), .int .i64 0, .func (.func 21) #[] #[.pointer (some ⟨gC, 0, none⟩), .pointer (some ⟨gC + 1, 0, none⟩)]] wk fun e w' => e = .returned (.tuple #[]) ∧ ∃ s', FrAt w0 w' gR gC x LA (F1 c x) c.V (X1 c x) s' := by
 have h0 := h.go hls (by omega) (by omega) hn 0 21 #[.pointer (some ⟨gC, 0, none⟩), .pointer (some ⟨gC + 1, 0, none⟩)] (enter_of Try.func21 (by kernel_rfl) rfl) (G1 c x) c.V 1 c.fr (rds x) hs.v (fun i hi => by unfold rds; simp) (fun i hi => ok_sense (hs.ok i hi) _ _ hi _ _ _)
  (fun i hi' hb W A cc AI ci hO hA hl1 hl2 hr hm => by
   have hsz := hO.1
   exact closure_any (c.F i) (hs.ok i hi') i hi' (hs.id i hi') c.fr x.rd A cc (c.V i) AI _ ci gC (gC + 1) W hA hl1 hl2 hr (by omega) (by omega) ((cell_same (hO.2 gC (by omega) (by omega)) 0).trans hc) (fun j v hv => (cell_same (hO.2 (gC + 1) (by omega) (by omega)) _).trans (hi i hi' j v hv)))
 rw [newK_same] at h0; exact h0
theorem ph1 (hs : Sane c) (hg : Good x.bad c.fr (F1 c x)) (ha : AllOk (F1 c x)) (h : FrAt w0 wk gR gC x LA (F1 c x) c.V (X1 c x) s) (hls : LiesAt w0 gC LA x.ls) (hC : gC ≤ w0.heap.size) (hCR : gC ≤ gR) (hn : x.ls.length ≤ 400) :
  Calls Try.prog 20 #[.pointer (some ⟨gR, 0, none⟩), .int .i64 1, .func (.func 23) #[] #[]] wk fun e w' => e = .returned (.tuple #[]) ∧ ∃ s', FrAt w0 w' gR gC x LA (F2 c x) c.V (X2 c x) s' := by
 have h0 := h.go hls hC hCR hn 1 23 #[] (enter_of Try.func23 (by kernel_rfl) rfl) (G2 c x) c.V 2 c.fr (fun i => dvs (G2 c x i)) hs.v (fun i hi => by unfold dvs; simp) (allG2 ha)
  (fun i hi hb W A cc AI ci hO hA hl1 hl2 hr hm => by
   obtain ⟨g1, g2, g3, g4⟩ := hg i hi hb
   exact relay_any (F1 c x i) g3 i hi g1 c.fr g2 A cc (c.V i) AI ci (X1 c x i) W.heap.size W (Nat.le_refl _) hA hl1 hl2 hr (phX_small _ _ _ _ _ _ _ hn i) hm)
 rw [newK_same] at h0; exact h0
theorem ph2 (hs : Sane c) (hg : Good x.bad c.fr (F2 c x)) (ha : AllOk (F2 c x)) (h : FrAt w0 wk gR gC x LA (F2 c x) c.V (X2 c x) s) (hls : LiesAt w0 gC LA x.ls) (hC : gC ≤ w0.heap.size) (hCR : gC ≤ gR) (hn : x.ls.length ≤ 400) :
  Calls Try.prog 20 #[.pointer (some ⟨gR, 0, none⟩), .int .i64 2, .func (.func 24) #[] #[]] wk fun e w' => e = .returned (.tuple #[]) ∧ ∃ s', FrAt w0 w' gR gC x LA (F3 c x) c.V (X3 c x) s' := by
 have h0 := h.go hls hC hCR hn 2 24 #[] (enter_of Try.func24 (by kernel_rfl) rfl) (G3 c x) c.V 3 c.fr (fun i => [D3 c x i]) hs.v (fun i hi => by simp) (allG3 ha)
  (fun i hi hb W A cc AI ci hO hA hl1 hl2 hr hm => by
   obtain ⟨g1, g2, g3, g4⟩ := hg i hi hb
   exact decide_any (F2 c x i) g3 i hi g1 c.fr g2 A cc (c.V i) AI ci (X2 c x i) W.heap.size W (Nat.le_refl _) hA hl1 hl2 hr (phX_small _ _ _ _ _ _ _ hn i) hm g4 (phX_wf _ _ _ _ _ _ _ _ _))
 rw [newK_same] at h0; exact h0
theorem ph3 (hs : Sane c) (hg : Good x.bad c.fr (F3 c x)) (ha : AllOk (F3 c x)) (h : FrAt w0 wk gR gC x LA (F3 c x) c.V (X3 c x) s) (hls : LiesAt w0 gC LA x.ls) (hC : gC ≤ w0.heap.size) (hCR : gC ≤ gR) (hn : x.ls.length ≤ 400) :
  Calls Try.prog 20 #[.pointer (some ⟨gR, 0, none⟩), .int .i64 3, .func (.func 25) #[] #[]] wk fun e w' => e = .returned (.tuple #[]) ∧ ∃ s', FrAt w0 w' gR gC x LA (F4 c x) c.V (X4 c x) s' := by
 have h0 := h.go hls hC hCR hn 3 25 #[] (enter_of Try.func25 (by kernel_rfl) rfl) (G4 c x) c.V 2 c.fr (fun i => hvs (G4 c x i)) hs.v (fun i hi => by unfold hvs; simp) (allG4 ha)
  (fun i hi hb W A cc AI ci hO hA hl1 hl2 hr hm => by
   obtain ⟨g1, g2, g3, g4⟩ := hg i hi hb
   exact pass_any (F3 c x i) g3 i hi g1 c.fr g2 A cc (c.V i) AI ci (X3 c x i) W.heap.size W (Nat.le_refl _) hA hl1 hl2 hr (phX_small _ _ _ _ _ _ _ hn i) hm)
 rw [newK_same] at h0; exact h0
theorem ph4 (hs : Sane c) (hg : Good x.bad c.fr (F4 c x)) (ha : AllOk (F4 c x)) (h : FrAt w0 wk gR gC x LA (F4 c x) c.V (X4 c x) s) (hls : LiesAt w0 gC LA x.ls) (hC : gC ≤ w0.heap.size) (hCR : gC ≤ gR) (hn : x.ls.length ≤ 400) :
  Calls Try.prog 20 #[.pointer (some ⟨gR, 0, none⟩), .int .i64 4, .func (.func 26) #[] #[]] wk fun e w' => e = .returned (.tuple #[]) ∧ ∃ s', FrAt w0 w' gR gC x LA (F5 c x) (W5 c x) (X5 c x) s' := by
 exact h.go hls hC hCR hn 4 26 #[] (enter_of Try.func26 (by kernel_rfl) rfl) (G5 c x) (V5 c x) 5 c.fr (fun i => packZ (G5 c x i)) (fun i hi => by unfold V5 agreeL; simp) (fun i hi => by rw [packZ_len]; omega) (allG5 ha)
  (fun i hi hb W A cc AI ci hO hA hl1 hl2 hr hm => by
   obtain ⟨g1, g2, g3, g4⟩ := hg i hi hb
   exact judge_any (F4 c x i) g3 i hi g1 c.fr g2 A cc (c.V i) AI ci (X4 c x i) W.heap.size W (Nat.le_refl _) hA hl1 hl2 hr (phX_small _ _ _ _ _ _ _ hn i) hm g4 (phX_wf _ _ _ _ _ _ _ _ _))
end
end Cf
end Go.Proofs.Ytobigbnmbnhikaa
