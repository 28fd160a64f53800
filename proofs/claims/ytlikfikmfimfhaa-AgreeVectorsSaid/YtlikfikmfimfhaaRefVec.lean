/- Contract: the reference's Vectors. -/
import Derived.Test.YtlikfikmfimfhaaVectors
namespace Go.Proofs.Ytlikfikmfimfhaa.Av
open Go.RowKit Go.Proofs.Ytlikfikmfimfhaa.Mem Go.Proofs.Ytlikfikmfimfhaa.Rws Go.Proofs.Ytlikfikmfimfhaa.Ints Go.Proofs.Ytlikfikmfimfhaa.BigW
set_option linter.unusedVariables false
set_option linter.unusedSimpArgs false

/-- the reference's cells: the values, the lies, the result, how many lies were told, what is taken for said -/
structure VAt (w0 w : World) (gv gw gr gc go : Nat) (vals : Nat → Int) (A : Option Addr) (c l k : Nat) (O : Nat → Nat → Int) : Prop where
  vals : Blk w gv 22 (rowF .i64 4 vals)
  lies : Blk w gw 23 #[.slice A l c]
  res : Blk w gr 24 (rowF .i64 16 fun _ => 0)
  told : Blk w gc 3 #[.int .i64 (k : Int)]
  out : Blk w go 24 (rowF .i64 16 fun q => O (q / 4) (q % 4))
  bel : Below gv w0 w
section
variable {w0 w w' : World} {gv gw gr gc go : Nat} {vals : Nat → Int} {A : Option Addr} {c l k : Nat} {O : Nat → Nat → Int}
theorem VAt.size (h : VAt w0 w gv gw gr gc go vals A c l k O) : gv ≤ w.heap.size := Nat.le_of_lt h.vals.lt
theorem VAt.alloc (h : VAt w0 w gv gw gr gc go vals A c l k O) (o : Obj) : VAt w0 (w.alloc o) gv gw gr gc go vals A c l k O := ⟨h.vals.alloc o, h.lies.alloc o, h.res.alloc o, h.told.alloc o, h.out.alloc o, h.bel.alloc h.size o⟩
theorem VAt.drew (h : VAt w0 w gv gw gr gc go vals A c l k O) : VAt w0 w.drew gv gw gr gc go vals A c l k O := ⟨h.vals.drew, h.lies.drew, h.res.drew, h.told.drew, h.out.drew, h.bel.drew⟩
theorem VAt.grown (h : VAt w0 w gv gw gr gc go vals A c l k O) (h1 : gv < gw) (h2 : gw < gr) (h3 : gr < gc) (h4 : gc < go) {row : Option Nat} (hg : w.grownBy w' row) (hr : ∀ g, row = some g → go < g) : VAt w0 w' gv gw gr gc go vals A c l k O := by
  have hn : ∀ g, g ≤ go → some g ≠ row := fun g hg e => by have := hr g e.symm; omega
  exact ⟨h.vals.grown hg (hn _ (by omega)), h.lies.grown hg (hn _ (by omega)), h.res.grown hg (hn _ (by omega)), h.told.grown hg (hn _ (by omega)), h.out.grown hg (hn _ (by omega)), h.bel.grown hg h.size (fun g e => by have := hr g e; omega)⟩
theorem VAt.put (h : VAt w0 w gv gw gr gc go vals A c l k O) (h1 : gv < gw) (h2 : gw < gr) (h3 : gr < gc) (h4 : gc < go) {g i : Nat} {u : Value} (hg : go < g) : VAt w0 (w.setCell ⟨g, i, none⟩ u) gv gw gr gc go vals A c l k O :=
  h.grown h1 h2 h3 h4 (grown_set w g i u) (fun g' e => by injection e with e; omega)
theorem VAt.lie (h : VAt w0 w gv gw gr gc go vals A c l k O) (h1 : gv < gw) (h2 : gw < gr) (h3 : gr < gc) (h4 : gc < go) (hst : Blk w' gc 3 #[.int .i64 ((k + 1 : Nat) : Int)]) (hg : w.grownBy w' (some gc)) : VAt w0 w' gv gw gr gc go vals A c l (k + 1) O :=
  ⟨h.vals.grown hg (neq_of (by omega)), h.lies.grown hg (neq_of (by omega)), h.res.grown hg (neq_of (by omega)), hst, h.out.grown hg (neq_of (by omega)), h.bel.grown hg h.size (fun g e => by injection e with e; omega)⟩
theorem VAt.take (h : VAt w0 w gv gw gr gc go vals A c l k O) (h1 : gv < gw) (h2 : gw < gr) (h3 : gr < gc) (h4 : gc < go) {a s : Nat} (hs : s < 4) (v : Int) : VAt w0 (w.setCell ⟨go, a * 4 + s, none⟩ (.int .i64 v)) gv gw gr gc go vals A c l k (upd O a s v) := by
  refine ⟨h.vals.other (p := ⟨go, a * 4 + s, none⟩) (by show _ ≠ go; omega) _, h.lies.other (p := ⟨go, a * 4 + s, none⟩) (by show _ ≠ go; omega) _, h.res.other (p := ⟨go, a * 4 + s, none⟩) (by show _ ≠ go; omega) _, h.told.other (p := ⟨go, a * 4 + s, none⟩) (by show _ ≠ go; omega) _, ?_, h.bel.setCell (p := ⟨go, a * 4 + s, none⟩) (by show _ ≤ go; omega) _⟩
  have hset := h.out.set (a * 4 + s) (.int .i64 v)
  rw [rowF_set (g := fun q => upd O a s v (q / 4) (q % 4)) (fun j _ => by
    unfold upd
    by_cases h : j = a * 4 + s
    · rw [if_pos (by omega), if_pos h]
    · rw [if_neg (fun h1 => h (by omega)), if_neg h])] at hset
  exact hset
end
theorem grown_setRow (w : World) (g : Nat) (cs : Array Value) : w.grownBy (w.setRow g cs) (some g) := ⟨rfl, rfl, rfl, by simp [World.setRow], fun k hk hn => Go.setRow_other w g k cs (fun e => hn (by rw [e]))⟩
theorem set_at {w : World} {g a s : Nat} {O : Nat → Nat → Int} (h : Blk w g 24 (rowF .i64 16 fun q => O (q / 4) (q % 4))) (hs : s < 4) (v : Int) : Blk (w.setCell ⟨g, a * 4 + s, none⟩ (.int .i64 v)) g 24 (rowF .i64 16 fun q => upd O a s v (q / 4) (q % 4)) := by
  have hset := h.set (a * 4 + s) (.int .i64 v)
  rw [rowF_set (g := fun q => upd O a s v (q / 4) (q % 4)) (fun j _ => by
    unfold upd
    by_cases h : j = a * 4 + s
    · rw [if_pos (by omega), if_pos h]
    · rw [if_neg (fun h1 => h (by omega)), if_neg h])] at hset
  exact hset
theorem set_one {w : World} {g r : Nat} {f : Nat → Int} (h : Blk w g 22 (rowF .i64 4 f)) (v : Int) : Blk (w.setCell ⟨g, r, none⟩ (.int .i64 v)) g 22 (rowF .i64 4 (putI f r v)) := by
  have hset := h.set r (.int .i64 v)
  rw [rowF_set (g := putI f r v) (fun j _ => rfl)] at hset
  exact hset
theorem toldF_le (s q : Nat) (T : Nat → Nat → Int) (r : Nat) : (toldF s q T r).length ≤ r := by
  unfold toldF
  rw [List.length_map]
  exact Nat.le_trans (List.length_filter_le _ _) (by simp)

set_option maxRecDepth 100000 in
set_option maxHeartbeats 4000000 in
theorem refvectors_any (a0 a1 a2 a3 bad : Int) (A : Option Addr) (c : Nat) (lies : List Int) (B : Nat) (w : World) (hB : B ≤ w.heap.size) (hr : Rd w B 1 A lies.length (intsV lies)) (hl : lies.length ≤ 140737488355328) (lie : Nat → Int) (hle : ∀ k, lies.getD k 0 = lie k) :
    Calls Try.prog 10 #[.agg #[.int .i64 a0, .int .i64 a1, .int .i64 a2, .int .i64 a3], .int .i64 bad, .slice A lies.length c] w fun e w' =>
      e = .returned (.agg (rowF .i64 16 fun q => (vecF bad (v4 a0 a1 a2 a3) lie 4).1 (q / 4) (q % 4))) ∧ Below w.heap.size w w' := by
  have HR := Lib.hid hr
  have HLL := Lib.hid hl
  have HLE := Lib.hid hle
  clear hr hl hle
  have hmf : ∀ (fn : Fn) (first cap : Array Value) (w : World), (Instr.makeFunc fn first cap).run Try.prog w = .ok (.func fn first cap) w := fun _ _ _ _ => rfl
  go_enter Try.func10, Try.ntmps10
  go_upto_region 4 with fail
  have HVA := Lib.hid (VAt.mk (w0 := w) (w := (((((w.alloc (.cells #[.int .i64 a0, .int .i64 a1, .int .i64 a2, .int .i64 a3] 22)).alloc (.cells #[.slice A lies.length c] 23)).alloc (.cells #[.int .i64 0, .int .i64 0, .int .i64 0, .int .i64 0, .int .i64 0, .int .i64 0, .int .i64 0, .int .i64 0, .int .i64 0, .int .i64 0, .int .i64 0, .int .i64 0, .int .i64 0, .int .i64 0, .int .i64 0, .int .i64 0] 24)).alloc (.cells #[.int .i64 0] 3)).alloc (.cells #[.int .i64 0, .int .i64 0, .int .i64 0, .int .i64 0, .int .i64 0, .int .i64 0, .int .i64 0, .int .i64 0, .int .i64 0, .int .i64 0, .int .i64 0, .int .i64 0, .int .i64 0, .int .i64 0, .int .i64 0, .int .i64 0] 24))) (gv := w.heap.size) (gw := w.heap.size + 1) (gr := w.heap.size + 1 + 1) (gc := w.heap.size + 1 + 1 + 1) (go := w.heap.size + 1 + 1 + 1 + 1) (vals := v4 a0 a1 a2 a3) (A := A) (c := c) (l := lies.length) (k := 0) (O := fun _ _ => 0)
    ((((((Blk.new rfl).alloc _).alloc _).alloc _).alloc _)) (((((Blk.new (by simp)).alloc _).alloc _).alloc _)) ((((Blk.new (by simp)).alloc _).alloc _)) (((Blk.new (by simp)).alloc _)) ((Blk.new (by simp)))
    ((((((Below.refl _ _).alloc (by omega) _).alloc (by simp) _).alloc (by simp; omega) _).alloc (by simp; omega) _).alloc (by simp; omega) _))
  generalize (((((w.alloc (.cells #[.int .i64 a0, .int .i64 a1, .int .i64 a2, .int .i64 a3] 22)).alloc (.cells #[.slice A lies.length c] 23)).alloc (.cells #[.int .i64 0, .int .i64 0, .int .i64 0, .int .i64 0, .int .i64 0, .int .i64 0, .int .i64 0, .int .i64 0, .int .i64 0, .int .i64 0, .int .i64 0, .int .i64 0, .int .i64 0, .int .i64 0, .int .i64 0, .int .i64 0] 24)).alloc (.cells #[.int .i64 0] 3)).alloc (.cells #[.int .i64 0, .int .i64 0, .int .i64 0, .int .i64 0, .int .i64 0, .int .i64 0, .int .i64 0, .int .i64 0, .int .i64 0, .int .i64 0, .int .i64 0, .int .i64 0, .int .i64 0, .int .i64 0, .int .i64 0, .int .i64 0] 24)) = w1 at *
  clear hmf
  obtain ⟨gv, hgv⟩ : ∃ g, w.heap.size = g := ⟨_, rfl⟩
  have HGV := Lib.hid hgv
  rw [hgv] at hB HVA ⊢
  clear hgv
  obtain ⟨gw, hgw⟩ : ∃ g, gv + 1 = g := ⟨_, rfl⟩
  rw [hgw] at HVA ⊢
  obtain ⟨gr, hgr⟩ : ∃ g, gw + 1 = g := ⟨_, rfl⟩
  rw [hgr] at HVA ⊢
  obtain ⟨gc, hgc⟩ : ∃ g, gr + 1 = g := ⟨_, rfl⟩
  rw [hgc] at HVA ⊢
  obtain ⟨go, hgo⟩ : ∃ g, gc + 1 = g := ⟨_, rfl⟩
  rw [hgo] at HVA ⊢
  have h1 : gv < gw := by omega
  have h2 : gw < gr := by omega
  have h3 : gr < gc := by omega
  have h4 : gc < go := by omega
  clear hgw hgr hgc hgo
  obtain ⟨vals, hvals⟩ : ∃ f, v4 a0 a1 a2 a3 = f := ⟨_, rfl⟩
  have HVALS := Lib.hid hvals
  rw [hvals] at HVA
  clear hvals
  go_wp2_with fail
  go_loopw [10] (fun iv wr => ∃ s : Nat, s ≤ 4 ∧ iv = .int .i64 s ∧ VAt w wr gv gw gr gc go vals A c lies.length (vecF bad vals lie s).2 (vecF bad vals lie s).1) (fun iv _ => 4 - (intOf iv).toNat)
  case atStart => exact ⟨0, by omega, rfl, HVA.out⟩
  case round =>
    clear HVA
    obtain ⟨s, hs4, rfl, hva⟩ := hrel
    have HVA := Lib.hid hva
    clear hva
    by_cases hlt : s < 4
    · have HVS := Lib.hid (show vecF bad vals lie (s + 1) = (colF (vecF bad vals lie s).1 s 4 (takeF s (vals s) (dirA bad vals lie s (vecF bad vals lie s).2).1 (saidA bad vals lie s (vecF bad vals lie s).2).1), (saidA bad vals lie s (vecF bad vals lie s).2).2) from rfl)
      have HCN := Lib.hid (show (vecF bad vals lie s).2 ≤ 80 from by have := vecF_count bad vals lie s; omega)
      generalize vecF bad vals lie s = vv at *
      obtain ⟨V, n⟩ := vv
      simp only at HVS HCN HVA
      have hlt1 : (s : Int) < 4 := by omega
      obtain ⟨v, hv⟩ : ∃ v, vals s = v := ⟨_, rfl⟩
      have HV := Lib.hid hv
      go_upto_region 7 with fail
      have HVA := Lib.hid HVA.out.drew
      have HS : wr.drew.cell? ⟨gv, s, none⟩ = some (.int .i64 v) := by have h := HVA.out.vals.cell s; rw [rowF_at _ _ _ _ hlt, hv] at h; exact h
      rw [hv] at HVS
      clear hv
      refine wp_region_noPanic ?_
      refine Rg.beginR [2, 5, 8, 11] (fun w' => w'.cell? ⟨gv, s, none⟩ = some (.int .i64 v)) (by kernel_rfl) ?_
      generalize wr.drew = w1' at *
      refine Rg.takeP (i := 0) (oi := { dst := some 24, op := Op.move (Operand.tmp 10), type := 3, pos := "links.go:253", after := #[], guard := none }) (v := ?_) rfl (by kernel_rfl) (fun _ _ _ h => h) (by rfl) ?_ ?_
      rotate_left 1
      · (intro w; go_simp; (try with_reducible rfl))
      try simp only [Act.put, List.setIfInBounds_toArray, List.set_cons_zero, List.set_cons_succ]
      refine Rg.takeP (i := 1) (oi := { dst := some 25, op := Op.indexAddr 22 (Operand.tmp 3) (Operand.tmp 24), type := 0, pos := "links.go:253", after := #[{ on := 0, ground := Ground.data }], guard := none }) (v := ?_) rfl (by kernel_rfl) (fun _ _ _ h => h) (by rfl) ?_ ?_
      rotate_left 1
      · (intro w; go_simp; (try with_reducible rfl))
      try simp only [Act.put, List.setIfInBounds_toArray, List.set_cons_zero, List.set_cons_succ]
      refine Rg.takeS (i := 2) (oi := { dst := some 26, op := Op.load 3 (Operand.tmp 25), type := 3, pos := "links.go:253", after := #[{ on := 1, ground := Ground.data }], guard := none }) (v := ?_) rfl (by kernel_rfl) (fun _ _ _ h => h) (by rfl) HS ?_ ?_
      rotate_left 1
      · (intro w hSw; (try dsimp only at hSw); (try go_split_ands); go_simp; (try with_reducible rfl))
      try simp only [Act.put, List.setIfInBounds_toArray, List.set_cons_zero, List.set_cons_succ]
      refine Rg.takeP (i := 3) (oi := { dst := some 27, op := Op.move (Operand.tmp 10), type := 3, pos := "links.go:253", after := #[], guard := none }) (v := ?_) rfl (by kernel_rfl) (fun _ _ _ h => h) (by rfl) ?_ ?_
      rotate_left 1
      · (intro w; go_simp; (try with_reducible rfl))
      try simp only [Act.put, List.setIfInBounds_toArray, List.set_cons_zero, List.set_cons_succ]
      refine Rg.takeP (i := 4) (oi := { dst := some 28, op := Op.indexAddr 22 (Operand.tmp 3) (Operand.tmp 27), type := 0, pos := "links.go:253", after := #[{ on := 3, ground := Ground.data }], guard := none }) (v := ?_) rfl (by kernel_rfl) (fun _ _ _ h => h) (by rfl) ?_ ?_
      rotate_left 1
      · (intro w; go_simp; (try with_reducible rfl))
      try simp only [Act.put, List.setIfInBounds_toArray, List.set_cons_zero, List.set_cons_succ]
      refine Rg.takeS (i := 5) (oi := { dst := some 29, op := Op.load 3 (Operand.tmp 28), type := 3, pos := "links.go:253", after := #[{ on := 4, ground := Ground.data }], guard := none }) (v := ?_) rfl (by kernel_rfl) (fun _ _ _ h => h) (by rfl) HS ?_ ?_
      rotate_left 1
      · (intro w hSw; (try dsimp only at hSw); (try go_split_ands); go_simp; (try with_reducible rfl))
      try simp only [Act.put, List.setIfInBounds_toArray, List.set_cons_zero, List.set_cons_succ]
      refine Rg.takeP (i := 6) (oi := { dst := some 30, op := Op.move (Operand.tmp 10), type := 3, pos := "links.go:253", after := #[], guard := none }) (v := ?_) rfl (by kernel_rfl) (fun _ _ _ h => h) (by rfl) ?_ ?_
      rotate_left 1
      · (intro w; go_simp; (try with_reducible rfl))
      try simp only [Act.put, List.setIfInBounds_toArray, List.set_cons_zero, List.set_cons_succ]
      refine Rg.takeP (i := 7) (oi := { dst := some 31, op := Op.indexAddr 22 (Operand.tmp 3) (Operand.tmp 30), type := 0, pos := "links.go:253", after := #[{ on := 6, ground := Ground.data }], guard := none }) (v := ?_) rfl (by kernel_rfl) (fun _ _ _ h => h) (by rfl) ?_ ?_
      rotate_left 1
      · (intro w; go_simp; (try with_reducible rfl))
      try simp only [Act.put, List.setIfInBounds_toArray, List.set_cons_zero, List.set_cons_succ]
      refine Rg.takeS (i := 8) (oi := { dst := some 32, op := Op.load 3 (Operand.tmp 31), type := 3, pos := "links.go:253", after := #[{ on := 7, ground := Ground.data }], guard := none }) (v := ?_) rfl (by kernel_rfl) (fun _ _ _ h => h) (by rfl) HS ?_ ?_
      rotate_left 1
      · (intro w hSw; (try dsimp only at hSw); (try go_split_ands); go_simp; (try with_reducible rfl))
      try simp only [Act.put, List.setIfInBounds_toArray, List.set_cons_zero, List.set_cons_succ]
      refine Rg.takeP (i := 9) (oi := { dst := some 33, op := Op.move (Operand.tmp 10), type := 3, pos := "links.go:253", after := #[], guard := none }) (v := ?_) rfl (by kernel_rfl) (fun _ _ _ h => h) (by rfl) ?_ ?_
      rotate_left 1
      · (intro w; go_simp; (try with_reducible rfl))
      try simp only [Act.put, List.setIfInBounds_toArray, List.set_cons_zero, List.set_cons_succ]
      refine Rg.takeP (i := 10) (oi := { dst := some 34, op := Op.indexAddr 22 (Operand.tmp 3) (Operand.tmp 33), type := 0, pos := "links.go:253", after := #[{ on := 9, ground := Ground.data }], guard := none }) (v := ?_) rfl (by kernel_rfl) (fun _ _ _ h => h) (by rfl) ?_ ?_
      rotate_left 1
      · (intro w; go_simp; (try with_reducible rfl))
      try simp only [Act.put, List.setIfInBounds_toArray, List.set_cons_zero, List.set_cons_succ]
      refine Rg.takeS (i := 11) (oi := { dst := some 35, op := Op.load 3 (Operand.tmp 34), type := 3, pos := "links.go:253", after := #[{ on := 10, ground := Ground.data }], guard := none }) (v := ?_) rfl (by kernel_rfl) (fun _ _ _ h => h) (by rfl) HS ?_ ?_
      rotate_left 1
      · (intro w hSw; (try dsimp only at hSw); (try go_split_ands); go_simp; (try with_reducible rfl))
      try simp only [Act.put, List.setIfInBounds_toArray, List.set_cons_zero, List.set_cons_succ]
      refine Rg.takeP (i := 12) (oi := { dst := some 36, op := Op.build 22 #[(0, Operand.tmp 26), (1, Operand.tmp 29), (2, Operand.tmp 32), (3, Operand.tmp 35)], type := 22, pos := "links.go:253", after := #[{ on := 2, ground := Ground.data }, { on := 5, ground := Ground.data }, { on := 8, ground := Ground.data }, { on := 11, ground := Ground.data }], guard := none }) (v := ?_) rfl (by kernel_rfl) (fun _ _ _ h => h) (by rfl) ?_ ?_
      rotate_left 1
      · (intro w; go_simp; (try with_reducible rfl))
      try simp only [Act.put, List.setIfInBounds_toArray, List.set_cons_zero, List.set_cons_succ]
      refine Rg.oneR (i := 13) (oi := { dst := some 11, op := Op.alloc 22, type := 0, pos := "links.go:253", after := #[], guard := none }) rfl (by kernel_rfl) ?_
      refine Rg.stepS ?_
      intro K hK
      rw [if_pos (by rfl)]
      go_simp
      have HH := Lib.hid (show Blk (w1'.alloc (.cells #[.int .i64 0, .int .i64 0, .int .i64 0, .int .i64 0] 22)) w1'.heap.size 22 #[.int .i64 0, .int .i64 0, .int .i64 0, .int .i64 0] from Blk.new rfl)
      have hh1 : go < w1'.heap.size := HVA.out.out.lt
      have HVA := Lib.hid (HVA.out.alloc (.cells #[.int .i64 0, .int .i64 0, .int .i64 0, .int .i64 0] 22))
      replace HS : (w1'.alloc (.cells #[.int .i64 0, .int .i64 0, .int .i64 0, .int .i64 0] 22)).cell? ⟨gv, s, none⟩ = some (.int .i64 v) := by have h := HVA.out.vals.cell s; rw [rowF_at _ _ _ _ hlt, HV.out] at h; exact h
      obtain ⟨gh, hgh⟩ : ∃ g, w1'.heap.size = g := ⟨_, rfl⟩
      rw [hgh] at HH hh1 ⊢
      clear hgh
      generalize (w1'.alloc (.cells #[.int .i64 0, .int .i64 0, .int .i64 0, .int .i64 0] 22)) = w2' at *
      refine hK.out _ _ HS ?_
      clear hK K
      try simp only [Act.put, List.setIfInBounds_toArray, List.set_cons_zero, List.set_cons_succ]
      refine Rg.oneR (i := 14) (oi := { dst := none, op := Op.store 22 (Operand.tmp 11) (Operand.tmp 36), type := 0, pos := "links.go:253", after := #[{ on := 13, ground := Ground.data }, { on := 12, ground := Ground.data }, { on := 0, ground := Ground.phase }, { on := 1, ground := Ground.phase }, { on := 2, ground := Ground.phase }, { on := 3, ground := Ground.phase }, { on := 4, ground := Ground.phase }, { on := 5, ground := Ground.phase }, { on := 6, ground := Ground.phase }, { on := 7, ground := Ground.phase }, { on := 8, ground := Ground.phase }, { on := 9, ground := Ground.phase }, { on := 10, ground := Ground.phase }, { on := 11, ground := Ground.phase }, { on := 12, ground := Ground.phase }, { on := 13, ground := Ground.phase }], guard := none }) rfl (by kernel_rfl) ?_
      refine Rg.stepF ?_ ?_
      · kernel_rfl
      intro K hK
      rw [if_pos (by rfl)]
      refine wp_store_row 22 _ _ rfl gh #[.int .i64 v, .int .i64 v, .int .i64 v, .int .i64 v] rfl rfl 22 _ HH.out (by kernel_rfl) rfl (by simp [Value.oneCell']) ?_
      refine hK.out _ _ ?_
      clear hK K
      try simp only [Act.put, List.setIfInBounds_toArray, List.set_cons_zero, List.set_cons_succ]
      refine Rg.doneR (by kernel_rfl) ?_ _
      refine NoPanic.normal ?_
      clear HS
      have HVA := Lib.hid (HVA.out.grown h1 h2 h3 h4 (grown_setRow w2' gh #[.int .i64 v, .int .i64 v, .int .i64 v, .int .i64 v]) (fun g e => by injection e with e; omega))
      have HH := Lib.hid (show Blk (w2'.setRow gh #[.int .i64 v, .int .i64 v, .int .i64 v, .int .i64 v]) gh 22 (rowF .i64 4 fun _ => v) from HH.out.setRow #[.int .i64 v, .int .i64 v, .int .i64 v, .int .i64 v])
      generalize (w2'.setRow gh #[.int .i64 v, .int .i64 v, .int .i64 v, .int .i64 v]) = w3' at *
      have h5 : go < gh := hh1
      go_wp2_with fail
      go_loopw [12] (fun iv wr => ∃ r : Nat, r ≤ 4 ∧ iv = .int .i64 r ∧ VAt w wr gv gw gr gc go vals A c lies.length (dirF s bad v lie n r).2 V ∧ Blk wr gh 22 (rowF .i64 4 (dirF s bad v lie n r).1)) (fun iv _ => 4 - (intOf iv).toNat)
      case atStart => exact ⟨0, by omega, rfl, HVA.out, HH.out⟩
      case round =>
        clear HVA HH
        obtain ⟨r, hr4, rfl, hva, hh⟩ := hrel
        have HVA := Lib.hid hva
        have HH := Lib.hid hh
        clear hva hh
        by_cases hlr : r < 4
        · have HDF := Lib.hid (show dirF s bad v lie n (r + 1) = if (s : Int) = bad ∧ r ≠ s then (putI (dirF s bad v lie n r).1 r (lie (dirF s bad v lie n r).2), (dirF s bad v lie n r).2 + 1) else dirF s bad v lie n r from rfl)
          have HDC := Lib.hid (show (dirF s bad v lie n r).2 ≤ 200 from by have := dirF_count s bad v lie n r; have := HCN.out; omega)
          generalize dirF s bad v lie n r = dd at *
          obtain ⟨f, m⟩ := dd
          simp only at HDF HVA HH HDC
          have hlr1 : (r : Int) < 4 := by omega
          by_cases hsb : (s : Int) = bad
          · have HSB := Lib.hid hsb
            have hq : ((s : Int) == bad) = true := by simp [hsb]
            clear hsb
            by_cases hrs : r = s
            · have hrs1 : ((r : Int) != (s : Int)) = false := by simp [hrs]
              have HDE := Lib.hid (show dirF s bad v lie n (r + 1) = (f, m) from by rw [HDF.out, if_neg (fun h => h.2 hrs)])
              clear hrs
              go_wp2_with fail
              refine ⟨⟨r + 1, by omega, by go_num, by rw [HDE.out]; exact HVA.out, by rw [HDE.out]; exact HH.out⟩, by simp [intOf]; omega⟩
            · have hrs1 : ((r : Int) != (s : Int)) = true := by simp; omega
              have HDE := Lib.hid (show dirF s bad v lie n (r + 1) = (putI f r (lie m), m + 1) from by rw [HDF.out, if_pos ⟨HSB.out, hrs⟩])
              clear hrs
              go_wp2_with fail
              refine (lie_any A c m gc gw B lies wr HVA.out.told HVA.out.lies (HR.out.below (HVA.out.bel.mono hB)) (by omega) (by omega) HLL.out (by have := HDC.out; omega)).mono ?_
              rw [HLE.out]
              rintro e w3 ⟨rfl, hst, hg⟩
              have HVA := Lib.hid (HVA.out.lie h1 h2 h3 h4 hst hg)
              have HH := Lib.hid (HH.out.grown hg (neq_of (by omega)))
              clear hst hg
              have hc := HH.out.cell r
              rw [rowF_at _ _ _ _ hlr] at hc
              have hf := HH.out.thaw r
              go_wp2_with fail
              refine ⟨⟨r + 1, by omega, by go_num, by rw [HDE.out]; exact HVA.out.put h1 h2 h3 h4 h5, by rw [HDE.out]; exact set_one HH.out (lie m)⟩, by simp [intOf]; omega⟩
          · have hq : ((s : Int) == bad) = false := by simp [hsb]
            have HDE := Lib.hid (show dirF s bad v lie n (r + 1) = (f, m) from by rw [HDF.out, if_neg (fun h => hsb h.1)])
            clear hsb
            go_wp2_with fail
            refine ⟨⟨r + 1, by omega, by go_num, by rw [HDE.out]; exact HVA.out, by rw [HDE.out]; exact HH.out⟩, by simp [intOf]; omega⟩
        · obtain rfl : r = 4 := by omega
          clear hlr
          have HM4 := Lib.hid (show (dirF s bad v lie n 4).2 ≤ 84 from by have := dirF_count s bad v lie n 4; have := HCN.out; omega)
          have HDA := Lib.hid (show dirA bad vals lie s n = dirF s bad v lie n 4 from by unfold dirA; rw [HV.out])
          generalize dirF s bad v lie n 4 = dd at *
          obtain ⟨d, m⟩ := dd
          simp only at HVA HH HM4
          rw [show ((4 : Nat) : Int) = 4 from rfl]
          go_upto_region 14 with fail
          generalize wr = wq1 at *
          have HP := Lib.hid (show Blk (wq1.alloc (.cells #[.int .i64 0, .int .i64 0, .int .i64 0, .int .i64 0, .int .i64 0, .int .i64 0, .int .i64 0, .int .i64 0, .int .i64 0, .int .i64 0, .int .i64 0, .int .i64 0, .int .i64 0, .int .i64 0, .int .i64 0, .int .i64 0] 24)) wq1.heap.size 24 (rowF .i64 16 fun _ => 0) from Blk.new rfl)
          have hhp : gh < wq1.heap.size := HH.out.lt
          have HVA := Lib.hid (HVA.out.alloc (.cells #[.int .i64 0, .int .i64 0, .int .i64 0, .int .i64 0, .int .i64 0, .int .i64 0, .int .i64 0, .int .i64 0, .int .i64 0, .int .i64 0, .int .i64 0, .int .i64 0, .int .i64 0, .int .i64 0, .int .i64 0, .int .i64 0] 24))
          have HH := Lib.hid (HH.out.alloc (.cells #[.int .i64 0, .int .i64 0, .int .i64 0, .int .i64 0, .int .i64 0, .int .i64 0, .int .i64 0, .int .i64 0, .int .i64 0, .int .i64 0, .int .i64 0, .int .i64 0, .int .i64 0, .int .i64 0, .int .i64 0, .int .i64 0] 24))
          generalize (wq1.alloc (.cells #[.int .i64 0, .int .i64 0, .int .i64 0, .int .i64 0, .int .i64 0, .int .i64 0, .int .i64 0, .int .i64 0, .int .i64 0, .int .i64 0, .int .i64 0, .int .i64 0, .int .i64 0, .int .i64 0, .int .i64 0, .int .i64 0] 24)) = w2 at *
          obtain ⟨gp, hgp⟩ : ∃ g, wq1.heap.size = g := ⟨_, rfl⟩
          rw [hgp] at HP hhp ⊢
          clear hgp
          go_wp2_with fail
          go_loopw [14] (fun iv wr => ∃ r : Nat, r ≤ 4 ∧ iv = .int .i64 r ∧ VAt w wr gv gw gr gc go vals A c lies.length (saidR s bad d lie m r).2 V ∧ Blk wr gh 22 (rowF .i64 4 d) ∧ Blk wr gp 24 (rowF .i64 16 fun q => (saidR s bad d lie m r).1 (q / 4) (q % 4))) (fun iv _ => 4 - (intOf iv).toNat)
          case atStart => exact ⟨0, by omega, rfl, HVA.out, HH.out, HP.out⟩
          case round =>
            clear HVA HH HP
            obtain ⟨r, hr4, rfl, hva, hh, hp⟩ := hrel
            have HVA := Lib.hid hva
            have HH := Lib.hid hh
            have HP := Lib.hid hp
            clear hva hh hp
            by_cases hlr : r < 4
            · have HSR := Lib.hid (show saidR s bad d lie m (r + 1) = saidQ s r bad d lie (saidR s bad d lie m r).1 (saidR s bad d lie m r).2 4 from rfl)
              have HSC := Lib.hid (show (saidR s bad d lie m r).2 ≤ 100 from by have := saidR_count s bad d lie m r; have := HM4.out; omega)
              generalize saidR s bad d lie m r = ss at *
              obtain ⟨T, k⟩ := ss
              simp only at HSR HSC HVA HP
              have hlr1 : (r : Int) < 4 := by omega
              go_wp2_with fail
              generalize wr = wq2 at *
              go_loopw [15] (fun iv wr => ∃ q : Nat, q ≤ 4 ∧ iv = .int .i64 q ∧ VAt w wr gv gw gr gc go vals A c lies.length (saidQ s r bad d lie T k q).2 V ∧ Blk wr gh 22 (rowF .i64 4 d) ∧ Blk wr gp 24 (rowF .i64 16 fun i => (saidQ s r bad d lie T k q).1 (i / 4) (i % 4))) (fun iv _ => 4 - (intOf iv).toNat)
              case atStart => exact ⟨0, by omega, rfl, HVA.out, HH.out, HP.out⟩
              case round =>
                clear HVA HH HP
                obtain ⟨q, hq4, rfl, hva, hh, hp⟩ := hrel
                have HVA := Lib.hid hva
                have HH := Lib.hid hh
                have HP := Lib.hid hp
                clear hva hh hp
                by_cases hlq : q < 4
                · have HSQ := Lib.hid (show saidQ s r bad d lie T k (q + 1) = if tells s r q then (if (r : Int) = bad then (upd (saidQ s r bad d lie T k q).1 r q (lie (saidQ s r bad d lie T k q).2), (saidQ s r bad d lie T k q).2 + 1) else (upd (saidQ s r bad d lie T k q).1 r q (d r), (saidQ s r bad d lie T k q).2)) else saidQ s r bad d lie T k q from rfl)
                  have HQC := Lib.hid (show (saidQ s r bad d lie T k q).2 ≤ 200 from by have := saidQ_count s r bad d lie T k q; have := HSC.out; omega)
                  generalize saidQ s r bad d lie T k q = qq at *
                  obtain ⟨Q, kq⟩ := qq
                  simp only at HSQ HQC HVA HP
                  have hlq1 : (q : Int) < 4 := by omega
                  by_cases htell : tells s r q
                  · have n1 : ((r : Int) != (s : Int)) = true := by have := htell.1; simp; omega
                    have n2 : ((q : Int) != (s : Int)) = true := by have := htell.2.1; simp; omega
                    have n3 : ((q : Int) != (r : Int)) = true := by have := htell.2.2; simp; omega
                    have HTE := Lib.hid htell
                    clear htell
                    obtain ⟨x, hx⟩ : ∃ x, d r = x := ⟨_, rfl⟩
                    rw [hx] at HSQ
                    go_upto_region 21 with fail
                    have HVA := Lib.hid HVA.out.drew
                    have HH := Lib.hid HH.out.drew
                    have HP := Lib.hid HP.out.drew
                    have HS : wr.drew.cell? ⟨gh, r, none⟩ = some (.int .i64 x) := by have h := HH.out.cell r; rw [rowF_at _ _ _ _ hlr, hx] at h; exact h
                    clear hx
                    refine wp_region_noPanic ?_
                    refine Rg.beginR [4] (fun w' => w'.cell? ⟨gh, r, none⟩ = some (.int .i64 x)) (by kernel_rfl) ?_
                    generalize wr.drew = w1' at *
                    have hc := HP.out.cell (r * 4 + q)
                    rw [rowF_at _ _ _ _ (show r * 4 + q < 16 by omega)] at hc
                    have hf := HP.out.thaw (r * 4 + q)
                    refine Rg.takeP (i := 0) (oi := { dst := some 74, op := Op.move (Operand.tmp 14), type := 3, pos := "links.go:263", after := #[], guard := none }) (v := ?_) rfl (by kernel_rfl) (fun _ _ _ h => h) (by rfl) ?_ ?_
                    rotate_left 1
                    · (intro w; go_simp; (try with_reducible rfl))
                    try simp only [Act.put, List.setIfInBounds_toArray, List.set_cons_zero, List.set_cons_succ]
                    refine Rg.takeP (i := 1) (oi := { dst := some 75, op := Op.move (Operand.tmp 15), type := 3, pos := "links.go:263", after := #[], guard := none }) (v := ?_) rfl (by kernel_rfl) (fun _ _ _ h => h) (by rfl) ?_ ?_
                    rotate_left 1
                    · (intro w; go_simp; (try with_reducible rfl))
                    try simp only [Act.put, List.setIfInBounds_toArray, List.set_cons_zero, List.set_cons_succ]
                    refine Rg.takeP (i := 2) (oi := { dst := some 76, op := Op.move (Operand.tmp 14), type := 3, pos := "links.go:263", after := #[], guard := none }) (v := ?_) rfl (by kernel_rfl) (fun _ _ _ h => h) (by rfl) ?_ ?_
                    rotate_left 1
                    · (intro w; go_simp; (try with_reducible rfl))
                    try simp only [Act.put, List.setIfInBounds_toArray, List.set_cons_zero, List.set_cons_succ]
                    refine Rg.takeP (i := 3) (oi := { dst := some 77, op := Op.indexAddr 22 (Operand.tmp 11) (Operand.tmp 76), type := 0, pos := "links.go:263", after := #[{ on := 2, ground := Ground.data }], guard := none }) (v := ?_) rfl (by kernel_rfl) (fun _ _ _ h => h) (by rfl) ?_ ?_
                    rotate_left 1
                    · (intro w; go_simp; (try with_reducible rfl))
                    try simp only [Act.put, List.setIfInBounds_toArray, List.set_cons_zero, List.set_cons_succ]
                    refine Rg.takeS (i := 4) (oi := { dst := some 78, op := Op.load 3 (Operand.tmp 77), type := 3, pos := "links.go:263", after := #[{ on := 3, ground := Ground.data }], guard := none }) (v := ?_) rfl (by kernel_rfl) (fun _ _ _ h => h) (by rfl) HS ?_ ?_
                    rotate_left 1
                    · (intro w hSw; (try dsimp only at hSw); (try go_split_ands); go_simp; (try with_reducible rfl))
                    try simp only [Act.put, List.setIfInBounds_toArray, List.set_cons_zero, List.set_cons_succ]
                    refine Rg.takeP (i := 5) (oi := { dst := some 79, op := Op.indexAddr 24 (Operand.tmp 13) (Operand.tmp 74), type := 0, pos := "links.go:263", after := #[{ on := 0, ground := Ground.data }], guard := none }) (v := ?_) rfl (by kernel_rfl) (fun _ _ _ h => h) (by rfl) ?_ ?_
                    rotate_left 1
                    · (intro w; go_simp; (try with_reducible rfl))
                    try simp only [Act.put, List.setIfInBounds_toArray, List.set_cons_zero, List.set_cons_succ]
                    refine Rg.takeP (i := 6) (oi := { dst := some 80, op := Op.indexAddr 22 (Operand.tmp 79) (Operand.tmp 75), type := 0, pos := "links.go:263", after := #[{ on := 5, ground := Ground.data }, { on := 1, ground := Ground.data }, { on := 0, ground := Ground.phase }, { on := 1, ground := Ground.phase }, { on := 2, ground := Ground.phase }, { on := 3, ground := Ground.phase }, { on := 4, ground := Ground.phase }], guard := none }) (v := ?_) rfl (by kernel_rfl) (fun _ _ _ h => h) (by rfl) ?_ ?_
                    rotate_left 1
                    · (intro w; go_simp; (try with_reducible rfl))
                    try simp only [Act.put, List.setIfInBounds_toArray, List.set_cons_zero, List.set_cons_succ]
                    refine Rg.oneR (i := 7) (oi := { dst := none, op := Op.store 3 (Operand.tmp 80) (Operand.tmp 78), type := 0, pos := "links.go:263", after := #[{ on := 6, ground := Ground.data }, { on := 4, ground := Ground.data }, { on := 0, ground := Ground.phase }, { on := 1, ground := Ground.phase }, { on := 2, ground := Ground.phase }, { on := 3, ground := Ground.phase }, { on := 4, ground := Ground.phase }], guard := none }) rfl (by kernel_rfl) ?_
                    refine Rg.stepF ?_ ?_
                    · kernel_rfl
                    intro K hK
                    go_simp
                    refine hK.out _ _ ?_
                    clear hK K
                    try simp only [Act.put, List.setIfInBounds_toArray, List.set_cons_zero, List.set_cons_succ]
                    refine Rg.doneR (by kernel_rfl) ?_ _
                    refine NoPanic.normal ?_
                    clear hc hf HS
                    have HVA := Lib.hid (HVA.out.put (i := r * 4 + q) (u := .int .i64 x) h1 h2 h3 h4 (show go < gp by omega))
                    have HH := Lib.hid (HH.out.other (p := ⟨gp, r * 4 + q, none⟩) (by show _ ≠ gp; omega) (.int .i64 x))
                    have HP := Lib.hid (set_at (a := r) HP.out hlq x)
                    generalize (w1'.setCell ⟨gp, r * 4 + q, none⟩ (.int .i64 x)) = w2' at *
                    by_cases hrb : (r : Int) = bad
                    · have HDE := Lib.hid (show saidQ s r bad d lie T k (q + 1) = (upd Q r q (lie kq), kq + 1) from by rw [HSQ.out, if_pos HTE.out, if_pos hrb])
                      have hb1 : ((r : Int) == bad) = true := by simp [hrb]
                      clear hrb
                      go_upto_region 23 with fail
                      have HVA := Lib.hid HVA.out.drew
                      have HH := Lib.hid HH.out.drew
                      have HP := Lib.hid HP.out.drew
                      refine wp_region_noPanic ?_
                      refine Rg.beginR [] (fun _ => True) (by kernel_rfl) ?_
                      generalize w2'.drew = w4' at *
                      refine Rg.takeP (i := 0) (oi := { dst := some 84, op := Op.move (Operand.tmp 14), type := 3, pos := "links.go:265", after := #[], guard := none }) (v := ?_) rfl (by kernel_rfl) (fun _ _ _ h => h) (by rfl) ?_ ?_
                      rotate_left 1
                      · (intro w; go_simp; (try with_reducible rfl))
                      try simp only [Act.put, List.setIfInBounds_toArray, List.set_cons_zero, List.set_cons_succ]
                      refine Rg.takeP (i := 1) (oi := { dst := some 85, op := Op.move (Operand.tmp 15), type := 3, pos := "links.go:265", after := #[], guard := none }) (v := ?_) rfl (by kernel_rfl) (fun _ _ _ h => h) (by rfl) ?_ ?_
                      rotate_left 1
                      · (intro w; go_simp; (try with_reducible rfl))
                      try simp only [Act.put, List.setIfInBounds_toArray, List.set_cons_zero, List.set_cons_succ]
                      refine Rg.takeP (i := 2) (oi := { dst := some 86, op := Op.move (Operand.tmp 8), type := 86, pos := "links.go:265", after := #[], guard := none }) (v := ?_) rfl (by kernel_rfl) (fun _ _ _ h => h) (by rfl) ?_ ?_
                      rotate_left 1
                      · (intro w; go_simp; (try with_reducible rfl))
                      try simp only [Act.put, List.setIfInBounds_toArray, List.set_cons_zero, List.set_cons_succ]
                      refine Rg.takeP (i := 4) (oi := { dst := some 88, op := Op.indexAddr 24 (Operand.tmp 13) (Operand.tmp 84), type := 0, pos := "links.go:265", after := #[{ on := 0, ground := Ground.data }], guard := none }) (v := ?_) rfl (by kernel_rfl) (fun _ _ _ h => h) (by rfl) ?_ ?_
                      rotate_left 1
                      · (intro w; go_simp; (try with_reducible rfl))
                      try simp only [Act.put, List.setIfInBounds_toArray, List.set_cons_zero, List.set_cons_succ]
                      refine Rg.oneR (i := 3) (oi := { dst := some 87, op := Op.call { callee := Callee.value (Operand.tmp 86), args := #[], argTypes := #[] }, type := 3, pos := "links.go:265", after := #[{ on := 2, ground := Ground.data }], guard := none }) rfl (by kernel_rfl) ?_
                      refine Rg.stepF ?_ ?_
                      · kernel_rfl
                      intro K hK
                      rw [if_pos (by rfl)]
                      go_simp
                      go_at_call 36
                      refine (lie_any A c kq gc gw B lies w4' HVA.out.told HVA.out.lies (HR.out.below (HVA.out.bel.mono hB)) (by omega) (by omega) HLL.out (by have := HQC.out; omega)).mono ?_
                      rw [HLE.out]
                      rintro e w3 ⟨rfl, hst, hg⟩
                      have HVA := Lib.hid (HVA.out.lie h1 h2 h3 h4 hst hg)
                      have HH := Lib.hid (HH.out.grown hg (neq_of (by omega)))
                      have HP := Lib.hid (HP.out.grown hg (neq_of (by omega)))
                      clear hst hg
                      go_wp2_with fail
                      have hc := HP.out.cell (r * 4 + q)
                      rw [rowF_at _ _ _ _ (show r * 4 + q < 16 by omega)] at hc
                      have hf := HP.out.thaw (r * 4 + q)
                      refine hK.out _ _ ?_
                      clear hK K
                      try simp only [Act.put, List.setIfInBounds_toArray, List.set_cons_zero, List.set_cons_succ]
                      refine Rg.takeP (i := 5) (oi := { dst := some 89, op := Op.indexAddr 22 (Operand.tmp 88) (Operand.tmp 85), type := 0, pos := "links.go:265", after := #[{ on := 4, ground := Ground.data }, { on := 1, ground := Ground.data }, { on := 0, ground := Ground.phase }, { on := 1, ground := Ground.phase }, { on := 2, ground := Ground.phase }, { on := 3, ground := Ground.phase }], guard := none }) (v := ?_) rfl (by kernel_rfl) (fun _ _ _ h => h) (by rfl) ?_ ?_
                      rotate_left 1
                      · (intro w; go_simp; (try with_reducible rfl))
                      try simp only [Act.put, List.setIfInBounds_toArray, List.set_cons_zero, List.set_cons_succ]
                      refine Rg.oneR (i := 6) (oi := { dst := none, op := Op.store 3 (Operand.tmp 89) (Operand.tmp 87), type := 0, pos := "links.go:265", after := #[{ on := 5, ground := Ground.data }, { on := 3, ground := Ground.data }, { on := 3, ground := Ground.chain }, { on := 0, ground := Ground.phase }, { on := 1, ground := Ground.phase }, { on := 2, ground := Ground.phase }, { on := 3, ground := Ground.phase }], guard := none }) rfl (by kernel_rfl) ?_
                      refine Rg.stepF ?_ ?_
                      · kernel_rfl
                      intro K hK
                      go_simp
                      refine hK.out _ _ ?_
                      clear hK K
                      try simp only [Act.put, List.setIfInBounds_toArray, List.set_cons_zero, List.set_cons_succ]
                      refine Rg.doneR (by kernel_rfl) ?_ _
                      refine NoPanic.normal ?_
                      clear hc hf
                      have HVA := Lib.hid (HVA.out.put (i := r * 4 + q) (u := (.int .i64 (lie kq))) h1 h2 h3 h4 (show go < gp by omega))
                      have HH := Lib.hid (HH.out.other (p := ⟨gp, r * 4 + q, none⟩) (by show _ ≠ gp; omega) (.int .i64 (lie kq)))
                      have HP := Lib.hid (set_at (a := r) HP.out hlq (lie kq))
                      generalize (w3.setCell ⟨gp, r * 4 + q, none⟩ (.int .i64 (lie kq))) = w5' at *
                      go_wp2_with fail
                      refine ⟨⟨q + 1, by omega, by go_num, by rw [HDE.out]; exact HVA.out, HH.out, ?_⟩, by simp [intOf]; omega⟩
                      rw [HDE.out]
                      have h := HP.out
                      rw [upd_upd] at h
                      exact h
                    · have HDE := Lib.hid (show saidQ s r bad d lie T k (q + 1) = (upd Q r q x, kq) from by rw [HSQ.out, if_pos HTE.out, if_neg hrb])
                      have hb1 : ((r : Int) == bad) = false := by simp [hrb]
                      clear hrb
                      go_wp2_with fail
                      exact ⟨⟨q + 1, by omega, by go_num, by rw [HDE.out]; exact HVA.out, HH.out, by rw [HDE.out]; exact HP.out⟩, by simp [intOf]; omega⟩
                  · have HDE := Lib.hid (show saidQ s r bad d lie T k (q + 1) = (Q, kq) from by rw [HSQ.out, if_neg htell])
                    have hcase : r = s ∨ (r ≠ s ∧ q = s) ∨ (r ≠ s ∧ q ≠ s ∧ q = r) := by
                      by_cases h1 : r = s
                      · exact .inl h1
                      · by_cases h2 : q = s
                        · exact .inr (.inl ⟨h1, h2⟩)
                        · by_cases h3 : q = r
                          · exact .inr (.inr ⟨h1, h2, h3⟩)
                          · exact absurd ⟨h1, h2, h3⟩ htell
                    clear htell
                    rcases hcase with hcs | ⟨hcs, hct⟩ | ⟨hcs, hct, hcu⟩
                    · have n1 : ((r : Int) != (s : Int)) = false := by simp [hcs]
                      clear hcs
                      go_wp2_with fail
                      exact ⟨⟨q + 1, by omega, by go_num, by rw [HDE.out]; exact HVA.out, HH.out, by rw [HDE.out]; exact HP.out⟩, by simp [intOf]; omega⟩
                    · have n1 : ((r : Int) != (s : Int)) = true := by simp; omega
                      have n2 : ((q : Int) != (s : Int)) = false := by simp [hct]
                      clear hcs hct
                      go_wp2_with fail
                      exact ⟨⟨q + 1, by omega, by go_num, by rw [HDE.out]; exact HVA.out, HH.out, by rw [HDE.out]; exact HP.out⟩, by simp [intOf]; omega⟩
                    · have n1 : ((r : Int) != (s : Int)) = true := by simp; omega
                      have n2 : ((q : Int) != (s : Int)) = true := by simp; omega
                      have n3 : ((q : Int) != (r : Int)) = false := by simp [hcu]
                      clear hcs hct hcu
                      go_wp2_with fail
                      exact ⟨⟨q + 1, by omega, by go_num, by rw [HDE.out]; exact HVA.out, HH.out, by rw [HDE.out]; exact HP.out⟩, by simp [intOf]; omega⟩
                · obtain rfl : q = 4 := by omega
                  clear hlq
                  rw [show ((4 : Nat) : Int) = 4 from rfl]
                  go_wp2_with fail
                  exact ⟨⟨r + 1, by omega, by go_num, by rw [HSR.out]; exact HVA.out, HH.out, by rw [HSR.out]; exact HP.out⟩, by simp [intOf]; omega⟩
            · obtain rfl : r = 4 := by omega
              clear hlr
              obtain ⟨⟨T, k⟩, hss⟩ : ∃ D, saidR s bad d lie m 4 = D := ⟨_, rfl⟩
              have HSA := Lib.hid (show saidA bad vals lie s n = (T, k) from by unfold saidA; rw [HDA.out]; exact hss)
              rw [hss] at HVA HP
              clear hss
              simp only at HVA HP
              rw [show ((4 : Nat) : Int) = 4 from rfl]
              obtain ⟨F, hF⟩ : ∃ F, takeF s v d T = F := ⟨_, rfl⟩
              have HF := Lib.hid hF
              clear hF
              go_wp2_with fail
              generalize wr = wq2 at *
              go_loopw [16] (fun iv wr => ∃ q : Nat, q ≤ 4 ∧ iv = .int .i64 q ∧ VAt w wr gv gw gr gc go vals A c lies.length k (colF V s q F) ∧ Blk wr gh 22 (rowF .i64 4 d) ∧ Blk wr gp 24 (rowF .i64 16 fun i => T (i / 4) (i % 4))) (fun iv _ => 4 - (intOf iv).toNat)
              case atStart => exact ⟨0, by omega, rfl, by rw [colF_zero]; exact HVA.out, HH.out, HP.out⟩
              case round =>
                clear HVA HH HP
                obtain ⟨q, hq4, rfl, hva, hh, hp⟩ := hrel
                have HVA := Lib.hid hva
                have HH := Lib.hid hh
                have HP := Lib.hid hp
                clear hva hh hp
                by_cases hlq : q < 4
                · have hlq1 : (q : Int) < 4 := by omega
                  by_cases hqs : q = s
                  · have n1 : ((q : Int) == (s : Int)) = true := by simp [hqs]
                    have HFV := Lib.hid (show F q = v from by rw [← HF.out]; unfold takeF; rw [if_pos hqs])
                    clear hqs
                    go_upto_region 28 with fail
                    have HVA := Lib.hid HVA.out.drew
                    have HH := Lib.hid HH.out.drew
                    have HP := Lib.hid HP.out.drew
                    have HS : wr.drew.cell? ⟨gv, s, none⟩ = some (.int .i64 v) := by have h := HVA.out.vals.cell s; rw [rowF_at _ _ _ _ hlt, HV.out] at h; exact h
                    refine wp_region_noPanic ?_
                    refine Rg.beginR [4] (fun w' => w'.cell? ⟨gv, s, none⟩ = some (.int .i64 v)) (by kernel_rfl) ?_
                    generalize wr.drew = w1' at *
                    have hc := HVA.out.out.cell (q * 4 + s)
                    rw [rowF_at _ _ _ _ (show q * 4 + s < 16 by omega)] at hc
                    have hf := HVA.out.out.thaw (q * 4 + s)
                    refine Rg.takeP (i := 0) (oi := { dst := some 97, op := Op.move (Operand.tmp 16), type := 3, pos := "links.go:272", after := #[], guard := none }) (v := ?_) rfl (by kernel_rfl) (fun _ _ _ h => h) (by rfl) ?_ ?_
                    rotate_left 1
                    · (intro w; go_simp; (try with_reducible rfl))
                    try simp only [Act.put, List.setIfInBounds_toArray, List.set_cons_zero, List.set_cons_succ]
                    refine Rg.takeP (i := 1) (oi := { dst := some 98, op := Op.move (Operand.tmp 10), type := 3, pos := "links.go:272", after := #[], guard := none }) (v := ?_) rfl (by kernel_rfl) (fun _ _ _ h => h) (by rfl) ?_ ?_
                    rotate_left 1
                    · (intro w; go_simp; (try with_reducible rfl))
                    try simp only [Act.put, List.setIfInBounds_toArray, List.set_cons_zero, List.set_cons_succ]
                    refine Rg.takeP (i := 2) (oi := { dst := some 99, op := Op.move (Operand.tmp 10), type := 3, pos := "links.go:272", after := #[], guard := none }) (v := ?_) rfl (by kernel_rfl) (fun _ _ _ h => h) (by rfl) ?_ ?_
                    rotate_left 1
                    · (intro w; go_simp; (try with_reducible rfl))
                    try simp only [Act.put, List.setIfInBounds_toArray, List.set_cons_zero, List.set_cons_succ]
                    refine Rg.takeP (i := 3) (oi := { dst := some 100, op := Op.indexAddr 22 (Operand.tmp 3) (Operand.tmp 99), type := 0, pos := "links.go:272", after := #[{ on := 2, ground := Ground.data }], guard := none }) (v := ?_) rfl (by kernel_rfl) (fun _ _ _ h => h) (by rfl) ?_ ?_
                    rotate_left 1
                    · (intro w; go_simp; (try with_reducible rfl))
                    try simp only [Act.put, List.setIfInBounds_toArray, List.set_cons_zero, List.set_cons_succ]
                    refine Rg.takeS (i := 4) (oi := { dst := some 101, op := Op.load 3 (Operand.tmp 100), type := 3, pos := "links.go:272", after := #[{ on := 3, ground := Ground.data }], guard := none }) (v := ?_) rfl (by kernel_rfl) (fun _ _ _ h => h) (by rfl) HS ?_ ?_
                    rotate_left 1
                    · (intro w hSw; (try dsimp only at hSw); (try go_split_ands); go_simp; (try with_reducible rfl))
                    try simp only [Act.put, List.setIfInBounds_toArray, List.set_cons_zero, List.set_cons_succ]
                    refine Rg.takeP (i := 5) (oi := { dst := some 102, op := Op.indexAddr 24 (Operand.tmp 9) (Operand.tmp 97), type := 0, pos := "links.go:272", after := #[{ on := 0, ground := Ground.data }], guard := none }) (v := ?_) rfl (by kernel_rfl) (fun _ _ _ h => h) (by rfl) ?_ ?_
                    rotate_left 1
                    · (intro w; go_simp; (try with_reducible rfl))
                    try simp only [Act.put, List.setIfInBounds_toArray, List.set_cons_zero, List.set_cons_succ]
                    refine Rg.takeP (i := 6) (oi := { dst := some 103, op := Op.indexAddr 22 (Operand.tmp 102) (Operand.tmp 98), type := 0, pos := "links.go:272", after := #[{ on := 5, ground := Ground.data }, { on := 1, ground := Ground.data }, { on := 0, ground := Ground.phase }, { on := 1, ground := Ground.phase }, { on := 2, ground := Ground.phase }, { on := 3, ground := Ground.phase }, { on := 4, ground := Ground.phase }], guard := none }) (v := ?_) rfl (by kernel_rfl) (fun _ _ _ h => h) (by rfl) ?_ ?_
                    rotate_left 1
                    · (intro w; go_simp; (try with_reducible rfl))
                    try simp only [Act.put, List.setIfInBounds_toArray, List.set_cons_zero, List.set_cons_succ]
                    refine Rg.oneR (i := 7) (oi := { dst := none, op := Op.store 3 (Operand.tmp 103) (Operand.tmp 101), type := 0, pos := "links.go:272", after := #[{ on := 6, ground := Ground.data }, { on := 4, ground := Ground.data }, { on := 0, ground := Ground.phase }, { on := 1, ground := Ground.phase }, { on := 2, ground := Ground.phase }, { on := 3, ground := Ground.phase }, { on := 4, ground := Ground.phase }], guard := none }) rfl (by kernel_rfl) ?_
                    refine Rg.stepF ?_ ?_
                    · kernel_rfl
                    intro K hK
                    go_simp
                    refine hK.out _ _ ?_
                    clear hK K
                    try simp only [Act.put, List.setIfInBounds_toArray, List.set_cons_zero, List.set_cons_succ]
                    refine Rg.doneR (by kernel_rfl) ?_ _
                    refine NoPanic.normal ?_
                    clear hc hf HS
                    have HVA := Lib.hid (HVA.out.take h1 h2 h3 h4 (a := q) (s := s) hlt v)
                    have HH := Lib.hid (HH.out.other (p := ⟨go, q * 4 + s, none⟩) (by show _ ≠ go; omega) (.int .i64 v))
                    have HP := Lib.hid (HP.out.other (p := ⟨go, q * 4 + s, none⟩) (by show _ ≠ go; omega) (.int .i64 v))
                    generalize (w1'.setCell ⟨go, q * 4 + s, none⟩ (.int .i64 v)) = w2' at *
                    go_wp2_with fail
                    refine ⟨⟨q + 1, by omega, by go_num, ?_, HH.out, HP.out⟩, by simp [intOf]; omega⟩
                    rw [← colF_succ, HFV.out]
                    exact HVA.out
                  · have n1 : ((q : Int) == (s : Int)) = false := by simp; omega
                    have HFV := Lib.hid (show F q = Go.Proofs.Ytlikfikmfimfhaa.MajLaw.maj (d q :: toldF s q T 4) 0 from by rw [← HF.out]; unfold takeF; rw [if_neg hqs])
                    have HQS := Lib.hid hqs
                    clear hqs
                    have hcd := HH.out.cell q
                    rw [rowF_at _ _ _ _ hlq] at hcd
                    go_upto_region 30 with fail
                    clear hcd
                    generalize wr = wq3 at *
                    have hgph : gp < wq3.heap.size := HP.out.lt
                    have HL := Lib.hid (show (wq3.alloc (.cells #[.int .i64 (d q)] 3)).ownsRow (gp + 1) 3 1 (.slice (some ⟨wq3.heap.size, 0, none⟩) 1 1) 1 (intsV [d q]) from World.ownsRow_lit (base := gp + 1) (size := 1) (e := 3) wq3 #[.int .i64 (d q)] 1 (by omega) (by unfold maxLen; omega) (by simp))
                    have HVA := Lib.hid (HVA.out.alloc (.cells #[.int .i64 (d q)] 3))
                    have HH := Lib.hid (HH.out.alloc (.cells #[.int .i64 (d q)] 3))
                    have HP := Lib.hid (HP.out.alloc (.cells #[.int .i64 (d q)] 3))
                    generalize (wq3.alloc (.cells #[.int .i64 (d q)] 3)) = wq4 at *
                    generalize wq3.heap.size = gx at *
                    go_wp2_with fail
                    go_loopw [17, 18] (fun lv iv wr => ∃ (p : Nat) (A7 : Option Addr) (c7 : Nat), p ≤ 4 ∧ lv = .slice A7 ((toldF s q T p).length + 1) c7 ∧ iv = .int .i64 p ∧ wr.ownsRow (gp + 1) 3 1 (.slice A7 ((toldF s q T p).length + 1) c7) ((toldF s q T p).length + 1) (intsV (d q :: toldF s q T p)) ∧ VAt w wr gv gw gr gc go vals A c lies.length k (colF V s q F) ∧ Blk wr gh 22 (rowF .i64 4 d) ∧ Blk wr gp 24 (rowF .i64 16 fun i => T (i / 4) (i % 4))) (fun _ iv _ => 4 - (intOf iv).toNat)
                    case atStart => exact ⟨0, some ⟨gx, 0, none⟩, 1, by omega, rfl, rfl, HL.out, HVA.out, HH.out, HP.out⟩
                    case round =>
                      clear HVA HH HP HL
                      obtain ⟨p, A7, c7, hp4, rfl, rfl, hll, hva, hh, hp⟩ := hrel
                      have HL := Lib.hid hll
                      have HVA := Lib.hid hva
                      have HH := Lib.hid hh
                      have HP := Lib.hid hp
                      clear hva hh hp hll
                      by_cases hlp : p < 4
                      · have hlp1 : (p : Int) < 4 := by omega
                        have HTS := Lib.hid (toldF_succ s q T p)
                        have HTN := Lib.hid (toldF_le s q T p)
                        by_cases hps : p = s
                        · have m1 : ((p : Int) != (s : Int)) = false := by simp [hps]
                          have HDE := Lib.hid (show toldF s q T (p + 1) = toldF s q T p from by rw [HTS.out, if_neg (fun h => h.1 hps), List.append_nil])
                          clear hps
                          go_wp2_with fail
                          exact ⟨⟨p + 1, A7, c7, by omega, by rw [HDE.out], by go_num, by rw [HDE.out]; exact HL.out, HVA.out, HH.out, HP.out⟩, by simp [intOf]; omega⟩
                        · have m1 : ((p : Int) != (s : Int)) = true := by simp; omega
                          by_cases hpq : p = q
                          · have m2 : ((p : Int) != (q : Int)) = false := by simp [hpq]
                            have HDE := Lib.hid (show toldF s q T (p + 1) = toldF s q T p from by rw [HTS.out, if_neg (fun h => h.2 hpq), List.append_nil])
                            clear hps hpq
                            go_wp2_with fail
                            exact ⟨⟨p + 1, A7, c7, by omega, by rw [HDE.out], by go_num, by rw [HDE.out]; exact HL.out, HVA.out, HH.out, HP.out⟩, by simp [intOf]; omega⟩
                          · have m2 : ((p : Int) != (q : Int)) = true := by simp; omega
                            obtain ⟨x, hx⟩ : ∃ x, T p q = x := ⟨_, rfl⟩
                            have HDE := Lib.hid (show toldF s q T (p + 1) = toldF s q T p ++ [x] from by rw [HTS.out, if_pos ⟨hps, hpq⟩, hx])
                            clear hps hpq
                            have hc := HP.out.cell (p * 4 + q)
                            rw [rowF_at _ _ _ _ (show p * 4 + q < 16 by omega), show (p * 4 + q) / 4 = p by omega, show (p * 4 + q) % 4 = q by omega, hx] at hc
                            clear hx
                            obtain ⟨ln, hln⟩ : ∃ n, (toldF s q T p).length = n := ⟨_, rfl⟩
                            have HLN := Lib.hid hln
                            rw [hln] at HL HTN ⊢
                            clear hln
                            have hln4 : ln ≤ 4 := by have := HTN.out; omega
                            have hgph2 : gp < wr.heap.size := HP.out.lt
                            have HSG := Lib.hid (rd_single wr (.int .i64 x) 3)
                            have HOW := Lib.hid (HL.out.alloc (.cells #[.int .i64 x] 3))
                            go_upto_region 32 with (at_builtin; go_loud (refine wpList_append_at _ rfl (.tmp 120) (.tmp 126) 23 rfl (gp + 1) Go.Proofs.Ytlikfikmfimfhaa.Ints.elemInts rfl HOW.out rfl HSG.out (by omega) (by simp [Value.oneCell']) (by unfold maxLen; omega) (by omega) (by simp; omega) ?_; intro v' w5 hown2 hg2 hat2; obtain ⟨A9, c9, rfl, _⟩ := own_form hown2; have HO2 := Lib.hid (show w5.ownsRow (gp + 1) 3 1 (Value.slice A9 (ln + 1 + 1) c9) (ln + 1 + 1) (intsV (d q :: toldF s q T p) ++ [.int .i64 x]) from hown2); have HG2 := Lib.hid (show World.grownBy (wr.alloc (.cells #[.int .i64 x] 3)) w5 (Value.slice A7 (ln + 1) c7).ownBlock from hg2); clear hown2 hg2 hat2))
                            clear hc HSG HOW
                            have HVA := Lib.hid ((HVA.out.alloc (.cells #[.int .i64 x] 3)).grown h1 h2 h3 h4 HG2.out (fun g e => by have := (HL.out.lt g e).1; omega))
                            have HH := Lib.hid ((HH.out.alloc (.cells #[.int .i64 x] 3)).grown HG2.out (own_apart HL.out (by omega)))
                            have HP := Lib.hid ((HP.out.alloc (.cells #[.int .i64 x] 3)).grown HG2.out (own_apart HL.out (by omega)))
                            go_wp2_with fail
                            refine ⟨⟨p + 1, A9, c9, by omega, ?_, by go_num, ?_, HVA.out, HH.out, HP.out⟩, by simp [intOf]; omega⟩
                            · rw [HDE.out, List.length_append, HLN.out]; rfl
                            · rw [HDE.out, List.length_append, HLN.out, show intsV (d q :: (toldF s q T p ++ [x])) = intsV (d q :: toldF s q T p) ++ [.int .i64 x] by simp [intsV]]
                              exact HO2.out
                      · obtain rfl : p = 4 := by omega
                        clear hlp
                        rw [show ((4 : Nat) : Int) = 4 from rfl]
                        go_upto_region 35 with fail
                        have HVA := Lib.hid HVA.out.drew
                        have HH := Lib.hid HH.out.drew
                        have HP := Lib.hid HP.out.drew
                        have HL := Lib.hid HL.out.drew
                        refine wp_region_noPanic ?_
                        refine Rg.beginR [] (fun _ => True) (by kernel_rfl) ?_
                        generalize wr.drew = w4' at *
                        refine Rg.takeP (i := 0) (oi := { dst := some 128, op := Op.move (Operand.tmp 16), type := 3, pos := "links.go:281", after := #[], guard := none }) (v := ?_) rfl (by kernel_rfl) (fun _ _ _ h => h) (by rfl) ?_ ?_
                        rotate_left 1
                        · (intro w; go_simp; (try with_reducible rfl))
                        try simp only [Act.put, List.setIfInBounds_toArray, List.set_cons_zero, List.set_cons_succ]
                        refine Rg.takeP (i := 1) (oi := { dst := some 129, op := Op.move (Operand.tmp 10), type := 3, pos := "links.go:281", after := #[], guard := none }) (v := ?_) rfl (by kernel_rfl) (fun _ _ _ h => h) (by rfl) ?_ ?_
                        rotate_left 1
                        · (intro w; go_simp; (try with_reducible rfl))
                        try simp only [Act.put, List.setIfInBounds_toArray, List.set_cons_zero, List.set_cons_succ]
                        refine Rg.takeP (i := 2) (oi := { dst := some 130, op := Op.move (Operand.tmp 17), type := 23, pos := "links.go:281", after := #[], guard := none }) (v := ?_) rfl (by kernel_rfl) (fun _ _ _ h => h) (by rfl) ?_ ?_
                        rotate_left 1
                        · (intro w; go_simp; (try with_reducible rfl))
                        try simp only [Act.put, List.setIfInBounds_toArray, List.set_cons_zero, List.set_cons_succ]
                        refine Rg.takeP (i := 4) (oi := { dst := some 132, op := Op.indexAddr 24 (Operand.tmp 9) (Operand.tmp 128), type := 0, pos := "links.go:281", after := #[{ on := 0, ground := Ground.data }], guard := none }) (v := ?_) rfl (by kernel_rfl) (fun _ _ _ h => h) (by rfl) ?_ ?_
                        rotate_left 1
                        · (intro w; go_simp; (try with_reducible rfl))
                        try simp only [Act.put, List.setIfInBounds_toArray, List.set_cons_zero, List.set_cons_succ]
                        refine Rg.oneR (i := 3) (oi := { dst := some 131, op := Op.call { callee := Callee.value (Operand.func 37), args := #[Operand.tmp 130, Operand.const (Value.int IntKind.i64 0)], argTypes := #[23, 3] }, type := 3, pos := "links.go:281", after := #[{ on := 2, ground := Ground.data }], guard := none }) rfl (by kernel_rfl) ?_
                        refine Rg.stepF ?_ ?_
                        · kernel_rfl
                        intro K hK
                        rw [if_pos (by rfl)]
                        go_simp
                        go_at_call 37
                        refine (Go.Proofs.Ytlikfikmfimfhaa.Mj.majorityref_any A7 c7 (d q :: toldF s q T 4) 0 _ w4' (by have := toldF_le s q T 4; simp; omega) (Rd.of_own HL.out)).mono ?_
                        rintro e w5' ⟨rfl, rfl⟩
                        rw [← HFV.out]
                        go_wp2_with fail
                        have hc := HVA.out.out.cell (q * 4 + s)
                        rw [rowF_at _ _ _ _ (show q * 4 + s < 16 by omega)] at hc
                        have hf := HVA.out.out.thaw (q * 4 + s)
                        refine hK.out _ _ ?_
                        clear hK K
                        try simp only [Act.put, List.setIfInBounds_toArray, List.set_cons_zero, List.set_cons_succ]
                        refine Rg.takeP (i := 5) (oi := { dst := some 133, op := Op.indexAddr 22 (Operand.tmp 132) (Operand.tmp 129), type := 0, pos := "links.go:281", after := #[{ on := 4, ground := Ground.data }, { on := 1, ground := Ground.data }, { on := 0, ground := Ground.phase }, { on := 1, ground := Ground.phase }, { on := 2, ground := Ground.phase }, { on := 3, ground := Ground.phase }], guard := none }) (v := ?_) rfl (by kernel_rfl) (fun _ _ _ h => h) (by rfl) ?_ ?_
                        rotate_left 1
                        · (intro w; go_simp; (try with_reducible rfl))
                        try simp only [Act.put, List.setIfInBounds_toArray, List.set_cons_zero, List.set_cons_succ]
                        refine Rg.oneR (i := 6) (oi := { dst := none, op := Op.store 3 (Operand.tmp 133) (Operand.tmp 131), type := 0, pos := "links.go:281", after := #[{ on := 5, ground := Ground.data }, { on := 3, ground := Ground.data }, { on := 3, ground := Ground.chain }, { on := 0, ground := Ground.phase }, { on := 1, ground := Ground.phase }, { on := 2, ground := Ground.phase }, { on := 3, ground := Ground.phase }], guard := none }) rfl (by kernel_rfl) ?_
                        refine Rg.stepF ?_ ?_
                        · kernel_rfl
                        intro K hK
                        go_simp
                        refine hK.out _ _ ?_
                        clear hK K
                        try simp only [Act.put, List.setIfInBounds_toArray, List.set_cons_zero, List.set_cons_succ]
                        refine Rg.doneR (by kernel_rfl) ?_ _
                        refine NoPanic.normal ?_
                        clear hc hf
                        have HVA := Lib.hid (HVA.out.take h1 h2 h3 h4 (a := q) (s := s) hlt (F q))
                        have HH := Lib.hid (HH.out.other (p := ⟨go, q * 4 + s, none⟩) (by show _ ≠ go; omega) (.int .i64 (F q)))
                        have HP := Lib.hid (HP.out.other (p := ⟨go, q * 4 + s, none⟩) (by show _ ≠ go; omega) (.int .i64 (F q)))
                        generalize (w4'.setCell ⟨go, q * 4 + s, none⟩ (.int .i64 (F q))) = w5' at *
                        go_wp2_with fail
                        refine ⟨⟨q + 1, by omega, by go_num, ?_, HH.out, HP.out⟩, by simp [intOf]; omega⟩
                        rw [← colF_succ]
                        exact HVA.out
                · obtain rfl : q = 4 := by omega
                  clear hlq
                  rw [show ((4 : Nat) : Int) = 4 from rfl]
                  go_wp2_with fail
                  refine ⟨⟨s + 1, by omega, by go_num, ?_⟩, by simp [intOf]; omega⟩
                  rw [HVS.out, HDA.out, HSA.out]
                  simp only
                  rw [HF.out]
                  exact HVA.out
    · obtain rfl : s = 4 := by omega
      clear hlt
      rw [show ((4 : Nat) : Int) = 4 from rfl]
      obtain ⟨O, hO⟩ : ∃ O, (vecF bad vals lie 4).1 = O := ⟨_, rfl⟩
      have HOO := Lib.hid hO
      rw [hO] at HVA
      clear hO
      have HO := Lib.hid HVA.out.out
      have HE := Lib.hid HVA.out.res
      have hi : (Try.prog.info? 24).map (·.size) = some (rowF .i64 16 fun q => O (q / 4) (q % 4)).size := by rw [rowF_size]; kernel_rfl
      have hz : (rowF .i64 16 fun _ => 0).size = (rowF .i64 16 fun q => O (q / 4) (q % 4)).size := by rw [rowF_size, rowF_size]
      have hone : (rowF .i64 16 fun q => O (q / 4) (q % 4)).all (·.oneCell') = true := rowF_one _ _ _
      obtain ⟨R, hRR⟩ : ∃ R, (rowF .i64 16 fun q => O (q / 4) (q % 4)) = R := ⟨_, rfl⟩
      have HRR := Lib.hid hRR
      rw [hRR] at HO hi hone hz
      clear hRR
      go_wp2_with (first
        | (refine wpList_whole rfl 24 _ rfl go rfl HO.out _ Try.underlying24 rfl hi ?_)
        | (refine wpList_store_row rfl 24 _ _ rfl gr R rfl rfl 24 _ HE.out hi hz hone ?_))
      exact ret_row rfl rfl (HE.out.setRow R) Try.underlying24 rfl hi rfl ⟨by rw [← HRR.out, HVALS.out, HOO.out], below_setRow (by have h := HVA.out.bel; rw [← HGV.out] at h; exact h) (by have := HGV.out; omega) _⟩
end Go.Proofs.Ytlikfikmfimfhaa.Av
