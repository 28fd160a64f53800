import Derived.Test.YtlcpackmoolngaaPk2
namespace Go.Proofs.Ytlcpackmoolngaa.Bu
open Go.ChangeShapes Go.WideShapes Go.ChangeAt Go.RowKit Go.Proofs.Ytlcpackmoolngaa.Mem Go.Proofs.Ytlcpackmoolngaa.Op Go.Proofs.Ytlcpackmoolngaa.Sm Go.Proofs.Ytlcpackmoolngaa.Nd Go.Proofs.Ytlcpackmoolngaa.Rws
set_option linter.unusedVariables false
set_option linter.unusedSimpArgs false
theorem cell_setRow (w : World) (g : Nat) (cs : Array Value) {p : Addr} (h : p.block ≠ g) : (w.setRow g cs).cell? p = w.cell? p := by
  have := Go.setRow_other w g p.block cs h
  unfold World.cell?
  simp only [this]
theorem str_ne (w : World) (bs : List Nat) : (binOp .neq 9 (.string (strB bs)) (.string (strB bs))).run Try.prog w = .ok (.bool false) w := by
  simp [go_sem, binOp, Op.stringOp]
set_option maxRecDepth 100000 in
set_option maxHeartbeats 4000000 in
theorem sameParcels_any (A A' : Option Addr) (c c' : Nat) (qs : List Parc) (B : Nat) (w : World) (hB : B ≤ w.heap.size) (hl : qs.length ≤ 140737488355328) (hr : ParcsAt w B A qs) (hr' : ParcsAt w B A' qs) :
    Calls Try.prog 17 #[.slice A qs.length c, .slice A' qs.length c'] w fun e w' => e = .returned (.bool true) ∧ Below w.heap.size w w' := by
  have HR := Lib.hid hr
  have HR' := Lib.hid hr'
  have hnl : ((qs.length : Int) != (qs.length : Int)) = false := by simp
  clear hr hr'
  go_enter Try.func17, Try.ntmps17
  go_wp2_with fail
  clear hnl
  go_loopw [15] (fun i wr => ∃ (k : Nat), k ≤ qs.length ∧ i = .int .i64 k ∧ Below w.heap.size w wr) (fun i _ => qs.length - (intOf i).toNat)
  case atStart => exact ⟨0, by omega, rfl, Below.refl _ _⟩
  case round =>
    obtain ⟨k, hk, rfl, hb⟩ := hrel
    by_cases hlt : k < qs.length
    · have hm : qs[k]? = some qs[k] := List.getElem?_eq_getElem hlt
      generalize qs[k] = p at *
      obtain ⟨b, o, a, ca, rfl, hbB, c0, c1, c2, c3, c4, h2, h3, h4, h5⟩ := (HR.out.below (hb.mono hB)).at hm
      obtain ⟨b', o', a', ca', rfl, hbB', e0, e1, e2, e3, e4, h2', h3', h4', h5'⟩ := (HR'.out.below (hb.mono hB)).at hm
      have H5 := Lib.hid h5
      have H5' := Lib.hid h5'
      have HB := Lib.hid hb
      have hb0 := hb.size
      have hbw : b < wr.heap.size := by omega
      have hbw' : b' < wr.heap.size := by omega
      have hk0 : (0 : Int) ≤ (k : Int) := by omega
      have hk1 : (k : Int) < (qs.length : Int) := by omega
      clear h5 h5' hb hm
      go_upto_region 6 with fail
      have c0 : wr.drew.cell? ⟨b, o + k * 5, none⟩ = some (.int .i64 p.f) := c0
      have c1 : wr.drew.cell? ⟨b, o + k * 5 + 1, none⟩ = some (.int .i64 p.t) := c1
      have c2 : wr.drew.cell? ⟨b, o + k * 5 + 2, none⟩ = some (.int .i64 p.d) := c2
      have c3 : wr.drew.cell? ⟨b, o + k * 5 + 3, none⟩ = some (.int .i64 p.s) := c3
      have c4 : wr.drew.cell? ⟨b, o + k * 5 + 4, none⟩ = some (.slice a p.bs.length ca) := c4
      have e0 : wr.drew.cell? ⟨b', o' + k * 5, none⟩ = some (.int .i64 p.f) := e0
      have e1 : wr.drew.cell? ⟨b', o' + k * 5 + 1, none⟩ = some (.int .i64 p.t) := e1
      have e2 : wr.drew.cell? ⟨b', o' + k * 5 + 2, none⟩ = some (.int .i64 p.d) := e2
      have e3 : wr.drew.cell? ⟨b', o' + k * 5 + 3, none⟩ = some (.int .i64 p.s) := e3
      have e4 : wr.drew.cell? ⟨b', o' + k * 5 + 4, none⟩ = some (.slice a' p.bs.length ca') := e4
      have HV0 := Lib.hid ((Below.refl wr.heap.size wr).drew)
      have hsz : wr.heap.size ≤ wr.drew.heap.size := Nat.le_refl _
      have HS := And.intro c0 (And.intro c1 (And.intro c2 (And.intro c3 (And.intro c4 (And.intro e0 (And.intro e1 (And.intro e2 (And.intro e3 e4))))))))
      refine wp_region_noPanic ?_
      refine Rg.beginR [3, 7] (fun w' => w'.cell? ⟨b, o + k * 5, none⟩ = some (.int .i64 p.f) ∧ w'.cell? ⟨b, o + k * 5 + 1, none⟩ = some (.int .i64 p.t) ∧ w'.cell? ⟨b, o + k * 5 + 2, none⟩ = some (.int .i64 p.d) ∧ w'.cell? ⟨b, o + k * 5 + 3, none⟩ = some (.int .i64 p.s) ∧ w'.cell? ⟨b, o + k * 5 + 4, none⟩ = some (.slice a p.bs.length ca) ∧ w'.cell? ⟨b', o' + k * 5, none⟩ = some (.int .i64 p.f) ∧ w'.cell? ⟨b', o' + k * 5 + 1, none⟩ = some (.int .i64 p.t) ∧ w'.cell? ⟨b', o' + k * 5 + 2, none⟩ = some (.int .i64 p.d) ∧ w'.cell? ⟨b', o' + k * 5 + 3, none⟩ = some (.int .i64 p.s) ∧ w'.cell? ⟨b', o' + k * 5 + 4, none⟩ = some (.slice a' p.bs.length ca')) (by kernel_rfl) ?_
      generalize wr.drew = V0 at *
      refine Rg.takeP (i := 0) (oi := { dst := some 18, op := Op.move (Operand.tmp 0), type := 22, pos := "links.go:400", after := #[], guard := none }) (v := ?_) rfl (by kernel_rfl) (fun _ _ _ h => h) (by rfl) ?_ ?_
      rotate_left 1
      · (intro w; go_simp; (try with_reducible rfl))
      try simp only [Act.put, List.setIfInBounds_toArray, List.set_cons_zero, List.set_cons_succ]
      refine Rg.takeP (i := 1) (oi := { dst := some 19, op := Op.move (Operand.tmp 5), type := 3, pos := "links.go:400", after := #[], guard := none }) (v := ?_) rfl (by kernel_rfl) (fun _ _ _ h => h) (by rfl) ?_ ?_
      rotate_left 1
      · (intro w; go_simp; (try with_reducible rfl))
      try simp only [Act.put, List.setIfInBounds_toArray, List.set_cons_zero, List.set_cons_succ]
      refine Rg.takeP (i := 2) (oi := { dst := some 20, op := Op.indexAddr 22 (Operand.tmp 18) (Operand.tmp 19), type := 0, pos := "links.go:400", after := #[{ on := 0, ground := Ground.data }, { on := 1, ground := Ground.data }], guard := none }) (v := ?_) rfl (by kernel_rfl) (fun _ _ _ h => h) (by rfl) ?_ ?_
      rotate_left 1
      · (intro w; go_simp; (try with_reducible rfl))
      try simp only [Act.put, List.setIfInBounds_toArray, List.set_cons_zero, List.set_cons_succ]
      refine Rg.takeS (i := 3) (oi := { dst := some 21, op := Op.load 52 (Operand.tmp 20), type := 52, pos := "links.go:400", after := #[{ on := 2, ground := Ground.data }], guard := none }) (v := ?_) rfl (by kernel_rfl) (fun _ _ _ h => h) (by rfl) HS ?_ ?_
      rotate_left 1
      · (intro w hSw; (try dsimp only at hSw); (try go_split_ands); go_simp; (try with_reducible rfl))
      try simp only [Act.put, List.setIfInBounds_toArray, List.set_cons_zero, List.set_cons_succ]
      refine Rg.takeP (i := 4) (oi := { dst := some 22, op := Op.move (Operand.tmp 1), type := 22, pos := "links.go:400", after := #[{ on := 10, ground := Ground.gcOnly Departure.lateStores }], guard := none }) (v := ?_) rfl (by kernel_rfl) (fun _ _ _ h => h) (by rfl) ?_ ?_
      rotate_left 1
      · (intro w; go_simp; (try with_reducible rfl))
      try simp only [Act.put, List.setIfInBounds_toArray, List.set_cons_zero, List.set_cons_succ]
      refine Rg.takeP (i := 5) (oi := { dst := some 23, op := Op.move (Operand.tmp 5), type := 3, pos := "links.go:400", after := #[{ on := 10, ground := Ground.gcOnly Departure.lateStores }], guard := none }) (v := ?_) rfl (by kernel_rfl) (fun _ _ _ h => h) (by rfl) ?_ ?_
      rotate_left 1
      · (intro w; go_simp; (try with_reducible rfl))
      try simp only [Act.put, List.setIfInBounds_toArray, List.set_cons_zero, List.set_cons_succ]
      refine Rg.takeP (i := 6) (oi := { dst := some 24, op := Op.indexAddr 22 (Operand.tmp 22) (Operand.tmp 23), type := 0, pos := "links.go:400", after := #[{ on := 4, ground := Ground.data }, { on := 5, ground := Ground.data }, { on := 10, ground := Ground.gcOnly Departure.lateStores }], guard := none }) (v := ?_) rfl (by kernel_rfl) (fun _ _ _ h => h) (by rfl) ?_ ?_
      rotate_left 1
      · (intro w; go_simp; (try with_reducible rfl))
      try simp only [Act.put, List.setIfInBounds_toArray, List.set_cons_zero, List.set_cons_succ]
      refine Rg.takeS (i := 7) (oi := { dst := some 25, op := Op.load 52 (Operand.tmp 24), type := 52, pos := "links.go:400", after := #[{ on := 6, ground := Ground.data }, { on := 10, ground := Ground.gcOnly Departure.lateStores }], guard := none }) (v := ?_) rfl (by kernel_rfl) (fun _ _ _ h => h) (by rfl) HS ?_ ?_
      rotate_left 1
      · (intro w hSw; (try dsimp only at hSw); (try go_split_ands); go_simp; (try with_reducible rfl))
      try simp only [Act.put, List.setIfInBounds_toArray, List.set_cons_zero, List.set_cons_succ]
      refine Rg.twoR (i := 8) (j := 9) (oi := { dst := some 6, op := Op.alloc 52, type := 0, pos := "links.go:400", after := #[], guard := none }) (oj := { dst := some 7, op := Op.alloc 52, type := 0, pos := "links.go:400", after := #[], guard := none }) (by kernel_rfl) rfl rfl ?_ ?_
      ·
        refine Rg.stepS ?_
        intro K hK
        rw [if_pos (by rfl)]
        go_simp
        have hb : Below V0.heap.size V0 (V0.alloc (.cells #[.int .i64 0, .int .i64 0, .int .i64 0, .int .i64 0, .slice none 0 0] 52)) := (Below.refl _ _).alloc (Nat.le_refl _) _
        have BX : Hid (Blk (V0.alloc (.cells #[.int .i64 0, .int .i64 0, .int .i64 0, .int .i64 0, .slice none 0 0] 52)) V0.heap.size 52 #[.int .i64 0, .int .i64 0, .int .i64 0, .int .i64 0, .slice none 0 0]) := Lib.hid (Blk.fresh _ _ _)
        have hg6 := HV0.out.size
        have HV0 := Lib.hid (onward HV0.out (Nat.le_refl _) hb)
        have c0 := (hb.cell (p := ⟨b, o + k * 5, none⟩) (by show b < V0.heap.size; omega)).trans c0
        have c1 := (hb.cell (p := ⟨b, o + k * 5 + 1, none⟩) (by show b < V0.heap.size; omega)).trans c1
        have c2 := (hb.cell (p := ⟨b, o + k * 5 + 2, none⟩) (by show b < V0.heap.size; omega)).trans c2
        have c3 := (hb.cell (p := ⟨b, o + k * 5 + 3, none⟩) (by show b < V0.heap.size; omega)).trans c3
        have c4 := (hb.cell (p := ⟨b, o + k * 5 + 4, none⟩) (by show b < V0.heap.size; omega)).trans c4
        have e0 := (hb.cell (p := ⟨b', o' + k * 5, none⟩) (by show b' < V0.heap.size; omega)).trans e0
        have e1 := (hb.cell (p := ⟨b', o' + k * 5 + 1, none⟩) (by show b' < V0.heap.size; omega)).trans e1
        have e2 := (hb.cell (p := ⟨b', o' + k * 5 + 2, none⟩) (by show b' < V0.heap.size; omega)).trans e2
        have e3 := (hb.cell (p := ⟨b', o' + k * 5 + 3, none⟩) (by show b' < V0.heap.size; omega)).trans e3
        have e4 := (hb.cell (p := ⟨b', o' + k * 5 + 4, none⟩) (by show b' < V0.heap.size; omega)).trans e4
        have hsz := Nat.le_trans hsz hb.size
        clear hb HS
        generalize (V0.alloc (.cells #[.int .i64 0, .int .i64 0, .int .i64 0, .int .i64 0, .slice none 0 0] 52)) = V1 at *
        obtain ⟨g6, hg6e⟩ : ∃ g6, V0.heap.size = g6 := ⟨_, rfl⟩
        rw [hg6e] at BX hg6 ⊢
        clear hg6e
        have HS := And.intro c0 (And.intro c1 (And.intro c2 (And.intro c3 (And.intro c4 (And.intro e0 (And.intro e1 (And.intro e2 (And.intro e3 e4))))))))
        refine hK.out _ _ HS ?_
        clear hK K
        try simp only [Act.put, List.setIfInBounds_toArray, List.set_cons_zero, List.set_cons_succ]
        refine Rg.oneR (i := 9) (oi := { dst := some 7, op := Op.alloc 52, type := 0, pos := "links.go:400", after := #[], guard := none }) rfl (by kernel_rfl) ?_
        refine Rg.stepS ?_
        intro K hK
        rw [if_pos (by rfl)]
        go_simp
        have hb : Below V1.heap.size V1 (V1.alloc (.cells #[.int .i64 0, .int .i64 0, .int .i64 0, .int .i64 0, .slice none 0 0] 52)) := (Below.refl _ _).alloc (Nat.le_refl _) _
        have BY : Hid (Blk (V1.alloc (.cells #[.int .i64 0, .int .i64 0, .int .i64 0, .int .i64 0, .slice none 0 0] 52)) V1.heap.size 52 #[.int .i64 0, .int .i64 0, .int .i64 0, .int .i64 0, .slice none 0 0]) := Lib.hid (Blk.fresh _ _ _)
        have hg7 := HV0.out.size
        have hne := BX.out.lt
        have BX := Lib.hid (BX.out.below hb BX.out.lt)
        have HV0 := Lib.hid (onward HV0.out (Nat.le_refl _) hb)
        have c0 := (hb.cell (p := ⟨b, o + k * 5, none⟩) (by show b < V1.heap.size; omega)).trans c0
        have c1 := (hb.cell (p := ⟨b, o + k * 5 + 1, none⟩) (by show b < V1.heap.size; omega)).trans c1
        have c2 := (hb.cell (p := ⟨b, o + k * 5 + 2, none⟩) (by show b < V1.heap.size; omega)).trans c2
        have c3 := (hb.cell (p := ⟨b, o + k * 5 + 3, none⟩) (by show b < V1.heap.size; omega)).trans c3
        have c4 := (hb.cell (p := ⟨b, o + k * 5 + 4, none⟩) (by show b < V1.heap.size; omega)).trans c4
        have e0 := (hb.cell (p := ⟨b', o' + k * 5, none⟩) (by show b' < V1.heap.size; omega)).trans e0
        have e1 := (hb.cell (p := ⟨b', o' + k * 5 + 1, none⟩) (by show b' < V1.heap.size; omega)).trans e1
        have e2 := (hb.cell (p := ⟨b', o' + k * 5 + 2, none⟩) (by show b' < V1.heap.size; omega)).trans e2
        have e3 := (hb.cell (p := ⟨b', o' + k * 5 + 3, none⟩) (by show b' < V1.heap.size; omega)).trans e3
        have e4 := (hb.cell (p := ⟨b', o' + k * 5 + 4, none⟩) (by show b' < V1.heap.size; omega)).trans e4
        have hsz := Nat.le_trans hsz hb.size
        clear hb HS
        generalize (V1.alloc (.cells #[.int .i64 0, .int .i64 0, .int .i64 0, .int .i64 0, .slice none 0 0] 52)) = V2 at *
        obtain ⟨g7, hg7e⟩ : ∃ g7, V1.heap.size = g7 := ⟨_, rfl⟩
        rw [hg7e] at BY hg7 hne ⊢
        clear hg7e
        have HS := And.intro c0 (And.intro c1 (And.intro c2 (And.intro c3 (And.intro c4 (And.intro e0 (And.intro e1 (And.intro e2 (And.intro e3 e4))))))))
        refine hK.out _ _ HS ?_
        clear hK K
        try simp only [Act.put, List.setIfInBounds_toArray, List.set_cons_zero, List.set_cons_succ]
        refine Rg.oneR (i := 10) (oi := { dst := none, op := Op.store 52 (Operand.tmp 6) (Operand.tmp 21), type := 0, pos := "links.go:400", after := #[{ on := 8, ground := Ground.data }, { on := 3, ground := Ground.data }, { on := 0, ground := Ground.phase }, { on := 1, ground := Ground.phase }, { on := 2, ground := Ground.phase }, { on := 3, ground := Ground.phase }, { on := 4, ground := Ground.textOnly Departure.lateStores }, { on := 5, ground := Ground.textOnly Departure.lateStores }, { on := 6, ground := Ground.textOnly Departure.lateStores }, { on := 7, ground := Ground.textOnly Departure.lateStores }, { on := 8, ground := Ground.phase }, { on := 9, ground := Ground.phase }], guard := none }) rfl (by kernel_rfl) ?_
        refine Rg.stepS ?_
        intro K hK
        rw [if_pos (by rfl)]
        refine wp_store_row 52 _ _ rfl g6 #[.int .i64 p.f, .int .i64 p.t, .int .i64 p.d, .int .i64 p.s, .slice a p.bs.length ca] rfl rfl 52 _ BX.out (by kernel_rfl) rfl (by simp [Value.oneCell']) ?_
        have BY := Lib.hid (BY.out.setRow_other (g' := g6) (by omega) #[.int .i64 p.f, .int .i64 p.t, .int .i64 p.d, .int .i64 p.s, .slice a p.bs.length ca])
        have BX := Lib.hid (BX.out.setRow #[.int .i64 p.f, .int .i64 p.t, .int .i64 p.d, .int .i64 p.s, .slice a p.bs.length ca])
        have HV0 := Lib.hid (below_setRow HV0.out hg6 #[.int .i64 p.f, .int .i64 p.t, .int .i64 p.d, .int .i64 p.s, .slice a p.bs.length ca])
        clear HS
        have c0 : (V2.setRow g6 #[.int .i64 p.f, .int .i64 p.t, .int .i64 p.d, .int .i64 p.s, .slice a p.bs.length ca]).cell? ⟨b, o + k * 5, none⟩ = some (.int .i64 p.f) := (cell_setRow V2 g6 #[.int .i64 p.f, .int .i64 p.t, .int .i64 p.d, .int .i64 p.s, .slice a p.bs.length ca] (by show b ≠ g6; omega)).trans c0
        have c1 : (V2.setRow g6 #[.int .i64 p.f, .int .i64 p.t, .int .i64 p.d, .int .i64 p.s, .slice a p.bs.length ca]).cell? ⟨b, o + k * 5 + 1, none⟩ = some (.int .i64 p.t) := (cell_setRow V2 g6 #[.int .i64 p.f, .int .i64 p.t, .int .i64 p.d, .int .i64 p.s, .slice a p.bs.length ca] (by show b ≠ g6; omega)).trans c1
        have c2 : (V2.setRow g6 #[.int .i64 p.f, .int .i64 p.t, .int .i64 p.d, .int .i64 p.s, .slice a p.bs.length ca]).cell? ⟨b, o + k * 5 + 2, none⟩ = some (.int .i64 p.d) := (cell_setRow V2 g6 #[.int .i64 p.f, .int .i64 p.t, .int .i64 p.d, .int .i64 p.s, .slice a p.bs.length ca] (by show b ≠ g6; omega)).trans c2
        have c3 : (V2.setRow g6 #[.int .i64 p.f, .int .i64 p.t, .int .i64 p.d, .int .i64 p.s, .slice a p.bs.length ca]).cell? ⟨b, o + k * 5 + 3, none⟩ = some (.int .i64 p.s) := (cell_setRow V2 g6 #[.int .i64 p.f, .int .i64 p.t, .int .i64 p.d, .int .i64 p.s, .slice a p.bs.length ca] (by show b ≠ g6; omega)).trans c3
        have c4 : (V2.setRow g6 #[.int .i64 p.f, .int .i64 p.t, .int .i64 p.d, .int .i64 p.s, .slice a p.bs.length ca]).cell? ⟨b, o + k * 5 + 4, none⟩ = some (.slice a p.bs.length ca) := (cell_setRow V2 g6 #[.int .i64 p.f, .int .i64 p.t, .int .i64 p.d, .int .i64 p.s, .slice a p.bs.length ca] (by show b ≠ g6; omega)).trans c4
        have e0 : (V2.setRow g6 #[.int .i64 p.f, .int .i64 p.t, .int .i64 p.d, .int .i64 p.s, .slice a p.bs.length ca]).cell? ⟨b', o' + k * 5, none⟩ = some (.int .i64 p.f) := (cell_setRow V2 g6 #[.int .i64 p.f, .int .i64 p.t, .int .i64 p.d, .int .i64 p.s, .slice a p.bs.length ca] (by show b' ≠ g6; omega)).trans e0
        have e1 : (V2.setRow g6 #[.int .i64 p.f, .int .i64 p.t, .int .i64 p.d, .int .i64 p.s, .slice a p.bs.length ca]).cell? ⟨b', o' + k * 5 + 1, none⟩ = some (.int .i64 p.t) := (cell_setRow V2 g6 #[.int .i64 p.f, .int .i64 p.t, .int .i64 p.d, .int .i64 p.s, .slice a p.bs.length ca] (by show b' ≠ g6; omega)).trans e1
        have e2 : (V2.setRow g6 #[.int .i64 p.f, .int .i64 p.t, .int .i64 p.d, .int .i64 p.s, .slice a p.bs.length ca]).cell? ⟨b', o' + k * 5 + 2, none⟩ = some (.int .i64 p.d) := (cell_setRow V2 g6 #[.int .i64 p.f, .int .i64 p.t, .int .i64 p.d, .int .i64 p.s, .slice a p.bs.length ca] (by show b' ≠ g6; omega)).trans e2
        have e3 : (V2.setRow g6 #[.int .i64 p.f, .int .i64 p.t, .int .i64 p.d, .int .i64 p.s, .slice a p.bs.length ca]).cell? ⟨b', o' + k * 5 + 3, none⟩ = some (.int .i64 p.s) := (cell_setRow V2 g6 #[.int .i64 p.f, .int .i64 p.t, .int .i64 p.d, .int .i64 p.s, .slice a p.bs.length ca] (by show b' ≠ g6; omega)).trans e3
        have e4 : (V2.setRow g6 #[.int .i64 p.f, .int .i64 p.t, .int .i64 p.d, .int .i64 p.s, .slice a p.bs.length ca]).cell? ⟨b', o' + k * 5 + 4, none⟩ = some (.slice a' p.bs.length ca') := (cell_setRow V2 g6 #[.int .i64 p.f, .int .i64 p.t, .int .i64 p.d, .int .i64 p.s, .slice a p.bs.length ca] (by show b' ≠ g6; omega)).trans e4
        generalize (V2.setRow g6 #[.int .i64 p.f, .int .i64 p.t, .int .i64 p.d, .int .i64 p.s, .slice a p.bs.length ca]) = V3 at *
        have HS := And.intro c0 (And.intro c1 (And.intro c2 (And.intro c3 (And.intro c4 (And.intro e0 (And.intro e1 (And.intro e2 (And.intro e3 e4))))))))
        refine hK.out _ _ HS ?_
        clear hK K
        try simp only [Act.put, List.setIfInBounds_toArray, List.set_cons_zero, List.set_cons_succ]
        refine Rg.oneR (i := 11) (oi := { dst := none, op := Op.store 52 (Operand.tmp 7) (Operand.tmp 25), type := 0, pos := "links.go:400", after := #[{ on := 9, ground := Ground.data }, { on := 7, ground := Ground.data }, { on := 10, ground := Ground.chain }, { on := 0, ground := Ground.phase }, { on := 1, ground := Ground.phase }, { on := 2, ground := Ground.phase }, { on := 3, ground := Ground.phase }, { on := 4, ground := Ground.phase }, { on := 5, ground := Ground.phase }, { on := 6, ground := Ground.phase }, { on := 7, ground := Ground.phase }, { on := 8, ground := Ground.phase }, { on := 9, ground := Ground.phase }, { on := 10, ground := Ground.phase }], guard := none }) rfl (by kernel_rfl) ?_
        refine Rg.stepF ?_ ?_
        · kernel_rfl
        intro K hK
        rw [if_pos (by rfl)]
        refine wp_store_row 52 _ _ rfl g7 #[.int .i64 p.f, .int .i64 p.t, .int .i64 p.d, .int .i64 p.s, .slice a' p.bs.length ca'] rfl rfl 52 _ BY.out (by kernel_rfl) rfl (by simp [Value.oneCell']) ?_
        have BX := Lib.hid (BX.out.setRow_other (g' := g7) (by omega) #[.int .i64 p.f, .int .i64 p.t, .int .i64 p.d, .int .i64 p.s, .slice a' p.bs.length ca'])
        have BY := Lib.hid (BY.out.setRow #[.int .i64 p.f, .int .i64 p.t, .int .i64 p.d, .int .i64 p.s, .slice a' p.bs.length ca'])
        have HV0 := Lib.hid (below_setRow HV0.out hg7 #[.int .i64 p.f, .int .i64 p.t, .int .i64 p.d, .int .i64 p.s, .slice a' p.bs.length ca'])
        clear HS
        have c0 : (V3.setRow g7 #[.int .i64 p.f, .int .i64 p.t, .int .i64 p.d, .int .i64 p.s, .slice a' p.bs.length ca']).cell? ⟨b, o + k * 5, none⟩ = some (.int .i64 p.f) := (cell_setRow V3 g7 #[.int .i64 p.f, .int .i64 p.t, .int .i64 p.d, .int .i64 p.s, .slice a' p.bs.length ca'] (by show b ≠ g7; omega)).trans c0
        have c1 : (V3.setRow g7 #[.int .i64 p.f, .int .i64 p.t, .int .i64 p.d, .int .i64 p.s, .slice a' p.bs.length ca']).cell? ⟨b, o + k * 5 + 1, none⟩ = some (.int .i64 p.t) := (cell_setRow V3 g7 #[.int .i64 p.f, .int .i64 p.t, .int .i64 p.d, .int .i64 p.s, .slice a' p.bs.length ca'] (by show b ≠ g7; omega)).trans c1
        have c2 : (V3.setRow g7 #[.int .i64 p.f, .int .i64 p.t, .int .i64 p.d, .int .i64 p.s, .slice a' p.bs.length ca']).cell? ⟨b, o + k * 5 + 2, none⟩ = some (.int .i64 p.d) := (cell_setRow V3 g7 #[.int .i64 p.f, .int .i64 p.t, .int .i64 p.d, .int .i64 p.s, .slice a' p.bs.length ca'] (by show b ≠ g7; omega)).trans c2
        have c3 : (V3.setRow g7 #[.int .i64 p.f, .int .i64 p.t, .int .i64 p.d, .int .i64 p.s, .slice a' p.bs.length ca']).cell? ⟨b, o + k * 5 + 3, none⟩ = some (.int .i64 p.s) := (cell_setRow V3 g7 #[.int .i64 p.f, .int .i64 p.t, .int .i64 p.d, .int .i64 p.s, .slice a' p.bs.length ca'] (by show b ≠ g7; omega)).trans c3
        have c4 : (V3.setRow g7 #[.int .i64 p.f, .int .i64 p.t, .int .i64 p.d, .int .i64 p.s, .slice a' p.bs.length ca']).cell? ⟨b, o + k * 5 + 4, none⟩ = some (.slice a p.bs.length ca) := (cell_setRow V3 g7 #[.int .i64 p.f, .int .i64 p.t, .int .i64 p.d, .int .i64 p.s, .slice a' p.bs.length ca'] (by show b ≠ g7; omega)).trans c4
        have e0 : (V3.setRow g7 #[.int .i64 p.f, .int .i64 p.t, .int .i64 p.d, .int .i64 p.s, .slice a' p.bs.length ca']).cell? ⟨b', o' + k * 5, none⟩ = some (.int .i64 p.f) := (cell_setRow V3 g7 #[.int .i64 p.f, .int .i64 p.t, .int .i64 p.d, .int .i64 p.s, .slice a' p.bs.length ca'] (by show b' ≠ g7; omega)).trans e0
        have e1 : (V3.setRow g7 #[.int .i64 p.f, .int .i64 p.t, .int .i64 p.d, .int .i64 p.s, .slice a' p.bs.length ca']).cell? ⟨b', o' + k * 5 + 1, none⟩ = some (.int .i64 p.t) := (cell_setRow V3 g7 #[.int .i64 p.f, .int .i64 p.t, .int .i64 p.d, .int .i64 p.s, .slice a' p.bs.length ca'] (by show b' ≠ g7; omega)).trans e1
        have e2 : (V3.setRow g7 #[.int .i64 p.f, .int .i64 p.t, .int .i64 p.d, .int .i64 p.s, .slice a' p.bs.length ca']).cell? ⟨b', o' + k * 5 + 2, none⟩ = some (.int .i64 p.d) := (cell_setRow V3 g7 #[.int .i64 p.f, .int .i64 p.t, .int .i64 p.d, .int .i64 p.s, .slice a' p.bs.length ca'] (by show b' ≠ g7; omega)).trans e2
        have e3 : (V3.setRow g7 #[.int .i64 p.f, .int .i64 p.t, .int .i64 p.d, .int .i64 p.s, .slice a' p.bs.length ca']).cell? ⟨b', o' + k * 5 + 3, none⟩ = some (.int .i64 p.s) := (cell_setRow V3 g7 #[.int .i64 p.f, .int .i64 p.t, .int .i64 p.d, .int .i64 p.s, .slice a' p.bs.length ca'] (by show b' ≠ g7; omega)).trans e3
        have e4 : (V3.setRow g7 #[.int .i64 p.f, .int .i64 p.t, .int .i64 p.d, .int .i64 p.s, .slice a' p.bs.length ca']).cell? ⟨b', o' + k * 5 + 4, none⟩ = some (.slice a' p.bs.length ca') := (cell_setRow V3 g7 #[.int .i64 p.f, .int .i64 p.t, .int .i64 p.d, .int .i64 p.s, .slice a' p.bs.length ca'] (by show b' ≠ g7; omega)).trans e4
        generalize (V3.setRow g7 #[.int .i64 p.f, .int .i64 p.t, .int .i64 p.d, .int .i64 p.s, .slice a' p.bs.length ca']) = V4 at *
        have HS := And.intro c0 (And.intro c1 (And.intro c2 (And.intro c3 (And.intro c4 (And.intro e0 (And.intro e1 (And.intro e2 (And.intro e3 e4))))))))
        refine hK.out _ _ ?_
        clear hK K
        try simp only [Act.put, List.setIfInBounds_toArray, List.set_cons_zero, List.set_cons_succ]
        refine Rg.doneR (by kernel_rfl) ?_ _
        refine NoPanic.normal ?_
        clear HS
        have u0 := BX.out.cell 0
        have u1 := BX.out.cell 1
        have u2 := BX.out.cell 2
        have u3 := BX.out.cell 3
        have u4 := BX.out.cell 4
        have v0 := BY.out.cell 0
        have v1 := BY.out.cell 1
        have v2 := BY.out.cell 2
        have v3 := BY.out.cell 3
        have v4 := BY.out.cell 4
        simp only [List.getElem?_toArray, List.getElem?_cons_zero, List.getElem?_cons_succ] at u0 u1 u2 u3 u4 v0 v1 v2 v3 v4
        have k1 := conv_rd (w := V4) (c := ca) (fun h => by have := h2 h; omega) rfl (H5.out.below (HV0.out.mono (by omega)))
        have k2 := conv_rd (w := V4) (c := ca') (fun h => by have := h2' h; omega) rfl (H5'.out.below (HV0.out.mono (by omega)))
        have hne := str_ne V4 p.bs
        clear c0 c1 c2 c3 c4 e0 e1 e2 e3 e4
        go_wp2_with fail
        exact ⟨⟨k + 1, by omega, by go_num, onward HB.out (Nat.le_refl _) HV0.out⟩, by simp [intOf]; omega⟩
      ·
        refine Rg.stepS ?_
        intro K hK
        rw [if_pos (by rfl)]
        go_simp
        have hb : Below V0.heap.size V0 (V0.alloc (.cells #[.int .i64 0, .int .i64 0, .int .i64 0, .int .i64 0, .slice none 0 0] 52)) := (Below.refl _ _).alloc (Nat.le_refl _) _
        have BY : Hid (Blk (V0.alloc (.cells #[.int .i64 0, .int .i64 0, .int .i64 0, .int .i64 0, .slice none 0 0] 52)) V0.heap.size 52 #[.int .i64 0, .int .i64 0, .int .i64 0, .int .i64 0, .slice none 0 0]) := Lib.hid (Blk.fresh _ _ _)
        have hg7 := HV0.out.size
        have HV0 := Lib.hid (onward HV0.out (Nat.le_refl _) hb)
        have c0 := (hb.cell (p := ⟨b, o + k * 5, none⟩) (by show b < V0.heap.size; omega)).trans c0
        have c1 := (hb.cell (p := ⟨b, o + k * 5 + 1, none⟩) (by show b < V0.heap.size; omega)).trans c1
        have c2 := (hb.cell (p := ⟨b, o + k * 5 + 2, none⟩) (by show b < V0.heap.size; omega)).trans c2
        have c3 := (hb.cell (p := ⟨b, o + k * 5 + 3, none⟩) (by show b < V0.heap.size; omega)).trans c3
        have c4 := (hb.cell (p := ⟨b, o + k * 5 + 4, none⟩) (by show b < V0.heap.size; omega)).trans c4
        have e0 := (hb.cell (p := ⟨b', o' + k * 5, none⟩) (by show b' < V0.heap.size; omega)).trans e0
        have e1 := (hb.cell (p := ⟨b', o' + k * 5 + 1, none⟩) (by show b' < V0.heap.size; omega)).trans e1
        have e2 := (hb.cell (p := ⟨b', o' + k * 5 + 2, none⟩) (by show b' < V0.heap.size; omega)).trans e2
        have e3 := (hb.cell (p := ⟨b', o' + k * 5 + 3, none⟩) (by show b' < V0.heap.size; omega)).trans e3
        have e4 := (hb.cell (p := ⟨b', o' + k * 5 + 4, none⟩) (by show b' < V0.heap.size; omega)).trans e4
        have hsz := Nat.le_trans hsz hb.size
        clear hb HS
        generalize (V0.alloc (.cells #[.int .i64 0, .int .i64 0, .int .i64 0, .int .i64 0, .slice none 0 0] 52)) = V1 at *
        obtain ⟨g7, hg7e⟩ : ∃ g7, V0.heap.size = g7 := ⟨_, rfl⟩
        rw [hg7e] at BY hg7 ⊢
        clear hg7e
        have HS := And.intro c0 (And.intro c1 (And.intro c2 (And.intro c3 (And.intro c4 (And.intro e0 (And.intro e1 (And.intro e2 (And.intro e3 e4))))))))
        refine hK.out _ _ HS ?_
        clear hK K
        try simp only [Act.put, List.setIfInBounds_toArray, List.set_cons_zero, List.set_cons_succ]
        refine Rg.oneR (i := 8) (oi := { dst := some 6, op := Op.alloc 52, type := 0, pos := "links.go:400", after := #[], guard := none }) rfl (by kernel_rfl) ?_
        refine Rg.stepS ?_
        intro K hK
        rw [if_pos (by rfl)]
        go_simp
        have hb : Below V1.heap.size V1 (V1.alloc (.cells #[.int .i64 0, .int .i64 0, .int .i64 0, .int .i64 0, .slice none 0 0] 52)) := (Below.refl _ _).alloc (Nat.le_refl _) _
        have BX : Hid (Blk (V1.alloc (.cells #[.int .i64 0, .int .i64 0, .int .i64 0, .int .i64 0, .slice none 0 0] 52)) V1.heap.size 52 #[.int .i64 0, .int .i64 0, .int .i64 0, .int .i64 0, .slice none 0 0]) := Lib.hid (Blk.fresh _ _ _)
        have hg6 := HV0.out.size
        have hne := BY.out.lt
        have BY := Lib.hid (BY.out.below hb BY.out.lt)
        have HV0 := Lib.hid (onward HV0.out (Nat.le_refl _) hb)
        have c0 := (hb.cell (p := ⟨b, o + k * 5, none⟩) (by show b < V1.heap.size; omega)).trans c0
        have c1 := (hb.cell (p := ⟨b, o + k * 5 + 1, none⟩) (by show b < V1.heap.size; omega)).trans c1
        have c2 := (hb.cell (p := ⟨b, o + k * 5 + 2, none⟩) (by show b < V1.heap.size; omega)).trans c2
        have c3 := (hb.cell (p := ⟨b, o + k * 5 + 3, none⟩) (by show b < V1.heap.size; omega)).trans c3
        have c4 := (hb.cell (p := ⟨b, o + k * 5 + 4, none⟩) (by show b < V1.heap.size; omega)).trans c4
        have e0 := (hb.cell (p := ⟨b', o' + k * 5, none⟩) (by show b' < V1.heap.size; omega)).trans e0
        have e1 := (hb.cell (p := ⟨b', o' + k * 5 + 1, none⟩) (by show b' < V1.heap.size; omega)).trans e1
        have e2 := (hb.cell (p := ⟨b', o' + k * 5 + 2, none⟩) (by show b' < V1.heap.size; omega)).trans e2
        have e3 := (hb.cell (p := ⟨b', o' + k * 5 + 3, none⟩) (by show b' < V1.heap.size; omega)).trans e3
        have e4 := (hb.cell (p := ⟨b', o' + k * 5 + 4, none⟩) (by show b' < V1.heap.size; omega)).trans e4
        have hsz := Nat.le_trans hsz hb.size
        clear hb HS
        generalize (V1.alloc (.cells #[.int .i64 0, .int .i64 0, .int .i64 0, .int .i64 0, .slice none 0 0] 52)) = V2 at *
        obtain ⟨g6, hg6e⟩ : ∃ g6, V1.heap.size = g6 := ⟨_, rfl⟩
        rw [hg6e] at BX hg6 hne ⊢
        clear hg6e
        have HS := And.intro c0 (And.intro c1 (And.intro c2 (And.intro c3 (And.intro c4 (And.intro e0 (And.intro e1 (And.intro e2 (And.intro e3 e4))))))))
        refine hK.out _ _ HS ?_
        clear hK K
        try simp only [Act.put, List.setIfInBounds_toArray, List.set_cons_zero, List.set_cons_succ]
        refine Rg.oneR (i := 10) (oi := { dst := none, op := Op.store 52 (Operand.tmp 6) (Operand.tmp 21), type := 0, pos := "links.go:400", after := #[{ on := 8, ground := Ground.data }, { on := 3, ground := Ground.data }, { on := 0, ground := Ground.phase }, { on := 1, ground := Ground.phase }, { on := 2, ground := Ground.phase }, { on := 3, ground := Ground.phase }, { on := 4, ground := Ground.textOnly Departure.lateStores }, { on := 5, ground := Ground.textOnly Departure.lateStores }, { on := 6, ground := Ground.textOnly Departure.lateStores }, { on := 7, ground := Ground.textOnly Departure.lateStores }, { on := 8, ground := Ground.phase }, { on := 9, ground := Ground.phase }], guard := none }) rfl (by kernel_rfl) ?_
        refine Rg.stepS ?_
        intro K hK
        rw [if_pos (by rfl)]
        refine wp_store_row 52 _ _ rfl g6 #[.int .i64 p.f, .int .i64 p.t, .int .i64 p.d, .int .i64 p.s, .slice a p.bs.length ca] rfl rfl 52 _ BX.out (by kernel_rfl) rfl (by simp [Value.oneCell']) ?_
        have BY := Lib.hid (BY.out.setRow_other (g' := g6) (by omega) #[.int .i64 p.f, .int .i64 p.t, .int .i64 p.d, .int .i64 p.s, .slice a p.bs.length ca])
        have BX := Lib.hid (BX.out.setRow #[.int .i64 p.f, .int .i64 p.t, .int .i64 p.d, .int .i64 p.s, .slice a p.bs.length ca])
        have HV0 := Lib.hid (below_setRow HV0.out hg6 #[.int .i64 p.f, .int .i64 p.t, .int .i64 p.d, .int .i64 p.s, .slice a p.bs.length ca])
        clear HS
        have c0 : (V2.setRow g6 #[.int .i64 p.f, .int .i64 p.t, .int .i64 p.d, .int .i64 p.s, .slice a p.bs.length ca]).cell? ⟨b, o + k * 5, none⟩ = some (.int .i64 p.f) := (cell_setRow V2 g6 #[.int .i64 p.f, .int .i64 p.t, .int .i64 p.d, .int .i64 p.s, .slice a p.bs.length ca] (by show b ≠ g6; omega)).trans c0
        have c1 : (V2.setRow g6 #[.int .i64 p.f, .int .i64 p.t, .int .i64 p.d, .int .i64 p.s, .slice a p.bs.length ca]).cell? ⟨b, o + k * 5 + 1, none⟩ = some (.int .i64 p.t) := (cell_setRow V2 g6 #[.int .i64 p.f, .int .i64 p.t, .int .i64 p.d, .int .i64 p.s, .slice a p.bs.length ca] (by show b ≠ g6; omega)).trans c1
        have c2 : (V2.setRow g6 #[.int .i64 p.f, .int .i64 p.t, .int .i64 p.d, .int .i64 p.s, .slice a p.bs.length ca]).cell? ⟨b, o + k * 5 + 2, none⟩ = some (.int .i64 p.d) := (cell_setRow V2 g6 #[.int .i64 p.f, .int .i64 p.t, .int .i64 p.d, .int .i64 p.s, .slice a p.bs.length ca] (by show b ≠ g6; omega)).trans c2
        have c3 : (V2.setRow g6 #[.int .i64 p.f, .int .i64 p.t, .int .i64 p.d, .int .i64 p.s, .slice a p.bs.length ca]).cell? ⟨b, o + k * 5 + 3, none⟩ = some (.int .i64 p.s) := (cell_setRow V2 g6 #[.int .i64 p.f, .int .i64 p.t, .int .i64 p.d, .int .i64 p.s, .slice a p.bs.length ca] (by show b ≠ g6; omega)).trans c3
        have c4 : (V2.setRow g6 #[.int .i64 p.f, .int .i64 p.t, .int .i64 p.d, .int .i64 p.s, .slice a p.bs.length ca]).cell? ⟨b, o + k * 5 + 4, none⟩ = some (.slice a p.bs.length ca) := (cell_setRow V2 g6 #[.int .i64 p.f, .int .i64 p.t, .int .i64 p.d, .int .i64 p.s, .slice a p.bs.length ca] (by show b ≠ g6; omega)).trans c4
        have e0 : (V2.setRow g6 #[.int .i64 p.f, .int .i64 p.t, .int .i64 p.d, .int .i64 p.s, .slice a p.bs.length ca]).cell? ⟨b', o' + k * 5, none⟩ = some (.int .i64 p.f) := (cell_setRow V2 g6 #[.int .i64 p.f, .int .i64 p.t, .int .i64 p.d, .int .i64 p.s, .slice a p.bs.length ca] (by show b' ≠ g6; omega)).trans e0
        have e1 : (V2.setRow g6 #[.int .i64 p.f, .int .i64 p.t, .int .i64 p.d, .int .i64 p.s, .slice a p.bs.length ca]).cell? ⟨b', o' + k * 5 + 1, none⟩ = some (.int .i64 p.t) := (cell_setRow V2 g6 #[.int .i64 p.f, .int .i64 p.t, .int .i64 p.d, .int .i64 p.s, .slice a p.bs.length ca] (by show b' ≠ g6; omega)).trans e1
        have e2 : (V2.setRow g6 #[.int .i64 p.f, .int .i64 p.t, .int .i64 p.d, .int .i64 p.s, .slice a p.bs.length ca]).cell? ⟨b', o' + k * 5 + 2, none⟩ = some (.int .i64 p.d) := (cell_setRow V2 g6 #[.int .i64 p.f, .int .i64 p.t, .int .i64 p.d, .int .i64 p.s, .slice a p.bs.length ca] (by show b' ≠ g6; omega)).trans e2
        have e3 : (V2.setRow g6 #[.int .i64 p.f, .int .i64 p.t, .int .i64 p.d, .int .i64 p.s, .slice a p.bs.length ca]).cell? ⟨b', o' + k * 5 + 3, none⟩ = some (.int .i64 p.s) := (cell_setRow V2 g6 #[.int .i64 p.f, .int .i64 p.t, .int .i64 p.d, .int .i64 p.s, .slice a p.bs.length ca] (by show b' ≠ g6; omega)).trans e3
        have e4 : (V2.setRow g6 #[.int .i64 p.f, .int .i64 p.t, .int .i64 p.d, .int .i64 p.s, .slice a p.bs.length ca]).cell? ⟨b', o' + k * 5 + 4, none⟩ = some (.slice a' p.bs.length ca') := (cell_setRow V2 g6 #[.int .i64 p.f, .int .i64 p.t, .int .i64 p.d, .int .i64 p.s, .slice a p.bs.length ca] (by show b' ≠ g6; omega)).trans e4
        generalize (V2.setRow g6 #[.int .i64 p.f, .int .i64 p.t, .int .i64 p.d, .int .i64 p.s, .slice a p.bs.length ca]) = V3 at *
        have HS := And.intro c0 (And.intro c1 (And.intro c2 (And.intro c3 (And.intro c4 (And.intro e0 (And.intro e1 (And.intro e2 (And.intro e3 e4))))))))
        refine hK.out _ _ HS ?_
        clear hK K
        try simp only [Act.put, List.setIfInBounds_toArray, List.set_cons_zero, List.set_cons_succ]
        refine Rg.oneR (i := 11) (oi := { dst := none, op := Op.store 52 (Operand.tmp 7) (Operand.tmp 25), type := 0, pos := "links.go:400", after := #[{ on := 9, ground := Ground.data }, { on := 7, ground := Ground.data }, { on := 10, ground := Ground.chain }, { on := 0, ground := Ground.phase }, { on := 1, ground := Ground.phase }, { on := 2, ground := Ground.phase }, { on := 3, ground := Ground.phase }, { on := 4, ground := Ground.phase }, { on := 5, ground := Ground.phase }, { on := 6, ground := Ground.phase }, { on := 7, ground := Ground.phase }, { on := 8, ground := Ground.phase }, { on := 9, ground := Ground.phase }, { on := 10, ground := Ground.phase }], guard := none }) rfl (by kernel_rfl) ?_
        refine Rg.stepF ?_ ?_
        · kernel_rfl
        intro K hK
        rw [if_pos (by rfl)]
        refine wp_store_row 52 _ _ rfl g7 #[.int .i64 p.f, .int .i64 p.t, .int .i64 p.d, .int .i64 p.s, .slice a' p.bs.length ca'] rfl rfl 52 _ BY.out (by kernel_rfl) rfl (by simp [Value.oneCell']) ?_
        have BX := Lib.hid (BX.out.setRow_other (g' := g7) (by omega) #[.int .i64 p.f, .int .i64 p.t, .int .i64 p.d, .int .i64 p.s, .slice a' p.bs.length ca'])
        have BY := Lib.hid (BY.out.setRow #[.int .i64 p.f, .int .i64 p.t, .int .i64 p.d, .int .i64 p.s, .slice a' p.bs.length ca'])
        have HV0 := Lib.hid (below_setRow HV0.out hg7 #[.int .i64 p.f, .int .i64 p.t, .int .i64 p.d, .int .i64 p.s, .slice a' p.bs.length ca'])
        clear HS
        have c0 : (V3.setRow g7 #[.int .i64 p.f, .int .i64 p.t, .int .i64 p.d, .int .i64 p.s, .slice a' p.bs.length ca']).cell? ⟨b, o + k * 5, none⟩ = some (.int .i64 p.f) := (cell_setRow V3 g7 #[.int .i64 p.f, .int .i64 p.t, .int .i64 p.d, .int .i64 p.s, .slice a' p.bs.length ca'] (by show b ≠ g7; omega)).trans c0
        have c1 : (V3.setRow g7 #[.int .i64 p.f, .int .i64 p.t, .int .i64 p.d, .int .i64 p.s, .slice a' p.bs.length ca']).cell? ⟨b, o + k * 5 + 1, none⟩ = some (.int .i64 p.t) := (cell_setRow V3 g7 #[.int .i64 p.f, .int .i64 p.t, .int .i64 p.d, .int .i64 p.s, .slice a' p.bs.length ca'] (by show b ≠ g7; omega)).trans c1
        have c2 : (V3.setRow g7 #[.int .i64 p.f, .int .i64 p.t, .int .i64 p.d, .int .i64 p.s, .slice a' p.bs.length ca']).cell? ⟨b, o + k * 5 + 2, none⟩ = some (.int .i64 p.d) := (cell_setRow V3 g7 #[.int .i64 p.f, .int .i64 p.t, .int .i64 p.d, .int .i64 p.s, .slice a' p.bs.length ca'] (by show b ≠ g7; omega)).trans c2
        have c3 : (V3.setRow g7 #[.int .i64 p.f, .int .i64 p.t, .int .i64 p.d, .int .i64 p.s, .slice a' p.bs.length ca']).cell? ⟨b, o + k * 5 + 3, none⟩ = some (.int .i64 p.s) := (cell_setRow V3 g7 #[.int .i64 p.f, .int .i64 p.t, .int .i64 p.d, .int .i64 p.s, .slice a' p.bs.length ca'] (by show b ≠ g7; omega)).trans c3
        have c4 : (V3.setRow g7 #[.int .i64 p.f, .int .i64 p.t, .int .i64 p.d, .int .i64 p.s, .slice a' p.bs.length ca']).cell? ⟨b, o + k * 5 + 4, none⟩ = some (.slice a p.bs.length ca) := (cell_setRow V3 g7 #[.int .i64 p.f, .int .i64 p.t, .int .i64 p.d, .int .i64 p.s, .slice a' p.bs.length ca'] (by show b ≠ g7; omega)).trans c4
        have e0 : (V3.setRow g7 #[.int .i64 p.f, .int .i64 p.t, .int .i64 p.d, .int .i64 p.s, .slice a' p.bs.length ca']).cell? ⟨b', o' + k * 5, none⟩ = some (.int .i64 p.f) := (cell_setRow V3 g7 #[.int .i64 p.f, .int .i64 p.t, .int .i64 p.d, .int .i64 p.s, .slice a' p.bs.length ca'] (by show b' ≠ g7; omega)).trans e0
        have e1 : (V3.setRow g7 #[.int .i64 p.f, .int .i64 p.t, .int .i64 p.d, .int .i64 p.s, .slice a' p.bs.length ca']).cell? ⟨b', o' + k * 5 + 1, none⟩ = some (.int .i64 p.t) := (cell_setRow V3 g7 #[.int .i64 p.f, .int .i64 p.t, .int .i64 p.d, .int .i64 p.s, .slice a' p.bs.length ca'] (by show b' ≠ g7; omega)).trans e1
        have e2 : (V3.setRow g7 #[.int .i64 p.f, .int .i64 p.t, .int .i64 p.d, .int .i64 p.s, .slice a' p.bs.length ca']).cell? ⟨b', o' + k * 5 + 2, none⟩ = some (.int .i64 p.d) := (cell_setRow V3 g7 #[.int .i64 p.f, .int .i64 p.t, .int .i64 p.d, .int .i64 p.s, .slice a' p.bs.length ca'] (by show b' ≠ g7; omega)).trans e2
        have e3 : (V3.setRow g7 #[.int .i64 p.f, .int .i64 p.t, .int .i64 p.d, .int .i64 p.s, .slice a' p.bs.length ca']).cell? ⟨b', o' + k * 5 + 3, none⟩ = some (.int .i64 p.s) := (cell_setRow V3 g7 #[.int .i64 p.f, .int .i64 p.t, .int .i64 p.d, .int .i64 p.s, .slice a' p.bs.length ca'] (by show b' ≠ g7; omega)).trans e3
        have e4 : (V3.setRow g7 #[.int .i64 p.f, .int .i64 p.t, .int .i64 p.d, .int .i64 p.s, .slice a' p.bs.length ca']).cell? ⟨b', o' + k * 5 + 4, none⟩ = some (.slice a' p.bs.length ca') := (cell_setRow V3 g7 #[.int .i64 p.f, .int .i64 p.t, .int .i64 p.d, .int .i64 p.s, .slice a' p.bs.length ca'] (by show b' ≠ g7; omega)).trans e4
        generalize (V3.setRow g7 #[.int .i64 p.f, .int .i64 p.t, .int .i64 p.d, .int .i64 p.s, .slice a' p.bs.length ca']) = V4 at *
        have HS := And.intro c0 (And.intro c1 (And.intro c2 (And.intro c3 (And.intro c4 (And.intro e0 (And.intro e1 (And.intro e2 (And.intro e3 e4))))))))
        refine hK.out _ _ ?_
        clear hK K
        try simp only [Act.put, List.setIfInBounds_toArray, List.set_cons_zero, List.set_cons_succ]
        refine Rg.doneR (by kernel_rfl) ?_ _
        refine NoPanic.normal ?_
        clear HS
        have u0 := BX.out.cell 0
        have u1 := BX.out.cell 1
        have u2 := BX.out.cell 2
        have u3 := BX.out.cell 3
        have u4 := BX.out.cell 4
        have v0 := BY.out.cell 0
        have v1 := BY.out.cell 1
        have v2 := BY.out.cell 2
        have v3 := BY.out.cell 3
        have v4 := BY.out.cell 4
        simp only [List.getElem?_toArray, List.getElem?_cons_zero, List.getElem?_cons_succ] at u0 u1 u2 u3 u4 v0 v1 v2 v3 v4
        have k1 := conv_rd (w := V4) (c := ca) (fun h => by have := h2 h; omega) rfl (H5.out.below (HV0.out.mono (by omega)))
        have k2 := conv_rd (w := V4) (c := ca') (fun h => by have := h2' h; omega) rfl (H5'.out.below (HV0.out.mono (by omega)))
        have hne := str_ne V4 p.bs
        clear c0 c1 c2 c3 c4 e0 e1 e2 e3 e4
        go_wp2_with fail
        exact ⟨⟨k + 1, by omega, by go_num, onward HB.out (Nat.le_refl _) HV0.out⟩, by simp [intOf]; omega⟩
    · obtain rfl : k = qs.length := by omega
      clear hlt
      have HB := Lib.hid hb
      clear hb
      go_wp2_with fail
      go_ret
      exact ⟨rfl, HB.out⟩
end Go.Proofs.Ytlcpackmoolngaa.Bu
namespace Go.Proofs.Ytlcpackmoolngaa.Bu
open Go.ChangeShapes Go.WideShapes Go.ChangeAt Go.RowKit Go.Proofs.Ytlcpackmoolngaa.Mem Go.Proofs.Ytlcpackmoolngaa.Op Go.Proofs.Ytlcpackmoolngaa.Sm Go.Proofs.Ytlcpackmoolngaa.Nd Go.Proofs.Ytlcpackmoolngaa.Rws
set_option linter.unusedVariables false
set_option linter.unusedSimpArgs false
set_option maxRecDepth 100000 in
set_option maxHeartbeats 4000000 in
theorem sameBus_any (now ser : Int) (A A' : Option Addr) (c c' : Nat) (qs : List Parc) (B : Nat) (w : World) (hB : B ≤ w.heap.size) (hl : qs.length ≤ 140737488355328) (hr : ParcsAt w B A qs) (hr' : ParcsAt w B A' qs) :
    Calls Try.prog 14 #[.agg #[.int .i64 now, .int .i64 ser, .slice A qs.length c], .agg #[.int .i64 now, .int .i64 ser, .slice A' qs.length c']] w fun e w' => e = .returned (.bool true) ∧ Below w.heap.size w w' := by
  have D1 := Lib.hid (show Blk ((w.alloc (.cells #[.int .i64 now, .int .i64 ser, .slice A qs.length c] 24)).alloc (.cells #[.int .i64 now, .int .i64 ser, .slice A' qs.length c'] 24)) w.heap.size 24 #[.int .i64 now, .int .i64 ser, .slice A qs.length c] from (Blk.new rfl).alloc _)
  have D2 := Lib.hid (show Blk ((w.alloc (.cells #[.int .i64 now, .int .i64 ser, .slice A qs.length c] 24)).alloc (.cells #[.int .i64 now, .int .i64 ser, .slice A' qs.length c'] 24)) (w.heap.size + 1) 24 #[.int .i64 now, .int .i64 ser, .slice A' qs.length c'] from Blk.new (by simp))
  have HB := Lib.hid (((Below.refl w.heap.size w).alloc (Nat.le_refl _) (.cells #[.int .i64 now, .int .i64 ser, .slice A qs.length c] 24)).alloc (by simp) (.cells #[.int .i64 now, .int .i64 ser, .slice A' qs.length c'] 24))
  have HR := Lib.hid hr
  have HR' := Lib.hid hr'
  have he1 : (now == now) = true := by simp
  have he2 : (ser == ser) = true := by simp
  clear hr hr'
  go_enter Try.func14, Try.ntmps14
  go_upto_region 1 with fail
  generalize ((w.alloc (.cells #[.int .i64 now, .int .i64 ser, .slice A qs.length c] 24)).alloc (.cells #[.int .i64 now, .int .i64 ser, .slice A' qs.length c'] 24)) = W at *
  have u0 := D1.out.cell 0
  have u1 := D1.out.cell 1
  have u2 := D1.out.cell 2
  have v0 := D2.out.cell 0
  have v1 := D2.out.cell 1
  have v2 := D2.out.cell 2
  simp only [List.getElem?_toArray, List.getElem?_cons_zero, List.getElem?_cons_succ] at u0 u1 u2 v0 v1 v2
  refine wp_region_list ?_
  iterate 17
    refine wpList_wanted (by rfl) (fun K hK => ?_)
    go_simp
    try simp only [he1, he2]
    refine hK _ _ ?_
    clear hK K
    try simp only [Act.put, List.setIfInBounds_toArray, List.set_cons_zero, List.set_cons_succ]
  refine wpList_wanted (by rfl) (fun K hK => ?_)
  go_simp
  go_at_call 17
  refine (sameParcels_any A A' c c' qs B W (Nat.le_trans hB HB.out.size) hl (HR.out.below (HB.out.mono hB)) (HR'.out.below (HB.out.mono hB))).mono ?_
  rintro e w5 ⟨rfl, hb⟩
  have HB5 := Lib.hid (onward HB.out (Nat.le_refl _) hb)
  clear hb
  go_wp2_with fail
  go_ret
  exact ⟨rfl, HB5.out⟩
end Go.Proofs.Ytlcpackmoolngaa.Bu
