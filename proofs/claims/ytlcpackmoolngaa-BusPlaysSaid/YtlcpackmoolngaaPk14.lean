/- The law BusPlays returns true: for every list of deeds from an empty bus on, each answer of package bus is the reference's. Conditions: none. -/
import Derived.Test.YtlcpackmoolngaaPk0
import Derived.Test.YtlcpackmoolngaaPk13
namespace Go.Proofs.Ytlcpackmoolngaa.lawBusPlays
open Go.ChangeShapes Go.WideShapes Go.ChangeAt Go.RowKit Go.Proofs.Ytlcpackmoolngaa.Mem Go.Proofs.Ytlcpackmoolngaa.Rws Go.Proofs.Ytlcpackmoolngaa.Bu Go.Proofs.Ytlcpackmoolngaa.Sm Go.Proofs.Ytlcpackmoolngaa.BigW
set_option linter.unusedVariables false
set_option linter.unusedSimpArgs false
set_option maxRecDepth 100000 in
set_option maxHeartbeats 8000000 in
theorem walk (AL : Option Addr) (cL : Nat) (ds : List Parc) (w : World) (hdl : ds.length * 56 ≤ 140737488351232) (hd : ParcsAt w w.heap.size AL ds) :
    Calls Try.prog 5 #[.slice AL ds.length cL] w fun e w' => e = .returned (.bool true) ∧ Below w.heap.size w w' := by
  have HD := Lib.hid hd
  clear hd
  go_enter Try.func5, Try.ntmps5
  go_upto_region 2 with fail
  have D1 := Lib.hid (show BusHeld ((w.alloc (.cells #[.int .i64 0, .int .i64 0, .slice none 0 0] 24)).alloc (.cells #[.int .i64 0, .int .i64 0, .slice none 0 0] 24)) w.heap.size 0 0 none 0 [] from ⟨(show Blk (w.alloc (.cells #[.int .i64 0, .int .i64 0, .slice none 0 0] 24)) w.heap.size 24 #[.int .i64 0, .int .i64 0, .slice none 0 0] from Blk.fresh _ _ _).alloc (.cells #[.int .i64 0, .int .i64 0, .slice none 0 0] 24), ParcsAt.nil _ _ _⟩)
  have D2 := Lib.hid (show BusHeld ((w.alloc (.cells #[.int .i64 0, .int .i64 0, .slice none 0 0] 24)).alloc (.cells #[.int .i64 0, .int .i64 0, .slice none 0 0] 24)) (w.heap.size + 1) 0 0 none 0 [] from ⟨Ss.fresh2 _ _ _ _, ParcsAt.nil _ _ _⟩)
  have HB := Lib.hid (((Below.refl w.heap.size w).alloc (Nat.le_refl _) (.cells #[.int .i64 0, .int .i64 0, .slice none 0 0] 24)).alloc (by simp) (.cells #[.int .i64 0, .int .i64 0, .slice none 0 0] 24))
  generalize ((w.alloc (.cells #[.int .i64 0, .int .i64 0, .slice none 0 0] 24)).alloc (.cells #[.int .i64 0, .int .i64 0, .slice none 0 0] 24)) = W at *
  go_wp2_with fail
  refine (first_send0 _).mono ?_
  rintro e w1 ⟨A7, c7, l7, rfl, hp, hb⟩
  have D1 := Lib.hid (D1.out.below hb)
  have D2 := Lib.hid (D2.out.below hb)
  have HB := Lib.hid (onward HB.out (Nat.le_refl _) hb)
  clear hb
  go_upto_region 3 with fail
  have hb : Below w1.heap.size w1 (w1.alloc (.cells #[.int .i64 0, .int .i64 1, .slice A7 l7.length c7] 24)) := (Below.refl _ _).alloc (Nat.le_refl _) _
  have D3 : BusHeld (w1.alloc (.cells #[.int .i64 0, .int .i64 1, .slice A7 l7.length c7] 24)) w1.heap.size 0 1 A7 c7 l7 := ⟨Blk.fresh _ _ _, pa_below hp hb⟩
  have HPL := Lib.hid (show PlAt w (w1.alloc (.cells #[.int .i64 0, .int .i64 1, .slice A7 l7.length c7] 24)) w1.heap.size 0 0 none 0 none 0 [] from ⟨D1.out.below hb, D2.out.below hb, ⟨A7, c7, l7, D3⟩, onward HB.out (Nat.le_refl _) hb⟩)
  have hgn : w.heap.size + 1 < w1.heap.size := D2.out.1.lt
  clear hb hp D1 D2 D3 HB
  generalize (w1.alloc (.cells #[.int .i64 0, .int .i64 1, .slice A7 l7.length c7] 24)) = w2 at *
  obtain ⟨gn, hg⟩ : ∃ g, w1.heap.size = g := ⟨_, rfl⟩
  rw [hg] at HPL hgn ⊢
  clear hg
  go_wp2_with fail
  go_loopw [7] (fun i wr => ∃ (k : Nat) (n s : Int) (A1 : Option Addr) (c1 : Nat) (A2 : Option Addr) (c2 : Nat) (l : List Parc), k ≤ ds.length ∧ k ≤ 200 ∧ i = .int .i64 k ∧ l.length ≤ 400 ∧ PlAt w wr gn n s A1 c1 A2 c2 l) (fun i _ => ds.length - (intOf i).toNat)
  case atStart => exact ⟨0, 0, 0, none, 0, none, 0, [], by omega, by omega, rfl, by simp, HPL.out⟩
  case round =>
    clear HPL
    obtain ⟨k, n, s, A1, c1, A2, c2, l, hk, hk2, rfl, hl4, hpl⟩ := hrel
    have HPL := Lib.hid hpl
    clear hpl
    by_cases hlt : k < ds.length
    · by_cases hlt2 : k < 200
      · have hm : ds[k]? = some ds[k] := List.getElem?_eq_getElem hlt
        generalize ds[k] = p at hm
        obtain ⟨b, o, a, ca, rfl, hbB, x0, x1, x2, x3, x4, h2, h3, h4, h5⟩ := HD.out.at hm
        have H5 := Lib.hid h5
        have x0 := (HPL.out.2.2.2.cell (p := ⟨b, o + k * 5, none⟩) hbB).trans x0
        have x1 := (HPL.out.2.2.2.cell (p := ⟨b, o + k * 5 + 1, none⟩) hbB).trans x1
        have x2 := (HPL.out.2.2.2.cell (p := ⟨b, o + k * 5 + 2, none⟩) hbB).trans x2
        have x3 := (HPL.out.2.2.2.cell (p := ⟨b, o + k * 5 + 3, none⟩) hbB).trans x3
        have x4 := (HPL.out.2.2.2.cell (p := ⟨b, o + k * 5 + 4, none⟩) hbB).trans x4
        have hk0 : (0 : Int) ≤ (k : Int) := by omega
        have hk1 : (k : Int) < (ds.length : Int) := by omega
        have hk2' : (k : Int) < 200 := by omega
        clear h5 hm
        go_upto_region 7 with fail
        have hb : Below wr.heap.size wr (wr.alloc (.cells #[.int .i64 p.f, .int .i64 p.t, .int .i64 p.d, .int .i64 p.s, .slice a p.bs.length ca] 40)) := (Below.refl _ _).alloc (Nat.le_refl _) _
        have PB := Lib.hid (show Blk (wr.alloc (.cells #[.int .i64 p.f, .int .i64 p.t, .int .i64 p.d, .int .i64 p.s, .slice a p.bs.length ca] 40)) wr.heap.size 40 #[.int .i64 p.f, .int .i64 p.t, .int .i64 p.d, .int .i64 p.s, .slice a p.bs.length ca] from Blk.fresh _ _ _)
        have hgd : gn < wr.heap.size := by obtain ⟨_, _, ⟨_, _, _, h⟩, _⟩ := HPL.out; exact h.1.lt
        have HPL := Lib.hid (HPL.out.below hb)
        have hgx := PB.out.lt
        clear hb x0 x1 x2 x3 x4
        generalize (wr.alloc (.cells #[.int .i64 p.f, .int .i64 p.t, .int .i64 p.d, .int .i64 p.s, .slice a p.bs.length ca] 40)) = w3 at *
        obtain ⟨gd, hg⟩ : ∃ g, wr.heap.size = g := ⟨_, rfl⟩
        rw [hg] at PB hgd hgx ⊢
        clear hg
        go_upto_region 8 with fail
        have hb : Below w3.heap.size w3 ((w3.alloc (.cells #[.int .i64 0, .int .i64 0, .slice none 0 0] 24)).alloc (.cells #[.int .i64 0, .int .i64 0, .slice none 0 0] 24)) := ((Below.refl _ _).alloc (Nat.le_refl _) _).alloc (by simp) _
        have HX := Lib.hid (show BusHeld ((w3.alloc (.cells #[.int .i64 0, .int .i64 0, .slice none 0 0] 24)).alloc (.cells #[.int .i64 0, .int .i64 0, .slice none 0 0] 24)) w3.heap.size 0 0 none 0 [] from ⟨(show Blk (w3.alloc (.cells #[.int .i64 0, .int .i64 0, .slice none 0 0] 24)) w3.heap.size 24 #[.int .i64 0, .int .i64 0, .slice none 0 0] from Blk.fresh _ _ _).alloc (.cells #[.int .i64 0, .int .i64 0, .slice none 0 0] 24), ParcsAt.nil _ _ _⟩)
        have HY := Lib.hid (show BusHeld ((w3.alloc (.cells #[.int .i64 0, .int .i64 0, .slice none 0 0] 24)).alloc (.cells #[.int .i64 0, .int .i64 0, .slice none 0 0] 24)) (w3.heap.size + 1) 0 0 none 0 [] from ⟨Ss.fresh2 _ _ _ _, ParcsAt.nil _ _ _⟩)
        have HPL := Lib.hid (HPL.out.below hb)
        have PB := Lib.hid (PB.out.below hb PB.out.lt)
        clear hb
        generalize ((w3.alloc (.cells #[.int .i64 0, .int .i64 0, .slice none 0 0] 24)).alloc (.cells #[.int .i64 0, .int .i64 0, .slice none 0 0] 24)) = w3v at *
        obtain ⟨gx, hg⟩ : ∃ g, w3.heap.size = g := ⟨_, rfl⟩
        rw [hg] at HX HY hgx ⊢
        clear hg
        obtain ⟨gy, hg⟩ : ∃ g, gx + 1 = g := ⟨_, rfl⟩
        rw [hg] at HY ⊢
        have hgtgx : w.heap.size + 1 < gx := by omega
        have hgtgy : w.heap.size + 1 < gy := by omega
        have hgngx : gn ≠ gx := by omega
        have hgngy : gn ≠ gy := by omega
        have hgdgx : gd ≠ gx := by omega
        have hgdgy : gd ≠ gy := by omega
        have hxygx : gy ≠ gx := by omega
        have hxygy : gx ≠ gy := by omega
        clear hg hgx hgd
        have d0 := PB.out.cell 0
        simp only [List.getElem?_toArray, List.getElem?_cons_zero, List.getElem?_cons_succ] at d0
        go_upto_block 2 with fail
        clear d0
        go_cut [11, 12, 13, 14] (fun a b e f wx => ∃ (n' s' : Int) (l' : List Parc) (A3 : Option Addr) (c3 : Nat) (A4 : Option Addr) (c4 : Nat) (rs : List Parc) (A5 : Option Addr) (c5 : Nat) (A6 : Option Addr) (c6 : Nat) (er : Int), a = .slice A5 rs.length c5 ∧ b = .slice A6 rs.length c6 ∧ e = .int .i64 er ∧ f = .int .i64 er ∧ BusHeld wx gx n' s' A3 c3 l' ∧ BusHeld wx gy n' s' A4 c4 l' ∧ ParcsAt wx wx.heap.size A5 rs ∧ ParcsAt wx wx.heap.size A6 rs ∧ l'.length ≤ 400 ∧ rs.length ≤ 400 ∧ PlAt w wx gn n s A1 c1 A2 c2 l)
        case first =>
          by_cases e1 : p.f = 1
          · have e1b : decide (p.f = 1) = true := by simp [e1]
            have e1c : (p.f == 1) = true := by simp [e1]
            clear e1
            obtain ⟨r, hr⟩ : ∃ r, sendR n s l p.t p.d p.s p.bs = r := ⟨_, rfl⟩
            have hlen : r.2.2.1.length ≤ 400 := by rw [← hr]; exact send_len4 _ _ _ _ _ _ _
            have HR := Lib.hid hr
            clear hr
            obtain ⟨n', s', l', er⟩ := r
            dsimp only at hlen
            go_upto_region 14 with fail
            have HPL := Lib.hid HPL.out.drew
            have HX := Lib.hid HX.out.drew
            have HY := Lib.hid HY.out.drew
            have PB := Lib.hid PB.out.drew
            have HS := And.intro HPL.out.1.1 PB.out
            refine wp_region_noPanic ?_
            refine Rg.beginR [0, 2, 4, 6, 9] (fun w' => Blk w' w.heap.size 24 #[.int .i64 n, .int .i64 s, .slice A1 l.length c1] ∧ Blk w' gd 40 #[.int .i64 p.f, .int .i64 p.t, .int .i64 p.d, .int .i64 p.s, .slice a p.bs.length ca]) (by kernel_rfl) ?_
            generalize w3v.drew = V0 at *
            refine Rg.takeS (i := 0) (oi := { dst := some 61, op := Op.load 24 (Operand.tmp 3), type := 24, pos := "links.go:190", after := #[], guard := none }) (v := .agg #[.int .i64 n, .int .i64 s, .slice A1 l.length c1]) rfl (by kernel_rfl) (fun _ _ _ h => h) (by rfl) HS ?_ ?_
            · (intro w' hSw; exact exec_load_st 24 (.tmp 3) rfl w.heap.size rfl hSw.1 Try.underlying24 rfl (by kernel_rfl))
            try simp only [Act.put, List.setIfInBounds_toArray, List.set_cons_zero, List.set_cons_succ]
            refine Rg.takeP (i := 1) (oi := { dst := some 62, op := Op.fieldAddr 40 (Operand.tmp 8) 1, type := 0, pos := "links.go:190", after := #[], guard := none }) (v := ?_) rfl (by kernel_rfl) (fun _ _ _ h => h) (by rfl) ?_ ?_
            rotate_left 1
            · (intro w; go_simp; (try with_reducible rfl))
            try simp only [Act.put, List.setIfInBounds_toArray, List.set_cons_zero, List.set_cons_succ]
            refine Rg.takeS (i := 2) (oi := { dst := some 63, op := Op.load 3 (Operand.tmp 62), type := 3, pos := "links.go:190", after := #[{ on := 1, ground := Ground.data }], guard := none }) (v := .int .i64 p.t) rfl (by kernel_rfl) (fun _ _ _ h => h) (by rfl) HS ?_ ?_
            · (intro w' hSw; have y := hSw.2.cell 1; simp only [List.getElem?_toArray, List.getElem?_cons_zero, List.getElem?_cons_succ] at y; go_simp; (try with_reducible rfl))
            try simp only [Act.put, List.setIfInBounds_toArray, List.set_cons_zero, List.set_cons_succ]
            refine Rg.takeP (i := 3) (oi := { dst := some 64, op := Op.fieldAddr 40 (Operand.tmp 8) 2, type := 0, pos := "links.go:190", after := #[], guard := none }) (v := ?_) rfl (by kernel_rfl) (fun _ _ _ h => h) (by rfl) ?_ ?_
            rotate_left 1
            · (intro w; go_simp; (try with_reducible rfl))
            try simp only [Act.put, List.setIfInBounds_toArray, List.set_cons_zero, List.set_cons_succ]
            refine Rg.takeS (i := 4) (oi := { dst := some 65, op := Op.load 3 (Operand.tmp 64), type := 3, pos := "links.go:190", after := #[{ on := 3, ground := Ground.data }], guard := none }) (v := .int .i64 p.d) rfl (by kernel_rfl) (fun _ _ _ h => h) (by rfl) HS ?_ ?_
            · (intro w' hSw; have y := hSw.2.cell 2; simp only [List.getElem?_toArray, List.getElem?_cons_zero, List.getElem?_cons_succ] at y; go_simp; (try with_reducible rfl))
            try simp only [Act.put, List.setIfInBounds_toArray, List.set_cons_zero, List.set_cons_succ]
            refine Rg.takeP (i := 5) (oi := { dst := some 66, op := Op.fieldAddr 40 (Operand.tmp 8) 4, type := 0, pos := "links.go:190", after := #[], guard := none }) (v := ?_) rfl (by kernel_rfl) (fun _ _ _ h => h) (by rfl) ?_ ?_
            rotate_left 1
            · (intro w; go_simp; (try with_reducible rfl))
            try simp only [Act.put, List.setIfInBounds_toArray, List.set_cons_zero, List.set_cons_succ]
            refine Rg.takeS (i := 6) (oi := { dst := some 67, op := Op.load 38 (Operand.tmp 66), type := 38, pos := "links.go:190", after := #[{ on := 5, ground := Ground.data }], guard := none }) (v := .slice a p.bs.length ca) rfl (by kernel_rfl) (fun _ _ _ h => h) (by rfl) HS ?_ ?_
            · (intro w' hSw; have y := hSw.2.cell 4; simp only [List.getElem?_toArray, List.getElem?_cons_zero, List.getElem?_cons_succ] at y; go_simp; (try with_reducible rfl))
            try simp only [Act.put, List.setIfInBounds_toArray, List.set_cons_zero, List.set_cons_succ]
            refine Rg.takeP (i := 8) (oi := { dst := some 69, op := Op.fieldAddr 40 (Operand.tmp 8) 3, type := 0, pos := "links.go:190", after := #[], guard := none }) (v := ?_) rfl (by kernel_rfl) (fun _ _ _ h => h) (by rfl) ?_ ?_
            rotate_left 1
            · (intro w; go_simp; (try with_reducible rfl))
            try simp only [Act.put, List.setIfInBounds_toArray, List.set_cons_zero, List.set_cons_succ]
            refine Rg.takeS (i := 9) (oi := { dst := some 70, op := Op.load 3 (Operand.tmp 69), type := 3, pos := "links.go:190", after := #[{ on := 8, ground := Ground.data }], guard := none }) (v := .int .i64 p.s) rfl (by kernel_rfl) (fun _ _ _ h => h) (by rfl) HS ?_ ?_
            · (intro w' hSw; have y := hSw.2.cell 3; simp only [List.getElem?_toArray, List.getElem?_cons_zero, List.getElem?_cons_succ] at y; go_simp; (try with_reducible rfl))
            try simp only [Act.put, List.setIfInBounds_toArray, List.set_cons_zero, List.set_cons_succ]
            refine Rg.oneR (i := 7) (oi := { dst := some 68, op := Op.call { callee := Callee.value (Operand.func 19), args := #[Operand.tmp 67], argTypes := #[38] }, type := 38, pos := "links.go:190", after := #[{ on := 6, ground := Ground.data }], guard := none }) rfl (by kernel_rfl) ?_
            refine Rg.stepS ?_
            intro K hK
            rw [if_pos (by rfl)]
            go_simp
            go_at_call 19
            refine (bytes_any a ca p.bs w.heap.size V0 HPL.out.2.2.2.size h2 h3 (by omega) (H5.out.below HPL.out.2.2.2)).mono ?_
            rintro e V1 ⟨AD, cd, rfl, hown, hb⟩
            obtain ⟨ha2, hc2⟩ := Mem.own_cap hown
            have HDD := Lib.hid (Rd.of_own hown)
            have HPL := Lib.hid (HPL.out.below hb)
            have HX := Lib.hid (HX.out.below hb)
            have HY := Lib.hid (HY.out.below hb)
            have PB := Lib.hid (PB.out.below hb PB.out.lt)
            clear hb hown HS
            have HS := And.intro HPL.out.1.1 PB.out
            refine hK.out _ _ HS ?_
            clear hK K
            try simp only [Act.put, List.setIfInBounds_toArray, List.set_cons_zero, List.set_cons_succ]
            refine Rg.oneR (i := 10) (oi := { dst := some 71, op := Op.call { callee := Callee.value (Operand.func 18), args := #[Operand.tmp 61, Operand.tmp 63, Operand.tmp 65, Operand.tmp 68, Operand.tmp 70], argTypes := #[24, 3, 3, 38, 3] }, type := 26, pos := "links.go:190", after := #[{ on := 0, ground := Ground.data }, { on := 2, ground := Ground.data }, { on := 4, ground := Ground.data }, { on := 7, ground := Ground.data }, { on := 9, ground := Ground.data }, { on := 7, ground := Ground.chain }], guard := none }) rfl (by kernel_rfl) ?_
            refine Rg.stepF ?_ ?_
            · kernel_rfl
            intro K hK
            rw [if_pos (by rfl)]
            go_simp
            go_at_call 18
            have hcon := send_any n s A1 c1 l p.t p.d p.s AD cd p.bs V1.heap.size V1 (Nat.le_refl _) (by omega) HPL.out.1.2 ha2 hc2 h4 HDD.out
            rw [HR.out] at hcon
            unfold SendAs at hcon
            dsimp only at hcon
            refine (hcon).mono ?_
            rintro e w4 ⟨A3, c3, rfl, hp3, hb⟩
            have HP3 := Lib.hid hp3
            have HPL := Lib.hid (HPL.out.below hb)
            have HX := Lib.hid (HX.out.below hb)
            have HY := Lib.hid (HY.out.below hb)
            have PB := Lib.hid (PB.out.below hb PB.out.lt)
            clear hb hp3
            clear hcon HS
            refine hK.out _ _ ?_
            clear hK K
            try simp only [Act.put, List.setIfInBounds_toArray, List.set_cons_zero, List.set_cons_succ]
            refine Rg.takeP (i := 11) (oi := { dst := some 60, op := Op.move (Operand.tmp 71), type := 26, pos := "links.go:190", after := #[{ on := 10, ground := Ground.data }], guard := none }) (v := ?_) rfl (by kernel_rfl) (fun _ _ _ h => h) (by rfl) ?_ ?_
            rotate_left 1
            · (intro w; go_simp; (try with_reducible rfl))
            try simp only [Act.put, List.setIfInBounds_toArray, List.set_cons_zero, List.set_cons_succ]
            refine Rg.takeP (i := 12) (oi := { dst := some 72, op := Op.extract (Operand.tmp 60) 0, type := 24, pos := "links.go:190", after := #[{ on := 11, ground := Ground.data }], guard := none }) (v := ?_) rfl (by kernel_rfl) (fun _ _ _ h => h) (by rfl) ?_ ?_
            rotate_left 1
            · (intro w; go_simp; (try with_reducible rfl))
            try simp only [Act.put, List.setIfInBounds_toArray, List.set_cons_zero, List.set_cons_succ]
            refine Rg.takeP (i := 13) (oi := { dst := some 73, op := Op.extract (Operand.tmp 60) 1, type := 25, pos := "links.go:190", after := #[{ on := 11, ground := Ground.data }, { on := 14, ground := Ground.gcOnly Departure.lateStores }], guard := none }) (v := ?_) rfl (by kernel_rfl) (fun _ _ _ h => h) (by rfl) ?_ ?_
            rotate_left 1
            · (intro w; go_simp; (try with_reducible rfl))
            try simp only [Act.put, List.setIfInBounds_toArray, List.set_cons_zero, List.set_cons_succ]
            refine Rg.oneR (i := 14) (oi := { dst := none, op := Op.store 24 (Operand.tmp 9) (Operand.tmp 72), type := 0, pos := "links.go:190", after := #[{ on := 12, ground := Ground.data }, { on := 10, ground := Ground.chain }, { on := 0, ground := Ground.phase }, { on := 1, ground := Ground.phase }, { on := 2, ground := Ground.phase }, { on := 3, ground := Ground.phase }, { on := 4, ground := Ground.phase }, { on := 5, ground := Ground.phase }, { on := 6, ground := Ground.phase }, { on := 7, ground := Ground.phase }, { on := 8, ground := Ground.phase }, { on := 9, ground := Ground.phase }, { on := 10, ground := Ground.phase }, { on := 11, ground := Ground.phase }, { on := 12, ground := Ground.phase }, { on := 13, ground := Ground.textOnly Departure.lateStores }], guard := none }) rfl (by kernel_rfl) ?_
            refine Rg.stepF ?_ ?_
            · kernel_rfl
            intro K hK
            rw [if_pos (by rfl)]
            refine wp_store_row 24 _ _ rfl gx #[.int .i64 n', .int .i64 s', .slice A3 l'.length c3] rfl rfl 24 _ HX.out.1 (by kernel_rfl) rfl (by simp [Value.oneCell']) ?_
            have his := HX.out.is
            have HPL := Lib.hid (HPL.out.row his hgtgx hgngx #[.int .i64 n', .int .i64 s', .slice A3 l'.length c3])
            have HY := Lib.hid (HY.out.row his hxygx #[.int .i64 n', .int .i64 s', .slice A3 l'.length c3])
            have PB := Lib.hid (PB.out.setRow_other (g' := gx) hgdgx #[.int .i64 n', .int .i64 s', .slice A3 l'.length c3])
            have HX := Lib.hid (HX.out.put (n' := n') (s' := s') (c' := c3) HP3.out)
            clear his HP3
            generalize (w4.setRow gx #[.int .i64 n', .int .i64 s', .slice A3 l'.length c3]) = w5 at *
            refine hK.out _ _ ?_
            clear hK K
            try simp only [Act.put, List.setIfInBounds_toArray, List.set_cons_zero, List.set_cons_succ]
            refine Rg.takeP (i := 15) (oi := { dst := some 13, op := Op.assign (Operand.tmp 73), type := 25, pos := "links.go:190", after := #[{ on := 13, ground := Ground.data }, { on := 14, ground := Ground.chain }, { on := 0, ground := Ground.phase }, { on := 1, ground := Ground.phase }, { on := 2, ground := Ground.phase }, { on := 3, ground := Ground.phase }, { on := 4, ground := Ground.phase }, { on := 5, ground := Ground.phase }, { on := 6, ground := Ground.phase }, { on := 7, ground := Ground.phase }, { on := 8, ground := Ground.phase }, { on := 9, ground := Ground.phase }, { on := 10, ground := Ground.phase }, { on := 11, ground := Ground.phase }, { on := 12, ground := Ground.phase }, { on := 13, ground := Ground.phase }, { on := 14, ground := Ground.phase }], guard := none }) (v := ?_) rfl (by kernel_rfl) (fun _ _ _ h => h) (by rfl) ?_ ?_
            rotate_left 1
            · (intro w; go_simp; (try with_reducible rfl))
            try simp only [Act.put, List.setIfInBounds_toArray, List.set_cons_zero, List.set_cons_succ]
            refine Rg.doneR (by kernel_rfl) ?_ _
            refine NoPanic.normal ?_
            have d1 := PB.out.cell 1
            have d2 := PB.out.cell 2
            have d3 := PB.out.cell 3
            have d4 := PB.out.cell 4
            simp only [List.getElem?_toArray, List.getElem?_cons_zero, List.getElem?_cons_succ] at d1 d2 d3 d4
            go_wp2_with (refine wpList_whole rfl 24 _ rfl (w.heap.size + 1) rfl HPL.out.2.1.1 _ Try.underlying24 rfl (by kernel_rfl) ?_)
            have hcon := refsend_any n s A2 c2 l p.t p.d p.s a ca p.bs w5.heap.size w5 (Nat.le_refl _) (by omega) HPL.out.2.1.2 h2 h3 h4 ((H5.out.below HPL.out.2.2.2).more HPL.out.2.2.2.size)
            rw [HR.out] at hcon
            unfold SendAs at hcon
            dsimp only at hcon
            refine (hcon).mono ?_
            rintro e w6 ⟨A4, c4, rfl, hp3, hb⟩
            have HP4 := Lib.hid hp3
            have HPL := Lib.hid (HPL.out.below hb)
            have HX := Lib.hid (HX.out.below hb)
            have HY := Lib.hid (HY.out.below hb)
            have PB := Lib.hid (PB.out.below hb PB.out.lt)
            clear hb hp3
            clear hcon d1 d2 d3 d4
            go_wp2_with (first | (refine wpList_store_row rfl 24 _ _ rfl gy #[.int .i64 n', .int .i64 s', .slice A4 l'.length c4] rfl rfl 24 _ HY.out.1 (by kernel_rfl) rfl (by simp [Value.oneCell']) ?_) | go_meet)
            have his := HY.out.is
            have HPL := Lib.hid (HPL.out.row his hgtgy hgngy #[.int .i64 n', .int .i64 s', .slice A4 l'.length c4])
            have HX := Lib.hid (HX.out.row his hxygy #[.int .i64 n', .int .i64 s', .slice A4 l'.length c4])
            have PB := Lib.hid (PB.out.setRow_other (g' := gy) hgdgy #[.int .i64 n', .int .i64 s', .slice A4 l'.length c4])
            have HY := Lib.hid (HY.out.put (n' := n') (s' := s') (c' := c4) HP4.out)
            exact ⟨n', s', l', A3, c3, A4, c4, [], none, 0, none, 0, er, rfl, rfl, rfl, rfl, HX.out, HY.out, ParcsAt.nil _ _ _, ParcsAt.nil _ _ _, hlen, by simp, HPL.out⟩
          · by_cases e2 : p.f = 2
            · have e1b : decide (p.f = 1) = false := by simp [e1]
              have e1c : (p.f == 1) = false := by simp [e1]
              have e2b : decide (p.f = 2) = true := by simp [e2]
              have e2c : (p.f == 2) = true := by simp [e2]
              clear e1 e2
              have d1 := PB.out.cell 1
              simp only [List.getElem?_toArray, List.getElem?_cons_zero, List.getElem?_cons_succ] at d1
              go_wp2_with (refine wpList_whole rfl 24 _ rfl w.heap.size rfl HPL.out.1.1 _ Try.underlying24 rfl (by kernel_rfl) ?_)
              refine (Ss.bstep_any n s p.t A1 c1 l _ _ (Nat.le_refl _) (by omega) HPL.out.1.2).mono ?_
              rintro e w4 ⟨n', s', A3, c3, l', A5, c5, rs, er, hst, rfl, hp3, hp5, hb⟩
              have hlen : l'.length ≤ 400 := Nat.le_trans hst.len.1 hl4
              have hlen2 : rs.length ≤ 400 := Nat.le_trans hst.len.2 hl4
              have HST := Lib.hid hst
              have HP3 := Lib.hid hp3
              have HP5 := Lib.hid hp5
              have HPL := Lib.hid (HPL.out.below hb)
              have HX := Lib.hid (HX.out.below hb)
              have HY := Lib.hid (HY.out.below hb)
              have PB := Lib.hid (PB.out.below hb PB.out.lt)
              clear hb hp3 hp5 hst d1
              go_upto_region 18 with (refine wpList_store_row rfl 24 _ _ rfl gx #[.int .i64 n', .int .i64 s', .slice A3 l'.length c3] rfl rfl 24 _ HX.out.1 (by kernel_rfl) rfl (by simp [Value.oneCell']) ?_)
              have his := HX.out.is
              have HPL := Lib.hid (HPL.out.row his hgtgx hgngx #[.int .i64 n', .int .i64 s', .slice A3 l'.length c3])
              have HY := Lib.hid (HY.out.row his hxygx #[.int .i64 n', .int .i64 s', .slice A3 l'.length c3])
              have PB := Lib.hid (PB.out.setRow_other (g' := gx) hgdgx #[.int .i64 n', .int .i64 s', .slice A3 l'.length c3])
              have HP5 := Lib.hid (pa_row HP5.out his #[.int .i64 n', .int .i64 s', .slice A3 l'.length c3])
              have HX := Lib.hid (HX.out.put (n' := n') (s' := s') (c' := c3) HP3.out)
              clear his HP3
              generalize (w4.setRow gx #[.int .i64 n', .int .i64 s', .slice A3 l'.length c3]) = w5 at *
              have d1 := PB.out.cell 1
              simp only [List.getElem?_toArray, List.getElem?_cons_zero, List.getElem?_cons_succ] at d1
              go_wp2_with (refine wpList_whole rfl 24 _ rfl (w.heap.size + 1) rfl HPL.out.2.1.1 _ Try.underlying24 rfl (by kernel_rfl) ?_)
              refine (Ss.refbstep_any n s p.t A2 c2 l _ _ (Nat.le_refl _) (by omega) HPL.out.2.1.2).mono ?_
              rintro e w6 ⟨n2, s2, A4, c4, l2, A6, c6, rs2, er2, hst2, rfl, hp4, hp6, hb⟩
              obtain ⟨rfl, rfl, rfl, rfl, rfl⟩ := HST.out.one hst2
              have HP4 := Lib.hid hp4
              have HP6 := Lib.hid hp6
              have HPL := Lib.hid (HPL.out.below hb)
              have HX := Lib.hid (HX.out.below hb)
              have HY := Lib.hid (HY.out.below hb)
              have PB := Lib.hid (PB.out.below hb PB.out.lt)
              have HP5 := Lib.hid (pa_below HP5.out hb)
              clear hb hp4 hp6 hst2 d1 HST
              go_wp2_with (first | (refine wpList_store_row rfl 24 _ _ rfl gy #[.int .i64 n', .int .i64 s', .slice A4 l'.length c4] rfl rfl 24 _ HY.out.1 (by kernel_rfl) rfl (by simp [Value.oneCell']) ?_) | go_meet)
              have his := HY.out.is
              have HPL := Lib.hid (HPL.out.row his hgtgy hgngy #[.int .i64 n', .int .i64 s', .slice A4 l'.length c4])
              have HX := Lib.hid (HX.out.row his hxygy #[.int .i64 n', .int .i64 s', .slice A4 l'.length c4])
              have PB := Lib.hid (PB.out.setRow_other (g' := gy) hgdgy #[.int .i64 n', .int .i64 s', .slice A4 l'.length c4])
              have HP5 := Lib.hid (pa_row HP5.out his #[.int .i64 n', .int .i64 s', .slice A4 l'.length c4])
              have HP6 := Lib.hid (pa_row HP6.out his #[.int .i64 n', .int .i64 s', .slice A4 l'.length c4])
              have HY := Lib.hid (HY.out.put (n' := n') (s' := s') (c' := c4) HP4.out)
              exact ⟨n', s', l', A3, c3, A4, c4, rs, A5, c5, A6, c6, er, rfl, rfl, rfl, rfl, HX.out, HY.out, HP5.out, HP6.out, hlen, hlen2, HPL.out⟩
            · by_cases e3 : p.f = 3
              · have e1b : decide (p.f = 1) = false := by simp [e1]
                have e1c : (p.f == 1) = false := by simp [e1]
                have e2b : decide (p.f = 2) = false := by simp [e2]
                have e2c : (p.f == 2) = false := by simp [e2]
                have e3b : decide (p.f = 3) = true := by simp [e3]
                have e3c : (p.f == 3) = true := by simp [e3]
                clear e1 e2 e3
                obtain ⟨r, hr⟩ : ∃ r, loseR n s l p.t = r := ⟨_, rfl⟩
                have hlen : r.2.2.1.length ≤ 400 := by rw [← hr]; exact Nat.le_trans (lose_len4 _ _ _ _) hl4
                have HR := Lib.hid hr
                clear hr
                obtain ⟨n', s', l', er⟩ := r
                dsimp only at hlen
                have d1 := PB.out.cell 1
                simp only [List.getElem?_toArray, List.getElem?_cons_zero, List.getElem?_cons_succ] at d1
                go_wp2_with (refine wpList_whole rfl 24 _ rfl w.heap.size rfl HPL.out.1.1 _ Try.underlying24 rfl (by kernel_rfl) ?_)
                have hcon := lose_any n s A1 c1 l p.t _ _ (Nat.le_refl _) (by omega) HPL.out.1.2
                rw [HR.out] at hcon
                unfold SendAs at hcon
                dsimp only at hcon
                refine (hcon).mono ?_
                rintro e w4 ⟨A3, c3, rfl, hp3, hb⟩
                have HP3 := Lib.hid hp3
                have HPL := Lib.hid (HPL.out.below hb)
                have HX := Lib.hid (HX.out.below hb)
                have HY := Lib.hid (HY.out.below hb)
                have PB := Lib.hid (PB.out.below hb PB.out.lt)
                clear hb hp3
                clear hcon d1
                go_upto_region 21 with (refine wpList_store_row rfl 24 _ _ rfl gx #[.int .i64 n', .int .i64 s', .slice A3 l'.length c3] rfl rfl 24 _ HX.out.1 (by kernel_rfl) rfl (by simp [Value.oneCell']) ?_)
                have his := HX.out.is
                have HPL := Lib.hid (HPL.out.row his hgtgx hgngx #[.int .i64 n', .int .i64 s', .slice A3 l'.length c3])
                have HY := Lib.hid (HY.out.row his hxygx #[.int .i64 n', .int .i64 s', .slice A3 l'.length c3])
                have PB := Lib.hid (PB.out.setRow_other (g' := gx) hgdgx #[.int .i64 n', .int .i64 s', .slice A3 l'.length c3])
                have HX := Lib.hid (HX.out.put (n' := n') (s' := s') (c' := c3) HP3.out)
                clear his HP3
                generalize (w4.setRow gx #[.int .i64 n', .int .i64 s', .slice A3 l'.length c3]) = w5 at *
                have d1 := PB.out.cell 1
                simp only [List.getElem?_toArray, List.getElem?_cons_zero, List.getElem?_cons_succ] at d1
                go_wp2_with (refine wpList_whole rfl 24 _ rfl (w.heap.size + 1) rfl HPL.out.2.1.1 _ Try.underlying24 rfl (by kernel_rfl) ?_)
                have hcon := reflose_any n s A2 c2 l p.t _ _ (Nat.le_refl _) (by omega) HPL.out.2.1.2
                rw [HR.out] at hcon
                unfold SendAs at hcon
                dsimp only at hcon
                refine (hcon).mono ?_
                rintro e w6 ⟨A4, c4, rfl, hp3, hb⟩
                have HP4 := Lib.hid hp3
                have HPL := Lib.hid (HPL.out.below hb)
                have HX := Lib.hid (HX.out.below hb)
                have HY := Lib.hid (HY.out.below hb)
                have PB := Lib.hid (PB.out.below hb PB.out.lt)
                clear hb hp3
                clear hcon d1
                go_wp2_with (first | (refine wpList_store_row rfl 24 _ _ rfl gy #[.int .i64 n', .int .i64 s', .slice A4 l'.length c4] rfl rfl 24 _ HY.out.1 (by kernel_rfl) rfl (by simp [Value.oneCell']) ?_) | go_meet)
                have his := HY.out.is
                have HPL := Lib.hid (HPL.out.row his hgtgy hgngy #[.int .i64 n', .int .i64 s', .slice A4 l'.length c4])
                have HX := Lib.hid (HX.out.row his hxygy #[.int .i64 n', .int .i64 s', .slice A4 l'.length c4])
                have PB := Lib.hid (PB.out.setRow_other (g' := gy) hgdgy #[.int .i64 n', .int .i64 s', .slice A4 l'.length c4])
                have HY := Lib.hid (HY.out.put (n' := n') (s' := s') (c' := c4) HP4.out)
                exact ⟨n', s', l', A3, c3, A4, c4, [], none, 0, none, 0, er, rfl, rfl, rfl, rfl, HX.out, HY.out, ParcsAt.nil _ _ _, ParcsAt.nil _ _ _, hlen, by simp, HPL.out⟩
              · have e1b : decide (p.f = 1) = false := by simp [e1]
                have e1c : (p.f == 1) = false := by simp [e1]
                have e2b : decide (p.f = 2) = false := by simp [e2]
                have e2c : (p.f == 2) = false := by simp [e2]
                have e3b : decide (p.f = 3) = false := by simp [e3]
                have e3c : (p.f == 3) = false := by simp [e3]
                clear e1 e2 e3
                obtain ⟨r, hr⟩ : ∃ r, turnR n s l p.t p.d p.s = r := ⟨_, rfl⟩
                have hlen : r.2.2.1.length ≤ 400 := by rw [← hr]; exact Nat.le_trans (turn_len4 _ _ _ _ _ _) hl4
                have HR := Lib.hid hr
                clear hr
                obtain ⟨n', s', l', er⟩ := r
                dsimp only at hlen
                have d1 := PB.out.cell 1
                have d2 := PB.out.cell 2
                have d3 := PB.out.cell 3
                simp only [List.getElem?_toArray, List.getElem?_cons_zero, List.getElem?_cons_succ] at d1 d2 d3
                go_wp2_with (refine wpList_whole rfl 24 _ rfl w.heap.size rfl HPL.out.1.1 _ Try.underlying24 rfl (by kernel_rfl) ?_)
                have hcon := busturn_any n s A1 c1 l p.t p.d p.s _ _ (Nat.le_refl _) (by omega) HPL.out.1.2
                rw [HR.out] at hcon
                unfold SendAs at hcon
                dsimp only at hcon
                refine (hcon).mono ?_
                rintro e w4 ⟨A3, c3, rfl, hp3, hb⟩
                have HP3 := Lib.hid hp3
                have HPL := Lib.hid (HPL.out.below hb)
                have HX := Lib.hid (HX.out.below hb)
                have HY := Lib.hid (HY.out.below hb)
                have PB := Lib.hid (PB.out.below hb PB.out.lt)
                clear hb hp3
                clear hcon d1 d2 d3
                go_upto_region 12 with (refine wpList_store_row rfl 24 _ _ rfl gx #[.int .i64 n', .int .i64 s', .slice A3 l'.length c3] rfl rfl 24 _ HX.out.1 (by kernel_rfl) rfl (by simp [Value.oneCell']) ?_)
                have his := HX.out.is
                have HPL := Lib.hid (HPL.out.row his hgtgx hgngx #[.int .i64 n', .int .i64 s', .slice A3 l'.length c3])
                have HY := Lib.hid (HY.out.row his hxygx #[.int .i64 n', .int .i64 s', .slice A3 l'.length c3])
                have PB := Lib.hid (PB.out.setRow_other (g' := gx) hgdgx #[.int .i64 n', .int .i64 s', .slice A3 l'.length c3])
                have HX := Lib.hid (HX.out.put (n' := n') (s' := s') (c' := c3) HP3.out)
                clear his HP3
                generalize (w4.setRow gx #[.int .i64 n', .int .i64 s', .slice A3 l'.length c3]) = w5 at *
                have d1 := PB.out.cell 1
                have d2 := PB.out.cell 2
                have d3 := PB.out.cell 3
                simp only [List.getElem?_toArray, List.getElem?_cons_zero, List.getElem?_cons_succ] at d1 d2 d3
                go_wp2_with (refine wpList_whole rfl 24 _ rfl (w.heap.size + 1) rfl HPL.out.2.1.1 _ Try.underlying24 rfl (by kernel_rfl) ?_)
                have hcon := refturn_any n s A2 c2 l p.t p.d p.s _ _ (Nat.le_refl _) (by omega) HPL.out.2.1.2
                rw [HR.out] at hcon
                unfold SendAs at hcon
                dsimp only at hcon
                refine (hcon).mono ?_
                rintro e w6 ⟨A4, c4, rfl, hp3, hb⟩
                have HP4 := Lib.hid hp3
                have HPL := Lib.hid (HPL.out.below hb)
                have HX := Lib.hid (HX.out.below hb)
                have HY := Lib.hid (HY.out.below hb)
                have PB := Lib.hid (PB.out.below hb PB.out.lt)
                clear hb hp3
                clear hcon d1 d2 d3
                go_wp2_with (first | (refine wpList_store_row rfl 24 _ _ rfl gy #[.int .i64 n', .int .i64 s', .slice A4 l'.length c4] rfl rfl 24 _ HY.out.1 (by kernel_rfl) rfl (by simp [Value.oneCell']) ?_) | go_meet)
                have his := HY.out.is
                have HPL := Lib.hid (HPL.out.row his hgtgy hgngy #[.int .i64 n', .int .i64 s', .slice A4 l'.length c4])
                have HX := Lib.hid (HX.out.row his hxygy #[.int .i64 n', .int .i64 s', .slice A4 l'.length c4])
                have PB := Lib.hid (PB.out.setRow_other (g' := gy) hgdgy #[.int .i64 n', .int .i64 s', .slice A4 l'.length c4])
                have HY := Lib.hid (HY.out.put (n' := n') (s' := s') (c' := c4) HP4.out)
                exact ⟨n', s', l', A3, c3, A4, c4, [], none, 0, none, 0, er, rfl, rfl, rfl, rfl, HX.out, HY.out, ParcsAt.nil _ _ _, ParcsAt.nil _ _ _, hlen, by simp, HPL.out⟩
        case rest =>
          obtain ⟨n', s', l', A3, c3, A4, c4, rs, A5, c5, A6, c6, er, rfl, rfl, rfl, rfl, hx, hy, hp5, hp6, hl', hrs, hpl⟩ := hcut
          have HPL := Lib.hid hpl
          have HX := Lib.hid hx
          have HY := Lib.hid hy
          have HP5 := Lib.hid hp5
          have HP6 := Lib.hid hp6
          clear hpl hx hy hp5 hp6
          have hee : (er != er) = false := by simp
          go_upto_region 22 with fail
          refine wp_region_list ?_
          refine wpList_wanted (by rfl) (fun K hK => ?_)
          go_simp
          try simp only [hee]
          refine hK _ _ ?_
          clear hK K
          try simp only [Act.put, List.setIfInBounds_toArray, List.set_cons_zero, List.set_cons_succ]
          refine wpList_wanted (by rfl) (fun K hK => ?_)
          go_simp
          try simp only [hee]
          refine hK _ _ ?_
          clear hK K
          try simp only [Act.put, List.setIfInBounds_toArray, List.set_cons_zero, List.set_cons_succ]
          refine wpList_wanted (by rfl) (fun K hK => ?_)
          go_simp
          try simp only [hee]
          refine hK _ _ ?_
          clear hK K
          try simp only [Act.put, List.setIfInBounds_toArray, List.set_cons_zero, List.set_cons_succ]
          refine wpList_wanted (by rfl) (fun K hK => ?_)
          go_simp
          try simp only [hee]
          refine hK _ _ ?_
          clear hK K
          try simp only [Act.put, List.setIfInBounds_toArray, List.set_cons_zero, List.set_cons_succ]
          refine wpList_whole (by rfl) 24 _ rfl gx rfl HX.out.1 _ Try.underlying24 rfl (by kernel_rfl) ?_
          try simp only [Act.put, List.setIfInBounds_toArray, List.set_cons_zero, List.set_cons_succ]
          refine wpList_whole (by rfl) 24 _ rfl gy rfl HY.out.1 _ Try.underlying24 rfl (by kernel_rfl) ?_
          try simp only [Act.put, List.setIfInBounds_toArray, List.set_cons_zero, List.set_cons_succ]
          refine wpList_wanted (by rfl) (fun K hK => ?_)
          go_simp
          go_at_call 14
          refine (sameBus_any n' s' A3 A4 c3 c4 l' wc.heap.size wc (Nat.le_refl _) (by omega) HX.out.2 HY.out.2).mono ?_
          rintro e w9 ⟨rfl, hb⟩
          have HPL := Lib.hid (HPL.out.below hb)
          have HX := Lib.hid (HX.out.below hb)
          have HY := Lib.hid (HY.out.below hb)
          have HP5 := Lib.hid (pa_below HP5.out hb)
          have HP6 := Lib.hid (pa_below HP6.out hb)
          clear hb
          refine hK _ _ ?_
          clear hK K
          try simp only [Act.put, List.setIfInBounds_toArray, List.set_cons_zero, List.set_cons_succ]
          refine wpList_wanted (by rfl) (fun K hK => ?_)
          go_simp
          try simp only [hee]
          refine hK _ _ ?_
          clear hK K
          try simp only [Act.put, List.setIfInBounds_toArray, List.set_cons_zero, List.set_cons_succ]
          refine wpList_wanted (by rfl) (fun K hK => ?_)
          go_simp
          try simp only [hee]
          refine hK _ _ ?_
          clear hK K
          try simp only [Act.put, List.setIfInBounds_toArray, List.set_cons_zero, List.set_cons_succ]
          refine wpList_wanted (by rfl) (fun K hK => ?_)
          go_simp
          try simp only [hee]
          refine hK _ _ ?_
          clear hK K
          try simp only [Act.put, List.setIfInBounds_toArray, List.set_cons_zero, List.set_cons_succ]
          refine wpList_wanted (by rfl) (fun K hK => ?_)
          go_simp
          try simp only [hee]
          refine hK _ _ ?_
          clear hK K
          try simp only [Act.put, List.setIfInBounds_toArray, List.set_cons_zero, List.set_cons_succ]
          refine wpList_wanted (by rfl) (fun K hK => ?_)
          go_simp
          try simp only [hee]
          refine hK _ _ ?_
          clear hK K
          try simp only [Act.put, List.setIfInBounds_toArray, List.set_cons_zero, List.set_cons_succ]
          refine wpList_wanted (by rfl) (fun K hK => ?_)
          go_simp
          go_at_call 17
          refine (sameParcels_any A5 A6 c5 c6 rs w9.heap.size w9 (Nat.le_refl _) (by omega) HP5.out HP6.out).mono ?_
          rintro e w10 ⟨rfl, hb⟩
          have HPL := Lib.hid (HPL.out.below hb)
          have HX := Lib.hid (HX.out.below hb)
          have HY := Lib.hid (HY.out.below hb)
          clear hb
          refine hK _ _ ?_
          clear hK K
          try simp only [Act.put, List.setIfInBounds_toArray, List.set_cons_zero, List.set_cons_succ]
          refine wpList_wanted (by rfl) (fun K hK => ?_)
          go_simp
          try simp only [hee]
          refine hK _ _ ?_
          clear hK K
          try simp only [Act.put, List.setIfInBounds_toArray, List.set_cons_zero, List.set_cons_succ]
          refine wpList_wanted (by rfl) (fun K hK => ?_)
          go_simp
          try simp only [hee]
          refine hK _ _ ?_
          clear hK K
          try simp only [Act.put, List.setIfInBounds_toArray, List.set_cons_zero, List.set_cons_succ]
          go_upto_region 24 with fail
          by_cases her : er = 0
          · have her1 : decide (er = 0) = true := by simp [her]
            have her2 : (er == 0) = true := by simp [her]
            clear her
            go_upto_region 25 with fail
            have HPL := Lib.hid HPL.out.drew
            have HX := Lib.hid HX.out.drew
            have HY := Lib.hid HY.out.drew
            have HS := And.intro HX.out.1 HY.out.1
            refine wp_region_noPanic ?_
            refine Rg.beginR [0, 1] (fun w' => Blk w' gx 24 #[.int .i64 n', .int .i64 s', .slice A3 l'.length c3] ∧ Blk w' gy 24 #[.int .i64 n', .int .i64 s', .slice A4 l'.length c4]) (by kernel_rfl) ?_
            generalize w10.drew = V0 at *
            refine Rg.takeS (i := 0) (oi := { dst := some 138, op := Op.load 24 (Operand.tmp 9), type := 24, pos := "links.go:206", after := #[], guard := none }) (v := .agg #[.int .i64 n', .int .i64 s', .slice A3 l'.length c3]) rfl (by kernel_rfl) (fun _ _ _ h => h) (by rfl) HS ?_ ?_
            · (intro w' hSw; exact exec_load_st 24 (.tmp 9) rfl gx rfl hSw.1 Try.underlying24 rfl (by kernel_rfl))
            try simp only [Act.put, List.setIfInBounds_toArray, List.set_cons_zero, List.set_cons_succ]
            refine Rg.takeS (i := 1) (oi := { dst := some 139, op := Op.load 24 (Operand.tmp 10), type := 24, pos := "links.go:206", after := #[{ on := 2, ground := Ground.gcOnly Departure.lateStores }], guard := none }) (v := .agg #[.int .i64 n', .int .i64 s', .slice A4 l'.length c4]) rfl (by kernel_rfl) (fun _ _ _ h => h) (by rfl) HS ?_ ?_
            · (intro w' hSw; exact exec_load_st 24 (.tmp 10) rfl gy rfl hSw.2 Try.underlying24 rfl (by kernel_rfl))
            try simp only [Act.put, List.setIfInBounds_toArray, List.set_cons_zero, List.set_cons_succ]
            refine Rg.oneR (i := 2) (oi := { dst := none, op := Op.store 24 (Operand.tmp 3) (Operand.tmp 138), type := 0, pos := "links.go:206", after := #[{ on := 0, ground := Ground.data }, { on := 0, ground := Ground.phase }, { on := 1, ground := Ground.textOnly Departure.lateStores }], guard := none }) rfl (by kernel_rfl) ?_
            refine Rg.stepS ?_
            intro K hK
            rw [if_pos (by rfl)]
            refine wp_store_row 24 _ _ rfl w.heap.size #[.int .i64 n', .int .i64 s', .slice A3 l'.length c3] rfl rfl 24 _ HPL.out.1.1 (by kernel_rfl) rfl (by simp [Value.oneCell']) ?_
            have HS := And.intro (HX.out.1.setRow_other (g' := w.heap.size) (by omega) #[.int .i64 n', .int .i64 s', .slice A3 l'.length c3]) (HY.out.1.setRow_other (g' := w.heap.size) (by omega) #[.int .i64 n', .int .i64 s', .slice A3 l'.length c3])
            have HT := Lib.hid (HPL.out.2.1.1.setRow_other (g' := w.heap.size) (by omega) #[.int .i64 n', .int .i64 s', .slice A3 l'.length c3])
            refine hK.out _ _ HS ?_
            clear hK K
            try simp only [Act.put, List.setIfInBounds_toArray, List.set_cons_zero, List.set_cons_succ]
            refine Rg.oneR (i := 3) (oi := { dst := none, op := Op.store 24 (Operand.tmp 4) (Operand.tmp 139), type := 0, pos := "links.go:206", after := #[{ on := 1, ground := Ground.data }, { on := 2, ground := Ground.chain }, { on := 0, ground := Ground.phase }, { on := 1, ground := Ground.phase }, { on := 2, ground := Ground.phase }], guard := none }) rfl (by kernel_rfl) ?_
            refine Rg.stepF ?_ ?_
            · kernel_rfl
            intro K hK
            rw [if_pos (by rfl)]
            refine wp_store_row 24 _ _ rfl (w.heap.size + 1) #[.int .i64 n', .int .i64 s', .slice A4 l'.length c4] rfl rfl 24 _ HT.out (by kernel_rfl) rfl (by simp [Value.oneCell']) ?_
            refine hK.out _ _ ?_
            clear hK K
            try simp only [Act.put, List.setIfInBounds_toArray, List.set_cons_zero, List.set_cons_succ]
            refine Rg.doneR (by kernel_rfl) ?_ _
            refine NoPanic.normal ?_
            have HPL := Lib.hid (HPL.out.take HX.out HY.out hgn)
            generalize ((V0.setRow w.heap.size #[.int .i64 n', .int .i64 s', .slice A3 l'.length c3]).setRow (w.heap.size + 1) #[.int .i64 n', .int .i64 s', .slice A4 l'.length c4]) = V5 at *
            go_wp2_with fail
            exact ⟨⟨k + 1, n', s', A3, c3, A4, c4, l', by omega, by omega, by go_num, hl', HPL.out⟩, by simp [intOf]; omega⟩
          · have her1 : decide (er = 0) = false := by simp [her]
            have her2 : (er == 0) = false := by simp [her]
            clear her
            go_wp2_with fail
            exact ⟨⟨k + 1, n, s, A1, c1, A2, c2, l, by omega, by omega, by go_num, hl4, HPL.out⟩, by simp [intOf]; omega⟩
      · obtain rfl : k = 200 := by omega
        have hk1 : ((200 : Nat) : Int) < (ds.length : Int) := by omega
        obtain ⟨_, _, ⟨A8, c8, l8, h8⟩, hbz⟩ := HPL.out
        have HBZ := Lib.hid hbz
        have y1 := h8.1.cell 1
        simp only [List.getElem?_toArray, List.getElem?_cons_zero, List.getElem?_cons_succ] at y1
        clear h8 hbz
        go_wp2_with fail
        go_ret
        exact ⟨rfl, HBZ.out⟩
    · obtain rfl : k = ds.length := by omega
      obtain ⟨_, _, ⟨A8, c8, l8, h8⟩, hbz⟩ := HPL.out
      have HBZ := Lib.hid hbz
      have y1 := h8.1.cell 1
      simp only [List.getElem?_toArray, List.getElem?_cons_zero, List.getElem?_cons_succ] at y1
      clear h8 hbz
      go_wp2_with fail
      go_ret
      exact ⟨rfl, HBZ.out⟩
set_option maxRecDepth 100000 in
set_option maxHeartbeats 1000000 in
theorem lifted (os : Os) (started : os.Started) (H : Type) (enc : TypeId × Value → H) :
    ReturnsInHanded {} Try.checked os 5 .any (Rows.busPlaysSpec.pre6 enc Try.prog Try.f5 Rows.busPlaysRow.domain false) (Rows.busPlaysSpec.post enc Try.prog Try.f5 false true false false) := by
  refine returnsInHanded_of_change_sized (C := Try.checked) Fr.own started (by kernel_rfl) Try.func5
    (ChangeSpec.witness6 (enc := enc) (C := Try.checked) false ⟨#[], #[.slice none 0 0], []⟩ 8 (by kernel_rfl) (by kernel_rfl) (by kernel_rfl) (by kernel_rfl)) ?_
  intro W base args ds gs before hval0 hW _ hsz0 _
  have hval : ∀ (j : Nat) t v, Try.f5.params[j]? = some t → args[j]? = some v → Value.okWide Try.prog W .any base t v := hval0
  have hsz : (DataW.weightsEach Try.prog (Try.f5.params.toList ++ Rows.busPlaysSpec.plain.varTypes Try.prog) (ds ++ gs)).all (· ≤ reachBytes) = true := hsz0
  clear hval0 hsz0
  obtain ⟨p, q, hA0, hV0, _⟩ := id hW
  have hA : DataW.TrodAll enc Try.prog W 0 (fun _ => true) true Try.f5.params.toList args.toList ds p := hA0
  rw [Try.params5] at hA hval hsz
  obtain ⟨v0, vs0, d0, ds0, p0, q0, hargs, rfl, rfl, h0, r0⟩ := trodAll_cons hA
  obtain ⟨rfl, rfl, rfl⟩ := trodAll_nil r0
  obtain rfl : args = #[v0] := by cases args; simp_all
  obtain ⟨rfl, rfl⟩ := trodVars_none hV0
  refine Fr.of_walk (f := Try.f5) Fr.laidOut (by rw [Try.params5]; intro t ht; simp at ht; (first | (rcases ht with rfl | rfl | rfl | rfl | rfl | rfl) | (rcases ht with rfl | rfl | rfl | rfl | rfl) | (rcases ht with rfl | rfl | rfl | rfl) | (rcases ht with rfl | rfl | rfl) | (rcases ht with rfl | rfl) | (subst ht)) <;> exact ⟨by kernel_rfl, of_decide_eq_true (by kernel_rfl)⟩) rfl rfl Try.underlying4 (fun _ => rfl) hW ?_
  clear hW hA hA0 hV0
  obtain ⟨A, c, ds, rfl, hdc, hdb, hdA, hd⟩ := Bu.openDeeds (hval 0 36 v0 rfl rfl) h0 (Op.light_of_each (j := 0) hsz rfl rfl)
  exact walk A c ds W (by omega) hd
set_option maxHeartbeats 2000000 in
theorem closedFacts : joinedFacts Try.prog 5 Try.f5 Rows.busPlaysSpec Rows.busPlaysRow = true := by
  unfold joinedFacts
  simp only [Bool.and_eq_true]
  refine ⟨⟨⟨⟨⟨⟨⟨⟨⟨⟨⟨⟨⟨⟨⟨⟨⟨⟨⟨⟨⟨⟨⟨⟨⟨⟨⟨⟨⟨⟨⟨?_, ?_⟩, ?_⟩, ?_⟩, ?_⟩, ?_⟩, ?_⟩, ?_⟩, ?_⟩, ?_⟩, ?_⟩, ?_⟩, ?_⟩, ?_⟩, ?_⟩, ?_⟩, ?_⟩, ?_⟩, ?_⟩, ?_⟩, ?_⟩, ?_⟩, ?_⟩, ?_⟩, ?_⟩, ?_⟩, ?_⟩, ?_⟩, ?_⟩, ?_⟩, ?_⟩, ?_⟩
  · as_aux_lemma => kernel_rfl
  · exact Fr.laidOut
  · exact Facts.mapsRowed_
  · as_aux_lemma => kernel_rfl
  · as_aux_lemma => kernel_rfl
  · as_aux_lemma => kernel_rfl
  · exact Facts.stops_
  · as_aux_lemma => kernel_rfl
  · exact Facts.knobs_
  · as_aux_lemma => kernel_rfl
  · as_aux_lemma => kernel_rfl
  · as_aux_lemma => kernel_rfl
  · as_aux_lemma => kernel_rfl
  · as_aux_lemma => kernel_rfl
  · as_aux_lemma => kernel_rfl
  · as_aux_lemma => kernel_rfl
  · as_aux_lemma => kernel_rfl
  · as_aux_lemma => kernel_rfl
  · as_aux_lemma => kernel_rfl
  · as_aux_lemma => kernel_rfl
  · as_aux_lemma => kernel_rfl
  · as_aux_lemma => kernel_rfl
  · exact Facts.keys_
  · as_aux_lemma => kernel_rfl
  · exact Facts.heard_
  · exact Facts.enter_
  · exact Facts.lifts_
  · exact Facts.make_
  · as_aux_lemma => kernel_rfl
  · as_aux_lemma => kernel_rfl
  · as_aux_lemma => kernel_rfl
  · as_aux_lemma => kernel_rfl
theorem proved : Rows.BusPlaysSaid :=
  OpenClaim.holds_of_wide 5 Try.f5 rfl rfl rfl rfl rfl rfl rfl ⟨rfl, rfl, rfl, rfl, rfl⟩ rfl rfl rfl rfl rfl (by kernel_rfl) Try.func5 closedFacts
    (of_decide_eq_true (by kernel_rfl)) (by unfold Func.isWrapper; first | (rw [if_pos (by decide +kernel)]; kernel_rfl) | (rw [if_neg (by decide +kernel)]; exact ⟨rfl, rfl⟩))
    (fun os started H enc _ => lifted os started H enc)
end Go.Proofs.Ytlcpackmoolngaa.lawBusPlays
