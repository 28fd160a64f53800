/- The law FilterRuns returns true: filter.Run and the reference answer one state and one number for all states, tunings and lists. Conditions: none. -/
import Derived.Test.YtajhkbdaoakogaaFrame
import Derived.Test.YtajhkbdaoakogaaFacts
import Derived.Test.YtajhkbdaoakogaaOpen
import Derived.Test.YtajhkbdaoakogaaRunR
namespace Go.Proofs.Ytajhkbdaoakogaa.lawFilterRuns
open Go.ChangeShapes Go.WideShapes Go.ChangeAt Go.RowKit Go.Proofs.Ytajhkbdaoakogaa.Mem Go.Proofs.Ytajhkbdaoakogaa.BigW Go.Proofs.Ytajhkbdaoakogaa.Rws Go.Proofs.Ytajhkbdaoakogaa.Ints
set_option linter.unusedVariables false
set_option linter.unusedSimpArgs false

theorem in5 : StIn ⟨5, 0, 4294967296, 0, 4294967296, false, 0⟩ := by unfold StIn In64; simp
theorem i0 : In64 0 := by unfold In64; omega

set_option maxRecDepth 100000 in
set_option maxHeartbeats 2000000 in
theorem walk (X V P00 P01 P11 : Int) (bent : Bool) (missed dt q r gate : Int) (A : Option Addr) (c : Nat) (zs : List Int) (w : World) (hs : StIn ⟨X, V, P00, P01, P11, bent, missed⟩) (h_dt : In64 dt) (h_q : In64 q) (h_r : In64 r) (h_gate : In64 gate)
    (hz : ∀ z ∈ zs, In64 z) (hc : zs.length ≤ c) (hc8 : c * 8 ≤ 140737488351232) (hA : A = none → c = 0) (hr : Rd w w.heap.size 1 A zs.length (intsV zs)) :
    Calls Try.prog 5 #[.agg #[.int .i64 X, .int .i64 V, .int .i64 P00, .int .i64 P01, .int .i64 P11, .bool bent, .int .i64 missed], .agg #[.int .i64 dt, .int .i64 q, .int .i64 r, .int .i64 gate], .slice A zs.length c] w fun e w' => e = .returned (.bool true) ∧ Below w.heap.size w w' := by
  have HS0 := Lib.hid hs
  have HD := Lib.hid h_dt
  have HK := Lib.hid h_q
  have HL := Lib.hid h_r
  have HG := Lib.hid h_gate
  have HZ := Lib.hid hz
  have HA0 := Lib.hid hA
  have HRD := Lib.hid hr
  clear hs h_dt h_q h_r h_gate hz hA hr
  have HB := Lib.hid (show Below w.heap.size w ((w.alloc (.cells #[.int .i64 X, .int .i64 V, .int .i64 P00, .int .i64 P01, .int .i64 P11, .bool bent, .int .i64 missed] 23)).alloc (.cells #[.int .i64 dt, .int .i64 q, .int .i64 r, .int .i64 gate] 29)) from ((Below.refl _ _).alloc (Nat.le_refl _) _).alloc (by simp) _)
  have HST := Lib.hid (show Blk ((w.alloc (.cells #[.int .i64 X, .int .i64 V, .int .i64 P00, .int .i64 P01, .int .i64 P11, .bool bent, .int .i64 missed] 23)).alloc (.cells #[.int .i64 dt, .int .i64 q, .int .i64 r, .int .i64 gate] 29)) w.heap.size 23 #[.int .i64 X, .int .i64 V, .int .i64 P00, .int .i64 P01, .int .i64 P11, .bool bent, .int .i64 missed] from (Blk.fresh _ _ _).alloc _)
  have HU := Lib.hid (show Blk ((w.alloc (.cells #[.int .i64 X, .int .i64 V, .int .i64 P00, .int .i64 P01, .int .i64 P11, .bool bent, .int .i64 missed] 23)).alloc (.cells #[.int .i64 dt, .int .i64 q, .int .i64 r, .int .i64 gate] 29)) (w.heap.size + 1) 29 #[.int .i64 dt, .int .i64 q, .int .i64 r, .int .i64 gate] from Blk.new (by simp))
  have HRD := Lib.hid (HRD.out.below HB.out)
  go_enter Try.func5, Try.ntmps5
  go_upto_if 15 with fail
  generalize ((w.alloc (.cells #[.int .i64 X, .int .i64 V, .int .i64 P00, .int .i64 P01, .int .i64 P11, .bool bent, .int .i64 missed] 23)).alloc (.cells #[.int .i64 dt, .int .i64 q, .int .i64 r, .int .i64 gate] 29)) = w1 at *
  obtain ⟨gu, hgu⟩ : ∃ g, w.heap.size + 1 = g := ⟨_, rfl⟩
  rw [hgu] at HU ⊢
  go_cut [2] (fun v wx => v = .slice A (zs.take 300).length c ∧ wx = w1)
  case first =>
    by_cases h : zs.length ≤ 300
    · have h1 : (zs.length : Int) ≤ 300 := by omega
      go_wp2_with fail
      go_meet
      exact ⟨by rw [List.take_of_length_le h], rfl⟩
    · obtain ⟨b, o, u, rfl, _, _, _⟩ := HRD.out.at (show 0 < zs.length by omega)
      have h1 : (300 : Int) < (zs.length : Int) := by omega
      have h2 : 300 ≤ c := by omega
      go_wp2_with fail
      go_meet
      exact ⟨by rw [List.length_take, Nat.min_eq_left (by omega)], rfl⟩
  case rest =>
    obtain ⟨rfl, rfl⟩ := hcut
    have HRD := Lib.hid (rd_cut HRD.out 300)
    have HZ := Lib.hid (show ∀ z ∈ zs.take 300, In64 z from fun z h => HZ.out z (List.mem_of_mem_take h))
    have hy3 : (zs.take 300).length ≤ 300 := by simp; omega
    have hyc : (zs.take 300).length ≤ c := by simp; omega
    generalize zs.take 300 = ys at *
    clear hc
    obtain ⟨⟨⟨PX, PV, PA, PB, PC, pb, pm⟩, n⟩, hp⟩ : ∃ p, runs dt q r gate (⟨X, V, P00, P01, P11, bent, missed⟩, 0) ys = p := ⟨_, rfl⟩
    have HP := Lib.hid hp
    clear hp
    go_upto_region 3 with fail
    go_cut [7, 8] (fun v x wx => ∃ ga, v = .pointer (some ⟨ga, 0, none⟩) ∧ x = .int .i64 n ∧ gu < ga ∧ Blk wx ga 23 #[.int .i64 PX, .int .i64 PV, .int .i64 PA, .int .i64 PB, .int .i64 PC, .bool pb, .int .i64 pm] ∧ Blk wx w.heap.size 23 #[.int .i64 X, .int .i64 V, .int .i64 P00, .int .i64 P01, .int .i64 P11, .bool bent, .int .i64 missed] ∧ Blk wx gu 29 #[.int .i64 dt, .int .i64 q, .int .i64 r, .int .i64 gate] ∧ Rd wx w.heap.size 1 A ys.length (intsV ys) ∧ Below w.heap.size w wx)
    case first =>
      have HST := Lib.hid HST.out.drew
      have HU := Lib.hid HU.out.drew
      have HRD := Lib.hid HRD.out.drew
      have HB := Lib.hid HB.out.drew
      have HS := And.intro HST.out HU.out
      refine wp_region_noPanic ?_
      refine Rg.beginR [0, 1] (fun w' => Blk w' w.heap.size 23 #[.int .i64 X, .int .i64 V, .int .i64 P00, .int .i64 P01, .int .i64 P11, .bool bent, .int .i64 missed] ∧ Blk w' gu 29 #[.int .i64 dt, .int .i64 q, .int .i64 r, .int .i64 gate]) (by kernel_rfl) ?_
      generalize wc.drew = w1 at *
      refine Rg.takeS (i := 0) (oi := { dst := some 19, op := Op.load 23 (Operand.tmp 3), type := 23, pos := "numbers.go:199", after := #[], guard := none }) (v := .agg #[.int .i64 X, .int .i64 V, .int .i64 P00, .int .i64 P01, .int .i64 P11, .bool bent, .int .i64 missed]) rfl (by kernel_rfl) (fun _ _ _ h => h) (by rfl) HS ?_ ?_
      · (intro w' hSw; exact exec_load_st 23 (.tmp 3) rfl w.heap.size rfl hSw.1 Try.underlying23 rfl (by kernel_rfl))
      try simp only [Act.put, List.setIfInBounds_toArray, List.set_cons_zero, List.set_cons_succ]
      refine Rg.takeS (i := 1) (oi := { dst := some 20, op := Op.load 29 (Operand.tmp 4), type := 29, pos := "numbers.go:199", after := #[], guard := none }) (v := .agg #[.int .i64 dt, .int .i64 q, .int .i64 r, .int .i64 gate]) rfl (by kernel_rfl) (fun _ _ _ h => h) (by rfl) HS ?_ ?_
      · (intro w' hSw; exact exec_load_st 29 (.tmp 4) rfl gu rfl hSw.2 Try.underlying29 rfl (by kernel_rfl))
      try simp only [Act.put, List.setIfInBounds_toArray, List.set_cons_zero, List.set_cons_succ]
      refine Rg.takeP (i := 2) (oi := { dst := some 21, op := Op.move (Operand.tmp 2), type := 32, pos := "numbers.go:199", after := #[], guard := none }) (v := ?_) rfl (by kernel_rfl) (fun _ _ _ h => h) (by rfl) ?_ ?_
      rotate_left 1
      · (intro w; go_simp; (try with_reducible rfl))
      try simp only [Act.put, List.setIfInBounds_toArray, List.set_cons_zero, List.set_cons_succ]
      refine Rg.twoR (i := 3) (j := 8) (oi := { dst := some 22, op := Op.call { callee := Callee.builtin Builtin.append, args := #[Operand.const (Value.slice none 0 0), Operand.tmp 21], argTypes := #[32, 32] }, type := 32, pos := "numbers.go:199", after := #[{ on := 2, ground := Ground.data }], guard := none }) (oj := { dst := some 7, op := Op.alloc 23, type := 0, pos := "numbers.go:199", after := #[], guard := none }) (by kernel_rfl) rfl rfl ?_ ?_
      ·
        refine Rg.stepS ?_
        intro K hK
        rw [if_pos (by rfl)]
        refine wp_append_rd _ (.const (.slice none 0 0)) (.tmp 21) 32 rfl (base := w.heap.size) elemInts rfl (World.ownsRow_nil _ _ _ _) rfl (fun h => ⟨by have := HA0.out h; omega, HA0.out h⟩) HRD.out (intsV_one ys) (by unfold maxLen; omega) (by omega) HB.out.size ?_
        intro A2 c2 w2 hA2 hown2 hg2
        rw [Nat.zero_add, List.nil_append] at hown2
        simp only [Nat.zero_add]
        have HR2 := Lib.hid (Rd.of_own hown2)
        have HST := Lib.hid (HST.out.grown hg2 (by intro e; cases e))
        have HU := Lib.hid (HU.out.grown hg2 (by intro e; cases e))
        have HRD := Lib.hid (HRD.out.grown hg2 HB.out.size (by intro g e; cases e))
        have HB := Lib.hid (below_grown HB.out (Nat.le_refl _) hg2 (by intro g e; cases e))
        clear hA2 hown2 hg2 HS
        have HS := And.intro HST.out HU.out
        refine hK.out _ _ HS ?_
        clear hK K
        try simp only [Act.put, List.setIfInBounds_toArray, List.set_cons_zero, List.set_cons_succ]
        refine Rg.twoR (i := 4) (j := 8) (oi := { dst := some 23, op := Op.call { callee := Callee.value (Operand.func 20), args := #[Operand.tmp 19, Operand.tmp 20, Operand.tmp 22], argTypes := #[23, 29, 32] }, type := 33, pos := "numbers.go:199", after := #[{ on := 0, ground := Ground.data }, { on := 1, ground := Ground.data }, { on := 3, ground := Ground.data }, { on := 3, ground := Ground.chain }], guard := none }) (oj := { dst := some 7, op := Op.alloc 23, type := 0, pos := "numbers.go:199", after := #[], guard := none }) (by kernel_rfl) rfl rfl ?_ ?_
        ·
          refine Rg.stepF ?_ ?_
          · kernel_rfl
          intro K hK
          rw [if_pos (by rfl)]
          go_simp
          go_at_call 20
          refine (run_any ⟨X, V, P00, P01, P11, bent, missed⟩ dt q r gate A2 c2 ys _ HS0.out HD.out HK.out HL.out HG.out HZ.out (by omega) HR2.out).mono ?_
          rintro e w3 ⟨rfl, hb⟩
          rw [HP.out]
          simp only [stV, stC]
          have HST := Lib.hid (HST.out.below hb HST.out.lt)
          have HU := Lib.hid (HU.out.below hb HU.out.lt)
          have HRD := Lib.hid (HRD.out.below (hb.mono HB.out.size))
          have HB := Lib.hid (onward HB.out (Nat.le_refl _) hb)
          clear hb HS
          have HS := And.intro HST.out HU.out
          go_wp2_with fail
          refine hK.out _ _ ?_
          clear hK K
          try simp only [Act.put, List.setIfInBounds_toArray, List.set_cons_zero, List.set_cons_succ]
          refine Rg.takeP (i := 5) (oi := { dst := some 18, op := Op.move (Operand.tmp 23), type := 33, pos := "numbers.go:199", after := #[{ on := 4, ground := Ground.data }], guard := none }) (v := ?_) rfl (by kernel_rfl) (fun _ _ _ h => h) (by rfl) ?_ ?_
          rotate_left 1
          · (intro w; go_simp; (try with_reducible rfl))
          try simp only [Act.put, List.setIfInBounds_toArray, List.set_cons_zero, List.set_cons_succ]
          refine Rg.takeP (i := 6) (oi := { dst := some 24, op := Op.extract (Operand.tmp 18) 0, type := 23, pos := "numbers.go:199", after := #[{ on := 5, ground := Ground.data }], guard := none }) (v := ?_) rfl (by kernel_rfl) (fun _ _ _ h => h) (by rfl) ?_ ?_
          rotate_left 1
          · (intro w; go_simp; (try with_reducible rfl))
          try simp only [Act.put, List.setIfInBounds_toArray, List.set_cons_zero, List.set_cons_succ]
          refine Rg.takeP (i := 7) (oi := { dst := some 25, op := Op.extract (Operand.tmp 18) 1, type := 3, pos := "numbers.go:199", after := #[{ on := 5, ground := Ground.data }, { on := 9, ground := Ground.gcOnly Departure.lateStores }], guard := none }) (v := ?_) rfl (by kernel_rfl) (fun _ _ _ h => h) (by rfl) ?_ ?_
          rotate_left 1
          · (intro w; go_simp; (try with_reducible rfl))
          try simp only [Act.put, List.setIfInBounds_toArray, List.set_cons_zero, List.set_cons_succ]
          refine Rg.oneR (i := 8) (oi := { dst := some 7, op := Op.alloc 23, type := 0, pos := "numbers.go:199", after := #[], guard := none }) rfl (by kernel_rfl) ?_
          refine Rg.stepS ?_
          intro K hK
          go_simp
          have HA := Lib.hid (show Blk (w3.alloc (.cells #[.int .i64 0, .int .i64 0, .int .i64 0, .int .i64 0, .int .i64 0, .bool false, .int .i64 0] 23)) w3.heap.size 23 #[.int .i64 0, .int .i64 0, .int .i64 0, .int .i64 0, .int .i64 0, .bool false, .int .i64 0] from Blk.fresh _ _ _)
          have lHST := HST.out.lt
          have lHU := HU.out.lt
          have HST := Lib.hid (HST.out.alloc (.cells #[.int .i64 0, .int .i64 0, .int .i64 0, .int .i64 0, .int .i64 0, .bool false, .int .i64 0] 23))
          have HU := Lib.hid (HU.out.alloc (.cells #[.int .i64 0, .int .i64 0, .int .i64 0, .int .i64 0, .int .i64 0, .bool false, .int .i64 0] 23))
          have HRD := Lib.hid (HRD.out.alloc HB.out.size (.cells #[.int .i64 0, .int .i64 0, .int .i64 0, .int .i64 0, .int .i64 0, .bool false, .int .i64 0] 23))
          have HB := Lib.hid (HB.out.alloc HB.out.size (.cells #[.int .i64 0, .int .i64 0, .int .i64 0, .int .i64 0, .int .i64 0, .bool false, .int .i64 0] 23))
          obtain ⟨ga, hga⟩ : ∃ g, w3.heap.size = g := ⟨_, rfl⟩
          rw [hga] at HA lHST lHU ⊢
          generalize (w3.alloc (.cells #[.int .i64 0, .int .i64 0, .int .i64 0, .int .i64 0, .int .i64 0, .bool false, .int .i64 0] 23)) = w3 at *
          clear HS
          have HS := And.intro HST.out HU.out
          refine hK.out _ _ HS ?_
          clear hK K
          try simp only [Act.put, List.setIfInBounds_toArray, List.set_cons_zero, List.set_cons_succ]
          refine Rg.oneR (i := 9) (oi := { dst := none, op := Op.store 23 (Operand.tmp 7) (Operand.tmp 24), type := 0, pos := "numbers.go:199", after := #[{ on := 8, ground := Ground.data }, { on := 6, ground := Ground.data }, { on := 4, ground := Ground.chain }, { on := 0, ground := Ground.phase }, { on := 1, ground := Ground.phase }, { on := 2, ground := Ground.phase }, { on := 3, ground := Ground.phase }, { on := 4, ground := Ground.phase }, { on := 5, ground := Ground.phase }, { on := 6, ground := Ground.phase }, { on := 7, ground := Ground.textOnly Departure.lateStores }, { on := 8, ground := Ground.phase }], guard := none }) rfl (by kernel_rfl) ?_
          refine Rg.stepF ?_ ?_
          · kernel_rfl
          intro K hK
          rw [if_pos (by rfl)]
          refine wp_store_row 23 _ _ rfl ga #[.int .i64 PX, .int .i64 PV, .int .i64 PA, .int .i64 PB, .int .i64 PC, .bool pb, .int .i64 pm] rfl rfl 23 _ HA.out (by kernel_rfl) rfl (by simp [Value.oneCell']) ?_
          have HA := Lib.hid (HA.out.setRow #[.int .i64 PX, .int .i64 PV, .int .i64 PA, .int .i64 PB, .int .i64 PC, .bool pb, .int .i64 pm])
          have HST := Lib.hid (HST.out.setRow_other (g' := ga) (by omega) #[.int .i64 PX, .int .i64 PV, .int .i64 PA, .int .i64 PB, .int .i64 PC, .bool pb, .int .i64 pm])
          have HU := Lib.hid (HU.out.setRow_other (g' := ga) (by omega) #[.int .i64 PX, .int .i64 PV, .int .i64 PA, .int .i64 PB, .int .i64 PC, .bool pb, .int .i64 pm])
          have HRD := Lib.hid (HRD.out.below (below_setRow (Below.refl _ _) (show w.heap.size ≤ ga by omega) #[.int .i64 PX, .int .i64 PV, .int .i64 PA, .int .i64 PB, .int .i64 PC, .bool pb, .int .i64 pm]))
          have HB := Lib.hid (below_setRow HB.out (show w.heap.size ≤ ga by omega) #[.int .i64 PX, .int .i64 PV, .int .i64 PA, .int .i64 PB, .int .i64 PC, .bool pb, .int .i64 pm])
          generalize (w3.setRow ga #[.int .i64 PX, .int .i64 PV, .int .i64 PA, .int .i64 PB, .int .i64 PC, .bool pb, .int .i64 pm]) = w3 at *
          refine hK.out _ _ ?_
          clear hK K
          try simp only [Act.put, List.setIfInBounds_toArray, List.set_cons_zero, List.set_cons_succ]
          refine Rg.takeP (i := 10) (oi := { dst := some 8, op := Op.assign (Operand.tmp 25), type := 3, pos := "numbers.go:199", after := #[{ on := 7, ground := Ground.data }, { on := 9, ground := Ground.chain }, { on := 0, ground := Ground.phase }, { on := 1, ground := Ground.phase }, { on := 2, ground := Ground.phase }, { on := 3, ground := Ground.phase }, { on := 4, ground := Ground.phase }, { on := 5, ground := Ground.phase }, { on := 6, ground := Ground.phase }, { on := 7, ground := Ground.phase }, { on := 8, ground := Ground.phase }, { on := 9, ground := Ground.phase }], guard := none }) (v := ?_) rfl (by kernel_rfl) (fun _ _ _ h => h) (by rfl) ?_ ?_
          rotate_left 1
          · (intro w; go_simp; (try with_reducible rfl))
          try simp only [Act.put, List.setIfInBounds_toArray, List.set_cons_zero, List.set_cons_succ]
          refine Rg.doneR (by kernel_rfl) ?_ _
          refine NoPanic.normal ?_
          clear HS
          go_wp2_with fail
          go_meet
          exact ⟨_, rfl, rfl, by omega, HA.out, HST.out, HU.out, HRD.out, HB.out⟩
        ·
          refine Rg.stepS ?_
          intro K hK
          go_simp
          have HA := Lib.hid (show Blk (w2.alloc (.cells #[.int .i64 0, .int .i64 0, .int .i64 0, .int .i64 0, .int .i64 0, .bool false, .int .i64 0] 23)) w2.heap.size 23 #[.int .i64 0, .int .i64 0, .int .i64 0, .int .i64 0, .int .i64 0, .bool false, .int .i64 0] from Blk.fresh _ _ _)
          have lHST := HST.out.lt
          have lHU := HU.out.lt
          have HST := Lib.hid (HST.out.alloc (.cells #[.int .i64 0, .int .i64 0, .int .i64 0, .int .i64 0, .int .i64 0, .bool false, .int .i64 0] 23))
          have HU := Lib.hid (HU.out.alloc (.cells #[.int .i64 0, .int .i64 0, .int .i64 0, .int .i64 0, .int .i64 0, .bool false, .int .i64 0] 23))
          have HR2 := Lib.hid ((HR2.out.alloc (Nat.le_refl _) (.cells #[.int .i64 0, .int .i64 0, .int .i64 0, .int .i64 0, .int .i64 0, .bool false, .int .i64 0] 23)).more (show w2.heap.size ≤ (w2.alloc (.cells #[.int .i64 0, .int .i64 0, .int .i64 0, .int .i64 0, .int .i64 0, .bool false, .int .i64 0] 23)).heap.size by simp))
          have HRD := Lib.hid (HRD.out.alloc HB.out.size (.cells #[.int .i64 0, .int .i64 0, .int .i64 0, .int .i64 0, .int .i64 0, .bool false, .int .i64 0] 23))
          have HB := Lib.hid (HB.out.alloc HB.out.size (.cells #[.int .i64 0, .int .i64 0, .int .i64 0, .int .i64 0, .int .i64 0, .bool false, .int .i64 0] 23))
          obtain ⟨ga, hga⟩ : ∃ g, w2.heap.size = g := ⟨_, rfl⟩
          rw [hga] at HA lHST lHU ⊢
          generalize (w2.alloc (.cells #[.int .i64 0, .int .i64 0, .int .i64 0, .int .i64 0, .int .i64 0, .bool false, .int .i64 0] 23)) = w2 at *
          clear HS
          have HS := And.intro HST.out HU.out
          refine hK.out _ _ HS ?_
          clear hK K
          try simp only [Act.put, List.setIfInBounds_toArray, List.set_cons_zero, List.set_cons_succ]
          refine Rg.oneR (i := 4) (oi := { dst := some 23, op := Op.call { callee := Callee.value (Operand.func 20), args := #[Operand.tmp 19, Operand.tmp 20, Operand.tmp 22], argTypes := #[23, 29, 32] }, type := 33, pos := "numbers.go:199", after := #[{ on := 0, ground := Ground.data }, { on := 1, ground := Ground.data }, { on := 3, ground := Ground.data }, { on := 3, ground := Ground.chain }], guard := none }) rfl (by kernel_rfl) ?_
          refine Rg.stepF ?_ ?_
          · kernel_rfl
          intro K hK
          rw [if_pos (by rfl)]
          go_simp
          go_at_call 20
          refine (run_any ⟨X, V, P00, P01, P11, bent, missed⟩ dt q r gate A2 c2 ys _ HS0.out HD.out HK.out HL.out HG.out HZ.out (by omega) HR2.out).mono ?_
          rintro e w3 ⟨rfl, hb⟩
          rw [HP.out]
          simp only [stV, stC]
          have HST := Lib.hid (HST.out.below hb HST.out.lt)
          have HU := Lib.hid (HU.out.below hb HU.out.lt)
          have HA := Lib.hid (HA.out.below hb HA.out.lt)
          have HRD := Lib.hid (HRD.out.below (hb.mono HB.out.size))
          have HB := Lib.hid (onward HB.out (Nat.le_refl _) hb)
          clear hb HS
          have HS := And.intro HST.out HU.out
          go_wp2_with fail
          refine hK.out _ _ ?_
          clear hK K
          try simp only [Act.put, List.setIfInBounds_toArray, List.set_cons_zero, List.set_cons_succ]
          refine Rg.takeP (i := 5) (oi := { dst := some 18, op := Op.move (Operand.tmp 23), type := 33, pos := "numbers.go:199", after := #[{ on := 4, ground := Ground.data }], guard := none }) (v := ?_) rfl (by kernel_rfl) (fun _ _ _ h => h) (by rfl) ?_ ?_
          rotate_left 1
          · (intro w; go_simp; (try with_reducible rfl))
          try simp only [Act.put, List.setIfInBounds_toArray, List.set_cons_zero, List.set_cons_succ]
          refine Rg.takeP (i := 6) (oi := { dst := some 24, op := Op.extract (Operand.tmp 18) 0, type := 23, pos := "numbers.go:199", after := #[{ on := 5, ground := Ground.data }], guard := none }) (v := ?_) rfl (by kernel_rfl) (fun _ _ _ h => h) (by rfl) ?_ ?_
          rotate_left 1
          · (intro w; go_simp; (try with_reducible rfl))
          try simp only [Act.put, List.setIfInBounds_toArray, List.set_cons_zero, List.set_cons_succ]
          refine Rg.takeP (i := 7) (oi := { dst := some 25, op := Op.extract (Operand.tmp 18) 1, type := 3, pos := "numbers.go:199", after := #[{ on := 5, ground := Ground.data }, { on := 9, ground := Ground.gcOnly Departure.lateStores }], guard := none }) (v := ?_) rfl (by kernel_rfl) (fun _ _ _ h => h) (by rfl) ?_ ?_
          rotate_left 1
          · (intro w; go_simp; (try with_reducible rfl))
          try simp only [Act.put, List.setIfInBounds_toArray, List.set_cons_zero, List.set_cons_succ]
          refine Rg.oneR (i := 9) (oi := { dst := none, op := Op.store 23 (Operand.tmp 7) (Operand.tmp 24), type := 0, pos := "numbers.go:199", after := #[{ on := 8, ground := Ground.data }, { on := 6, ground := Ground.data }, { on := 4, ground := Ground.chain }, { on := 0, ground := Ground.phase }, { on := 1, ground := Ground.phase }, { on := 2, ground := Ground.phase }, { on := 3, ground := Ground.phase }, { on := 4, ground := Ground.phase }, { on := 5, ground := Ground.phase }, { on := 6, ground := Ground.phase }, { on := 7, ground := Ground.textOnly Departure.lateStores }, { on := 8, ground := Ground.phase }], guard := none }) rfl (by kernel_rfl) ?_
          refine Rg.stepF ?_ ?_
          · kernel_rfl
          intro K hK
          rw [if_pos (by rfl)]
          refine wp_store_row 23 _ _ rfl ga #[.int .i64 PX, .int .i64 PV, .int .i64 PA, .int .i64 PB, .int .i64 PC, .bool pb, .int .i64 pm] rfl rfl 23 _ HA.out (by kernel_rfl) rfl (by simp [Value.oneCell']) ?_
          have HA := Lib.hid (HA.out.setRow #[.int .i64 PX, .int .i64 PV, .int .i64 PA, .int .i64 PB, .int .i64 PC, .bool pb, .int .i64 pm])
          have HST := Lib.hid (HST.out.setRow_other (g' := ga) (by omega) #[.int .i64 PX, .int .i64 PV, .int .i64 PA, .int .i64 PB, .int .i64 PC, .bool pb, .int .i64 pm])
          have HU := Lib.hid (HU.out.setRow_other (g' := ga) (by omega) #[.int .i64 PX, .int .i64 PV, .int .i64 PA, .int .i64 PB, .int .i64 PC, .bool pb, .int .i64 pm])
          have HRD := Lib.hid (HRD.out.below (below_setRow (Below.refl _ _) (show w.heap.size ≤ ga by omega) #[.int .i64 PX, .int .i64 PV, .int .i64 PA, .int .i64 PB, .int .i64 PC, .bool pb, .int .i64 pm]))
          have HB := Lib.hid (below_setRow HB.out (show w.heap.size ≤ ga by omega) #[.int .i64 PX, .int .i64 PV, .int .i64 PA, .int .i64 PB, .int .i64 PC, .bool pb, .int .i64 pm])
          generalize (w3.setRow ga #[.int .i64 PX, .int .i64 PV, .int .i64 PA, .int .i64 PB, .int .i64 PC, .bool pb, .int .i64 pm]) = w3 at *
          refine hK.out _ _ ?_
          clear hK K
          try simp only [Act.put, List.setIfInBounds_toArray, List.set_cons_zero, List.set_cons_succ]
          refine Rg.takeP (i := 10) (oi := { dst := some 8, op := Op.assign (Operand.tmp 25), type := 3, pos := "numbers.go:199", after := #[{ on := 7, ground := Ground.data }, { on := 9, ground := Ground.chain }, { on := 0, ground := Ground.phase }, { on := 1, ground := Ground.phase }, { on := 2, ground := Ground.phase }, { on := 3, ground := Ground.phase }, { on := 4, ground := Ground.phase }, { on := 5, ground := Ground.phase }, { on := 6, ground := Ground.phase }, { on := 7, ground := Ground.phase }, { on := 8, ground := Ground.phase }, { on := 9, ground := Ground.phase }], guard := none }) (v := ?_) rfl (by kernel_rfl) (fun _ _ _ h => h) (by rfl) ?_ ?_
          rotate_left 1
          · (intro w; go_simp; (try with_reducible rfl))
          try simp only [Act.put, List.setIfInBounds_toArray, List.set_cons_zero, List.set_cons_succ]
          refine Rg.doneR (by kernel_rfl) ?_ _
          refine NoPanic.normal ?_
          clear HS
          go_wp2_with fail
          go_meet
          exact ⟨_, rfl, rfl, by omega, HA.out, HST.out, HU.out, HRD.out, HB.out⟩
      ·
        refine Rg.stepS ?_
        intro K hK
        go_simp
        have HA := Lib.hid (show Blk (w1.alloc (.cells #[.int .i64 0, .int .i64 0, .int .i64 0, .int .i64 0, .int .i64 0, .bool false, .int .i64 0] 23)) w1.heap.size 23 #[.int .i64 0, .int .i64 0, .int .i64 0, .int .i64 0, .int .i64 0, .bool false, .int .i64 0] from Blk.fresh _ _ _)
        have lHST := HST.out.lt
        have lHU := HU.out.lt
        have HST := Lib.hid (HST.out.alloc (.cells #[.int .i64 0, .int .i64 0, .int .i64 0, .int .i64 0, .int .i64 0, .bool false, .int .i64 0] 23))
        have HU := Lib.hid (HU.out.alloc (.cells #[.int .i64 0, .int .i64 0, .int .i64 0, .int .i64 0, .int .i64 0, .bool false, .int .i64 0] 23))
        have HRD := Lib.hid (HRD.out.alloc HB.out.size (.cells #[.int .i64 0, .int .i64 0, .int .i64 0, .int .i64 0, .int .i64 0, .bool false, .int .i64 0] 23))
        have HB := Lib.hid (HB.out.alloc HB.out.size (.cells #[.int .i64 0, .int .i64 0, .int .i64 0, .int .i64 0, .int .i64 0, .bool false, .int .i64 0] 23))
        obtain ⟨ga, hga⟩ : ∃ g, w1.heap.size = g := ⟨_, rfl⟩
        rw [hga] at HA lHST lHU ⊢
        generalize (w1.alloc (.cells #[.int .i64 0, .int .i64 0, .int .i64 0, .int .i64 0, .int .i64 0, .bool false, .int .i64 0] 23)) = w1 at *
        clear HS
        have HS := And.intro HST.out HU.out
        refine hK.out _ _ HS ?_
        clear hK K
        try simp only [Act.put, List.setIfInBounds_toArray, List.set_cons_zero, List.set_cons_succ]
        refine Rg.oneR (i := 3) (oi := { dst := some 22, op := Op.call { callee := Callee.builtin Builtin.append, args := #[Operand.const (Value.slice none 0 0), Operand.tmp 21], argTypes := #[32, 32] }, type := 32, pos := "numbers.go:199", after := #[{ on := 2, ground := Ground.data }], guard := none }) rfl (by kernel_rfl) ?_
        refine Rg.stepS ?_
        intro K hK
        rw [if_pos (by rfl)]
        refine wp_append_rd _ (.const (.slice none 0 0)) (.tmp 21) 32 rfl (base := w.heap.size) elemInts rfl (World.ownsRow_nil _ _ _ _) rfl (fun h => ⟨by have := HA0.out h; omega, HA0.out h⟩) HRD.out (intsV_one ys) (by unfold maxLen; omega) (by omega) HB.out.size ?_
        intro A2 c2 w2 hA2 hown2 hg2
        rw [Nat.zero_add, List.nil_append] at hown2
        simp only [Nat.zero_add]
        have HR2 := Lib.hid (Rd.of_own hown2)
        have HST := Lib.hid (HST.out.grown hg2 (by intro e; cases e))
        have HU := Lib.hid (HU.out.grown hg2 (by intro e; cases e))
        have HA := Lib.hid (HA.out.grown hg2 (by intro e; cases e))
        have HRD := Lib.hid (HRD.out.grown hg2 HB.out.size (by intro g e; cases e))
        have HB := Lib.hid (below_grown HB.out (Nat.le_refl _) hg2 (by intro g e; cases e))
        clear hA2 hown2 hg2 HS
        have HS := And.intro HST.out HU.out
        refine hK.out _ _ HS ?_
        clear hK K
        try simp only [Act.put, List.setIfInBounds_toArray, List.set_cons_zero, List.set_cons_succ]
        refine Rg.oneR (i := 4) (oi := { dst := some 23, op := Op.call { callee := Callee.value (Operand.func 20), args := #[Operand.tmp 19, Operand.tmp 20, Operand.tmp 22], argTypes := #[23, 29, 32] }, type := 33, pos := "numbers.go:199", after := #[{ on := 0, ground := Ground.data }, { on := 1, ground := Ground.data }, { on := 3, ground := Ground.data }, { on := 3, ground := Ground.chain }], guard := none }) rfl (by kernel_rfl) ?_
        refine Rg.stepF ?_ ?_
        · kernel_rfl
        intro K hK
        rw [if_pos (by rfl)]
        go_simp
        go_at_call 20
        refine (run_any ⟨X, V, P00, P01, P11, bent, missed⟩ dt q r gate A2 c2 ys _ HS0.out HD.out HK.out HL.out HG.out HZ.out (by omega) HR2.out).mono ?_
        rintro e w3 ⟨rfl, hb⟩
        rw [HP.out]
        simp only [stV, stC]
        have HST := Lib.hid (HST.out.below hb HST.out.lt)
        have HU := Lib.hid (HU.out.below hb HU.out.lt)
        have HA := Lib.hid (HA.out.below hb HA.out.lt)
        have HRD := Lib.hid (HRD.out.below (hb.mono HB.out.size))
        have HB := Lib.hid (onward HB.out (Nat.le_refl _) hb)
        clear hb HS
        have HS := And.intro HST.out HU.out
        go_wp2_with fail
        refine hK.out _ _ ?_
        clear hK K
        try simp only [Act.put, List.setIfInBounds_toArray, List.set_cons_zero, List.set_cons_succ]
        refine Rg.takeP (i := 5) (oi := { dst := some 18, op := Op.move (Operand.tmp 23), type := 33, pos := "numbers.go:199", after := #[{ on := 4, ground := Ground.data }], guard := none }) (v := ?_) rfl (by kernel_rfl) (fun _ _ _ h => h) (by rfl) ?_ ?_
        rotate_left 1
        · (intro w; go_simp; (try with_reducible rfl))
        try simp only [Act.put, List.setIfInBounds_toArray, List.set_cons_zero, List.set_cons_succ]
        refine Rg.takeP (i := 6) (oi := { dst := some 24, op := Op.extract (Operand.tmp 18) 0, type := 23, pos := "numbers.go:199", after := #[{ on := 5, ground := Ground.data }], guard := none }) (v := ?_) rfl (by kernel_rfl) (fun _ _ _ h => h) (by rfl) ?_ ?_
        rotate_left 1
        · (intro w; go_simp; (try with_reducible rfl))
        try simp only [Act.put, List.setIfInBounds_toArray, List.set_cons_zero, List.set_cons_succ]
        refine Rg.takeP (i := 7) (oi := { dst := some 25, op := Op.extract (Operand.tmp 18) 1, type := 3, pos := "numbers.go:199", after := #[{ on := 5, ground := Ground.data }, { on := 9, ground := Ground.gcOnly Departure.lateStores }], guard := none }) (v := ?_) rfl (by kernel_rfl) (fun _ _ _ h => h) (by rfl) ?_ ?_
        rotate_left 1
        · (intro w; go_simp; (try with_reducible rfl))
        try simp only [Act.put, List.setIfInBounds_toArray, List.set_cons_zero, List.set_cons_succ]
        refine Rg.oneR (i := 9) (oi := { dst := none, op := Op.store 23 (Operand.tmp 7) (Operand.tmp 24), type := 0, pos := "numbers.go:199", after := #[{ on := 8, ground := Ground.data }, { on := 6, ground := Ground.data }, { on := 4, ground := Ground.chain }, { on := 0, ground := Ground.phase }, { on := 1, ground := Ground.phase }, { on := 2, ground := Ground.phase }, { on := 3, ground := Ground.phase }, { on := 4, ground := Ground.phase }, { on := 5, ground := Ground.phase }, { on := 6, ground := Ground.phase }, { on := 7, ground := Ground.textOnly Departure.lateStores }, { on := 8, ground := Ground.phase }], guard := none }) rfl (by kernel_rfl) ?_
        refine Rg.stepF ?_ ?_
        · kernel_rfl
        intro K hK
        rw [if_pos (by rfl)]
        refine wp_store_row 23 _ _ rfl ga #[.int .i64 PX, .int .i64 PV, .int .i64 PA, .int .i64 PB, .int .i64 PC, .bool pb, .int .i64 pm] rfl rfl 23 _ HA.out (by kernel_rfl) rfl (by simp [Value.oneCell']) ?_
        have HA := Lib.hid (HA.out.setRow #[.int .i64 PX, .int .i64 PV, .int .i64 PA, .int .i64 PB, .int .i64 PC, .bool pb, .int .i64 pm])
        have HST := Lib.hid (HST.out.setRow_other (g' := ga) (by omega) #[.int .i64 PX, .int .i64 PV, .int .i64 PA, .int .i64 PB, .int .i64 PC, .bool pb, .int .i64 pm])
        have HU := Lib.hid (HU.out.setRow_other (g' := ga) (by omega) #[.int .i64 PX, .int .i64 PV, .int .i64 PA, .int .i64 PB, .int .i64 PC, .bool pb, .int .i64 pm])
        have HRD := Lib.hid (HRD.out.below (below_setRow (Below.refl _ _) (show w.heap.size ≤ ga by omega) #[.int .i64 PX, .int .i64 PV, .int .i64 PA, .int .i64 PB, .int .i64 PC, .bool pb, .int .i64 pm]))
        have HB := Lib.hid (below_setRow HB.out (show w.heap.size ≤ ga by omega) #[.int .i64 PX, .int .i64 PV, .int .i64 PA, .int .i64 PB, .int .i64 PC, .bool pb, .int .i64 pm])
        generalize (w3.setRow ga #[.int .i64 PX, .int .i64 PV, .int .i64 PA, .int .i64 PB, .int .i64 PC, .bool pb, .int .i64 pm]) = w3 at *
        refine hK.out _ _ ?_
        clear hK K
        try simp only [Act.put, List.setIfInBounds_toArray, List.set_cons_zero, List.set_cons_succ]
        refine Rg.takeP (i := 10) (oi := { dst := some 8, op := Op.assign (Operand.tmp 25), type := 3, pos := "numbers.go:199", after := #[{ on := 7, ground := Ground.data }, { on := 9, ground := Ground.chain }, { on := 0, ground := Ground.phase }, { on := 1, ground := Ground.phase }, { on := 2, ground := Ground.phase }, { on := 3, ground := Ground.phase }, { on := 4, ground := Ground.phase }, { on := 5, ground := Ground.phase }, { on := 6, ground := Ground.phase }, { on := 7, ground := Ground.phase }, { on := 8, ground := Ground.phase }, { on := 9, ground := Ground.phase }], guard := none }) (v := ?_) rfl (by kernel_rfl) (fun _ _ _ h => h) (by rfl) ?_ ?_
        rotate_left 1
        · (intro w; go_simp; (try with_reducible rfl))
        try simp only [Act.put, List.setIfInBounds_toArray, List.set_cons_zero, List.set_cons_succ]
        refine Rg.doneR (by kernel_rfl) ?_ _
        refine NoPanic.normal ?_
        clear HS
        go_wp2_with fail
        go_meet
        exact ⟨_, rfl, rfl, by omega, HA.out, HST.out, HU.out, HRD.out, HB.out⟩
    case rest =>
      obtain ⟨ga, rfl, rfl, hga, HA, HS, HU, hrd, hb⟩ := hcut
      have HRD := Lib.hid hrd
      have HB := Lib.hid hb
      have hsz := hb.size
      clear hrd hb
      go_wp2_with (first | (refine wpList_whole rfl 23 _ rfl w.heap.size rfl HS _ Try.underlying23 rfl (by kernel_rfl) ?_) | (refine wpList_whole rfl 29 _ rfl gu rfl HU _ Try.underlying29 rfl (by kernel_rfl) ?_) | (refine wpList_whole rfl 23 _ rfl ga rfl HA _ Try.underlying23 rfl (by kernel_rfl) ?_))
      refine (refrun_any dt q r gate HD.out HK.out HL.out HG.out ys.length ⟨X, V, P00, P01, P11, bent, missed⟩ A c ys _ rfl HS0.out HZ.out (by omega) hyc (HRD.out.more hsz)).mono ?_
      rintro e w1 ⟨rfl, hb⟩
      rw [HP.out]
      simp only [stV, stC]
      replace HS := HS.below hb HS.lt
      replace HU := HU.below hb HU.lt
      replace HA := HA.below hb HA.lt
      have HB := Lib.hid (onward HB.out (Nat.le_refl _) hb)
      clear hb
      go_upto_region 5 with fail
      replace HS := HS.alloc (.cells #[.int .i64 PX, .int .i64 PV, .int .i64 PA, .int .i64 PB, .int .i64 PC, .bool pb, .int .i64 pm] 23)
      replace HU := HU.alloc (.cells #[.int .i64 PX, .int .i64 PV, .int .i64 PA, .int .i64 PB, .int .i64 PC, .bool pb, .int .i64 pm] 23)
      replace HA := HA.alloc (.cells #[.int .i64 PX, .int .i64 PV, .int .i64 PA, .int .i64 PB, .int .i64 PC, .bool pb, .int .i64 pm] 23)
      have HQ : Blk (w1.alloc (.cells #[.int .i64 PX, .int .i64 PV, .int .i64 PA, .int .i64 PB, .int .i64 PC, .bool pb, .int .i64 pm] 23)) w1.heap.size 23 #[.int .i64 PX, .int .i64 PV, .int .i64 PA, .int .i64 PB, .int .i64 PC, .bool pb, .int .i64 pm] := Blk.fresh _ _ _
      have HB := Lib.hid (HB.out.alloc HB.out.size (.cells #[.int .i64 PX, .int .i64 PV, .int .i64 PA, .int .i64 PB, .int .i64 PC, .bool pb, .int .i64 pm] 23))
      obtain ⟨gq, hgq⟩ : ∃ g, w1.heap.size = g := ⟨_, rfl⟩
      rw [hgq] at HQ ⊢
      generalize (w1.alloc (.cells #[.int .i64 PX, .int .i64 PV, .int .i64 PA, .int .i64 PB, .int .i64 PC, .bool pb, .int .i64 pm] 23)) = w1 at *
      go_wp2_with fail
      refine (begin_any 5 _).mono ?_
      rintro e w1 ⟨rfl, hb⟩
      simp only [stV, stC]
      replace HS := HS.below hb HS.lt
      replace HU := HU.below hb HU.lt
      replace HA := HA.below hb HA.lt
      replace HQ := HQ.below hb HQ.lt
      have HB := Lib.hid (onward HB.out (Nat.le_refl _) hb)
      clear hb
      go_wp2_with fail
      refine (run_any ⟨5, 0, 4294967296, 0, 4294967296, false, 0⟩ 0 0 0 0 none 0 [] _ in5 i0 i0 i0 i0 (by intro z h; cases h) (by simp) (Rd.nil _ _ _ _)).mono ?_
      rintro e w1 ⟨rfl, hb⟩
      rw [show runs 0 0 0 0 (⟨5, 0, 4294967296, 0, 4294967296, false, 0⟩, 0) [] = (⟨5, 0, 4294967296, 0, 4294967296, false, 0⟩, 0) from rfl]
      simp only [stV, stC]
      replace HS := HS.below hb HS.lt
      replace HU := HU.below hb HU.lt
      replace HA := HA.below hb HA.lt
      replace HQ := HQ.below hb HQ.lt
      have HB := Lib.hid (onward HB.out (Nat.le_refl _) hb)
      clear hb
      go_upto_region 6 with fail
      replace HS := HS.alloc (.cells #[.int .i64 5, .int .i64 0, .int .i64 4294967296, .int .i64 0, .int .i64 4294967296, .bool false, .int .i64 0] 23)
      replace HU := HU.alloc (.cells #[.int .i64 5, .int .i64 0, .int .i64 4294967296, .int .i64 0, .int .i64 4294967296, .bool false, .int .i64 0] 23)
      replace HA := HA.alloc (.cells #[.int .i64 5, .int .i64 0, .int .i64 4294967296, .int .i64 0, .int .i64 4294967296, .bool false, .int .i64 0] 23)
      replace HQ := HQ.alloc (.cells #[.int .i64 5, .int .i64 0, .int .i64 4294967296, .int .i64 0, .int .i64 4294967296, .bool false, .int .i64 0] 23)
      have HZZ : Blk (w1.alloc (.cells #[.int .i64 5, .int .i64 0, .int .i64 4294967296, .int .i64 0, .int .i64 4294967296, .bool false, .int .i64 0] 23)) w1.heap.size 23 #[.int .i64 5, .int .i64 0, .int .i64 4294967296, .int .i64 0, .int .i64 4294967296, .bool false, .int .i64 0] := Blk.fresh _ _ _
      have HB := Lib.hid (HB.out.alloc HB.out.size (.cells #[.int .i64 5, .int .i64 0, .int .i64 4294967296, .int .i64 0, .int .i64 4294967296, .bool false, .int .i64 0] 23))
      obtain ⟨gz, hgz⟩ : ∃ g, w1.heap.size = g := ⟨_, rfl⟩
      rw [hgz] at HZZ ⊢
      generalize (w1.alloc (.cells #[.int .i64 5, .int .i64 0, .int .i64 4294967296, .int .i64 0, .int .i64 4294967296, .bool false, .int .i64 0] 23)) = w1 at *
      have k5 : w1.cell? ⟨gz, 0, none⟩ = some (.int .i64 5) := (Blk.cell HZZ 0).trans rfl
      go_wp2_with (first | (refine wpList_whole rfl 23 _ rfl w.heap.size rfl HS _ Try.underlying23 rfl (by kernel_rfl) ?_) | (refine wpList_whole rfl 29 _ rfl gu rfl HU _ Try.underlying29 rfl (by kernel_rfl) ?_) | (refine wpList_whole rfl 23 _ rfl ga rfl HA _ Try.underlying23 rfl (by kernel_rfl) ?_) | (refine wpList_whole rfl 23 _ rfl gq rfl HQ _ Try.underlying23 rfl (by kernel_rfl) ?_))
      go_ret
      exact ⟨rfl, HB.out⟩
set_option maxRecDepth 100000 in
set_option maxHeartbeats 1000000 in
theorem lifted (os : Os) (started : os.Started) (H : Type) (enc : TypeId × Value → H) :
    ReturnsInHanded {} Try.checked os 5 .any (Rows.filterRunsSpec.pre6 enc Try.prog Try.f5 Rows.filterRunsRow.domain false) (Rows.filterRunsSpec.post enc Try.prog Try.f5 false true false false) := by
  refine returnsInHanded_of_change_sized (C := Try.checked) Fr.own started (by kernel_rfl) Try.func5
    (ChangeSpec.witness6 (enc := enc) (C := Try.checked) false ⟨#[], #[.agg #[.int .i64 0, .int .i64 0, .int .i64 0, .int .i64 0, .int .i64 0, .bool false, .int .i64 0], .agg #[.int .i64 0, .int .i64 0, .int .i64 0, .int .i64 0], .slice none 0 0], []⟩ 8 (by kernel_rfl) (by kernel_rfl) (by kernel_rfl) (by kernel_rfl)) ?_
  intro W base args ds gs before hval0 hW _ hsz0 _
  have hval : ∀ (j : Nat) t v, Try.f5.params[j]? = some t → args[j]? = some v → Value.okWide Try.prog W .any base t v := hval0
  have hsz : (DataW.weightsEach Try.prog (Try.f5.params.toList ++ Rows.filterRunsSpec.plain.varTypes Try.prog) (ds ++ gs)).all (· ≤ reachBytes) = true := hsz0
  clear hval0 hsz0
  obtain ⟨p, q, hA0, hV0, _⟩ := id hW
  have hA : DataW.TrodAll enc Try.prog W 0 (fun _ => true) true Try.f5.params.toList args.toList ds p := hA0
  rw [Try.params5] at hA hval hsz
  obtain ⟨v0, vs0, d0, ds0, p0, q0, hargs, rfl, rfl, h0, r0⟩ := trodAll_cons hA
  obtain ⟨v1, vs1, d1, ds1, p1, q1, rfl, rfl, rfl, h1, r1⟩ := trodAll_cons r0
  obtain ⟨v2, vs2, d2, ds2, p2, q2, rfl, rfl, rfl, h2, r2⟩ := trodAll_cons r1
  obtain ⟨rfl, rfl, rfl⟩ := trodAll_nil r2
  obtain rfl : args = #[v0, v1, v2] := by cases args; simp_all
  obtain ⟨rfl, rfl⟩ := trodVars_none hV0
  refine Fr.of_walk (f := Try.f5) Fr.laidOut (by rw [Try.params5]; intro t ht; simp at ht; (first | (rcases ht with rfl | rfl | rfl | rfl | rfl | rfl) | (rcases ht with rfl | rfl | rfl | rfl | rfl) | (rcases ht with rfl | rfl | rfl | rfl) | (rcases ht with rfl | rfl | rfl) | (rcases ht with rfl | rfl) | (subst ht)) <;> exact ⟨by kernel_rfl, of_decide_eq_true (by kernel_rfl)⟩) rfl rfl Try.underlying4 (fun _ => rfl) hW ?_
  clear hW hA hA0 hV0
  obtain ⟨cs0, rfl⟩ := Op.okWide_agg (t := 23) (by kernel_rfl) (hval 0 23 v0 rfl rfl)
  have k0 := Op.flat_arg (ls := [3,3,3,3,3,4,3]) (by kernel_rfl) h0 (Op.light_of_each (j := 0) hsz rfl rfl)
  obtain ⟨y0_0, l0, e0, f0_0, k0⟩ := k0.cons
  obtain ⟨y0_1, l0, rfl, f0_1, k0⟩ := k0.cons
  obtain ⟨y0_2, l0, rfl, f0_2, k0⟩ := k0.cons
  obtain ⟨y0_3, l0, rfl, f0_3, k0⟩ := k0.cons
  obtain ⟨y0_4, l0, rfl, f0_4, k0⟩ := k0.cons
  obtain ⟨y0_5, l0, rfl, f0_5, k0⟩ := k0.cons
  obtain ⟨y0_6, l0, rfl, f0_6, k0⟩ := k0.cons
  obtain rfl := k0.nil_
  obtain rfl := Op.arr_of e0
  obtain ⟨X, rfl, wf_X⟩ := f0_0.int Try.underlying3
  obtain ⟨V, rfl, wf_V⟩ := f0_1.int Try.underlying3
  obtain ⟨P00, rfl, wf_P00⟩ := f0_2.int Try.underlying3
  obtain ⟨P01, rfl, wf_P01⟩ := f0_3.int Try.underlying3
  obtain ⟨P11, rfl, wf_P11⟩ := f0_4.int Try.underlying3
  obtain ⟨bent, rfl⟩ := f0_5.bool Try.underlying4
  obtain ⟨missed, rfl, wf_missed⟩ := f0_6.int Try.underlying3
  obtain ⟨cs1, rfl⟩ := Op.okWide_agg (t := 29) (by kernel_rfl) (hval 1 29 v1 rfl rfl)
  have k1 := Op.flat_arg (ls := [3,3,3,3]) (by kernel_rfl) h1 (Op.light_of_each (j := 1) hsz rfl rfl)
  obtain ⟨y1_0, l1, e1, f1_0, k1⟩ := k1.cons
  obtain ⟨y1_1, l1, rfl, f1_1, k1⟩ := k1.cons
  obtain ⟨y1_2, l1, rfl, f1_2, k1⟩ := k1.cons
  obtain ⟨y1_3, l1, rfl, f1_3, k1⟩ := k1.cons
  obtain rfl := k1.nil_
  obtain rfl := Op.arr_of e1
  obtain ⟨dt, rfl, wf_dt⟩ := f1_0.int Try.underlying3
  obtain ⟨q, rfl, wf_q⟩ := f1_1.int Try.underlying3
  obtain ⟨r, rfl, wf_r⟩ := f1_2.int Try.underlying3
  obtain ⟨gate, rfl, wf_gate⟩ := f1_3.int Try.underlying3
  obtain ⟨A2, c2, zs, rfl, nc2, cb2, g2, r2, o2⟩ := Ints.openInts (hval 2 32 v2 rfl rfl) h2 (Op.light_of_each (j := 2) hsz rfl rfl)
  exact walk X V P00 P01 P11 bent missed dt q r gate A2 c2 zs W ⟨Op.wf_i64 wf_X, Op.wf_i64 wf_V, Op.wf_i64 wf_P00, Op.wf_i64 wf_P01, Op.wf_i64 wf_P11⟩ (Op.wf_i64 wf_dt) (Op.wf_i64 wf_q) (Op.wf_i64 wf_r) (Op.wf_i64 wf_gate) (fun z h => Op.wf_i64 (o2 z h)) nc2 cb2 g2 r2

theorem closedFacts : joinedFacts Try.prog 5 Try.f5 Rows.filterRunsSpec Rows.filterRunsRow = true := by
  unfold joinedFacts
  simp only [Bool.and_eq_true]
  refine ⟨⟨⟨⟨⟨⟨⟨⟨⟨⟨⟨⟨⟨⟨⟨⟨⟨⟨⟨⟨⟨⟨⟨⟨⟨⟨⟨⟨⟨⟨⟨?_, ?_⟩, ?_⟩, ?_⟩, ?_⟩, ?_⟩, ?_⟩, ?_⟩, ?_⟩, ?_⟩, ?_⟩, ?_⟩, ?_⟩, ?_⟩, ?_⟩, ?_⟩, ?_⟩, ?_⟩, ?_⟩, ?_⟩, ?_⟩, ?_⟩, ?_⟩, ?_⟩, ?_⟩, ?_⟩, ?_⟩, ?_⟩, ?_⟩, ?_⟩, ?_⟩, ?_⟩
  · as_aux_lemma => kernel_rfl
  · exact Fr.laidOut
  · exact Facts.mapsRowed_
  · as_aux_lemma => kernel_rfl
  · as_aux_lemma => kernel_rfl
  · as_aux_lemma => kernel_rfl
  · exact Facts.stops_
  · as_aux_lemma => kernel_rfl
  · exact Facts.knobs_
  · as_aux_lemma => kernel_rfl
  · as_aux_lemma => kernel_rfl
  · as_aux_lemma => kernel_rfl
  · as_aux_lemma => kernel_rfl
  · as_aux_lemma => kernel_rfl
  · as_aux_lemma => kernel_rfl
  · as_aux_lemma => kernel_rfl
  · as_aux_lemma => kernel_rfl
  · as_aux_lemma => kernel_rfl
  · as_aux_lemma => kernel_rfl
  · as_aux_lemma => kernel_rfl
  · as_aux_lemma => kernel_rfl
  · as_aux_lemma => kernel_rfl
  · exact Facts.keys_
  · as_aux_lemma => kernel_rfl
  · exact Facts.heard_
  · exact Facts.enter_
  · exact Facts.lifts_
  · exact Facts.make_
  · as_aux_lemma => kernel_rfl
  · as_aux_lemma => kernel_rfl
  · as_aux_lemma => kernel_rfl
  · as_aux_lemma => kernel_rfl

theorem proved : Rows.FilterRunsSaid :=
  OpenClaim.holds_of_wide 5 Try.f5 rfl rfl rfl rfl rfl rfl rfl ⟨rfl, rfl, rfl, rfl, rfl⟩ rfl rfl rfl rfl rfl (by kernel_rfl) Try.func5 closedFacts
    (of_decide_eq_true (by kernel_rfl)) (by unfold Func.isWrapper; first | (rw [if_pos (by decide +kernel)]; kernel_rfl) | (rw [if_neg (by decide +kernel)]; exact ⟨rfl, rfl⟩))
    (fun os started H enc _ => lifted os started H enc)

end Go.Proofs.Ytajhkbdaoakogaa.lawFilterRuns
