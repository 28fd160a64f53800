/- The law MatMuls returns true: mat.Mul and the reference answer one matrix, one Bool and one error for all matrices. Conditions: none. -/
import Derived.Test.YtajhkbdaoakogaaFrame
import Derived.Test.YtajhkbdaoakogaaFacts
import Derived.Test.YtajhkbdaoakogaaOpen
import Derived.Test.YtajhkbdaoakogaaMulR
namespace Go.Proofs.Ytajhkbdaoakogaa.lawMatMuls
open Go.ChangeShapes Go.WideShapes Go.ChangeAt Go.RowKit Go.Proofs.Ytajhkbdaoakogaa.Mem Go.Proofs.Ytajhkbdaoakogaa.BigW Go.Proofs.Ytajhkbdaoakogaa.Rws Go.Proofs.Ytajhkbdaoakogaa.Ints Go.Proofs.Ytajhkbdaoakogaa.Mats
set_option linter.unusedVariables false
set_option linter.unusedSimpArgs false

theorem closed : (mulR 1 1 [7] [4294967296]).1.1 = 1 := by decide +kernel
theorem in_one (z : Int) (h : In64 z) : ∀ k, In64 (([z] : List Int).getD k 0) := fun k => by
  rcases k with _ | k
  · exact h
  · show In64 0; unfold In64; omega
theorem in_all {zs : List Int} (h : ∀ z ∈ zs, (Lit.int .i64 z).wf = true) : ∀ k, In64 (zs.getD k 0) := fun k => by
  rcases Nat.lt_or_ge k zs.length with hk | hk
  · rw [getD_of hk]; exact Op.wf_i64 (h _ (List.getElem_mem hk))
  · rw [List.getD_eq_getElem?_getD, List.getElem?_eq_none hk]; show In64 0; unfold In64; omega
theorem rd_setRow {w : World} {B n : Nat} {A : Option Addr} {xs : List Value} {g : Nat} (h : Rd w B 1 A n xs) (hB : B ≤ w.heap.size) (hne : 0 < n → ∀ b o, A = some ⟨b, o, none⟩ → b ≠ g) (R : Array Value) : Rd (w.setRow g R) B 1 A n xs :=
  ⟨h.1, fun h0 => by
    obtain ⟨b, o, e, hb, hc⟩ := h.2 h0
    exact ⟨b, o, e, hb, fun j u hu => (grown_at (show w.grownBy (w.setRow g R) (some g) from ⟨rfl, rfl, rfl, by simp [World.setRow], fun k hk hn => setRow_other w g k R (fun e => hn (by rw [e]))⟩) (by omega) (hne h0 b o e) _).trans (hc j u hu)⟩⟩
theorem mulR_len (Na Nb : Int) (zs vs : List Int) : (mulR Na Nb zs vs).1.2.1.length ≤ 36 := by
  unfold mulR
  split
  · rename_i h
    obtain ⟨k, rfl, h1, h2, _⟩ := good_nat h.1
    show (mulF k zs vs (k * k)).1.length ≤ 36
    rw [mulF_length]
    exact sq_36 h2
  · simp

set_option maxRecDepth 100000 in
set_option maxHeartbeats 2000000 in
theorem walk (Na : Int) (A : Option Addr) (c : Nat) (zs : List Int) (Nb : Int) (A' : Option Addr) (c' : Nat) (vs : List Int) (w : World) (hA : A = none → c = 0) (hnc : zs.length ≤ c) (hc8 : c * 8 ≤ 140737488351232) (hr : Rd w w.heap.size 1 A zs.length (intsV zs))
    (hA' : A' = none → c' = 0) (hnc' : vs.length ≤ c') (hc8' : c' * 8 ≤ 140737488351232) (hr' : Rd w w.heap.size 1 A' vs.length (intsV vs)) (hz : ∀ k, In64 (zs.getD k 0)) (hzv : ∀ k, In64 (vs.getD k 0)) :
    Calls Try.prog 12 #[.agg #[.int .i64 Na, .slice A zs.length c], .agg #[.int .i64 Nb, .slice A' vs.length c']] w fun e w' => e = .returned (.bool true) ∧ Below w.heap.size w w' := by
  have HC := Lib.hid closed
  have HA := Lib.hid hA
  have HA' := Lib.hid hA'
  have HR := Lib.hid hr
  have HR' := Lib.hid hr'
  have HZ := Lib.hid hz
  have HZV := Lib.hid hzv
  have HL6 := Lib.hid (mulR_len Na Nb zs vs)
  obtain ⟨⟨⟨N, l, b⟩, x⟩, ht⟩ : ∃ r, mulR Na Nb zs vs = r := ⟨_, rfl⟩
  have HT := Lib.hid ht
  rw [ht] at HL6
  simp only at HL6
  clear hA hA' hr hr' hz hzv ht
  have HM := Lib.hid (show Blk ((w.alloc (.cells #[.int .i64 Na, .slice A zs.length c] 49)).alloc (.cells #[.int .i64 Nb, .slice A' vs.length c'] 49)) w.heap.size 49 #[.int .i64 Na, .slice A zs.length c] from (Blk.new rfl).alloc _)
  have HM2 := Lib.hid (show Blk ((w.alloc (.cells #[.int .i64 Na, .slice A zs.length c] 49)).alloc (.cells #[.int .i64 Nb, .slice A' vs.length c'] 49)) (w.heap.size + 1) 49 #[.int .i64 Nb, .slice A' vs.length c'] from Blk.new (by simp))
  have HB := Lib.hid (show Below w.heap.size w ((w.alloc (.cells #[.int .i64 Na, .slice A zs.length c] 49)).alloc (.cells #[.int .i64 Nb, .slice A' vs.length c'] 49)) from ((Below.refl _ _).alloc (Nat.le_refl _) _).alloc (by simp) _)
  go_enter Try.func12, Try.ntmps12
  go_upto_region 1 with fail
  generalize ((w.alloc (.cells #[.int .i64 Na, .slice A zs.length c] 49)).alloc (.cells #[.int .i64 Nb, .slice A' vs.length c'] 49)) = w1 at *
  obtain ⟨gb, hgb⟩ : ∃ g, w.heap.size + 1 = g := ⟨_, rfl⟩
  rw [hgb] at HM2 ⊢
  go_cut [5, 6, 7] (fun v y z wx => ∃ ga A3 c3, v = .pointer (some ⟨ga, 0, none⟩) ∧ y = .bool b ∧ z = .int .i64 x ∧ gb < ga ∧ Blk wx ga 49 #[.int .i64 N, .slice A3 l.length c3] ∧ Rd wx wx.heap.size 1 A3 l.length (intsV l) ∧ Blk wx w.heap.size 49 #[.int .i64 Na, .slice A zs.length c] ∧ Blk wx gb 49 #[.int .i64 Nb, .slice A' vs.length c'] ∧ Below w.heap.size w wx)
  case first =>
    have HM := Lib.hid HM.out.drew
    have HM2 := Lib.hid HM2.out.drew
    have HB := Lib.hid HB.out.drew
    have HS := And.intro HM.out HM2.out
    refine wp_region_noPanic ?_
    refine Rg.beginR [0, 2] (fun w' => Blk w' w.heap.size 49 #[.int .i64 Na, .slice A zs.length c] ∧ Blk w' gb 49 #[.int .i64 Nb, .slice A' vs.length c']) (by kernel_rfl) ?_
    generalize w1.drew = w1 at *
    refine Rg.takeS (i := 0) (oi := { dst := some 15, op := Op.load 49 (Operand.tmp 2), type := 49, pos := "numbers.go:140", after := #[], guard := none }) (v := .agg #[.int .i64 Na, .slice A zs.length c]) rfl (by kernel_rfl) (fun _ _ _ h => h) (by rfl) HS ?_ ?_
    · (intro w' hSw; exact exec_load_st 49 (.tmp 2) rfl w.heap.size rfl hSw.1 Try.underlying49 rfl (by kernel_rfl))
    try simp only [Act.put, List.setIfInBounds_toArray, List.set_cons_zero, List.set_cons_succ]
    refine Rg.takeS (i := 2) (oi := { dst := some 17, op := Op.load 49 (Operand.tmp 3), type := 49, pos := "numbers.go:140", after := #[], guard := none }) (v := .agg #[.int .i64 Nb, .slice A' vs.length c']) rfl (by kernel_rfl) (fun _ _ _ h => h) (by rfl) HS ?_ ?_
    · (intro w' hSw; exact exec_load_st 49 (.tmp 3) rfl gb rfl hSw.2 Try.underlying49 rfl (by kernel_rfl))
    try simp only [Act.put, List.setIfInBounds_toArray, List.set_cons_zero, List.set_cons_succ]
    refine Rg.twoR (i := 1) (j := 9) (oi := { dst := some 16, op := Op.call { callee := Callee.value (Operand.func 35), args := #[Operand.tmp 15], argTypes := #[49] }, type := 49, pos := "numbers.go:140", after := #[{ on := 0, ground := Ground.data }], guard := none }) (oj := { dst := some 5, op := Op.alloc 49, type := 0, pos := "numbers.go:140", after := #[], guard := none }) (by kernel_rfl) rfl rfl ?_ ?_
    ·
      refine Rg.stepS ?_
      intro K hK
      rw [if_pos (by rfl)]
      go_simp
      go_at_call 35
      refine (own_any Na A zs.length c (intsV zs) w.heap.size w1 HB.out.size HA.out hnc hc8 (intsV_one zs) (HR.out.below HB.out)).mono ?_
      rintro e w1 ⟨A1, c1, rfl, hown, hb⟩
      have HO1 := Lib.hid (Rd.of_own hown)
      have HM := Lib.hid (HM.out.below hb HM.out.lt)
      have HM2 := Lib.hid (HM2.out.below hb HM2.out.lt)
      have HB := Lib.hid (onward HB.out (Nat.le_refl _) hb)
      clear hown hb HS
      have HS := And.intro HM.out HM2.out
      unfold matV
      go_wp2_with fail
      refine hK.out _ _ HS ?_
      clear hK K
      try simp only [Act.put, List.setIfInBounds_toArray, List.set_cons_zero, List.set_cons_succ]
      refine Rg.twoR (i := 3) (j := 9) (oi := { dst := some 18, op := Op.call { callee := Callee.value (Operand.func 35), args := #[Operand.tmp 17], argTypes := #[49] }, type := 49, pos := "numbers.go:140", after := #[{ on := 2, ground := Ground.data }, { on := 1, ground := Ground.chain }], guard := none }) (oj := { dst := some 5, op := Op.alloc 49, type := 0, pos := "numbers.go:140", after := #[], guard := none }) (by kernel_rfl) rfl rfl ?_ ?_
      ·
        refine Rg.stepF ?_ ?_
        · kernel_rfl
        intro K hK
        rw [if_pos (by rfl)]
        go_simp
        go_at_call 35
        refine (own_any Nb A' vs.length c' (intsV vs) w.heap.size w1 HB.out.size HA'.out hnc' hc8' (intsV_one vs) (HR'.out.below HB.out)).mono ?_
        rintro e w1 ⟨A2, c2, rfl, hown, hb⟩
        have HO2 := Lib.hid (Rd.of_own hown)
        have HM := Lib.hid (HM.out.below hb HM.out.lt)
        have HM2 := Lib.hid (HM2.out.below hb HM2.out.lt)
        have HO1 := Lib.hid ((HO1.out.below hb).more hb.size)
        have HB := Lib.hid (onward HB.out (Nat.le_refl _) hb)
        clear hown hb HS
        have HS := And.intro HM.out HM2.out
        unfold matV
        go_wp2_with fail
        refine hK.out _ _ ?_
        clear hK K
        try simp only [Act.put, List.setIfInBounds_toArray, List.set_cons_zero, List.set_cons_succ]
        refine Rg.twoR (i := 4) (j := 9) (oi := { dst := some 19, op := Op.call { callee := Callee.value (Operand.func 39), args := #[Operand.tmp 16, Operand.tmp 18], argTypes := #[49, 49] }, type := 57, pos := "numbers.go:140", after := #[{ on := 1, ground := Ground.data }, { on := 3, ground := Ground.data }, { on := 3, ground := Ground.chain }], guard := none }) (oj := { dst := some 5, op := Op.alloc 49, type := 0, pos := "numbers.go:140", after := #[], guard := none }) (by kernel_rfl) rfl rfl ?_ ?_
        ·
          refine Rg.stepF ?_ ?_
          · kernel_rfl
          intro K hK
          rw [if_pos (by rfl)]
          go_simp
          go_at_call 39
          refine (mul_all Na Nb A1 A2 c1 c2 zs vs w1 HO1.out HO2.out HZ.out HZV.out).mono ?_
          rw [HT.out]
          rintro e w1 ⟨A3, c3, rfl, hr3, hlo, hb⟩
          have H3 := Lib.hid hr3
          have HM := Lib.hid (HM.out.below hb HM.out.lt)
          have HM2 := Lib.hid (HM2.out.below hb HM2.out.lt)
          have HB := Lib.hid (onward HB.out (Nat.le_refl _) hb)
          clear hr3 hlo hb HS
          have HS := And.intro HM.out HM2.out
          dsimp only
          go_wp2_with fail
          refine hK.out _ _ ?_
          clear hK K
          try simp only [Act.put, List.setIfInBounds_toArray, List.set_cons_zero, List.set_cons_succ]
          refine Rg.takeP (i := 5) (oi := { dst := some 14, op := Op.move (Operand.tmp 19), type := 57, pos := "numbers.go:140", after := #[{ on := 4, ground := Ground.data }], guard := none }) (v := ?_) rfl (by kernel_rfl) (fun _ _ _ h => h) (by rfl) ?_ ?_
          rotate_left 1
          · (intro w; go_simp; (try with_reducible rfl))
          try simp only [Act.put, List.setIfInBounds_toArray, List.set_cons_zero, List.set_cons_succ]
          refine Rg.takeP (i := 6) (oi := { dst := some 20, op := Op.extract (Operand.tmp 14) 0, type := 49, pos := "numbers.go:140", after := #[{ on := 5, ground := Ground.data }], guard := none }) (v := ?_) rfl (by kernel_rfl) (fun _ _ _ h => h) (by rfl) ?_ ?_
          rotate_left 1
          · (intro w; go_simp; (try with_reducible rfl))
          try simp only [Act.put, List.setIfInBounds_toArray, List.set_cons_zero, List.set_cons_succ]
          refine Rg.takeP (i := 7) (oi := { dst := some 21, op := Op.extract (Operand.tmp 14) 1, type := 4, pos := "numbers.go:140", after := #[{ on := 5, ground := Ground.data }, { on := 10, ground := Ground.gcOnly Departure.lateStores }], guard := none }) (v := ?_) rfl (by kernel_rfl) (fun _ _ _ h => h) (by rfl) ?_ ?_
          rotate_left 1
          · (intro w; go_simp; (try with_reducible rfl))
          try simp only [Act.put, List.setIfInBounds_toArray, List.set_cons_zero, List.set_cons_succ]
          refine Rg.takeP (i := 8) (oi := { dst := some 22, op := Op.extract (Operand.tmp 14) 2, type := 50, pos := "numbers.go:140", after := #[{ on := 5, ground := Ground.data }, { on := 11, ground := Ground.gcOnly Departure.lateStores }], guard := none }) (v := ?_) rfl (by kernel_rfl) (fun _ _ _ h => h) (by rfl) ?_ ?_
          rotate_left 1
          · (intro w; go_simp; (try with_reducible rfl))
          try simp only [Act.put, List.setIfInBounds_toArray, List.set_cons_zero, List.set_cons_succ]
          refine Rg.oneR (i := 9) (oi := { dst := some 5, op := Op.alloc 49, type := 0, pos := "numbers.go:140", after := #[], guard := none }) rfl (by kernel_rfl) ?_
          refine Rg.stepS ?_
          intro K hK
          go_simp
          have HQ := Lib.hid (show Blk (w1.alloc (.cells #[.int .i64 0, .slice none 0 0] 49)) w1.heap.size 49 #[.int .i64 0, .slice none 0 0] from Blk.fresh _ _ _)
          have lgb := HM2.out.lt
          have HNE : Hid (0 < l.length → ∀ b o, A3 = some ⟨b, o, none⟩ → b ≠ w1.heap.size) := Lib.hid (fun h0 b o e => by (obtain ⟨b2, o2, e2, hb2, _⟩ := H3.out.2 h0; rw [e] at e2; injection e2 with e2; injection e2 with e2 e3; omega))
          have hb : Below w1.heap.size w1 (w1.alloc (.cells #[.int .i64 0, .slice none 0 0] 49)) := (Below.refl _ _).alloc (Nat.le_refl _) _
          have HM := Lib.hid (HM.out.alloc (.cells #[.int .i64 0, .slice none 0 0] 49))
          have HM2 := Lib.hid (HM2.out.alloc (.cells #[.int .i64 0, .slice none 0 0] 49))
          have H3 := Lib.hid ((H3.out.below hb).more hb.size)
          have HB := Lib.hid (HB.out.alloc HB.out.size (.cells #[.int .i64 0, .slice none 0 0] 49))
          clear hb
          obtain ⟨ga, hga⟩ : ∃ g, w1.heap.size = g := ⟨_, rfl⟩
          rw [hga] at HQ lgb HNE ⊢
          generalize (w1.alloc (.cells #[.int .i64 0, .slice none 0 0] 49)) = w1 at *
          clear HS
          have HS := And.intro HM.out HM2.out
          refine hK.out _ _ HS ?_
          clear hK K
          try simp only [Act.put, List.setIfInBounds_toArray, List.set_cons_zero, List.set_cons_succ]
          refine Rg.oneR (i := 10) (oi := { dst := none, op := Op.store 49 (Operand.tmp 5) (Operand.tmp 20), type := 0, pos := "numbers.go:140", after := #[{ on := 9, ground := Ground.data }, { on := 6, ground := Ground.data }, { on := 4, ground := Ground.chain }, { on := 0, ground := Ground.phase }, { on := 1, ground := Ground.phase }, { on := 2, ground := Ground.phase }, { on := 3, ground := Ground.phase }, { on := 4, ground := Ground.phase }, { on := 5, ground := Ground.phase }, { on := 6, ground := Ground.phase }, { on := 7, ground := Ground.textOnly Departure.lateStores }, { on := 8, ground := Ground.textOnly Departure.lateStores }, { on := 9, ground := Ground.phase }], guard := none }) rfl (by kernel_rfl) ?_
          refine Rg.stepF ?_ ?_
          · kernel_rfl
          intro K hK
          rw [if_pos (by rfl)]
          refine wp_store_row 49 _ _ rfl ga #[.int .i64 N, .slice A3 l.length c3] rfl rfl 49 _ HQ.out (by kernel_rfl) rfl (by simp [Value.oneCell']) ?_
          have HQ := Lib.hid (HQ.out.setRow #[.int .i64 N, .slice A3 l.length c3])
          have HM := Lib.hid (HM.out.setRow_other (g' := ga) (by omega) #[.int .i64 N, .slice A3 l.length c3])
          have HM2 := Lib.hid (HM2.out.setRow_other (g' := ga) (by omega) #[.int .i64 N, .slice A3 l.length c3])
          have HB := Lib.hid (below_setRow HB.out (show w.heap.size ≤ ga by omega) #[.int .i64 N, .slice A3 l.length c3])
          have H3 := Lib.hid ((rd_setRow H3.out (Nat.le_refl _) HNE.out #[.int .i64 N, .slice A3 l.length c3]).more (show w1.heap.size ≤ (w1.setRow ga #[.int .i64 N, .slice A3 l.length c3]).heap.size by simp [World.setRow]))
          generalize (w1.setRow ga #[.int .i64 N, .slice A3 l.length c3]) = w1 at *
          refine hK.out _ _ ?_
          clear hK K
          try simp only [Act.put, List.setIfInBounds_toArray, List.set_cons_zero, List.set_cons_succ]
          refine Rg.takeP (i := 11) (oi := { dst := some 6, op := Op.assign (Operand.tmp 21), type := 4, pos := "numbers.go:140", after := #[{ on := 7, ground := Ground.data }, { on := 10, ground := Ground.chain }, { on := 0, ground := Ground.phase }, { on := 1, ground := Ground.phase }, { on := 2, ground := Ground.phase }, { on := 3, ground := Ground.phase }, { on := 4, ground := Ground.phase }, { on := 5, ground := Ground.phase }, { on := 6, ground := Ground.phase }, { on := 7, ground := Ground.phase }, { on := 8, ground := Ground.textOnly Departure.lateStores }, { on := 9, ground := Ground.phase }, { on := 10, ground := Ground.phase }], guard := none }) (v := ?_) rfl (by kernel_rfl) (fun _ _ _ h => h) (by rfl) ?_ ?_
          rotate_left 1
          · (intro w; go_simp; (try with_reducible rfl))
          try simp only [Act.put, List.setIfInBounds_toArray, List.set_cons_zero, List.set_cons_succ]
          refine Rg.takeP (i := 12) (oi := { dst := some 7, op := Op.assign (Operand.tmp 22), type := 50, pos := "numbers.go:140", after := #[{ on := 8, ground := Ground.data }, { on := 11, ground := Ground.chain }, { on := 0, ground := Ground.phase }, { on := 1, ground := Ground.phase }, { on := 2, ground := Ground.phase }, { on := 3, ground := Ground.phase }, { on := 4, ground := Ground.phase }, { on := 5, ground := Ground.phase }, { on := 6, ground := Ground.phase }, { on := 7, ground := Ground.phase }, { on := 8, ground := Ground.phase }, { on := 9, ground := Ground.phase }, { on := 10, ground := Ground.phase }, { on := 11, ground := Ground.phase }], guard := none }) (v := ?_) rfl (by kernel_rfl) (fun _ _ _ h => h) (by rfl) ?_ ?_
          rotate_left 1
          · (intro w; go_simp; (try with_reducible rfl))
          try simp only [Act.put, List.setIfInBounds_toArray, List.set_cons_zero, List.set_cons_succ]
          refine Rg.doneR (by kernel_rfl) ?_ _
          refine NoPanic.normal ?_
          clear HS
          go_wp2_with fail
          go_meet
          exact ⟨_, A3, c3, rfl, rfl, rfl, by omega, HQ.out, H3.out, HM.out, HM2.out, HB.out⟩
        ·
          refine Rg.stepS ?_
          intro K hK
          go_simp
          have HQ := Lib.hid (show Blk (w1.alloc (.cells #[.int .i64 0, .slice none 0 0] 49)) w1.heap.size 49 #[.int .i64 0, .slice none 0 0] from Blk.fresh _ _ _)
          have lgb := HM2.out.lt
          have hb : Below w1.heap.size w1 (w1.alloc (.cells #[.int .i64 0, .slice none 0 0] 49)) := (Below.refl _ _).alloc (Nat.le_refl _) _
          have HM := Lib.hid (HM.out.alloc (.cells #[.int .i64 0, .slice none 0 0] 49))
          have HM2 := Lib.hid (HM2.out.alloc (.cells #[.int .i64 0, .slice none 0 0] 49))
          have HO1 := Lib.hid ((HO1.out.below hb).more hb.size)
          have HO2 := Lib.hid ((HO2.out.below hb).more hb.size)
          have HB := Lib.hid (HB.out.alloc HB.out.size (.cells #[.int .i64 0, .slice none 0 0] 49))
          clear hb
          obtain ⟨ga, hga⟩ : ∃ g, w1.heap.size = g := ⟨_, rfl⟩
          rw [hga] at HQ lgb ⊢
          generalize (w1.alloc (.cells #[.int .i64 0, .slice none 0 0] 49)) = w1 at *
          clear HS
          have HS := And.intro HM.out HM2.out
          refine hK.out _ _ HS ?_
          clear hK K
          try simp only [Act.put, List.setIfInBounds_toArray, List.set_cons_zero, List.set_cons_succ]
          refine Rg.oneR (i := 4) (oi := { dst := some 19, op := Op.call { callee := Callee.value (Operand.func 39), args := #[Operand.tmp 16, Operand.tmp 18], argTypes := #[49, 49] }, type := 57, pos := "numbers.go:140", after := #[{ on := 1, ground := Ground.data }, { on := 3, ground := Ground.data }, { on := 3, ground := Ground.chain }], guard := none }) rfl (by kernel_rfl) ?_
          refine Rg.stepF ?_ ?_
          · kernel_rfl
          intro K hK
          rw [if_pos (by rfl)]
          go_simp
          go_at_call 39
          refine (mul_all Na Nb A1 A2 c1 c2 zs vs w1 HO1.out HO2.out HZ.out HZV.out).mono ?_
          rw [HT.out]
          rintro e w1 ⟨A3, c3, rfl, hr3, hlo, hb⟩
          have H3 := Lib.hid hr3
          have hgq := HQ.out.lt
          have HNE : Hid (0 < l.length → ∀ b o, A3 = some ⟨b, o, none⟩ → b ≠ ga) := Lib.hid (fun _ b o e => by (have h := hlo _ e; simp only at h; omega))
          clear hgq
          have HM := Lib.hid (HM.out.below hb HM.out.lt)
          have HM2 := Lib.hid (HM2.out.below hb HM2.out.lt)
          have HQ := Lib.hid (HQ.out.below hb HQ.out.lt)
          have HB := Lib.hid (onward HB.out (Nat.le_refl _) hb)
          clear hr3 hlo hb HS
          have HS := And.intro HM.out HM2.out
          dsimp only
          go_wp2_with fail
          refine hK.out _ _ ?_
          clear hK K
          try simp only [Act.put, List.setIfInBounds_toArray, List.set_cons_zero, List.set_cons_succ]
          refine Rg.takeP (i := 5) (oi := { dst := some 14, op := Op.move (Operand.tmp 19), type := 57, pos := "numbers.go:140", after := #[{ on := 4, ground := Ground.data }], guard := none }) (v := ?_) rfl (by kernel_rfl) (fun _ _ _ h => h) (by rfl) ?_ ?_
          rotate_left 1
          · (intro w; go_simp; (try with_reducible rfl))
          try simp only [Act.put, List.setIfInBounds_toArray, List.set_cons_zero, List.set_cons_succ]
          refine Rg.takeP (i := 6) (oi := { dst := some 20, op := Op.extract (Operand.tmp 14) 0, type := 49, pos := "numbers.go:140", after := #[{ on := 5, ground := Ground.data }], guard := none }) (v := ?_) rfl (by kernel_rfl) (fun _ _ _ h => h) (by rfl) ?_ ?_
          rotate_left 1
          · (intro w; go_simp; (try with_reducible rfl))
          try simp only [Act.put, List.setIfInBounds_toArray, List.set_cons_zero, List.set_cons_succ]
          refine Rg.takeP (i := 7) (oi := { dst := some 21, op := Op.extract (Operand.tmp 14) 1, type := 4, pos := "numbers.go:140", after := #[{ on := 5, ground := Ground.data }, { on := 10, ground := Ground.gcOnly Departure.lateStores }], guard := none }) (v := ?_) rfl (by kernel_rfl) (fun _ _ _ h => h) (by rfl) ?_ ?_
          rotate_left 1
          · (intro w; go_simp; (try with_reducible rfl))
          try simp only [Act.put, List.setIfInBounds_toArray, List.set_cons_zero, List.set_cons_succ]
          refine Rg.takeP (i := 8) (oi := { dst := some 22, op := Op.extract (Operand.tmp 14) 2, type := 50, pos := "numbers.go:140", after := #[{ on := 5, ground := Ground.data }, { on := 11, ground := Ground.gcOnly Departure.lateStores }], guard := none }) (v := ?_) rfl (by kernel_rfl) (fun _ _ _ h => h) (by rfl) ?_ ?_
          rotate_left 1
          · (intro w; go_simp; (try with_reducible rfl))
          try simp only [Act.put, List.setIfInBounds_toArray, List.set_cons_zero, List.set_cons_succ]
          refine Rg.oneR (i := 10) (oi := { dst := none, op := Op.store 49 (Operand.tmp 5) (Operand.tmp 20), type := 0, pos := "numbers.go:140", after := #[{ on := 9, ground := Ground.data }, { on := 6, ground := Ground.data }, { on := 4, ground := Ground.chain }, { on := 0, ground := Ground.phase }, { on := 1, ground := Ground.phase }, { on := 2, ground := Ground.phase }, { on := 3, ground := Ground.phase }, { on := 4, ground := Ground.phase }, { on := 5, ground := Ground.phase }, { on := 6, ground := Ground.phase }, { on := 7, ground := Ground.textOnly Departure.lateStores }, { on := 8, ground := Ground.textOnly Departure.lateStores }, { on := 9, ground := Ground.phase }], guard := none }) rfl (by kernel_rfl) ?_
          refine Rg.stepF ?_ ?_
          · kernel_rfl
          intro K hK
          rw [if_pos (by rfl)]
          refine wp_store_row 49 _ _ rfl ga #[.int .i64 N, .slice A3 l.length c3] rfl rfl 49 _ HQ.out (by kernel_rfl) rfl (by simp [Value.oneCell']) ?_
          have HQ := Lib.hid (HQ.out.setRow #[.int .i64 N, .slice A3 l.length c3])
          have HM := Lib.hid (HM.out.setRow_other (g' := ga) (by omega) #[.int .i64 N, .slice A3 l.length c3])
          have HM2 := Lib.hid (HM2.out.setRow_other (g' := ga) (by omega) #[.int .i64 N, .slice A3 l.length c3])
          have HB := Lib.hid (below_setRow HB.out (show w.heap.size ≤ ga by omega) #[.int .i64 N, .slice A3 l.length c3])
          have H3 := Lib.hid ((rd_setRow H3.out (Nat.le_refl _) HNE.out #[.int .i64 N, .slice A3 l.length c3]).more (show w1.heap.size ≤ (w1.setRow ga #[.int .i64 N, .slice A3 l.length c3]).heap.size by simp [World.setRow]))
          generalize (w1.setRow ga #[.int .i64 N, .slice A3 l.length c3]) = w1 at *
          refine hK.out _ _ ?_
          clear hK K
          try simp only [Act.put, List.setIfInBounds_toArray, List.set_cons_zero, List.set_cons_succ]
          refine Rg.takeP (i := 11) (oi := { dst := some 6, op := Op.assign (Operand.tmp 21), type := 4, pos := "numbers.go:140", after := #[{ on := 7, ground := Ground.data }, { on := 10, ground := Ground.chain }, { on := 0, ground := Ground.phase }, { on := 1, ground := Ground.phase }, { on := 2, ground := Ground.phase }, { on := 3, ground := Ground.phase }, { on := 4, ground := Ground.phase }, { on := 5, ground := Ground.phase }, { on := 6, ground := Ground.phase }, { on := 7, ground := Ground.phase }, { on := 8, ground := Ground.textOnly Departure.lateStores }, { on := 9, ground := Ground.phase }, { on := 10, ground := Ground.phase }], guard := none }) (v := ?_) rfl (by kernel_rfl) (fun _ _ _ h => h) (by rfl) ?_ ?_
          rotate_left 1
          · (intro w; go_simp; (try with_reducible rfl))
          try simp only [Act.put, List.setIfInBounds_toArray, List.set_cons_zero, List.set_cons_succ]
          refine Rg.takeP (i := 12) (oi := { dst := some 7, op := Op.assign (Operand.tmp 22), type := 50, pos := "numbers.go:140", after := #[{ on := 8, ground := Ground.data }, { on := 11, ground := Ground.chain }, { on := 0, ground := Ground.phase }, { on := 1, ground := Ground.phase }, { on := 2, ground := Ground.phase }, { on := 3, ground := Ground.phase }, { on := 4, ground := Ground.phase }, { on := 5, ground := Ground.phase }, { on := 6, ground := Ground.phase }, { on := 7, ground := Ground.phase }, { on := 8, ground := Ground.phase }, { on := 9, ground := Ground.phase }, { on := 10, ground := Ground.phase }, { on := 11, ground := Ground.phase }], guard := none }) (v := ?_) rfl (by kernel_rfl) (fun _ _ _ h => h) (by rfl) ?_ ?_
          rotate_left 1
          · (intro w; go_simp; (try with_reducible rfl))
          try simp only [Act.put, List.setIfInBounds_toArray, List.set_cons_zero, List.set_cons_succ]
          refine Rg.doneR (by kernel_rfl) ?_ _
          refine NoPanic.normal ?_
          clear HS
          go_wp2_with fail
          go_meet
          exact ⟨_, A3, c3, rfl, rfl, rfl, by omega, HQ.out, H3.out, HM.out, HM2.out, HB.out⟩
      ·
        refine Rg.stepS ?_
        intro K hK
        go_simp
        have HQ := Lib.hid (show Blk (w1.alloc (.cells #[.int .i64 0, .slice none 0 0] 49)) w1.heap.size 49 #[.int .i64 0, .slice none 0 0] from Blk.fresh _ _ _)
        have lgb := HM2.out.lt
        have hb : Below w1.heap.size w1 (w1.alloc (.cells #[.int .i64 0, .slice none 0 0] 49)) := (Below.refl _ _).alloc (Nat.le_refl _) _
        have HM := Lib.hid (HM.out.alloc (.cells #[.int .i64 0, .slice none 0 0] 49))
        have HM2 := Lib.hid (HM2.out.alloc (.cells #[.int .i64 0, .slice none 0 0] 49))
        have HO1 := Lib.hid ((HO1.out.below hb).more hb.size)
        have HB := Lib.hid (HB.out.alloc HB.out.size (.cells #[.int .i64 0, .slice none 0 0] 49))
        clear hb
        obtain ⟨ga, hga⟩ : ∃ g, w1.heap.size = g := ⟨_, rfl⟩
        rw [hga] at HQ lgb ⊢
        generalize (w1.alloc (.cells #[.int .i64 0, .slice none 0 0] 49)) = w1 at *
        clear HS
        have HS := And.intro HM.out HM2.out
        refine hK.out _ _ HS ?_
        clear hK K
        try simp only [Act.put, List.setIfInBounds_toArray, List.set_cons_zero, List.set_cons_succ]
        refine Rg.oneR (i := 3) (oi := { dst := some 18, op := Op.call { callee := Callee.value (Operand.func 35), args := #[Operand.tmp 17], argTypes := #[49] }, type := 49, pos := "numbers.go:140", after := #[{ on := 2, ground := Ground.data }, { on := 1, ground := Ground.chain }], guard := none }) rfl (by kernel_rfl) ?_
        refine Rg.stepF ?_ ?_
        · kernel_rfl
        intro K hK
        rw [if_pos (by rfl)]
        go_simp
        go_at_call 35
        refine (own_any Nb A' vs.length c' (intsV vs) w.heap.size w1 HB.out.size HA'.out hnc' hc8' (intsV_one vs) (HR'.out.below HB.out)).mono ?_
        rintro e w1 ⟨A2, c2, rfl, hown, hb⟩
        have HO2 := Lib.hid (Rd.of_own hown)
        have HM := Lib.hid (HM.out.below hb HM.out.lt)
        have HM2 := Lib.hid (HM2.out.below hb HM2.out.lt)
        have HQ := Lib.hid (HQ.out.below hb HQ.out.lt)
        have HO1 := Lib.hid ((HO1.out.below hb).more hb.size)
        have HB := Lib.hid (onward HB.out (Nat.le_refl _) hb)
        clear hown hb HS
        have HS := And.intro HM.out HM2.out
        unfold matV
        go_wp2_with fail
        refine hK.out _ _ ?_
        clear hK K
        try simp only [Act.put, List.setIfInBounds_toArray, List.set_cons_zero, List.set_cons_succ]
        refine Rg.oneR (i := 4) (oi := { dst := some 19, op := Op.call { callee := Callee.value (Operand.func 39), args := #[Operand.tmp 16, Operand.tmp 18], argTypes := #[49, 49] }, type := 57, pos := "numbers.go:140", after := #[{ on := 1, ground := Ground.data }, { on := 3, ground := Ground.data }, { on := 3, ground := Ground.chain }], guard := none }) rfl (by kernel_rfl) ?_
        refine Rg.stepF ?_ ?_
        · kernel_rfl
        intro K hK
        rw [if_pos (by rfl)]
        go_simp
        go_at_call 39
        refine (mul_all Na Nb A1 A2 c1 c2 zs vs w1 HO1.out HO2.out HZ.out HZV.out).mono ?_
        rw [HT.out]
        rintro e w1 ⟨A3, c3, rfl, hr3, hlo, hb⟩
        have H3 := Lib.hid hr3
        have hgq := HQ.out.lt
        have HNE : Hid (0 < l.length → ∀ b o, A3 = some ⟨b, o, none⟩ → b ≠ ga) := Lib.hid (fun _ b o e => by (have h := hlo _ e; simp only at h; omega))
        clear hgq
        have HM := Lib.hid (HM.out.below hb HM.out.lt)
        have HM2 := Lib.hid (HM2.out.below hb HM2.out.lt)
        have HQ := Lib.hid (HQ.out.below hb HQ.out.lt)
        have HB := Lib.hid (onward HB.out (Nat.le_refl _) hb)
        clear hr3 hlo hb HS
        have HS := And.intro HM.out HM2.out
        dsimp only
        go_wp2_with fail
        refine hK.out _ _ ?_
        clear hK K
        try simp only [Act.put, List.setIfInBounds_toArray, List.set_cons_zero, List.set_cons_succ]
        refine Rg.takeP (i := 5) (oi := { dst := some 14, op := Op.move (Operand.tmp 19), type := 57, pos := "numbers.go:140", after := #[{ on := 4, ground := Ground.data }], guard := none }) (v := ?_) rfl (by kernel_rfl) (fun _ _ _ h => h) (by rfl) ?_ ?_
        rotate_left 1
        · (intro w; go_simp; (try with_reducible rfl))
        try simp only [Act.put, List.setIfInBounds_toArray, List.set_cons_zero, List.set_cons_succ]
        refine Rg.takeP (i := 6) (oi := { dst := some 20, op := Op.extract (Operand.tmp 14) 0, type := 49, pos := "numbers.go:140", after := #[{ on := 5, ground := Ground.data }], guard := none }) (v := ?_) rfl (by kernel_rfl) (fun _ _ _ h => h) (by rfl) ?_ ?_
        rotate_left 1
        · (intro w; go_simp; (try with_reducible rfl))
        try simp only [Act.put, List.setIfInBounds_toArray, List.set_cons_zero, List.set_cons_succ]
        refine Rg.takeP (i := 7) (oi := { dst := some 21, op := Op.extract (Operand.tmp 14) 1, type := 4, pos := "numbers.go:140", after := #[{ on := 5, ground := Ground.data }, { on := 10, ground := Ground.gcOnly Departure.lateStores }], guard := none }) (v := ?_) rfl (by kernel_rfl) (fun _ _ _ h => h) (by rfl) ?_ ?_
        rotate_left 1
        · (intro w; go_simp; (try with_reducible rfl))
        try simp only [Act.put, List.setIfInBounds_toArray, List.set_cons_zero, List.set_cons_succ]
        refine Rg.takeP (i := 8) (oi := { dst := some 22, op := Op.extract (Operand.tmp 14) 2, type := 50, pos := "numbers.go:140", after := #[{ on := 5, ground := Ground.data }, { on := 11, ground := Ground.gcOnly Departure.lateStores }], guard := none }) (v := ?_) rfl (by kernel_rfl) (fun _ _ _ h => h) (by rfl) ?_ ?_
        rotate_left 1
        · (intro w; go_simp; (try with_reducible rfl))
        try simp only [Act.put, List.setIfInBounds_toArray, List.set_cons_zero, List.set_cons_succ]
        refine Rg.oneR (i := 10) (oi := { dst := none, op := Op.store 49 (Operand.tmp 5) (Operand.tmp 20), type := 0, pos := "numbers.go:140", after := #[{ on := 9, ground := Ground.data }, { on := 6, ground := Ground.data }, { on := 4, ground := Ground.chain }, { on := 0, ground := Ground.phase }, { on := 1, ground := Ground.phase }, { on := 2, ground := Ground.phase }, { on := 3, ground := Ground.phase }, { on := 4, ground := Ground.phase }, { on := 5, ground := Ground.phase }, { on := 6, ground := Ground.phase }, { on := 7, ground := Ground.textOnly Departure.lateStores }, { on := 8, ground := Ground.textOnly Departure.lateStores }, { on := 9, ground := Ground.phase }], guard := none }) rfl (by kernel_rfl) ?_
        refine Rg.stepF ?_ ?_
        · kernel_rfl
        intro K hK
        rw [if_pos (by rfl)]
        refine wp_store_row 49 _ _ rfl ga #[.int .i64 N, .slice A3 l.length c3] rfl rfl 49 _ HQ.out (by kernel_rfl) rfl (by simp [Value.oneCell']) ?_
        have HQ := Lib.hid (HQ.out.setRow #[.int .i64 N, .slice A3 l.length c3])
        have HM := Lib.hid (HM.out.setRow_other (g' := ga) (by omega) #[.int .i64 N, .slice A3 l.length c3])
        have HM2 := Lib.hid (HM2.out.setRow_other (g' := ga) (by omega) #[.int .i64 N, .slice A3 l.length c3])
        have HB := Lib.hid (below_setRow HB.out (show w.heap.size ≤ ga by omega) #[.int .i64 N, .slice A3 l.length c3])
        have H3 := Lib.hid ((rd_setRow H3.out (Nat.le_refl _) HNE.out #[.int .i64 N, .slice A3 l.length c3]).more (show w1.heap.size ≤ (w1.setRow ga #[.int .i64 N, .slice A3 l.length c3]).heap.size by simp [World.setRow]))
        generalize (w1.setRow ga #[.int .i64 N, .slice A3 l.length c3]) = w1 at *
        refine hK.out _ _ ?_
        clear hK K
        try simp only [Act.put, List.setIfInBounds_toArray, List.set_cons_zero, List.set_cons_succ]
        refine Rg.takeP (i := 11) (oi := { dst := some 6, op := Op.assign (Operand.tmp 21), type := 4, pos := "numbers.go:140", after := #[{ on := 7, ground := Ground.data }, { on := 10, ground := Ground.chain }, { on := 0, ground := Ground.phase }, { on := 1, ground := Ground.phase }, { on := 2, ground := Ground.phase }, { on := 3, ground := Ground.phase }, { on := 4, ground := Ground.phase }, { on := 5, ground := Ground.phase }, { on := 6, ground := Ground.phase }, { on := 7, ground := Ground.phase }, { on := 8, ground := Ground.textOnly Departure.lateStores }, { on := 9, ground := Ground.phase }, { on := 10, ground := Ground.phase }], guard := none }) (v := ?_) rfl (by kernel_rfl) (fun _ _ _ h => h) (by rfl) ?_ ?_
        rotate_left 1
        · (intro w; go_simp; (try with_reducible rfl))
        try simp only [Act.put, List.setIfInBounds_toArray, List.set_cons_zero, List.set_cons_succ]
        refine Rg.takeP (i := 12) (oi := { dst := some 7, op := Op.assign (Operand.tmp 22), type := 50, pos := "numbers.go:140", after := #[{ on := 8, ground := Ground.data }, { on := 11, ground := Ground.chain }, { on := 0, ground := Ground.phase }, { on := 1, ground := Ground.phase }, { on := 2, ground := Ground.phase }, { on := 3, ground := Ground.phase }, { on := 4, ground := Ground.phase }, { on := 5, ground := Ground.phase }, { on := 6, ground := Ground.phase }, { on := 7, ground := Ground.phase }, { on := 8, ground := Ground.phase }, { on := 9, ground := Ground.phase }, { on := 10, ground := Ground.phase }, { on := 11, ground := Ground.phase }], guard := none }) (v := ?_) rfl (by kernel_rfl) (fun _ _ _ h => h) (by rfl) ?_ ?_
        rotate_left 1
        · (intro w; go_simp; (try with_reducible rfl))
        try simp only [Act.put, List.setIfInBounds_toArray, List.set_cons_zero, List.set_cons_succ]
        refine Rg.doneR (by kernel_rfl) ?_ _
        refine NoPanic.normal ?_
        clear HS
        go_wp2_with fail
        go_meet
        exact ⟨_, A3, c3, rfl, rfl, rfl, by omega, HQ.out, H3.out, HM.out, HM2.out, HB.out⟩
    ·
      refine Rg.stepS ?_
      intro K hK
      go_simp
      have HQ := Lib.hid (show Blk (w1.alloc (.cells #[.int .i64 0, .slice none 0 0] 49)) w1.heap.size 49 #[.int .i64 0, .slice none 0 0] from Blk.fresh _ _ _)
      have lgb := HM2.out.lt
      have hb : Below w1.heap.size w1 (w1.alloc (.cells #[.int .i64 0, .slice none 0 0] 49)) := (Below.refl _ _).alloc (Nat.le_refl _) _
      have HM := Lib.hid (HM.out.alloc (.cells #[.int .i64 0, .slice none 0 0] 49))
      have HM2 := Lib.hid (HM2.out.alloc (.cells #[.int .i64 0, .slice none 0 0] 49))
      have HB := Lib.hid (HB.out.alloc HB.out.size (.cells #[.int .i64 0, .slice none 0 0] 49))
      clear hb
      obtain ⟨ga, hga⟩ : ∃ g, w1.heap.size = g := ⟨_, rfl⟩
      rw [hga] at HQ lgb ⊢
      generalize (w1.alloc (.cells #[.int .i64 0, .slice none 0 0] 49)) = w1 at *
      clear HS
      have HS := And.intro HM.out HM2.out
      refine hK.out _ _ HS ?_
      clear hK K
      try simp only [Act.put, List.setIfInBounds_toArray, List.set_cons_zero, List.set_cons_succ]
      refine Rg.oneR (i := 1) (oi := { dst := some 16, op := Op.call { callee := Callee.value (Operand.func 35), args := #[Operand.tmp 15], argTypes := #[49] }, type := 49, pos := "numbers.go:140", after := #[{ on := 0, ground := Ground.data }], guard := none }) rfl (by kernel_rfl) ?_
      refine Rg.stepS ?_
      intro K hK
      rw [if_pos (by rfl)]
      go_simp
      go_at_call 35
      refine (own_any Na A zs.length c (intsV zs) w.heap.size w1 HB.out.size HA.out hnc hc8 (intsV_one zs) (HR.out.below HB.out)).mono ?_
      rintro e w1 ⟨A1, c1, rfl, hown, hb⟩
      have HO1 := Lib.hid (Rd.of_own hown)
      have HM := Lib.hid (HM.out.below hb HM.out.lt)
      have HM2 := Lib.hid (HM2.out.below hb HM2.out.lt)
      have HQ := Lib.hid (HQ.out.below hb HQ.out.lt)
      have HB := Lib.hid (onward HB.out (Nat.le_refl _) hb)
      clear hown hb HS
      have HS := And.intro HM.out HM2.out
      unfold matV
      go_wp2_with fail
      refine hK.out _ _ HS ?_
      clear hK K
      try simp only [Act.put, List.setIfInBounds_toArray, List.set_cons_zero, List.set_cons_succ]
      refine Rg.oneR (i := 3) (oi := { dst := some 18, op := Op.call { callee := Callee.value (Operand.func 35), args := #[Operand.tmp 17], argTypes := #[49] }, type := 49, pos := "numbers.go:140", after := #[{ on := 2, ground := Ground.data }, { on := 1, ground := Ground.chain }], guard := none }) rfl (by kernel_rfl) ?_
      refine Rg.stepF ?_ ?_
      · kernel_rfl
      intro K hK
      rw [if_pos (by rfl)]
      go_simp
      go_at_call 35
      refine (own_any Nb A' vs.length c' (intsV vs) w.heap.size w1 HB.out.size HA'.out hnc' hc8' (intsV_one vs) (HR'.out.below HB.out)).mono ?_
      rintro e w1 ⟨A2, c2, rfl, hown, hb⟩
      have HO2 := Lib.hid (Rd.of_own hown)
      have HM := Lib.hid (HM.out.below hb HM.out.lt)
      have HM2 := Lib.hid (HM2.out.below hb HM2.out.lt)
      have HQ := Lib.hid (HQ.out.below hb HQ.out.lt)
      have HO1 := Lib.hid ((HO1.out.below hb).more hb.size)
      have HB := Lib.hid (onward HB.out (Nat.le_refl _) hb)
      clear hown hb HS
      have HS := And.intro HM.out HM2.out
      unfold matV
      go_wp2_with fail
      refine hK.out _ _ ?_
      clear hK K
      try simp only [Act.put, List.setIfInBounds_toArray, List.set_cons_zero, List.set_cons_succ]
      refine Rg.oneR (i := 4) (oi := { dst := some 19, op := Op.call { callee := Callee.value (Operand.func 39), args := #[Operand.tmp 16, Operand.tmp 18], argTypes := #[49, 49] }, type := 57, pos := "numbers.go:140", after := #[{ on := 1, ground := Ground.data }, { on := 3, ground := Ground.data }, { on := 3, ground := Ground.chain }], guard := none }) rfl (by kernel_rfl) ?_
      refine Rg.stepF ?_ ?_
      · kernel_rfl
      intro K hK
      rw [if_pos (by rfl)]
      go_simp
      go_at_call 39
      refine (mul_all Na Nb A1 A2 c1 c2 zs vs w1 HO1.out HO2.out HZ.out HZV.out).mono ?_
      rw [HT.out]
      rintro e w1 ⟨A3, c3, rfl, hr3, hlo, hb⟩
      have H3 := Lib.hid hr3
      have hgq := HQ.out.lt
      have HNE : Hid (0 < l.length → ∀ b o, A3 = some ⟨b, o, none⟩ → b ≠ ga) := Lib.hid (fun _ b o e => by (have h := hlo _ e; simp only at h; omega))
      clear hgq
      have HM := Lib.hid (HM.out.below hb HM.out.lt)
      have HM2 := Lib.hid (HM2.out.below hb HM2.out.lt)
      have HQ := Lib.hid (HQ.out.below hb HQ.out.lt)
      have HB := Lib.hid (onward HB.out (Nat.le_refl _) hb)
      clear hr3 hlo hb HS
      have HS := And.intro HM.out HM2.out
      dsimp only
      go_wp2_with fail
      refine hK.out _ _ ?_
      clear hK K
      try simp only [Act.put, List.setIfInBounds_toArray, List.set_cons_zero, List.set_cons_succ]
      refine Rg.takeP (i := 5) (oi := { dst := some 14, op := Op.move (Operand.tmp 19), type := 57, pos := "numbers.go:140", after := #[{ on := 4, ground := Ground.data }], guard := none }) (v := ?_) rfl (by kernel_rfl) (fun _ _ _ h => h) (by rfl) ?_ ?_
      rotate_left 1
      · (intro w; go_simp; (try with_reducible rfl))
      try simp only [Act.put, List.setIfInBounds_toArray, List.set_cons_zero, List.set_cons_succ]
      refine Rg.takeP (i := 6) (oi := { dst := some 20, op := Op.extract (Operand.tmp 14) 0, type := 49, pos := "numbers.go:140", after := #[{ on := 5, ground := Ground.data }], guard := none }) (v := ?_) rfl (by kernel_rfl) (fun _ _ _ h => h) (by rfl) ?_ ?_
      rotate_left 1
      · (intro w; go_simp; (try with_reducible rfl))
      try simp only [Act.put, List.setIfInBounds_toArray, List.set_cons_zero, List.set_cons_succ]
      refine Rg.takeP (i := 7) (oi := { dst := some 21, op := Op.extract (Operand.tmp 14) 1, type := 4, pos := "numbers.go:140", after := #[{ on := 5, ground := Ground.data }, { on := 10, ground := Ground.gcOnly Departure.lateStores }], guard := none }) (v := ?_) rfl (by kernel_rfl) (fun _ _ _ h => h) (by rfl) ?_ ?_
      rotate_left 1
      · (intro w; go_simp; (try with_reducible rfl))
      try simp only [Act.put, List.setIfInBounds_toArray, List.set_cons_zero, List.set_cons_succ]
      refine Rg.takeP (i := 8) (oi := { dst := some 22, op := Op.extract (Operand.tmp 14) 2, type := 50, pos := "numbers.go:140", after := #[{ on := 5, ground := Ground.data }, { on := 11, ground := Ground.gcOnly Departure.lateStores }], guard := none }) (v := ?_) rfl (by kernel_rfl) (fun _ _ _ h => h) (by rfl) ?_ ?_
      rotate_left 1
      · (intro w; go_simp; (try with_reducible rfl))
      try simp only [Act.put, List.setIfInBounds_toArray, List.set_cons_zero, List.set_cons_succ]
      refine Rg.oneR (i := 10) (oi := { dst := none, op := Op.store 49 (Operand.tmp 5) (Operand.tmp 20), type := 0, pos := "numbers.go:140", after := #[{ on := 9, ground := Ground.data }, { on := 6, ground := Ground.data }, { on := 4, ground := Ground.chain }, { on := 0, ground := Ground.phase }, { on := 1, ground := Ground.phase }, { on := 2, ground := Ground.phase }, { on := 3, ground := Ground.phase }, { on := 4, ground := Ground.phase }, { on := 5, ground := Ground.phase }, { on := 6, ground := Ground.phase }, { on := 7, ground := Ground.textOnly Departure.lateStores }, { on := 8, ground := Ground.textOnly Departure.lateStores }, { on := 9, ground := Ground.phase }], guard := none }) rfl (by kernel_rfl) ?_
      refine Rg.stepF ?_ ?_
      · kernel_rfl
      intro K hK
      rw [if_pos (by rfl)]
      refine wp_store_row 49 _ _ rfl ga #[.int .i64 N, .slice A3 l.length c3] rfl rfl 49 _ HQ.out (by kernel_rfl) rfl (by simp [Value.oneCell']) ?_
      have HQ := Lib.hid (HQ.out.setRow #[.int .i64 N, .slice A3 l.length c3])
      have HM := Lib.hid (HM.out.setRow_other (g' := ga) (by omega) #[.int .i64 N, .slice A3 l.length c3])
      have HM2 := Lib.hid (HM2.out.setRow_other (g' := ga) (by omega) #[.int .i64 N, .slice A3 l.length c3])
      have HB := Lib.hid (below_setRow HB.out (show w.heap.size ≤ ga by omega) #[.int .i64 N, .slice A3 l.length c3])
      have H3 := Lib.hid ((rd_setRow H3.out (Nat.le_refl _) HNE.out #[.int .i64 N, .slice A3 l.length c3]).more (show w1.heap.size ≤ (w1.setRow ga #[.int .i64 N, .slice A3 l.length c3]).heap.size by simp [World.setRow]))
      generalize (w1.setRow ga #[.int .i64 N, .slice A3 l.length c3]) = w1 at *
      refine hK.out _ _ ?_
      clear hK K
      try simp only [Act.put, List.setIfInBounds_toArray, List.set_cons_zero, List.set_cons_succ]
      refine Rg.takeP (i := 11) (oi := { dst := some 6, op := Op.assign (Operand.tmp 21), type := 4, pos := "numbers.go:140", after := #[{ on := 7, ground := Ground.data }, { on := 10, ground := Ground.chain }, { on := 0, ground := Ground.phase }, { on := 1, ground := Ground.phase }, { on := 2, ground := Ground.phase }, { on := 3, ground := Ground.phase }, { on := 4, ground := Ground.phase }, { on := 5, ground := Ground.phase }, { on := 6, ground := Ground.phase }, { on := 7, ground := Ground.phase }, { on := 8, ground := Ground.textOnly Departure.lateStores }, { on := 9, ground := Ground.phase }, { on := 10, ground := Ground.phase }], guard := none }) (v := ?_) rfl (by kernel_rfl) (fun _ _ _ h => h) (by rfl) ?_ ?_
      rotate_left 1
      · (intro w; go_simp; (try with_reducible rfl))
      try simp only [Act.put, List.setIfInBounds_toArray, List.set_cons_zero, List.set_cons_succ]
      refine Rg.takeP (i := 12) (oi := { dst := some 7, op := Op.assign (Operand.tmp 22), type := 50, pos := "numbers.go:140", after := #[{ on := 8, ground := Ground.data }, { on := 11, ground := Ground.chain }, { on := 0, ground := Ground.phase }, { on := 1, ground := Ground.phase }, { on := 2, ground := Ground.phase }, { on := 3, ground := Ground.phase }, { on := 4, ground := Ground.phase }, { on := 5, ground := Ground.phase }, { on := 6, ground := Ground.phase }, { on := 7, ground := Ground.phase }, { on := 8, ground := Ground.phase }, { on := 9, ground := Ground.phase }, { on := 10, ground := Ground.phase }, { on := 11, ground := Ground.phase }], guard := none }) (v := ?_) rfl (by kernel_rfl) (fun _ _ _ h => h) (by rfl) ?_ ?_
      rotate_left 1
      · (intro w; go_simp; (try with_reducible rfl))
      try simp only [Act.put, List.setIfInBounds_toArray, List.set_cons_zero, List.set_cons_succ]
      refine Rg.doneR (by kernel_rfl) ?_ _
      refine NoPanic.normal ?_
      clear HS
      go_wp2_with fail
      go_meet
      exact ⟨_, A3, c3, rfl, rfl, rfl, by omega, HQ.out, H3.out, HM.out, HM2.out, HB.out⟩
  case rest =>
    obtain ⟨ga, A3, c3, rfl, rfl, rfl, hga, hq, hr3, hm, hm2, hb⟩ := hcut
    have HQ := Lib.hid hq
    have H3 := Lib.hid hr3
    have HM := Lib.hid hm
    have HM2 := Lib.hid hm2
    have HB := Lib.hid hb
    clear hq hr3 hm hm2 hb
    go_wp2_with (first | (refine wpList_whole rfl 49 _ rfl w.heap.size rfl HM.out _ Try.underlying49 rfl (by kernel_rfl) ?_) | (refine wpList_whole rfl 49 _ rfl gb rfl HM2.out _ Try.underlying49 rfl (by kernel_rfl) ?_) | (refine wpList_whole rfl 49 _ rfl ga rfl HQ.out _ Try.underlying49 rfl (by kernel_rfl) ?_))
    refine (refMul_all Na Nb A A' c c' zs vs wc ((HR.out.below HB.out).more HB.out.size) ((HR'.out.below HB.out).more HB.out.size) HZ.out HZV.out).mono ?_
    rw [HT.out]
    rintro e w1 ⟨A4, c4, rfl, hr4, _, hb⟩
    have H4 := Lib.hid hr4
    clear hr4
    have HM := Lib.hid (HM.out.below hb HM.out.lt)
    have HM2 := Lib.hid (HM2.out.below hb HM2.out.lt)
    have HQ := Lib.hid (HQ.out.below hb HQ.out.lt)
    have H3 := Lib.hid ((H3.out.below hb).more hb.size)
    have HB := Lib.hid (onward HB.out (Nat.le_refl _) hb)
    clear hb
    dsimp only
    go_upto_region 3 with fail
    have hb : Below w1.heap.size w1 (w1.alloc (.cells #[.int .i64 N, .slice A4 l.length c4] 49)) := (Below.refl _ _).alloc (Nat.le_refl _) _
    have HM := Lib.hid (HM.out.alloc (.cells #[.int .i64 N, .slice A4 l.length c4] 49))
    have HM2 := Lib.hid (HM2.out.alloc (.cells #[.int .i64 N, .slice A4 l.length c4] 49))
    have HQ := Lib.hid (HQ.out.alloc (.cells #[.int .i64 N, .slice A4 l.length c4] 49))
    have H3 := Lib.hid ((H3.out.below hb).more hb.size)
    have H4 := Lib.hid ((H4.out.below hb).more hb.size)
    have HQ2 := Lib.hid (show Blk (w1.alloc (.cells #[.int .i64 N, .slice A4 l.length c4] 49)) w1.heap.size 49 #[.int .i64 N, .slice A4 l.length c4] from Blk.fresh _ _ _)
    have HB := Lib.hid (HB.out.alloc HB.out.size (.cells #[.int .i64 N, .slice A4 l.length c4] 49))
    clear hb
    obtain ⟨gq, hgq⟩ : ∃ g, w1.heap.size = g := ⟨_, rfl⟩
    rw [hgq] at HQ2 ⊢
    generalize (w1.alloc (.cells #[.int .i64 N, .slice A4 l.length c4] 49)) = w1 at *
    go_wp2_with fail
    refine (least_any 7 w1).mono ?_
    rintro e w1 ⟨A5, c5, rfl, hown, hb⟩
    have H5 := Lib.hid (Rd.of_own hown)
    clear hown
    have HM := Lib.hid (HM.out.below hb HM.out.lt)
    have HM2 := Lib.hid (HM2.out.below hb HM2.out.lt)
    have HQ := Lib.hid (HQ.out.below hb HQ.out.lt)
    have HQ2 := Lib.hid (HQ2.out.below hb HQ2.out.lt)
    have H3 := Lib.hid ((H3.out.below hb).more hb.size)
    have H4 := Lib.hid ((H4.out.below hb).more hb.size)
    have HB := Lib.hid (onward HB.out (Nat.le_refl _) hb)
    clear hb
    unfold matV
    go_wp2_with fail
    refine (least_any 4294967296 w1).mono ?_
    rintro e w1 ⟨A6, c6, rfl, hown, hb⟩
    have H6 := Lib.hid (Rd.of_own hown)
    clear hown
    have HM := Lib.hid (HM.out.below hb HM.out.lt)
    have HM2 := Lib.hid (HM2.out.below hb HM2.out.lt)
    have HQ := Lib.hid (HQ.out.below hb HQ.out.lt)
    have HQ2 := Lib.hid (HQ2.out.below hb HQ2.out.lt)
    have H3 := Lib.hid ((H3.out.below hb).more hb.size)
    have H4 := Lib.hid ((H4.out.below hb).more hb.size)
    have H5 := Lib.hid ((H5.out.below hb).more hb.size)
    have HB := Lib.hid (onward HB.out (Nat.le_refl _) hb)
    clear hb
    unfold matV
    go_wp2_with fail
    refine (mul_all 1 1 A5 A6 c5 c6 [7] [4294967296] w1 H5.out H6.out (in_one 7 (by unfold In64; omega)) (in_one 4294967296 (by unfold In64; omega))).mono ?_
    rintro e w1 ⟨A7, c7, rfl, _, _, hb⟩
    rw [HC.out]
    have HM := Lib.hid (HM.out.below hb HM.out.lt)
    have HM2 := Lib.hid (HM2.out.below hb HM2.out.lt)
    have HQ := Lib.hid (HQ.out.below hb HQ.out.lt)
    have HQ2 := Lib.hid (HQ2.out.below hb HQ2.out.lt)
    have H3 := Lib.hid ((H3.out.below hb).more hb.size)
    have H4 := Lib.hid ((H4.out.below hb).more hb.size)
    have HB := Lib.hid (onward HB.out (Nat.le_refl _) hb)
    clear hb
    generalize (mulR 1 1 [7] [4294967296]).1.2.1.length = n7
    generalize (mulR 1 1 [7] [4294967296]).1.2.2 = b7
    generalize (mulR 1 1 [7] [4294967296]).2 = x7
    clear H5 H6
    go_upto_region 4 with fail
    have hb : Below w1.heap.size w1 (w1.alloc (.cells #[.int .i64 1, .slice A7 n7 c7] 49)) := (Below.refl _ _).alloc (Nat.le_refl _) _
    have HM := Lib.hid (HM.out.alloc (.cells #[.int .i64 1, .slice A7 n7 c7] 49))
    have HM2 := Lib.hid (HM2.out.alloc (.cells #[.int .i64 1, .slice A7 n7 c7] 49))
    have HQ := Lib.hid (HQ.out.alloc (.cells #[.int .i64 1, .slice A7 n7 c7] 49))
    have HQ2 := Lib.hid (HQ2.out.alloc (.cells #[.int .i64 1, .slice A7 n7 c7] 49))
    have H3 := Lib.hid ((H3.out.below hb).more hb.size)
    have H4 := Lib.hid ((H4.out.below hb).more hb.size)
    have HZZ := Lib.hid (show Blk (w1.alloc (.cells #[.int .i64 1, .slice A7 n7 c7] 49)) w1.heap.size 49 #[.int .i64 1, .slice A7 n7 c7] from Blk.fresh _ _ _)
    have HB := Lib.hid (HB.out.alloc HB.out.size (.cells #[.int .i64 1, .slice A7 n7 c7] 49))
    clear hb
    obtain ⟨gz, hgz⟩ : ∃ g, w1.heap.size = g := ⟨_, rfl⟩
    rw [hgz] at HZZ ⊢
    generalize (w1.alloc (.cells #[.int .i64 1, .slice A7 n7 c7] 49)) = w1 at *
    have y0 : w1.cell? ⟨ga, 0, none⟩ = some (.int .i64 N) := (HQ.out.cell 0).trans rfl
    have y1 : w1.cell? ⟨ga, 1, none⟩ = some (.slice A3 l.length c3) := (HQ.out.cell 1).trans rfl
    have z0 : w1.cell? ⟨gq, 0, none⟩ = some (.int .i64 N) := (HQ2.out.cell 0).trans rfl
    have z1 : w1.cell? ⟨gq, 1, none⟩ = some (.slice A4 l.length c4) := (HQ2.out.cell 1).trans rfl
    have hl36 := HL6.out
    clear HM HM2
    cases b
    all_goals
      go_wp2_with fail
      refine (sameMat_any N A3 A4 c3 c4 l w1 (by omega) H3.out H4.out).mono ?_
      rintro e w2 ⟨rfl, hb⟩
      have v0 : w2.cell? ⟨gz, 0, none⟩ = some (.int .i64 1) := ((HZZ.out.below hb HZZ.out.lt).cell 0).trans rfl
      have HB := Lib.hid (onward HB.out (Nat.le_refl _) hb)
      clear hb y0 y1 z0 z1
      go_wp2_with fail
      go_ret
      exact ⟨rfl, HB.out⟩
set_option maxRecDepth 100000 in
set_option maxHeartbeats 1000000 in
theorem lifted (os : Os) (started : os.Started) (H : Type) (enc : TypeId × Value → H) :
    ReturnsInHanded {} Try.checked os 12 .any (Rows.matMulsSpec.pre6 enc Try.prog Try.f12 Rows.matMulsRow.domain false) (Rows.matMulsSpec.post enc Try.prog Try.f12 false true false false) := by
  refine returnsInHanded_of_change_sized (C := Try.checked) Fr.own started (by kernel_rfl) Try.func12
    (ChangeSpec.witness6 (enc := enc) (C := Try.checked) false ⟨#[], #[.agg #[.int .i64 0, .slice none 0 0], .agg #[.int .i64 0, .slice none 0 0]], []⟩ 8 (by kernel_rfl) (by kernel_rfl) (by kernel_rfl) (by kernel_rfl)) ?_
  intro W base args ds gs before hval0 hW _ hsz0 _
  have hval : ∀ (j : Nat) t v, Try.f12.params[j]? = some t → args[j]? = some v → Value.okWide Try.prog W .any base t v := hval0
  have hsz : (DataW.weightsEach Try.prog (Try.f12.params.toList ++ Rows.matMulsSpec.plain.varTypes Try.prog) (ds ++ gs)).all (· ≤ reachBytes) = true := hsz0
  clear hval0 hsz0
  obtain ⟨p, q, hA0, hV0, _⟩ := id hW
  have hA : DataW.TrodAll enc Try.prog W 0 (fun _ => true) true Try.f12.params.toList args.toList ds p := hA0
  rw [Try.params12] at hA hval hsz
  obtain ⟨v0, vs0, d0, ds0, p0, q0, hargs, rfl, rfl, h0, r0⟩ := trodAll_cons hA
  obtain ⟨v1, vs1, d1, ds1, p1, q1, rfl, rfl, rfl, h1, r1⟩ := trodAll_cons r0
  obtain ⟨rfl, rfl, rfl⟩ := trodAll_nil r1
  obtain rfl : args = #[v0, v1] := by cases args; simp_all
  obtain ⟨rfl, rfl⟩ := trodVars_none hV0
  refine Fr.of_walk (f := Try.f12) Fr.laidOut (by rw [Try.params12]; intro t ht; simp at ht; (first | (rcases ht with rfl | rfl | rfl | rfl | rfl | rfl) | (rcases ht with rfl | rfl | rfl | rfl | rfl) | (rcases ht with rfl | rfl | rfl | rfl) | (rcases ht with rfl | rfl | rfl) | (rcases ht with rfl | rfl) | (subst ht)) <;> exact ⟨by kernel_rfl, of_decide_eq_true (by kernel_rfl)⟩) rfl rfl Try.underlying4 (fun _ => rfl) hW ?_
  clear hW hA hA0 hV0
  obtain ⟨N0, A0, c0, zs0, rfl, _, nn0, mm0, gg0, rr0, oo0⟩ := Mats.openMat (hval 0 49 v0 rfl rfl) h0 (Op.light_of_each (j := 0) hsz rfl rfl)
  obtain ⟨N1, A1, c1, zs1, rfl, _, nn1, mm1, gg1, rr1, oo1⟩ := Mats.openMat (hval 1 49 v1 rfl rfl) h1 (Op.light_of_each (j := 1) hsz rfl rfl)
  exact walk N0 A0 c0 zs0 N1 A1 c1 zs1 W gg0 nn0 mm0 rr0 gg1 nn1 mm1 rr1 (in_all oo0) (in_all oo1)

theorem closedFacts : joinedFacts Try.prog 12 Try.f12 Rows.matMulsSpec Rows.matMulsRow = true := by
  unfold joinedFacts
  simp only [Bool.and_eq_true]
  refine ⟨⟨⟨⟨⟨⟨⟨⟨⟨⟨⟨⟨⟨⟨⟨⟨⟨⟨⟨⟨⟨⟨⟨⟨⟨⟨⟨⟨⟨⟨⟨?_, ?_⟩, ?_⟩, ?_⟩, ?_⟩, ?_⟩, ?_⟩, ?_⟩, ?_⟩, ?_⟩, ?_⟩, ?_⟩, ?_⟩, ?_⟩, ?_⟩, ?_⟩, ?_⟩, ?_⟩, ?_⟩, ?_⟩, ?_⟩, ?_⟩, ?_⟩, ?_⟩, ?_⟩, ?_⟩, ?_⟩, ?_⟩, ?_⟩, ?_⟩, ?_⟩, ?_⟩
  · as_aux_lemma => kernel_rfl
  · exact Fr.laidOut
  · exact Facts.mapsRowed_
  · as_aux_lemma => kernel_rfl
  · as_aux_lemma => kernel_rfl
  · as_aux_lemma => kernel_rfl
  · exact Facts.stops_
  · as_aux_lemma => kernel_rfl
  · exact Facts.knobs_
  · as_aux_lemma => kernel_rfl
  · as_aux_lemma => kernel_rfl
  · as_aux_lemma => kernel_rfl
  · as_aux_lemma => kernel_rfl
  · as_aux_lemma => kernel_rfl
  · as_aux_lemma => kernel_rfl
  · as_aux_lemma => kernel_rfl
  · as_aux_lemma => kernel_rfl
  · as_aux_lemma => kernel_rfl
  · as_aux_lemma => kernel_rfl
  · as_aux_lemma => kernel_rfl
  · as_aux_lemma => kernel_rfl
  · as_aux_lemma => kernel_rfl
  · exact Facts.keys_
  · as_aux_lemma => kernel_rfl
  · exact Facts.heard_
  · exact Facts.enter_
  · exact Facts.lifts_
  · exact Facts.make_
  · as_aux_lemma => kernel_rfl
  · as_aux_lemma => kernel_rfl
  · as_aux_lemma => kernel_rfl
  · as_aux_lemma => kernel_rfl

theorem proved : Rows.MatMulsSaid :=
  OpenClaim.holds_of_wide 12 Try.f12 rfl rfl rfl rfl rfl rfl rfl ⟨rfl, rfl, rfl, rfl, rfl⟩ rfl rfl rfl rfl rfl (by kernel_rfl) Try.func12 closedFacts
    (of_decide_eq_true (by kernel_rfl)) (by unfold Func.isWrapper; first | (rw [if_pos (by decide +kernel)]; kernel_rfl) | (rw [if_neg (by decide +kernel)]; exact ⟨rfl, rfl⟩))
    (fun os started H enc _ => lifted os started H enc)

end Go.Proofs.Ytajhkbdaoakogaa.lawMatMuls
