/- Contract: the reference's FilterRun. -/
import Derived.Test.YtajhkbdaoakogaaRunH
namespace Go.Proofs.Ytajhkbdaoakogaa.BigW
open Go.RowKit Go.Proofs.Ytajhkbdaoakogaa.Mem Go.Proofs.Ytajhkbdaoakogaa.BigLaw Go.Proofs.Ytajhkbdaoakogaa.Rws Go.Proofs.Ytajhkbdaoakogaa.Ints
set_option linter.unusedVariables false
set_option linter.unusedSimpArgs false
set_option maxRecDepth 100000 in
set_option maxHeartbeats 1000000 in
theorem refrun_any (dt q r gate : Int) (r_dt : In64 dt) (r_q : In64 q) (r_r : In64 r) (r_gate : In64 gate) : ∀ (m : Nat) (s : St) (A : Option Addr) (c : Nat) (zs : List Int) (w : World) (hm : zs.length = m) (hs : StIn s) (hz : ∀ z ∈ zs, In64 z)
    (hl : zs.length ≤ 1000000) (hc : zs.length ≤ c) (hr : Rd w w.heap.size 1 A zs.length (intsV zs)),
    Calls Try.prog 21 #[stV s, .agg (tunC dt q r gate), .slice A zs.length c] w fun e w' => GaveRun w w' (runs dt q r gate (s, 0) zs) e := by
  have HD := Lib.hid r_dt
  have HK := Lib.hid r_q
  have HL := Lib.hid r_r
  have HG := Lib.hid r_gate
  clear r_dt r_q r_r r_gate
  intro m
  induction m with
  | zero =>
    intro s A c zs w hm hs hz hl hc hr
    obtain rfl := List.eq_nil_of_length_eq_zero hm
    obtain ⟨X, V, P00, P01, P11, bent, missed⟩ := s
    unfold stV stC tunC
    clear hm hs hz hl hc hr
    have HB := Lib.hid (show Below w.heap.size w (((w.alloc (.cells #[.int .i64 X, .int .i64 V, .int .i64 P00, .int .i64 P01, .int .i64 P11, .bool bent, .int .i64 missed] 23)).alloc (.cells #[.int .i64 dt, .int .i64 q, .int .i64 r, .int .i64 gate] 29)).alloc (.cells #[.int .i64 0, .int .i64 0, .int .i64 0, .int .i64 0, .int .i64 0, .bool false, .int .i64 0] 23)) from (((Below.refl _ _).alloc (Nat.le_refl _) _).alloc (by simp) _).alloc (by simp; omega) _)
    have HST := Lib.hid (show Blk (((w.alloc (.cells #[.int .i64 X, .int .i64 V, .int .i64 P00, .int .i64 P01, .int .i64 P11, .bool bent, .int .i64 missed] 23)).alloc (.cells #[.int .i64 dt, .int .i64 q, .int .i64 r, .int .i64 gate] 29)).alloc (.cells #[.int .i64 0, .int .i64 0, .int .i64 0, .int .i64 0, .int .i64 0, .bool false, .int .i64 0] 23)) w.heap.size 23 #[.int .i64 X, .int .i64 V, .int .i64 P00, .int .i64 P01, .int .i64 P11, .bool bent, .int .i64 missed] from ((Blk.new rfl).alloc _).alloc _)
    have HR := Lib.hid (show Blk (((w.alloc (.cells #[.int .i64 X, .int .i64 V, .int .i64 P00, .int .i64 P01, .int .i64 P11, .bool bent, .int .i64 missed] 23)).alloc (.cells #[.int .i64 dt, .int .i64 q, .int .i64 r, .int .i64 gate] 29)).alloc (.cells #[.int .i64 0, .int .i64 0, .int .i64 0, .int .i64 0, .int .i64 0, .bool false, .int .i64 0] 23)) (w.heap.size + 1 + 1) 23 #[.int .i64 0, .int .i64 0, .int .i64 0, .int .i64 0, .int .i64 0, .bool false, .int .i64 0] from Blk.new (by simp))
    go_enter Try.func21, Try.ntmps21
    go_upto_region 1 with fail
    generalize (((w.alloc (.cells #[.int .i64 X, .int .i64 V, .int .i64 P00, .int .i64 P01, .int .i64 P11, .bool bent, .int .i64 missed] 23)).alloc (.cells #[.int .i64 dt, .int .i64 q, .int .i64 r, .int .i64 gate] 29)).alloc (.cells #[.int .i64 0, .int .i64 0, .int .i64 0, .int .i64 0, .int .i64 0, .bool false, .int .i64 0] 23)) = w1 at *
    obtain ⟨gr, hgr⟩ : ∃ g, w.heap.size + 1 + 1 = g := ⟨_, rfl⟩
    rw [hgr] at HR ⊢
    go_wp2_with (first | (refine wpList_whole rfl 23 _ rfl w.heap.size rfl HST.out _ Try.underlying23 rfl (by kernel_rfl) ?_) | (refine wpList_store_row rfl 23 _ _ rfl gr #[.int .i64 X, .int .i64 V, .int .i64 P00, .int .i64 P01, .int .i64 P11, .bool bent, .int .i64 missed] rfl rfl 23 _ HR.out (by kernel_rfl) rfl (by simp [Value.oneCell']) ?_))
    refine ret_row2 (x := .int .i64 0) rfl rfl rfl (HR.out.setRow #[.int .i64 X, .int .i64 V, .int .i64 P00, .int .i64 P01, .int .i64 P11, .bool bent, .int .i64 missed]) ⟨by rw [Try.underlying23], by kernel_rfl⟩ rfl ?_
    exact ⟨rfl, below_setRow HB.out (by omega) _⟩
  | succ m ih =>
    intro s A c zs w hm hs hz hl hc hr
    obtain ⟨b, o, u, rfl, hbB, hu, hcell⟩ := hr.at (show m < zs.length by omega)
    rw [intsV_at zs m (by omega)] at hu
    injection hu with hu
    subst hu
    have hlt : m < zs.length := by omega
    have ht := runs_take dt q r gate (s, 0) zs hlt
    rw [show zs.take (m + 1) = zs from List.take_of_length_le (by omega)] at ht
    have hin := runs_in dt q r gate (zs.take m) (s, 0) hs
    have hcnt := runs_cnt dt q r gate (zs.take m) (s, 0)
    rw [List.length_take, Nat.min_eq_left (by omega)] at hcnt
    have HZk := Lib.hid (hz zs[m] (List.getElem_mem hlt))
    have hlen : (zs.take m).length = m := by simp; omega
    have IH := Lib.hid (fun (wx : World) (hx : Rd wx wx.heap.size 1 (some ⟨b, o, none⟩) (zs.take m).length (intsV (zs.take m))) => ih s (some ⟨b, o, none⟩) c (zs.take m) wx hlen hs (fun z h => hz z (List.mem_of_mem_take h)) (by omega) (by omega) hx)
    have HRD := Lib.hid (rd_take hr (show m ≤ zs.length by omega))
    rw [hlen] at HRD IH
    generalize zs[m] = z at ht HZk hcell
    obtain ⟨p, hp⟩ : ∃ p, runs dt q r gate (s, 0) (zs.take m) = p := ⟨_, rfl⟩
    have HP := Lib.hid hp
    rw [hp] at hin hcnt ht
    clear hp ih hr hs hz
    obtain ⟨⟨PX, PV, PA, PB, PC, pb, pm⟩, n⟩ := p
    simp only at hcnt hin ht
    have HI := Lib.hid hin
    have hn0 : 0 ≤ n := by simpa using hcnt.1
    have hn1 : n ≤ m := by simpa using hcnt.2
    clear hcnt hin
    obtain ⟨⟨⟨QX, QV, QA, QB, QC, qb, qm⟩, qt⟩, hq⟩ : ∃ p, fstep ⟨PX, PV, PA, PB, PC, pb, pm⟩ dt q r gate z = p := ⟨_, rfl⟩
    have HQ := Lib.hid hq
    rw [hq] at ht
    have HT := Lib.hid ht
    clear hq ht
    obtain ⟨X, V, P00, P01, P11, bent, missed⟩ := s
    unfold stV stC tunC at *
    rw [hm]
    have hm1 : ((m + 1 : Nat) : Int) - 1 = (m : Int) := by omega
    have hc0 : m < c := by omega
    have hmc : m ≤ c := by omega
    have hm6 : m < 1000000 := by omega
    obtain ⟨L, hL⟩ : ∃ L, m + 1 = L := ⟨_, rfl⟩
    rw [hL] at hm1 ⊢
    have hL1 : m < L := by omega
    have hL2 : (0 : Int) < (L : Int) := by omega
    have hL3 : (m : Int) < (L : Int) := by omega
    have hL4 : ((L : Int) == 0) = false := by simp; omega
    clear hlen hm hl hc hlt
    have HLL := Lib.hid hL
    clear hL
    have HB := Lib.hid (show Below w.heap.size w (((w.alloc (.cells #[.int .i64 X, .int .i64 V, .int .i64 P00, .int .i64 P01, .int .i64 P11, .bool bent, .int .i64 missed] 23)).alloc (.cells #[.int .i64 dt, .int .i64 q, .int .i64 r, .int .i64 gate] 29)).alloc (.cells #[.int .i64 0, .int .i64 0, .int .i64 0, .int .i64 0, .int .i64 0, .bool false, .int .i64 0] 23)) from (((Below.refl _ _).alloc (Nat.le_refl _) _).alloc (by simp) _).alloc (by simp; omega) _)
    have HST := Lib.hid (show Blk (((w.alloc (.cells #[.int .i64 X, .int .i64 V, .int .i64 P00, .int .i64 P01, .int .i64 P11, .bool bent, .int .i64 missed] 23)).alloc (.cells #[.int .i64 dt, .int .i64 q, .int .i64 r, .int .i64 gate] 29)).alloc (.cells #[.int .i64 0, .int .i64 0, .int .i64 0, .int .i64 0, .int .i64 0, .bool false, .int .i64 0] 23)) w.heap.size 23 #[.int .i64 X, .int .i64 V, .int .i64 P00, .int .i64 P01, .int .i64 P11, .bool bent, .int .i64 missed] from ((Blk.new rfl).alloc _).alloc _)
    have HU := Lib.hid (show Blk (((w.alloc (.cells #[.int .i64 X, .int .i64 V, .int .i64 P00, .int .i64 P01, .int .i64 P11, .bool bent, .int .i64 missed] 23)).alloc (.cells #[.int .i64 dt, .int .i64 q, .int .i64 r, .int .i64 gate] 29)).alloc (.cells #[.int .i64 0, .int .i64 0, .int .i64 0, .int .i64 0, .int .i64 0, .bool false, .int .i64 0] 23)) (w.heap.size + 1) 29 #[.int .i64 dt, .int .i64 q, .int .i64 r, .int .i64 gate] from (Blk.new (by simp)).alloc _)
    have HR := Lib.hid (show Blk (((w.alloc (.cells #[.int .i64 X, .int .i64 V, .int .i64 P00, .int .i64 P01, .int .i64 P11, .bool bent, .int .i64 missed] 23)).alloc (.cells #[.int .i64 dt, .int .i64 q, .int .i64 r, .int .i64 gate] 29)).alloc (.cells #[.int .i64 0, .int .i64 0, .int .i64 0, .int .i64 0, .int .i64 0, .bool false, .int .i64 0] 23)) (w.heap.size + 1 + 1) 23 #[.int .i64 0, .int .i64 0, .int .i64 0, .int .i64 0, .int .i64 0, .bool false, .int .i64 0] from Blk.new (by simp))
    have HRD := Lib.hid (HRD.out.below HB.out)
    have HC := Lib.hid hcell
    have hsz : w.heap.size ≤ (((w.alloc (.cells #[.int .i64 X, .int .i64 V, .int .i64 P00, .int .i64 P01, .int .i64 P11, .bool bent, .int .i64 missed] 23)).alloc (.cells #[.int .i64 dt, .int .i64 q, .int .i64 r, .int .i64 gate] 29)).alloc (.cells #[.int .i64 0, .int .i64 0, .int .i64 0, .int .i64 0, .int .i64 0, .bool false, .int .i64 0] 23)).heap.size := HB.out.size
    clear hcell
    go_enter Try.func21, Try.ntmps21
    go_upto_region 4 with fail
    generalize (((w.alloc (.cells #[.int .i64 X, .int .i64 V, .int .i64 P00, .int .i64 P01, .int .i64 P11, .bool bent, .int .i64 missed] 23)).alloc (.cells #[.int .i64 dt, .int .i64 q, .int .i64 r, .int .i64 gate] 29)).alloc (.cells #[.int .i64 0, .int .i64 0, .int .i64 0, .int .i64 0, .int .i64 0, .bool false, .int .i64 0] 23)) = w1 at *
    obtain ⟨gr, hgr⟩ : ∃ g, w.heap.size + 1 + 1 = g := ⟨_, rfl⟩
    rw [hgr] at HR ⊢
    obtain ⟨gu, hgu⟩ : ∃ g, w.heap.size + 1 = g := ⟨_, rfl⟩
    rw [hgu] at HU ⊢
    go_cut [9, 10] (fun v x wx => ∃ ga, v = .pointer (some ⟨ga, 0, none⟩) ∧ x = .int .i64 n ∧ gr < ga ∧ Blk wx ga 23 #[.int .i64 PX, .int .i64 PV, .int .i64 PA, .int .i64 PB, .int .i64 PC, .bool pb, .int .i64 pm] ∧ Blk wx gu 29 #[.int .i64 dt, .int .i64 q, .int .i64 r, .int .i64 gate] ∧ Blk wx gr 23 #[.int .i64 0, .int .i64 0, .int .i64 0, .int .i64 0, .int .i64 0, .bool false, .int .i64 0] ∧ Below w.heap.size w wx)
    case first =>
      have HST := Lib.hid HST.out.drew
      have HU := Lib.hid HU.out.drew
      have HR := Lib.hid HR.out.drew
      have HRD := Lib.hid HRD.out.drew
      have HB := Lib.hid HB.out.drew
      have hsz : w.heap.size ≤ w1.drew.heap.size := hsz
      have HS := And.intro HST.out HU.out
      refine wp_region_noPanic ?_
      refine Rg.beginR [0, 1] (fun w' => Blk w' w.heap.size 23 #[.int .i64 X, .int .i64 V, .int .i64 P00, .int .i64 P01, .int .i64 P11, .bool bent, .int .i64 missed] ∧ Blk w' gu 29 #[.int .i64 dt, .int .i64 q, .int .i64 r, .int .i64 gate]) (by kernel_rfl) ?_
      generalize w1.drew = w1 at *
      refine Rg.takeS (i := 0) (oi := { dst := some 21, op := Op.load 23 (Operand.tmp 3), type := 23, pos := "number.go:407", after := #[], guard := none }) (v := .agg #[.int .i64 X, .int .i64 V, .int .i64 P00, .int .i64 P01, .int .i64 P11, .bool bent, .int .i64 missed]) rfl (by kernel_rfl) (fun _ _ _ h => h) (by rfl) HS ?_ ?_
      · (intro w' hSw; exact exec_load_st 23 (.tmp 3) rfl w.heap.size rfl hSw.1 Try.underlying23 rfl (by kernel_rfl))
      try simp only [Act.put, List.setIfInBounds_toArray, List.set_cons_zero, List.set_cons_succ]
      refine Rg.takeS (i := 1) (oi := { dst := some 22, op := Op.load 29 (Operand.tmp 4), type := 29, pos := "number.go:407", after := #[], guard := none }) (v := .agg #[.int .i64 dt, .int .i64 q, .int .i64 r, .int .i64 gate]) rfl (by kernel_rfl) (fun _ _ _ h => h) (by rfl) HS ?_ ?_
      · (intro w' hSw; exact exec_load_st 29 (.tmp 4) rfl gu rfl hSw.2 Try.underlying29 rfl (by kernel_rfl))
      try simp only [Act.put, List.setIfInBounds_toArray, List.set_cons_zero, List.set_cons_succ]
      refine Rg.takeP (i := 2) (oi := { dst := some 23, op := Op.move (Operand.tmp 2), type := 32, pos := "number.go:407", after := #[], guard := none }) (v := ?_) rfl (by kernel_rfl) (fun _ _ _ h => h) (by rfl) ?_ ?_
      rotate_left 1
      · (intro w; go_simp; (try with_reducible rfl))
      try simp only [Act.put, List.setIfInBounds_toArray, List.set_cons_zero, List.set_cons_succ]
      refine Rg.takeP (i := 3) (oi := { dst := some 24, op := Op.move (Operand.tmp 8), type := 3, pos := "number.go:407", after := #[], guard := none }) (v := ?_) rfl (by kernel_rfl) (fun _ _ _ h => h) (by rfl) ?_ ?_
      rotate_left 1
      · (intro w; go_simp; (try with_reducible rfl))
      try simp only [Act.put, List.setIfInBounds_toArray, List.set_cons_zero, List.set_cons_succ]
      refine Rg.takeP (i := 4) (oi := { dst := some 25, op := Op.slice 32 (Operand.tmp 23) none (some (Operand.tmp 24)) none, type := 32, pos := "number.go:407", after := #[{ on := 2, ground := Ground.data }, { on := 3, ground := Ground.data }], guard := none }) (v := ?_) rfl (by kernel_rfl) (fun _ _ _ h => h) (by rfl) ?_ ?_
      rotate_left 1
      · (intro w; go_simp; (try simp only [if_pos hmc]); (try with_reducible rfl))
      try simp only [Act.put, List.setIfInBounds_toArray, List.set_cons_zero, List.set_cons_succ]
      refine Rg.twoR (i := 5) (j := 9) (oi := { dst := some 26, op := Op.call { callee := Callee.value (Operand.func 21), args := #[Operand.tmp 21, Operand.tmp 22, Operand.tmp 25], argTypes := #[23, 29, 32] }, type := 33, pos := "number.go:407", after := #[{ on := 0, ground := Ground.data }, { on := 1, ground := Ground.data }, { on := 4, ground := Ground.data }], guard := none }) (oj := { dst := some 9, op := Op.alloc 23, type := 0, pos := "number.go:407", after := #[], guard := none }) (by kernel_rfl) rfl rfl ?_ ?_
      ·
        refine Rg.stepF ?_ ?_
        · kernel_rfl
        intro K hK
        rw [if_pos (by rfl)]
        go_simp
        go_at_call 21
        refine (IH.out _ (HRD.out.more (by omega))).mono ?_
        rintro e w1 ⟨rfl, hb⟩
        rw [HP.out]
        simp only [stV, stC]
        have HST := Lib.hid (HST.out.below hb HST.out.lt)
        have HU := Lib.hid (HU.out.below hb HU.out.lt)
        have HR := Lib.hid (HR.out.below hb HR.out.lt)
        have HRD := Lib.hid (HRD.out.below (hb.mono (by omega)))
        have hsz := Nat.le_trans hsz hb.size
        have HB := Lib.hid (onward HB.out (Nat.le_refl _) hb)
        clear hb HS
        have HS := And.intro HST.out HU.out
        go_wp2_with fail
        refine hK.out _ _ ?_
        clear hK K
        try simp only [Act.put, List.setIfInBounds_toArray, List.set_cons_zero, List.set_cons_succ]
        refine Rg.takeP (i := 6) (oi := { dst := some 20, op := Op.move (Operand.tmp 26), type := 33, pos := "number.go:407", after := #[{ on := 5, ground := Ground.data }], guard := none }) (v := ?_) rfl (by kernel_rfl) (fun _ _ _ h => h) (by rfl) ?_ ?_
        rotate_left 1
        · (intro w; go_simp; (try with_reducible rfl))
        try simp only [Act.put, List.setIfInBounds_toArray, List.set_cons_zero, List.set_cons_succ]
        refine Rg.takeP (i := 7) (oi := { dst := some 27, op := Op.extract (Operand.tmp 20) 0, type := 23, pos := "number.go:407", after := #[{ on := 6, ground := Ground.data }], guard := none }) (v := ?_) rfl (by kernel_rfl) (fun _ _ _ h => h) (by rfl) ?_ ?_
        rotate_left 1
        · (intro w; go_simp; (try with_reducible rfl))
        try simp only [Act.put, List.setIfInBounds_toArray, List.set_cons_zero, List.set_cons_succ]
        refine Rg.takeP (i := 8) (oi := { dst := some 28, op := Op.extract (Operand.tmp 20) 1, type := 3, pos := "number.go:407", after := #[{ on := 6, ground := Ground.data }, { on := 10, ground := Ground.gcOnly Departure.lateStores }], guard := none }) (v := ?_) rfl (by kernel_rfl) (fun _ _ _ h => h) (by rfl) ?_ ?_
        rotate_left 1
        · (intro w; go_simp; (try with_reducible rfl))
        try simp only [Act.put, List.setIfInBounds_toArray, List.set_cons_zero, List.set_cons_succ]
        refine Rg.oneR (i := 9) (oi := { dst := some 9, op := Op.alloc 23, type := 0, pos := "number.go:407", after := #[], guard := none }) rfl (by kernel_rfl) ?_
        refine Rg.stepS ?_
        intro K hK
        go_simp
        have HA := Lib.hid (show Blk (w1.alloc (.cells #[.int .i64 0, .int .i64 0, .int .i64 0, .int .i64 0, .int .i64 0, .bool false, .int .i64 0] 23)) w1.heap.size 23 #[.int .i64 0, .int .i64 0, .int .i64 0, .int .i64 0, .int .i64 0, .bool false, .int .i64 0] from Blk.fresh _ _ _)
        have lHST := HST.out.lt
        have lHU := HU.out.lt
        have lHR := HR.out.lt
        have HST := Lib.hid (HST.out.alloc (.cells #[.int .i64 0, .int .i64 0, .int .i64 0, .int .i64 0, .int .i64 0, .bool false, .int .i64 0] 23))
        have HU := Lib.hid (HU.out.alloc (.cells #[.int .i64 0, .int .i64 0, .int .i64 0, .int .i64 0, .int .i64 0, .bool false, .int .i64 0] 23))
        have HR := Lib.hid (HR.out.alloc (.cells #[.int .i64 0, .int .i64 0, .int .i64 0, .int .i64 0, .int .i64 0, .bool false, .int .i64 0] 23))
        have HRD := Lib.hid (HRD.out.alloc (by omega) (.cells #[.int .i64 0, .int .i64 0, .int .i64 0, .int .i64 0, .int .i64 0, .bool false, .int .i64 0] 23))
        have HB := Lib.hid (HB.out.alloc HB.out.size (.cells #[.int .i64 0, .int .i64 0, .int .i64 0, .int .i64 0, .int .i64 0, .bool false, .int .i64 0] 23))
        have hsz : w.heap.size ≤ (w1.alloc (.cells #[.int .i64 0, .int .i64 0, .int .i64 0, .int .i64 0, .int .i64 0, .bool false, .int .i64 0] 23)).heap.size := by simp; omega
        obtain ⟨ga, hga⟩ : ∃ g, w1.heap.size = g := ⟨_, rfl⟩
        rw [hga] at HA lHST lHU lHR ⊢
        generalize (w1.alloc (.cells #[.int .i64 0, .int .i64 0, .int .i64 0, .int .i64 0, .int .i64 0, .bool false, .int .i64 0] 23)) = w1 at *
        clear HS
        have HS := And.intro HST.out HU.out
        refine hK.out _ _ HS ?_
        clear hK K
        try simp only [Act.put, List.setIfInBounds_toArray, List.set_cons_zero, List.set_cons_succ]
        refine Rg.oneR (i := 10) (oi := { dst := none, op := Op.store 23 (Operand.tmp 9) (Operand.tmp 27), type := 0, pos := "number.go:407", after := #[{ on := 9, ground := Ground.data }, { on := 7, ground := Ground.data }, { on := 5, ground := Ground.chain }, { on := 0, ground := Ground.phase }, { on := 1, ground := Ground.phase }, { on := 2, ground := Ground.phase }, { on := 3, ground := Ground.phase }, { on := 4, ground := Ground.phase }, { on := 5, ground := Ground.phase }, { on := 6, ground := Ground.phase }, { on := 7, ground := Ground.phase }, { on := 8, ground := Ground.textOnly Departure.lateStores }, { on := 9, ground := Ground.phase }], guard := none }) rfl (by kernel_rfl) ?_
        refine Rg.stepF ?_ ?_
        · kernel_rfl
        intro K hK
        rw [if_pos (by rfl)]
        refine wp_store_row 23 _ _ rfl ga #[.int .i64 PX, .int .i64 PV, .int .i64 PA, .int .i64 PB, .int .i64 PC, .bool pb, .int .i64 pm] rfl rfl 23 _ HA.out (by kernel_rfl) rfl (by simp [Value.oneCell']) ?_
        have HA := Lib.hid (HA.out.setRow #[.int .i64 PX, .int .i64 PV, .int .i64 PA, .int .i64 PB, .int .i64 PC, .bool pb, .int .i64 pm])
        have HST := Lib.hid (HST.out.setRow_other (g' := ga) (by omega) #[.int .i64 PX, .int .i64 PV, .int .i64 PA, .int .i64 PB, .int .i64 PC, .bool pb, .int .i64 pm])
        have HU := Lib.hid (HU.out.setRow_other (g' := ga) (by omega) #[.int .i64 PX, .int .i64 PV, .int .i64 PA, .int .i64 PB, .int .i64 PC, .bool pb, .int .i64 pm])
        have HR := Lib.hid (HR.out.setRow_other (g' := ga) (by omega) #[.int .i64 PX, .int .i64 PV, .int .i64 PA, .int .i64 PB, .int .i64 PC, .bool pb, .int .i64 pm])
        have HRD := Lib.hid (HRD.out.below (below_setRow (Below.refl _ _) (show w.heap.size ≤ ga by omega) #[.int .i64 PX, .int .i64 PV, .int .i64 PA, .int .i64 PB, .int .i64 PC, .bool pb, .int .i64 pm]))
        have HB := Lib.hid (below_setRow HB.out (show w.heap.size ≤ ga by omega) #[.int .i64 PX, .int .i64 PV, .int .i64 PA, .int .i64 PB, .int .i64 PC, .bool pb, .int .i64 pm])
        generalize (w1.setRow ga #[.int .i64 PX, .int .i64 PV, .int .i64 PA, .int .i64 PB, .int .i64 PC, .bool pb, .int .i64 pm]) = w1 at *
        refine hK.out _ _ ?_
        clear hK K
        try simp only [Act.put, List.setIfInBounds_toArray, List.set_cons_zero, List.set_cons_succ]
        refine Rg.takeP (i := 11) (oi := { dst := some 10, op := Op.assign (Operand.tmp 28), type := 3, pos := "number.go:407", after := #[{ on := 8, ground := Ground.data }, { on := 10, ground := Ground.chain }, { on := 0, ground := Ground.phase }, { on := 1, ground := Ground.phase }, { on := 2, ground := Ground.phase }, { on := 3, ground := Ground.phase }, { on := 4, ground := Ground.phase }, { on := 5, ground := Ground.phase }, { on := 6, ground := Ground.phase }, { on := 7, ground := Ground.phase }, { on := 8, ground := Ground.phase }, { on := 9, ground := Ground.phase }, { on := 10, ground := Ground.phase }], guard := none }) (v := ?_) rfl (by kernel_rfl) (fun _ _ _ h => h) (by rfl) ?_ ?_
        rotate_left 1
        · (intro w; go_simp; (try with_reducible rfl))
        try simp only [Act.put, List.setIfInBounds_toArray, List.set_cons_zero, List.set_cons_succ]
        refine Rg.doneR (by kernel_rfl) ?_ _
        refine NoPanic.normal ?_
        clear HS
        go_wp2_with fail
        go_meet
        exact ⟨_, rfl, rfl, by omega, HA.out, HU.out, HR.out, HB.out⟩
      ·
        refine Rg.stepS ?_
        intro K hK
        go_simp
        have HA := Lib.hid (show Blk (w1.alloc (.cells #[.int .i64 0, .int .i64 0, .int .i64 0, .int .i64 0, .int .i64 0, .bool false, .int .i64 0] 23)) w1.heap.size 23 #[.int .i64 0, .int .i64 0, .int .i64 0, .int .i64 0, .int .i64 0, .bool false, .int .i64 0] from Blk.fresh _ _ _)
        have lHST := HST.out.lt
        have lHU := HU.out.lt
        have lHR := HR.out.lt
        have HST := Lib.hid (HST.out.alloc (.cells #[.int .i64 0, .int .i64 0, .int .i64 0, .int .i64 0, .int .i64 0, .bool false, .int .i64 0] 23))
        have HU := Lib.hid (HU.out.alloc (.cells #[.int .i64 0, .int .i64 0, .int .i64 0, .int .i64 0, .int .i64 0, .bool false, .int .i64 0] 23))
        have HR := Lib.hid (HR.out.alloc (.cells #[.int .i64 0, .int .i64 0, .int .i64 0, .int .i64 0, .int .i64 0, .bool false, .int .i64 0] 23))
        have HRD := Lib.hid (HRD.out.alloc (by omega) (.cells #[.int .i64 0, .int .i64 0, .int .i64 0, .int .i64 0, .int .i64 0, .bool false, .int .i64 0] 23))
        have HB := Lib.hid (HB.out.alloc HB.out.size (.cells #[.int .i64 0, .int .i64 0, .int .i64 0, .int .i64 0, .int .i64 0, .bool false, .int .i64 0] 23))
        have hsz : w.heap.size ≤ (w1.alloc (.cells #[.int .i64 0, .int .i64 0, .int .i64 0, .int .i64 0, .int .i64 0, .bool false, .int .i64 0] 23)).heap.size := by simp; omega
        obtain ⟨ga, hga⟩ : ∃ g, w1.heap.size = g := ⟨_, rfl⟩
        rw [hga] at HA lHST lHU lHR ⊢
        generalize (w1.alloc (.cells #[.int .i64 0, .int .i64 0, .int .i64 0, .int .i64 0, .int .i64 0, .bool false, .int .i64 0] 23)) = w1 at *
        clear HS
        have HS := And.intro HST.out HU.out
        refine hK.out _ _ HS ?_
        clear hK K
        try simp only [Act.put, List.setIfInBounds_toArray, List.set_cons_zero, List.set_cons_succ]
        refine Rg.oneR (i := 5) (oi := { dst := some 26, op := Op.call { callee := Callee.value (Operand.func 21), args := #[Operand.tmp 21, Operand.tmp 22, Operand.tmp 25], argTypes := #[23, 29, 32] }, type := 33, pos := "number.go:407", after := #[{ on := 0, ground := Ground.data }, { on := 1, ground := Ground.data }, { on := 4, ground := Ground.data }], guard := none }) rfl (by kernel_rfl) ?_
        refine Rg.stepF ?_ ?_
        · kernel_rfl
        intro K hK
        rw [if_pos (by rfl)]
        go_simp
        go_at_call 21
        refine (IH.out _ (HRD.out.more (by omega))).mono ?_
        rintro e w1 ⟨rfl, hb⟩
        rw [HP.out]
        simp only [stV, stC]
        have HST := Lib.hid (HST.out.below hb HST.out.lt)
        have HU := Lib.hid (HU.out.below hb HU.out.lt)
        have HR := Lib.hid (HR.out.below hb HR.out.lt)
        have HA := Lib.hid (HA.out.below hb HA.out.lt)
        have HRD := Lib.hid (HRD.out.below (hb.mono (by omega)))
        have hsz := Nat.le_trans hsz hb.size
        have HB := Lib.hid (onward HB.out (Nat.le_refl _) hb)
        clear hb HS
        have HS := And.intro HST.out HU.out
        go_wp2_with fail
        refine hK.out _ _ ?_
        clear hK K
        try simp only [Act.put, List.setIfInBounds_toArray, List.set_cons_zero, List.set_cons_succ]
        refine Rg.takeP (i := 6) (oi := { dst := some 20, op := Op.move (Operand.tmp 26), type := 33, pos := "number.go:407", after := #[{ on := 5, ground := Ground.data }], guard := none }) (v := ?_) rfl (by kernel_rfl) (fun _ _ _ h => h) (by rfl) ?_ ?_
        rotate_left 1
        · (intro w; go_simp; (try with_reducible rfl))
        try simp only [Act.put, List.setIfInBounds_toArray, List.set_cons_zero, List.set_cons_succ]
        refine Rg.takeP (i := 7) (oi := { dst := some 27, op := Op.extract (Operand.tmp 20) 0, type := 23, pos := "number.go:407", after := #[{ on := 6, ground := Ground.data }], guard := none }) (v := ?_) rfl (by kernel_rfl) (fun _ _ _ h => h) (by rfl) ?_ ?_
        rotate_left 1
        · (intro w; go_simp; (try with_reducible rfl))
        try simp only [Act.put, List.setIfInBounds_toArray, List.set_cons_zero, List.set_cons_succ]
        refine Rg.takeP (i := 8) (oi := { dst := some 28, op := Op.extract (Operand.tmp 20) 1, type := 3, pos := "number.go:407", after := #[{ on := 6, ground := Ground.data }, { on := 10, ground := Ground.gcOnly Departure.lateStores }], guard := none }) (v := ?_) rfl (by kernel_rfl) (fun _ _ _ h => h) (by rfl) ?_ ?_
        rotate_left 1
        · (intro w; go_simp; (try with_reducible rfl))
        try simp only [Act.put, List.setIfInBounds_toArray, List.set_cons_zero, List.set_cons_succ]
        refine Rg.oneR (i := 10) (oi := { dst := none, op := Op.store 23 (Operand.tmp 9) (Operand.tmp 27), type := 0, pos := "number.go:407", after := #[{ on := 9, ground := Ground.data }, { on := 7, ground := Ground.data }, { on := 5, ground := Ground.chain }, { on := 0, ground := Ground.phase }, { on := 1, ground := Ground.phase }, { on := 2, ground := Ground.phase }, { on := 3, ground := Ground.phase }, { on := 4, ground := Ground.phase }, { on := 5, ground := Ground.phase }, { on := 6, ground := Ground.phase }, { on := 7, ground := Ground.phase }, { on := 8, ground := Ground.textOnly Departure.lateStores }, { on := 9, ground := Ground.phase }], guard := none }) rfl (by kernel_rfl) ?_
        refine Rg.stepF ?_ ?_
        · kernel_rfl
        intro K hK
        rw [if_pos (by rfl)]
        refine wp_store_row 23 _ _ rfl ga #[.int .i64 PX, .int .i64 PV, .int .i64 PA, .int .i64 PB, .int .i64 PC, .bool pb, .int .i64 pm] rfl rfl 23 _ HA.out (by kernel_rfl) rfl (by simp [Value.oneCell']) ?_
        have HA := Lib.hid (HA.out.setRow #[.int .i64 PX, .int .i64 PV, .int .i64 PA, .int .i64 PB, .int .i64 PC, .bool pb, .int .i64 pm])
        have HST := Lib.hid (HST.out.setRow_other (g' := ga) (by omega) #[.int .i64 PX, .int .i64 PV, .int .i64 PA, .int .i64 PB, .int .i64 PC, .bool pb, .int .i64 pm])
        have HU := Lib.hid (HU.out.setRow_other (g' := ga) (by omega) #[.int .i64 PX, .int .i64 PV, .int .i64 PA, .int .i64 PB, .int .i64 PC, .bool pb, .int .i64 pm])
        have HR := Lib.hid (HR.out.setRow_other (g' := ga) (by omega) #[.int .i64 PX, .int .i64 PV, .int .i64 PA, .int .i64 PB, .int .i64 PC, .bool pb, .int .i64 pm])
        have HRD := Lib.hid (HRD.out.below (below_setRow (Below.refl _ _) (show w.heap.size ≤ ga by omega) #[.int .i64 PX, .int .i64 PV, .int .i64 PA, .int .i64 PB, .int .i64 PC, .bool pb, .int .i64 pm]))
        have HB := Lib.hid (below_setRow HB.out (show w.heap.size ≤ ga by omega) #[.int .i64 PX, .int .i64 PV, .int .i64 PA, .int .i64 PB, .int .i64 PC, .bool pb, .int .i64 pm])
        generalize (w1.setRow ga #[.int .i64 PX, .int .i64 PV, .int .i64 PA, .int .i64 PB, .int .i64 PC, .bool pb, .int .i64 pm]) = w1 at *
        refine hK.out _ _ ?_
        clear hK K
        try simp only [Act.put, List.setIfInBounds_toArray, List.set_cons_zero, List.set_cons_succ]
        refine Rg.takeP (i := 11) (oi := { dst := some 10, op := Op.assign (Operand.tmp 28), type := 3, pos := "number.go:407", after := #[{ on := 8, ground := Ground.data }, { on := 10, ground := Ground.chain }, { on := 0, ground := Ground.phase }, { on := 1, ground := Ground.phase }, { on := 2, ground := Ground.phase }, { on := 3, ground := Ground.phase }, { on := 4, ground := Ground.phase }, { on := 5, ground := Ground.phase }, { on := 6, ground := Ground.phase }, { on := 7, ground := Ground.phase }, { on := 8, ground := Ground.phase }, { on := 9, ground := Ground.phase }, { on := 10, ground := Ground.phase }], guard := none }) (v := ?_) rfl (by kernel_rfl) (fun _ _ _ h => h) (by rfl) ?_ ?_
        rotate_left 1
        · (intro w; go_simp; (try with_reducible rfl))
        try simp only [Act.put, List.setIfInBounds_toArray, List.set_cons_zero, List.set_cons_succ]
        refine Rg.doneR (by kernel_rfl) ?_ _
        refine NoPanic.normal ?_
        clear HS
        go_wp2_with fail
        go_meet
        exact ⟨_, rfl, rfl, by omega, HA.out, HU.out, HR.out, HB.out⟩
    case rest =>
      obtain ⟨ga, rfl, rfl, hga, ha, hu, hr, hb⟩ := hcut
      have HC := Lib.hid ((hb.cell (p := ⟨b, o + m, none⟩) hbB).trans HC.out)
      have HP1 := Lib.hid ha
      have HU := Lib.hid hu
      have HR := Lib.hid hr
      have HB := Lib.hid hb
      have hsz : w.heap.size ≤ wc.heap.size := hb.size
      clear ha hu hr hb
      go_upto_region 5 with fail
      go_cut [11, 12] (fun v x wx => ∃ gb, v = .pointer (some ⟨gb, 0, none⟩) ∧ x = .bool qt ∧ gr < gb ∧ Blk wx gb 23 #[.int .i64 QX, .int .i64 QV, .int .i64 QA, .int .i64 QB, .int .i64 QC, .bool qb, .int .i64 qm] ∧ Blk wx gr 23 #[.int .i64 0, .int .i64 0, .int .i64 0, .int .i64 0, .int .i64 0, .bool false, .int .i64 0] ∧ Below w.heap.size w wx)
      case first =>
        have HP1 := Lib.hid HP1.out.drew
        have HU := Lib.hid HU.out.drew
        have HR := Lib.hid HR.out.drew
        have HB := Lib.hid HB.out.drew
        have HC : Hid (wc.drew.cell? ⟨b, o + m, none⟩ = some (.int .i64 z)) := Lib.hid HC.out
        have hsz : w.heap.size ≤ wc.drew.heap.size := hsz
        have HS := And.intro HP1.out (And.intro HU.out HC.out)
        refine wp_region_noPanic ?_
        refine Rg.beginR [0, 1, 5] (fun w' => Blk w' ga 23 #[.int .i64 PX, .int .i64 PV, .int .i64 PA, .int .i64 PB, .int .i64 PC, .bool pb, .int .i64 pm] ∧ Blk w' gu 29 #[.int .i64 dt, .int .i64 q, .int .i64 r, .int .i64 gate] ∧ w'.cell? ⟨b, o + m, none⟩ = some (.int .i64 z)) (by kernel_rfl) ?_
        generalize wc.drew = w1 at *
        refine Rg.takeS (i := 0) (oi := { dst := some 30, op := Op.load 23 (Operand.tmp 9), type := 23, pos := "number.go:408", after := #[], guard := none }) (v := .agg #[.int .i64 PX, .int .i64 PV, .int .i64 PA, .int .i64 PB, .int .i64 PC, .bool pb, .int .i64 pm]) rfl (by kernel_rfl) (fun _ _ _ h => h) (by rfl) HS ?_ ?_
        · (intro w' hSw; exact exec_load_st 23 (.tmp 9) rfl ga rfl hSw.1 Try.underlying23 rfl (by kernel_rfl))
        try simp only [Act.put, List.setIfInBounds_toArray, List.set_cons_zero, List.set_cons_succ]
        refine Rg.takeS (i := 1) (oi := { dst := some 31, op := Op.load 29 (Operand.tmp 4), type := 29, pos := "number.go:408", after := #[], guard := none }) (v := .agg #[.int .i64 dt, .int .i64 q, .int .i64 r, .int .i64 gate]) rfl (by kernel_rfl) (fun _ _ _ h => h) (by rfl) HS ?_ ?_
        · (intro w' hSw; exact exec_load_st 29 (.tmp 4) rfl gu rfl hSw.2.1 Try.underlying29 rfl (by kernel_rfl))
        try simp only [Act.put, List.setIfInBounds_toArray, List.set_cons_zero, List.set_cons_succ]
        refine Rg.takeP (i := 2) (oi := { dst := some 32, op := Op.move (Operand.tmp 2), type := 32, pos := "number.go:408", after := #[], guard := none }) (v := ?_) rfl (by kernel_rfl) (fun _ _ _ h => h) (by rfl) ?_ ?_
        rotate_left 1
        · (intro w; go_simp; (try with_reducible rfl))
        try simp only [Act.put, List.setIfInBounds_toArray, List.set_cons_zero, List.set_cons_succ]
        refine Rg.takeP (i := 3) (oi := { dst := some 33, op := Op.move (Operand.tmp 8), type := 3, pos := "number.go:408", after := #[], guard := none }) (v := ?_) rfl (by kernel_rfl) (fun _ _ _ h => h) (by rfl) ?_ ?_
        rotate_left 1
        · (intro w; go_simp; (try with_reducible rfl))
        try simp only [Act.put, List.setIfInBounds_toArray, List.set_cons_zero, List.set_cons_succ]
        refine Rg.takeP (i := 4) (oi := { dst := some 34, op := Op.indexAddr 32 (Operand.tmp 32) (Operand.tmp 33), type := 0, pos := "number.go:408", after := #[{ on := 2, ground := Ground.data }, { on := 3, ground := Ground.data }], guard := none }) (v := ?_) rfl (by kernel_rfl) (fun _ _ _ h => h) (by rfl) ?_ ?_
        rotate_left 1
        · (intro w; go_simp; (try with_reducible rfl))
        try simp only [Act.put, List.setIfInBounds_toArray, List.set_cons_zero, List.set_cons_succ]
        refine Rg.takeS (i := 5) (oi := { dst := some 35, op := Op.load 3 (Operand.tmp 34), type := 3, pos := "number.go:408", after := #[{ on := 4, ground := Ground.data }], guard := none }) (v := ?_) rfl (by kernel_rfl) (fun _ _ _ h => h) (by rfl) HS ?_ ?_
        rotate_left 1
        · (intro w hSw; (try dsimp only at hSw); (try go_split_ands); go_simp; (try with_reducible rfl))
        try simp only [Act.put, List.setIfInBounds_toArray, List.set_cons_zero, List.set_cons_succ]
        refine Rg.twoR (i := 6) (j := 10) (oi := { dst := some 36, op := Op.call { callee := Callee.value (Operand.func 19), args := #[Operand.tmp 30, Operand.tmp 31, Operand.tmp 35], argTypes := #[23, 29, 3] }, type := 24, pos := "number.go:408", after := #[{ on := 0, ground := Ground.data }, { on := 1, ground := Ground.data }, { on := 5, ground := Ground.data }], guard := none }) (oj := { dst := some 11, op := Op.alloc 23, type := 0, pos := "number.go:408", after := #[], guard := none }) (by kernel_rfl) rfl rfl ?_ ?_
        ·
          refine Rg.stepF ?_ ?_
          · kernel_rfl
          intro K hK
          rw [if_pos (by rfl)]
          go_simp
          go_at_call 19
          refine (reffstep_any ⟨PX, PV, PA, PB, PC, pb, pm⟩ dt q r gate z _ HI.out HD.out HK.out HL.out HG.out HZk.out).mono ?_
          rintro e w1 ⟨rfl, hb⟩
          rw [HQ.out]
          simp only [stV, stC]
          have HP1 := Lib.hid (HP1.out.below hb HP1.out.lt)
          have HU := Lib.hid (HU.out.below hb HU.out.lt)
          have HR := Lib.hid (HR.out.below hb HR.out.lt)
          have HC := Lib.hid ((hb.cell (p := ⟨b, o + m, none⟩) (by show b < _; omega)).trans HC.out)
          have hsz := Nat.le_trans hsz hb.size
          have HB := Lib.hid (onward HB.out (Nat.le_refl _) hb)
          clear hb HS
          have HS := And.intro HP1.out (And.intro HU.out HC.out)
          go_wp2_with fail
          refine hK.out _ _ ?_
          clear hK K
          try simp only [Act.put, List.setIfInBounds_toArray, List.set_cons_zero, List.set_cons_succ]
          refine Rg.takeP (i := 7) (oi := { dst := some 29, op := Op.move (Operand.tmp 36), type := 24, pos := "number.go:408", after := #[{ on := 6, ground := Ground.data }], guard := none }) (v := ?_) rfl (by kernel_rfl) (fun _ _ _ h => h) (by rfl) ?_ ?_
          rotate_left 1
          · (intro w; go_simp; (try with_reducible rfl))
          try simp only [Act.put, List.setIfInBounds_toArray, List.set_cons_zero, List.set_cons_succ]
          refine Rg.takeP (i := 8) (oi := { dst := some 37, op := Op.extract (Operand.tmp 29) 0, type := 23, pos := "number.go:408", after := #[{ on := 7, ground := Ground.data }], guard := none }) (v := ?_) rfl (by kernel_rfl) (fun _ _ _ h => h) (by rfl) ?_ ?_
          rotate_left 1
          · (intro w; go_simp; (try with_reducible rfl))
          try simp only [Act.put, List.setIfInBounds_toArray, List.set_cons_zero, List.set_cons_succ]
          refine Rg.takeP (i := 9) (oi := { dst := some 38, op := Op.extract (Operand.tmp 29) 1, type := 4, pos := "number.go:408", after := #[{ on := 7, ground := Ground.data }, { on := 11, ground := Ground.gcOnly Departure.lateStores }], guard := none }) (v := ?_) rfl (by kernel_rfl) (fun _ _ _ h => h) (by rfl) ?_ ?_
          rotate_left 1
          · (intro w; go_simp; (try with_reducible rfl))
          try simp only [Act.put, List.setIfInBounds_toArray, List.set_cons_zero, List.set_cons_succ]
          refine Rg.oneR (i := 10) (oi := { dst := some 11, op := Op.alloc 23, type := 0, pos := "number.go:408", after := #[], guard := none }) rfl (by kernel_rfl) ?_
          refine Rg.stepS ?_
          intro K hK
          go_simp
          have HA := Lib.hid (show Blk (w1.alloc (.cells #[.int .i64 0, .int .i64 0, .int .i64 0, .int .i64 0, .int .i64 0, .bool false, .int .i64 0] 23)) w1.heap.size 23 #[.int .i64 0, .int .i64 0, .int .i64 0, .int .i64 0, .int .i64 0, .bool false, .int .i64 0] from Blk.fresh _ _ _)
          have lHP1 := HP1.out.lt
          have lHU := HU.out.lt
          have lHR := HR.out.lt
          have HP1 := Lib.hid (HP1.out.alloc (.cells #[.int .i64 0, .int .i64 0, .int .i64 0, .int .i64 0, .int .i64 0, .bool false, .int .i64 0] 23))
          have HU := Lib.hid (HU.out.alloc (.cells #[.int .i64 0, .int .i64 0, .int .i64 0, .int .i64 0, .int .i64 0, .bool false, .int .i64 0] 23))
          have HR := Lib.hid (HR.out.alloc (.cells #[.int .i64 0, .int .i64 0, .int .i64 0, .int .i64 0, .int .i64 0, .bool false, .int .i64 0] 23))
          have HC := Lib.hid ((((Below.refl _ _).alloc (Nat.le_refl _) (.cells #[.int .i64 0, .int .i64 0, .int .i64 0, .int .i64 0, .int .i64 0, .bool false, .int .i64 0] 23)).cell (p := ⟨b, o + m, none⟩) (show b < w1.heap.size by omega)).trans HC.out)
          have HB := Lib.hid (HB.out.alloc HB.out.size (.cells #[.int .i64 0, .int .i64 0, .int .i64 0, .int .i64 0, .int .i64 0, .bool false, .int .i64 0] 23))
          have hsz : w.heap.size ≤ (w1.alloc (.cells #[.int .i64 0, .int .i64 0, .int .i64 0, .int .i64 0, .int .i64 0, .bool false, .int .i64 0] 23)).heap.size := by simp; omega
          obtain ⟨gb, hgb⟩ : ∃ g, w1.heap.size = g := ⟨_, rfl⟩
          rw [hgb] at HA lHP1 lHU lHR ⊢
          generalize (w1.alloc (.cells #[.int .i64 0, .int .i64 0, .int .i64 0, .int .i64 0, .int .i64 0, .bool false, .int .i64 0] 23)) = w1 at *
          clear HS
          have HS := And.intro HP1.out (And.intro HU.out HC.out)
          refine hK.out _ _ HS ?_
          clear hK K
          try simp only [Act.put, List.setIfInBounds_toArray, List.set_cons_zero, List.set_cons_succ]
          refine Rg.oneR (i := 11) (oi := { dst := none, op := Op.store 23 (Operand.tmp 11) (Operand.tmp 37), type := 0, pos := "number.go:408", after := #[{ on := 10, ground := Ground.data }, { on := 8, ground := Ground.data }, { on := 6, ground := Ground.chain }, { on := 0, ground := Ground.phase }, { on := 1, ground := Ground.phase }, { on := 2, ground := Ground.phase }, { on := 3, ground := Ground.phase }, { on := 4, ground := Ground.phase }, { on := 5, ground := Ground.phase }, { on := 6, ground := Ground.phase }, { on := 7, ground := Ground.phase }, { on := 8, ground := Ground.phase }, { on := 9, ground := Ground.textOnly Departure.lateStores }, { on := 10, ground := Ground.phase }], guard := none }) rfl (by kernel_rfl) ?_
          refine Rg.stepF ?_ ?_
          · kernel_rfl
          intro K hK
          rw [if_pos (by rfl)]
          refine wp_store_row 23 _ _ rfl gb #[.int .i64 QX, .int .i64 QV, .int .i64 QA, .int .i64 QB, .int .i64 QC, .bool qb, .int .i64 qm] rfl rfl 23 _ HA.out (by kernel_rfl) rfl (by simp [Value.oneCell']) ?_
          have HA := Lib.hid (HA.out.setRow #[.int .i64 QX, .int .i64 QV, .int .i64 QA, .int .i64 QB, .int .i64 QC, .bool qb, .int .i64 qm])
          have HP1 := Lib.hid (HP1.out.setRow_other (g' := gb) (by omega) #[.int .i64 QX, .int .i64 QV, .int .i64 QA, .int .i64 QB, .int .i64 QC, .bool qb, .int .i64 qm])
          have HU := Lib.hid (HU.out.setRow_other (g' := gb) (by omega) #[.int .i64 QX, .int .i64 QV, .int .i64 QA, .int .i64 QB, .int .i64 QC, .bool qb, .int .i64 qm])
          have HR := Lib.hid (HR.out.setRow_other (g' := gb) (by omega) #[.int .i64 QX, .int .i64 QV, .int .i64 QA, .int .i64 QB, .int .i64 QC, .bool qb, .int .i64 qm])
          have HB := Lib.hid (below_setRow HB.out (show w.heap.size ≤ gb by omega) #[.int .i64 QX, .int .i64 QV, .int .i64 QA, .int .i64 QB, .int .i64 QC, .bool qb, .int .i64 qm])
          generalize (w1.setRow gb #[.int .i64 QX, .int .i64 QV, .int .i64 QA, .int .i64 QB, .int .i64 QC, .bool qb, .int .i64 qm]) = w1 at *
          refine hK.out _ _ ?_
          clear hK K
          try simp only [Act.put, List.setIfInBounds_toArray, List.set_cons_zero, List.set_cons_succ]
          refine Rg.takeP (i := 12) (oi := { dst := some 12, op := Op.assign (Operand.tmp 38), type := 4, pos := "number.go:408", after := #[{ on := 9, ground := Ground.data }, { on := 11, ground := Ground.chain }, { on := 0, ground := Ground.phase }, { on := 1, ground := Ground.phase }, { on := 2, ground := Ground.phase }, { on := 3, ground := Ground.phase }, { on := 4, ground := Ground.phase }, { on := 5, ground := Ground.phase }, { on := 6, ground := Ground.phase }, { on := 7, ground := Ground.phase }, { on := 8, ground := Ground.phase }, { on := 9, ground := Ground.phase }, { on := 10, ground := Ground.phase }, { on := 11, ground := Ground.phase }], guard := none }) (v := ?_) rfl (by kernel_rfl) (fun _ _ _ h => h) (by rfl) ?_ ?_
          rotate_left 1
          · (intro w; go_simp; (try with_reducible rfl))
          try simp only [Act.put, List.setIfInBounds_toArray, List.set_cons_zero, List.set_cons_succ]
          refine Rg.doneR (by kernel_rfl) ?_ _
          refine NoPanic.normal ?_
          clear HS
          go_wp2_with fail
          go_meet
          exact ⟨_, rfl, rfl, by omega, HA.out, HR.out, HB.out⟩
        ·
          refine Rg.stepS ?_
          intro K hK
          go_simp
          have HA := Lib.hid (show Blk (w1.alloc (.cells #[.int .i64 0, .int .i64 0, .int .i64 0, .int .i64 0, .int .i64 0, .bool false, .int .i64 0] 23)) w1.heap.size 23 #[.int .i64 0, .int .i64 0, .int .i64 0, .int .i64 0, .int .i64 0, .bool false, .int .i64 0] from Blk.fresh _ _ _)
          have lHP1 := HP1.out.lt
          have lHU := HU.out.lt
          have lHR := HR.out.lt
          have HP1 := Lib.hid (HP1.out.alloc (.cells #[.int .i64 0, .int .i64 0, .int .i64 0, .int .i64 0, .int .i64 0, .bool false, .int .i64 0] 23))
          have HU := Lib.hid (HU.out.alloc (.cells #[.int .i64 0, .int .i64 0, .int .i64 0, .int .i64 0, .int .i64 0, .bool false, .int .i64 0] 23))
          have HR := Lib.hid (HR.out.alloc (.cells #[.int .i64 0, .int .i64 0, .int .i64 0, .int .i64 0, .int .i64 0, .bool false, .int .i64 0] 23))
          have HC := Lib.hid ((((Below.refl _ _).alloc (Nat.le_refl _) (.cells #[.int .i64 0, .int .i64 0, .int .i64 0, .int .i64 0, .int .i64 0, .bool false, .int .i64 0] 23)).cell (p := ⟨b, o + m, none⟩) (show b < w1.heap.size by omega)).trans HC.out)
          have HB := Lib.hid (HB.out.alloc HB.out.size (.cells #[.int .i64 0, .int .i64 0, .int .i64 0, .int .i64 0, .int .i64 0, .bool false, .int .i64 0] 23))
          have hsz : w.heap.size ≤ (w1.alloc (.cells #[.int .i64 0, .int .i64 0, .int .i64 0, .int .i64 0, .int .i64 0, .bool false, .int .i64 0] 23)).heap.size := by simp; omega
          obtain ⟨gb, hgb⟩ : ∃ g, w1.heap.size = g := ⟨_, rfl⟩
          rw [hgb] at HA lHP1 lHU lHR ⊢
          generalize (w1.alloc (.cells #[.int .i64 0, .int .i64 0, .int .i64 0, .int .i64 0, .int .i64 0, .bool false, .int .i64 0] 23)) = w1 at *
          clear HS
          have HS := And.intro HP1.out (And.intro HU.out HC.out)
          refine hK.out _ _ HS ?_
          clear hK K
          try simp only [Act.put, List.setIfInBounds_toArray, List.set_cons_zero, List.set_cons_succ]
          refine Rg.oneR (i := 6) (oi := { dst := some 36, op := Op.call { callee := Callee.value (Operand.func 19), args := #[Operand.tmp 30, Operand.tmp 31, Operand.tmp 35], argTypes := #[23, 29, 3] }, type := 24, pos := "number.go:408", after := #[{ on := 0, ground := Ground.data }, { on := 1, ground := Ground.data }, { on := 5, ground := Ground.data }], guard := none }) rfl (by kernel_rfl) ?_
          refine Rg.stepF ?_ ?_
          · kernel_rfl
          intro K hK
          rw [if_pos (by rfl)]
          go_simp
          go_at_call 19
          refine (reffstep_any ⟨PX, PV, PA, PB, PC, pb, pm⟩ dt q r gate z _ HI.out HD.out HK.out HL.out HG.out HZk.out).mono ?_
          rintro e w1 ⟨rfl, hb⟩
          rw [HQ.out]
          simp only [stV, stC]
          have HP1 := Lib.hid (HP1.out.below hb HP1.out.lt)
          have HU := Lib.hid (HU.out.below hb HU.out.lt)
          have HR := Lib.hid (HR.out.below hb HR.out.lt)
          have HA := Lib.hid (HA.out.below hb HA.out.lt)
          have HC := Lib.hid ((hb.cell (p := ⟨b, o + m, none⟩) (by show b < _; omega)).trans HC.out)
          have hsz := Nat.le_trans hsz hb.size
          have HB := Lib.hid (onward HB.out (Nat.le_refl _) hb)
          clear hb HS
          have HS := And.intro HP1.out (And.intro HU.out HC.out)
          go_wp2_with fail
          refine hK.out _ _ ?_
          clear hK K
          try simp only [Act.put, List.setIfInBounds_toArray, List.set_cons_zero, List.set_cons_succ]
          refine Rg.takeP (i := 7) (oi := { dst := some 29, op := Op.move (Operand.tmp 36), type := 24, pos := "number.go:408", after := #[{ on := 6, ground := Ground.data }], guard := none }) (v := ?_) rfl (by kernel_rfl) (fun _ _ _ h => h) (by rfl) ?_ ?_
          rotate_left 1
          · (intro w; go_simp; (try with_reducible rfl))
          try simp only [Act.put, List.setIfInBounds_toArray, List.set_cons_zero, List.set_cons_succ]
          refine Rg.takeP (i := 8) (oi := { dst := some 37, op := Op.extract (Operand.tmp 29) 0, type := 23, pos := "number.go:408", after := #[{ on := 7, ground := Ground.data }], guard := none }) (v := ?_) rfl (by kernel_rfl) (fun _ _ _ h => h) (by rfl) ?_ ?_
          rotate_left 1
          · (intro w; go_simp; (try with_reducible rfl))
          try simp only [Act.put, List.setIfInBounds_toArray, List.set_cons_zero, List.set_cons_succ]
          refine Rg.takeP (i := 9) (oi := { dst := some 38, op := Op.extract (Operand.tmp 29) 1, type := 4, pos := "number.go:408", after := #[{ on := 7, ground := Ground.data }, { on := 11, ground := Ground.gcOnly Departure.lateStores }], guard := none }) (v := ?_) rfl (by kernel_rfl) (fun _ _ _ h => h) (by rfl) ?_ ?_
          rotate_left 1
          · (intro w; go_simp; (try with_reducible rfl))
          try simp only [Act.put, List.setIfInBounds_toArray, List.set_cons_zero, List.set_cons_succ]
          refine Rg.oneR (i := 11) (oi := { dst := none, op := Op.store 23 (Operand.tmp 11) (Operand.tmp 37), type := 0, pos := "number.go:408", after := #[{ on := 10, ground := Ground.data }, { on := 8, ground := Ground.data }, { on := 6, ground := Ground.chain }, { on := 0, ground := Ground.phase }, { on := 1, ground := Ground.phase }, { on := 2, ground := Ground.phase }, { on := 3, ground := Ground.phase }, { on := 4, ground := Ground.phase }, { on := 5, ground := Ground.phase }, { on := 6, ground := Ground.phase }, { on := 7, ground := Ground.phase }, { on := 8, ground := Ground.phase }, { on := 9, ground := Ground.textOnly Departure.lateStores }, { on := 10, ground := Ground.phase }], guard := none }) rfl (by kernel_rfl) ?_
          refine Rg.stepF ?_ ?_
          · kernel_rfl
          intro K hK
          rw [if_pos (by rfl)]
          refine wp_store_row 23 _ _ rfl gb #[.int .i64 QX, .int .i64 QV, .int .i64 QA, .int .i64 QB, .int .i64 QC, .bool qb, .int .i64 qm] rfl rfl 23 _ HA.out (by kernel_rfl) rfl (by simp [Value.oneCell']) ?_
          have HA := Lib.hid (HA.out.setRow #[.int .i64 QX, .int .i64 QV, .int .i64 QA, .int .i64 QB, .int .i64 QC, .bool qb, .int .i64 qm])
          have HP1 := Lib.hid (HP1.out.setRow_other (g' := gb) (by omega) #[.int .i64 QX, .int .i64 QV, .int .i64 QA, .int .i64 QB, .int .i64 QC, .bool qb, .int .i64 qm])
          have HU := Lib.hid (HU.out.setRow_other (g' := gb) (by omega) #[.int .i64 QX, .int .i64 QV, .int .i64 QA, .int .i64 QB, .int .i64 QC, .bool qb, .int .i64 qm])
          have HR := Lib.hid (HR.out.setRow_other (g' := gb) (by omega) #[.int .i64 QX, .int .i64 QV, .int .i64 QA, .int .i64 QB, .int .i64 QC, .bool qb, .int .i64 qm])
          have HB := Lib.hid (below_setRow HB.out (show w.heap.size ≤ gb by omega) #[.int .i64 QX, .int .i64 QV, .int .i64 QA, .int .i64 QB, .int .i64 QC, .bool qb, .int .i64 qm])
          generalize (w1.setRow gb #[.int .i64 QX, .int .i64 QV, .int .i64 QA, .int .i64 QB, .int .i64 QC, .bool qb, .int .i64 qm]) = w1 at *
          refine hK.out _ _ ?_
          clear hK K
          try simp only [Act.put, List.setIfInBounds_toArray, List.set_cons_zero, List.set_cons_succ]
          refine Rg.takeP (i := 12) (oi := { dst := some 12, op := Op.assign (Operand.tmp 38), type := 4, pos := "number.go:408", after := #[{ on := 9, ground := Ground.data }, { on := 11, ground := Ground.chain }, { on := 0, ground := Ground.phase }, { on := 1, ground := Ground.phase }, { on := 2, ground := Ground.phase }, { on := 3, ground := Ground.phase }, { on := 4, ground := Ground.phase }, { on := 5, ground := Ground.phase }, { on := 6, ground := Ground.phase }, { on := 7, ground := Ground.phase }, { on := 8, ground := Ground.phase }, { on := 9, ground := Ground.phase }, { on := 10, ground := Ground.phase }, { on := 11, ground := Ground.phase }], guard := none }) (v := ?_) rfl (by kernel_rfl) (fun _ _ _ h => h) (by rfl) ?_ ?_
          rotate_left 1
          · (intro w; go_simp; (try with_reducible rfl))
          try simp only [Act.put, List.setIfInBounds_toArray, List.set_cons_zero, List.set_cons_succ]
          refine Rg.doneR (by kernel_rfl) ?_ _
          refine NoPanic.normal ?_
          clear HS
          go_wp2_with fail
          go_meet
          exact ⟨_, rfl, rfl, by omega, HA.out, HR.out, HB.out⟩
      case rest =>
        obtain ⟨gb, rfl, rfl, hgb, ha, hr, hb⟩ := hcut
        have HA := Lib.hid ha
        have HR := Lib.hid hr
        have HB := Lib.hid hb
        clear ha hr hb
        cases qt
        all_goals
          go_wp2_with (first | (refine wpList_whole rfl 23 _ rfl gb rfl HA.out _ Try.underlying23 rfl (by kernel_rfl) ?_) | (refine wpList_store_row rfl 23 _ _ rfl gr #[.int .i64 QX, .int .i64 QV, .int .i64 QA, .int .i64 QB, .int .i64 QC, .bool qb, .int .i64 qm] rfl rfl 23 _ HR.out (by kernel_rfl) rfl (by simp [Value.oneCell']) ?_))
        · refine ret_row2 (x := .int .i64 n) rfl rfl rfl (HR.out.setRow #[.int .i64 QX, .int .i64 QV, .int .i64 QA, .int .i64 QB, .int .i64 QC, .bool qb, .int .i64 qm]) ⟨by rw [Try.underlying23], by kernel_rfl⟩ rfl ?_
          exact ⟨by rw [HT.out]; rfl, below_setRow HB.out (by omega) _⟩
        · refine ret_row2 (x := .int .i64 (n + 1)) rfl rfl rfl (HR.out.setRow #[.int .i64 QX, .int .i64 QV, .int .i64 QA, .int .i64 QB, .int .i64 QC, .bool qb, .int .i64 qm]) ⟨by rw [Try.underlying23], by kernel_rfl⟩ rfl ?_
          exact ⟨by rw [HT.out]; rfl, below_setRow HB.out (by omega) _⟩
end Go.Proofs.Ytajhkbdaoakogaa.BigW
