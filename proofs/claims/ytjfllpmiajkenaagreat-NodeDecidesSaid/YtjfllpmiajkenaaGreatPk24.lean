import Derived.Test.YtjfllpmiajkenaaGreatPk23
namespace Go.Proofs.YtjfllpmiajkenaaGreat.BigW
open Go.RowKit Go.Proofs.YtjfllpmiajkenaaGreat.Mem Go.Proofs.YtjfllpmiajkenaaGreat.BigLaw Go.Proofs.YtjfllpmiajkenaaGreat.Rws
set_option linter.unusedVariables false
set_option linter.unusedSimpArgs false
set_option maxRecDepth 100000 in
set_option maxHeartbeats 8000000 in
theorem refupdate_any (s : St) (z r gate : Int) (w : World) (hs : StIn s) (r_z : In64 z) (r_r : In64 r) (r_gate : In64 gate) :
    Calls Tryz.prog 68 #[stV s, .int .i64 z, .int .i64 r, .int .i64 gate] w fun e w' => GaveSt2 w w' (update s z r gate) e := by
  obtain ⟨X, V, P00, P01, P11, bent, missed⟩ := s
  obtain ⟨r_X, r_V, r_P00, r_P01, r_P11⟩ := hs
  simp only at r_X r_V r_P00 r_P01 r_P11
  unfold stV stC
  have HB := Lib.hid (show Below w.heap.size w (((w.alloc (.cells #[.int .i64 X, .int .i64 V, .int .i64 P00, .int .i64 P01, .int .i64 P11, .bool bent, .int .i64 missed] 25)).alloc (.cells #[.int .i64 0, .int .i64 0, .int .i64 0, .int .i64 0, .int .i64 0, .bool false, .int .i64 0] 25)).alloc (.cells #[.bool bent] 154)) from (((Below.refl _ _).alloc (Nat.le_refl _) _).alloc (by simp) _).alloc (by simp; omega) _)
  have HST := Lib.hid (show StAt (((w.alloc (.cells #[.int .i64 X, .int .i64 V, .int .i64 P00, .int .i64 P01, .int .i64 P11, .bool bent, .int .i64 missed] 25)).alloc (.cells #[.int .i64 0, .int .i64 0, .int .i64 0, .int .i64 0, .int .i64 0, .bool false, .int .i64 0] 25)).alloc (.cells #[.bool bent] 154)) w.heap.size ⟨X, V, P00, P01, P11, bent, missed⟩ from ((Blk.new rfl).alloc _).alloc _)
  have HK := Lib.hid (show Bent (((w.alloc (.cells #[.int .i64 X, .int .i64 V, .int .i64 P00, .int .i64 P01, .int .i64 P11, .bool bent, .int .i64 missed] 25)).alloc (.cells #[.int .i64 0, .int .i64 0, .int .i64 0, .int .i64 0, .int .i64 0, .bool false, .int .i64 0] 25)).alloc (.cells #[.bool bent] 154)) 154 (w.heap.size + 1 + 1) bent from Blk.new (by simp))
  have HR := Lib.hid (show Blk (((w.alloc (.cells #[.int .i64 X, .int .i64 V, .int .i64 P00, .int .i64 P01, .int .i64 P11, .bool bent, .int .i64 missed] 25)).alloc (.cells #[.int .i64 0, .int .i64 0, .int .i64 0, .int .i64 0, .int .i64 0, .bool false, .int .i64 0] 25)).alloc (.cells #[.bool bent] 154)) (w.heap.size + 1) 25 #[.int .i64 0, .int .i64 0, .int .i64 0, .int .i64 0, .int .i64 0, .bool false, .int .i64 0] from (Blk.new (by simp)).alloc _)
  have hsz : w.heap.size + 3 ≤ (((w.alloc (.cells #[.int .i64 X, .int .i64 V, .int .i64 P00, .int .i64 P01, .int .i64 P11, .bool bent, .int .i64 missed] 25)).alloc (.cells #[.int .i64 0, .int .i64 0, .int .i64 0, .int .i64 0, .int .i64 0, .bool false, .int .i64 0] 25)).alloc (.cells #[.bool bent] 154)).heap.size := by simp
  obtain ⟨⟨y, yb⟩, h_y⟩ : ∃ res_, fsub z X = res_ := ⟨_, rfl⟩
  have Y_ := Lib.hid h_y
  have r_y : In64 y := by have h := fsub_range z X; rw [h_y] at h; exact h
  clear h_y
  obtain ⟨⟨wd, wdb⟩, h_wd⟩ : ∃ res_, fadd P00 r = res_ := ⟨_, rfl⟩
  have WD_ := Lib.hid h_wd
  have r_wd : In64 wd := by have h := fadd_range P00 r; rw [h_wd] at h; exact h
  clear h_wd
  obtain ⟨⟨yy, yyb⟩, h_yy⟩ : ∃ res_, fmul y y = res_ := ⟨_, rfl⟩
  have YY_ := Lib.hid h_yy
  have r_yy : In64 yy := by have h := fmul_range y y; rw [h_yy] at h; exact h
  clear h_yy
  obtain ⟨⟨gq, gqb⟩, h_gq⟩ : ∃ res_, fmul gate wd = res_ := ⟨_, rfl⟩
  have GQ_ := Lib.hid h_gq
  have r_gq : In64 gq := by have h := fmul_range gate wd; rw [h_gq] at h; exact h
  clear h_gq
  obtain ⟨⟨kq, kqb⟩, h_kq⟩ : ∃ res_, fdiv P00 wd = res_ := ⟨_, rfl⟩
  have KQ_ := Lib.hid h_kq
  have r_kq : In64 kq := by have h := fdiv_range P00 wd; rw [h_kq] at h; exact h
  clear h_kq
  obtain ⟨⟨lq, lqb⟩, h_lq⟩ : ∃ res_, fdiv P01 wd = res_ := ⟨_, rfl⟩
  have LQ_ := Lib.hid h_lq
  have r_lq : In64 lq := by have h := fdiv_range P01 wd; rw [h_lq] at h; exact h
  clear h_lq
  obtain ⟨⟨m1, m1b⟩, h_m1⟩ : ∃ res_, fmul kq y = res_ := ⟨_, rfl⟩
  have M1_ := Lib.hid h_m1
  have r_m1 : In64 m1 := by have h := fmul_range kq y; rw [h_m1] at h; exact h
  clear h_m1
  obtain ⟨⟨x, xb⟩, h_x⟩ : ∃ res_, fadd X m1 = res_ := ⟨_, rfl⟩
  have X_ := Lib.hid h_x
  have r_x : In64 x := by have h := fadd_range X m1; rw [h_x] at h; exact h
  clear h_x
  obtain ⟨⟨m2, m2b⟩, h_m2⟩ : ∃ res_, fmul lq y = res_ := ⟨_, rfl⟩
  have M2_ := Lib.hid h_m2
  have r_m2 : In64 m2 := by have h := fmul_range lq y; rw [h_m2] at h; exact h
  clear h_m2
  obtain ⟨⟨v, vb⟩, h_v⟩ : ∃ res_, fadd V m2 = res_ := ⟨_, rfl⟩
  have V_ := Lib.hid h_v
  have r_v : In64 v := by have h := fadd_range V m2; rw [h_v] at h; exact h
  clear h_v
  obtain ⟨⟨m3, m3b⟩, h_m3⟩ : ∃ res_, fmul kq P00 = res_ := ⟨_, rfl⟩
  have M3_ := Lib.hid h_m3
  have r_m3 : In64 m3 := by have h := fmul_range kq P00; rw [h_m3] at h; exact h
  clear h_m3
  obtain ⟨⟨p0, p0b⟩, h_p0⟩ : ∃ res_, fsub P00 m3 = res_ := ⟨_, rfl⟩
  have P0_ := Lib.hid h_p0
  have r_p0 : In64 p0 := by have h := fsub_range P00 m3; rw [h_p0] at h; exact h
  clear h_p0
  obtain ⟨⟨m4, m4b⟩, h_m4⟩ : ∃ res_, fmul kq P01 = res_ := ⟨_, rfl⟩
  have M4_ := Lib.hid h_m4
  have r_m4 : In64 m4 := by have h := fmul_range kq P01; rw [h_m4] at h; exact h
  clear h_m4
  obtain ⟨⟨p1, p1b⟩, h_p1⟩ : ∃ res_, fsub P01 m4 = res_ := ⟨_, rfl⟩
  have P1_ := Lib.hid h_p1
  have r_p1 : In64 p1 := by have h := fsub_range P01 m4; rw [h_p1] at h; exact h
  clear h_p1
  obtain ⟨⟨m5, m5b⟩, h_m5⟩ : ∃ res_, fmul lq P01 = res_ := ⟨_, rfl⟩
  have M5_ := Lib.hid h_m5
  have r_m5 : In64 m5 := by have h := fmul_range lq P01; rw [h_m5] at h; exact h
  clear h_m5
  obtain ⟨⟨p2, p2b⟩, h_p2⟩ : ∃ res_, fsub P11 m5 = res_ := ⟨_, rfl⟩
  have P2_ := Lib.hid h_p2
  have r_p2 : In64 p2 := by have h := fsub_range P11 m5; rw [h_p2] at h; exact h
  clear h_p2
  obtain ⟨mw, hmw⟩ : ∃ m, IntKind.i64.wrap (missed + 1) = m := ⟨_, rfl⟩
  go_enter Tryz.func68, Tryz.ntmps68
  go_upto_region 2 with fail
  generalize (((w.alloc (.cells #[.int .i64 X, .int .i64 V, .int .i64 P00, .int .i64 P01, .int .i64 P11, .bool bent, .int .i64 missed] 25)).alloc (.cells #[.int .i64 0, .int .i64 0, .int .i64 0, .int .i64 0, .int .i64 0, .bool false, .int .i64 0] 25)).alloc (.cells #[.bool bent] 154)) = w1 at *
  obtain ⟨gk, hgk⟩ : ∃ g, w.heap.size + 1 + 1 = g := ⟨_, rfl⟩
  rw [hgk] at HK ⊢
  obtain ⟨gr, hgr⟩ : ∃ g, w.heap.size + 1 = g := ⟨_, rfl⟩
  rw [hgr] at HR ⊢
  (try clear k0 k1 k2 k3 k4 k5 k6)
  (try clear kh)
  obtain ⟨k0, k1, k2, k3, k4, k5, k6⟩ := st_cells HST.out
  go_wp2_with fail
  refine (rsub_any gk _ z X _ HK.out r_z r_X).mono ?_
  intro e w1 hc
  rw [Y_.out] at hc
  obtain ⟨rfl, hst, hg⟩ := hc
  dsimp only at hst
  have HK := Lib.hid hst
  have HR := Lib.hid (HR.out.grown hg (neq_of (by omega)))
  have HST := Lib.hid (Blk.grown HST.out hg (neq_of (by omega)))
  have HB := Lib.hid (below_grown HB.out (Nat.le_refl _) hg (fun g e => by injection e with e; omega))
  replace hsz := Nat.le_trans hsz hg.size
  clear hst hg
  (try clear k0 k1 k2 k3 k4 k5 k6)
  (try clear kh)
  obtain ⟨k0, k1, k2, k3, k4, k5, k6⟩ := st_cells HST.out
  go_wp2_with fail
  refine (radd_any gk _ P00 r _ HK.out r_P00 r_r).mono ?_
  intro e w1 hc
  rw [WD_.out] at hc
  obtain ⟨rfl, hst, hg⟩ := hc
  dsimp only at hst
  have HK := Lib.hid hst
  have HR := Lib.hid (HR.out.grown hg (neq_of (by omega)))
  have HST := Lib.hid (Blk.grown HST.out hg (neq_of (by omega)))
  have HB := Lib.hid (below_grown HB.out (Nat.le_refl _) hg (fun g e => by injection e with e; omega))
  replace hsz := Nat.le_trans hsz hg.size
  clear hst hg
  (try clear k0 k1 k2 k3 k4 k5 k6)
  (try clear kh)
  obtain ⟨k0, k1, k2, k3, k4, k5, k6⟩ := st_cells HST.out
  by_cases hA : wd ≤ 0
  · have hA' : wd < 1 := by omega
    go_upto_region 5 with fail
    obtain ⟨f0, f1, f2, f3, f4, f5, f6⟩ := st_thaws HST.out
    obtain ⟨j0, j1, j2, j3, j4, j5, j6⟩ := st_cells HST.out
    go_upto_region 6 with fail
    have HG := Lib.hid (show Blk (w1.setCell ⟨w.heap.size, 6, none⟩ (.int .i64 mw)) w.heap.size 25 #[.int .i64 X, .int .i64 V, .int .i64 P00, .int .i64 P01, .int .i64 P11, .bool bent, .int .i64 mw] from Blk.set HST.out 6 (.int .i64 mw))
    have HR := Lib.hid (HR.out.other (p := ⟨w.heap.size, 6, none⟩) (by show _ ≠ w.heap.size; omega) (.int .i64 mw))
    have HB := Lib.hid (HB.out.setCell (p := ⟨w.heap.size, 6, none⟩) (by show _ ≤ w.heap.size; omega) (.int .i64 mw))
    clear f0 f1 f2 f3 f4 f5 f6 j0 j1 j2 j3 j4 j5 j6 k0 k1 k2 k3 k4 k5 k6
    (try clear kh)
    generalize (w1.setCell ⟨w.heap.size, 6, none⟩ (.int .i64 mw)) = w1 at *
    have HF := Lib.hid (show update ⟨X, V, P00, P01, P11, bent, missed⟩ z r gate = (⟨X, V, P00, P01, P11, bent, mw⟩, false) by simp only [update, Y_.out, WD_.out, YY_.out, GQ_.out]; rw [if_pos (Or.inl hA), hmw])
    go_wp2_with (first | (refine wpList_whole rfl 25 _ rfl w.heap.size rfl HG.out _ Tryz.underlying25 rfl (by kernel_rfl) ?_) | (refine wpList_store_row rfl 25 _ _ rfl gr #[.int .i64 X, .int .i64 V, .int .i64 P00, .int .i64 P01, .int .i64 P11, .bool bent, .int .i64 mw] rfl rfl 25 _ HR.out (by kernel_rfl) rfl (by simp [Value.oneCell']) ?_))
    refine ret_row2 (x := .bool false) rfl rfl rfl (HR.out.setRow #[.int .i64 X, .int .i64 V, .int .i64 P00, .int .i64 P01, .int .i64 P11, .bool bent, .int .i64 mw]) ⟨by rw [Tryz.underlying25], by kernel_rfl⟩ rfl ?_
    rw [HF.out]
    exact ⟨rfl, below_setRow HB.out (by omega) _⟩
  · have hA' : 1 ≤ wd := by omega
    go_wp2_with fail
    refine (rmul_any gk _ y y _ HK.out r_y r_y).mono ?_
    intro e w1 hc
    rw [YY_.out] at hc
    obtain ⟨rfl, hst, hg⟩ := hc
    dsimp only at hst
    have HK := Lib.hid hst
    have HR := Lib.hid (HR.out.grown hg (neq_of (by omega)))
    have HST := Lib.hid (Blk.grown HST.out hg (neq_of (by omega)))
    have HB := Lib.hid (below_grown HB.out (Nat.le_refl _) hg (fun g e => by injection e with e; omega))
    replace hsz := Nat.le_trans hsz hg.size
    clear hst hg
    (try clear k0 k1 k2 k3 k4 k5 k6)
    (try clear kh)
    obtain ⟨k0, k1, k2, k3, k4, k5, k6⟩ := st_cells HST.out
    go_wp2_with fail
    refine (rmul_any gk _ gate wd _ HK.out r_gate r_wd).mono ?_
    intro e w1 hc
    rw [GQ_.out] at hc
    obtain ⟨rfl, hst, hg⟩ := hc
    dsimp only at hst
    have HK := Lib.hid hst
    have HR := Lib.hid (HR.out.grown hg (neq_of (by omega)))
    have HST := Lib.hid (Blk.grown HST.out hg (neq_of (by omega)))
    have HB := Lib.hid (below_grown HB.out (Nat.le_refl _) hg (fun g e => by injection e with e; omega))
    replace hsz := Nat.le_trans hsz hg.size
    clear hst hg
    (try clear k0 k1 k2 k3 k4 k5 k6)
    (try clear kh)
    obtain ⟨k0, k1, k2, k3, k4, k5, k6⟩ := st_cells HST.out
    by_cases hC : gq < yy
    · go_upto_region 5 with fail
      obtain ⟨f0, f1, f2, f3, f4, f5, f6⟩ := st_thaws HST.out
      obtain ⟨j0, j1, j2, j3, j4, j5, j6⟩ := st_cells HST.out
      go_upto_region 6 with fail
      have HG := Lib.hid (show Blk (w1.setCell ⟨w.heap.size, 6, none⟩ (.int .i64 mw)) w.heap.size 25 #[.int .i64 X, .int .i64 V, .int .i64 P00, .int .i64 P01, .int .i64 P11, .bool bent, .int .i64 mw] from Blk.set HST.out 6 (.int .i64 mw))
      have HR := Lib.hid (HR.out.other (p := ⟨w.heap.size, 6, none⟩) (by show _ ≠ w.heap.size; omega) (.int .i64 mw))
      have HB := Lib.hid (HB.out.setCell (p := ⟨w.heap.size, 6, none⟩) (by show _ ≤ w.heap.size; omega) (.int .i64 mw))
      clear f0 f1 f2 f3 f4 f5 f6 j0 j1 j2 j3 j4 j5 j6 k0 k1 k2 k3 k4 k5 k6
      (try clear kh)
      generalize (w1.setCell ⟨w.heap.size, 6, none⟩ (.int .i64 mw)) = w1 at *
      have HF := Lib.hid (show update ⟨X, V, P00, P01, P11, bent, missed⟩ z r gate = (⟨X, V, P00, P01, P11, bent, mw⟩, false) by simp only [update, Y_.out, WD_.out, YY_.out, GQ_.out]; rw [if_pos (Or.inr hC), hmw])
      go_wp2_with (first | (refine wpList_whole rfl 25 _ rfl w.heap.size rfl HG.out _ Tryz.underlying25 rfl (by kernel_rfl) ?_) | (refine wpList_store_row rfl 25 _ _ rfl gr #[.int .i64 X, .int .i64 V, .int .i64 P00, .int .i64 P01, .int .i64 P11, .bool bent, .int .i64 mw] rfl rfl 25 _ HR.out (by kernel_rfl) rfl (by simp [Value.oneCell']) ?_))
      refine ret_row2 (x := .bool false) rfl rfl rfl (HR.out.setRow #[.int .i64 X, .int .i64 V, .int .i64 P00, .int .i64 P01, .int .i64 P11, .bool bent, .int .i64 mw]) ⟨by rw [Tryz.underlying25], by kernel_rfl⟩ rfl ?_
      rw [HF.out]
      exact ⟨rfl, below_setRow HB.out (by omega) _⟩
    · have hC' : yy ≤ gq := by omega
      go_wp2_with fail
      refine (rdiv_any gk _ P00 wd _ HK.out r_P00 r_wd).mono ?_
      intro e w1 hc
      rw [KQ_.out] at hc
      obtain ⟨rfl, hst, hg⟩ := hc
      dsimp only at hst
      have HK := Lib.hid hst
      have HR := Lib.hid (HR.out.grown hg (neq_of (by omega)))
      have HST := Lib.hid (Blk.grown HST.out hg (neq_of (by omega)))
      have HB := Lib.hid (below_grown HB.out (Nat.le_refl _) hg (fun g e => by injection e with e; omega))
      replace hsz := Nat.le_trans hsz hg.size
      clear hst hg
      (try clear k0 k1 k2 k3 k4 k5 k6)
      (try clear kh)
      obtain ⟨k0, k1, k2, k3, k4, k5, k6⟩ := st_cells HST.out
      go_wp2_with fail
      refine (rdiv_any gk _ P01 wd _ HK.out r_P01 r_wd).mono ?_
      intro e w1 hc
      rw [LQ_.out] at hc
      obtain ⟨rfl, hst, hg⟩ := hc
      dsimp only at hst
      have HK := Lib.hid hst
      have HR := Lib.hid (HR.out.grown hg (neq_of (by omega)))
      have HST := Lib.hid (Blk.grown HST.out hg (neq_of (by omega)))
      have HB := Lib.hid (below_grown HB.out (Nat.le_refl _) hg (fun g e => by injection e with e; omega))
      replace hsz := Nat.le_trans hsz hg.size
      clear hst hg
      (try clear k0 k1 k2 k3 k4 k5 k6)
      (try clear kh)
      obtain ⟨k0, k1, k2, k3, k4, k5, k6⟩ := st_cells HST.out
      have HG := Lib.hid (show Blk w1 w.heap.size 25 #[.int .i64 X, .int .i64 V, .int .i64 P00, .int .i64 P01, .int .i64 P11, .bool bent, .int .i64 missed] from HST.out)
      go_upto_region 10 with (refine wpList_whole rfl 25 _ rfl w.heap.size rfl HG.out _ Tryz.underlying25 rfl (by kernel_rfl) ?_)
      clear HG
      have HN := Lib.hid (show StAt (w1.alloc (.cells #[.int .i64 X, .int .i64 V, .int .i64 P00, .int .i64 P01, .int .i64 P11, .bool bent, .int .i64 missed] 25)) w1.heap.size ⟨X, V, P00, P01, P11, bent, missed⟩ from Blk.fresh _ _ _)
      have HST := Lib.hid (show StAt (w1.alloc (.cells #[.int .i64 X, .int .i64 V, .int .i64 P00, .int .i64 P01, .int .i64 P11, .bool bent, .int .i64 missed] 25)) w.heap.size ⟨X, V, P00, P01, P11, bent, missed⟩ from Blk.alloc HST.out _)
      have HK := Lib.hid (Blk.alloc HK.out (.cells #[.int .i64 X, .int .i64 V, .int .i64 P00, .int .i64 P01, .int .i64 P11, .bool bent, .int .i64 missed] 25))
      have HR := Lib.hid (HR.out.alloc (.cells #[.int .i64 X, .int .i64 V, .int .i64 P00, .int .i64 P01, .int .i64 P11, .bool bent, .int .i64 missed] 25))
      have HB := Lib.hid (HB.out.alloc (by omega) (.cells #[.int .i64 X, .int .i64 V, .int .i64 P00, .int .i64 P01, .int .i64 P11, .bool bent, .int .i64 missed] 25))
      obtain ⟨gn, hgn⟩ : ∃ g, w1.heap.size = g := ⟨_, rfl⟩
      have hgn1 : w.heap.size + 3 ≤ gn := by omega
      replace hsz : w.heap.size + 3 ≤ (w1.alloc (.cells #[.int .i64 X, .int .i64 V, .int .i64 P00, .int .i64 P01, .int .i64 P11, .bool bent, .int .i64 missed] 25)).heap.size := by simp; omega
      rw [hgn] at HN ⊢
      clear hgn
      generalize (w1.alloc (.cells #[.int .i64 X, .int .i64 V, .int .i64 P00, .int .i64 P01, .int .i64 P11, .bool bent, .int .i64 missed] 25)) = w1 at *
      (try clear k0 k1 k2 k3 k4 k5 k6)
      (try clear kh)
      obtain ⟨k0, k1, k2, k3, k4, k5, k6⟩ := st_cells HST.out
      have HST := Lib.hid (Blk.drew HST.out)
      have HR := Lib.hid (HR.out.drew)
      have HK := Lib.hid (Blk.drew HK.out)
      have HN := Lib.hid (Blk.drew HN.out)
      have HB := Lib.hid HB.out.drew
      have hsz : w.heap.size + 3 ≤ w1.drew.heap.size := hsz
      (try clear k0 k1 k2 k3 k4 k5 k6)
      (try clear kh)
      obtain ⟨k0, k1, k2, k3, k4, k5, k6⟩ := st_cells HST.out
      have HS := And.intro k0 (And.intro k1 (And.intro k2 (And.intro k3 k4)))
      refine wp_region_noPanic ?_
      refine Rg.beginR [2] (fun w' => w'.cell? ⟨w.heap.size, 0, none⟩ = some (.int .i64 X) ∧ w'.cell? ⟨w.heap.size, 1, none⟩ = some (.int .i64 V) ∧ w'.cell? ⟨w.heap.size, 2, none⟩ = some (.int .i64 P00) ∧ w'.cell? ⟨w.heap.size, 3, none⟩ = some (.int .i64 P01) ∧ w'.cell? ⟨w.heap.size, 4, none⟩ = some (.int .i64 P11)) (by kernel_rfl) ?_
      generalize w1.drew = w1 at *
      refine Rg.takeP (i := 0) (oi := { dst := some 59, op := Op.move (Operand.tmp 10), type := 152, pos := "number.go:386", after := #[], guard := none }) (v := ?_) rfl (by kernel_rfl) (fun _ _ _ h => h) (by rfl) ?_ ?_
      rotate_left 1
      · (intro w; go_simp; (try with_reducible rfl))
      try simp only [Act.put, List.setIfInBounds_toArray, List.set_cons_zero, List.set_cons_succ]
      refine Rg.takeP (i := 1) (oi := { dst := some 60, op := Op.fieldAddr 25 (Operand.tmp 4) 0, type := 0, pos := "number.go:386", after := #[], guard := none }) (v := ?_) rfl (by kernel_rfl) (fun _ _ _ h => h) (by rfl) ?_ ?_
      rotate_left 1
      · (intro w; go_simp; (try with_reducible rfl))
      try simp only [Act.put, List.setIfInBounds_toArray, List.set_cons_zero, List.set_cons_succ]
      refine Rg.takeS (i := 2) (oi := { dst := some 61, op := Op.load 3 (Operand.tmp 60), type := 3, pos := "number.go:386", after := #[{ on := 1, ground := Ground.data }], guard := none }) (v := ?_) rfl (by kernel_rfl) (fun _ _ _ h => h) (by rfl) HS ?_ ?_
      rotate_left 1
      · (intro w hSw; (try dsimp only at hSw); (try go_split_ands); go_simp; (try with_reducible rfl))
      try simp only [Act.put, List.setIfInBounds_toArray, List.set_cons_zero, List.set_cons_succ]
      refine Rg.takeP (i := 3) (oi := { dst := some 62, op := Op.move (Operand.tmp 10), type := 152, pos := "number.go:386", after := #[], guard := none }) (v := ?_) rfl (by kernel_rfl) (fun _ _ _ h => h) (by rfl) ?_ ?_
      rotate_left 1
      · (intro w; go_simp; (try with_reducible rfl))
      try simp only [Act.put, List.setIfInBounds_toArray, List.set_cons_zero, List.set_cons_succ]
      refine Rg.takeP (i := 4) (oi := { dst := some 63, op := Op.move (Operand.tmp 13), type := 3, pos := "number.go:386", after := #[], guard := none }) (v := ?_) rfl (by kernel_rfl) (fun _ _ _ h => h) (by rfl) ?_ ?_
      rotate_left 1
      · (intro w; go_simp; (try with_reducible rfl))
      try simp only [Act.put, List.setIfInBounds_toArray, List.set_cons_zero, List.set_cons_succ]
      refine Rg.takeP (i := 5) (oi := { dst := some 64, op := Op.move (Operand.tmp 11), type := 3, pos := "number.go:386", after := #[], guard := none }) (v := ?_) rfl (by kernel_rfl) (fun _ _ _ h => h) (by rfl) ?_ ?_
      rotate_left 1
      · (intro w; go_simp; (try with_reducible rfl))
      try simp only [Act.put, List.setIfInBounds_toArray, List.set_cons_zero, List.set_cons_succ]
      refine Rg.oneR (i := 6) (oi := { dst := some 65, op := Op.call { callee := Callee.value (Operand.func 101), args := #[Operand.tmp 62, Operand.tmp 63, Operand.tmp 64], argTypes := #[152, 3, 3] }, type := 3, pos := "number.go:386", after := #[{ on := 3, ground := Ground.data }, { on := 4, ground := Ground.data }, { on := 5, ground := Ground.data }], guard := none }) rfl (by kernel_rfl) ?_
      refine Rg.stepS ?_
      intro K hK
      rw [if_pos (by rfl)]
      go_simp
      go_at_call 101
      refine (rmul_any gk _ kq y _ HK.out r_kq r_y).mono ?_
      intro e w1 hc
      rw [M1_.out] at hc
      obtain ⟨rfl, hst, hg⟩ := hc
      dsimp only at hst
      have HK := Lib.hid hst
      have HR := Lib.hid (HR.out.grown hg (neq_of (by omega)))
      have HST := Lib.hid (Blk.grown HST.out hg (neq_of (by omega)))
      have HN := Lib.hid (Blk.grown HN.out hg (neq_of (by omega)))
      have HB := Lib.hid (below_grown HB.out (Nat.le_refl _) hg (fun g e => by injection e with e; omega))
      replace hsz := Nat.le_trans hsz hg.size
      clear hst hg
      (try clear k0 k1 k2 k3 k4 k5 k6)
      (try clear kh)
      obtain ⟨k0, k1, k2, k3, k4, k5, k6⟩ := st_cells HST.out
      clear HS
      have HS := And.intro k0 (And.intro k1 (And.intro k2 (And.intro k3 k4)))
      go_wp2_with fail
      refine hK.out _ _ HS ?_
      clear hK K
      try simp only [Act.put, List.setIfInBounds_toArray, List.set_cons_zero, List.set_cons_succ]
      refine Rg.oneR (i := 7) (oi := { dst := some 66, op := Op.call { callee := Callee.value (Operand.func 100), args := #[Operand.tmp 59, Operand.tmp 61, Operand.tmp 65], argTypes := #[152, 3, 3] }, type := 3, pos := "number.go:386", after := #[{ on := 0, ground := Ground.data }, { on := 2, ground := Ground.data }, { on := 6, ground := Ground.data }, { on := 6, ground := Ground.chain }], guard := none }) rfl (by kernel_rfl) ?_
      refine Rg.stepF ?_ ?_
      · kernel_rfl
      intro K hK
      rw [if_pos (by rfl)]
      go_simp
      go_at_call 100
      refine (radd_any gk _ X m1 _ HK.out r_X r_m1).mono ?_
      intro e w1 hc
      rw [X_.out] at hc
      obtain ⟨rfl, hst, hg⟩ := hc
      dsimp only at hst
      have HK := Lib.hid hst
      have HR := Lib.hid (HR.out.grown hg (neq_of (by omega)))
      have HST := Lib.hid (Blk.grown HST.out hg (neq_of (by omega)))
      have HN := Lib.hid (Blk.grown HN.out hg (neq_of (by omega)))
      have HB := Lib.hid (below_grown HB.out (Nat.le_refl _) hg (fun g e => by injection e with e; omega))
      replace hsz := Nat.le_trans hsz hg.size
      clear hst hg
      (try clear k0 k1 k2 k3 k4 k5 k6)
      (try clear kh)
      obtain ⟨k0, k1, k2, k3, k4, k5, k6⟩ := st_cells HST.out
      clear HS
      have HS := And.intro k0 (And.intro k1 (And.intro k2 (And.intro k3 k4)))
      obtain ⟨f0, f1, f2, f3, f4, f5, f6⟩ := st_thaws HN.out
      obtain ⟨j0, j1, j2, j3, j4, j5, j6⟩ := st_cells HN.out
      go_wp2_with fail
      refine hK.out _ _ ?_
      clear hK K
      try simp only [Act.put, List.setIfInBounds_toArray, List.set_cons_zero, List.set_cons_succ]
      refine Rg.takeP (i := 8) (oi := { dst := some 67, op := Op.fieldAddr 25 (Operand.tmp 15) 0, type := 0, pos := "number.go:386", after := #[{ on := 0, ground := Ground.phase }, { on := 1, ground := Ground.phase }, { on := 2, ground := Ground.phase }, { on := 3, ground := Ground.phase }, { on := 4, ground := Ground.phase }, { on := 5, ground := Ground.phase }, { on := 6, ground := Ground.phase }, { on := 7, ground := Ground.phase }], guard := none }) (v := ?_) rfl (by kernel_rfl) (fun _ _ _ h => h) (by rfl) ?_ ?_
      rotate_left 1
      · (intro w; go_simp; (try with_reducible rfl))
      try simp only [Act.put, List.setIfInBounds_toArray, List.set_cons_zero, List.set_cons_succ]
      refine Rg.oneR (i := 9) (oi := { dst := none, op := Op.store 3 (Operand.tmp 67) (Operand.tmp 66), type := 0, pos := "number.go:386", after := #[{ on := 8, ground := Ground.data }, { on := 7, ground := Ground.data }, { on := 7, ground := Ground.chain }, { on := 0, ground := Ground.phase }, { on := 1, ground := Ground.phase }, { on := 2, ground := Ground.phase }, { on := 3, ground := Ground.phase }, { on := 4, ground := Ground.phase }, { on := 5, ground := Ground.phase }, { on := 6, ground := Ground.phase }, { on := 7, ground := Ground.phase }], guard := none }) rfl (by kernel_rfl) ?_
      refine Rg.stepF ?_ ?_
      · kernel_rfl
      intro K hK
      go_simp
      refine hK.out _ _ ?_
      clear hK K
      try simp only [Act.put, List.setIfInBounds_toArray, List.set_cons_zero, List.set_cons_succ]
      refine Rg.doneR (by kernel_rfl) ?_ _
      refine NoPanic.normal ?_
      clear HS
      clear f0 f1 f2 f3 f4 f5 f6
      clear j0 j1 j2 j3 j4 j5 j6
      have HP := Lib.hid (show StAt (w1.setCell ⟨gn, 0, none⟩ (.int .i64 x)) gn ⟨x, V, P00, P01, P11, bent, missed⟩ from Blk.set HN.out 0 (.int .i64 x))
      have HR := Lib.hid (HR.out.other (p := ⟨gn, 0, none⟩) (by show _ ≠ gn; omega) (.int .i64 x))
      have HST := Lib.hid (Blk.other HST.out (p := ⟨gn, 0, none⟩) (by show _ ≠ gn; omega) (.int .i64 x))
      have HK := Lib.hid (Blk.other HK.out (p := ⟨gn, 0, none⟩) (by show _ ≠ gn; omega) (.int .i64 x))
      have HB := Lib.hid (HB.out.setCell (p := ⟨gn, 0, none⟩) (by show _ ≤ gn; omega) (.int .i64 x))
      replace hsz : w.heap.size + 3 ≤ (w1.setCell ⟨gn, 0, none⟩ (.int .i64 x)).heap.size := by simpa using hsz
      have HN := HP
      clear HP
      generalize (w1.setCell ⟨gn, 0, none⟩ (.int .i64 x)) = w1 at *
      (try clear k0 k1 k2 k3 k4 k5 k6)
      (try clear kh)
      obtain ⟨k0, k1, k2, k3, k4, k5, k6⟩ := st_cells HST.out
      go_upto_region 11 with fail
      have HST := Lib.hid (Blk.drew HST.out)
      have HR := Lib.hid (HR.out.drew)
      have HK := Lib.hid (Blk.drew HK.out)
      have HN := Lib.hid (Blk.drew HN.out)
      have HB := Lib.hid HB.out.drew
      have hsz : w.heap.size + 3 ≤ w1.drew.heap.size := hsz
      (try clear k0 k1 k2 k3 k4 k5 k6)
      (try clear kh)
      obtain ⟨k0, k1, k2, k3, k4, k5, k6⟩ := st_cells HST.out
      have HS := And.intro k0 (And.intro k1 (And.intro k2 (And.intro k3 k4)))
      refine wp_region_noPanic ?_
      refine Rg.beginR [2] (fun w' => w'.cell? ⟨w.heap.size, 0, none⟩ = some (.int .i64 X) ∧ w'.cell? ⟨w.heap.size, 1, none⟩ = some (.int .i64 V) ∧ w'.cell? ⟨w.heap.size, 2, none⟩ = some (.int .i64 P00) ∧ w'.cell? ⟨w.heap.size, 3, none⟩ = some (.int .i64 P01) ∧ w'.cell? ⟨w.heap.size, 4, none⟩ = some (.int .i64 P11)) (by kernel_rfl) ?_
      generalize w1.drew = w1 at *
      refine Rg.takeP (i := 0) (oi := { dst := some 68, op := Op.move (Operand.tmp 10), type := 152, pos := "number.go:387", after := #[], guard := none }) (v := ?_) rfl (by kernel_rfl) (fun _ _ _ h => h) (by rfl) ?_ ?_
      rotate_left 1
      · (intro w; go_simp; (try with_reducible rfl))
      try simp only [Act.put, List.setIfInBounds_toArray, List.set_cons_zero, List.set_cons_succ]
      refine Rg.takeP (i := 1) (oi := { dst := some 69, op := Op.fieldAddr 25 (Operand.tmp 4) 1, type := 0, pos := "number.go:387", after := #[], guard := none }) (v := ?_) rfl (by kernel_rfl) (fun _ _ _ h => h) (by rfl) ?_ ?_
      rotate_left 1
      · (intro w; go_simp; (try with_reducible rfl))
      try simp only [Act.put, List.setIfInBounds_toArray, List.set_cons_zero, List.set_cons_succ]
      refine Rg.takeS (i := 2) (oi := { dst := some 70, op := Op.load 3 (Operand.tmp 69), type := 3, pos := "number.go:387", after := #[{ on := 1, ground := Ground.data }], guard := none }) (v := ?_) rfl (by kernel_rfl) (fun _ _ _ h => h) (by rfl) HS ?_ ?_
      rotate_left 1
      · (intro w hSw; (try dsimp only at hSw); (try go_split_ands); go_simp; (try with_reducible rfl))
      try simp only [Act.put, List.setIfInBounds_toArray, List.set_cons_zero, List.set_cons_succ]
      refine Rg.takeP (i := 3) (oi := { dst := some 71, op := Op.move (Operand.tmp 10), type := 152, pos := "number.go:387", after := #[], guard := none }) (v := ?_) rfl (by kernel_rfl) (fun _ _ _ h => h) (by rfl) ?_ ?_
      rotate_left 1
      · (intro w; go_simp; (try with_reducible rfl))
      try simp only [Act.put, List.setIfInBounds_toArray, List.set_cons_zero, List.set_cons_succ]
      refine Rg.takeP (i := 4) (oi := { dst := some 72, op := Op.move (Operand.tmp 14), type := 3, pos := "number.go:387", after := #[], guard := none }) (v := ?_) rfl (by kernel_rfl) (fun _ _ _ h => h) (by rfl) ?_ ?_
      rotate_left 1
      · (intro w; go_simp; (try with_reducible rfl))
      try simp only [Act.put, List.setIfInBounds_toArray, List.set_cons_zero, List.set_cons_succ]
      refine Rg.takeP (i := 5) (oi := { dst := some 73, op := Op.move (Operand.tmp 11), type := 3, pos := "number.go:387", after := #[], guard := none }) (v := ?_) rfl (by kernel_rfl) (fun _ _ _ h => h) (by rfl) ?_ ?_
      rotate_left 1
      · (intro w; go_simp; (try with_reducible rfl))
      try simp only [Act.put, List.setIfInBounds_toArray, List.set_cons_zero, List.set_cons_succ]
      refine Rg.oneR (i := 6) (oi := { dst := some 74, op := Op.call { callee := Callee.value (Operand.func 101), args := #[Operand.tmp 71, Operand.tmp 72, Operand.tmp 73], argTypes := #[152, 3, 3] }, type := 3, pos := "number.go:387", after := #[{ on := 3, ground := Ground.data }, { on := 4, ground := Ground.data }, { on := 5, ground := Ground.data }], guard := none }) rfl (by kernel_rfl) ?_
      refine Rg.stepS ?_
      intro K hK
      rw [if_pos (by rfl)]
      go_simp
      go_at_call 101
      refine (rmul_any gk _ lq y _ HK.out r_lq r_y).mono ?_
      intro e w1 hc
      rw [M2_.out] at hc
      obtain ⟨rfl, hst, hg⟩ := hc
      dsimp only at hst
      have HK := Lib.hid hst
      have HR := Lib.hid (HR.out.grown hg (neq_of (by omega)))
      have HST := Lib.hid (Blk.grown HST.out hg (neq_of (by omega)))
      have HN := Lib.hid (Blk.grown HN.out hg (neq_of (by omega)))
      have HB := Lib.hid (below_grown HB.out (Nat.le_refl _) hg (fun g e => by injection e with e; omega))
      replace hsz := Nat.le_trans hsz hg.size
      clear hst hg
      (try clear k0 k1 k2 k3 k4 k5 k6)
      (try clear kh)
      obtain ⟨k0, k1, k2, k3, k4, k5, k6⟩ := st_cells HST.out
      clear HS
      have HS := And.intro k0 (And.intro k1 (And.intro k2 (And.intro k3 k4)))
      go_wp2_with fail
      refine hK.out _ _ HS ?_
      clear hK K
      try simp only [Act.put, List.setIfInBounds_toArray, List.set_cons_zero, List.set_cons_succ]
      refine Rg.oneR (i := 7) (oi := { dst := some 75, op := Op.call { callee := Callee.value (Operand.func 100), args := #[Operand.tmp 68, Operand.tmp 70, Operand.tmp 74], argTypes := #[152, 3, 3] }, type := 3, pos := "number.go:387", after := #[{ on := 0, ground := Ground.data }, { on := 2, ground := Ground.data }, { on := 6, ground := Ground.data }, { on := 6, ground := Ground.chain }], guard := none }) rfl (by kernel_rfl) ?_
      refine Rg.stepF ?_ ?_
      · kernel_rfl
      intro K hK
      rw [if_pos (by rfl)]
      go_simp
      go_at_call 100
      refine (radd_any gk _ V m2 _ HK.out r_V r_m2).mono ?_
      intro e w1 hc
      rw [V_.out] at hc
      obtain ⟨rfl, hst, hg⟩ := hc
      dsimp only at hst
      have HK := Lib.hid hst
      have HR := Lib.hid (HR.out.grown hg (neq_of (by omega)))
      have HST := Lib.hid (Blk.grown HST.out hg (neq_of (by omega)))
      have HN := Lib.hid (Blk.grown HN.out hg (neq_of (by omega)))
      have HB := Lib.hid (below_grown HB.out (Nat.le_refl _) hg (fun g e => by injection e with e; omega))
      replace hsz := Nat.le_trans hsz hg.size
      clear hst hg
      (try clear k0 k1 k2 k3 k4 k5 k6)
      (try clear kh)
      obtain ⟨k0, k1, k2, k3, k4, k5, k6⟩ := st_cells HST.out
      clear HS
      have HS := And.intro k0 (And.intro k1 (And.intro k2 (And.intro k3 k4)))
      obtain ⟨f0, f1, f2, f3, f4, f5, f6⟩ := st_thaws HN.out
      obtain ⟨j0, j1, j2, j3, j4, j5, j6⟩ := st_cells HN.out
      go_wp2_with fail
      refine hK.out _ _ ?_
      clear hK K
      try simp only [Act.put, List.setIfInBounds_toArray, List.set_cons_zero, List.set_cons_succ]
      refine Rg.takeP (i := 8) (oi := { dst := some 76, op := Op.fieldAddr 25 (Operand.tmp 15) 1, type := 0, pos := "number.go:387", after := #[{ on := 0, ground := Ground.phase }, { on := 1, ground := Ground.phase }, { on := 2, ground := Ground.phase }, { on := 3, ground := Ground.phase }, { on := 4, ground := Ground.phase }, { on := 5, ground := Ground.phase }, { on := 6, ground := Ground.phase }, { on := 7, ground := Ground.phase }], guard := none }) (v := ?_) rfl (by kernel_rfl) (fun _ _ _ h => h) (by rfl) ?_ ?_
      rotate_left 1
      · (intro w; go_simp; (try with_reducible rfl))
      try simp only [Act.put, List.setIfInBounds_toArray, List.set_cons_zero, List.set_cons_succ]
      refine Rg.oneR (i := 9) (oi := { dst := none, op := Op.store 3 (Operand.tmp 76) (Operand.tmp 75), type := 0, pos := "number.go:387", after := #[{ on := 8, ground := Ground.data }, { on := 7, ground := Ground.data }, { on := 7, ground := Ground.chain }, { on := 0, ground := Ground.phase }, { on := 1, ground := Ground.phase }, { on := 2, ground := Ground.phase }, { on := 3, ground := Ground.phase }, { on := 4, ground := Ground.phase }, { on := 5, ground := Ground.phase }, { on := 6, ground := Ground.phase }, { on := 7, ground := Ground.phase }], guard := none }) rfl (by kernel_rfl) ?_
      refine Rg.stepF ?_ ?_
      · kernel_rfl
      intro K hK
      go_simp
      refine hK.out _ _ ?_
      clear hK K
      try simp only [Act.put, List.setIfInBounds_toArray, List.set_cons_zero, List.set_cons_succ]
      refine Rg.doneR (by kernel_rfl) ?_ _
      refine NoPanic.normal ?_
      clear HS
      clear f0 f1 f2 f3 f4 f5 f6
      clear j0 j1 j2 j3 j4 j5 j6
      have HP := Lib.hid (show StAt (w1.setCell ⟨gn, 1, none⟩ (.int .i64 v)) gn ⟨x, v, P00, P01, P11, bent, missed⟩ from Blk.set HN.out 1 (.int .i64 v))
      have HR := Lib.hid (HR.out.other (p := ⟨gn, 1, none⟩) (by show _ ≠ gn; omega) (.int .i64 v))
      have HST := Lib.hid (Blk.other HST.out (p := ⟨gn, 1, none⟩) (by show _ ≠ gn; omega) (.int .i64 v))
      have HK := Lib.hid (Blk.other HK.out (p := ⟨gn, 1, none⟩) (by show _ ≠ gn; omega) (.int .i64 v))
      have HB := Lib.hid (HB.out.setCell (p := ⟨gn, 1, none⟩) (by show _ ≤ gn; omega) (.int .i64 v))
      replace hsz : w.heap.size + 3 ≤ (w1.setCell ⟨gn, 1, none⟩ (.int .i64 v)).heap.size := by simpa using hsz
      have HN := HP
      clear HP
      generalize (w1.setCell ⟨gn, 1, none⟩ (.int .i64 v)) = w1 at *
      (try clear k0 k1 k2 k3 k4 k5 k6)
      (try clear kh)
      obtain ⟨k0, k1, k2, k3, k4, k5, k6⟩ := st_cells HST.out
      go_upto_region 12 with fail
      have HST := Lib.hid (Blk.drew HST.out)
      have HR := Lib.hid (HR.out.drew)
      have HK := Lib.hid (Blk.drew HK.out)
      have HN := Lib.hid (Blk.drew HN.out)
      have HB := Lib.hid HB.out.drew
      have hsz : w.heap.size + 3 ≤ w1.drew.heap.size := hsz
      (try clear k0 k1 k2 k3 k4 k5 k6)
      (try clear kh)
      obtain ⟨k0, k1, k2, k3, k4, k5, k6⟩ := st_cells HST.out
      have HS := And.intro k0 (And.intro k1 (And.intro k2 (And.intro k3 k4)))
      refine wp_region_noPanic ?_
      refine Rg.beginR [2, 6] (fun w' => w'.cell? ⟨w.heap.size, 0, none⟩ = some (.int .i64 X) ∧ w'.cell? ⟨w.heap.size, 1, none⟩ = some (.int .i64 V) ∧ w'.cell? ⟨w.heap.size, 2, none⟩ = some (.int .i64 P00) ∧ w'.cell? ⟨w.heap.size, 3, none⟩ = some (.int .i64 P01) ∧ w'.cell? ⟨w.heap.size, 4, none⟩ = some (.int .i64 P11)) (by kernel_rfl) ?_
      generalize w1.drew = w1 at *
      refine Rg.takeP (i := 0) (oi := { dst := some 77, op := Op.move (Operand.tmp 10), type := 152, pos := "number.go:388", after := #[], guard := none }) (v := ?_) rfl (by kernel_rfl) (fun _ _ _ h => h) (by rfl) ?_ ?_
      rotate_left 1
      · (intro w; go_simp; (try with_reducible rfl))
      try simp only [Act.put, List.setIfInBounds_toArray, List.set_cons_zero, List.set_cons_succ]
      refine Rg.takeP (i := 1) (oi := { dst := some 78, op := Op.fieldAddr 25 (Operand.tmp 4) 2, type := 0, pos := "number.go:388", after := #[], guard := none }) (v := ?_) rfl (by kernel_rfl) (fun _ _ _ h => h) (by rfl) ?_ ?_
      rotate_left 1
      · (intro w; go_simp; (try with_reducible rfl))
      try simp only [Act.put, List.setIfInBounds_toArray, List.set_cons_zero, List.set_cons_succ]
      refine Rg.takeS (i := 2) (oi := { dst := some 79, op := Op.load 3 (Operand.tmp 78), type := 3, pos := "number.go:388", after := #[{ on := 1, ground := Ground.data }], guard := none }) (v := ?_) rfl (by kernel_rfl) (fun _ _ _ h => h) (by rfl) HS ?_ ?_
      rotate_left 1
      · (intro w hSw; (try dsimp only at hSw); (try go_split_ands); go_simp; (try with_reducible rfl))
      try simp only [Act.put, List.setIfInBounds_toArray, List.set_cons_zero, List.set_cons_succ]
      refine Rg.takeP (i := 3) (oi := { dst := some 80, op := Op.move (Operand.tmp 10), type := 152, pos := "number.go:388", after := #[], guard := none }) (v := ?_) rfl (by kernel_rfl) (fun _ _ _ h => h) (by rfl) ?_ ?_
      rotate_left 1
      · (intro w; go_simp; (try with_reducible rfl))
      try simp only [Act.put, List.setIfInBounds_toArray, List.set_cons_zero, List.set_cons_succ]
      refine Rg.takeP (i := 4) (oi := { dst := some 81, op := Op.move (Operand.tmp 13), type := 3, pos := "number.go:388", after := #[], guard := none }) (v := ?_) rfl (by kernel_rfl) (fun _ _ _ h => h) (by rfl) ?_ ?_
      rotate_left 1
      · (intro w; go_simp; (try with_reducible rfl))
      try simp only [Act.put, List.setIfInBounds_toArray, List.set_cons_zero, List.set_cons_succ]
      refine Rg.takeP (i := 5) (oi := { dst := some 82, op := Op.fieldAddr 25 (Operand.tmp 4) 2, type := 0, pos := "number.go:388", after := #[], guard := none }) (v := ?_) rfl (by kernel_rfl) (fun _ _ _ h => h) (by rfl) ?_ ?_
      rotate_left 1
      · (intro w; go_simp; (try with_reducible rfl))
      try simp only [Act.put, List.setIfInBounds_toArray, List.set_cons_zero, List.set_cons_succ]
      refine Rg.takeS (i := 6) (oi := { dst := some 83, op := Op.load 3 (Operand.tmp 82), type := 3, pos := "number.go:388", after := #[{ on := 5, ground := Ground.data }], guard := none }) (v := ?_) rfl (by kernel_rfl) (fun _ _ _ h => h) (by rfl) HS ?_ ?_
      rotate_left 1
      · (intro w hSw; (try dsimp only at hSw); (try go_split_ands); go_simp; (try with_reducible rfl))
      try simp only [Act.put, List.setIfInBounds_toArray, List.set_cons_zero, List.set_cons_succ]
      refine Rg.oneR (i := 7) (oi := { dst := some 84, op := Op.call { callee := Callee.value (Operand.func 101), args := #[Operand.tmp 80, Operand.tmp 81, Operand.tmp 83], argTypes := #[152, 3, 3] }, type := 3, pos := "number.go:388", after := #[{ on := 3, ground := Ground.data }, { on := 4, ground := Ground.data }, { on := 6, ground := Ground.data }], guard := none }) rfl (by kernel_rfl) ?_
      refine Rg.stepS ?_
      intro K hK
      rw [if_pos (by rfl)]
      go_simp
      go_at_call 101
      refine (rmul_any gk _ kq P00 _ HK.out r_kq r_P00).mono ?_
      intro e w1 hc
      rw [M3_.out] at hc
      obtain ⟨rfl, hst, hg⟩ := hc
      dsimp only at hst
      have HK := Lib.hid hst
      have HR := Lib.hid (HR.out.grown hg (neq_of (by omega)))
      have HST := Lib.hid (Blk.grown HST.out hg (neq_of (by omega)))
      have HN := Lib.hid (Blk.grown HN.out hg (neq_of (by omega)))
      have HB := Lib.hid (below_grown HB.out (Nat.le_refl _) hg (fun g e => by injection e with e; omega))
      replace hsz := Nat.le_trans hsz hg.size
      clear hst hg
      (try clear k0 k1 k2 k3 k4 k5 k6)
      (try clear kh)
      obtain ⟨k0, k1, k2, k3, k4, k5, k6⟩ := st_cells HST.out
      clear HS
      have HS := And.intro k0 (And.intro k1 (And.intro k2 (And.intro k3 k4)))
      go_wp2_with fail
      refine hK.out _ _ HS ?_
      clear hK K
      try simp only [Act.put, List.setIfInBounds_toArray, List.set_cons_zero, List.set_cons_succ]
      refine Rg.oneR (i := 8) (oi := { dst := some 85, op := Op.call { callee := Callee.value (Operand.func 99), args := #[Operand.tmp 77, Operand.tmp 79, Operand.tmp 84], argTypes := #[152, 3, 3] }, type := 3, pos := "number.go:388", after := #[{ on := 0, ground := Ground.data }, { on := 2, ground := Ground.data }, { on := 7, ground := Ground.data }, { on := 7, ground := Ground.chain }], guard := none }) rfl (by kernel_rfl) ?_
      refine Rg.stepF ?_ ?_
      · kernel_rfl
      intro K hK
      rw [if_pos (by rfl)]
      go_simp
      go_at_call 99
      refine (rsub_any gk _ P00 m3 _ HK.out r_P00 r_m3).mono ?_
      intro e w1 hc
      rw [P0_.out] at hc
      obtain ⟨rfl, hst, hg⟩ := hc
      dsimp only at hst
      have HK := Lib.hid hst
      have HR := Lib.hid (HR.out.grown hg (neq_of (by omega)))
      have HST := Lib.hid (Blk.grown HST.out hg (neq_of (by omega)))
      have HN := Lib.hid (Blk.grown HN.out hg (neq_of (by omega)))
      have HB := Lib.hid (below_grown HB.out (Nat.le_refl _) hg (fun g e => by injection e with e; omega))
      replace hsz := Nat.le_trans hsz hg.size
      clear hst hg
      (try clear k0 k1 k2 k3 k4 k5 k6)
      (try clear kh)
      obtain ⟨k0, k1, k2, k3, k4, k5, k6⟩ := st_cells HST.out
      clear HS
      have HS := And.intro k0 (And.intro k1 (And.intro k2 (And.intro k3 k4)))
      obtain ⟨f0, f1, f2, f3, f4, f5, f6⟩ := st_thaws HN.out
      obtain ⟨j0, j1, j2, j3, j4, j5, j6⟩ := st_cells HN.out
      go_wp2_with fail
      refine hK.out _ _ ?_
      clear hK K
      try simp only [Act.put, List.setIfInBounds_toArray, List.set_cons_zero, List.set_cons_succ]
      refine Rg.takeP (i := 9) (oi := { dst := some 86, op := Op.fieldAddr 25 (Operand.tmp 15) 2, type := 0, pos := "number.go:388", after := #[{ on := 0, ground := Ground.phase }, { on := 1, ground := Ground.phase }, { on := 2, ground := Ground.phase }, { on := 3, ground := Ground.phase }, { on := 4, ground := Ground.phase }, { on := 5, ground := Ground.phase }, { on := 6, ground := Ground.phase }, { on := 7, ground := Ground.phase }, { on := 8, ground := Ground.phase }], guard := none }) (v := ?_) rfl (by kernel_rfl) (fun _ _ _ h => h) (by rfl) ?_ ?_
      rotate_left 1
      · (intro w; go_simp; (try with_reducible rfl))
      try simp only [Act.put, List.setIfInBounds_toArray, List.set_cons_zero, List.set_cons_succ]
      refine Rg.oneR (i := 10) (oi := { dst := none, op := Op.store 3 (Operand.tmp 86) (Operand.tmp 85), type := 0, pos := "number.go:388", after := #[{ on := 9, ground := Ground.data }, { on := 8, ground := Ground.data }, { on := 8, ground := Ground.chain }, { on := 0, ground := Ground.phase }, { on := 1, ground := Ground.phase }, { on := 2, ground := Ground.phase }, { on := 3, ground := Ground.phase }, { on := 4, ground := Ground.phase }, { on := 5, ground := Ground.phase }, { on := 6, ground := Ground.phase }, { on := 7, ground := Ground.phase }, { on := 8, ground := Ground.phase }], guard := none }) rfl (by kernel_rfl) ?_
      refine Rg.stepF ?_ ?_
      · kernel_rfl
      intro K hK
      go_simp
      refine hK.out _ _ ?_
      clear hK K
      try simp only [Act.put, List.setIfInBounds_toArray, List.set_cons_zero, List.set_cons_succ]
      refine Rg.doneR (by kernel_rfl) ?_ _
      refine NoPanic.normal ?_
      clear HS
      clear f0 f1 f2 f3 f4 f5 f6
      clear j0 j1 j2 j3 j4 j5 j6
      have HP := Lib.hid (show StAt (w1.setCell ⟨gn, 2, none⟩ (.int .i64 p0)) gn ⟨x, v, p0, P01, P11, bent, missed⟩ from Blk.set HN.out 2 (.int .i64 p0))
      have HR := Lib.hid (HR.out.other (p := ⟨gn, 2, none⟩) (by show _ ≠ gn; omega) (.int .i64 p0))
      have HST := Lib.hid (Blk.other HST.out (p := ⟨gn, 2, none⟩) (by show _ ≠ gn; omega) (.int .i64 p0))
      have HK := Lib.hid (Blk.other HK.out (p := ⟨gn, 2, none⟩) (by show _ ≠ gn; omega) (.int .i64 p0))
      have HB := Lib.hid (HB.out.setCell (p := ⟨gn, 2, none⟩) (by show _ ≤ gn; omega) (.int .i64 p0))
      replace hsz : w.heap.size + 3 ≤ (w1.setCell ⟨gn, 2, none⟩ (.int .i64 p0)).heap.size := by simpa using hsz
      have HN := HP
      clear HP
      generalize (w1.setCell ⟨gn, 2, none⟩ (.int .i64 p0)) = w1 at *
      (try clear k0 k1 k2 k3 k4 k5 k6)
      (try clear kh)
      obtain ⟨k0, k1, k2, k3, k4, k5, k6⟩ := st_cells HST.out
      go_upto_region 13 with fail
      have HST := Lib.hid (Blk.drew HST.out)
      have HR := Lib.hid (HR.out.drew)
      have HK := Lib.hid (Blk.drew HK.out)
      have HN := Lib.hid (Blk.drew HN.out)
      have HB := Lib.hid HB.out.drew
      have hsz : w.heap.size + 3 ≤ w1.drew.heap.size := hsz
      (try clear k0 k1 k2 k3 k4 k5 k6)
      (try clear kh)
      obtain ⟨k0, k1, k2, k3, k4, k5, k6⟩ := st_cells HST.out
      have HS := And.intro k0 (And.intro k1 (And.intro k2 (And.intro k3 k4)))
      refine wp_region_noPanic ?_
      refine Rg.beginR [2, 6] (fun w' => w'.cell? ⟨w.heap.size, 0, none⟩ = some (.int .i64 X) ∧ w'.cell? ⟨w.heap.size, 1, none⟩ = some (.int .i64 V) ∧ w'.cell? ⟨w.heap.size, 2, none⟩ = some (.int .i64 P00) ∧ w'.cell? ⟨w.heap.size, 3, none⟩ = some (.int .i64 P01) ∧ w'.cell? ⟨w.heap.size, 4, none⟩ = some (.int .i64 P11)) (by kernel_rfl) ?_
      generalize w1.drew = w1 at *
      refine Rg.takeP (i := 0) (oi := { dst := some 87, op := Op.move (Operand.tmp 10), type := 152, pos := "number.go:389", after := #[], guard := none }) (v := ?_) rfl (by kernel_rfl) (fun _ _ _ h => h) (by rfl) ?_ ?_
      rotate_left 1
      · (intro w; go_simp; (try with_reducible rfl))
      try simp only [Act.put, List.setIfInBounds_toArray, List.set_cons_zero, List.set_cons_succ]
      refine Rg.takeP (i := 1) (oi := { dst := some 88, op := Op.fieldAddr 25 (Operand.tmp 4) 3, type := 0, pos := "number.go:389", after := #[], guard := none }) (v := ?_) rfl (by kernel_rfl) (fun _ _ _ h => h) (by rfl) ?_ ?_
      rotate_left 1
      · (intro w; go_simp; (try with_reducible rfl))
      try simp only [Act.put, List.setIfInBounds_toArray, List.set_cons_zero, List.set_cons_succ]
      refine Rg.takeS (i := 2) (oi := { dst := some 89, op := Op.load 3 (Operand.tmp 88), type := 3, pos := "number.go:389", after := #[{ on := 1, ground := Ground.data }], guard := none }) (v := ?_) rfl (by kernel_rfl) (fun _ _ _ h => h) (by rfl) HS ?_ ?_
      rotate_left 1
      · (intro w hSw; (try dsimp only at hSw); (try go_split_ands); go_simp; (try with_reducible rfl))
      try simp only [Act.put, List.setIfInBounds_toArray, List.set_cons_zero, List.set_cons_succ]
      refine Rg.takeP (i := 3) (oi := { dst := some 90, op := Op.move (Operand.tmp 10), type := 152, pos := "number.go:389", after := #[], guard := none }) (v := ?_) rfl (by kernel_rfl) (fun _ _ _ h => h) (by rfl) ?_ ?_
      rotate_left 1
      · (intro w; go_simp; (try with_reducible rfl))
      try simp only [Act.put, List.setIfInBounds_toArray, List.set_cons_zero, List.set_cons_succ]
      refine Rg.takeP (i := 4) (oi := { dst := some 91, op := Op.move (Operand.tmp 13), type := 3, pos := "number.go:389", after := #[], guard := none }) (v := ?_) rfl (by kernel_rfl) (fun _ _ _ h => h) (by rfl) ?_ ?_
      rotate_left 1
      · (intro w; go_simp; (try with_reducible rfl))
      try simp only [Act.put, List.setIfInBounds_toArray, List.set_cons_zero, List.set_cons_succ]
      refine Rg.takeP (i := 5) (oi := { dst := some 92, op := Op.fieldAddr 25 (Operand.tmp 4) 3, type := 0, pos := "number.go:389", after := #[], guard := none }) (v := ?_) rfl (by kernel_rfl) (fun _ _ _ h => h) (by rfl) ?_ ?_
      rotate_left 1
      · (intro w; go_simp; (try with_reducible rfl))
      try simp only [Act.put, List.setIfInBounds_toArray, List.set_cons_zero, List.set_cons_succ]
      refine Rg.takeS (i := 6) (oi := { dst := some 93, op := Op.load 3 (Operand.tmp 92), type := 3, pos := "number.go:389", after := #[{ on := 5, ground := Ground.data }], guard := none }) (v := ?_) rfl (by kernel_rfl) (fun _ _ _ h => h) (by rfl) HS ?_ ?_
      rotate_left 1
      · (intro w hSw; (try dsimp only at hSw); (try go_split_ands); go_simp; (try with_reducible rfl))
      try simp only [Act.put, List.setIfInBounds_toArray, List.set_cons_zero, List.set_cons_succ]
      refine Rg.oneR (i := 7) (oi := { dst := some 94, op := Op.call { callee := Callee.value (Operand.func 101), args := #[Operand.tmp 90, Operand.tmp 91, Operand.tmp 93], argTypes := #[152, 3, 3] }, type := 3, pos := "number.go:389", after := #[{ on := 3, ground := Ground.data }, { on := 4, ground := Ground.data }, { on := 6, ground := Ground.data }], guard := none }) rfl (by kernel_rfl) ?_
      refine Rg.stepS ?_
      intro K hK
      rw [if_pos (by rfl)]
      go_simp
      go_at_call 101
      refine (rmul_any gk _ kq P01 _ HK.out r_kq r_P01).mono ?_
      intro e w1 hc
      rw [M4_.out] at hc
      obtain ⟨rfl, hst, hg⟩ := hc
      dsimp only at hst
      have HK := Lib.hid hst
      have HR := Lib.hid (HR.out.grown hg (neq_of (by omega)))
      have HST := Lib.hid (Blk.grown HST.out hg (neq_of (by omega)))
      have HN := Lib.hid (Blk.grown HN.out hg (neq_of (by omega)))
      have HB := Lib.hid (below_grown HB.out (Nat.le_refl _) hg (fun g e => by injection e with e; omega))
      replace hsz := Nat.le_trans hsz hg.size
      clear hst hg
      (try clear k0 k1 k2 k3 k4 k5 k6)
      (try clear kh)
      obtain ⟨k0, k1, k2, k3, k4, k5, k6⟩ := st_cells HST.out
      clear HS
      have HS := And.intro k0 (And.intro k1 (And.intro k2 (And.intro k3 k4)))
      go_wp2_with fail
      refine hK.out _ _ HS ?_
      clear hK K
      try simp only [Act.put, List.setIfInBounds_toArray, List.set_cons_zero, List.set_cons_succ]
      refine Rg.oneR (i := 8) (oi := { dst := some 95, op := Op.call { callee := Callee.value (Operand.func 99), args := #[Operand.tmp 87, Operand.tmp 89, Operand.tmp 94], argTypes := #[152, 3, 3] }, type := 3, pos := "number.go:389", after := #[{ on := 0, ground := Ground.data }, { on := 2, ground := Ground.data }, { on := 7, ground := Ground.data }, { on := 7, ground := Ground.chain }], guard := none }) rfl (by kernel_rfl) ?_
      refine Rg.stepF ?_ ?_
      · kernel_rfl
      intro K hK
      rw [if_pos (by rfl)]
      go_simp
      go_at_call 99
      refine (rsub_any gk _ P01 m4 _ HK.out r_P01 r_m4).mono ?_
      intro e w1 hc
      rw [P1_.out] at hc
      obtain ⟨rfl, hst, hg⟩ := hc
      dsimp only at hst
      have HK := Lib.hid hst
      have HR := Lib.hid (HR.out.grown hg (neq_of (by omega)))
      have HST := Lib.hid (Blk.grown HST.out hg (neq_of (by omega)))
      have HN := Lib.hid (Blk.grown HN.out hg (neq_of (by omega)))
      have HB := Lib.hid (below_grown HB.out (Nat.le_refl _) hg (fun g e => by injection e with e; omega))
      replace hsz := Nat.le_trans hsz hg.size
      clear hst hg
      (try clear k0 k1 k2 k3 k4 k5 k6)
      (try clear kh)
      obtain ⟨k0, k1, k2, k3, k4, k5, k6⟩ := st_cells HST.out
      clear HS
      have HS := And.intro k0 (And.intro k1 (And.intro k2 (And.intro k3 k4)))
      obtain ⟨f0, f1, f2, f3, f4, f5, f6⟩ := st_thaws HN.out
      obtain ⟨j0, j1, j2, j3, j4, j5, j6⟩ := st_cells HN.out
      go_wp2_with fail
      refine hK.out _ _ ?_
      clear hK K
      try simp only [Act.put, List.setIfInBounds_toArray, List.set_cons_zero, List.set_cons_succ]
      refine Rg.takeP (i := 9) (oi := { dst := some 96, op := Op.fieldAddr 25 (Operand.tmp 15) 3, type := 0, pos := "number.go:389", after := #[{ on := 0, ground := Ground.phase }, { on := 1, ground := Ground.phase }, { on := 2, ground := Ground.phase }, { on := 3, ground := Ground.phase }, { on := 4, ground := Ground.phase }, { on := 5, ground := Ground.phase }, { on := 6, ground := Ground.phase }, { on := 7, ground := Ground.phase }, { on := 8, ground := Ground.phase }], guard := none }) (v := ?_) rfl (by kernel_rfl) (fun _ _ _ h => h) (by rfl) ?_ ?_
      rotate_left 1
      · (intro w; go_simp; (try with_reducible rfl))
      try simp only [Act.put, List.setIfInBounds_toArray, List.set_cons_zero, List.set_cons_succ]
      refine Rg.oneR (i := 10) (oi := { dst := none, op := Op.store 3 (Operand.tmp 96) (Operand.tmp 95), type := 0, pos := "number.go:389", after := #[{ on := 9, ground := Ground.data }, { on := 8, ground := Ground.data }, { on := 8, ground := Ground.chain }, { on := 0, ground := Ground.phase }, { on := 1, ground := Ground.phase }, { on := 2, ground := Ground.phase }, { on := 3, ground := Ground.phase }, { on := 4, ground := Ground.phase }, { on := 5, ground := Ground.phase }, { on := 6, ground := Ground.phase }, { on := 7, ground := Ground.phase }, { on := 8, ground := Ground.phase }], guard := none }) rfl (by kernel_rfl) ?_
      refine Rg.stepF ?_ ?_
      · kernel_rfl
      intro K hK
      go_simp
      refine hK.out _ _ ?_
      clear hK K
      try simp only [Act.put, List.setIfInBounds_toArray, List.set_cons_zero, List.set_cons_succ]
      refine Rg.doneR (by kernel_rfl) ?_ _
      refine NoPanic.normal ?_
      clear HS
      clear f0 f1 f2 f3 f4 f5 f6
      clear j0 j1 j2 j3 j4 j5 j6
      have HP := Lib.hid (show StAt (w1.setCell ⟨gn, 3, none⟩ (.int .i64 p1)) gn ⟨x, v, p0, p1, P11, bent, missed⟩ from Blk.set HN.out 3 (.int .i64 p1))
      have HR := Lib.hid (HR.out.other (p := ⟨gn, 3, none⟩) (by show _ ≠ gn; omega) (.int .i64 p1))
      have HST := Lib.hid (Blk.other HST.out (p := ⟨gn, 3, none⟩) (by show _ ≠ gn; omega) (.int .i64 p1))
      have HK := Lib.hid (Blk.other HK.out (p := ⟨gn, 3, none⟩) (by show _ ≠ gn; omega) (.int .i64 p1))
      have HB := Lib.hid (HB.out.setCell (p := ⟨gn, 3, none⟩) (by show _ ≤ gn; omega) (.int .i64 p1))
      replace hsz : w.heap.size + 3 ≤ (w1.setCell ⟨gn, 3, none⟩ (.int .i64 p1)).heap.size := by simpa using hsz
      have HN := HP
      clear HP
      generalize (w1.setCell ⟨gn, 3, none⟩ (.int .i64 p1)) = w1 at *
      (try clear k0 k1 k2 k3 k4 k5 k6)
      (try clear kh)
      obtain ⟨k0, k1, k2, k3, k4, k5, k6⟩ := st_cells HST.out
      go_upto_region 14 with fail
      have HST := Lib.hid (Blk.drew HST.out)
      have HR := Lib.hid (HR.out.drew)
      have HK := Lib.hid (Blk.drew HK.out)
      have HN := Lib.hid (Blk.drew HN.out)
      have HB := Lib.hid HB.out.drew
      have hsz : w.heap.size + 3 ≤ w1.drew.heap.size := hsz
      (try clear k0 k1 k2 k3 k4 k5 k6)
      (try clear kh)
      obtain ⟨k0, k1, k2, k3, k4, k5, k6⟩ := st_cells HST.out
      have HS := And.intro k0 (And.intro k1 (And.intro k2 (And.intro k3 k4)))
      refine wp_region_noPanic ?_
      refine Rg.beginR [2, 6] (fun w' => w'.cell? ⟨w.heap.size, 0, none⟩ = some (.int .i64 X) ∧ w'.cell? ⟨w.heap.size, 1, none⟩ = some (.int .i64 V) ∧ w'.cell? ⟨w.heap.size, 2, none⟩ = some (.int .i64 P00) ∧ w'.cell? ⟨w.heap.size, 3, none⟩ = some (.int .i64 P01) ∧ w'.cell? ⟨w.heap.size, 4, none⟩ = some (.int .i64 P11)) (by kernel_rfl) ?_
      generalize w1.drew = w1 at *
      refine Rg.takeP (i := 0) (oi := { dst := some 97, op := Op.move (Operand.tmp 10), type := 152, pos := "number.go:390", after := #[], guard := none }) (v := ?_) rfl (by kernel_rfl) (fun _ _ _ h => h) (by rfl) ?_ ?_
      rotate_left 1
      · (intro w; go_simp; (try with_reducible rfl))
      try simp only [Act.put, List.setIfInBounds_toArray, List.set_cons_zero, List.set_cons_succ]
      refine Rg.takeP (i := 1) (oi := { dst := some 98, op := Op.fieldAddr 25 (Operand.tmp 4) 4, type := 0, pos := "number.go:390", after := #[], guard := none }) (v := ?_) rfl (by kernel_rfl) (fun _ _ _ h => h) (by rfl) ?_ ?_
      rotate_left 1
      · (intro w; go_simp; (try with_reducible rfl))
      try simp only [Act.put, List.setIfInBounds_toArray, List.set_cons_zero, List.set_cons_succ]
      refine Rg.takeS (i := 2) (oi := { dst := some 99, op := Op.load 3 (Operand.tmp 98), type := 3, pos := "number.go:390", after := #[{ on := 1, ground := Ground.data }], guard := none }) (v := ?_) rfl (by kernel_rfl) (fun _ _ _ h => h) (by rfl) HS ?_ ?_
      rotate_left 1
      · (intro w hSw; (try dsimp only at hSw); (try go_split_ands); go_simp; (try with_reducible rfl))
      try simp only [Act.put, List.setIfInBounds_toArray, List.set_cons_zero, List.set_cons_succ]
      refine Rg.takeP (i := 3) (oi := { dst := some 100, op := Op.move (Operand.tmp 10), type := 152, pos := "number.go:390", after := #[], guard := none }) (v := ?_) rfl (by kernel_rfl) (fun _ _ _ h => h) (by rfl) ?_ ?_
      rotate_left 1
      · (intro w; go_simp; (try with_reducible rfl))
      try simp only [Act.put, List.setIfInBounds_toArray, List.set_cons_zero, List.set_cons_succ]
      refine Rg.takeP (i := 4) (oi := { dst := some 101, op := Op.move (Operand.tmp 14), type := 3, pos := "number.go:390", after := #[], guard := none }) (v := ?_) rfl (by kernel_rfl) (fun _ _ _ h => h) (by rfl) ?_ ?_
      rotate_left 1
      · (intro w; go_simp; (try with_reducible rfl))
      try simp only [Act.put, List.setIfInBounds_toArray, List.set_cons_zero, List.set_cons_succ]
      refine Rg.takeP (i := 5) (oi := { dst := some 102, op := Op.fieldAddr 25 (Operand.tmp 4) 3, type := 0, pos := "number.go:390", after := #[], guard := none }) (v := ?_) rfl (by kernel_rfl) (fun _ _ _ h => h) (by rfl) ?_ ?_
      rotate_left 1
      · (intro w; go_simp; (try with_reducible rfl))
      try simp only [Act.put, List.setIfInBounds_toArray, List.set_cons_zero, List.set_cons_succ]
      refine Rg.takeS (i := 6) (oi := { dst := some 103, op := Op.load 3 (Operand.tmp 102), type := 3, pos := "number.go:390", after := #[{ on := 5, ground := Ground.data }], guard := none }) (v := ?_) rfl (by kernel_rfl) (fun _ _ _ h => h) (by rfl) HS ?_ ?_
      rotate_left 1
      · (intro w hSw; (try dsimp only at hSw); (try go_split_ands); go_simp; (try with_reducible rfl))
      try simp only [Act.put, List.setIfInBounds_toArray, List.set_cons_zero, List.set_cons_succ]
      refine Rg.oneR (i := 7) (oi := { dst := some 104, op := Op.call { callee := Callee.value (Operand.func 101), args := #[Operand.tmp 100, Operand.tmp 101, Operand.tmp 103], argTypes := #[152, 3, 3] }, type := 3, pos := "number.go:390", after := #[{ on := 3, ground := Ground.data }, { on := 4, ground := Ground.data }, { on := 6, ground := Ground.data }], guard := none }) rfl (by kernel_rfl) ?_
      refine Rg.stepS ?_
      intro K hK
      rw [if_pos (by rfl)]
      go_simp
      go_at_call 101
      refine (rmul_any gk _ lq P01 _ HK.out r_lq r_P01).mono ?_
      intro e w1 hc
      rw [M5_.out] at hc
      obtain ⟨rfl, hst, hg⟩ := hc
      dsimp only at hst
      have HK := Lib.hid hst
      have HR := Lib.hid (HR.out.grown hg (neq_of (by omega)))
      have HST := Lib.hid (Blk.grown HST.out hg (neq_of (by omega)))
      have HN := Lib.hid (Blk.grown HN.out hg (neq_of (by omega)))
      have HB := Lib.hid (below_grown HB.out (Nat.le_refl _) hg (fun g e => by injection e with e; omega))
      replace hsz := Nat.le_trans hsz hg.size
      clear hst hg
      (try clear k0 k1 k2 k3 k4 k5 k6)
      (try clear kh)
      obtain ⟨k0, k1, k2, k3, k4, k5, k6⟩ := st_cells HST.out
      clear HS
      have HS := And.intro k0 (And.intro k1 (And.intro k2 (And.intro k3 k4)))
      go_wp2_with fail
      refine hK.out _ _ HS ?_
      clear hK K
      try simp only [Act.put, List.setIfInBounds_toArray, List.set_cons_zero, List.set_cons_succ]
      refine Rg.oneR (i := 8) (oi := { dst := some 105, op := Op.call { callee := Callee.value (Operand.func 99), args := #[Operand.tmp 97, Operand.tmp 99, Operand.tmp 104], argTypes := #[152, 3, 3] }, type := 3, pos := "number.go:390", after := #[{ on := 0, ground := Ground.data }, { on := 2, ground := Ground.data }, { on := 7, ground := Ground.data }, { on := 7, ground := Ground.chain }], guard := none }) rfl (by kernel_rfl) ?_
      refine Rg.stepF ?_ ?_
      · kernel_rfl
      intro K hK
      rw [if_pos (by rfl)]
      go_simp
      go_at_call 99
      refine (rsub_any gk _ P11 m5 _ HK.out r_P11 r_m5).mono ?_
      intro e w1 hc
      rw [P2_.out] at hc
      obtain ⟨rfl, hst, hg⟩ := hc
      dsimp only at hst
      have HK := Lib.hid hst
      have HR := Lib.hid (HR.out.grown hg (neq_of (by omega)))
      have HST := Lib.hid (Blk.grown HST.out hg (neq_of (by omega)))
      have HN := Lib.hid (Blk.grown HN.out hg (neq_of (by omega)))
      have HB := Lib.hid (below_grown HB.out (Nat.le_refl _) hg (fun g e => by injection e with e; omega))
      replace hsz := Nat.le_trans hsz hg.size
      clear hst hg
      (try clear k0 k1 k2 k3 k4 k5 k6)
      (try clear kh)
      obtain ⟨k0, k1, k2, k3, k4, k5, k6⟩ := st_cells HST.out
      clear HS
      have HS := And.intro k0 (And.intro k1 (And.intro k2 (And.intro k3 k4)))
      obtain ⟨f0, f1, f2, f3, f4, f5, f6⟩ := st_thaws HN.out
      obtain ⟨j0, j1, j2, j3, j4, j5, j6⟩ := st_cells HN.out
      go_wp2_with fail
      refine hK.out _ _ ?_
      clear hK K
      try simp only [Act.put, List.setIfInBounds_toArray, List.set_cons_zero, List.set_cons_succ]
      refine Rg.takeP (i := 9) (oi := { dst := some 106, op := Op.fieldAddr 25 (Operand.tmp 15) 4, type := 0, pos := "number.go:390", after := #[{ on := 0, ground := Ground.phase }, { on := 1, ground := Ground.phase }, { on := 2, ground := Ground.phase }, { on := 3, ground := Ground.phase }, { on := 4, ground := Ground.phase }, { on := 5, ground := Ground.phase }, { on := 6, ground := Ground.phase }, { on := 7, ground := Ground.phase }, { on := 8, ground := Ground.phase }], guard := none }) (v := ?_) rfl (by kernel_rfl) (fun _ _ _ h => h) (by rfl) ?_ ?_
      rotate_left 1
      · (intro w; go_simp; (try with_reducible rfl))
      try simp only [Act.put, List.setIfInBounds_toArray, List.set_cons_zero, List.set_cons_succ]
      refine Rg.oneR (i := 10) (oi := { dst := none, op := Op.store 3 (Operand.tmp 106) (Operand.tmp 105), type := 0, pos := "number.go:390", after := #[{ on := 9, ground := Ground.data }, { on := 8, ground := Ground.data }, { on := 8, ground := Ground.chain }, { on := 0, ground := Ground.phase }, { on := 1, ground := Ground.phase }, { on := 2, ground := Ground.phase }, { on := 3, ground := Ground.phase }, { on := 4, ground := Ground.phase }, { on := 5, ground := Ground.phase }, { on := 6, ground := Ground.phase }, { on := 7, ground := Ground.phase }, { on := 8, ground := Ground.phase }], guard := none }) rfl (by kernel_rfl) ?_
      refine Rg.stepF ?_ ?_
      · kernel_rfl
      intro K hK
      go_simp
      refine hK.out _ _ ?_
      clear hK K
      try simp only [Act.put, List.setIfInBounds_toArray, List.set_cons_zero, List.set_cons_succ]
      refine Rg.doneR (by kernel_rfl) ?_ _
      refine NoPanic.normal ?_
      clear HS
      clear f0 f1 f2 f3 f4 f5 f6
      clear j0 j1 j2 j3 j4 j5 j6
      have HP := Lib.hid (show StAt (w1.setCell ⟨gn, 4, none⟩ (.int .i64 p2)) gn ⟨x, v, p0, p1, p2, bent, missed⟩ from Blk.set HN.out 4 (.int .i64 p2))
      have HR := Lib.hid (HR.out.other (p := ⟨gn, 4, none⟩) (by show _ ≠ gn; omega) (.int .i64 p2))
      have HST := Lib.hid (Blk.other HST.out (p := ⟨gn, 4, none⟩) (by show _ ≠ gn; omega) (.int .i64 p2))
      have HK := Lib.hid (Blk.other HK.out (p := ⟨gn, 4, none⟩) (by show _ ≠ gn; omega) (.int .i64 p2))
      have HB := Lib.hid (HB.out.setCell (p := ⟨gn, 4, none⟩) (by show _ ≤ gn; omega) (.int .i64 p2))
      replace hsz : w.heap.size + 3 ≤ (w1.setCell ⟨gn, 4, none⟩ (.int .i64 p2)).heap.size := by simpa using hsz
      have HN := HP
      clear HP
      generalize (w1.setCell ⟨gn, 4, none⟩ (.int .i64 p2)) = w1 at *
      (try clear k0 k1 k2 k3 k4 k5 k6)
      (try clear kh)
      obtain ⟨k0, k1, k2, k3, k4, k5, k6⟩ := st_cells HST.out
      go_upto_region 15 with fail
      obtain ⟨f0, f1, f2, f3, f4, f5, f6⟩ := st_thaws HN.out
      obtain ⟨j0, j1, j2, j3, j4, j5, j6⟩ := st_cells HN.out
      go_upto_region 16 with fail
      clear f0 f1 f2 f3 f4 f5 f6 j0 j1 j2 j3 j4 j5 j6
      have HP := Lib.hid (show StAt (w1.setCell ⟨gn, 6, none⟩ (.int .i64 0)) gn ⟨x, v, p0, p1, p2, bent, 0⟩ from Blk.set HN.out 6 (.int .i64 0))
      have HR := Lib.hid (HR.out.other (p := ⟨gn, 6, none⟩) (by show _ ≠ gn; omega) (.int .i64 0))
      have HST := Lib.hid (Blk.other HST.out (p := ⟨gn, 6, none⟩) (by show _ ≠ gn; omega) (.int .i64 0))
      have HK := Lib.hid (Blk.other HK.out (p := ⟨gn, 6, none⟩) (by show _ ≠ gn; omega) (.int .i64 0))
      have HB := Lib.hid (HB.out.setCell (p := ⟨gn, 6, none⟩) (by show _ ≤ gn; omega) (.int .i64 0))
      replace hsz : w.heap.size + 3 ≤ (w1.setCell ⟨gn, 6, none⟩ (.int .i64 0)).heap.size := by simpa using hsz
      have HN := HP
      clear HP
      generalize (w1.setCell ⟨gn, 6, none⟩ (.int .i64 0)) = w1 at *
      (try clear k0 k1 k2 k3 k4 k5 k6)
      (try clear kh)
      obtain ⟨k0, k1, k2, k3, k4, k5, k6⟩ := st_cells HST.out
      obtain ⟨f0, f1, f2, f3, f4, f5, f6⟩ := st_thaws HN.out
      obtain ⟨j0, j1, j2, j3, j4, j5, j6⟩ := st_cells HN.out
      have kb := one_cell HK.out
      go_upto_region 17 with fail
      clear f0 f1 f2 f3 f4 f5 f6 j0 j1 j2 j3 j4 j5 j6 kb
      have HP := Lib.hid (show StAt (w1.setCell ⟨gn, 5, none⟩ (.bool ((((((((((((((((bent || yb) || wdb) || yyb) || gqb) || kqb) || lqb) || m1b) || xb) || m2b) || vb) || m3b) || p0b) || m4b) || p1b) || m5b) || p2b))) gn ⟨x, v, p0, p1, p2, ((((((((((((((((bent || yb) || wdb) || yyb) || gqb) || kqb) || lqb) || m1b) || xb) || m2b) || vb) || m3b) || p0b) || m4b) || p1b) || m5b) || p2b), 0⟩ from Blk.set HN.out 5 (.bool ((((((((((((((((bent || yb) || wdb) || yyb) || gqb) || kqb) || lqb) || m1b) || xb) || m2b) || vb) || m3b) || p0b) || m4b) || p1b) || m5b) || p2b)))
      have HR := Lib.hid (HR.out.other (p := ⟨gn, 5, none⟩) (by show _ ≠ gn; omega) (.bool ((((((((((((((((bent || yb) || wdb) || yyb) || gqb) || kqb) || lqb) || m1b) || xb) || m2b) || vb) || m3b) || p0b) || m4b) || p1b) || m5b) || p2b)))
      have HST := Lib.hid (Blk.other HST.out (p := ⟨gn, 5, none⟩) (by show _ ≠ gn; omega) (.bool ((((((((((((((((bent || yb) || wdb) || yyb) || gqb) || kqb) || lqb) || m1b) || xb) || m2b) || vb) || m3b) || p0b) || m4b) || p1b) || m5b) || p2b)))
      have HK := Lib.hid (Blk.other HK.out (p := ⟨gn, 5, none⟩) (by show _ ≠ gn; omega) (.bool ((((((((((((((((bent || yb) || wdb) || yyb) || gqb) || kqb) || lqb) || m1b) || xb) || m2b) || vb) || m3b) || p0b) || m4b) || p1b) || m5b) || p2b)))
      have HB := Lib.hid (HB.out.setCell (p := ⟨gn, 5, none⟩) (by show _ ≤ gn; omega) (.bool ((((((((((((((((bent || yb) || wdb) || yyb) || gqb) || kqb) || lqb) || m1b) || xb) || m2b) || vb) || m3b) || p0b) || m4b) || p1b) || m5b) || p2b)))
      replace hsz : w.heap.size + 3 ≤ (w1.setCell ⟨gn, 5, none⟩ (.bool ((((((((((((((((bent || yb) || wdb) || yyb) || gqb) || kqb) || lqb) || m1b) || xb) || m2b) || vb) || m3b) || p0b) || m4b) || p1b) || m5b) || p2b))).heap.size := by simpa using hsz
      have HN := HP
      clear HP
      generalize (w1.setCell ⟨gn, 5, none⟩ (.bool ((((((((((((((((bent || yb) || wdb) || yyb) || gqb) || kqb) || lqb) || m1b) || xb) || m2b) || vb) || m3b) || p0b) || m4b) || p1b) || m5b) || p2b))) = w1 at *
      (try clear k0 k1 k2 k3 k4 k5 k6)
      (try clear kh)
      obtain ⟨k0, k1, k2, k3, k4, k5, k6⟩ := st_cells HST.out
      have HG := Lib.hid (show Blk w1 gn 25 #[.int .i64 x, .int .i64 v, .int .i64 p0, .int .i64 p1, .int .i64 p2, .bool ((((((((((((((((bent || yb) || wdb) || yyb) || gqb) || kqb) || lqb) || m1b) || xb) || m2b) || vb) || m3b) || p0b) || m4b) || p1b) || m5b) || p2b), .int .i64 0] from HN.out)
      clear k0 k1 k2 k3 k4 k5 k6
      have HF := Lib.hid (show update ⟨X, V, P00, P01, P11, bent, missed⟩ z r gate = (⟨x, v, p0, p1, p2, ((((((((((((((((bent || yb) || wdb) || yyb) || gqb) || kqb) || lqb) || m1b) || xb) || m2b) || vb) || m3b) || p0b) || m4b) || p1b) || m5b) || p2b), 0⟩, true) by simp only [update, Y_.out, WD_.out, YY_.out, GQ_.out, KQ_.out, LQ_.out, M1_.out, X_.out, M2_.out, V_.out, M3_.out, P0_.out, M4_.out, P1_.out, M5_.out, P2_.out]; rw [if_neg (by omega)])
      go_wp2_with (first | (refine wpList_whole rfl 25 _ rfl gn rfl HG.out _ Tryz.underlying25 rfl (by kernel_rfl) ?_) | (refine wpList_store_row rfl 25 _ _ rfl gr #[.int .i64 x, .int .i64 v, .int .i64 p0, .int .i64 p1, .int .i64 p2, .bool ((((((((((((((((bent || yb) || wdb) || yyb) || gqb) || kqb) || lqb) || m1b) || xb) || m2b) || vb) || m3b) || p0b) || m4b) || p1b) || m5b) || p2b), .int .i64 0] rfl rfl 25 _ HR.out (by kernel_rfl) rfl (by simp [Value.oneCell']) ?_))
      refine ret_row2 (x := .bool true) rfl rfl rfl (HR.out.setRow #[.int .i64 x, .int .i64 v, .int .i64 p0, .int .i64 p1, .int .i64 p2, .bool ((((((((((((((((bent || yb) || wdb) || yyb) || gqb) || kqb) || lqb) || m1b) || xb) || m2b) || vb) || m3b) || p0b) || m4b) || p1b) || m5b) || p2b), .int .i64 0]) ⟨by rw [Tryz.underlying25], by kernel_rfl⟩ rfl ?_
      rw [HF.out]
      exact ⟨rfl, below_setRow HB.out (by omega) _⟩
end Go.Proofs.YtjfllpmiajkenaaGreat.BigW
