import Derived.Test.YtobigbnmbnhikaaPb0
import Derived.Test.YtobigbnmbnhikaaPb13
set_option linter.unusedVariables false
set_option linter.unusedSimpArgs false
namespace Go.Proofs.Ytobigbnmbnhikaa
namespace BigW
open Go.RowKit Mem BigLaw Rws
set_option maxRecDepth 100000 in
set_option maxHeartbeats 8000000 in
theorem update_any (s : St) (z r gate : Int) (w : World) (hs : StIn s) (r_z : In64 z) (r_r : In64 r) (r_gate : In64 gate) :
  Calls Try.prog 55 #[stV s, .int .i64 z, .int .i64 r, .int .i64 gate] w fun e w' => GaveSt2 w w' (update s z r gate) e := by
 obtain ⟨X, V, P00, P01, P11, bent, missed⟩ := s; obtain ⟨r_X, r_V, r_P00, r_P01, r_P11⟩ := hs
 simp only at r_X r_V r_P00 r_P01 r_P11
 unfold stV stC
 have HB := zz (show Below w.heap.size w ((((w.alloc (.cells #[.int .i64 X, .int .i64 V, .int .i64 P00, .int .i64 P01, .int .i64 P11, .bool bent, .int .i64 missed] 33)).alloc (.cells #[.int .i64 0, .int .i64 0, .int .i64 0, .int .i64 0, .int .i64 0, .bool false, .int .i64 0] 33)).alloc (.cells #[.int .i64 X, .int .i64 V, .int .i64 P00, .int .i64 P01, .int .i64 P11, .bool bent, .int .i64 missed] 33)).alloc (.cells #[.pointer (some ⟨w.heap.size, 0, none⟩)] 143)) from ((((Below.refl _ _).alloc (Nat.le_refl _) _).alloc (by simp) _).alloc (by simp; omega) _).alloc (by simp; omega) _)
 have HST := zz (show StAt ((((w.alloc (.cells #[.int .i64 X, .int .i64 V, .int .i64 P00, .int .i64 P01, .int .i64 P11, .bool bent, .int .i64 missed] 33)).alloc (.cells #[.int .i64 0, .int .i64 0, .int .i64 0, .int .i64 0, .int .i64 0, .bool false, .int .i64 0] 33)).alloc (.cells #[.int .i64 X, .int .i64 V, .int .i64 P00, .int .i64 P01, .int .i64 P11, .bool bent, .int .i64 missed] 33)).alloc (.cells #[.pointer (some ⟨w.heap.size, 0, none⟩)] 143)) w.heap.size ⟨X, V, P00, P01, P11, bent, missed⟩ from (((Blk.new rfl).alloc _).alloc _).alloc _)
 have HR := zz (show Blk ((((w.alloc (.cells #[.int .i64 X, .int .i64 V, .int .i64 P00, .int .i64 P01, .int .i64 P11, .bool bent, .int .i64 missed] 33)).alloc (.cells #[.int .i64 0, .int .i64 0, .int .i64 0, .int .i64 0, .int .i64 0, .bool false, .int .i64 0] 33)).alloc (.cells #[.int .i64 X, .int .i64 V, .int .i64 P00, .int .i64 P01, .int .i64 P11, .bool bent, .int .i64 missed] 33)).alloc (.cells #[.pointer (some ⟨w.heap.size, 0, none⟩)] 143)) (w.heap.size + 1) 33 #[.int .i64 0, .int .i64 0, .int .i64 0, .int .i64 0, .int .i64 0, .bool false, .int .i64 0] from ((Blk.new (by simp)).alloc _).alloc _)
 have HW := zz (show StAt ((((w.alloc (.cells #[.int .i64 X, .int .i64 V, .int .i64 P00, .int .i64 P01, .int .i64 P11, .bool bent, .int .i64 missed] 33)).alloc (.cells #[.int .i64 0, .int .i64 0, .int .i64 0, .int .i64 0, .int .i64 0, .bool false, .int .i64 0] 33)).alloc (.cells #[.int .i64 X, .int .i64 V, .int .i64 P00, .int .i64 P01, .int .i64 P11, .bool bent, .int .i64 missed] 33)).alloc (.cells #[.pointer (some ⟨w.heap.size, 0, none⟩)] 143)) (w.heap.size + 1 + 1) ⟨X, V, P00, P01, P11, bent, missed⟩ from (Blk.new (by simp)).alloc _)
 have HH := zz (show Blk ((((w.alloc (.cells #[.int .i64 X, .int .i64 V, .int .i64 P00, .int .i64 P01, .int .i64 P11, .bool bent, .int .i64 missed] 33)).alloc (.cells #[.int .i64 0, .int .i64 0, .int .i64 0, .int .i64 0, .int .i64 0, .bool false, .int .i64 0] 33)).alloc (.cells #[.int .i64 X, .int .i64 V, .int .i64 P00, .int .i64 P01, .int .i64 P11, .bool bent, .int .i64 missed] 33)).alloc (.cells #[.pointer (some ⟨w.heap.size, 0, none⟩)] 143)) (w.heap.size + 1 + 1 + 1) 143 #[.pointer (some ⟨w.heap.size, 0, none⟩)] from Blk.new (by simp))
 have hsz : w.heap.size + 4 ≤ ((((w.alloc (.cells #[.int .i64 X, .int .i64 V, .int .i64 P00, .int .i64 P01, .int .i64 P11, .bool bent, .int .i64 missed] 33)).alloc (.cells #[.int .i64 0, .int .i64 0, .int .i64 0, .int .i64 0, .int .i64 0, .bool false, .int .i64 0] 33)).alloc (.cells #[.int .i64 X, .int .i64 V, .int .i64 P00, .int .i64 P01, .int .i64 P11, .bool bent, .int .i64 missed] 33)).alloc (.cells #[.pointer (some ⟨w.heap.size, 0, none⟩)] 143)).heap.size := by simp
 obtain ⟨⟨y, yb⟩, h_y⟩ : ∃ res_, fsub z X = res_ := ⟨_, rfl⟩; have Y_ := zz h_y
 have r_y : In64 y := by have h := fsub_range z X; rw [h_y] at h; exact h
 clear h_y; obtain ⟨⟨wd, wdb⟩, h_wd⟩ : ∃ res_, fadd P00 r = res_ := ⟨_, rfl⟩; have WD_ := zz h_wd
 have r_wd : In64 wd := by have h := fadd_range P00 r; rw [h_wd] at h; exact h
 clear h_wd; obtain ⟨⟨yy, yyb⟩, h_yy⟩ : ∃ res_, fmul y y = res_ := ⟨_, rfl⟩; have YY_ := zz h_yy
 have r_yy : In64 yy := by have h := fmul_range y y; rw [h_yy] at h; exact h
 clear h_yy; obtain ⟨⟨gq, gqb⟩, h_gq⟩ : ∃ res_, fmul gate wd = res_ := ⟨_, rfl⟩; have GQ_ := zz h_gq
 have r_gq : In64 gq := by have h := fmul_range gate wd; rw [h_gq] at h; exact h
 clear h_gq; obtain ⟨⟨kq, kqb⟩, h_kq⟩ : ∃ res_, fdiv P00 wd = res_ := ⟨_, rfl⟩; have KQ_ := zz h_kq
 have r_kq : In64 kq := by have h := fdiv_range P00 wd; rw [h_kq] at h; exact h
 clear h_kq; obtain ⟨⟨lq, lqb⟩, h_lq⟩ : ∃ res_, fdiv P01 wd = res_ := ⟨_, rfl⟩; have LQ_ := zz h_lq
 have r_lq : In64 lq := by have h := fdiv_range P01 wd; rw [h_lq] at h; exact h
 clear h_lq; obtain ⟨⟨m1, m1b⟩, h_m1⟩ : ∃ res_, fmul kq y = res_ := ⟨_, rfl⟩; have M1_ := zz h_m1
 have r_m1 : In64 m1 := by have h := fmul_range kq y; rw [h_m1] at h; exact h
 clear h_m1; obtain ⟨⟨x, xb⟩, h_x⟩ : ∃ res_, fadd X m1 = res_ := ⟨_, rfl⟩; have X_ := zz h_x
 have r_x : In64 x := by have h := fadd_range X m1; rw [h_x] at h; exact h
 clear h_x; obtain ⟨⟨m2, m2b⟩, h_m2⟩ : ∃ res_, fmul lq y = res_ := ⟨_, rfl⟩; have M2_ := zz h_m2
 have r_m2 : In64 m2 := by have h := fmul_range lq y; rw [h_m2] at h; exact h
 clear h_m2; obtain ⟨⟨v, vb⟩, h_v⟩ : ∃ res_, fadd V m2 = res_ := ⟨_, rfl⟩; have V_ := zz h_v
 have r_v : In64 v := by have h := fadd_range V m2; rw [h_v] at h; exact h
 clear h_v; obtain ⟨⟨m3, m3b⟩, h_m3⟩ : ∃ res_, fmul kq P00 = res_ := ⟨_, rfl⟩; have M3_ := zz h_m3
 have r_m3 : In64 m3 := by have h := fmul_range kq P00; rw [h_m3] at h; exact h
 clear h_m3; obtain ⟨⟨p0, p0b⟩, h_p0⟩ : ∃ res_, fsub P00 m3 = res_ := ⟨_, rfl⟩; have P0_ := zz h_p0
 have r_p0 : In64 p0 := by have h := fsub_range P00 m3; rw [h_p0] at h; exact h
 clear h_p0; obtain ⟨⟨m4, m4b⟩, h_m4⟩ : ∃ res_, fmul kq P01 = res_ := ⟨_, rfl⟩; have M4_ := zz h_m4
 have r_m4 : In64 m4 := by have h := fmul_range kq P01; rw [h_m4] at h; exact h
 clear h_m4; obtain ⟨⟨p1, p1b⟩, h_p1⟩ : ∃ res_, fsub P01 m4 = res_ := ⟨_, rfl⟩; have P1_ := zz h_p1
 have r_p1 : In64 p1 := by have h := fsub_range P01 m4; rw [h_p1] at h; exact h
 clear h_p1; obtain ⟨⟨m5, m5b⟩, h_m5⟩ : ∃ res_, fmul lq P01 = res_ := ⟨_, rfl⟩; have M5_ := zz h_m5
 have r_m5 : In64 m5 := by have h := fmul_range lq P01; rw [h_m5] at h; exact h
 clear h_m5; obtain ⟨⟨p2, p2b⟩, h_p2⟩ : ∃ res_, fsub P11 m5 = res_ := ⟨_, rfl⟩; have P2_ := zz h_p2
 have r_p2 : In64 p2 := by have h := fsub_range P11 m5; rw [h_p2] at h; exact h
 clear h_p2; obtain ⟨mw, hmw⟩ : ∃ m, IntKind.i64.wrap (missed + 1) = m := ⟨_, rfl⟩
 go_enter Try.func55, Try.ntmps55
 go_upto_region 3 with fail
 generalize ((((w.alloc (.cells #[.int .i64 X, .int .i64 V, .int .i64 P00, .int .i64 P01, .int .i64 P11, .bool bent, .int .i64 missed] 33)).alloc (.cells #[.int .i64 0, .int .i64 0, .int .i64 0, .int .i64 0, .int .i64 0, .bool false, .int .i64 0] 33)).alloc (.cells #[.int .i64 X, .int .i64 V, .int .i64 P00, .int .i64 P01, .int .i64 P11, .bool bent, .int .i64 missed] 33)).alloc (.cells #[.pointer (some ⟨w.heap.size, 0, none⟩)] 143)) = w1 at *
 obtain ⟨gh, hgh⟩ : ∃ g, w.heap.size + 1 + 1 + 1 = g := ⟨_, rfl⟩; rw [hgh] at HH ⊢; obtain ⟨gw, hgw⟩ : ∃ g, w.heap.size + 1 + 1 = g := ⟨_, rfl⟩; rw [hgw] at HW ⊢; obtain ⟨gr, hgr⟩ : ∃ g, w.heap.size + 1 = g := ⟨_, rfl⟩; rw [hgr] at HR ⊢
 (try clear k0 k1 k2 k3 k4 k5 k6)
 (try clear kh)
 obtain ⟨k0, k1, k2, k3, k4, k5, k6⟩ := st_cells HST.out; have kh := one_cell HH.out; go_wp2_with fail; refine (hsub_any w.heap.size _ z X _ HST.out r_z r_X).mono ?_; intro e w1 hc; rw [Y_.out] at hc; obtain ⟨rfl, hst, hg⟩ := hc; dsimp only at hst; have HST := zz hst; have HR := zz (HR.out.grown hg (neq_of (by omega))); have HH := zz (HH.out.grown hg (neq_of (by omega))); have HW := zz (HW.out.grown hg (neq_of (by omega))); have HB := zz (below_grown HB.out (Nat.le_refl _) hg (fun g e => by injection e with e; omega)); replace hsz := Nat.le_trans hsz hg.size; clear hst hg
 (try clear k0 k1 k2 k3 k4 k5 k6)
 (try clear kh)
 obtain ⟨k0, k1, k2, k3, k4, k5, k6⟩ := st_cells HST.out; have kh := one_cell HH.out; go_wp2_with fail; refine (hadd_any w.heap.size _ P00 r _ HST.out r_P00 r_r).mono ?_; intro e w1 hc; rw [WD_.out] at hc; obtain ⟨rfl, hst, hg⟩ := hc; dsimp only at hst; have HST := zz hst; have HR := zz (HR.out.grown hg (neq_of (by omega))); have HH := zz (HH.out.grown hg (neq_of (by omega))); have HW := zz (HW.out.grown hg (neq_of (by omega))); have HB := zz (below_grown HB.out (Nat.le_refl _) hg (fun g e => by injection e with e; omega)); replace hsz := Nat.le_trans hsz hg.size; clear hst hg
 (try clear k0 k1 k2 k3 k4 k5 k6)
 (try clear kh)
 obtain ⟨k0, k1, k2, k3, k4, k5, k6⟩ := st_cells HST.out; have kh := one_cell HH.out
 go_upto_region 5 with fail
 by_cases hA : wd ≤ 0
 ·
  have HST := zz (Blk.drew HST.out); have HR := zz (HR.out.drew); have HH := zz (HH.out.drew); have HW := zz (HW.out.drew); have HB := zz HB.out.drew; have hsz : w.heap.size + 4 ≤ w1.drew.heap.size := hsz
  (try clear k0 k1 k2 k3 k4 k5 k6)
  (try clear kh)
  obtain ⟨k0, k1, k2, k3, k4, k5, k6⟩ := st_cells HST.out; have kh := one_cell HH.out; have HS := And.intro k0 (And.intro k1 (And.intro k2 (And.intro k3 (And.intro k4 kh)))); refine wp_region_noPanic ?_; refine Rg.beginR [] (fun w' => w'.cell? ⟨w.heap.size, 0, none⟩ = some (.int .i64 X) ∧ w'.cell? ⟨w.heap.size, 1, none⟩ = some (.int .i64 V) ∧ w'.cell? ⟨w.heap.size, 2, none⟩ = some (.int .i64 P00) ∧ w'.cell? ⟨w.heap.size, 3, none⟩ = some (.int .i64 P01) ∧ w'.cell? ⟨w.heap.size, 4, none⟩ = some (.int .i64 P11) ∧ w'.cell? ⟨gh, 0, none⟩ = some (.pointer (some ⟨w.heap.size, 0, none⟩))) (by kernel_rfl) ?_
  generalize w1.drew = w1 at *
  refine Rg.tq 0 ⟨some 30, .move (.tmp 13), _, _, _, none⟩ rfl ?_; (try simp only [Rg.lp]); refine Rg.tq 1 ⟨some 31, .binOp .leq 3 (.tmp 30) (.const (.int .i64 0)) 3, _, _, _, none⟩ rfl ?_; (try simp only [Rg.lp]); refine Rg.tq 2 ⟨some 32, .move (.tmp 31), _, _, _, none⟩ rfl ?_; (try simp only [Rg.lp]); refine Rg.tn 3 ⟨some 33, .load 143 (.tmp 11), _, _, _, some (2, false)⟩ rfl ?_; (try simp only [Rg.lp]); refine Rg.tn 4 ⟨some 34, .move (.tmp 12), _, _, _, some (2, false)⟩ rfl ?_; (try simp only [Rg.lp]); refine Rg.tn 5 ⟨some 35, .move (.tmp 12), _, _, _, some (2, false)⟩ rfl ?_; (try simp only [Rg.lp]); refine Rg.tn 6 ⟨some 36, .call { callee := .value (.func 70), args := #[.tmp 33, .tmp 34, .tmp 35], argTypes := _ }, _, _, _, some (2, false)⟩ rfl ?_; (try simp only [Rg.lp]); refine Rg.tn 7 ⟨some 37, .load 143 (.tmp 11), _, _, _, some (2, false)⟩ rfl ?_; (try simp only [Rg.lp]); refine Rg.tn 8 ⟨some 38, .move (.tmp 3), _, _, _, some (2, false)⟩ rfl ?_; (try simp only [Rg.lp]); refine Rg.tn 9 ⟨some 39, .move (.tmp 13), _, _, _, some (2, false)⟩ rfl ?_; (try simp only [Rg.lp]); refine Rg.tn 10 ⟨some 40, .call { callee := .value (.func 70), args := #[.tmp 37, .tmp 38, .tmp 39], argTypes := _ }, _, _, _, some (2, false)⟩ rfl ?_; (try simp only [Rg.lp]); refine Rg.tn 11 ⟨some 41, .binOp .gtr 3 (.tmp 36) (.tmp 40) 3, _, _, _, some (2, false)⟩ rfl ?_; (try simp only [Rg.lp]); refine Rg.tq 12 ⟨some 42, .pick (.tmp 32) (.const (.bool true)) (.tmp 41), _, _, _, none⟩ rfl ?_; (try simp only [Rg.lp])
  refine Rg.doneR (by kernel_rfl) ?_ _; refine NoPanic.normal ?_; clear HS
  go_upto_region 6 with fail
  obtain ⟨f0, f1, f2, f3, f4, f5, f6⟩ := st_thaws HW.out; obtain ⟨j0, j1, j2, j3, j4, j5, j6⟩ := st_cells HW.out
  go_upto_region 7 with fail
  have HG := zz (show Blk (w1.setCell ⟨gw, 6, none⟩ (.int .i64 mw)) gw 33 #[.int .i64 X, .int .i64 V, .int .i64 P00, .int .i64 P01, .int .i64 P11, .bool bent, .int .i64 mw] from Blk.set HW.out 6 (.int .i64 mw))
  have HR := zz (HR.out.other (p := ⟨gw, 6, none⟩) (by show _ ≠ gw; omega) (.int .i64 mw))
  have HB := zz (HB.out.setCell (p := ⟨gw, 6, none⟩) (by show _ ≤ gw; omega) (.int .i64 mw))
  clear f0 f1 f2 f3 f4 f5 f6 j0 j1 j2 j3 j4 j5 j6 k0 k1 k2 k3 k4 k5 k6
  (try clear kh)
  generalize (w1.setCell ⟨gw, 6, none⟩ (.int .i64 mw)) = w1 at *
  have HF := zz (show update ⟨X, V, P00, P01, P11, bent, missed⟩ z r gate = (⟨X, V, P00, P01, P11, bent, mw⟩, false) by simp only [update, Y_.out, WD_.out, YY_.out, GQ_.out]; rw [if_pos (Or.inl hA), hmw])
  go_wp2_with (first | (refine wpList_whole rfl 33 _ rfl gw rfl HG.out _ Try.underlying33 rfl (by kernel_rfl) ?_) | (refine wpList_store_row rfl 33 _ _ rfl gr #[.int .i64 X, .int .i64 V, .int .i64 P00, .int .i64 P01, .int .i64 P11, .bool bent, .int .i64 mw] rfl rfl 33 _ HR.out (by kernel_rfl) rfl (by simp [Value.oneCell']) ?_))
  refine ret_row2 (x := .bool false) rfl rfl rfl (HR.out.setRow #[.int .i64 X, .int .i64 V, .int .i64 P00, .int .i64 P01, .int .i64 P11, .bool bent, .int .i64 mw]) ⟨by rw [Try.underlying33], by kernel_rfl⟩ rfl ?_; rw [HF.out]; exact ⟨rfl, below_setRow HB.out (by omega) _⟩
 ·
  have hA' : 0 < wd := by omega
  by_cases hC : gq < yy
  ·
   have HST := zz (Blk.drew HST.out); have HR := zz (HR.out.drew); have HH := zz (HH.out.drew); have HW := zz (HW.out.drew); have HB := zz HB.out.drew; have hsz : w.heap.size + 4 ≤ w1.drew.heap.size := hsz
   (try clear k0 k1 k2 k3 k4 k5 k6)
   (try clear kh)
   obtain ⟨k0, k1, k2, k3, k4, k5, k6⟩ := st_cells HST.out; have kh := one_cell HH.out; have HS := And.intro k0 (And.intro k1 (And.intro k2 (And.intro k3 (And.intro k4 kh)))); refine wp_region_noPanic ?_; refine Rg.beginR [3, 7] (fun w' => w'.cell? ⟨w.heap.size, 0, none⟩ = some (.int .i64 X) ∧ w'.cell? ⟨w.heap.size, 1, none⟩ = some (.int .i64 V) ∧ w'.cell? ⟨w.heap.size, 2, none⟩ = some (.int .i64 P00) ∧ w'.cell? ⟨w.heap.size, 3, none⟩ = some (.int .i64 P01) ∧ w'.cell? ⟨w.heap.size, 4, none⟩ = some (.int .i64 P11) ∧ w'.cell? ⟨gh, 0, none⟩ = some (.pointer (some ⟨w.heap.size, 0, none⟩))) (by kernel_rfl) ?_
   generalize w1.drew = w1 at *
   refine Rg.tq 0 ⟨some 30, .move (.tmp 13), _, _, _, none⟩ rfl ?_; (try simp only [Rg.lp]); refine Rg.tq 1 ⟨some 31, .binOp .leq 3 (.tmp 30) (.const (.int .i64 0)) 3, _, _, _, none⟩ rfl ?_; (try simp only [Rg.lp]); refine Rg.tq 2 ⟨some 32, .move (.tmp 31), _, _, _, none⟩ rfl ?_; (try simp only [Rg.lp]); refine Rg.tr 3 ⟨some 33, .load 143 (.tmp 11), _, _, _, some (2, false)⟩ rfl HS ?_; (try simp only [Rg.lp]); refine Rg.tq 4 ⟨some 34, .move (.tmp 12), _, _, _, some (2, false)⟩ rfl ?_; (try simp only [Rg.lp]); refine Rg.tq 5 ⟨some 35, .move (.tmp 12), _, _, _, some (2, false)⟩ rfl ?_; (try simp only [Rg.lp]); refine Rg.tr 7 ⟨some 37, .load 143 (.tmp 11), _, _, _, some (2, false)⟩ rfl HS ?_; (try simp only [Rg.lp]); refine Rg.tq 8 ⟨some 38, .move (.tmp 3), _, _, _, some (2, false)⟩ rfl ?_; (try simp only [Rg.lp]); refine Rg.tq 9 ⟨some 39, .move (.tmp 13), _, _, _, some (2, false)⟩ rfl ?_; (try simp only [Rg.lp]); refine Rg.or1 6 ⟨some 36, .call { callee := .value (.func 70), args := #[.tmp 33, .tmp 34, .tmp 35], argTypes := _ }, _, _, _, some (2, false)⟩ rfl ?_; refine Rg.stepS ?_; intro K hK; rw [if_pos (by rfl)]; go_simp
   go_at_call 70
   refine (hmul_any w.heap.size _ y y _ HST.out r_y r_y).mono ?_; intro e w1 hc; rw [YY_.out] at hc; obtain ⟨rfl, hst, hg⟩ := hc; dsimp only at hst; have HST := zz hst; have HR := zz (HR.out.grown hg (neq_of (by omega))); have HH := zz (HH.out.grown hg (neq_of (by omega))); have HW := zz (HW.out.grown hg (neq_of (by omega))); have HB := zz (below_grown HB.out (Nat.le_refl _) hg (fun g e => by injection e with e; omega)); replace hsz := Nat.le_trans hsz hg.size; clear hst hg
   (try clear k0 k1 k2 k3 k4 k5 k6)
   (try clear kh)
   obtain ⟨k0, k1, k2, k3, k4, k5, k6⟩ := st_cells HST.out; have kh := one_cell HH.out; clear HS; have HS := And.intro k0 (And.intro k1 (And.intro k2 (And.intro k3 (And.intro k4 kh)))); go_wp2_with fail; refine hK.out _ _ HS ?_; clear hK K; (try simp only [Rg.lp]); refine Rg.or1 10 ⟨some 40, .call { callee := .value (.func 70), args := #[.tmp 37, .tmp 38, .tmp 39], argTypes := _ }, _, _, _, some (2, false)⟩ rfl ?_; refine Rg.stepF ?_ ?_
   · kernel_rfl
   intro K hK; rw [if_pos (by rfl)]; go_simp
   go_at_call 70
   refine (hmul_any w.heap.size _ gate wd _ HST.out r_gate r_wd).mono ?_; intro e w1 hc; rw [GQ_.out] at hc; obtain ⟨rfl, hst, hg⟩ := hc; dsimp only at hst; have HST := zz hst; have HR := zz (HR.out.grown hg (neq_of (by omega))); have HH := zz (HH.out.grown hg (neq_of (by omega))); have HW := zz (HW.out.grown hg (neq_of (by omega))); have HB := zz (below_grown HB.out (Nat.le_refl _) hg (fun g e => by injection e with e; omega)); replace hsz := Nat.le_trans hsz hg.size; clear hst hg
   (try clear k0 k1 k2 k3 k4 k5 k6)
   (try clear kh)
   obtain ⟨k0, k1, k2, k3, k4, k5, k6⟩ := st_cells HST.out; have kh := one_cell HH.out; clear HS; have HS := And.intro k0 (And.intro k1 (And.intro k2 (And.intro k3 (And.intro k4 kh)))); go_wp2_with fail; refine hK.out _ _ ?_; clear hK K; (try simp only [Rg.lp]); refine Rg.tq 11 ⟨some 41, .binOp .gtr 3 (.tmp 36) (.tmp 40) 3, _, _, _, some (2, false)⟩ rfl ?_; (try simp only [Rg.lp]); refine Rg.tq 12 ⟨some 42, .pick (.tmp 32) (.const (.bool true)) (.tmp 41), _, _, _, none⟩ rfl ?_; (try simp only [Rg.lp]); refine Rg.doneR (by kernel_rfl) ?_ _; refine NoPanic.normal ?_; clear HS
   go_upto_region 6 with fail
   obtain ⟨f0, f1, f2, f3, f4, f5, f6⟩ := st_thaws HW.out; obtain ⟨j0, j1, j2, j3, j4, j5, j6⟩ := st_cells HW.out
   go_upto_region 7 with fail
   have HG := zz (show Blk (w1.setCell ⟨gw, 6, none⟩ (.int .i64 mw)) gw 33 #[.int .i64 X, .int .i64 V, .int .i64 P00, .int .i64 P01, .int .i64 P11, .bool bent, .int .i64 mw] from Blk.set HW.out 6 (.int .i64 mw))
   have HR := zz (HR.out.other (p := ⟨gw, 6, none⟩) (by show _ ≠ gw; omega) (.int .i64 mw))
   have HB := zz (HB.out.setCell (p := ⟨gw, 6, none⟩) (by show _ ≤ gw; omega) (.int .i64 mw))
   clear f0 f1 f2 f3 f4 f5 f6 j0 j1 j2 j3 j4 j5 j6 k0 k1 k2 k3 k4 k5 k6
   (try clear kh)
   generalize (w1.setCell ⟨gw, 6, none⟩ (.int .i64 mw)) = w1 at *
   have HF := zz (show update ⟨X, V, P00, P01, P11, bent, missed⟩ z r gate = (⟨X, V, P00, P01, P11, bent, mw⟩, false) by simp only [update, Y_.out, WD_.out, YY_.out, GQ_.out]; rw [if_pos (Or.inr hC), hmw])
   go_wp2_with (first | (refine wpList_whole rfl 33 _ rfl gw rfl HG.out _ Try.underlying33 rfl (by kernel_rfl) ?_) | (refine wpList_store_row rfl 33 _ _ rfl gr #[.int .i64 X, .int .i64 V, .int .i64 P00, .int .i64 P01, .int .i64 P11, .bool bent, .int .i64 mw] rfl rfl 33 _ HR.out (by kernel_rfl) rfl (by simp [Value.oneCell']) ?_))
   refine ret_row2 (x := .bool false) rfl rfl rfl (HR.out.setRow #[.int .i64 X, .int .i64 V, .int .i64 P00, .int .i64 P01, .int .i64 P11, .bool bent, .int .i64 mw]) ⟨by rw [Try.underlying33], by kernel_rfl⟩ rfl ?_; rw [HF.out]; exact ⟨rfl, below_setRow HB.out (by omega) _⟩
  ·
   have hC' : yy ≤ gq := by omega
   have HST := zz (Blk.drew HST.out); have HR := zz (HR.out.drew); have HH := zz (HH.out.drew); have HW := zz (HW.out.drew); have HB := zz HB.out.drew; have hsz : w.heap.size + 4 ≤ w1.drew.heap.size := hsz
   (try clear k0 k1 k2 k3 k4 k5 k6)
   (try clear kh)
   obtain ⟨k0, k1, k2, k3, k4, k5, k6⟩ := st_cells HST.out; have kh := one_cell HH.out; have HS := And.intro k0 (And.intro k1 (And.intro k2 (And.intro k3 (And.intro k4 kh)))); refine wp_region_noPanic ?_; refine Rg.beginR [3, 7] (fun w' => w'.cell? ⟨w.heap.size, 0, none⟩ = some (.int .i64 X) ∧ w'.cell? ⟨w.heap.size, 1, none⟩ = some (.int .i64 V) ∧ w'.cell? ⟨w.heap.size, 2, none⟩ = some (.int .i64 P00) ∧ w'.cell? ⟨w.heap.size, 3, none⟩ = some (.int .i64 P01) ∧ w'.cell? ⟨w.heap.size, 4, none⟩ = some (.int .i64 P11) ∧ w'.cell? ⟨gh, 0, none⟩ = some (.pointer (some ⟨w.heap.size, 0, none⟩))) (by kernel_rfl) ?_
   generalize w1.drew = w1 at *
   refine Rg.tq 0 ⟨some 30, .move (.tmp 13), _, _, _, none⟩ rfl ?_; (try simp only [Rg.lp]); refine Rg.tq 1 ⟨some 31, .binOp .leq 3 (.tmp 30) (.const (.int .i64 0)) 3, _, _, _, none⟩ rfl ?_; (try simp only [Rg.lp]); refine Rg.tq 2 ⟨some 32, .move (.tmp 31), _, _, _, none⟩ rfl ?_; (try simp only [Rg.lp]); refine Rg.tr 3 ⟨some 33, .load 143 (.tmp 11), _, _, _, some (2, false)⟩ rfl HS ?_; (try simp only [Rg.lp]); refine Rg.tq 4 ⟨some 34, .move (.tmp 12), _, _, _, some (2, false)⟩ rfl ?_; (try simp only [Rg.lp]); refine Rg.tq 5 ⟨some 35, .move (.tmp 12), _, _, _, some (2, false)⟩ rfl ?_; (try simp only [Rg.lp]); refine Rg.tr 7 ⟨some 37, .load 143 (.tmp 11), _, _, _, some (2, false)⟩ rfl HS ?_; (try simp only [Rg.lp]); refine Rg.tq 8 ⟨some 38, .move (.tmp 3), _, _, _, some (2, false)⟩ rfl ?_; (try simp only [Rg.lp]); refine Rg.tq 9 ⟨some 39, .move (.tmp 13), _, _, _, some (2, false)⟩ rfl ?_; (try simp only [Rg.lp]); refine Rg.or1 6 ⟨some 36, .call { callee := .value (.func 70), args := #[.tmp 33, .tmp 34, .tmp 35], argTypes := _ }, _, _, _, some (2, false)⟩ rfl ?_; refine Rg.stepS ?_; intro K hK; rw [if_pos (by rfl)]; go_simp
   go_at_call 70
   refine (hmul_any w.heap.size _ y y _ HST.out r_y r_y).mono ?_; intro e w1 hc; rw [YY_.out] at hc; obtain ⟨rfl, hst, hg⟩ := hc; dsimp only at hst; have HST := zz hst; have HR := zz (HR.out.grown hg (neq_of (by omega))); have HH := zz (HH.out.grown hg (neq_of (by omega))); have HW := zz (HW.out.grown hg (neq_of (by omega))); have HB := zz (below_grown HB.out (Nat.le_refl _) hg (fun g e => by injection e with e; omega)); replace hsz := Nat.le_trans hsz hg.size; clear hst hg
   (try clear k0 k1 k2 k3 k4 k5 k6)
   (try clear kh)
   obtain ⟨k0, k1, k2, k3, k4, k5, k6⟩ := st_cells HST.out; have kh := one_cell HH.out; clear HS; have HS := And.intro k0 (And.intro k1 (And.intro k2 (And.intro k3 (And.intro k4 kh)))); go_wp2_with fail; refine hK.out _ _ HS ?_; clear hK K; (try simp only [Rg.lp]); refine Rg.or1 10 ⟨some 40, .call { callee := .value (.func 70), args := #[.tmp 37, .tmp 38, .tmp 39], argTypes := _ }, _, _, _, some (2, false)⟩ rfl ?_; refine Rg.stepF ?_ ?_
   · kernel_rfl
   intro K hK; rw [if_pos (by rfl)]; go_simp
   go_at_call 70
   refine (hmul_any w.heap.size _ gate wd _ HST.out r_gate r_wd).mono ?_; intro e w1 hc; rw [GQ_.out] at hc; obtain ⟨rfl, hst, hg⟩ := hc; dsimp only at hst; have HST := zz hst; have HR := zz (HR.out.grown hg (neq_of (by omega))); have HH := zz (HH.out.grown hg (neq_of (by omega))); have HW := zz (HW.out.grown hg (neq_of (by omega))); have HB := zz (below_grown HB.out (Nat.le_refl _) hg (fun g e => by injection e with e; omega)); replace hsz := Nat.le_trans hsz hg.size; clear hst hg
   (try clear k0 k1 k2 k3 k4 k5 k6)
   (try clear kh)
   obtain ⟨k0, k1, k2, k3, k4, k5, k6⟩ := st_cells HST.out; have kh := one_cell HH.out; clear HS; have HS := And.intro k0 (And.intro k1 (And.intro k2 (And.intro k3 (And.intro k4 kh)))); go_wp2_with fail; refine hK.out _ _ ?_; clear hK K; (try simp only [Rg.lp]); refine Rg.tq 11 ⟨some 41, .binOp .gtr 3 (.tmp 36) (.tmp 40) 3, _, _, _, some (2, false)⟩ rfl ?_; (try simp only [Rg.lp]); refine Rg.tq 12 ⟨some 42, .pick (.tmp 32) (.const (.bool true)) (.tmp 41), _, _, _, none⟩ rfl ?_; (try simp only [Rg.lp]); refine Rg.doneR (by kernel_rfl) ?_ _; refine NoPanic.normal ?_; clear HS
   go_upto_region 8 with fail
   have HST := zz (Blk.drew HST.out); have HR := zz (HR.out.drew); have HH := zz (HH.out.drew); have HW := zz (HW.out.drew); have HB := zz HB.out.drew; have hsz : w.heap.size + 4 ≤ w1.drew.heap.size := hsz
   (try clear k0 k1 k2 k3 k4 k5 k6)
   (try clear kh)
   obtain ⟨k0, k1, k2, k3, k4, k5, k6⟩ := st_cells HST.out; have kh := one_cell HH.out; have HS := And.intro k0 (And.intro k1 (And.intro k2 (And.intro k3 (And.intro k4 kh)))); refine wp_region_noPanic ?_; refine Rg.beginR [0, 2, 5, 7] (fun w' => w'.cell? ⟨w.heap.size, 0, none⟩ = some (.int .i64 X) ∧ w'.cell? ⟨w.heap.size, 1, none⟩ = some (.int .i64 V) ∧ w'.cell? ⟨w.heap.size, 2, none⟩ = some (.int .i64 P00) ∧ w'.cell? ⟨w.heap.size, 3, none⟩ = some (.int .i64 P01) ∧ w'.cell? ⟨w.heap.size, 4, none⟩ = some (.int .i64 P11) ∧ w'.cell? ⟨gh, 0, none⟩ = some (.pointer (some ⟨w.heap.size, 0, none⟩))) (by kernel_rfl) ?_
   generalize w1.drew = w1 at *
   refine Rg.tr 0 ⟨some 48, .load 143 (.tmp 11), _, _, _, none⟩ rfl HS ?_; (try simp only [Rg.lp]); refine Rg.tq 1 ⟨some 49, .fieldAddr 33 (.tmp 4) 2, _, _, _, none⟩ rfl ?_; (try simp only [Rg.lp]); refine Rg.tr 2 ⟨some 50, .load 3 (.tmp 49), _, _, _, none⟩ rfl HS ?_; (try simp only [Rg.lp]); refine Rg.tq 3 ⟨some 51, .move (.tmp 13), _, _, _, none⟩ rfl ?_; (try simp only [Rg.lp]); refine Rg.tr 5 ⟨some 53, .load 143 (.tmp 11), _, _, _, none⟩ rfl HS ?_; (try simp only [Rg.lp]); refine Rg.tq 6 ⟨some 54, .fieldAddr 33 (.tmp 4) 3, _, _, _, none⟩ rfl ?_; (try simp only [Rg.lp]); refine Rg.tr 7 ⟨some 55, .load 3 (.tmp 54), _, _, _, none⟩ rfl HS ?_; (try simp only [Rg.lp]); refine Rg.tq 8 ⟨some 56, .move (.tmp 13), _, _, _, none⟩ rfl ?_; (try simp only [Rg.lp]); refine Rg.or1 4 ⟨some 52, .call { callee := .value (.func 71), args := #[.tmp 48, .tmp 50, .tmp 51], argTypes := _ }, _, _, _, none⟩ rfl ?_; refine Rg.stepS ?_; intro K hK; rw [if_pos (by rfl)]; go_simp
   go_at_call 71
   refine (hdiv_any w.heap.size _ P00 wd _ HST.out r_P00 r_wd).mono ?_; intro e w1 hc; rw [KQ_.out] at hc; obtain ⟨rfl, hst, hg⟩ := hc; dsimp only at hst; have HST := zz hst; have HR := zz (HR.out.grown hg (neq_of (by omega))); have HH := zz (HH.out.grown hg (neq_of (by omega))); have HW := zz (HW.out.grown hg (neq_of (by omega))); have HB := zz (below_grown HB.out (Nat.le_refl _) hg (fun g e => by injection e with e; omega)); replace hsz := Nat.le_trans hsz hg.size; clear hst hg
   (try clear k0 k1 k2 k3 k4 k5 k6)
   (try clear kh)
   obtain ⟨k0, k1, k2, k3, k4, k5, k6⟩ := st_cells HST.out; have kh := one_cell HH.out; clear HS; have HS := And.intro k0 (And.intro k1 (And.intro k2 (And.intro k3 (And.intro k4 kh)))); go_wp2_with fail; refine hK.out _ _ HS ?_; clear hK K; (try simp only [Rg.lp]); refine Rg.or1 9 ⟨some 57, .call { callee := .value (.func 71), args := #[.tmp 53, .tmp 55, .tmp 56], argTypes := _ }, _, _, _, none⟩ rfl ?_; refine Rg.stepF ?_ ?_
   · kernel_rfl
   intro K hK; rw [if_pos (by rfl)]; go_simp
   go_at_call 71
   refine (hdiv_any w.heap.size _ P01 wd _ HST.out r_P01 r_wd).mono ?_; intro e w1 hc; rw [LQ_.out] at hc; obtain ⟨rfl, hst, hg⟩ := hc; dsimp only at hst; have HST := zz hst; have HR := zz (HR.out.grown hg (neq_of (by omega))); have HH := zz (HH.out.grown hg (neq_of (by omega))); have HW := zz (HW.out.grown hg (neq_of (by omega))); have HB := zz (below_grown HB.out (Nat.le_refl _) hg (fun g e => by injection e with e; omega)); replace hsz := Nat.le_trans hsz hg.size; clear hst hg
   (try clear k0 k1 k2 k3 k4 k5 k6)
   (try clear kh)
   obtain ⟨k0, k1, k2, k3, k4, k5, k6⟩ := st_cells HST.out; have kh := one_cell HH.out; clear HS; have HS := And.intro k0 (And.intro k1 (And.intro k2 (And.intro k3 (And.intro k4 kh)))); go_wp2_with fail; refine hK.out _ _ ?_; clear hK K; (try simp only [Rg.lp]); refine Rg.tq 10 ⟨some 14, .assign (.tmp 52), _, _, _, none⟩ rfl ?_; (try simp only [Rg.lp]); refine Rg.tq 11 ⟨some 15, .assign (.tmp 57), _, _, _, none⟩ rfl ?_; (try simp only [Rg.lp]); refine Rg.doneR (by kernel_rfl) ?_ _; refine NoPanic.normal ?_; clear HS
   go_upto_region 9 with fail
   have HST := zz (Blk.drew HST.out); have HR := zz (HR.out.drew); have HH := zz (HH.out.drew); have HW := zz (HW.out.drew); have HB := zz HB.out.drew; have hsz : w.heap.size + 4 ≤ w1.drew.heap.size := hsz
   (try clear k0 k1 k2 k3 k4 k5 k6)
   (try clear kh)
   obtain ⟨k0, k1, k2, k3, k4, k5, k6⟩ := st_cells HST.out; have kh := one_cell HH.out; have HS := And.intro k0 (And.intro k1 (And.intro k2 (And.intro k3 (And.intro k4 kh)))); refine wp_region_noPanic ?_; refine Rg.beginR [0, 2, 3] (fun w' => w'.cell? ⟨w.heap.size, 0, none⟩ = some (.int .i64 X) ∧ w'.cell? ⟨w.heap.size, 1, none⟩ = some (.int .i64 V) ∧ w'.cell? ⟨w.heap.size, 2, none⟩ = some (.int .i64 P00) ∧ w'.cell? ⟨w.heap.size, 3, none⟩ = some (.int .i64 P01) ∧ w'.cell? ⟨w.heap.size, 4, none⟩ = some (.int .i64 P11) ∧ w'.cell? ⟨gh, 0, none⟩ = some (.pointer (some ⟨w.heap.size, 0, none⟩))) (by kernel_rfl) ?_
   generalize w1.drew = w1 at *
   refine Rg.tr 0 ⟨some 58, .load 143 (.tmp 11), _, _, _, none⟩ rfl HS ?_; (try simp only [Rg.lp]); refine Rg.tq 1 ⟨some 59, .fieldAddr 33 (.tmp 4) 0, _, _, _, none⟩ rfl ?_; (try simp only [Rg.lp]); refine Rg.tr 2 ⟨some 60, .load 3 (.tmp 59), _, _, _, none⟩ rfl HS ?_; (try simp only [Rg.lp]); refine Rg.tr 3 ⟨some 61, .load 143 (.tmp 11), _, _, _, none⟩ rfl HS ?_; (try simp only [Rg.lp]); refine Rg.tq 4 ⟨some 62, .move (.tmp 14), _, _, _, none⟩ rfl ?_; (try simp only [Rg.lp]); refine Rg.tq 5 ⟨some 63, .move (.tmp 12), _, _, _, none⟩ rfl ?_; (try simp only [Rg.lp]); refine Rg.or1 6 ⟨some 64, .call { callee := .value (.func 70), args := #[.tmp 61, .tmp 62, .tmp 63], argTypes := _ }, _, _, _, none⟩ rfl ?_; refine Rg.stepS ?_; intro K hK; rw [if_pos (by rfl)]; go_simp
   go_at_call 70
   refine (hmul_any w.heap.size _ kq y _ HST.out r_kq r_y).mono ?_; intro e w1 hc; rw [M1_.out] at hc; obtain ⟨rfl, hst, hg⟩ := hc; dsimp only at hst; have HST := zz hst; have HR := zz (HR.out.grown hg (neq_of (by omega))); have HH := zz (HH.out.grown hg (neq_of (by omega))); have HW := zz (HW.out.grown hg (neq_of (by omega))); have HB := zz (below_grown HB.out (Nat.le_refl _) hg (fun g e => by injection e with e; omega)); replace hsz := Nat.le_trans hsz hg.size; clear hst hg
   (try clear k0 k1 k2 k3 k4 k5 k6)
   (try clear kh)
   obtain ⟨k0, k1, k2, k3, k4, k5, k6⟩ := st_cells HST.out; have kh := one_cell HH.out; clear HS; have HS := And.intro k0 (And.intro k1 (And.intro k2 (And.intro k3 (And.intro k4 kh)))); go_wp2_with fail; refine hK.out _ _ HS ?_; clear hK K; (try simp only [Rg.lp]); refine Rg.or1 7 ⟨some 65, .call { callee := .value (.func 69), args := #[.tmp 58, .tmp 60, .tmp 64], argTypes := _ }, _, _, _, none⟩ rfl ?_; refine Rg.stepF ?_ ?_
   · kernel_rfl
   intro K hK; rw [if_pos (by rfl)]; go_simp
   go_at_call 69
   refine (hadd_any w.heap.size _ X m1 _ HST.out r_X r_m1).mono ?_; intro e w1 hc; rw [X_.out] at hc; obtain ⟨rfl, hst, hg⟩ := hc; dsimp only at hst; have HST := zz hst; have HR := zz (HR.out.grown hg (neq_of (by omega))); have HH := zz (HH.out.grown hg (neq_of (by omega))); have HW := zz (HW.out.grown hg (neq_of (by omega))); have HB := zz (below_grown HB.out (Nat.le_refl _) hg (fun g e => by injection e with e; omega)); replace hsz := Nat.le_trans hsz hg.size; clear hst hg
   (try clear k0 k1 k2 k3 k4 k5 k6)
   (try clear kh)
   obtain ⟨k0, k1, k2, k3, k4, k5, k6⟩ := st_cells HST.out; have kh := one_cell HH.out; clear HS; have HS := And.intro k0 (And.intro k1 (And.intro k2 (And.intro k3 (And.intro k4 kh)))); obtain ⟨f0, f1, f2, f3, f4, f5, f6⟩ := st_thaws HST.out; go_wp2_with fail; refine hK.out _ _ ?_; clear hK K; (try simp only [Rg.lp]); refine Rg.tq 8 ⟨some 66, .fieldAddr 33 (.tmp 4) 0, _, _, _, none⟩ rfl ?_; (try simp only [Rg.lp]); refine Rg.or1 9 ⟨none, .store 3 (.tmp 66) (.tmp 65), _, _, _, none⟩ rfl ?_; refine Rg.stepF ?_ ?_
   · kernel_rfl
   intro K hK; go_simp; refine hK.out _ _ ?_; clear hK K; (try simp only [Rg.lp]); refine Rg.doneR (by kernel_rfl) ?_ _; refine NoPanic.normal ?_; clear HS; clear f0 f1 f2 f3 f4 f5 f6
   have HP := zz (show StAt (w1.setCell ⟨w.heap.size, 0, none⟩ (.int .i64 x)) w.heap.size ⟨x, V, P00, P01, P11, ((((((((bent || yb) || wdb) || yyb) || gqb) || kqb) || lqb) || m1b) || xb), missed⟩ from Blk.set HST.out 0 (.int .i64 x))
   have HR := zz (HR.out.other (p := ⟨w.heap.size, 0, none⟩) (by show _ ≠ w.heap.size; omega) (.int .i64 x))
   have HH := zz (HH.out.other (p := ⟨w.heap.size, 0, none⟩) (by show _ ≠ w.heap.size; omega) (.int .i64 x))
   have HW := zz (HW.out.other (p := ⟨w.heap.size, 0, none⟩) (by show _ ≠ w.heap.size; omega) (.int .i64 x))
   have HB := zz (HB.out.setCell (p := ⟨w.heap.size, 0, none⟩) (by show _ ≤ w.heap.size; omega) (.int .i64 x))
   replace hsz : w.heap.size + 4 ≤ (w1.setCell ⟨w.heap.size, 0, none⟩ (.int .i64 x)).heap.size := by simpa using hsz
   have HST := HP; clear HP
   generalize (w1.setCell ⟨w.heap.size, 0, none⟩ (.int .i64 x)) = w1 at *
   (try clear k0 k1 k2 k3 k4 k5 k6)
   (try clear kh)
   obtain ⟨k0, k1, k2, k3, k4, k5, k6⟩ := st_cells HST.out; have kh := one_cell HH.out
   go_upto_region 10 with fail
   have HST := zz (Blk.drew HST.out); have HR := zz (HR.out.drew); have HH := zz (HH.out.drew); have HW := zz (HW.out.drew); have HB := zz HB.out.drew; have hsz : w.heap.size + 4 ≤ w1.drew.heap.size := hsz
   (try clear k0 k1 k2 k3 k4 k5 k6)
   (try clear kh)
   obtain ⟨k0, k1, k2, k3, k4, k5, k6⟩ := st_cells HST.out; have kh := one_cell HH.out; have HS := And.intro k0 (And.intro k1 (And.intro k2 (And.intro k3 (And.intro k4 kh)))); refine wp_region_noPanic ?_; refine Rg.beginR [0, 2, 3] (fun w' => w'.cell? ⟨w.heap.size, 0, none⟩ = some (.int .i64 x) ∧ w'.cell? ⟨w.heap.size, 1, none⟩ = some (.int .i64 V) ∧ w'.cell? ⟨w.heap.size, 2, none⟩ = some (.int .i64 P00) ∧ w'.cell? ⟨w.heap.size, 3, none⟩ = some (.int .i64 P01) ∧ w'.cell? ⟨w.heap.size, 4, none⟩ = some (.int .i64 P11) ∧ w'.cell? ⟨gh, 0, none⟩ = some (.pointer (some ⟨w.heap.size, 0, none⟩))) (by kernel_rfl) ?_
   generalize w1.drew = w1 at *
   refine Rg.tr 0 ⟨some 67, .load 143 (.tmp 11), _, _, _, none⟩ rfl HS ?_; (try simp only [Rg.lp]); refine Rg.tq 1 ⟨some 68, .fieldAddr 33 (.tmp 4) 1, _, _, _, none⟩ rfl ?_; (try simp only [Rg.lp]); refine Rg.tr 2 ⟨some 69, .load 3 (.tmp 68), _, _, _, none⟩ rfl HS ?_; (try simp only [Rg.lp]); refine Rg.tr 3 ⟨some 70, .load 143 (.tmp 11), _, _, _, none⟩ rfl HS ?_; (try simp only [Rg.lp]); refine Rg.tq 4 ⟨some 71, .move (.tmp 15), _, _, _, none⟩ rfl ?_; (try simp only [Rg.lp]); refine Rg.tq 5 ⟨some 72, .move (.tmp 12), _, _, _, none⟩ rfl ?_; (try simp only [Rg.lp]); refine Rg.or1 6 ⟨some 73, .call { callee := .value (.func 70), args := #[.tmp 70, .tmp 71, .tmp 72], argTypes := _ }, _, _, _, none⟩ rfl ?_; refine Rg.stepS ?_; intro K hK; rw [if_pos (by rfl)]; go_simp
   go_at_call 70
   refine (hmul_any w.heap.size _ lq y _ HST.out r_lq r_y).mono ?_; intro e w1 hc; rw [M2_.out] at hc; obtain ⟨rfl, hst, hg⟩ := hc; dsimp only at hst; have HST := zz hst; have HR := zz (HR.out.grown hg (neq_of (by omega))); have HH := zz (HH.out.grown hg (neq_of (by omega))); have HW := zz (HW.out.grown hg (neq_of (by omega))); have HB := zz (below_grown HB.out (Nat.le_refl _) hg (fun g e => by injection e with e; omega)); replace hsz := Nat.le_trans hsz hg.size; clear hst hg
   (try clear k0 k1 k2 k3 k4 k5 k6)
   (try clear kh)
   obtain ⟨k0, k1, k2, k3, k4, k5, k6⟩ := st_cells HST.out; have kh := one_cell HH.out; clear HS; have HS := And.intro k0 (And.intro k1 (And.intro k2 (And.intro k3 (And.intro k4 kh)))); go_wp2_with fail; refine hK.out _ _ HS ?_; clear hK K; (try simp only [Rg.lp]); refine Rg.or1 7 ⟨some 74, .call { callee := .value (.func 69), args := #[.tmp 67, .tmp 69, .tmp 73], argTypes := _ }, _, _, _, none⟩ rfl ?_; refine Rg.stepF ?_ ?_
   · kernel_rfl
   intro K hK; rw [if_pos (by rfl)]; go_simp
   go_at_call 69
   refine (hadd_any w.heap.size _ V m2 _ HST.out r_V r_m2).mono ?_; intro e w1 hc; rw [V_.out] at hc; obtain ⟨rfl, hst, hg⟩ := hc; dsimp only at hst; have HST := zz hst; have HR := zz (HR.out.grown hg (neq_of (by omega))); have HH := zz (HH.out.grown hg (neq_of (by omega))); have HW := zz (HW.out.grown hg (neq_of (by omega))); have HB := zz (below_grown HB.out (Nat.le_refl _) hg (fun g e => by injection e with e; omega)); replace hsz := Nat.le_trans hsz hg.size; clear hst hg
   (try clear k0 k1 k2 k3 k4 k5 k6)
   (try clear kh)
   obtain ⟨k0, k1, k2, k3, k4, k5, k6⟩ := st_cells HST.out; have kh := one_cell HH.out; clear HS; have HS := And.intro k0 (And.intro k1 (And.intro k2 (And.intro k3 (And.intro k4 kh)))); obtain ⟨f0, f1, f2, f3, f4, f5, f6⟩ := st_thaws HST.out; go_wp2_with fail; refine hK.out _ _ ?_; clear hK K; (try simp only [Rg.lp]); refine Rg.tq 8 ⟨some 75, .fieldAddr 33 (.tmp 4) 1, _, _, _, none⟩ rfl ?_; (try simp only [Rg.lp]); refine Rg.or1 9 ⟨none, .store 3 (.tmp 75) (.tmp 74), _, _, _, none⟩ rfl ?_; refine Rg.stepF ?_ ?_
   · kernel_rfl
   intro K hK; go_simp; refine hK.out _ _ ?_; clear hK K; (try simp only [Rg.lp]); refine Rg.doneR (by kernel_rfl) ?_ _; refine NoPanic.normal ?_; clear HS; clear f0 f1 f2 f3 f4 f5 f6
   have HP := zz (show StAt (w1.setCell ⟨w.heap.size, 1, none⟩ (.int .i64 v)) w.heap.size ⟨x, v, P00, P01, P11, ((((((((((bent || yb) || wdb) || yyb) || gqb) || kqb) || lqb) || m1b) || xb) || m2b) || vb), missed⟩ from Blk.set HST.out 1 (.int .i64 v))
   have HR := zz (HR.out.other (p := ⟨w.heap.size, 1, none⟩) (by show _ ≠ w.heap.size; omega) (.int .i64 v))
   have HH := zz (HH.out.other (p := ⟨w.heap.size, 1, none⟩) (by show _ ≠ w.heap.size; omega) (.int .i64 v))
   have HW := zz (HW.out.other (p := ⟨w.heap.size, 1, none⟩) (by show _ ≠ w.heap.size; omega) (.int .i64 v))
   have HB := zz (HB.out.setCell (p := ⟨w.heap.size, 1, none⟩) (by show _ ≤ w.heap.size; omega) (.int .i64 v))
   replace hsz : w.heap.size + 4 ≤ (w1.setCell ⟨w.heap.size, 1, none⟩ (.int .i64 v)).heap.size := by simpa using hsz
   have HST := HP; clear HP
   generalize (w1.setCell ⟨w.heap.size, 1, none⟩ (.int .i64 v)) = w1 at *
   (try clear k0 k1 k2 k3 k4 k5 k6)
   (try clear kh)
   obtain ⟨k0, k1, k2, k3, k4, k5, k6⟩ := st_cells HST.out; have kh := one_cell HH.out
   go_upto_region 11 with fail
   have HST := zz (Blk.drew HST.out); have HR := zz (HR.out.drew); have HH := zz (HH.out.drew); have HW := zz (HW.out.drew); have HB := zz HB.out.drew; have hsz : w.heap.size + 4 ≤ w1.drew.heap.size := hsz
   (try clear k0 k1 k2 k3 k4 k5 k6)
   (try clear kh)
   obtain ⟨k0, k1, k2, k3, k4, k5, k6⟩ := st_cells HST.out; have kh := one_cell HH.out; have HS := And.intro k0 (And.intro k1 (And.intro k2 (And.intro k3 (And.intro k4 kh)))); refine wp_region_noPanic ?_; refine Rg.beginR [1, 3] (fun w' => w'.cell? ⟨w.heap.size, 0, none⟩ = some (.int .i64 x) ∧ w'.cell? ⟨w.heap.size, 1, none⟩ = some (.int .i64 v) ∧ w'.cell? ⟨w.heap.size, 2, none⟩ = some (.int .i64 P00) ∧ w'.cell? ⟨w.heap.size, 3, none⟩ = some (.int .i64 P01) ∧ w'.cell? ⟨w.heap.size, 4, none⟩ = some (.int .i64 P11) ∧ w'.cell? ⟨gh, 0, none⟩ = some (.pointer (some ⟨w.heap.size, 0, none⟩))) (by kernel_rfl) ?_
   generalize w1.drew = w1 at *
   refine Rg.tq 0 ⟨some 76, .fieldAddr 33 (.tmp 4) 2, _, _, _, none⟩ rfl ?_; (try simp only [Rg.lp]); refine Rg.tr 1 ⟨some 77, .load 3 (.tmp 76), _, _, _, none⟩ rfl HS ?_; (try simp only [Rg.lp]); refine Rg.tq 2 ⟨some 78, .fieldAddr 33 (.tmp 4) 3, _, _, _, none⟩ rfl ?_; (try simp only [Rg.lp]); refine Rg.tr 3 ⟨some 79, .load 3 (.tmp 78), _, _, _, none⟩ rfl HS ?_; (try simp only [Rg.lp]); refine Rg.tq 4 ⟨some 16, .assign (.tmp 77), _, _, _, none⟩ rfl ?_; (try simp only [Rg.lp]); refine Rg.tq 5 ⟨some 17, .assign (.tmp 79), _, _, _, none⟩ rfl ?_; (try simp only [Rg.lp]); refine Rg.doneR (by kernel_rfl) ?_ _; refine NoPanic.normal ?_; clear HS
   go_upto_region 12 with fail
   have HST := zz (Blk.drew HST.out); have HR := zz (HR.out.drew); have HH := zz (HH.out.drew); have HW := zz (HW.out.drew); have HB := zz HB.out.drew; have hsz : w.heap.size + 4 ≤ w1.drew.heap.size := hsz
   (try clear k0 k1 k2 k3 k4 k5 k6)
   (try clear kh)
   obtain ⟨k0, k1, k2, k3, k4, k5, k6⟩ := st_cells HST.out; have kh := one_cell HH.out; have HS := And.intro k0 (And.intro k1 (And.intro k2 (And.intro k3 (And.intro k4 kh)))); refine wp_region_noPanic ?_; refine Rg.beginR [0, 2, 3] (fun w' => w'.cell? ⟨w.heap.size, 0, none⟩ = some (.int .i64 x) ∧ w'.cell? ⟨w.heap.size, 1, none⟩ = some (.int .i64 v) ∧ w'.cell? ⟨w.heap.size, 2, none⟩ = some (.int .i64 P00) ∧ w'.cell? ⟨w.heap.size, 3, none⟩ = some (.int .i64 P01) ∧ w'.cell? ⟨w.heap.size, 4, none⟩ = some (.int .i64 P11) ∧ w'.cell? ⟨gh, 0, none⟩ = some (.pointer (some ⟨w.heap.size, 0, none⟩))) (by kernel_rfl) ?_
   generalize w1.drew = w1 at *
   refine Rg.tr 0 ⟨some 80, .load 143 (.tmp 11), _, _, _, none⟩ rfl HS ?_; (try simp only [Rg.lp]); refine Rg.tq 1 ⟨some 81, .fieldAddr 33 (.tmp 4) 2, _, _, _, none⟩ rfl ?_; (try simp only [Rg.lp]); refine Rg.tr 2 ⟨some 82, .load 3 (.tmp 81), _, _, _, none⟩ rfl HS ?_; (try simp only [Rg.lp]); refine Rg.tr 3 ⟨some 83, .load 143 (.tmp 11), _, _, _, none⟩ rfl HS ?_; (try simp only [Rg.lp]); refine Rg.tq 4 ⟨some 84, .move (.tmp 14), _, _, _, none⟩ rfl ?_; (try simp only [Rg.lp]); refine Rg.tq 5 ⟨some 85, .move (.tmp 16), _, _, _, none⟩ rfl ?_; (try simp only [Rg.lp]); refine Rg.or1 6 ⟨some 86, .call { callee := .value (.func 70), args := #[.tmp 83, .tmp 84, .tmp 85], argTypes := _ }, _, _, _, none⟩ rfl ?_; refine Rg.stepS ?_; intro K hK; rw [if_pos (by rfl)]; go_simp
   go_at_call 70
   refine (hmul_any w.heap.size _ kq P00 _ HST.out r_kq r_P00).mono ?_; intro e w1 hc; rw [M3_.out] at hc; obtain ⟨rfl, hst, hg⟩ := hc; dsimp only at hst; have HST := zz hst; have HR := zz (HR.out.grown hg (neq_of (by omega))); have HH := zz (HH.out.grown hg (neq_of (by omega))); have HW := zz (HW.out.grown hg (neq_of (by omega))); have HB := zz (below_grown HB.out (Nat.le_refl _) hg (fun g e => by injection e with e; omega)); replace hsz := Nat.le_trans hsz hg.size; clear hst hg
   (try clear k0 k1 k2 k3 k4 k5 k6)
   (try clear kh)
   obtain ⟨k0, k1, k2, k3, k4, k5, k6⟩ := st_cells HST.out; have kh := one_cell HH.out; clear HS; have HS := And.intro k0 (And.intro k1 (And.intro k2 (And.intro k3 (And.intro k4 kh)))); go_wp2_with fail; refine hK.out _ _ HS ?_; clear hK K; (try simp only [Rg.lp]); refine Rg.or1 7 ⟨some 87, .call { callee := .value (.func 68), args := #[.tmp 80, .tmp 82, .tmp 86], argTypes := _ }, _, _, _, none⟩ rfl ?_; refine Rg.stepF ?_ ?_
   · kernel_rfl
   intro K hK; rw [if_pos (by rfl)]; go_simp
   go_at_call 68
   refine (hsub_any w.heap.size _ P00 m3 _ HST.out r_P00 r_m3).mono ?_; intro e w1 hc; rw [P0_.out] at hc; obtain ⟨rfl, hst, hg⟩ := hc; dsimp only at hst; have HST := zz hst; have HR := zz (HR.out.grown hg (neq_of (by omega))); have HH := zz (HH.out.grown hg (neq_of (by omega))); have HW := zz (HW.out.grown hg (neq_of (by omega))); have HB := zz (below_grown HB.out (Nat.le_refl _) hg (fun g e => by injection e with e; omega)); replace hsz := Nat.le_trans hsz hg.size; clear hst hg
   (try clear k0 k1 k2 k3 k4 k5 k6)
   (try clear kh)
   obtain ⟨k0, k1, k2, k3, k4, k5, k6⟩ := st_cells HST.out; have kh := one_cell HH.out; clear HS; have HS := And.intro k0 (And.intro k1 (And.intro k2 (And.intro k3 (And.intro k4 kh)))); obtain ⟨f0, f1, f2, f3, f4, f5, f6⟩ := st_thaws HST.out; go_wp2_with fail; refine hK.out _ _ ?_; clear hK K; (try simp only [Rg.lp]); refine Rg.tq 8 ⟨some 88, .fieldAddr 33 (.tmp 4) 2, _, _, _, none⟩ rfl ?_; (try simp only [Rg.lp]); refine Rg.or1 9 ⟨none, .store 3 (.tmp 88) (.tmp 87), _, _, _, none⟩ rfl ?_; refine Rg.stepF ?_ ?_
   · kernel_rfl
   intro K hK; go_simp; refine hK.out _ _ ?_; clear hK K; (try simp only [Rg.lp]); refine Rg.doneR (by kernel_rfl) ?_ _; refine NoPanic.normal ?_; clear HS; clear f0 f1 f2 f3 f4 f5 f6
   have HP := zz (show StAt (w1.setCell ⟨w.heap.size, 2, none⟩ (.int .i64 p0)) w.heap.size ⟨x, v, p0, P01, P11, ((((((((((((bent || yb) || wdb) || yyb) || gqb) || kqb) || lqb) || m1b) || xb) || m2b) || vb) || m3b) || p0b), missed⟩ from Blk.set HST.out 2 (.int .i64 p0))
   have HR := zz (HR.out.other (p := ⟨w.heap.size, 2, none⟩) (by show _ ≠ w.heap.size; omega) (.int .i64 p0))
   have HH := zz (HH.out.other (p := ⟨w.heap.size, 2, none⟩) (by show _ ≠ w.heap.size; omega) (.int .i64 p0))
   have HW := zz (HW.out.other (p := ⟨w.heap.size, 2, none⟩) (by show _ ≠ w.heap.size; omega) (.int .i64 p0))
   have HB := zz (HB.out.setCell (p := ⟨w.heap.size, 2, none⟩) (by show _ ≤ w.heap.size; omega) (.int .i64 p0))
   replace hsz : w.heap.size + 4 ≤ (w1.setCell ⟨w.heap.size, 2, none⟩ (.int .i64 p0)).heap.size := by simpa using hsz
   have HST := HP; clear HP
   generalize (w1.setCell ⟨w.heap.size, 2, none⟩ (.int .i64 p0)) = w1 at *
   (try clear k0 k1 k2 k3 k4 k5 k6)
   (try clear kh)
   obtain ⟨k0, k1, k2, k3, k4, k5, k6⟩ := st_cells HST.out; have kh := one_cell HH.out
   go_upto_region 13 with fail
   have HST := zz (Blk.drew HST.out); have HR := zz (HR.out.drew); have HH := zz (HH.out.drew); have HW := zz (HW.out.drew); have HB := zz HB.out.drew; have hsz : w.heap.size + 4 ≤ w1.drew.heap.size := hsz
   (try clear k0 k1 k2 k3 k4 k5 k6)
   (try clear kh)
   obtain ⟨k0, k1, k2, k3, k4, k5, k6⟩ := st_cells HST.out; have kh := one_cell HH.out; have HS := And.intro k0 (And.intro k1 (And.intro k2 (And.intro k3 (And.intro k4 kh)))); refine wp_region_noPanic ?_; refine Rg.beginR [0, 2, 3] (fun w' => w'.cell? ⟨w.heap.size, 0, none⟩ = some (.int .i64 x) ∧ w'.cell? ⟨w.heap.size, 1, none⟩ = some (.int .i64 v) ∧ w'.cell? ⟨w.heap.size, 2, none⟩ = some (.int .i64 p0) ∧ w'.cell? ⟨w.heap.size, 3, none⟩ = some (.int .i64 P01) ∧ w'.cell? ⟨w.heap.size, 4, none⟩ = some (.int .i64 P11) ∧ w'.cell? ⟨gh, 0, none⟩ = some (.pointer (some ⟨w.heap.size, 0, none⟩))) (by kernel_rfl) ?_
   generalize w1.drew = w1 at *
   refine Rg.tr 0 ⟨some 89, .load 143 (.tmp 11), _, _, _, none⟩ rfl HS ?_; (try simp only [Rg.lp]); refine Rg.tq 1 ⟨some 90, .fieldAddr 33 (.tmp 4) 3, _, _, _, none⟩ rfl ?_; (try simp only [Rg.lp]); refine Rg.tr 2 ⟨some 91, .load 3 (.tmp 90), _, _, _, none⟩ rfl HS ?_; (try simp only [Rg.lp]); refine Rg.tr 3 ⟨some 92, .load 143 (.tmp 11), _, _, _, none⟩ rfl HS ?_; (try simp only [Rg.lp]); refine Rg.tq 4 ⟨some 93, .move (.tmp 14), _, _, _, none⟩ rfl ?_; (try simp only [Rg.lp]); refine Rg.tq 5 ⟨some 94, .move (.tmp 17), _, _, _, none⟩ rfl ?_; (try simp only [Rg.lp]); refine Rg.or1 6 ⟨some 95, .call { callee := .value (.func 70), args := #[.tmp 92, .tmp 93, .tmp 94], argTypes := _ }, _, _, _, none⟩ rfl ?_; refine Rg.stepS ?_; intro K hK; rw [if_pos (by rfl)]; go_simp
   go_at_call 70
   refine (hmul_any w.heap.size _ kq P01 _ HST.out r_kq r_P01).mono ?_; intro e w1 hc; rw [M4_.out] at hc; obtain ⟨rfl, hst, hg⟩ := hc; dsimp only at hst; have HST := zz hst; have HR := zz (HR.out.grown hg (neq_of (by omega))); have HH := zz (HH.out.grown hg (neq_of (by omega))); have HW := zz (HW.out.grown hg (neq_of (by omega))); have HB := zz (below_grown HB.out (Nat.le_refl _) hg (fun g e => by injection e with e; omega)); replace hsz := Nat.le_trans hsz hg.size; clear hst hg
   (try clear k0 k1 k2 k3 k4 k5 k6)
   (try clear kh)
   obtain ⟨k0, k1, k2, k3, k4, k5, k6⟩ := st_cells HST.out; have kh := one_cell HH.out; clear HS; have HS := And.intro k0 (And.intro k1 (And.intro k2 (And.intro k3 (And.intro k4 kh)))); go_wp2_with fail; refine hK.out _ _ HS ?_; clear hK K; (try simp only [Rg.lp]); refine Rg.or1 7 ⟨some 96, .call { callee := .value (.func 68), args := #[.tmp 89, .tmp 91, .tmp 95], argTypes := _ }, _, _, _, none⟩ rfl ?_; refine Rg.stepF ?_ ?_
   · kernel_rfl
   intro K hK; rw [if_pos (by rfl)]; go_simp
   go_at_call 68
   refine (hsub_any w.heap.size _ P01 m4 _ HST.out r_P01 r_m4).mono ?_; intro e w1 hc; rw [P1_.out] at hc; obtain ⟨rfl, hst, hg⟩ := hc; dsimp only at hst; have HST := zz hst; have HR := zz (HR.out.grown hg (neq_of (by omega))); have HH := zz (HH.out.grown hg (neq_of (by omega))); have HW := zz (HW.out.grown hg (neq_of (by omega))); have HB := zz (below_grown HB.out (Nat.le_refl _) hg (fun g e => by injection e with e; omega)); replace hsz := Nat.le_trans hsz hg.size; clear hst hg
   (try clear k0 k1 k2 k3 k4 k5 k6)
   (try clear kh)
   obtain ⟨k0, k1, k2, k3, k4, k5, k6⟩ := st_cells HST.out; have kh := one_cell HH.out; clear HS; have HS := And.intro k0 (And.intro k1 (And.intro k2 (And.intro k3 (And.intro k4 kh)))); obtain ⟨f0, f1, f2, f3, f4, f5, f6⟩ := st_thaws HST.out; go_wp2_with fail; refine hK.out _ _ ?_; clear hK K; (try simp only [Rg.lp]); refine Rg.tq 8 ⟨some 97, .fieldAddr 33 (.tmp 4) 3, _, _, _, none⟩ rfl ?_; (try simp only [Rg.lp]); refine Rg.or1 9 ⟨none, .store 3 (.tmp 97) (.tmp 96), _, _, _, none⟩ rfl ?_; refine Rg.stepF ?_ ?_
   · kernel_rfl
   intro K hK; go_simp; refine hK.out _ _ ?_; clear hK K; (try simp only [Rg.lp]); refine Rg.doneR (by kernel_rfl) ?_ _; refine NoPanic.normal ?_; clear HS; clear f0 f1 f2 f3 f4 f5 f6
   have HP := zz (show StAt (w1.setCell ⟨w.heap.size, 3, none⟩ (.int .i64 p1)) w.heap.size ⟨x, v, p0, p1, P11, ((((((((((((((bent || yb) || wdb) || yyb) || gqb) || kqb) || lqb) || m1b) || xb) || m2b) || vb) || m3b) || p0b) || m4b) || p1b), missed⟩ from Blk.set HST.out 3 (.int .i64 p1))
   have HR := zz (HR.out.other (p := ⟨w.heap.size, 3, none⟩) (by show _ ≠ w.heap.size; omega) (.int .i64 p1))
   have HH := zz (HH.out.other (p := ⟨w.heap.size, 3, none⟩) (by show _ ≠ w.heap.size; omega) (.int .i64 p1))
   have HW := zz (HW.out.other (p := ⟨w.heap.size, 3, none⟩) (by show _ ≠ w.heap.size; omega) (.int .i64 p1))
   have HB := zz (HB.out.setCell (p := ⟨w.heap.size, 3, none⟩) (by show _ ≤ w.heap.size; omega) (.int .i64 p1))
   replace hsz : w.heap.size + 4 ≤ (w1.setCell ⟨w.heap.size, 3, none⟩ (.int .i64 p1)).heap.size := by simpa using hsz
   have HST := HP; clear HP
   generalize (w1.setCell ⟨w.heap.size, 3, none⟩ (.int .i64 p1)) = w1 at *
   (try clear k0 k1 k2 k3 k4 k5 k6)
   (try clear kh)
   obtain ⟨k0, k1, k2, k3, k4, k5, k6⟩ := st_cells HST.out; have kh := one_cell HH.out
   go_upto_region 14 with fail
   have HST := zz (Blk.drew HST.out); have HR := zz (HR.out.drew); have HH := zz (HH.out.drew); have HW := zz (HW.out.drew); have HB := zz HB.out.drew; have hsz : w.heap.size + 4 ≤ w1.drew.heap.size := hsz
   (try clear k0 k1 k2 k3 k4 k5 k6)
   (try clear kh)
   obtain ⟨k0, k1, k2, k3, k4, k5, k6⟩ := st_cells HST.out; have kh := one_cell HH.out; have HS := And.intro k0 (And.intro k1 (And.intro k2 (And.intro k3 (And.intro k4 kh)))); refine wp_region_noPanic ?_; refine Rg.beginR [0, 2, 3] (fun w' => w'.cell? ⟨w.heap.size, 0, none⟩ = some (.int .i64 x) ∧ w'.cell? ⟨w.heap.size, 1, none⟩ = some (.int .i64 v) ∧ w'.cell? ⟨w.heap.size, 2, none⟩ = some (.int .i64 p0) ∧ w'.cell? ⟨w.heap.size, 3, none⟩ = some (.int .i64 p1) ∧ w'.cell? ⟨w.heap.size, 4, none⟩ = some (.int .i64 P11) ∧ w'.cell? ⟨gh, 0, none⟩ = some (.pointer (some ⟨w.heap.size, 0, none⟩))) (by kernel_rfl) ?_
   generalize w1.drew = w1 at *
   refine Rg.tr 0 ⟨some 98, .load 143 (.tmp 11), _, _, _, none⟩ rfl HS ?_; (try simp only [Rg.lp]); refine Rg.tq 1 ⟨some 99, .fieldAddr 33 (.tmp 4) 4, _, _, _, none⟩ rfl ?_; (try simp only [Rg.lp]); refine Rg.tr 2 ⟨some 100, .load 3 (.tmp 99), _, _, _, none⟩ rfl HS ?_; (try simp only [Rg.lp]); refine Rg.tr 3 ⟨some 101, .load 143 (.tmp 11), _, _, _, none⟩ rfl HS ?_; (try simp only [Rg.lp]); refine Rg.tq 4 ⟨some 102, .move (.tmp 15), _, _, _, none⟩ rfl ?_; (try simp only [Rg.lp]); refine Rg.tq 5 ⟨some 103, .move (.tmp 17), _, _, _, none⟩ rfl ?_; (try simp only [Rg.lp]); refine Rg.or1 6 ⟨some 104, .call { callee := .value (.func 70), args := #[.tmp 101, .tmp 102, .tmp 103], argTypes := _ }, _, _, _, none⟩ rfl ?_; refine Rg.stepS ?_; intro K hK; rw [if_pos (by rfl)]; go_simp
   go_at_call 70
   refine (hmul_any w.heap.size _ lq P01 _ HST.out r_lq r_P01).mono ?_; intro e w1 hc; rw [M5_.out] at hc; obtain ⟨rfl, hst, hg⟩ := hc; dsimp only at hst; have HST := zz hst; have HR := zz (HR.out.grown hg (neq_of (by omega))); have HH := zz (HH.out.grown hg (neq_of (by omega))); have HW := zz (HW.out.grown hg (neq_of (by omega))); have HB := zz (below_grown HB.out (Nat.le_refl _) hg (fun g e => by injection e with e; omega)); replace hsz := Nat.le_trans hsz hg.size; clear hst hg
   (try clear k0 k1 k2 k3 k4 k5 k6)
   (try clear kh)
   obtain ⟨k0, k1, k2, k3, k4, k5, k6⟩ := st_cells HST.out; have kh := one_cell HH.out; clear HS; have HS := And.intro k0 (And.intro k1 (And.intro k2 (And.intro k3 (And.intro k4 kh)))); go_wp2_with fail; refine hK.out _ _ HS ?_; clear hK K; (try simp only [Rg.lp]); refine Rg.or1 7 ⟨some 105, .call { callee := .value (.func 68), args := #[.tmp 98, .tmp 100, .tmp 104], argTypes := _ }, _, _, _, none⟩ rfl ?_; refine Rg.stepF ?_ ?_
   · kernel_rfl
   intro K hK; rw [if_pos (by rfl)]; go_simp
   go_at_call 68
   refine (hsub_any w.heap.size _ P11 m5 _ HST.out r_P11 r_m5).mono ?_; intro e w1 hc; rw [P2_.out] at hc; obtain ⟨rfl, hst, hg⟩ := hc; dsimp only at hst; have HST := zz hst; have HR := zz (HR.out.grown hg (neq_of (by omega))); have HH := zz (HH.out.grown hg (neq_of (by omega))); have HW := zz (HW.out.grown hg (neq_of (by omega))); have HB := zz (below_grown HB.out (Nat.le_refl _) hg (fun g e => by injection e with e; omega)); replace hsz := Nat.le_trans hsz hg.size; clear hst hg
   (try clear k0 k1 k2 k3 k4 k5 k6)
   (try clear kh)
   obtain ⟨k0, k1, k2, k3, k4, k5, k6⟩ := st_cells HST.out; have kh := one_cell HH.out; clear HS; have HS := And.intro k0 (And.intro k1 (And.intro k2 (And.intro k3 (And.intro k4 kh)))); obtain ⟨f0, f1, f2, f3, f4, f5, f6⟩ := st_thaws HST.out; go_wp2_with fail; refine hK.out _ _ ?_; clear hK K; (try simp only [Rg.lp]); refine Rg.tq 8 ⟨some 106, .fieldAddr 33 (.tmp 4) 4, _, _, _, none⟩ rfl ?_; (try simp only [Rg.lp]); refine Rg.or1 9 ⟨none, .store 3 (.tmp 106) (.tmp 105), _, _, _, none⟩ rfl ?_; refine Rg.stepF ?_ ?_
   · kernel_rfl
   intro K hK; go_simp; refine hK.out _ _ ?_; clear hK K; (try simp only [Rg.lp]); refine Rg.doneR (by kernel_rfl) ?_ _; refine NoPanic.normal ?_; clear HS; clear f0 f1 f2 f3 f4 f5 f6
   have HP := zz (show StAt (w1.setCell ⟨w.heap.size, 4, none⟩ (.int .i64 p2)) w.heap.size ⟨x, v, p0, p1, p2, ((((((((((((((((bent || yb) || wdb) || yyb) || gqb) || kqb) || lqb) || m1b) || xb) || m2b) || vb) || m3b) || p0b) || m4b) || p1b) || m5b) || p2b), missed⟩ from Blk.set HST.out 4 (.int .i64 p2))
   have HR := zz (HR.out.other (p := ⟨w.heap.size, 4, none⟩) (by show _ ≠ w.heap.size; omega) (.int .i64 p2))
   have HH := zz (HH.out.other (p := ⟨w.heap.size, 4, none⟩) (by show _ ≠ w.heap.size; omega) (.int .i64 p2))
   have HW := zz (HW.out.other (p := ⟨w.heap.size, 4, none⟩) (by show _ ≠ w.heap.size; omega) (.int .i64 p2))
   have HB := zz (HB.out.setCell (p := ⟨w.heap.size, 4, none⟩) (by show _ ≤ w.heap.size; omega) (.int .i64 p2))
   replace hsz : w.heap.size + 4 ≤ (w1.setCell ⟨w.heap.size, 4, none⟩ (.int .i64 p2)).heap.size := by simpa using hsz
   have HST := HP; clear HP
   generalize (w1.setCell ⟨w.heap.size, 4, none⟩ (.int .i64 p2)) = w1 at *
   (try clear k0 k1 k2 k3 k4 k5 k6)
   (try clear kh)
   obtain ⟨k0, k1, k2, k3, k4, k5, k6⟩ := st_cells HST.out; have kh := one_cell HH.out; obtain ⟨f0, f1, f2, f3, f4, f5, f6⟩ := st_thaws HST.out
   go_upto_region 16 with fail
   clear f0 f1 f2 f3 f4 f5 f6
   have HP := zz (show StAt (w1.setCell ⟨w.heap.size, 6, none⟩ (.int .i64 0)) w.heap.size ⟨x, v, p0, p1, p2, ((((((((((((((((bent || yb) || wdb) || yyb) || gqb) || kqb) || lqb) || m1b) || xb) || m2b) || vb) || m3b) || p0b) || m4b) || p1b) || m5b) || p2b), 0⟩ from Blk.set HST.out 6 (.int .i64 0))
   have HR := zz (HR.out.other (p := ⟨w.heap.size, 6, none⟩) (by show _ ≠ w.heap.size; omega) (.int .i64 0))
   have HH := zz (HH.out.other (p := ⟨w.heap.size, 6, none⟩) (by show _ ≠ w.heap.size; omega) (.int .i64 0))
   have HW := zz (HW.out.other (p := ⟨w.heap.size, 6, none⟩) (by show _ ≠ w.heap.size; omega) (.int .i64 0))
   have HB := zz (HB.out.setCell (p := ⟨w.heap.size, 6, none⟩) (by show _ ≤ w.heap.size; omega) (.int .i64 0))
   replace hsz : w.heap.size + 4 ≤ (w1.setCell ⟨w.heap.size, 6, none⟩ (.int .i64 0)).heap.size := by simpa using hsz
   have HST := HP; clear HP
   generalize (w1.setCell ⟨w.heap.size, 6, none⟩ (.int .i64 0)) = w1 at *
   (try clear k0 k1 k2 k3 k4 k5 k6)
   (try clear kh)
   obtain ⟨k0, k1, k2, k3, k4, k5, k6⟩ := st_cells HST.out; have kh := one_cell HH.out
   have HG := zz (show Blk w1 w.heap.size 33 #[.int .i64 x, .int .i64 v, .int .i64 p0, .int .i64 p1, .int .i64 p2, .bool ((((((((((((((((bent || yb) || wdb) || yyb) || gqb) || kqb) || lqb) || m1b) || xb) || m2b) || vb) || m3b) || p0b) || m4b) || p1b) || m5b) || p2b), .int .i64 0] from HST.out)
   clear k0 k1 k2 k3 k4 k5 k6 kh
   have HF := zz (show update ⟨X, V, P00, P01, P11, bent, missed⟩ z r gate = (⟨x, v, p0, p1, p2, ((((((((((((((((bent || yb) || wdb) || yyb) || gqb) || kqb) || lqb) || m1b) || xb) || m2b) || vb) || m3b) || p0b) || m4b) || p1b) || m5b) || p2b), 0⟩, true) by simp only [update, Y_.out, WD_.out, YY_.out, GQ_.out, KQ_.out, LQ_.out, M1_.out, X_.out, M2_.out, V_.out, M3_.out, P0_.out, M4_.out, P1_.out, M5_.out, P2_.out]; rw [if_neg (by omega)])
   go_wp2_with (first | (refine wpList_whole rfl 33 _ rfl w.heap.size rfl HG.out _ Try.underlying33 rfl (by kernel_rfl) ?_) | (refine wpList_store_row rfl 33 _ _ rfl gr #[.int .i64 x, .int .i64 v, .int .i64 p0, .int .i64 p1, .int .i64 p2, .bool ((((((((((((((((bent || yb) || wdb) || yyb) || gqb) || kqb) || lqb) || m1b) || xb) || m2b) || vb) || m3b) || p0b) || m4b) || p1b) || m5b) || p2b), .int .i64 0] rfl rfl 33 _ HR.out (by kernel_rfl) rfl (by simp [Value.oneCell']) ?_))
   refine ret_row2 (x := .bool true) rfl rfl rfl (HR.out.setRow #[.int .i64 x, .int .i64 v, .int .i64 p0, .int .i64 p1, .int .i64 p2, .bool ((((((((((((((((bent || yb) || wdb) || yyb) || gqb) || kqb) || lqb) || m1b) || xb) || m2b) || vb) || m3b) || p0b) || m4b) || p1b) || m5b) || p2b), .int .i64 0]) ⟨by rw [Try.underlying33], by kernel_rfl⟩ rfl ?_; rw [HF.out]; exact ⟨rfl, below_setRow HB.out (by omega) _⟩
end BigW
end Go.Proofs.Ytobigbnmbnhikaa
