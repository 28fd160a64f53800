import Derived.Test.YtobigbnmbnhikaaPb0
import Derived.Test.YtobigbnmbnhikaaPb13
set_option linter.unusedVariables false
set_option linter.unusedSimpArgs false
namespace Go.Proofs.Ytobigbnmbnhikaa
namespace BigW
open Go.RowKit Mem BigLaw Rws
set_option maxRecDepth 100000 in
set_option maxHeartbeats 8000000 in
theorem predict_any (s : St) (dt q : Int) (w : World) (hs : StIn s) (r_dt : In64 dt) (r_q : In64 q) :
  Calls Try.prog 56 #[stV s, .int .i64 dt, .int .i64 q] w fun e w' => GaveSt w w' (predict s dt q) e := by
 obtain ⟨X, V, P00, P01, P11, bent, missed⟩ := s; obtain ⟨r_X, r_V, r_P00, r_P01, r_P11⟩ := hs
 simp only at r_X r_V r_P00 r_P01 r_P11
 unfold stV stC
 have HB := zz (show Below w.heap.size w (((w.alloc (.cells #[.int .i64 X, .int .i64 V, .int .i64 P00, .int .i64 P01, .int .i64 P11, .bool bent, .int .i64 missed] 33)).alloc (.cells #[.int .i64 0, .int .i64 0, .int .i64 0, .int .i64 0, .int .i64 0, .bool false, .int .i64 0] 33)).alloc (.cells #[.pointer (some ⟨w.heap.size, 0, none⟩)] 143)) from (((Below.refl _ _).alloc (Nat.le_refl _) _).alloc (by simp) _).alloc (by simp; omega) _)
 have HST := zz (show StAt (((w.alloc (.cells #[.int .i64 X, .int .i64 V, .int .i64 P00, .int .i64 P01, .int .i64 P11, .bool bent, .int .i64 missed] 33)).alloc (.cells #[.int .i64 0, .int .i64 0, .int .i64 0, .int .i64 0, .int .i64 0, .bool false, .int .i64 0] 33)).alloc (.cells #[.pointer (some ⟨w.heap.size, 0, none⟩)] 143)) w.heap.size ⟨X, V, P00, P01, P11, bent, missed⟩ from ((Blk.new rfl).alloc _).alloc _)
 have HH := zz (show Blk (((w.alloc (.cells #[.int .i64 X, .int .i64 V, .int .i64 P00, .int .i64 P01, .int .i64 P11, .bool bent, .int .i64 missed] 33)).alloc (.cells #[.int .i64 0, .int .i64 0, .int .i64 0, .int .i64 0, .int .i64 0, .bool false, .int .i64 0] 33)).alloc (.cells #[.pointer (some ⟨w.heap.size, 0, none⟩)] 143)) (w.heap.size + 1 + 1) 143 #[.pointer (some ⟨w.heap.size, 0, none⟩)] from Blk.new (by simp))
 have HR := zz (show Blk (((w.alloc (.cells #[.int .i64 X, .int .i64 V, .int .i64 P00, .int .i64 P01, .int .i64 P11, .bool bent, .int .i64 missed] 33)).alloc (.cells #[.int .i64 0, .int .i64 0, .int .i64 0, .int .i64 0, .int .i64 0, .bool false, .int .i64 0] 33)).alloc (.cells #[.pointer (some ⟨w.heap.size, 0, none⟩)] 143)) (w.heap.size + 1) 33 #[.int .i64 0, .int .i64 0, .int .i64 0, .int .i64 0, .int .i64 0, .bool false, .int .i64 0] from (Blk.new (by simp)).alloc _)
 have hsz : w.heap.size + 3 ≤ (((w.alloc (.cells #[.int .i64 X, .int .i64 V, .int .i64 P00, .int .i64 P01, .int .i64 P11, .bool bent, .int .i64 missed] 33)).alloc (.cells #[.int .i64 0, .int .i64 0, .int .i64 0, .int .i64 0, .int .i64 0, .bool false, .int .i64 0] 33)).alloc (.cells #[.pointer (some ⟨w.heap.size, 0, none⟩)] 143)).heap.size := by simp
 obtain ⟨⟨t, tb⟩, h_t⟩ : ∃ res_, fmul P01 dt = res_ := ⟨_, rfl⟩; have T_ := zz h_t
 have r_t : In64 t := by have h := fmul_range P01 dt; rw [h_t] at h; exact h
 clear h_t; obtain ⟨⟨u, ub⟩, h_u⟩ : ∃ res_, fmul P11 dt = res_ := ⟨_, rfl⟩; have U_ := zz h_u
 have r_u : In64 u := by have h := fmul_range P11 dt; rw [h_u] at h; exact h
 clear h_u; obtain ⟨⟨m, mb⟩, h_m⟩ : ∃ res_, fmul V dt = res_ := ⟨_, rfl⟩; have M_ := zz h_m
 have r_m : In64 m := by have h := fmul_range V dt; rw [h_m] at h; exact h
 clear h_m; obtain ⟨⟨x, xb⟩, h_x⟩ : ∃ res_, fadd X m = res_ := ⟨_, rfl⟩; have X_ := zz h_x
 have r_x : In64 x := by have h := fadd_range X m; rw [h_x] at h; exact h
 clear h_x; obtain ⟨⟨a, ab⟩, h_a⟩ : ∃ res_, fadd P00 t = res_ := ⟨_, rfl⟩; have A_ := zz h_a
 have r_a : In64 a := by have h := fadd_range P00 t; rw [h_a] at h; exact h
 clear h_a; obtain ⟨⟨b, bb⟩, h_b⟩ : ∃ res_, fadd a t = res_ := ⟨_, rfl⟩; have B_ := zz h_b
 have r_b : In64 b := by have h := fadd_range a t; rw [h_b] at h; exact h
 clear h_b; obtain ⟨⟨c, cb⟩, h_c⟩ : ∃ res_, fmul u dt = res_ := ⟨_, rfl⟩; have C_ := zz h_c
 have r_c : In64 c := by have h := fmul_range u dt; rw [h_c] at h; exact h
 clear h_c; obtain ⟨⟨d, db⟩, h_d⟩ : ∃ res_, fadd b c = res_ := ⟨_, rfl⟩; have D_ := zz h_d
 have r_d : In64 d := by have h := fadd_range b c; rw [h_d] at h; exact h
 clear h_d; obtain ⟨⟨e_, e_b⟩, h_e_⟩ : ∃ res_, fadd P01 u = res_ := ⟨_, rfl⟩; have E__ := zz h_e_
 have r_e_ : In64 e_ := by have h := fadd_range P01 u; rw [h_e_] at h; exact h
 clear h_e_; obtain ⟨⟨f_, f_b⟩, h_f_⟩ : ∃ res_, fadd P11 q = res_ := ⟨_, rfl⟩; have F__ := zz h_f_
 have r_f_ : In64 f_ := by have h := fadd_range P11 q; rw [h_f_] at h; exact h
 clear h_f_
 go_enter Try.func56, Try.ntmps56
 go_upto_region 2 with fail
 generalize (((w.alloc (.cells #[.int .i64 X, .int .i64 V, .int .i64 P00, .int .i64 P01, .int .i64 P11, .bool bent, .int .i64 missed] 33)).alloc (.cells #[.int .i64 0, .int .i64 0, .int .i64 0, .int .i64 0, .int .i64 0, .bool false, .int .i64 0] 33)).alloc (.cells #[.pointer (some ⟨w.heap.size, 0, none⟩)] 143)) = w1 at *
 obtain ⟨gh, hgh⟩ : ∃ g, w.heap.size + 1 + 1 = g := ⟨_, rfl⟩; rw [hgh] at HH ⊢; obtain ⟨gr, hgr⟩ : ∃ g, w.heap.size + 1 = g := ⟨_, rfl⟩; rw [hgr] at HR ⊢
 (try clear k0 k1 k2 k3 k4 k5 k6)
 (try clear kh)
 obtain ⟨k0, k1, k2, k3, k4, k5, k6⟩ := st_cells HST.out; have kh := one_cell HH.out; go_wp2_with fail; refine (hmul_any w.heap.size _ P01 dt _ HST.out r_P01 r_dt).mono ?_; intro e w1 hc; rw [T_.out] at hc; obtain ⟨rfl, hst, hg⟩ := hc; dsimp only at hst; have HST := zz hst; have HR := zz (HR.out.grown hg (neq_of (by omega))); have HH := zz (HH.out.grown hg (neq_of (by omega))); have HB := zz (below_grown HB.out (Nat.le_refl _) hg (fun g e => by injection e with e; omega)); replace hsz := Nat.le_trans hsz hg.size; clear hst hg
 (try clear k0 k1 k2 k3 k4 k5 k6)
 (try clear kh)
 obtain ⟨k0, k1, k2, k3, k4, k5, k6⟩ := st_cells HST.out; have kh := one_cell HH.out; go_wp2_with fail; refine (hmul_any w.heap.size _ P11 dt _ HST.out r_P11 r_dt).mono ?_; intro e w1 hc; rw [U_.out] at hc; obtain ⟨rfl, hst, hg⟩ := hc; dsimp only at hst; have HST := zz hst; have HR := zz (HR.out.grown hg (neq_of (by omega))); have HH := zz (HH.out.grown hg (neq_of (by omega))); have HB := zz (below_grown HB.out (Nat.le_refl _) hg (fun g e => by injection e with e; omega)); replace hsz := Nat.le_trans hsz hg.size; clear hst hg
 (try clear k0 k1 k2 k3 k4 k5 k6)
 (try clear kh)
 obtain ⟨k0, k1, k2, k3, k4, k5, k6⟩ := st_cells HST.out; have kh := one_cell HH.out
 go_upto_region 4 with fail
 have HST := zz (Blk.drew HST.out); have HR := zz (HR.out.drew); have HH := zz (HH.out.drew); have HB := zz HB.out.drew; have hsz : w.heap.size + 3 ≤ w1.drew.heap.size := hsz
 (try clear k0 k1 k2 k3 k4 k5 k6)
 (try clear kh)
 obtain ⟨k0, k1, k2, k3, k4, k5, k6⟩ := st_cells HST.out; have kh := one_cell HH.out; have HS := And.intro k0 (And.intro k1 (And.intro k2 (And.intro k3 (And.intro k4 kh)))); refine wp_region_noPanic ?_; refine Rg.beginR [0, 2, 3, 5] (fun w' => w'.cell? ⟨w.heap.size, 0, none⟩ = some (.int .i64 X) ∧ w'.cell? ⟨w.heap.size, 1, none⟩ = some (.int .i64 V) ∧ w'.cell? ⟨w.heap.size, 2, none⟩ = some (.int .i64 P00) ∧ w'.cell? ⟨w.heap.size, 3, none⟩ = some (.int .i64 P01) ∧ w'.cell? ⟨w.heap.size, 4, none⟩ = some (.int .i64 P11) ∧ w'.cell? ⟨gh, 0, none⟩ = some (.pointer (some ⟨w.heap.size, 0, none⟩))) (by kernel_rfl) ?_
 generalize w1.drew = w1 at *
 refine Rg.tr 0 ⟨some 21, .load 143 (.tmp 7), _, _, _, none⟩ rfl HS ?_; (try simp only [Rg.lp]); refine Rg.tq 1 ⟨some 22, .fieldAddr 33 (.tmp 3) 0, _, _, _, none⟩ rfl ?_; (try simp only [Rg.lp]); refine Rg.tr 2 ⟨some 23, .load 3 (.tmp 22), _, _, _, none⟩ rfl HS ?_; (try simp only [Rg.lp]); refine Rg.tr 3 ⟨some 24, .load 143 (.tmp 7), _, _, _, none⟩ rfl HS ?_; (try simp only [Rg.lp]); refine Rg.tq 4 ⟨some 25, .fieldAddr 33 (.tmp 3) 1, _, _, _, none⟩ rfl ?_; (try simp only [Rg.lp]); refine Rg.tr 5 ⟨some 26, .load 3 (.tmp 25), _, _, _, none⟩ rfl HS ?_; (try simp only [Rg.lp]); refine Rg.tq 6 ⟨some 27, .move (.tmp 1), _, _, _, none⟩ rfl ?_; (try simp only [Rg.lp]); refine Rg.or1 7 ⟨some 28, .call { callee := .value (.func 70), args := #[.tmp 24, .tmp 26, .tmp 27], argTypes := _ }, _, _, _, none⟩ rfl ?_; refine Rg.stepS ?_; intro K hK; rw [if_pos (by rfl)]; go_simp
 go_at_call 70
 refine (hmul_any w.heap.size _ V dt _ HST.out r_V r_dt).mono ?_; intro e w1 hc; rw [M_.out] at hc; obtain ⟨rfl, hst, hg⟩ := hc; dsimp only at hst; have HST := zz hst; have HR := zz (HR.out.grown hg (neq_of (by omega))); have HH := zz (HH.out.grown hg (neq_of (by omega))); have HB := zz (below_grown HB.out (Nat.le_refl _) hg (fun g e => by injection e with e; omega)); replace hsz := Nat.le_trans hsz hg.size; clear hst hg
 (try clear k0 k1 k2 k3 k4 k5 k6)
 (try clear kh)
 obtain ⟨k0, k1, k2, k3, k4, k5, k6⟩ := st_cells HST.out; have kh := one_cell HH.out; clear HS; have HS := And.intro k0 (And.intro k1 (And.intro k2 (And.intro k3 (And.intro k4 kh)))); go_wp2_with fail; refine hK.out _ _ HS ?_; clear hK K; (try simp only [Rg.lp]); refine Rg.or1 8 ⟨some 29, .call { callee := .value (.func 69), args := #[.tmp 21, .tmp 23, .tmp 28], argTypes := _ }, _, _, _, none⟩ rfl ?_; refine Rg.stepF ?_ ?_
 · kernel_rfl
 intro K hK; rw [if_pos (by rfl)]; go_simp
 go_at_call 69
 refine (hadd_any w.heap.size _ X m _ HST.out r_X r_m).mono ?_; intro e w1 hc; rw [X_.out] at hc; obtain ⟨rfl, hst, hg⟩ := hc; dsimp only at hst; have HST := zz hst; have HR := zz (HR.out.grown hg (neq_of (by omega))); have HH := zz (HH.out.grown hg (neq_of (by omega))); have HB := zz (below_grown HB.out (Nat.le_refl _) hg (fun g e => by injection e with e; omega)); replace hsz := Nat.le_trans hsz hg.size; clear hst hg
 (try clear k0 k1 k2 k3 k4 k5 k6)
 (try clear kh)
 obtain ⟨k0, k1, k2, k3, k4, k5, k6⟩ := st_cells HST.out; have kh := one_cell HH.out; clear HS; have HS := And.intro k0 (And.intro k1 (And.intro k2 (And.intro k3 (And.intro k4 kh)))); obtain ⟨f0, f1, f2, f3, f4, f5, f6⟩ := st_thaws HST.out; go_wp2_with fail; refine hK.out _ _ ?_; clear hK K; (try simp only [Rg.lp]); refine Rg.tq 9 ⟨some 30, .fieldAddr 33 (.tmp 3) 0, _, _, _, none⟩ rfl ?_; (try simp only [Rg.lp]); refine Rg.or1 10 ⟨none, .store 3 (.tmp 30) (.tmp 29), _, _, _, none⟩ rfl ?_; refine Rg.stepF ?_ ?_
 · kernel_rfl
 intro K hK; go_simp; refine hK.out _ _ ?_; clear hK K; (try simp only [Rg.lp]); refine Rg.doneR (by kernel_rfl) ?_ _; refine NoPanic.normal ?_; clear HS f0 f1 f2 f3 f4 f5 f6
 have HP := zz (show StAt (w1.setCell ⟨w.heap.size, 0, none⟩ (.int .i64 x)) w.heap.size ⟨x, V, P00, P01, P11, ((((bent || tb) || ub) || mb) || xb), missed⟩ from Blk.set HST.out 0 (.int .i64 x))
 have HR := zz (HR.out.other (p := ⟨w.heap.size, 0, none⟩) (by show _ ≠ w.heap.size; omega) (.int .i64 x))
 have HH := zz (HH.out.other (p := ⟨w.heap.size, 0, none⟩) (by show _ ≠ w.heap.size; omega) (.int .i64 x))
 have HB := zz (HB.out.setCell (p := ⟨w.heap.size, 0, none⟩) (by show _ ≤ w.heap.size; omega) (.int .i64 x))
 replace hsz : w.heap.size + 3 ≤ (w1.setCell ⟨w.heap.size, 0, none⟩ (.int .i64 x)).heap.size := by simpa using hsz
 have HST := HP; clear HP
 generalize (w1.setCell ⟨w.heap.size, 0, none⟩ (.int .i64 x)) = w1 at *
 (try clear k0 k1 k2 k3 k4 k5 k6)
 (try clear kh)
 obtain ⟨k0, k1, k2, k3, k4, k5, k6⟩ := st_cells HST.out; have kh := one_cell HH.out
 go_upto_region 5 with fail
 have HST := zz (Blk.drew HST.out); have HR := zz (HR.out.drew); have HH := zz (HH.out.drew); have HB := zz HB.out.drew; have hsz : w.heap.size + 3 ≤ w1.drew.heap.size := hsz
 (try clear k0 k1 k2 k3 k4 k5 k6)
 (try clear kh)
 obtain ⟨k0, k1, k2, k3, k4, k5, k6⟩ := st_cells HST.out; have kh := one_cell HH.out; have HS := And.intro k0 (And.intro k1 (And.intro k2 (And.intro k3 (And.intro k4 kh)))); refine wp_region_noPanic ?_; refine Rg.beginR [0, 1, 2, 4, 9] (fun w' => w'.cell? ⟨w.heap.size, 0, none⟩ = some (.int .i64 x) ∧ w'.cell? ⟨w.heap.size, 1, none⟩ = some (.int .i64 V) ∧ w'.cell? ⟨w.heap.size, 2, none⟩ = some (.int .i64 P00) ∧ w'.cell? ⟨w.heap.size, 3, none⟩ = some (.int .i64 P01) ∧ w'.cell? ⟨w.heap.size, 4, none⟩ = some (.int .i64 P11) ∧ w'.cell? ⟨gh, 0, none⟩ = some (.pointer (some ⟨w.heap.size, 0, none⟩))) (by kernel_rfl) ?_
 generalize w1.drew = w1 at *
 refine Rg.tr 0 ⟨some 31, .load 143 (.tmp 7), _, _, _, none⟩ rfl HS ?_; (try simp only [Rg.lp]); refine Rg.tr 1 ⟨some 32, .load 143 (.tmp 7), _, _, _, none⟩ rfl HS ?_; (try simp only [Rg.lp]); refine Rg.tr 2 ⟨some 33, .load 143 (.tmp 7), _, _, _, none⟩ rfl HS ?_; (try simp only [Rg.lp]); refine Rg.tq 3 ⟨some 34, .fieldAddr 33 (.tmp 3) 2, _, _, _, none⟩ rfl ?_; (try simp only [Rg.lp]); refine Rg.tr 4 ⟨some 35, .load 3 (.tmp 34), _, _, _, none⟩ rfl HS ?_; (try simp only [Rg.lp]); refine Rg.tq 5 ⟨some 36, .move (.tmp 8), _, _, _, none⟩ rfl ?_; (try simp only [Rg.lp]); refine Rg.tq 7 ⟨some 38, .move (.tmp 8), _, _, _, none⟩ rfl ?_; (try simp only [Rg.lp]); refine Rg.tr 9 ⟨some 40, .load 143 (.tmp 7), _, _, _, none⟩ rfl HS ?_; (try simp only [Rg.lp]); refine Rg.tq 10 ⟨some 41, .move (.tmp 9), _, _, _, none⟩ rfl ?_; (try simp only [Rg.lp]); refine Rg.tq 11 ⟨some 42, .move (.tmp 1), _, _, _, none⟩ rfl ?_; (try simp only [Rg.lp]); refine Rg.or1 6 ⟨some 37, .call { callee := .value (.func 69), args := #[.tmp 33, .tmp 35, .tmp 36], argTypes := _ }, _, _, _, none⟩ rfl ?_; refine Rg.stepS ?_; intro K hK; rw [if_pos (by rfl)]; go_simp
 go_at_call 69
 refine (hadd_any w.heap.size _ P00 t _ HST.out r_P00 r_t).mono ?_; intro e w1 hc; rw [A_.out] at hc; obtain ⟨rfl, hst, hg⟩ := hc; dsimp only at hst; have HST := zz hst; have HR := zz (HR.out.grown hg (neq_of (by omega))); have HH := zz (HH.out.grown hg (neq_of (by omega))); have HB := zz (below_grown HB.out (Nat.le_refl _) hg (fun g e => by injection e with e; omega)); replace hsz := Nat.le_trans hsz hg.size; clear hst hg
 (try clear k0 k1 k2 k3 k4 k5 k6)
 (try clear kh)
 obtain ⟨k0, k1, k2, k3, k4, k5, k6⟩ := st_cells HST.out; have kh := one_cell HH.out; clear HS; have HS := And.intro k0 (And.intro k1 (And.intro k2 (And.intro k3 (And.intro k4 kh)))); go_wp2_with fail; refine hK.out _ _ HS ?_; clear hK K; (try simp only [Rg.lp]); refine Rg.or1 8 ⟨some 39, .call { callee := .value (.func 69), args := #[.tmp 32, .tmp 37, .tmp 38], argTypes := _ }, _, _, _, none⟩ rfl ?_; refine Rg.stepS ?_; intro K hK; rw [if_pos (by rfl)]; go_simp
 go_at_call 69
 refine (hadd_any w.heap.size _ a t _ HST.out r_a r_t).mono ?_; intro e w1 hc; rw [B_.out] at hc; obtain ⟨rfl, hst, hg⟩ := hc; dsimp only at hst; have HST := zz hst; have HR := zz (HR.out.grown hg (neq_of (by omega))); have HH := zz (HH.out.grown hg (neq_of (by omega))); have HB := zz (below_grown HB.out (Nat.le_refl _) hg (fun g e => by injection e with e; omega)); replace hsz := Nat.le_trans hsz hg.size; clear hst hg
 (try clear k0 k1 k2 k3 k4 k5 k6)
 (try clear kh)
 obtain ⟨k0, k1, k2, k3, k4, k5, k6⟩ := st_cells HST.out; have kh := one_cell HH.out; clear HS; have HS := And.intro k0 (And.intro k1 (And.intro k2 (And.intro k3 (And.intro k4 kh)))); go_wp2_with fail; refine hK.out _ _ HS ?_; clear hK K; (try simp only [Rg.lp]); refine Rg.or1 12 ⟨some 43, .call { callee := .value (.func 70), args := #[.tmp 40, .tmp 41, .tmp 42], argTypes := _ }, _, _, _, none⟩ rfl ?_; refine Rg.stepS ?_; intro K hK; rw [if_pos (by rfl)]; go_simp
 go_at_call 70
 refine (hmul_any w.heap.size _ u dt _ HST.out r_u r_dt).mono ?_; intro e w1 hc; rw [C_.out] at hc; obtain ⟨rfl, hst, hg⟩ := hc; dsimp only at hst; have HST := zz hst; have HR := zz (HR.out.grown hg (neq_of (by omega))); have HH := zz (HH.out.grown hg (neq_of (by omega))); have HB := zz (below_grown HB.out (Nat.le_refl _) hg (fun g e => by injection e with e; omega)); replace hsz := Nat.le_trans hsz hg.size; clear hst hg
 (try clear k0 k1 k2 k3 k4 k5 k6)
 (try clear kh)
 obtain ⟨k0, k1, k2, k3, k4, k5, k6⟩ := st_cells HST.out; have kh := one_cell HH.out; clear HS; have HS := And.intro k0 (And.intro k1 (And.intro k2 (And.intro k3 (And.intro k4 kh)))); go_wp2_with fail; refine hK.out _ _ HS ?_; clear hK K; (try simp only [Rg.lp]); refine Rg.or1 13 ⟨some 44, .call { callee := .value (.func 69), args := #[.tmp 31, .tmp 39, .tmp 43], argTypes := _ }, _, _, _, none⟩ rfl ?_; refine Rg.stepF ?_ ?_
 · kernel_rfl
 intro K hK; rw [if_pos (by rfl)]; go_simp
 go_at_call 69
 refine (hadd_any w.heap.size _ b c _ HST.out r_b r_c).mono ?_; intro e w1 hc; rw [D_.out] at hc; obtain ⟨rfl, hst, hg⟩ := hc; dsimp only at hst; have HST := zz hst; have HR := zz (HR.out.grown hg (neq_of (by omega))); have HH := zz (HH.out.grown hg (neq_of (by omega))); have HB := zz (below_grown HB.out (Nat.le_refl _) hg (fun g e => by injection e with e; omega)); replace hsz := Nat.le_trans hsz hg.size; clear hst hg
 (try clear k0 k1 k2 k3 k4 k5 k6)
 (try clear kh)
 obtain ⟨k0, k1, k2, k3, k4, k5, k6⟩ := st_cells HST.out; have kh := one_cell HH.out; clear HS; have HS := And.intro k0 (And.intro k1 (And.intro k2 (And.intro k3 (And.intro k4 kh)))); obtain ⟨f0, f1, f2, f3, f4, f5, f6⟩ := st_thaws HST.out; go_wp2_with fail; refine hK.out _ _ ?_; clear hK K; (try simp only [Rg.lp]); refine Rg.tq 14 ⟨some 45, .fieldAddr 33 (.tmp 3) 2, _, _, _, none⟩ rfl ?_; (try simp only [Rg.lp]); refine Rg.or1 15 ⟨none, .store 3 (.tmp 45) (.tmp 44), _, _, _, none⟩ rfl ?_; refine Rg.stepF ?_ ?_
 · kernel_rfl
 intro K hK; go_simp; refine hK.out _ _ ?_; clear hK K; (try simp only [Rg.lp]); refine Rg.doneR (by kernel_rfl) ?_ _; refine NoPanic.normal ?_; clear HS f0 f1 f2 f3 f4 f5 f6
 have HP := zz (show StAt (w1.setCell ⟨w.heap.size, 2, none⟩ (.int .i64 d)) w.heap.size ⟨x, V, d, P01, P11, ((((((((bent || tb) || ub) || mb) || xb) || ab) || bb) || cb) || db), missed⟩ from Blk.set HST.out 2 (.int .i64 d))
 have HR := zz (HR.out.other (p := ⟨w.heap.size, 2, none⟩) (by show _ ≠ w.heap.size; omega) (.int .i64 d))
 have HH := zz (HH.out.other (p := ⟨w.heap.size, 2, none⟩) (by show _ ≠ w.heap.size; omega) (.int .i64 d))
 have HB := zz (HB.out.setCell (p := ⟨w.heap.size, 2, none⟩) (by show _ ≤ w.heap.size; omega) (.int .i64 d))
 replace hsz : w.heap.size + 3 ≤ (w1.setCell ⟨w.heap.size, 2, none⟩ (.int .i64 d)).heap.size := by simpa using hsz
 have HST := HP; clear HP
 generalize (w1.setCell ⟨w.heap.size, 2, none⟩ (.int .i64 d)) = w1 at *
 (try clear k0 k1 k2 k3 k4 k5 k6)
 (try clear kh)
 obtain ⟨k0, k1, k2, k3, k4, k5, k6⟩ := st_cells HST.out; have kh := one_cell HH.out
 go_upto_region 6 with fail
 go_wp2_with fail; refine (hadd_any w.heap.size _ P01 u _ HST.out r_P01 r_u).mono ?_; intro e w1 hc; rw [E__.out] at hc; obtain ⟨rfl, hst, hg⟩ := hc; dsimp only at hst; have HST := zz hst; have HR := zz (HR.out.grown hg (neq_of (by omega))); have HH := zz (HH.out.grown hg (neq_of (by omega))); have HB := zz (below_grown HB.out (Nat.le_refl _) hg (fun g e => by injection e with e; omega)); replace hsz := Nat.le_trans hsz hg.size; clear hst hg
 (try clear k0 k1 k2 k3 k4 k5 k6)
 (try clear kh)
 obtain ⟨k0, k1, k2, k3, k4, k5, k6⟩ := st_cells HST.out; have kh := one_cell HH.out; obtain ⟨f0, f1, f2, f3, f4, f5, f6⟩ := st_thaws HST.out
 go_upto_region 7 with fail
 clear f0 f1 f2 f3 f4 f5 f6
 have HP := zz (show StAt (w1.setCell ⟨w.heap.size, 3, none⟩ (.int .i64 e_)) w.heap.size ⟨x, V, d, e_, P11, (((((((((bent || tb) || ub) || mb) || xb) || ab) || bb) || cb) || db) || e_b), missed⟩ from Blk.set HST.out 3 (.int .i64 e_))
 have HR := zz (HR.out.other (p := ⟨w.heap.size, 3, none⟩) (by show _ ≠ w.heap.size; omega) (.int .i64 e_))
 have HH := zz (HH.out.other (p := ⟨w.heap.size, 3, none⟩) (by show _ ≠ w.heap.size; omega) (.int .i64 e_))
 have HB := zz (HB.out.setCell (p := ⟨w.heap.size, 3, none⟩) (by show _ ≤ w.heap.size; omega) (.int .i64 e_))
 replace hsz : w.heap.size + 3 ≤ (w1.setCell ⟨w.heap.size, 3, none⟩ (.int .i64 e_)).heap.size := by simpa using hsz
 have HST := HP; clear HP
 generalize (w1.setCell ⟨w.heap.size, 3, none⟩ (.int .i64 e_)) = w1 at *
 (try clear k0 k1 k2 k3 k4 k5 k6)
 (try clear kh)
 obtain ⟨k0, k1, k2, k3, k4, k5, k6⟩ := st_cells HST.out; have kh := one_cell HH.out; go_wp2_with fail; refine (hadd_any w.heap.size _ P11 q _ HST.out r_P11 r_q).mono ?_; intro e w1 hc; rw [F__.out] at hc; obtain ⟨rfl, hst, hg⟩ := hc; dsimp only at hst; have HST := zz hst; have HR := zz (HR.out.grown hg (neq_of (by omega))); have HH := zz (HH.out.grown hg (neq_of (by omega))); have HB := zz (below_grown HB.out (Nat.le_refl _) hg (fun g e => by injection e with e; omega)); replace hsz := Nat.le_trans hsz hg.size; clear hst hg
 (try clear k0 k1 k2 k3 k4 k5 k6)
 (try clear kh)
 obtain ⟨k0, k1, k2, k3, k4, k5, k6⟩ := st_cells HST.out; have kh := one_cell HH.out; obtain ⟨f0, f1, f2, f3, f4, f5, f6⟩ := st_thaws HST.out
 go_upto_region 8 with fail
 clear f0 f1 f2 f3 f4 f5 f6
 have HP := zz (show StAt (w1.setCell ⟨w.heap.size, 4, none⟩ (.int .i64 f_)) w.heap.size ⟨x, V, d, e_, f_, ((((((((((bent || tb) || ub) || mb) || xb) || ab) || bb) || cb) || db) || e_b) || f_b), missed⟩ from Blk.set HST.out 4 (.int .i64 f_))
 have HR := zz (HR.out.other (p := ⟨w.heap.size, 4, none⟩) (by show _ ≠ w.heap.size; omega) (.int .i64 f_))
 have HH := zz (HH.out.other (p := ⟨w.heap.size, 4, none⟩) (by show _ ≠ w.heap.size; omega) (.int .i64 f_))
 have HB := zz (HB.out.setCell (p := ⟨w.heap.size, 4, none⟩) (by show _ ≤ w.heap.size; omega) (.int .i64 f_))
 replace hsz : w.heap.size + 3 ≤ (w1.setCell ⟨w.heap.size, 4, none⟩ (.int .i64 f_)).heap.size := by simpa using hsz
 have HST := HP; clear HP
 generalize (w1.setCell ⟨w.heap.size, 4, none⟩ (.int .i64 f_)) = w1 at *
 (try clear k0 k1 k2 k3 k4 k5 k6)
 (try clear kh)
 obtain ⟨k0, k1, k2, k3, k4, k5, k6⟩ := st_cells HST.out; have kh := one_cell HH.out
 have HG := zz (show Blk w1 w.heap.size 33 #[.int .i64 x, .int .i64 V, .int .i64 d, .int .i64 e_, .int .i64 f_, .bool ((((((((((bent || tb) || ub) || mb) || xb) || ab) || bb) || cb) || db) || e_b) || f_b), .int .i64 missed] from HST.out)
 have HF := zz (show predict ⟨X, V, P00, P01, P11, bent, missed⟩ dt q = ⟨x, V, d, e_, f_, ((((((((((bent || tb) || ub) || mb) || xb) || ab) || bb) || cb) || db) || e_b) || f_b), missed⟩ by simp only [predict, T_.out, U_.out, M_.out, X_.out, A_.out, B_.out, C_.out, D_.out, E__.out, F__.out])
 clear k0 k1 k2 k3 k4 k5 k6 kh
 go_wp2_with (first | (refine wpList_whole rfl 33 _ rfl w.heap.size rfl HG.out _ Try.underlying33 rfl (by kernel_rfl) ?_) | (refine wpList_store_row rfl 33 _ _ rfl gr #[.int .i64 x, .int .i64 V, .int .i64 d, .int .i64 e_, .int .i64 f_, .bool ((((((((((bent || tb) || ub) || mb) || xb) || ab) || bb) || cb) || db) || e_b) || f_b), .int .i64 missed] rfl rfl 33 _ HR.out (by kernel_rfl) rfl (by simp [Value.oneCell']) ?_))
 refine ret_row rfl rfl (HR.out.setRow #[.int .i64 x, .int .i64 V, .int .i64 d, .int .i64 e_, .int .i64 f_, .bool ((((((((((bent || tb) || ub) || mb) || xb) || ab) || bb) || cb) || db) || e_b) || f_b), .int .i64 missed]) Try.underlying33 rfl (by kernel_rfl) rfl ?_; rw [HF.out]; exact ⟨rfl, below_setRow HB.out (by omega) _⟩
end BigW
end Go.Proofs.Ytobigbnmbnhikaa
