import Derived.Test.YtjfllpmiajkenaaGreatPk21
namespace Go.Proofs.YtjfllpmiajkenaaGreat.BigW
open Go.RowKit Go.Proofs.YtjfllpmiajkenaaGreat.Mem Go.Proofs.YtjfllpmiajkenaaGreat.BigLaw Go.Proofs.YtjfllpmiajkenaaGreat.Rws
set_option linter.unusedVariables false
set_option linter.unusedSimpArgs false
set_option maxRecDepth 100000 in
set_option maxHeartbeats 8000000 in
theorem refpredict_any (s : St) (dt q : Int) (w : World) (hs : StIn s) (r_dt : In64 dt) (r_q : In64 q) :
    Calls Tryz.prog 69 #[stV s, .int .i64 dt, .int .i64 q] w fun e w' => GaveSt w w' (predict s dt q) e := by
  obtain ⟨X, V, P00, P01, P11, bent, missed⟩ := s
  obtain ⟨r_X, r_V, r_P00, r_P01, r_P11⟩ := hs
  simp only at r_X r_V r_P00 r_P01 r_P11
  unfold stV stC
  have HB := Lib.hid (show Below w.heap.size w (((w.alloc (.cells #[.int .i64 X, .int .i64 V, .int .i64 P00, .int .i64 P01, .int .i64 P11, .bool bent, .int .i64 missed] 25)).alloc (.cells #[.int .i64 0, .int .i64 0, .int .i64 0, .int .i64 0, .int .i64 0, .bool false, .int .i64 0] 25)).alloc (.cells #[.bool bent] 154)) from (((Below.refl _ _).alloc (Nat.le_refl _) _).alloc (by simp) _).alloc (by simp; omega) _)
  have HST := Lib.hid (show StAt (((w.alloc (.cells #[.int .i64 X, .int .i64 V, .int .i64 P00, .int .i64 P01, .int .i64 P11, .bool bent, .int .i64 missed] 25)).alloc (.cells #[.int .i64 0, .int .i64 0, .int .i64 0, .int .i64 0, .int .i64 0, .bool false, .int .i64 0] 25)).alloc (.cells #[.bool bent] 154)) w.heap.size ⟨X, V, P00, P01, P11, bent, missed⟩ from ((Blk.new rfl).alloc _).alloc _)
  have HK := Lib.hid (show Bent (((w.alloc (.cells #[.int .i64 X, .int .i64 V, .int .i64 P00, .int .i64 P01, .int .i64 P11, .bool bent, .int .i64 missed] 25)).alloc (.cells #[.int .i64 0, .int .i64 0, .int .i64 0, .int .i64 0, .int .i64 0, .bool false, .int .i64 0] 25)).alloc (.cells #[.bool bent] 154)) 154 (w.heap.size + 1 + 1) bent from Blk.new (by simp))
  have HR := Lib.hid (show Blk (((w.alloc (.cells #[.int .i64 X, .int .i64 V, .int .i64 P00, .int .i64 P01, .int .i64 P11, .bool bent, .int .i64 missed] 25)).alloc (.cells #[.int .i64 0, .int .i64 0, .int .i64 0, .int .i64 0, .int .i64 0, .bool false, .int .i64 0] 25)).alloc (.cells #[.bool bent] 154)) (w.heap.size + 1) 25 #[.int .i64 0, .int .i64 0, .int .i64 0, .int .i64 0, .int .i64 0, .bool false, .int .i64 0] from (Blk.new (by simp)).alloc _)
  have hsz : w.heap.size + 3 ≤ (((w.alloc (.cells #[.int .i64 X, .int .i64 V, .int .i64 P00, .int .i64 P01, .int .i64 P11, .bool bent, .int .i64 missed] 25)).alloc (.cells #[.int .i64 0, .int .i64 0, .int .i64 0, .int .i64 0, .int .i64 0, .bool false, .int .i64 0] 25)).alloc (.cells #[.bool bent] 154)).heap.size := by simp
  obtain ⟨⟨t, tb⟩, h_t⟩ : ∃ res_, fmul P01 dt = res_ := ⟨_, rfl⟩
  have T_ := Lib.hid h_t
  have r_t : In64 t := by have h := fmul_range P01 dt; rw [h_t] at h; exact h
  clear h_t
  obtain ⟨⟨u, ub⟩, h_u⟩ : ∃ res_, fmul P11 dt = res_ := ⟨_, rfl⟩
  have U_ := Lib.hid h_u
  have r_u : In64 u := by have h := fmul_range P11 dt; rw [h_u] at h; exact h
  clear h_u
  obtain ⟨⟨m, mb⟩, h_m⟩ : ∃ res_, fmul V dt = res_ := ⟨_, rfl⟩
  have M_ := Lib.hid h_m
  have r_m : In64 m := by have h := fmul_range V dt; rw [h_m] at h; exact h
  clear h_m
  obtain ⟨⟨x, xb⟩, h_x⟩ : ∃ res_, fadd X m = res_ := ⟨_, rfl⟩
  have X_ := Lib.hid h_x
  have r_x : In64 x := by have h := fadd_range X m; rw [h_x] at h; exact h
  clear h_x
  obtain ⟨⟨a, ab⟩, h_a⟩ : ∃ res_, fadd P00 t = res_ := ⟨_, rfl⟩
  have A_ := Lib.hid h_a
  have r_a : In64 a := by have h := fadd_range P00 t; rw [h_a] at h; exact h
  clear h_a
  obtain ⟨⟨b, bb⟩, h_b⟩ : ∃ res_, fadd a t = res_ := ⟨_, rfl⟩
  have B_ := Lib.hid h_b
  have r_b : In64 b := by have h := fadd_range a t; rw [h_b] at h; exact h
  clear h_b
  obtain ⟨⟨c, cb⟩, h_c⟩ : ∃ res_, fmul u dt = res_ := ⟨_, rfl⟩
  have C_ := Lib.hid h_c
  have r_c : In64 c := by have h := fmul_range u dt; rw [h_c] at h; exact h
  clear h_c
  obtain ⟨⟨d, db⟩, h_d⟩ : ∃ res_, fadd b c = res_ := ⟨_, rfl⟩
  have D_ := Lib.hid h_d
  have r_d : In64 d := by have h := fadd_range b c; rw [h_d] at h; exact h
  clear h_d
  obtain ⟨⟨e_, e_b⟩, h_e_⟩ : ∃ res_, fadd P01 u = res_ := ⟨_, rfl⟩
  have E__ := Lib.hid h_e_
  have r_e_ : In64 e_ := by have h := fadd_range P01 u; rw [h_e_] at h; exact h
  clear h_e_
  obtain ⟨⟨f_, f_b⟩, h_f_⟩ : ∃ res_, fadd P11 q = res_ := ⟨_, rfl⟩
  have F__ := Lib.hid h_f_
  have r_f_ : In64 f_ := by have h := fadd_range P11 q; rw [h_f_] at h; exact h
  clear h_f_
  go_enter Tryz.func69, Tryz.ntmps69
  go_upto_region 2 with fail
  generalize (((w.alloc (.cells #[.int .i64 X, .int .i64 V, .int .i64 P00, .int .i64 P01, .int .i64 P11, .bool bent, .int .i64 missed] 25)).alloc (.cells #[.int .i64 0, .int .i64 0, .int .i64 0, .int .i64 0, .int .i64 0, .bool false, .int .i64 0] 25)).alloc (.cells #[.bool bent] 154)) = w1 at *
  obtain ⟨gk, hgk⟩ : ∃ g, w.heap.size + 1 + 1 = g := ⟨_, rfl⟩
  rw [hgk] at HK ⊢
  obtain ⟨gr, hgr⟩ : ∃ g, w.heap.size + 1 = g := ⟨_, rfl⟩
  rw [hgr] at HR ⊢
  (try clear k0 k1 k2 k3 k4 k5 k6)
  (try clear kh)
  obtain ⟨k0, k1, k2, k3, k4, k5, k6⟩ := st_cells HST.out
  go_wp2_with fail
  refine (rmul_any gk _ P01 dt _ HK.out r_P01 r_dt).mono ?_
  intro e w1 hc
  rw [T_.out] at hc
  obtain ⟨rfl, hst, hg⟩ := hc
  dsimp only at hst
  have HK := Lib.hid hst
  have HR := Lib.hid (HR.out.grown hg (neq_of (by omega)))
  have HST := Lib.hid (Blk.grown HST.out hg (neq_of (by omega)))
  have HB := Lib.hid (below_grown HB.out (Nat.le_refl _) hg (fun g e => by injection e with e; omega))
  replace hsz := Nat.le_trans hsz hg.size
  clear hst hg
  (try clear k0 k1 k2 k3 k4 k5 k6)
  (try clear kh)
  obtain ⟨k0, k1, k2, k3, k4, k5, k6⟩ := st_cells HST.out
  go_wp2_with fail
  refine (rmul_any gk _ P11 dt _ HK.out r_P11 r_dt).mono ?_
  intro e w1 hc
  rw [U_.out] at hc
  obtain ⟨rfl, hst, hg⟩ := hc
  dsimp only at hst
  have HK := Lib.hid hst
  have HR := Lib.hid (HR.out.grown hg (neq_of (by omega)))
  have HST := Lib.hid (Blk.grown HST.out hg (neq_of (by omega)))
  have HB := Lib.hid (below_grown HB.out (Nat.le_refl _) hg (fun g e => by injection e with e; omega))
  replace hsz := Nat.le_trans hsz hg.size
  clear hst hg
  (try clear k0 k1 k2 k3 k4 k5 k6)
  (try clear kh)
  obtain ⟨k0, k1, k2, k3, k4, k5, k6⟩ := st_cells HST.out
  have HG := Lib.hid (show Blk w1 w.heap.size 25 #[.int .i64 X, .int .i64 V, .int .i64 P00, .int .i64 P01, .int .i64 P11, .bool bent, .int .i64 missed] from HST.out)
  go_upto_region 5 with (refine wpList_whole rfl 25 _ rfl w.heap.size rfl HG.out _ Tryz.underlying25 rfl (by kernel_rfl) ?_)
  clear HG
  have HN := Lib.hid (show StAt (w1.alloc (.cells #[.int .i64 X, .int .i64 V, .int .i64 P00, .int .i64 P01, .int .i64 P11, .bool bent, .int .i64 missed] 25)) w1.heap.size ⟨X, V, P00, P01, P11, bent, missed⟩ from Blk.fresh _ _ _)
  have HST := Lib.hid (show StAt (w1.alloc (.cells #[.int .i64 X, .int .i64 V, .int .i64 P00, .int .i64 P01, .int .i64 P11, .bool bent, .int .i64 missed] 25)) w.heap.size ⟨X, V, P00, P01, P11, bent, missed⟩ from Blk.alloc HST.out _)
  have HK := Lib.hid (Blk.alloc HK.out (.cells #[.int .i64 X, .int .i64 V, .int .i64 P00, .int .i64 P01, .int .i64 P11, .bool bent, .int .i64 missed] 25))
  have HR := Lib.hid (HR.out.alloc (.cells #[.int .i64 X, .int .i64 V, .int .i64 P00, .int .i64 P01, .int .i64 P11, .bool bent, .int .i64 missed] 25))
  have HB := Lib.hid (HB.out.alloc (by omega) (.cells #[.int .i64 X, .int .i64 V, .int .i64 P00, .int .i64 P01, .int .i64 P11, .bool bent, .int .i64 missed] 25))
  obtain ⟨gn, hgn⟩ : ∃ g, w1.heap.size = g := ⟨_, rfl⟩
  have hgn1 : w.heap.size + 3 ≤ gn := by omega
  replace hsz : w.heap.size + 3 ≤ (w1.alloc (.cells #[.int .i64 X, .int .i64 V, .int .i64 P00, .int .i64 P01, .int .i64 P11, .bool bent, .int .i64 missed] 25)).heap.size := by simp; omega
  rw [hgn] at HN ⊢
  clear hgn
  generalize (w1.alloc (.cells #[.int .i64 X, .int .i64 V, .int .i64 P00, .int .i64 P01, .int .i64 P11, .bool bent, .int .i64 missed] 25)) = w1 at *
  (try clear k0 k1 k2 k3 k4 k5 k6)
  (try clear kh)
  obtain ⟨k0, k1, k2, k3, k4, k5, k6⟩ := st_cells HST.out
  have HST := Lib.hid (Blk.drew HST.out)
  have HR := Lib.hid (HR.out.drew)
  have HK := Lib.hid (Blk.drew HK.out)
  have HN := Lib.hid (Blk.drew HN.out)
  have HB := Lib.hid HB.out.drew
  have hsz : w.heap.size + 3 ≤ w1.drew.heap.size := hsz
  (try clear k0 k1 k2 k3 k4 k5 k6)
  (try clear kh)
  obtain ⟨k0, k1, k2, k3, k4, k5, k6⟩ := st_cells HST.out
  have HS := And.intro k0 (And.intro k1 (And.intro k2 (And.intro k3 k4)))
  refine wp_region_noPanic ?_
  refine Rg.beginR [2, 5] (fun w' => w'.cell? ⟨w.heap.size, 0, none⟩ = some (.int .i64 X) ∧ w'.cell? ⟨w.heap.size, 1, none⟩ = some (.int .i64 V) ∧ w'.cell? ⟨w.heap.size, 2, none⟩ = some (.int .i64 P00) ∧ w'.cell? ⟨w.heap.size, 3, none⟩ = some (.int .i64 P01) ∧ w'.cell? ⟨w.heap.size, 4, none⟩ = some (.int .i64 P11)) (by kernel_rfl) ?_
  generalize w1.drew = w1 at *
  refine Rg.takeP (i := 0) (oi := { dst := some 26, op := Op.move (Operand.tmp 7), type := 152, pos := "number.go:366", after := #[], guard := none }) (v := ?_) rfl (by kernel_rfl) (fun _ _ _ h => h) (by rfl) ?_ ?_
  rotate_left 1
  · (intro w; go_simp; (try with_reducible rfl))
  try simp only [Act.put, List.setIfInBounds_toArray, List.set_cons_zero, List.set_cons_succ]
  refine Rg.takeP (i := 1) (oi := { dst := some 27, op := Op.fieldAddr 25 (Operand.tmp 3) 0, type := 0, pos := "number.go:366", after := #[], guard := none }) (v := ?_) rfl (by kernel_rfl) (fun _ _ _ h => h) (by rfl) ?_ ?_
  rotate_left 1
  · (intro w; go_simp; (try with_reducible rfl))
  try simp only [Act.put, List.setIfInBounds_toArray, List.set_cons_zero, List.set_cons_succ]
  refine Rg.takeS (i := 2) (oi := { dst := some 28, op := Op.load 3 (Operand.tmp 27), type := 3, pos := "number.go:366", after := #[{ on := 1, ground := Ground.data }], guard := none }) (v := ?_) rfl (by kernel_rfl) (fun _ _ _ h => h) (by rfl) HS ?_ ?_
  rotate_left 1
  · (intro w hSw; (try dsimp only at hSw); (try go_split_ands); go_simp; (try with_reducible rfl))
  try simp only [Act.put, List.setIfInBounds_toArray, List.set_cons_zero, List.set_cons_succ]
  refine Rg.takeP (i := 3) (oi := { dst := some 29, op := Op.move (Operand.tmp 7), type := 152, pos := "number.go:366", after := #[], guard := none }) (v := ?_) rfl (by kernel_rfl) (fun _ _ _ h => h) (by rfl) ?_ ?_
  rotate_left 1
  · (intro w; go_simp; (try with_reducible rfl))
  try simp only [Act.put, List.setIfInBounds_toArray, List.set_cons_zero, List.set_cons_succ]
  refine Rg.takeP (i := 4) (oi := { dst := some 30, op := Op.fieldAddr 25 (Operand.tmp 3) 1, type := 0, pos := "number.go:366", after := #[], guard := none }) (v := ?_) rfl (by kernel_rfl) (fun _ _ _ h => h) (by rfl) ?_ ?_
  rotate_left 1
  · (intro w; go_simp; (try with_reducible rfl))
  try simp only [Act.put, List.setIfInBounds_toArray, List.set_cons_zero, List.set_cons_succ]
  refine Rg.takeS (i := 5) (oi := { dst := some 31, op := Op.load 3 (Operand.tmp 30), type := 3, pos := "number.go:366", after := #[{ on := 4, ground := Ground.data }], guard := none }) (v := ?_) rfl (by kernel_rfl) (fun _ _ _ h => h) (by rfl) HS ?_ ?_
  rotate_left 1
  · (intro w hSw; (try dsimp only at hSw); (try go_split_ands); go_simp; (try with_reducible rfl))
  try simp only [Act.put, List.setIfInBounds_toArray, List.set_cons_zero, List.set_cons_succ]
  refine Rg.takeP (i := 6) (oi := { dst := some 32, op := Op.move (Operand.tmp 1), type := 3, pos := "number.go:366", after := #[], guard := none }) (v := ?_) rfl (by kernel_rfl) (fun _ _ _ h => h) (by rfl) ?_ ?_
  rotate_left 1
  · (intro w; go_simp; (try with_reducible rfl))
  try simp only [Act.put, List.setIfInBounds_toArray, List.set_cons_zero, List.set_cons_succ]
  refine Rg.oneR (i := 7) (oi := { dst := some 33, op := Op.call { callee := Callee.value (Operand.func 101), args := #[Operand.tmp 29, Operand.tmp 31, Operand.tmp 32], argTypes := #[152, 3, 3] }, type := 3, pos := "number.go:366", after := #[{ on := 3, ground := Ground.data }, { on := 5, ground := Ground.data }, { on := 6, ground := Ground.data }], guard := none }) rfl (by kernel_rfl) ?_
  refine Rg.stepS ?_
  intro K hK
  rw [if_pos (by rfl)]
  go_simp
  go_at_call 101
  refine (rmul_any gk _ V dt _ HK.out r_V r_dt).mono ?_
  intro e w1 hc
  rw [M_.out] at hc
  obtain ⟨rfl, hst, hg⟩ := hc
  dsimp only at hst
  have HK := Lib.hid hst
  have HR := Lib.hid (HR.out.grown hg (neq_of (by omega)))
  have HST := Lib.hid (Blk.grown HST.out hg (neq_of (by omega)))
  have HN := Lib.hid (Blk.grown HN.out hg (neq_of (by omega)))
  have HB := Lib.hid (below_grown HB.out (Nat.le_refl _) hg (fun g e => by injection e with e; omega))
  replace hsz := Nat.le_trans hsz hg.size
  clear hst hg
  (try clear k0 k1 k2 k3 k4 k5 k6)
  (try clear kh)
  obtain ⟨k0, k1, k2, k3, k4, k5, k6⟩ := st_cells HST.out
  clear HS
  have HS := And.intro k0 (And.intro k1 (And.intro k2 (And.intro k3 k4)))
  go_wp2_with fail
  refine hK.out _ _ HS ?_
  clear hK K
  try simp only [Act.put, List.setIfInBounds_toArray, List.set_cons_zero, List.set_cons_succ]
  refine Rg.oneR (i := 8) (oi := { dst := some 34, op := Op.call { callee := Callee.value (Operand.func 100), args := #[Operand.tmp 26, Operand.tmp 28, Operand.tmp 33], argTypes := #[152, 3, 3] }, type := 3, pos := "number.go:366", after := #[{ on := 0, ground := Ground.data }, { on := 2, ground := Ground.data }, { on := 7, ground := Ground.data }, { on := 7, ground := Ground.chain }], guard := none }) rfl (by kernel_rfl) ?_
  refine Rg.stepF ?_ ?_
  · kernel_rfl
  intro K hK
  rw [if_pos (by rfl)]
  go_simp
  go_at_call 100
  refine (radd_any gk _ X m _ HK.out r_X r_m).mono ?_
  intro e w1 hc
  rw [X_.out] at hc
  obtain ⟨rfl, hst, hg⟩ := hc
  dsimp only at hst
  have HK := Lib.hid hst
  have HR := Lib.hid (HR.out.grown hg (neq_of (by omega)))
  have HST := Lib.hid (Blk.grown HST.out hg (neq_of (by omega)))
  have HN := Lib.hid (Blk.grown HN.out hg (neq_of (by omega)))
  have HB := Lib.hid (below_grown HB.out (Nat.le_refl _) hg (fun g e => by injection e with e; omega))
  replace hsz := Nat.le_trans hsz hg.size
  clear hst hg
  (try clear k0 k1 k2 k3 k4 k5 k6)
  (try clear kh)
  obtain ⟨k0, k1, k2, k3, k4, k5, k6⟩ := st_cells HST.out
  clear HS
  have HS := And.intro k0 (And.intro k1 (And.intro k2 (And.intro k3 k4)))
  obtain ⟨f0, f1, f2, f3, f4, f5, f6⟩ := st_thaws HN.out
  obtain ⟨j0, j1, j2, j3, j4, j5, j6⟩ := st_cells HN.out
  go_wp2_with fail
  refine hK.out _ _ ?_
  clear hK K
  try simp only [Act.put, List.setIfInBounds_toArray, List.set_cons_zero, List.set_cons_succ]
  refine Rg.takeP (i := 9) (oi := { dst := some 35, op := Op.fieldAddr 25 (Operand.tmp 10) 0, type := 0, pos := "number.go:366", after := #[{ on := 0, ground := Ground.phase }, { on := 1, ground := Ground.phase }, { on := 2, ground := Ground.phase }, { on := 3, ground := Ground.phase }, { on := 4, ground := Ground.phase }, { on := 5, ground := Ground.phase }, { on := 6, ground := Ground.phase }, { on := 7, ground := Ground.phase }, { on := 8, ground := Ground.phase }], guard := none }) (v := ?_) rfl (by kernel_rfl) (fun _ _ _ h => h) (by rfl) ?_ ?_
  rotate_left 1
  · (intro w; go_simp; (try with_reducible rfl))
  try simp only [Act.put, List.setIfInBounds_toArray, List.set_cons_zero, List.set_cons_succ]
  refine Rg.oneR (i := 10) (oi := { dst := none, op := Op.store 3 (Operand.tmp 35) (Operand.tmp 34), type := 0, pos := "number.go:366", after := #[{ on := 9, ground := Ground.data }, { on := 8, ground := Ground.data }, { on := 8, ground := Ground.chain }, { on := 0, ground := Ground.phase }, { on := 1, ground := Ground.phase }, { on := 2, ground := Ground.phase }, { on := 3, ground := Ground.phase }, { on := 4, ground := Ground.phase }, { on := 5, ground := Ground.phase }, { on := 6, ground := Ground.phase }, { on := 7, ground := Ground.phase }, { on := 8, ground := Ground.phase }], guard := none }) rfl (by kernel_rfl) ?_
  refine Rg.stepF ?_ ?_
  · kernel_rfl
  intro K hK
  go_simp
  refine hK.out _ _ ?_
  clear hK K
  try simp only [Act.put, List.setIfInBounds_toArray, List.set_cons_zero, List.set_cons_succ]
  refine Rg.doneR (by kernel_rfl) ?_ _
  refine NoPanic.normal ?_
  clear HS f0 f1 f2 f3 f4 f5 f6
  clear j0 j1 j2 j3 j4 j5 j6
  have HP := Lib.hid (show StAt (w1.setCell ⟨gn, 0, none⟩ (.int .i64 x)) gn ⟨x, V, P00, P01, P11, bent, missed⟩ from Blk.set HN.out 0 (.int .i64 x))
  have HR := Lib.hid (HR.out.other (p := ⟨gn, 0, none⟩) (by show _ ≠ gn; omega) (.int .i64 x))
  have HST := Lib.hid (Blk.other HST.out (p := ⟨gn, 0, none⟩) (by show _ ≠ gn; omega) (.int .i64 x))
  have HK := Lib.hid (Blk.other HK.out (p := ⟨gn, 0, none⟩) (by show _ ≠ gn; omega) (.int .i64 x))
  have HB := Lib.hid (HB.out.setCell (p := ⟨gn, 0, none⟩) (by show _ ≤ gn; omega) (.int .i64 x))
  replace hsz : w.heap.size + 3 ≤ (w1.setCell ⟨gn, 0, none⟩ (.int .i64 x)).heap.size := by simpa using hsz
  have HN := HP
  clear HP
  generalize (w1.setCell ⟨gn, 0, none⟩ (.int .i64 x)) = w1 at *
  (try clear k0 k1 k2 k3 k4 k5 k6)
  (try clear kh)
  obtain ⟨k0, k1, k2, k3, k4, k5, k6⟩ := st_cells HST.out
  go_upto_region 6 with fail
  go_wp2_with fail
  refine (radd_any gk _ P00 t _ HK.out r_P00 r_t).mono ?_
  intro e w1 hc
  rw [A_.out] at hc
  obtain ⟨rfl, hst, hg⟩ := hc
  dsimp only at hst
  have HK := Lib.hid hst
  have HR := Lib.hid (HR.out.grown hg (neq_of (by omega)))
  have HST := Lib.hid (Blk.grown HST.out hg (neq_of (by omega)))
  have HN := Lib.hid (Blk.grown HN.out hg (neq_of (by omega)))
  have HB := Lib.hid (below_grown HB.out (Nat.le_refl _) hg (fun g e => by injection e with e; omega))
  replace hsz := Nat.le_trans hsz hg.size
  clear hst hg
  (try clear k0 k1 k2 k3 k4 k5 k6)
  (try clear kh)
  obtain ⟨k0, k1, k2, k3, k4, k5, k6⟩ := st_cells HST.out
  go_wp2_with fail
  refine (radd_any gk _ a t _ HK.out r_a r_t).mono ?_
  intro e w1 hc
  rw [B_.out] at hc
  obtain ⟨rfl, hst, hg⟩ := hc
  dsimp only at hst
  have HK := Lib.hid hst
  have HR := Lib.hid (HR.out.grown hg (neq_of (by omega)))
  have HST := Lib.hid (Blk.grown HST.out hg (neq_of (by omega)))
  have HN := Lib.hid (Blk.grown HN.out hg (neq_of (by omega)))
  have HB := Lib.hid (below_grown HB.out (Nat.le_refl _) hg (fun g e => by injection e with e; omega))
  replace hsz := Nat.le_trans hsz hg.size
  clear hst hg
  (try clear k0 k1 k2 k3 k4 k5 k6)
  (try clear kh)
  obtain ⟨k0, k1, k2, k3, k4, k5, k6⟩ := st_cells HST.out
  go_wp2_with fail
  refine (rmul_any gk _ u dt _ HK.out r_u r_dt).mono ?_
  intro e w1 hc
  rw [C_.out] at hc
  obtain ⟨rfl, hst, hg⟩ := hc
  dsimp only at hst
  have HK := Lib.hid hst
  have HR := Lib.hid (HR.out.grown hg (neq_of (by omega)))
  have HST := Lib.hid (Blk.grown HST.out hg (neq_of (by omega)))
  have HN := Lib.hid (Blk.grown HN.out hg (neq_of (by omega)))
  have HB := Lib.hid (below_grown HB.out (Nat.le_refl _) hg (fun g e => by injection e with e; omega))
  replace hsz := Nat.le_trans hsz hg.size
  clear hst hg
  (try clear k0 k1 k2 k3 k4 k5 k6)
  (try clear kh)
  obtain ⟨k0, k1, k2, k3, k4, k5, k6⟩ := st_cells HST.out
  go_wp2_with fail
  refine (radd_any gk _ b c _ HK.out r_b r_c).mono ?_
  intro e w1 hc
  rw [D_.out] at hc
  obtain ⟨rfl, hst, hg⟩ := hc
  dsimp only at hst
  have HK := Lib.hid hst
  have HR := Lib.hid (HR.out.grown hg (neq_of (by omega)))
  have HST := Lib.hid (Blk.grown HST.out hg (neq_of (by omega)))
  have HN := Lib.hid (Blk.grown HN.out hg (neq_of (by omega)))
  have HB := Lib.hid (below_grown HB.out (Nat.le_refl _) hg (fun g e => by injection e with e; omega))
  replace hsz := Nat.le_trans hsz hg.size
  clear hst hg
  (try clear k0 k1 k2 k3 k4 k5 k6)
  (try clear kh)
  obtain ⟨k0, k1, k2, k3, k4, k5, k6⟩ := st_cells HST.out
  obtain ⟨f0, f1, f2, f3, f4, f5, f6⟩ := st_thaws HN.out
  obtain ⟨j0, j1, j2, j3, j4, j5, j6⟩ := st_cells HN.out
  go_upto_region 7 with fail
  clear f0 f1 f2 f3 f4 f5 f6 j0 j1 j2 j3 j4 j5 j6
  have HP := Lib.hid (show StAt (w1.setCell ⟨gn, 2, none⟩ (.int .i64 d)) gn ⟨x, V, d, P01, P11, bent, missed⟩ from Blk.set HN.out 2 (.int .i64 d))
  have HR := Lib.hid (HR.out.other (p := ⟨gn, 2, none⟩) (by show _ ≠ gn; omega) (.int .i64 d))
  have HST := Lib.hid (Blk.other HST.out (p := ⟨gn, 2, none⟩) (by show _ ≠ gn; omega) (.int .i64 d))
  have HK := Lib.hid (Blk.other HK.out (p := ⟨gn, 2, none⟩) (by show _ ≠ gn; omega) (.int .i64 d))
  have HB := Lib.hid (HB.out.setCell (p := ⟨gn, 2, none⟩) (by show _ ≤ gn; omega) (.int .i64 d))
  replace hsz : w.heap.size + 3 ≤ (w1.setCell ⟨gn, 2, none⟩ (.int .i64 d)).heap.size := by simpa using hsz
  have HN := HP
  clear HP
  generalize (w1.setCell ⟨gn, 2, none⟩ (.int .i64 d)) = w1 at *
  (try clear k0 k1 k2 k3 k4 k5 k6)
  (try clear kh)
  obtain ⟨k0, k1, k2, k3, k4, k5, k6⟩ := st_cells HST.out
  go_wp2_with fail
  refine (radd_any gk _ P01 u _ HK.out r_P01 r_u).mono ?_
  intro e w1 hc
  rw [E__.out] at hc
  obtain ⟨rfl, hst, hg⟩ := hc
  dsimp only at hst
  have HK := Lib.hid hst
  have HR := Lib.hid (HR.out.grown hg (neq_of (by omega)))
  have HST := Lib.hid (Blk.grown HST.out hg (neq_of (by omega)))
  have HN := Lib.hid (Blk.grown HN.out hg (neq_of (by omega)))
  have HB := Lib.hid (below_grown HB.out (Nat.le_refl _) hg (fun g e => by injection e with e; omega))
  replace hsz := Nat.le_trans hsz hg.size
  clear hst hg
  (try clear k0 k1 k2 k3 k4 k5 k6)
  (try clear kh)
  obtain ⟨k0, k1, k2, k3, k4, k5, k6⟩ := st_cells HST.out
  obtain ⟨f0, f1, f2, f3, f4, f5, f6⟩ := st_thaws HN.out
  obtain ⟨j0, j1, j2, j3, j4, j5, j6⟩ := st_cells HN.out
  go_upto_region 8 with fail
  clear f0 f1 f2 f3 f4 f5 f6 j0 j1 j2 j3 j4 j5 j6
  have HP := Lib.hid (show StAt (w1.setCell ⟨gn, 3, none⟩ (.int .i64 e_)) gn ⟨x, V, d, e_, P11, bent, missed⟩ from Blk.set HN.out 3 (.int .i64 e_))
  have HR := Lib.hid (HR.out.other (p := ⟨gn, 3, none⟩) (by show _ ≠ gn; omega) (.int .i64 e_))
  have HST := Lib.hid (Blk.other HST.out (p := ⟨gn, 3, none⟩) (by show _ ≠ gn; omega) (.int .i64 e_))
  have HK := Lib.hid (Blk.other HK.out (p := ⟨gn, 3, none⟩) (by show _ ≠ gn; omega) (.int .i64 e_))
  have HB := Lib.hid (HB.out.setCell (p := ⟨gn, 3, none⟩) (by show _ ≤ gn; omega) (.int .i64 e_))
  replace hsz : w.heap.size + 3 ≤ (w1.setCell ⟨gn, 3, none⟩ (.int .i64 e_)).heap.size := by simpa using hsz
  have HN := HP
  clear HP
  generalize (w1.setCell ⟨gn, 3, none⟩ (.int .i64 e_)) = w1 at *
  (try clear k0 k1 k2 k3 k4 k5 k6)
  (try clear kh)
  obtain ⟨k0, k1, k2, k3, k4, k5, k6⟩ := st_cells HST.out
  go_wp2_with fail
  refine (radd_any gk _ P11 q _ HK.out r_P11 r_q).mono ?_
  intro e w1 hc
  rw [F__.out] at hc
  obtain ⟨rfl, hst, hg⟩ := hc
  dsimp only at hst
  have HK := Lib.hid hst
  have HR := Lib.hid (HR.out.grown hg (neq_of (by omega)))
  have HST := Lib.hid (Blk.grown HST.out hg (neq_of (by omega)))
  have HN := Lib.hid (Blk.grown HN.out hg (neq_of (by omega)))
  have HB := Lib.hid (below_grown HB.out (Nat.le_refl _) hg (fun g e => by injection e with e; omega))
  replace hsz := Nat.le_trans hsz hg.size
  clear hst hg
  (try clear k0 k1 k2 k3 k4 k5 k6)
  (try clear kh)
  obtain ⟨k0, k1, k2, k3, k4, k5, k6⟩ := st_cells HST.out
  obtain ⟨f0, f1, f2, f3, f4, f5, f6⟩ := st_thaws HN.out
  obtain ⟨j0, j1, j2, j3, j4, j5, j6⟩ := st_cells HN.out
  go_upto_region 9 with fail
  clear f0 f1 f2 f3 f4 f5 f6 j0 j1 j2 j3 j4 j5 j6
  have HP := Lib.hid (show StAt (w1.setCell ⟨gn, 4, none⟩ (.int .i64 f_)) gn ⟨x, V, d, e_, f_, bent, missed⟩ from Blk.set HN.out 4 (.int .i64 f_))
  have HR := Lib.hid (HR.out.other (p := ⟨gn, 4, none⟩) (by show _ ≠ gn; omega) (.int .i64 f_))
  have HST := Lib.hid (Blk.other HST.out (p := ⟨gn, 4, none⟩) (by show _ ≠ gn; omega) (.int .i64 f_))
  have HK := Lib.hid (Blk.other HK.out (p := ⟨gn, 4, none⟩) (by show _ ≠ gn; omega) (.int .i64 f_))
  have HB := Lib.hid (HB.out.setCell (p := ⟨gn, 4, none⟩) (by show _ ≤ gn; omega) (.int .i64 f_))
  replace hsz : w.heap.size + 3 ≤ (w1.setCell ⟨gn, 4, none⟩ (.int .i64 f_)).heap.size := by simpa using hsz
  have HN := HP
  clear HP
  generalize (w1.setCell ⟨gn, 4, none⟩ (.int .i64 f_)) = w1 at *
  (try clear k0 k1 k2 k3 k4 k5 k6)
  (try clear kh)
  obtain ⟨k0, k1, k2, k3, k4, k5, k6⟩ := st_cells HST.out
  obtain ⟨f0, f1, f2, f3, f4, f5, f6⟩ := st_thaws HN.out
  obtain ⟨j0, j1, j2, j3, j4, j5, j6⟩ := st_cells HN.out
  have kb := one_cell HK.out
  go_upto_region 10 with fail
  clear f0 f1 f2 f3 f4 f5 f6 j0 j1 j2 j3 j4 j5 j6 kb
  have HP := Lib.hid (show StAt (w1.setCell ⟨gn, 5, none⟩ (.bool ((((((((((bent || tb) || ub) || mb) || xb) || ab) || bb) || cb) || db) || e_b) || f_b))) gn ⟨x, V, d, e_, f_, ((((((((((bent || tb) || ub) || mb) || xb) || ab) || bb) || cb) || db) || e_b) || f_b), missed⟩ from Blk.set HN.out 5 (.bool ((((((((((bent || tb) || ub) || mb) || xb) || ab) || bb) || cb) || db) || e_b) || f_b)))
  have HR := Lib.hid (HR.out.other (p := ⟨gn, 5, none⟩) (by show _ ≠ gn; omega) (.bool ((((((((((bent || tb) || ub) || mb) || xb) || ab) || bb) || cb) || db) || e_b) || f_b)))
  have HST := Lib.hid (Blk.other HST.out (p := ⟨gn, 5, none⟩) (by show _ ≠ gn; omega) (.bool ((((((((((bent || tb) || ub) || mb) || xb) || ab) || bb) || cb) || db) || e_b) || f_b)))
  have HK := Lib.hid (Blk.other HK.out (p := ⟨gn, 5, none⟩) (by show _ ≠ gn; omega) (.bool ((((((((((bent || tb) || ub) || mb) || xb) || ab) || bb) || cb) || db) || e_b) || f_b)))
  have HB := Lib.hid (HB.out.setCell (p := ⟨gn, 5, none⟩) (by show _ ≤ gn; omega) (.bool ((((((((((bent || tb) || ub) || mb) || xb) || ab) || bb) || cb) || db) || e_b) || f_b)))
  replace hsz : w.heap.size + 3 ≤ (w1.setCell ⟨gn, 5, none⟩ (.bool ((((((((((bent || tb) || ub) || mb) || xb) || ab) || bb) || cb) || db) || e_b) || f_b))).heap.size := by simpa using hsz
  have HN := HP
  clear HP
  generalize (w1.setCell ⟨gn, 5, none⟩ (.bool ((((((((((bent || tb) || ub) || mb) || xb) || ab) || bb) || cb) || db) || e_b) || f_b))) = w1 at *
  (try clear k0 k1 k2 k3 k4 k5 k6)
  (try clear kh)
  obtain ⟨k0, k1, k2, k3, k4, k5, k6⟩ := st_cells HST.out
  have HG := Lib.hid (show Blk w1 gn 25 #[.int .i64 x, .int .i64 V, .int .i64 d, .int .i64 e_, .int .i64 f_, .bool ((((((((((bent || tb) || ub) || mb) || xb) || ab) || bb) || cb) || db) || e_b) || f_b), .int .i64 missed] from HN.out)
  have HF := Lib.hid (show predict ⟨X, V, P00, P01, P11, bent, missed⟩ dt q = ⟨x, V, d, e_, f_, ((((((((((bent || tb) || ub) || mb) || xb) || ab) || bb) || cb) || db) || e_b) || f_b), missed⟩ by simp only [predict, T_.out, U_.out, M_.out, X_.out, A_.out, B_.out, C_.out, D_.out, E__.out, F__.out])
  clear k0 k1 k2 k3 k4 k5 k6
  go_wp2_with (first | (refine wpList_whole rfl 25 _ rfl gn rfl HG.out _ Tryz.underlying25 rfl (by kernel_rfl) ?_) | (refine wpList_store_row rfl 25 _ _ rfl gr #[.int .i64 x, .int .i64 V, .int .i64 d, .int .i64 e_, .int .i64 f_, .bool ((((((((((bent || tb) || ub) || mb) || xb) || ab) || bb) || cb) || db) || e_b) || f_b), .int .i64 missed] rfl rfl 25 _ HR.out (by kernel_rfl) rfl (by simp [Value.oneCell']) ?_))
  refine ret_row rfl rfl (HR.out.setRow #[.int .i64 x, .int .i64 V, .int .i64 d, .int .i64 e_, .int .i64 f_, .bool ((((((((((bent || tb) || ub) || mb) || xb) || ab) || bb) || cb) || db) || e_b) || f_b), .int .i64 missed]) Tryz.underlying25 rfl (by kernel_rfl) rfl ?_
  rw [HF.out]
  exact ⟨rfl, below_setRow HB.out (by omega) _⟩
end Go.Proofs.YtjfllpmiajkenaaGreat.BigW
