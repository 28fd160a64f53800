/- Contracts: the closures of the reference's MatMul, chain over them, MatMul; Mul and MatMul whatever they are given. -/
import Derived.Test.YtajhkbdaoakogaaMulN
import Derived.Test.YtajhkbdaoakogaaTimesR
import Derived.Test.YtajhkbdaoakogaaRefTimes
import Derived.Test.YtajhkbdaoakogaaOwnCap
import Derived.Test.YtajhkbdaoakogaaSameI
namespace Go.Proofs.Ytajhkbdaoakogaa.BigW
open Go.RowKit Go.Proofs.Ytajhkbdaoakogaa.Mem Go.Proofs.Ytajhkbdaoakogaa.BigLaw Go.Proofs.Ytajhkbdaoakogaa.Rws Go.Proofs.Ytajhkbdaoakogaa.Ints Go.Proofs.Ytajhkbdaoakogaa.Mats
set_option linter.unusedVariables false
set_option linter.unusedSimpArgs false

set_option maxRecDepth 100000 in
set_option maxHeartbeats 1000000 in
theorem mulc1_any (N d k : Nat) (A : Option Addr) (c : Nat) (zs : List Int) (gm gc gn B : Nat) (w : World) (hN : 1 ≤ N) (h6 : N ≤ 6) (hd : d < N * N) (hk : k < N) (hl : zs.length = N * N) (hm : Blk w gm 49 #[.int .i64 (N : Int), .slice A zs.length c]) (hc : Blk w gc 3 #[.int .i64 (d : Int)]) (hn : Blk w gn 3 #[.int .i64 (N : Int)]) (hr : Rd w B 1 A zs.length (intsV zs)) (hB : B ≤ w.heap.size) :
    Calls Try.prog 80 #[.int .i64 (k : Int), .pointer (some ⟨gm, 0, none⟩), .pointer (some ⟨gc, 0, none⟩), .pointer (some ⟨gn, 0, none⟩)] w fun e w' => e = .returned (.int .i64 (zs.getD (d / N * N + k) 0)) ∧ Below w.heap.size w w' := by
  have h36 := sq_36 h6
  obtain ⟨I, hI⟩ : ∃ I, d / N = I := ⟨_, rfl⟩
  obtain ⟨C, hC⟩ : ∃ C, d % N = C := ⟨_, rfl⟩
  have hIN : I < N := by rw [← hI]; exact Nat.div_lt_of_lt_mul hd
  have hCN : C < N := by rw [← hC]; exact Nat.mod_lt _ hN
  obtain ⟨q, hq⟩ : ∃ q, I * N = q := ⟨_, rfl⟩
  have hq2 : q + k < zs.length := by rw [← hq, hl]; exact sq_idx (by assumption) (by assumption)
  obtain ⟨b, o, u, rfl, hbB, hu, hcell⟩ := hr.at hq2
  rw [intsV_at zs _ hq2] at hu
  injection hu with hu
  subst hu
  have HE := Lib.hid (show zs.getD (d / N * N + k) 0 = zs[q + k] from by rw [← getD_of hq2]; simp only [hI, hC, hq])
  generalize zs[q + k] = z at HE hcell
  have d1 : (d : Int).tmod (N : Int) = (C : Int) := by rw [← hC]; rfl
  have d2 : IntKind.i64.wrap ((d : Int).tdiv (N : Int)) = (I : Int) := by rw [← hI]; exact IntWalk.i64_in ((d / N : Nat) : Int) (by rw [hI]; omega)
  have d3 : (d : Int) % (N : Int) = (C : Int) := by rw [← hC]; rfl
  have d4 : (d : Int) / (N : Int) = (I : Int) := by rw [← hI]; rfl
  have d5 : IntKind.i64.wrap (I : Int) = (I : Int) := IntWalk.i64_in (I : Int) (by omega)
  have d6 : IntKind.i64.wrap (C : Int) = (C : Int) := IntWalk.i64_in (C : Int) (by omega)
  have d7 : ¬ (N = 0) := by omega
  have d8 : ((N : Int) == 0) = false := by rw [beq_eq_false_iff_ne]; omega
  have d9 : ¬ ((N : Int) = 0) := by omega
  have e0 : (I : Int) * (N : Int) = (q : Int) := by rw [← hq]; push_cast; rfl
  have e1 : IntKind.i64.wrap ((I : Int) * (N : Int)) = (q : Int) := by rw [e0]; exact IntWalk.i64_in (q : Int) (by omega)
  have e3 : IntKind.i64.wrap (q : Int) = (q : Int) := IntWalk.i64_in (q : Int) (by omega)
  have e2 : IntKind.i64.wrap ((q : Int) + (k : Int)) = (q : Int) + (k : Int) := IntWalk.i64_in _ (by omega)
  have h1 : (q : Int) + (k : Int) < (zs.length : Int) := by omega
  have p1 : (0 : Int) ≤ (q : Int) + (k : Int) := by omega
  have t1 : ((q : Int) + (k : Int)).toNat = q + k := by omega
  have HS : w.drew.cell? ⟨gm, 1, none⟩ = some (.slice (some ⟨b, o, none⟩) zs.length c) ∧ w.drew.cell? ⟨gc, 0, none⟩ = some (.int .i64 (d : Int)) ∧ w.drew.cell? ⟨gn, 0, none⟩ = some (.int .i64 (N : Int)) ∧ w.drew.cell? ⟨b, o + (q + k), none⟩ = some (.int .i64 z) := ⟨(hm.drew.cell 1).trans rfl, (hc.drew.cell 0).trans rfl, (hn.drew.cell 0).trans rfl, hcell⟩
  have HB := Lib.hid (show Below w.heap.size w w.drew from (Below.refl _ _).drew)
  clear hm hc hn hr hcell hq hI hC hl hd
  go_enter Try.func80, Try.ntmps80
  go_upto_region 1 with fail
  refine wp_region_noPanic ?_
  refine Rg.beginR [1, 2, 3, 5, 10] (fun w' => w'.cell? ⟨gm, 1, none⟩ = some (.slice (some ⟨b, o, none⟩) zs.length c) ∧ w'.cell? ⟨gc, 0, none⟩ = some (.int .i64 (d : Int)) ∧ w'.cell? ⟨gn, 0, none⟩ = some (.int .i64 (N : Int)) ∧ w'.cell? ⟨b, o + (q + k), none⟩ = some (.int .i64 z)) (by kernel_rfl) ?_
  generalize w.drew = w1 at *
  refine Rg.takeP (i := 0) (oi := { dst := some 6, op := Op.fieldAddr 49 (Operand.tmp 1) 1, type := 0, pos := "number.go:267", after := #[], guard := none }) (v := ?_) rfl (by kernel_rfl) (fun _ _ _ h => h) (by rfl) ?_ ?_
  rotate_left 1
  · (intro w; go_simp; (try with_reducible rfl))
  try simp only [Act.put, List.setIfInBounds_toArray, List.set_cons_zero, List.set_cons_succ]
  refine Rg.takeS (i := 1) (oi := { dst := some 7, op := Op.load 32 (Operand.tmp 6), type := 32, pos := "number.go:267", after := #[{ on := 0, ground := Ground.data }], guard := none }) (v := ?_) rfl (by kernel_rfl) (fun _ _ _ h => h) (by rfl) HS ?_ ?_
  rotate_left 1
  · (intro w hSw; (try dsimp only at hSw); (try go_split_ands); go_simp; (try with_reducible rfl))
  try simp only [Act.put, List.setIfInBounds_toArray, List.set_cons_zero, List.set_cons_succ]
  refine Rg.takeS (i := 2) (oi := { dst := some 8, op := Op.load 3 (Operand.tmp 2), type := 3, pos := "number.go:267", after := #[], guard := none }) (v := ?_) rfl (by kernel_rfl) (fun _ _ _ h => h) (by rfl) HS ?_ ?_
  rotate_left 1
  · (intro w hSw; (try dsimp only at hSw); (try go_split_ands); go_simp; (try with_reducible rfl))
  try simp only [Act.put, List.setIfInBounds_toArray, List.set_cons_zero, List.set_cons_succ]
  refine Rg.takeS (i := 3) (oi := { dst := some 9, op := Op.load 3 (Operand.tmp 3), type := 3, pos := "number.go:267", after := #[], guard := none }) (v := ?_) rfl (by kernel_rfl) (fun _ _ _ h => h) (by rfl) HS ?_ ?_
  rotate_left 1
  · (intro w hSw; (try dsimp only at hSw); (try go_split_ands); go_simp; (try with_reducible rfl))
  try simp only [Act.put, List.setIfInBounds_toArray, List.set_cons_zero, List.set_cons_succ]
  refine Rg.takeP (i := 4) (oi := { dst := some 10, op := Op.binOp BinOp.quo 3 (Operand.tmp 8) (Operand.tmp 9) 3, type := 3, pos := "number.go:267", after := #[{ on := 2, ground := Ground.data }, { on := 3, ground := Ground.data }], guard := none }) (v := ?_) rfl (by kernel_rfl) (fun _ _ _ h => h) (by rfl) ?_ ?_
  rotate_left 1
  · (intro w; go_simp; (try simp only [d1, d2, d3, d4, d5, d6, if_neg d9, e0, e1, e2, e3, t1, if_pos (And.intro p1 h1)]); (try with_reducible rfl))
  try simp only [Act.put, List.setIfInBounds_toArray, List.set_cons_zero, List.set_cons_succ]
  refine Rg.takeS (i := 5) (oi := { dst := some 11, op := Op.load 3 (Operand.tmp 3), type := 3, pos := "number.go:267", after := #[], guard := none }) (v := ?_) rfl (by kernel_rfl) (fun _ _ _ h => h) (by rfl) HS ?_ ?_
  rotate_left 1
  · (intro w hSw; (try dsimp only at hSw); (try go_split_ands); go_simp; (try with_reducible rfl))
  try simp only [Act.put, List.setIfInBounds_toArray, List.set_cons_zero, List.set_cons_succ]
  refine Rg.takeP (i := 6) (oi := { dst := some 12, op := Op.binOp BinOp.mul 3 (Operand.tmp 10) (Operand.tmp 11) 3, type := 3, pos := "number.go:267", after := #[{ on := 4, ground := Ground.data }, { on := 5, ground := Ground.data }], guard := none }) (v := ?_) rfl (by kernel_rfl) (fun _ _ _ h => h) (by rfl) ?_ ?_
  rotate_left 1
  · (intro w; go_simp; (try simp only [d1, d2, d3, d4, d5, d6, if_neg d9, e0, e1, e2, e3, t1, if_pos (And.intro p1 h1)]); (try with_reducible rfl))
  try simp only [Act.put, List.setIfInBounds_toArray, List.set_cons_zero, List.set_cons_succ]
  refine Rg.takeP (i := 7) (oi := { dst := some 13, op := Op.move (Operand.tmp 0), type := 3, pos := "number.go:267", after := #[], guard := none }) (v := ?_) rfl (by kernel_rfl) (fun _ _ _ h => h) (by rfl) ?_ ?_
  rotate_left 1
  · (intro w; go_simp; (try with_reducible rfl))
  try simp only [Act.put, List.setIfInBounds_toArray, List.set_cons_zero, List.set_cons_succ]
  refine Rg.takeP (i := 8) (oi := { dst := some 14, op := Op.binOp BinOp.add 3 (Operand.tmp 12) (Operand.tmp 13) 3, type := 3, pos := "number.go:267", after := #[{ on := 6, ground := Ground.data }, { on := 7, ground := Ground.data }], guard := none }) (v := ?_) rfl (by kernel_rfl) (fun _ _ _ h => h) (by rfl) ?_ ?_
  rotate_left 1
  · (intro w; go_simp; (try simp only [d1, d2, d3, d4, d5, d6, if_neg d9, e0, e1, e2, e3, t1, if_pos (And.intro p1 h1)]); (try with_reducible rfl))
  try simp only [Act.put, List.setIfInBounds_toArray, List.set_cons_zero, List.set_cons_succ]
  refine Rg.takeP (i := 9) (oi := { dst := some 15, op := Op.indexAddr 32 (Operand.tmp 7) (Operand.tmp 14), type := 0, pos := "number.go:267", after := #[{ on := 1, ground := Ground.data }, { on := 8, ground := Ground.data }], guard := none }) (v := ?_) rfl (by kernel_rfl) (fun _ _ _ h => h) (by rfl) ?_ ?_
  rotate_left 1
  · (intro w; go_simp; (try simp only [d1, d2, d3, d4, d5, d6, if_neg d9, e0, e1, e2, e3, t1, if_pos (And.intro p1 h1)]); (try with_reducible rfl))
  try simp only [Act.put, List.setIfInBounds_toArray, List.set_cons_zero, List.set_cons_succ]
  refine Rg.takeS (i := 10) (oi := { dst := some 16, op := Op.load 3 (Operand.tmp 15), type := 3, pos := "number.go:267", after := #[{ on := 9, ground := Ground.data }], guard := none }) (v := ?_) rfl (by kernel_rfl) (fun _ _ _ h => h) (by rfl) HS ?_ ?_
  rotate_left 1
  · (intro w hSw; (try dsimp only at hSw); (try go_split_ands); go_simp; (try with_reducible rfl))
  try simp only [Act.put, List.setIfInBounds_toArray, List.set_cons_zero, List.set_cons_succ]
  refine Rg.takeP (i := 11) (oi := { dst := some 5, op := Op.assign (Operand.tmp 16), type := 3, pos := "number.go:267", after := #[{ on := 10, ground := Ground.data }, { on := 0, ground := Ground.phase }, { on := 1, ground := Ground.phase }, { on := 2, ground := Ground.phase }, { on := 3, ground := Ground.phase }, { on := 4, ground := Ground.phase }, { on := 5, ground := Ground.phase }, { on := 6, ground := Ground.phase }, { on := 7, ground := Ground.phase }, { on := 8, ground := Ground.phase }, { on := 9, ground := Ground.phase }, { on := 10, ground := Ground.phase }], guard := none }) (v := ?_) rfl (by kernel_rfl) (fun _ _ _ h => h) (by rfl) ?_ ?_
  rotate_left 1
  · (intro w; go_simp; (try with_reducible rfl))
  try simp only [Act.put, List.setIfInBounds_toArray, List.set_cons_zero, List.set_cons_succ]
  refine Rg.doneR (by kernel_rfl) ?_ _
  refine NoPanic.normal ?_
  clear HS
  go_wp2_with fail
  go_ret
  exact ⟨by rw [HE.out]; rfl, HB.out⟩

set_option maxRecDepth 100000 in
set_option maxHeartbeats 1000000 in
theorem mulc2_any (N d k : Nat) (A : Option Addr) (c : Nat) (zs : List Int) (gm gc gn B : Nat) (w : World) (hN : 1 ≤ N) (h6 : N ≤ 6) (hd : d < N * N) (hk : k < N) (hl : zs.length = N * N) (hm : Blk w gm 49 #[.int .i64 (N : Int), .slice A zs.length c]) (hc : Blk w gc 3 #[.int .i64 (d : Int)]) (hn : Blk w gn 3 #[.int .i64 (N : Int)]) (hr : Rd w B 1 A zs.length (intsV zs)) (hB : B ≤ w.heap.size) :
    Calls Try.prog 81 #[.int .i64 (k : Int), .pointer (some ⟨gm, 0, none⟩), .pointer (some ⟨gn, 0, none⟩), .pointer (some ⟨gc, 0, none⟩)] w fun e w' => e = .returned (.int .i64 (zs.getD (k * N + d % N) 0)) ∧ Below w.heap.size w w' := by
  have h36 := sq_36 h6
  obtain ⟨I, hI⟩ : ∃ I, d / N = I := ⟨_, rfl⟩
  obtain ⟨C, hC⟩ : ∃ C, d % N = C := ⟨_, rfl⟩
  have hIN : I < N := by rw [← hI]; exact Nat.div_lt_of_lt_mul hd
  have hCN : C < N := by rw [← hC]; exact Nat.mod_lt _ hN
  obtain ⟨q, hq⟩ : ∃ q, k * N = q := ⟨_, rfl⟩
  have hq2 : q + C < zs.length := by rw [← hq, hl]; exact sq_idx (by assumption) (by assumption)
  obtain ⟨b, o, u, rfl, hbB, hu, hcell⟩ := hr.at hq2
  rw [intsV_at zs _ hq2] at hu
  injection hu with hu
  subst hu
  have HE := Lib.hid (show zs.getD (k * N + d % N) 0 = zs[q + C] from by rw [← getD_of hq2]; simp only [hI, hC, hq])
  generalize zs[q + C] = z at HE hcell
  have d1 : (d : Int).tmod (N : Int) = (C : Int) := by rw [← hC]; rfl
  have d2 : IntKind.i64.wrap ((d : Int).tdiv (N : Int)) = (I : Int) := by rw [← hI]; exact IntWalk.i64_in ((d / N : Nat) : Int) (by rw [hI]; omega)
  have d3 : (d : Int) % (N : Int) = (C : Int) := by rw [← hC]; rfl
  have d4 : (d : Int) / (N : Int) = (I : Int) := by rw [← hI]; rfl
  have d5 : IntKind.i64.wrap (I : Int) = (I : Int) := IntWalk.i64_in (I : Int) (by omega)
  have d6 : IntKind.i64.wrap (C : Int) = (C : Int) := IntWalk.i64_in (C : Int) (by omega)
  have d7 : ¬ (N = 0) := by omega
  have d8 : ((N : Int) == 0) = false := by rw [beq_eq_false_iff_ne]; omega
  have d9 : ¬ ((N : Int) = 0) := by omega
  have e0 : (k : Int) * (N : Int) = (q : Int) := by rw [← hq]; push_cast; rfl
  have e1 : IntKind.i64.wrap ((k : Int) * (N : Int)) = (q : Int) := by rw [e0]; exact IntWalk.i64_in (q : Int) (by omega)
  have e3 : IntKind.i64.wrap (q : Int) = (q : Int) := IntWalk.i64_in (q : Int) (by omega)
  have e2 : IntKind.i64.wrap ((q : Int) + (C : Int)) = (q : Int) + (C : Int) := IntWalk.i64_in _ (by omega)
  have h1 : (q : Int) + (C : Int) < (zs.length : Int) := by omega
  have p1 : (0 : Int) ≤ (q : Int) + (C : Int) := by omega
  have t1 : ((q : Int) + (C : Int)).toNat = q + C := by omega
  have HS : w.drew.cell? ⟨gm, 1, none⟩ = some (.slice (some ⟨b, o, none⟩) zs.length c) ∧ w.drew.cell? ⟨gc, 0, none⟩ = some (.int .i64 (d : Int)) ∧ w.drew.cell? ⟨gn, 0, none⟩ = some (.int .i64 (N : Int)) ∧ w.drew.cell? ⟨b, o + (q + C), none⟩ = some (.int .i64 z) := ⟨(hm.drew.cell 1).trans rfl, (hc.drew.cell 0).trans rfl, (hn.drew.cell 0).trans rfl, hcell⟩
  have HB := Lib.hid (show Below w.heap.size w w.drew from (Below.refl _ _).drew)
  clear hm hc hn hr hcell hq hI hC hl hd
  go_enter Try.func81, Try.ntmps81
  go_upto_region 1 with fail
  refine wp_region_noPanic ?_
  refine Rg.beginR [1, 3, 5, 6, 10] (fun w' => w'.cell? ⟨gm, 1, none⟩ = some (.slice (some ⟨b, o, none⟩) zs.length c) ∧ w'.cell? ⟨gc, 0, none⟩ = some (.int .i64 (d : Int)) ∧ w'.cell? ⟨gn, 0, none⟩ = some (.int .i64 (N : Int)) ∧ w'.cell? ⟨b, o + (q + C), none⟩ = some (.int .i64 z)) (by kernel_rfl) ?_
  generalize w.drew = w1 at *
  refine Rg.takeP (i := 0) (oi := { dst := some 6, op := Op.fieldAddr 49 (Operand.tmp 1) 1, type := 0, pos := "number.go:267", after := #[], guard := none }) (v := ?_) rfl (by kernel_rfl) (fun _ _ _ h => h) (by rfl) ?_ ?_
  rotate_left 1
  · (intro w; go_simp; (try with_reducible rfl))
  try simp only [Act.put, List.setIfInBounds_toArray, List.set_cons_zero, List.set_cons_succ]
  refine Rg.takeS (i := 1) (oi := { dst := some 7, op := Op.load 32 (Operand.tmp 6), type := 32, pos := "number.go:267", after := #[{ on := 0, ground := Ground.data }], guard := none }) (v := ?_) rfl (by kernel_rfl) (fun _ _ _ h => h) (by rfl) HS ?_ ?_
  rotate_left 1
  · (intro w hSw; (try dsimp only at hSw); (try go_split_ands); go_simp; (try with_reducible rfl))
  try simp only [Act.put, List.setIfInBounds_toArray, List.set_cons_zero, List.set_cons_succ]
  refine Rg.takeP (i := 2) (oi := { dst := some 8, op := Op.move (Operand.tmp 0), type := 3, pos := "number.go:267", after := #[], guard := none }) (v := ?_) rfl (by kernel_rfl) (fun _ _ _ h => h) (by rfl) ?_ ?_
  rotate_left 1
  · (intro w; go_simp; (try with_reducible rfl))
  try simp only [Act.put, List.setIfInBounds_toArray, List.set_cons_zero, List.set_cons_succ]
  refine Rg.takeS (i := 3) (oi := { dst := some 9, op := Op.load 3 (Operand.tmp 2), type := 3, pos := "number.go:267", after := #[], guard := none }) (v := ?_) rfl (by kernel_rfl) (fun _ _ _ h => h) (by rfl) HS ?_ ?_
  rotate_left 1
  · (intro w hSw; (try dsimp only at hSw); (try go_split_ands); go_simp; (try with_reducible rfl))
  try simp only [Act.put, List.setIfInBounds_toArray, List.set_cons_zero, List.set_cons_succ]
  refine Rg.takeP (i := 4) (oi := { dst := some 10, op := Op.binOp BinOp.mul 3 (Operand.tmp 8) (Operand.tmp 9) 3, type := 3, pos := "number.go:267", after := #[{ on := 2, ground := Ground.data }, { on := 3, ground := Ground.data }], guard := none }) (v := ?_) rfl (by kernel_rfl) (fun _ _ _ h => h) (by rfl) ?_ ?_
  rotate_left 1
  · (intro w; go_simp; (try simp only [d1, d2, d3, d4, d5, d6, if_neg d9, e0, e1, e2, e3, t1, if_pos (And.intro p1 h1)]); (try with_reducible rfl))
  try simp only [Act.put, List.setIfInBounds_toArray, List.set_cons_zero, List.set_cons_succ]
  refine Rg.takeS (i := 5) (oi := { dst := some 11, op := Op.load 3 (Operand.tmp 3), type := 3, pos := "number.go:267", after := #[], guard := none }) (v := ?_) rfl (by kernel_rfl) (fun _ _ _ h => h) (by rfl) HS ?_ ?_
  rotate_left 1
  · (intro w hSw; (try dsimp only at hSw); (try go_split_ands); go_simp; (try with_reducible rfl))
  try simp only [Act.put, List.setIfInBounds_toArray, List.set_cons_zero, List.set_cons_succ]
  refine Rg.takeS (i := 6) (oi := { dst := some 12, op := Op.load 3 (Operand.tmp 2), type := 3, pos := "number.go:267", after := #[], guard := none }) (v := ?_) rfl (by kernel_rfl) (fun _ _ _ h => h) (by rfl) HS ?_ ?_
  rotate_left 1
  · (intro w hSw; (try dsimp only at hSw); (try go_split_ands); go_simp; (try with_reducible rfl))
  try simp only [Act.put, List.setIfInBounds_toArray, List.set_cons_zero, List.set_cons_succ]
  refine Rg.takeP (i := 7) (oi := { dst := some 13, op := Op.binOp BinOp.rem 3 (Operand.tmp 11) (Operand.tmp 12) 3, type := 3, pos := "number.go:267", after := #[{ on := 5, ground := Ground.data }, { on := 6, ground := Ground.data }], guard := none }) (v := ?_) rfl (by kernel_rfl) (fun _ _ _ h => h) (by rfl) ?_ ?_
  rotate_left 1
  · (intro w; go_simp; (try simp only [d1, d2, d3, d4, d5, d6, if_neg d9, e0, e1, e2, e3, t1, if_pos (And.intro p1 h1)]); (try with_reducible rfl))
  try simp only [Act.put, List.setIfInBounds_toArray, List.set_cons_zero, List.set_cons_succ]
  refine Rg.takeP (i := 8) (oi := { dst := some 14, op := Op.binOp BinOp.add 3 (Operand.tmp 10) (Operand.tmp 13) 3, type := 3, pos := "number.go:267", after := #[{ on := 4, ground := Ground.data }, { on := 7, ground := Ground.data }], guard := none }) (v := ?_) rfl (by kernel_rfl) (fun _ _ _ h => h) (by rfl) ?_ ?_
  rotate_left 1
  · (intro w; go_simp; (try simp only [d1, d2, d3, d4, d5, d6, if_neg d9, e0, e1, e2, e3, t1, if_pos (And.intro p1 h1)]); (try with_reducible rfl))
  try simp only [Act.put, List.setIfInBounds_toArray, List.set_cons_zero, List.set_cons_succ]
  refine Rg.takeP (i := 9) (oi := { dst := some 15, op := Op.indexAddr 32 (Operand.tmp 7) (Operand.tmp 14), type := 0, pos := "number.go:267", after := #[{ on := 1, ground := Ground.data }, { on := 8, ground := Ground.data }], guard := none }) (v := ?_) rfl (by kernel_rfl) (fun _ _ _ h => h) (by rfl) ?_ ?_
  rotate_left 1
  · (intro w; go_simp; (try simp only [d1, d2, d3, d4, d5, d6, if_neg d9, e0, e1, e2, e3, t1, if_pos (And.intro p1 h1)]); (try with_reducible rfl))
  try simp only [Act.put, List.setIfInBounds_toArray, List.set_cons_zero, List.set_cons_succ]
  refine Rg.takeS (i := 10) (oi := { dst := some 16, op := Op.load 3 (Operand.tmp 15), type := 3, pos := "number.go:267", after := #[{ on := 9, ground := Ground.data }], guard := none }) (v := ?_) rfl (by kernel_rfl) (fun _ _ _ h => h) (by rfl) HS ?_ ?_
  rotate_left 1
  · (intro w hSw; (try dsimp only at hSw); (try go_split_ands); go_simp; (try with_reducible rfl))
  try simp only [Act.put, List.setIfInBounds_toArray, List.set_cons_zero, List.set_cons_succ]
  refine Rg.takeP (i := 11) (oi := { dst := some 5, op := Op.assign (Operand.tmp 16), type := 3, pos := "number.go:267", after := #[{ on := 10, ground := Ground.data }, { on := 0, ground := Ground.phase }, { on := 1, ground := Ground.phase }, { on := 2, ground := Ground.phase }, { on := 3, ground := Ground.phase }, { on := 4, ground := Ground.phase }, { on := 5, ground := Ground.phase }, { on := 6, ground := Ground.phase }, { on := 7, ground := Ground.phase }, { on := 8, ground := Ground.phase }, { on := 9, ground := Ground.phase }, { on := 10, ground := Ground.phase }], guard := none }) (v := ?_) rfl (by kernel_rfl) (fun _ _ _ h => h) (by rfl) ?_ ?_
  rotate_left 1
  · (intro w; go_simp; (try with_reducible rfl))
  try simp only [Act.put, List.setIfInBounds_toArray, List.set_cons_zero, List.set_cons_succ]
  refine Rg.doneR (by kernel_rfl) ?_ _
  refine NoPanic.normal ?_
  clear HS
  go_wp2_with fail
  go_ret
  exact ⟨by rw [HE.out]; rfl, HB.out⟩

set_option maxRecDepth 100000 in
set_option maxHeartbeats 1000000 in
theorem chainM_any (N d : Nat) (A A' : Option Addr) (c c' : Nat) (zs vs : List Int) (gr gm gb gc gn B : Nat) (x : Bool) (w : World) (hN : N ≤ 6) (hN1 : 1 ≤ N) (hd : d < N * N) (hl : zs.length = N * N) (hvl : vs.length = N * N)
    (hm : Blk w gm 49 #[.int .i64 (N : Int), .slice A zs.length c]) (hi : Blk w gc 3 #[.int .i64 (d : Int)]) (hn : Blk w gn 3 #[.int .i64 (N : Int)]) (hv : Blk w gb 49 #[.int .i64 (N : Int), .slice A' vs.length c']) (hk : Bent w 70 gr x)
    (hr : Rd w B 1 A zs.length (intsV zs)) (hr' : Rd w B 1 A' vs.length (intsV vs)) (hB : B ≤ w.heap.size) (hBr : B ≤ gr) (n1 : gm ≠ gr) (n2 : gc ≠ gr) (n3 : gb ≠ gr) (n4 : gn ≠ gr) (hz : ∀ k, In64 (zs.getD k 0)) (hzv : ∀ k, In64 (vs.getD k 0)) :
    Calls Try.prog 75 #[.pointer (some ⟨gr, 0, none⟩), .int .i64 (N : Int), .func (.func 80) #[] #[.pointer (some ⟨gm, 0, none⟩), .pointer (some ⟨gc, 0, none⟩), .pointer (some ⟨gn, 0, none⟩)], .func (.func 81) #[] #[.pointer (some ⟨gb, 0, none⟩), .pointer (some ⟨gn, 0, none⟩), .pointer (some ⟨gc, 0, none⟩)]] w fun e w' =>
      Stepd w w' 70 gr x (chainF (fun k => zs.getD (d / N * N + k) 0) (fun k => vs.getD (k * N + d % N) 0) N) e := by
  have HM := Lib.hid hm
  have HI := Lib.hid hi
  have HNN := Lib.hid hn
  have HV := Lib.hid hv
  have HK := Lib.hid hk
  have HR := Lib.hid hr
  have HR' := Lib.hid hr'
  have HZ := Lib.hid hz
  have HZV := Lib.hid hzv
  have HL := Lib.hid hl
  have HVL := Lib.hid hvl
  have h36 := Lib.hid (show zs.length ≤ 36 from by rw [hl]; exact sq_36 hN)
  have HBw := Lib.hid hB
  clear hm hi hn hv hk hr hr' hz hzv hl hvl hB
  go_enter Try.func75, Try.ntmps75
  go_wp2_with fail
  go_loopw [9, 10] (fun s k wr => ∃ J : Nat, J ≤ N ∧ k = .int .i64 J ∧ s = .int .i64 (chainF (fun k => zs.getD (d / N * N + k) 0) (fun k => vs.getD (k * N + d % N) 0) J).1 ∧ Bent wr 70 gr (x || (chainF (fun k => zs.getD (d / N * N + k) 0) (fun k => vs.getD (k * N + d % N) 0) J).2) ∧ w.grownBy wr (some gr)) (fun _ k _ => N - (intOf k).toNat)
  case atStart => exact ⟨0, by omega, rfl, rfl, by have h := HK.out; simpa [chainF] using h, grown_same _ _⟩
  case round =>
    obtain ⟨J, hJ, rfl, rfl, hk, hg⟩ := hrel
    have HK := Lib.hid hk
    have HG := Lib.hid hg
    clear hk hg
    have r_s := Lib.hid (chainF_range (fun k => zs.getD (d / N * N + k) 0) (fun k => vs.getD (k * N + d % N) 0) J)
    by_cases hJt : J < N
    · have HCH := Lib.hid (show chainF (fun k => zs.getD (d / N * N + k) 0) (fun k => vs.getD (k * N + d % N) 0) (J + 1) = ((fadd (chainF (fun k => zs.getD (d / N * N + k) 0) (fun k => vs.getD (k * N + d % N) 0) J).1 (fmul (zs.getD (d / N * N + J) 0) (vs.getD (J * N + d % N) 0)).1).1, (chainF (fun k => zs.getD (d / N * N + k) 0) (fun k => vs.getD (k * N + d % N) 0) J).2 || (fmul (zs.getD (d / N * N + J) 0) (vs.getD (J * N + d % N) 0)).2 || (fadd (chainF (fun k => zs.getD (d / N * N + k) 0) (fun k => vs.getD (k * N + d % N) 0) J).1 (fmul (zs.getD (d / N * N + J) 0) (vs.getD (J * N + d % N) 0)).1).2) from rfl)
      have r_a := Lib.hid (HZ.out (d / N * N + J))
      have r_x := Lib.hid (HZV.out (J * N + d % N))
      generalize chainF (fun k => zs.getD (d / N * N + k) 0) (fun k => vs.getD (k * N + d % N) 0) J = ch at *
      obtain ⟨s, cb⟩ := ch
      simp only at HCH r_s HK ⊢
      obtain ⟨a, ha⟩ : ∃ a, zs.getD (d / N * N + J) 0 = a := ⟨_, rfl⟩
      have HAV := Lib.hid ha
      obtain ⟨y, hy⟩ : ∃ y, vs.getD (J * N + d % N) 0 = y := ⟨_, rfl⟩
      have HYV := Lib.hid hy
      rw [ha] at HCH r_a
      rw [hy] at HCH r_x
      clear ha hy
      obtain ⟨⟨p, pb⟩, hp⟩ : ∃ r, fmul a y = r := ⟨_, rfl⟩
      have r_p := Lib.hid (show In64 p from by have h := fmul_range a y; rw [hp] at h; exact h)
      have P_ := Lib.hid hp
      rw [hp] at HCH
      simp only at HCH
      obtain ⟨⟨q, qb⟩, hq⟩ : ∃ r, fadd s p = r := ⟨_, rfl⟩
      have Q_ := Lib.hid hq
      rw [hq] at HCH
      clear hp hq
      have hJt1 : (J : Int) < (N : Int) := by omega
      go_wp2_with fail
      refine (mulc1_any N d J A c zs gm gc gn B wr hN1 hN hd hJt HL.out (HM.out.grown HG.out (neq_of n1)) (HI.out.grown HG.out (neq_of n2)) (HNN.out.grown HG.out (neq_of n4)) (HR.out.grown HG.out HBw.out (fun g e => by injection e with e; omega)) (Nat.le_trans HBw.out HG.out.size)).mono ?_
      rintro e w1 ⟨rfl, hb⟩
      rw [HAV.out]
      have HK := Lib.hid (Blk.below HK.out hb (Blk.lt HK.out))
      have HG := Lib.hid (grown_below HG.out hb)
      clear hb
      go_wp2_with fail
      refine (mulc2_any N d J A' c' vs gb gc gn B w1 hN1 hN hd hJt HVL.out (HV.out.grown HG.out (neq_of n3)) (HI.out.grown HG.out (neq_of n2)) (HNN.out.grown HG.out (neq_of n4)) (HR'.out.grown HG.out HBw.out (fun g e => by injection e with e; omega)) (Nat.le_trans HBw.out HG.out.size)).mono ?_
      rintro e w1' ⟨rfl, hb⟩
      rw [HYV.out]
      have HK := Lib.hid (Blk.below HK.out hb (Blk.lt HK.out))
      have HG := Lib.hid (grown_below HG.out hb)
      clear hb
      go_wp2_with fail
      refine (rmul_any gr _ a y w1' HK.out r_a.out r_x.out).mono ?_
      intro e w2 hc
      rw [P_.out] at hc
      obtain ⟨rfl, hst, hg⟩ := hc
      dsimp only at hst
      have HK := Lib.hid hst
      have HG := Lib.hid (HG.out.trans hg)
      clear hst hg
      go_wp2_with fail
      refine (radd_any gr _ s p w2 HK.out r_s.out r_p.out).mono ?_
      intro e w3 hc
      rw [Q_.out] at hc
      obtain ⟨rfl, hst, hg⟩ := hc
      dsimp only at hst
      have HK := Lib.hid hst
      have HG := Lib.hid (HG.out.trans hg)
      clear hst hg
      go_wp2_with fail
      refine ⟨⟨J + 1, by omega, by go_num, by rw [HCH.out], ?_, HG.out⟩, by simp [intOf]; omega⟩
      rw [HCH.out]
      have h := HK.out
      simp only [Bool.or_assoc] at h ⊢
      exact h
    · obtain rfl : J = N := by omega
      clear hJt
      obtain ⟨⟨s, cb⟩, hch⟩ : ∃ ch, chainF (fun k => zs.getD (d / J * J + k) 0) (fun k => vs.getD (k * J + d % J) 0) J = ch := ⟨_, rfl⟩
      have HCH := Lib.hid hch
      rw [hch] at HK ⊢
      clear hch r_s
      simp only at HK ⊢
      go_wp2_with fail
      go_ret
      exact ⟨by rw [HCH.out]; rfl, by rw [HCH.out]; exact HK.out, HG.out⟩
end Go.Proofs.Ytajhkbdaoakogaa.BigW

namespace Go.Proofs.Ytajhkbdaoakogaa.BigW
open Go.RowKit Go.Proofs.Ytajhkbdaoakogaa.Mem Go.Proofs.Ytajhkbdaoakogaa.BigLaw Go.Proofs.Ytajhkbdaoakogaa.Rws Go.Proofs.Ytajhkbdaoakogaa.Ints Go.Proofs.Ytajhkbdaoakogaa.Mats
set_option linter.unusedVariables false
set_option linter.unusedSimpArgs false

/-- the number that a pointer's cell holds -/
def cellNat (w : World) : Value → Nat
  | .pointer (some a) => match w.cell? a with
    | some (.int _ z) => z.toNat
    | _ => 0
  | _ => 0

theorem own_row_below {w : World} {base : Nat} {e : TypeId} {size : Nat} {v : Value} {n : Nat} {xs : List Value} (h : w.ownsRow base e size v n xs) {g : Nat} (hg : g < base) (R : Array Value) : (w.setRow g R).ownsRow base e size v n xs := by
  obtain ⟨hl, h | ⟨b, cap, cur, hv, hb, hh, hr⟩⟩ := h
  · exact ⟨hl, .inl h⟩
  · exact ⟨hl, .inr ⟨b, cap, cur, hv, hb, (setRow_other w g b R (by omega)).trans hh, hr⟩⟩

set_option maxRecDepth 100000 in
set_option maxHeartbeats 1500000 in
theorem refMul_yes (N : Nat) (A A' : Option Addr) (c c' : Nat) (zs vs : List Int) (w : World) (hN : 1 ≤ N) (h6 : N ≤ 6) (hl : zs.length = N * N) (hv : vs.length = N * N) (hr : Rd w w.heap.size 1 A zs.length (intsV zs)) (hr' : Rd w w.heap.size 1 A' vs.length (intsV vs)) (hz : ∀ k, In64 (zs.getD k 0)) (hzv : ∀ k, In64 (vs.getD k 0)) :
    Calls Try.prog 40 #[matV (N : Int) A zs.length c, matV (N : Int) A' vs.length c'] w fun e w' => GaveMat w w' (N : Int) (mulF N zs vs (N * N)).1 (mulF N zs vs (N * N)).2 0 e := by
  have HR := Lib.hid hr
  have HR' := Lib.hid hr'
  have HZ := Lib.hid hz
  have HZV := Lib.hid hzv
  have HN := Lib.hid hN
  have HL := Lib.hid hl
  have HVL := Lib.hid hv
  have hgood : ∀ k : Nat, k = N * N → good (N : Int) k = true := fun k hk => by
    unfold good
    rw [decide_eq_true (show (1 : Int) ≤ N by omega), decide_eq_true (show (N : Int) ≤ 6 by omega), decide_eq_true (by rw [hk]; push_cast; rfl)]
    rfl
  have HGD := Lib.hid (hgood _ hl)
  have HGD2 := Lib.hid (hgood _ hv)
  have h36 := sq_36 h6
  clear hr hr' hz hzv hl hv hgood
  unfold matV
  have HM := Lib.hid (show Blk (((w.alloc (.cells #[.int .i64 (N : Int), .slice A zs.length c] 49)).alloc (.cells #[.int .i64 (N : Int), .slice A' vs.length c'] 49)).alloc (.cells #[.int .i64 0, .slice none 0 0] 49)) w.heap.size 49 #[.int .i64 (N : Int), .slice A zs.length c] from ((Blk.new rfl).alloc _).alloc _)
  have HM2 := Lib.hid (show Blk (((w.alloc (.cells #[.int .i64 (N : Int), .slice A zs.length c] 49)).alloc (.cells #[.int .i64 (N : Int), .slice A' vs.length c'] 49)).alloc (.cells #[.int .i64 0, .slice none 0 0] 49)) (w.heap.size + 1) 49 #[.int .i64 (N : Int), .slice A' vs.length c'] from (Blk.new (by simp)).alloc _)
  have HRS := Lib.hid (show Blk (((w.alloc (.cells #[.int .i64 (N : Int), .slice A zs.length c] 49)).alloc (.cells #[.int .i64 (N : Int), .slice A' vs.length c'] 49)).alloc (.cells #[.int .i64 0, .slice none 0 0] 49)) (w.heap.size + 1 + 1) 49 #[.int .i64 0, .slice none 0 0] from Blk.new (by simp))
  have HB := Lib.hid (show Below w.heap.size w (((w.alloc (.cells #[.int .i64 (N : Int), .slice A zs.length c] 49)).alloc (.cells #[.int .i64 (N : Int), .slice A' vs.length c'] 49)).alloc (.cells #[.int .i64 0, .slice none 0 0] 49)) from (((Below.refl _ _).alloc (Nat.le_refl _) _).alloc (by simp) _).alloc (by simp; omega) _)
  go_enter Try.func40, Try.ntmps40
  go_upto_region 1 with fail
  generalize (((w.alloc (.cells #[.int .i64 (N : Int), .slice A zs.length c] 49)).alloc (.cells #[.int .i64 (N : Int), .slice A' vs.length c'] 49)).alloc (.cells #[.int .i64 0, .slice none 0 0] 49)) = w1 at *
  obtain ⟨gs, hgs⟩ : ∃ g, w.heap.size + 1 + 1 = g := ⟨_, rfl⟩
  rw [hgs] at HRS ⊢
  obtain ⟨gb, hgb⟩ : ∃ g, w.heap.size + 1 = g := ⟨_, rfl⟩
  rw [hgb] at HM2 ⊢
  go_wp2_with (first | (refine wpList_whole rfl 49 _ rfl w.heap.size rfl HM.out _ Try.underlying49 rfl (by kernel_rfl) ?_) | (refine wpList_whole rfl 49 _ rfl gb rfl HM2.out _ Try.underlying49 rfl (by kernel_rfl) ?_))
  refine (goodref_any (N : Int) A zs.length c w1).mono ?_
  rintro e w2 ⟨rfl, hb⟩
  rw [HGD.out]
  have HM := Lib.hid (HM.out.below hb HM.out.lt)
  have HM2 := Lib.hid (HM2.out.below hb HM2.out.lt)
  have HRS := Lib.hid (HRS.out.below hb HRS.out.lt)
  have HB := Lib.hid (onward HB.out (Nat.le_refl _) hb)
  clear hb
  have j0 : w2.cell? ⟨gb, 0, none⟩ = some (.int .i64 (N : Int)) := (HM2.out.cell 0).trans rfl
  have j1 : w2.cell? ⟨gb, 1, none⟩ = some (.slice A' vs.length c') := (HM2.out.cell 1).trans rfl
  go_wp2_with (first | (refine wpList_whole rfl 49 _ rfl w.heap.size rfl HM.out _ Try.underlying49 rfl (by kernel_rfl) ?_) | (refine wpList_whole rfl 49 _ rfl gb rfl HM2.out _ Try.underlying49 rfl (by kernel_rfl) ?_))
  refine (goodref_any (N : Int) A' vs.length c' w2).mono ?_
  rintro e w3 ⟨rfl, hb⟩
  rw [HGD2.out]
  have HM := Lib.hid (HM.out.below hb HM.out.lt)
  have HM2 := Lib.hid (HM2.out.below hb HM2.out.lt)
  have HRS := Lib.hid (HRS.out.below hb HRS.out.lt)
  have HB := Lib.hid (onward HB.out (Nat.le_refl _) hb)
  clear hb j0 j1
  have k0 : w3.cell? ⟨w.heap.size, 0, none⟩ = some (.int .i64 (N : Int)) := (HM.out.cell 0).trans rfl
  have k1 : w3.cell? ⟨gb, 0, none⟩ = some (.int .i64 (N : Int)) := (HM2.out.cell 0).trans rfl
  go_upto_region 4 with fail
  clear k0 k1
  have hs3 : gs < w3.heap.size := HRS.out.lt
  have HK := Lib.hid (show Bent (w3.alloc (.cells #[.bool false] 70)) 70 w3.heap.size false from Blk.new rfl)
  have HM := Lib.hid (show Blk (w3.alloc (.cells #[.bool false] 70)) w.heap.size 49 #[.int .i64 (N : Int), .slice A zs.length c] from HM.out.alloc _)
  have HM2 := Lib.hid (show Blk (w3.alloc (.cells #[.bool false] 70)) gb 49 #[.int .i64 (N : Int), .slice A' vs.length c'] from HM2.out.alloc _)
  have HRS := Lib.hid (show Blk (w3.alloc (.cells #[.bool false] 70)) gs 49 #[.int .i64 0, .slice none 0 0] from HRS.out.alloc _)
  have HB := Lib.hid (show Below w.heap.size w (w3.alloc (.cells #[.bool false] 70)) from HB.out.alloc HB.out.size _)
  have hsz4 : (w3.alloc (.cells #[.bool false] 70)).heap.size = w3.heap.size + 1 := by simp
  generalize (w3.alloc (.cells #[.bool false] 70)) = w4 at *
  have k0 : w4.cell? ⟨w.heap.size, 0, none⟩ = some (.int .i64 (N : Int)) := (HM.out.cell 0).trans rfl
  go_wp2_with fail
  clear k0
  have HNN := Lib.hid (show Blk (((w4.alloc (.cells #[.int .i64 (N : Int)] 3)).alloc (.cells #[.int .i64 (N : Int), .slice none 0 0] 49)).alloc (.cells #[.int .i64 0] 3)) w4.heap.size 3 #[.int .i64 (N : Int)] from ((Blk.new rfl).alloc _).alloc _)
  have HT := Lib.hid (show Blk (((w4.alloc (.cells #[.int .i64 (N : Int)] 3)).alloc (.cells #[.int .i64 (N : Int), .slice none 0 0] 49)).alloc (.cells #[.int .i64 0] 3)) (w4.heap.size + 1) 49 #[.int .i64 (N : Int), .slice none 0 0] from (Blk.new (by simp)).alloc _)
  have HI := Lib.hid (show Blk (((w4.alloc (.cells #[.int .i64 (N : Int)] 3)).alloc (.cells #[.int .i64 (N : Int), .slice none 0 0] 49)).alloc (.cells #[.int .i64 0] 3)) (w4.heap.size + 1 + 1) 3 #[.int .i64 0] from Blk.new (by simp))
  have HK := Lib.hid (show Bent (((w4.alloc (.cells #[.int .i64 (N : Int)] 3)).alloc (.cells #[.int .i64 (N : Int), .slice none 0 0] 49)).alloc (.cells #[.int .i64 0] 3)) 70 w3.heap.size false from ((Blk.alloc HK.out _).alloc _).alloc _)
  have HM := Lib.hid (show Blk (((w4.alloc (.cells #[.int .i64 (N : Int)] 3)).alloc (.cells #[.int .i64 (N : Int), .slice none 0 0] 49)).alloc (.cells #[.int .i64 0] 3)) w.heap.size 49 #[.int .i64 (N : Int), .slice A zs.length c] from ((HM.out.alloc _).alloc _).alloc _)
  have HM2 := Lib.hid (show Blk (((w4.alloc (.cells #[.int .i64 (N : Int)] 3)).alloc (.cells #[.int .i64 (N : Int), .slice none 0 0] 49)).alloc (.cells #[.int .i64 0] 3)) gb 49 #[.int .i64 (N : Int), .slice A' vs.length c'] from ((HM2.out.alloc _).alloc _).alloc _)
  have HRS := Lib.hid (show Blk (((w4.alloc (.cells #[.int .i64 (N : Int)] 3)).alloc (.cells #[.int .i64 (N : Int), .slice none 0 0] 49)).alloc (.cells #[.int .i64 0] 3)) gs 49 #[.int .i64 0, .slice none 0 0] from ((HRS.out.alloc _).alloc _).alloc _)
  have HB := Lib.hid (show Below w.heap.size w (((w4.alloc (.cells #[.int .i64 (N : Int)] 3)).alloc (.cells #[.int .i64 (N : Int), .slice none 0 0] 49)).alloc (.cells #[.int .i64 0] 3)) from ((HB.out.alloc HB.out.size _).alloc (by have := HB.out.size; simp; omega) _).alloc (by have := HB.out.size; simp; omega) _)
  generalize (((w4.alloc (.cells #[.int .i64 (N : Int)] 3)).alloc (.cells #[.int .i64 (N : Int), .slice none 0 0] 49)).alloc (.cells #[.int .i64 0] 3)) = w7 at *
  obtain ⟨gk, hgk⟩ : ∃ g, w3.heap.size = g := ⟨_, rfl⟩
  rw [hgk] at HK hs3 hsz4 ⊢
  rw [hsz4] at HNN HT HI
  clear hgk hsz4
  obtain ⟨gc0, hgc⟩ : ∃ g, gk + 1 + 1 + 1 = g := ⟨_, rfl⟩
  rw [hgc] at HI ⊢
  obtain ⟨gt, hgt⟩ : ∃ g, gk + 1 + 1 = g := ⟨_, rfl⟩
  rw [hgt] at HT hgc ⊢
  obtain ⟨gn, hgn⟩ : ∃ g, gk + 1 = g := ⟨_, rfl⟩
  rw [hgn] at HNN hgt ⊢
  obtain ⟨m, hm⟩ : ∃ m, N * N = m := ⟨_, rfl⟩
  have HMM := Lib.hid hm
  have em0 : (N : Int) * (N : Int) = (m : Int) := by rw [← hm]; push_cast; rfl
  rw [hm] at h36
  have em : IntKind.i64.wrap ((N : Int) * (N : Int)) = (m : Int) := by rw [em0]; exact IntWalk.i64_in (m : Int) (by omega)
  have em2 : IntKind.i64.wrap (m : Int) = (m : Int) := IntWalk.i64_in (m : Int) (by omega)
  clear hm
  go_loopw [10] (fun pc wr => ∃ (D : Nat) (A8 : Option Addr) (c8 gc : Nat), D ≤ m ∧ pc = .pointer (some ⟨gc, 0, none⟩) ∧ wr.ownsRow (gt + 1) 3 1 (.slice A8 D c8) D (intsV (mulF N zs vs D).1) ∧ Blk wr gt 49 #[.int .i64 (N : Int), .slice A8 D c8] ∧ Blk wr gc 3 #[.int .i64 (D : Int)] ∧ gt < gc ∧ (Value.slice A8 D c8).ownBlock ≠ some gc ∧ Bent wr 70 gk (mulF N zs vs D).2 ∧ Blk wr gn 3 #[.int .i64 (N : Int)] ∧ Blk wr w.heap.size 49 #[.int .i64 (N : Int), .slice A zs.length c] ∧ Blk wr gb 49 #[.int .i64 (N : Int), .slice A' vs.length c'] ∧ Blk wr gs 49 #[.int .i64 0, .slice none 0 0] ∧ Below w.heap.size w wr) (fun pc wr => m - cellNat wr pc)
  case atStart => exact ⟨0, none, 0, gc0, by omega, rfl, World.ownsRow_nil _ _ _ _, HT.out, HI.out, by omega, by simp [Value.ownBlock], HK.out, HNN.out, HM.out, HM2.out, HRS.out, HB.out⟩
  case round =>
    clear HK HI HM HM2 HRS HNN HT HB hgc
    obtain ⟨D, A8, c8, gc, hD, rfl, ho, ht, hi, hgi, hne, hk, hn, hm, hm2, hs, hb⟩ := hrel
    have HO := Lib.hid ho
    have HT := Lib.hid ht
    have HI := Lib.hid hi
    have HNE := Lib.hid hne
    have HK := Lib.hid hk
    have HNN := Lib.hid hn
    have HM := Lib.hid hm
    have HM2 := Lib.hid hm2
    have HRS := Lib.hid hs
    have HB := Lib.hid hb
    have kI : wr.cell? ⟨gc, 0, none⟩ = some (.int .i64 (D : Int)) := (hi.cell 0).trans rfl
    have kN : wr.cell? ⟨gn, 0, none⟩ = some (.int .i64 (N : Int)) := (hn.cell 0).trans rfl
    have HMS := Lib.hid (show cellNat wr (.pointer (some ⟨gc, 0, none⟩)) = D from by simp [cellNat, kI])
    clear ho ht hi hne hk hn hm hm2 hs hb
    have HTL := Lib.hid (mulF_length N zs vs D)
    by_cases hlt : D < m
    · have HTS := Lib.hid (show mulF N zs vs (D + 1) = ((mulF N zs vs D).1 ++ [(chainF (fun k => zs.getD (D / N * N + k) 0) (fun k => vs.getD (k * N + D % N) 0) N).1], (mulF N zs vs D).2 || (chainF (fun k => zs.getD (D / N * N + k) 0) (fun k => vs.getD (k * N + D % N) 0) N).2) from rfl)
      generalize mulF N zs vs D = tt at *
      obtain ⟨tl, tb⟩ := tt
      simp only at HO HK HTS HTL
      have hlt1 : (D : Int) < (m : Int) := by omega
      have hDN : D < N * N := by rw [HMM.out]; exact hlt
      go_upto_region 9 with fail
      clear kI kN
      obtain ⟨⟨s, cb⟩, hch⟩ : ∃ ch, chainF (fun k => zs.getD (D / N * N + k) 0) (fun k => vs.getD (k * N + D % N) 0) N = ch := ⟨_, rfl⟩
      have HCH := Lib.hid hch
      rw [hch] at HTS
      simp only at HTS
      clear hch
      have hmf : ∀ (fn : Fn) (first cap : Array Value) (w : World), (Instr.makeFunc fn first cap).run Try.prog w = .ok (.func fn first cap) w := fun _ _ _ _ => rfl
      have HK := Lib.hid (Blk.drew HK.out)
      have HT := Lib.hid HT.out.drew
      have HI := Lib.hid HI.out.drew
      have HNN := Lib.hid HNN.out.drew
      have HM := Lib.hid HM.out.drew
      have HM2 := Lib.hid HM2.out.drew
      have HRS := Lib.hid HRS.out.drew
      have HO := Lib.hid HO.out.drew
      have HB := Lib.hid HB.out.drew
      have HS := And.intro ((HT.out.cell 1).trans rfl) ((HNN.out.cell 0).trans rfl)
      refine wp_region_noPanic ?_
      refine Rg.beginR [1, 3] (fun w' => w'.cell? ⟨gt, 1, none⟩ = some (.slice A8 D c8) ∧ w'.cell? ⟨gn, 0, none⟩ = some (.int .i64 (N : Int))) (by kernel_rfl) ?_
      generalize wr.drew = w1 at *
      refine Rg.takeP (i := 0) (oi := { dst := some 40, op := Op.fieldAddr 49 (Operand.tmp 9) 1, type := 0, pos := "number.go:267", after := #[], guard := none }) (v := ?_) rfl (by kernel_rfl) (fun _ _ _ h => h) (by rfl) ?_ ?_
      rotate_left 1
      · (intro w; go_simp; (try with_reducible rfl))
      try simp only [Act.put, List.setIfInBounds_toArray, List.set_cons_zero, List.set_cons_succ]
      refine Rg.takeS (i := 1) (oi := { dst := some 41, op := Op.load 32 (Operand.tmp 40), type := 32, pos := "number.go:267", after := #[{ on := 0, ground := Ground.data }], guard := none }) (v := ?_) rfl (by kernel_rfl) (fun _ _ _ h => h) (by rfl) HS ?_ ?_
      rotate_left 1
      · (intro w hSw; (try dsimp only at hSw); (try go_split_ands); go_simp; (try with_reducible rfl))
      try simp only [Act.put, List.setIfInBounds_toArray, List.set_cons_zero, List.set_cons_succ]
      refine Rg.takeP (i := 2) (oi := { dst := some 42, op := Op.move (Operand.tmp 7), type := 68, pos := "number.go:267", after := #[], guard := none }) (v := ?_) rfl (by kernel_rfl) (fun _ _ _ h => h) (by rfl) ?_ ?_
      rotate_left 1
      · (intro w; go_simp; (try with_reducible rfl))
      try simp only [Act.put, List.setIfInBounds_toArray, List.set_cons_zero, List.set_cons_succ]
      refine Rg.takeS (i := 3) (oi := { dst := some 43, op := Op.load 3 (Operand.tmp 8), type := 3, pos := "number.go:267", after := #[], guard := none }) (v := ?_) rfl (by kernel_rfl) (fun _ _ _ h => h) (by rfl) HS ?_ ?_
      rotate_left 1
      · (intro w hSw; (try dsimp only at hSw); (try go_split_ands); go_simp; (try with_reducible rfl))
      try simp only [Act.put, List.setIfInBounds_toArray, List.set_cons_zero, List.set_cons_succ]
      refine Rg.takeP (i := 4) (oi := { dst := some 44, op := Op.makeFunc (Fn.func 80) #[] #[Operand.tmp 2, Operand.tmp 10, Operand.tmp 8], type := 100, pos := "number.go:267", after := #[], guard := none }) (v := ?_) rfl (by kernel_rfl) (fun _ _ _ h => h) (by rfl) ?_ ?_
      rotate_left 1
      · (intro w; go_simp; (try with_reducible rfl))
      try simp only [Act.put, List.setIfInBounds_toArray, List.set_cons_zero, List.set_cons_succ]
      refine Rg.takeP (i := 5) (oi := { dst := some 45, op := Op.makeFunc (Fn.func 81) #[] #[Operand.tmp 3, Operand.tmp 8, Operand.tmp 10], type := 100, pos := "number.go:267", after := #[], guard := none }) (v := ?_) rfl (by kernel_rfl) (fun _ _ _ h => h) (by rfl) ?_ ?_
      rotate_left 1
      · (intro w; go_simp; (try with_reducible rfl))
      try simp only [Act.put, List.setIfInBounds_toArray, List.set_cons_zero, List.set_cons_succ]
      refine Rg.oneR (i := 6) (oi := { dst := some 46, op := Op.call { callee := Callee.value (Operand.func 75), args := #[Operand.tmp 42, Operand.tmp 43, Operand.tmp 44, Operand.tmp 45], argTypes := #[68, 3, 100, 100] }, type := 3, pos := "number.go:267", after := #[{ on := 2, ground := Ground.data }, { on := 3, ground := Ground.data }, { on := 4, ground := Ground.data }, { on := 5, ground := Ground.data }], guard := none }) rfl (by kernel_rfl) ?_
      refine Rg.stepS ?_
      intro K hK
      rw [if_pos (by rfl)]
      go_simp
      go_at_call 75
      refine (chainM_any N D A A' c c' zs vs gk w.heap.size gb gc gn w.heap.size tb w1 h6 HN.out hDN HL.out HVL.out HM.out HI.out HNN.out HM2.out HK.out (HR.out.below HB.out) (HR'.out.below HB.out) HB.out.size (by omega) (by omega) (by omega) (by omega) (by omega) HZ.out HZV.out).mono ?_
      rw [HCH.out]
      rintro e w2 ⟨rfl, hst, hg⟩
      dsimp only at hst ⊢
      have HK := Lib.hid hst
      have HT := Lib.hid (HT.out.grown hg (neq_of (by omega)))
      have HI := Lib.hid (HI.out.grown hg (neq_of (by omega)))
      have HNN := Lib.hid (HNN.out.grown hg (neq_of (by omega)))
      have HM := Lib.hid (HM.out.grown hg (neq_of (by omega)))
      have HM2 := Lib.hid (HM2.out.grown hg (neq_of (by omega)))
      have HRS := Lib.hid (HRS.out.grown hg (neq_of (by omega)))
      have HO := Lib.hid (own_keep HO.out hg (by omega))
      have HB := Lib.hid (below_grown HB.out (Nat.le_refl _) hg (fun g e => by injection e with e; omega))
      clear hst hg HS
      have HS := And.intro ((HT.out.cell 1).trans rfl) ((HNN.out.cell 0).trans rfl)
      go_wp2_with fail
      refine hK.out _ _ HS ?_
      clear hK K
      try simp only [Act.put, List.setIfInBounds_toArray, List.set_cons_zero, List.set_cons_succ]
      refine Rg.oneR (i := 7) (oi := { dst := some 47, op := Op.buildSlice 32 1 #[(0, Operand.tmp 46)], type := 32, pos := "number.go:267", after := #[{ on := 6, ground := Ground.data }], guard := none }) rfl (by kernel_rfl) ?_
      refine Rg.stepS ?_
      intro K hK
      go_simp
      have hgs2 : gt < w2.heap.size := HT.out.lt
      have HSG := Lib.hid (rd_single w2 (.int .i64 s) 3)
      have HK := Lib.hid (Blk.alloc HK.out (.cells #[.int .i64 s] 3))
      have HT := Lib.hid (HT.out.alloc (.cells #[.int .i64 s] 3))
      have HI := Lib.hid (HI.out.alloc (.cells #[.int .i64 s] 3))
      have HNN := Lib.hid (HNN.out.alloc (.cells #[.int .i64 s] 3))
      have HM := Lib.hid (HM.out.alloc (.cells #[.int .i64 s] 3))
      have HM2 := Lib.hid (HM2.out.alloc (.cells #[.int .i64 s] 3))
      have HRS := Lib.hid (HRS.out.alloc (.cells #[.int .i64 s] 3))
      have HO := Lib.hid (HO.out.alloc (.cells #[.int .i64 s] 3))
      have HB := Lib.hid (HB.out.alloc HB.out.size (.cells #[.int .i64 s] 3))
      have hgs3 : gt < (w2.alloc (.cells #[.int .i64 s] 3)).heap.size := by simp; omega
      generalize (w2.alloc (.cells #[.int .i64 s] 3)) = w3' at *
      clear HS
      have HS := And.intro ((HT.out.cell 1).trans rfl) ((HNN.out.cell 0).trans rfl)
      refine hK.out _ _ HS ?_
      clear hK K
      try simp only [Act.put, List.setIfInBounds_toArray, List.set_cons_zero, List.set_cons_succ]
      refine Rg.oneR (i := 8) (oi := { dst := some 48, op := Op.call { callee := Callee.builtin Builtin.append, args := #[Operand.tmp 41, Operand.tmp 47], argTypes := #[32, 32] }, type := 32, pos := "number.go:267", after := #[{ on := 1, ground := Ground.data }, { on := 7, ground := Ground.data }, { on := 6, ground := Ground.chain }], guard := none }) rfl (by kernel_rfl) ?_
      refine Rg.stepF ?_ ?_
      · kernel_rfl
      intro K hK
      rw [if_pos (by rfl)]
      refine wp_append_rd _ (.tmp 41) (.tmp 47) 32 rfl Go.Proofs.Ytajhkbdaoakogaa.Ints.elemInts rfl HO.out rfl (by simp) HSG.out (by simp [Value.oneCell']) (by unfold maxLen; omega) (by omega) (by omega) ?_
      intro A2 c2 w4' hA2 hown2 hg2
      have HK := Lib.hid (Blk.grown HK.out hg2 (own_apart HO.out (by omega)))
      have HT := Lib.hid (HT.out.grown hg2 (own_apart HO.out (by omega)))
      have HNN := Lib.hid (HNN.out.grown hg2 (own_apart HO.out (by omega)))
      have HM := Lib.hid (HM.out.grown hg2 (own_apart HO.out (by omega)))
      have HM2 := Lib.hid (HM2.out.grown hg2 (own_apart HO.out (by omega)))
      have HRS := Lib.hid (HRS.out.grown hg2 (own_apart HO.out (by omega)))
      have HI := Lib.hid (HI.out.grown hg2 (fun e => HNE.out e.symm))
      have HB := Lib.hid (below_grown HB.out (Nat.le_refl _) hg2 (fun g e => by have := (HO.out.lt g e).1; have := HRS.out.lt; omega))
      have HO := Lib.hid hown2
      clear hA2 hown2 hg2 HS
      have kt : w4'.cell? ⟨gt, 1, none⟩ = some (.slice A8 D c8) := (HT.out.cell 1).trans rfl
      have ft := HT.out.thaw 1
      refine hK.out _ _ ?_
      clear hK K
      try simp only [Act.put, List.setIfInBounds_toArray, List.set_cons_zero, List.set_cons_succ]
      refine Rg.takeP (i := 9) (oi := { dst := some 49, op := Op.fieldAddr 49 (Operand.tmp 9) 1, type := 0, pos := "number.go:267", after := #[{ on := 0, ground := Ground.phase }, { on := 1, ground := Ground.phase }, { on := 2, ground := Ground.phase }, { on := 3, ground := Ground.phase }, { on := 4, ground := Ground.phase }, { on := 5, ground := Ground.phase }, { on := 6, ground := Ground.phase }, { on := 7, ground := Ground.phase }, { on := 8, ground := Ground.phase }], guard := none }) (v := ?_) rfl (by kernel_rfl) (fun _ _ _ h => h) (by rfl) ?_ ?_
      rotate_left 1
      · (intro w; go_simp; (try with_reducible rfl))
      try simp only [Act.put, List.setIfInBounds_toArray, List.set_cons_zero, List.set_cons_succ]
      refine Rg.oneR (i := 10) (oi := { dst := none, op := Op.store 32 (Operand.tmp 49) (Operand.tmp 48), type := 0, pos := "number.go:267", after := #[{ on := 9, ground := Ground.data }, { on := 8, ground := Ground.data }, { on := 8, ground := Ground.chain }, { on := 0, ground := Ground.phase }, { on := 1, ground := Ground.phase }, { on := 2, ground := Ground.phase }, { on := 3, ground := Ground.phase }, { on := 4, ground := Ground.phase }, { on := 5, ground := Ground.phase }, { on := 6, ground := Ground.phase }, { on := 7, ground := Ground.phase }, { on := 8, ground := Ground.phase }], guard := none }) rfl (by kernel_rfl) ?_
      refine Rg.stepF ?_ ?_
      · kernel_rfl
      intro K hK
      go_simp
      refine hK.out _ _ ?_
      clear hK K
      try simp only [Act.put, List.setIfInBounds_toArray, List.set_cons_zero, List.set_cons_succ]
      refine Rg.doneR (by kernel_rfl) ?_ _
      refine NoPanic.normal ?_
      clear kt ft
      have HT := Lib.hid (show Blk (w4'.setCell ⟨gt, 1, none⟩ (.slice A2 (D + 1) c2)) gt 49 #[.int .i64 (N : Int), (.slice A2 (D + 1) c2)] from HT.out.set 1 (.slice A2 (D + 1) c2))
      have HK := Lib.hid (Blk.other HK.out (p := ⟨gt, 1, none⟩) (by show _ ≠ gt; omega) (.slice A2 (D + 1) c2))
      have HI := Lib.hid (HI.out.other (p := ⟨gt, 1, none⟩) (by show _ ≠ gt; omega) (.slice A2 (D + 1) c2))
      have HNN := Lib.hid (HNN.out.other (p := ⟨gt, 1, none⟩) (by show _ ≠ gt; omega) (.slice A2 (D + 1) c2))
      have HM := Lib.hid (HM.out.other (p := ⟨gt, 1, none⟩) (by show _ ≠ gt; omega) (.slice A2 (D + 1) c2))
      have HM2 := Lib.hid (HM2.out.other (p := ⟨gt, 1, none⟩) (by show _ ≠ gt; omega) (.slice A2 (D + 1) c2))
      have HRS := Lib.hid (HRS.out.other (p := ⟨gt, 1, none⟩) (by show _ ≠ gt; omega) (.slice A2 (D + 1) c2))
      have HO := Lib.hid (ownsRow_setCell_below HO.out (a := ⟨gt, 1, none⟩) (by show gt < gt + 1; omega) (.slice A2 (D + 1) c2))
      have HB := Lib.hid (HB.out.setCell (p := ⟨gt, 1, none⟩) (by show _ ≤ gt; omega) (.slice A2 (D + 1) c2))
      generalize (w4'.setCell ⟨gt, 1, none⟩ (.slice A2 (D + 1) c2)) = w5 at *
      rw [intsV_snoc] at HO
      have kI : w5.cell? ⟨gc, 0, none⟩ = some (.int .i64 (D : Int)) := (HI.out.cell 0).trans rfl
      go_wp2_with fail
      have hlt5 : ∀ g, (Value.slice A2 (D + 1) c2).ownBlock = some g → g < w5.heap.size := fun g e => (HO.out.lt g e).2
      have hgt5 : gt < w5.heap.size := HT.out.lt
      refine ⟨⟨D + 1, A2, c2, w5.heap.size, by omega, rfl, ?_, HT.out.alloc _, ?_, hgt5, fun e => by have := hlt5 _ e; omega, ?_, HNN.out.alloc _, HM.out.alloc _, HM2.out.alloc _, HRS.out.alloc _, HB.out.alloc HB.out.size _⟩, ?_⟩
      · rw [HTS.out]; exact HO.out.alloc _
      · rw [show ((D + 1 : Nat) : Int) = (D : Int) + 1 by omega]; exact Blk.fresh w5 3 #[.int .i64 ((D : Int) + 1)]
      · rw [HTS.out]; exact Blk.alloc HK.out _
      · have kc : (w5.alloc (.cells #[.int .i64 ((D : Int) + 1)] 3)).cell? ⟨w5.heap.size, 0, none⟩ = some (.int .i64 ((D : Int) + 1)) := ((Blk.fresh w5 3 #[.int .i64 ((D : Int) + 1)]).cell 0).trans rfl
        show m - cellNat _ (.pointer (some ⟨w5.heap.size, 0, none⟩)) < m - cellNat wr (.pointer (some ⟨gc, 0, none⟩))
        rw [HMS.out]
        simp only [cellNat, kc]
        omega
    · obtain rfl : D = m := by omega
      clear hlt
      obtain ⟨⟨tl, tb⟩, htt⟩ : ∃ tt, mulF N zs vs D = tt := ⟨_, rfl⟩
      have HTT := Lib.hid htt
      rw [htt] at HO HK HTL
      clear htt
      simp only at HO HK HTL
      go_upto_region 12 with fail
      clear kI kN
      have HK := Lib.hid (Blk.drew HK.out)
      have HT := Lib.hid HT.out.drew
      have HRS := Lib.hid HRS.out.drew
      have HO := Lib.hid HO.out.drew
      have HB := Lib.hid HB.out.drew
      have HS := And.intro HT.out ((Blk.cell HK.out 0).trans rfl)
      refine wp_region_noPanic ?_
      refine Rg.beginR [0, 4] (fun w' => Blk w' gt 49 #[.int .i64 (N : Int), .slice A8 D c8] ∧ w'.cell? ⟨gk, 0, none⟩ = some (.bool tb)) (by kernel_rfl) ?_
      have hsz0 : wr.heap.size ≤ wr.drew.heap.size := Nat.le_refl _
      generalize wr.drew = w1 at *
      refine Rg.takeS (i := 0) (oi := { dst := some 51, op := Op.load 49 (Operand.tmp 9), type := 49, pos := "number.go:269", after := #[], guard := none }) (v := .agg #[.int .i64 (N : Int), .slice A8 D c8]) rfl (by kernel_rfl) (fun _ _ _ h => h) (by rfl) HS ?_ ?_
      · (intro w' hSw; exact exec_load_st 49 (.tmp 9) rfl gt rfl hSw.1 Try.underlying49 rfl (by kernel_rfl))
      try simp only [Act.put, List.setIfInBounds_toArray, List.set_cons_zero, List.set_cons_succ]
      refine Rg.takeP (i := 1) (oi := { dst := some 52, op := Op.move (Operand.tmp 7), type := 68, pos := "number.go:269", after := #[{ on := 5, ground := Ground.gcOnly Departure.lateStores }], guard := none }) (v := ?_) rfl (by kernel_rfl) (fun _ _ _ h => h) (by rfl) ?_ ?_
      rotate_left 1
      · (intro w; go_simp; (try with_reducible rfl))
      try simp only [Act.put, List.setIfInBounds_toArray, List.set_cons_zero, List.set_cons_succ]
      refine Rg.takeP (i := 2) (oi := { dst := some 53, op := Op.nilCheck (Operand.tmp 52), type := 0, pos := "number.go:269", after := #[{ on := 1, ground := Ground.data }, { on := 5, ground := Ground.gcOnly Departure.lateStores }], guard := none }) (v := ?_) rfl (by kernel_rfl) (fun _ _ _ h => h) (by rfl) ?_ ?_
      rotate_left 1
      · (intro w; go_simp; (try with_reducible rfl))
      try simp only [Act.put, List.setIfInBounds_toArray, List.set_cons_zero, List.set_cons_succ]
      refine Rg.takeP (i := 3) (oi := { dst := some 54, op := Op.fieldAddr 70 (Operand.tmp 53) 0, type := 0, pos := "number.go:269", after := #[{ on := 2, ground := Ground.data }, { on := 5, ground := Ground.gcOnly Departure.lateStores }], guard := none }) (v := ?_) rfl (by kernel_rfl) (fun _ _ _ h => h) (by rfl) ?_ ?_
      rotate_left 1
      · (intro w; go_simp; (try with_reducible rfl))
      try simp only [Act.put, List.setIfInBounds_toArray, List.set_cons_zero, List.set_cons_succ]
      refine Rg.takeS (i := 4) (oi := { dst := some 55, op := Op.load 4 (Operand.tmp 54), type := 4, pos := "number.go:269", after := #[{ on := 3, ground := Ground.data }, { on := 5, ground := Ground.gcOnly Departure.lateStores }], guard := none }) (v := ?_) rfl (by kernel_rfl) (fun _ _ _ h => h) (by rfl) HS ?_ ?_
      rotate_left 1
      · (intro w hSw; (try dsimp only at hSw); (try go_split_ands); go_simp; (try with_reducible rfl))
      try simp only [Act.put, List.setIfInBounds_toArray, List.set_cons_zero, List.set_cons_succ]
      refine Rg.oneR (i := 5) (oi := { dst := none, op := Op.store 49 (Operand.tmp 4) (Operand.tmp 51), type := 0, pos := "number.go:269", after := #[{ on := 0, ground := Ground.data }, { on := 0, ground := Ground.phase }, { on := 1, ground := Ground.textOnly Departure.lateStores }, { on := 2, ground := Ground.textOnly Departure.lateStores }, { on := 3, ground := Ground.textOnly Departure.lateStores }, { on := 4, ground := Ground.textOnly Departure.lateStores }], guard := none }) rfl (by kernel_rfl) ?_
      refine Rg.stepS ?_
      intro K hK
      rw [if_pos (by rfl)]
      refine wp_store_row 49 _ _ rfl gs #[.int .i64 (N : Int), .slice A8 D c8] rfl rfl 49 _ HRS.out (by kernel_rfl) rfl (by simp [Value.oneCell']) ?_
      have HRS := Lib.hid (HRS.out.setRow #[.int .i64 (N : Int), .slice A8 D c8])
      have HT := Lib.hid (HT.out.setRow_other (g' := gs) (by omega) #[.int .i64 (N : Int), .slice A8 D c8])
      have HK := Lib.hid (Blk.setRow_other HK.out (g' := gs) (by omega) #[.int .i64 (N : Int), .slice A8 D c8])
      have HO := Lib.hid (own_row_below HO.out (g := gs) (by omega) #[.int .i64 (N : Int), .slice A8 D c8])
      have HB := Lib.hid (below_setRow HB.out (show w.heap.size ≤ gs by omega) #[.int .i64 (N : Int), .slice A8 D c8])
      generalize (w1.setRow gs #[.int .i64 (N : Int), .slice A8 D c8]) = w1' at *
      clear HS
      have HS := And.intro HT.out ((Blk.cell HK.out 0).trans rfl)
      refine hK.out _ _ HS ?_
      clear hK K
      try simp only [Act.put, List.setIfInBounds_toArray, List.set_cons_zero, List.set_cons_succ]
      refine Rg.takeP (i := 6) (oi := { dst := some 5, op := Op.assign (Operand.tmp 55), type := 4, pos := "number.go:269", after := #[{ on := 4, ground := Ground.data }, { on := 5, ground := Ground.chain }, { on := 0, ground := Ground.phase }, { on := 1, ground := Ground.phase }, { on := 2, ground := Ground.phase }, { on := 3, ground := Ground.phase }, { on := 4, ground := Ground.phase }, { on := 5, ground := Ground.phase }], guard := none }) (v := ?_) rfl (by kernel_rfl) (fun _ _ _ h => h) (by rfl) ?_ ?_
      rotate_left 1
      · (intro w; go_simp; (try with_reducible rfl))
      try simp only [Act.put, List.setIfInBounds_toArray, List.set_cons_zero, List.set_cons_succ]
      refine Rg.takeP (i := 7) (oi := { dst := some 6, op := Op.assign (Operand.const (Value.int IntKind.i64 0)), type := 50, pos := "number.go:269", after := #[{ on := 6, ground := Ground.chain }, { on := 0, ground := Ground.phase }, { on := 1, ground := Ground.phase }, { on := 2, ground := Ground.phase }, { on := 3, ground := Ground.phase }, { on := 4, ground := Ground.phase }, { on := 5, ground := Ground.phase }, { on := 6, ground := Ground.phase }], guard := none }) (v := ?_) rfl (by kernel_rfl) (fun _ _ _ h => h) (by rfl) ?_ ?_
      rotate_left 1
      · (intro w; go_simp; (try with_reducible rfl))
      try simp only [Act.put, List.setIfInBounds_toArray, List.set_cons_zero, List.set_cons_succ]
      refine Rg.doneR (by kernel_rfl) ?_ _
      refine NoPanic.normal ?_
      clear HS
      go_wp2_with fail
      refine ret_row3 (x := .bool tb) (y := .int .i64 0) rfl rfl rfl rfl HRS.out ⟨by rw [Try.underlying49], by kernel_rfl⟩ rfl ?_
      refine ⟨A8, c8, ?_, ?_, fun a e => by (have := own_lo HO.out a e; omega), HB.out⟩
      · rw [HMM.out, HTT.out]
        show _ = Ending.returned (.tuple #[.agg #[.int .i64 (N : Int), .slice A8 tl.length c8], .bool tb, .int .i64 0])
        rw [show tl.length = D from HTL.out]
      · rw [HMM.out, HTT.out]
        show Rd _ _ 1 _ tl.length (intsV tl)
        rw [show tl.length = D from HTL.out]
        exact Rd.of_own HO.out
end Go.Proofs.Ytajhkbdaoakogaa.BigW

namespace Go.Proofs.Ytajhkbdaoakogaa.BigW
open Go.RowKit Go.Proofs.Ytajhkbdaoakogaa.Mem Go.Proofs.Ytajhkbdaoakogaa.BigLaw Go.Proofs.Ytajhkbdaoakogaa.Rws Go.Proofs.Ytajhkbdaoakogaa.Ints Go.Proofs.Ytajhkbdaoakogaa.Mats
set_option linter.unusedVariables false
set_option linter.unusedSimpArgs false

/-- P3.3, with the error -/
def mulR (Na Nb : Int) (zs vs : List Int) : (Int × List Int × Bool) × Int := if good Na zs.length = true ∧ good Nb vs.length = true ∧ Na = Nb then ((Na, (mulF Na.toNat zs vs (Na.toNat * Na.toNat)).1, (mulF Na.toNat zs vs (Na.toNat * Na.toNat)).2), 0) else ((0, [], false), 8)

set_option maxRecDepth 100000 in
set_option maxHeartbeats 1000000 in
theorem mul_no (Na Nb : Int) (A A' : Option Addr) (n c m c' : Nat) (w : World) (h : ¬ (good Na n = true ∧ good Nb m = true ∧ Na = Nb)) :
    Calls Try.prog 39 #[matV Na A n c, matV Nb A' m c'] w fun e w' => e = .returned (.tuple #[.agg #[.int .i64 0, .slice none 0 0], .bool false, .int .i64 8]) ∧ Below w.heap.size w w' := by
  unfold matV
  have HM := Lib.hid (show Blk (((w.alloc (.cells #[.int .i64 Na, .slice A n c] 49)).alloc (.cells #[.int .i64 Nb, .slice A' m c'] 49)).alloc (.cells #[.int .i64 0, .slice none 0 0] 49)) w.heap.size 49 #[.int .i64 Na, .slice A n c] from ((Blk.new rfl).alloc _).alloc _)
  have HM2 := Lib.hid (show Blk (((w.alloc (.cells #[.int .i64 Na, .slice A n c] 49)).alloc (.cells #[.int .i64 Nb, .slice A' m c'] 49)).alloc (.cells #[.int .i64 0, .slice none 0 0] 49)) (w.heap.size + 1) 49 #[.int .i64 Nb, .slice A' m c'] from (Blk.new (by simp)).alloc _)
  have HRS := Lib.hid (show Blk (((w.alloc (.cells #[.int .i64 Na, .slice A n c] 49)).alloc (.cells #[.int .i64 Nb, .slice A' m c'] 49)).alloc (.cells #[.int .i64 0, .slice none 0 0] 49)) (w.heap.size + 1 + 1) 49 #[.int .i64 0, .slice none 0 0] from Blk.new (by simp))
  have HB := Lib.hid (show Below w.heap.size w (((w.alloc (.cells #[.int .i64 Na, .slice A n c] 49)).alloc (.cells #[.int .i64 Nb, .slice A' m c'] 49)).alloc (.cells #[.int .i64 0, .slice none 0 0] 49)) from (((Below.refl _ _).alloc (Nat.le_refl _) _).alloc (by simp) _).alloc (by simp; omega) _)
  have HH := Lib.hid h
  clear h
  go_enter Try.func39, Try.ntmps39
  go_upto_region 1 with fail
  generalize (((w.alloc (.cells #[.int .i64 Na, .slice A n c] 49)).alloc (.cells #[.int .i64 Nb, .slice A' m c'] 49)).alloc (.cells #[.int .i64 0, .slice none 0 0] 49)) = w1 at *
  go_wp2_with (first | (refine wpList_whole rfl 49 _ rfl w.heap.size rfl HM.out _ Try.underlying49 rfl (by kernel_rfl) ?_) | (refine wpList_whole rfl 49 _ rfl (w.heap.size + 1) rfl HM2.out _ Try.underlying49 rfl (by kernel_rfl) ?_))
  refine (good_any Na A n c w1).mono ?_
  by_cases g1 : good Na n = true
  · rw [g1]
    rintro e w2 ⟨rfl, hb⟩
    have HM := Lib.hid (HM.out.below hb HM.out.lt)
    have HM2 := Lib.hid (HM2.out.below hb HM2.out.lt)
    have HRS := Lib.hid (HRS.out.below hb HRS.out.lt)
    have HB := Lib.hid (onward HB.out (Nat.le_refl _) hb)
    clear hb
    have j0 : w2.cell? ⟨w.heap.size + 1, 0, none⟩ = some (.int .i64 Nb) := (HM2.out.cell 0).trans rfl
    have j1 : w2.cell? ⟨w.heap.size + 1, 1, none⟩ = some (.slice A' m c') := (HM2.out.cell 1).trans rfl
    have G1 := Lib.hid g1
    clear g1
    go_wp2_with (first | (refine wpList_whole rfl 49 _ rfl w.heap.size rfl HM.out _ Try.underlying49 rfl (by kernel_rfl) ?_) | (refine wpList_whole rfl 49 _ rfl (w.heap.size + 1) rfl HM2.out _ Try.underlying49 rfl (by kernel_rfl) ?_))
    refine (good_any Nb A' m c' w2).mono ?_
    clear j0 j1
    by_cases g2 : good Nb m = true
    · rw [g2]
      rintro e w3 ⟨rfl, hb⟩
      have HM := Lib.hid (HM.out.below hb HM.out.lt)
      have HM2 := Lib.hid (HM2.out.below hb HM2.out.lt)
      have HRS := Lib.hid (HRS.out.below hb HRS.out.lt)
      have HB := Lib.hid (onward HB.out (Nat.le_refl _) hb)
      clear hb
      have hne : (Na == Nb) = false := by rw [beq_eq_false_iff_ne]; exact fun e => HH.out ⟨G1.out, g2, e⟩
      have k0 : w3.cell? ⟨w.heap.size, 0, none⟩ = some (.int .i64 Na) := (HM.out.cell 0).trans rfl
      have k1 : w3.cell? ⟨w.heap.size + 1, 0, none⟩ = some (.int .i64 Nb) := (HM2.out.cell 0).trans rfl
      clear g2
      go_upto_region 2 with fail
      clear k0 k1
      go_wp2_with (refine wpList_store_row rfl 49 _ _ rfl (w.heap.size + 1 + 1) #[.int .i64 0, .slice none 0 0] rfl rfl 49 _ HRS.out (by kernel_rfl) rfl (by simp [Value.oneCell']) ?_)
      refine ret_row3 (x := .bool false) (y := .int .i64 8) rfl rfl rfl rfl (HRS.out.setRow #[.int .i64 0, .slice none 0 0]) ⟨by rw [Try.underlying49], by kernel_rfl⟩ rfl ?_
      exact ⟨rfl, below_setRow HB.out (by omega) _⟩
    · rw [show good Nb m = false from by simpa using g2]
      rintro e w3 ⟨rfl, hb⟩
      have HM := Lib.hid (HM.out.below hb HM.out.lt)
      have HM2 := Lib.hid (HM2.out.below hb HM2.out.lt)
      have HRS := Lib.hid (HRS.out.below hb HRS.out.lt)
      have HB := Lib.hid (onward HB.out (Nat.le_refl _) hb)
      clear hb
      clear g2
      go_upto_region 2 with fail
      go_wp2_with (refine wpList_store_row rfl 49 _ _ rfl (w.heap.size + 1 + 1) #[.int .i64 0, .slice none 0 0] rfl rfl 49 _ HRS.out (by kernel_rfl) rfl (by simp [Value.oneCell']) ?_)
      refine ret_row3 (x := .bool false) (y := .int .i64 8) rfl rfl rfl rfl (HRS.out.setRow #[.int .i64 0, .slice none 0 0]) ⟨by rw [Try.underlying49], by kernel_rfl⟩ rfl ?_
      exact ⟨rfl, below_setRow HB.out (by omega) _⟩
  · rw [show good Na n = false from by simpa using g1]
    rintro e w2 ⟨rfl, hb⟩
    have HM := Lib.hid (HM.out.below hb HM.out.lt)
    have HM2 := Lib.hid (HM2.out.below hb HM2.out.lt)
    have HRS := Lib.hid (HRS.out.below hb HRS.out.lt)
    have HB := Lib.hid (onward HB.out (Nat.le_refl _) hb)
    clear hb
    clear g1
    go_upto_region 2 with fail
    go_wp2_with (refine wpList_store_row rfl 49 _ _ rfl (w.heap.size + 1 + 1) #[.int .i64 0, .slice none 0 0] rfl rfl 49 _ HRS.out (by kernel_rfl) rfl (by simp [Value.oneCell']) ?_)
    refine ret_row3 (x := .bool false) (y := .int .i64 8) rfl rfl rfl rfl (HRS.out.setRow #[.int .i64 0, .slice none 0 0]) ⟨by rw [Try.underlying49], by kernel_rfl⟩ rfl ?_
    exact ⟨rfl, below_setRow HB.out (by omega) _⟩

theorem mul_all (Na Nb : Int) (A A' : Option Addr) (c c' : Nat) (zs vs : List Int) (w : World) (hr : Rd w w.heap.size 1 A zs.length (intsV zs)) (hr' : Rd w w.heap.size 1 A' vs.length (intsV vs)) (hz : ∀ k, In64 (zs.getD k 0)) (hzv : ∀ k, In64 (vs.getD k 0)) :
    Calls Try.prog 39 #[matV Na A zs.length c, matV Nb A' vs.length c'] w fun e w' => GaveMat w w' (mulR Na Nb zs vs).1.1 (mulR Na Nb zs vs).1.2.1 (mulR Na Nb zs vs).1.2.2 (mulR Na Nb zs vs).2 e := by
  by_cases h : good Na zs.length = true ∧ good Nb vs.length = true ∧ Na = Nb
  · obtain ⟨k, e1, h1, h2, h3⟩ := good_nat h.1
    obtain ⟨k', e2, _, _, h4⟩ := good_nat h.2.1
    have hk : k' = k := by have := h.2.2; omega
    subst hk
    unfold mulR
    rw [if_pos h]
    subst e1 e2
    exact mul_yes k' A A' c c' zs vs w h1 h2 h3 h4 hr hr' hz hzv
  · unfold mulR
    rw [if_neg h]
    refine (mul_no Na Nb A A' zs.length c vs.length c' w h).mono ?_
    rintro e w' ⟨rfl, hb⟩
    exact ⟨none, 0, rfl, Rd.nil _ _ _ _, (fun a e => by cases e), hb⟩

set_option maxRecDepth 100000 in
set_option maxHeartbeats 1000000 in
theorem refMul_no (Na Nb : Int) (A A' : Option Addr) (n c m c' : Nat) (w : World) (h : ¬ (good Na n = true ∧ good Nb m = true ∧ Na = Nb)) :
    Calls Try.prog 40 #[matV Na A n c, matV Nb A' m c'] w fun e w' => e = .returned (.tuple #[.agg #[.int .i64 0, .slice none 0 0], .bool false, .int .i64 8]) ∧ Below w.heap.size w w' := by
  unfold matV
  have HM := Lib.hid (show Blk (((w.alloc (.cells #[.int .i64 Na, .slice A n c] 49)).alloc (.cells #[.int .i64 Nb, .slice A' m c'] 49)).alloc (.cells #[.int .i64 0, .slice none 0 0] 49)) w.heap.size 49 #[.int .i64 Na, .slice A n c] from ((Blk.new rfl).alloc _).alloc _)
  have HM2 := Lib.hid (show Blk (((w.alloc (.cells #[.int .i64 Na, .slice A n c] 49)).alloc (.cells #[.int .i64 Nb, .slice A' m c'] 49)).alloc (.cells #[.int .i64 0, .slice none 0 0] 49)) (w.heap.size + 1) 49 #[.int .i64 Nb, .slice A' m c'] from (Blk.new (by simp)).alloc _)
  have HRS := Lib.hid (show Blk (((w.alloc (.cells #[.int .i64 Na, .slice A n c] 49)).alloc (.cells #[.int .i64 Nb, .slice A' m c'] 49)).alloc (.cells #[.int .i64 0, .slice none 0 0] 49)) (w.heap.size + 1 + 1) 49 #[.int .i64 0, .slice none 0 0] from Blk.new (by simp))
  have HB := Lib.hid (show Below w.heap.size w (((w.alloc (.cells #[.int .i64 Na, .slice A n c] 49)).alloc (.cells #[.int .i64 Nb, .slice A' m c'] 49)).alloc (.cells #[.int .i64 0, .slice none 0 0] 49)) from (((Below.refl _ _).alloc (Nat.le_refl _) _).alloc (by simp) _).alloc (by simp; omega) _)
  have HH := Lib.hid h
  clear h
  go_enter Try.func40, Try.ntmps40
  go_upto_region 1 with fail
  generalize (((w.alloc (.cells #[.int .i64 Na, .slice A n c] 49)).alloc (.cells #[.int .i64 Nb, .slice A' m c'] 49)).alloc (.cells #[.int .i64 0, .slice none 0 0] 49)) = w1 at *
  go_wp2_with (first | (refine wpList_whole rfl 49 _ rfl w.heap.size rfl HM.out _ Try.underlying49 rfl (by kernel_rfl) ?_) | (refine wpList_whole rfl 49 _ rfl (w.heap.size + 1) rfl HM2.out _ Try.underlying49 rfl (by kernel_rfl) ?_))
  refine (goodref_any Na A n c w1).mono ?_
  by_cases g1 : good Na n = true
  · rw [g1]
    rintro e w2 ⟨rfl, hb⟩
    have HM := Lib.hid (HM.out.below hb HM.out.lt)
    have HM2 := Lib.hid (HM2.out.below hb HM2.out.lt)
    have HRS := Lib.hid (HRS.out.below hb HRS.out.lt)
    have HB := Lib.hid (onward HB.out (Nat.le_refl _) hb)
    clear hb
    have j0 : w2.cell? ⟨w.heap.size + 1, 0, none⟩ = some (.int .i64 Nb) := (HM2.out.cell 0).trans rfl
    have j1 : w2.cell? ⟨w.heap.size + 1, 1, none⟩ = some (.slice A' m c') := (HM2.out.cell 1).trans rfl
    have G1 := Lib.hid g1
    clear g1
    go_wp2_with (first | (refine wpList_whole rfl 49 _ rfl w.heap.size rfl HM.out _ Try.underlying49 rfl (by kernel_rfl) ?_) | (refine wpList_whole rfl 49 _ rfl (w.heap.size + 1) rfl HM2.out _ Try.underlying49 rfl (by kernel_rfl) ?_))
    refine (goodref_any Nb A' m c' w2).mono ?_
    clear j0 j1
    by_cases g2 : good Nb m = true
    · rw [g2]
      rintro e w3 ⟨rfl, hb⟩
      have HM := Lib.hid (HM.out.below hb HM.out.lt)
      have HM2 := Lib.hid (HM2.out.below hb HM2.out.lt)
      have HRS := Lib.hid (HRS.out.below hb HRS.out.lt)
      have HB := Lib.hid (onward HB.out (Nat.le_refl _) hb)
      clear hb
      have hne : (Na == Nb) = false := by rw [beq_eq_false_iff_ne]; exact fun e => HH.out ⟨G1.out, g2, e⟩
      have k0 : w3.cell? ⟨w.heap.size, 0, none⟩ = some (.int .i64 Na) := (HM.out.cell 0).trans rfl
      have k1 : w3.cell? ⟨w.heap.size + 1, 0, none⟩ = some (.int .i64 Nb) := (HM2.out.cell 0).trans rfl
      clear g2
      go_upto_region 2 with fail
      clear k0 k1
      go_wp2_with (refine wpList_store_row rfl 49 _ _ rfl (w.heap.size + 1 + 1) #[.int .i64 0, .slice none 0 0] rfl rfl 49 _ HRS.out (by kernel_rfl) rfl (by simp [Value.oneCell']) ?_)
      refine ret_row3 (x := .bool false) (y := .int .i64 8) rfl rfl rfl rfl (HRS.out.setRow #[.int .i64 0, .slice none 0 0]) ⟨by rw [Try.underlying49], by kernel_rfl⟩ rfl ?_
      exact ⟨rfl, below_setRow HB.out (by omega) _⟩
    · rw [show good Nb m = false from by simpa using g2]
      rintro e w3 ⟨rfl, hb⟩
      have HM := Lib.hid (HM.out.below hb HM.out.lt)
      have HM2 := Lib.hid (HM2.out.below hb HM2.out.lt)
      have HRS := Lib.hid (HRS.out.below hb HRS.out.lt)
      have HB := Lib.hid (onward HB.out (Nat.le_refl _) hb)
      clear hb
      clear g2
      go_upto_region 2 with fail
      go_wp2_with (refine wpList_store_row rfl 49 _ _ rfl (w.heap.size + 1 + 1) #[.int .i64 0, .slice none 0 0] rfl rfl 49 _ HRS.out (by kernel_rfl) rfl (by simp [Value.oneCell']) ?_)
      refine ret_row3 (x := .bool false) (y := .int .i64 8) rfl rfl rfl rfl (HRS.out.setRow #[.int .i64 0, .slice none 0 0]) ⟨by rw [Try.underlying49], by kernel_rfl⟩ rfl ?_
      exact ⟨rfl, below_setRow HB.out (by omega) _⟩
  · rw [show good Na n = false from by simpa using g1]
    rintro e w2 ⟨rfl, hb⟩
    have HM := Lib.hid (HM.out.below hb HM.out.lt)
    have HM2 := Lib.hid (HM2.out.below hb HM2.out.lt)
    have HRS := Lib.hid (HRS.out.below hb HRS.out.lt)
    have HB := Lib.hid (onward HB.out (Nat.le_refl _) hb)
    clear hb
    clear g1
    go_upto_region 2 with fail
    go_wp2_with (refine wpList_store_row rfl 49 _ _ rfl (w.heap.size + 1 + 1) #[.int .i64 0, .slice none 0 0] rfl rfl 49 _ HRS.out (by kernel_rfl) rfl (by simp [Value.oneCell']) ?_)
    refine ret_row3 (x := .bool false) (y := .int .i64 8) rfl rfl rfl rfl (HRS.out.setRow #[.int .i64 0, .slice none 0 0]) ⟨by rw [Try.underlying49], by kernel_rfl⟩ rfl ?_
    exact ⟨rfl, below_setRow HB.out (by omega) _⟩

theorem refMul_all (Na Nb : Int) (A A' : Option Addr) (c c' : Nat) (zs vs : List Int) (w : World) (hr : Rd w w.heap.size 1 A zs.length (intsV zs)) (hr' : Rd w w.heap.size 1 A' vs.length (intsV vs)) (hz : ∀ k, In64 (zs.getD k 0)) (hzv : ∀ k, In64 (vs.getD k 0)) :
    Calls Try.prog 40 #[matV Na A zs.length c, matV Nb A' vs.length c'] w fun e w' => GaveMat w w' (mulR Na Nb zs vs).1.1 (mulR Na Nb zs vs).1.2.1 (mulR Na Nb zs vs).1.2.2 (mulR Na Nb zs vs).2 e := by
  by_cases h : good Na zs.length = true ∧ good Nb vs.length = true ∧ Na = Nb
  · obtain ⟨k, e1, h1, h2, h3⟩ := good_nat h.1
    obtain ⟨k', e2, _, _, h4⟩ := good_nat h.2.1
    have hk : k' = k := by have := h.2.2; omega
    subst hk
    unfold mulR
    rw [if_pos h]
    subst e1 e2
    exact refMul_yes k' A A' c c' zs vs w h1 h2 h3 h4 hr hr' hz hzv
  · unfold mulR
    rw [if_neg h]
    refine (refMul_no Na Nb A A' zs.length c vs.length c' w h).mono ?_
    rintro e w' ⟨rfl, hb⟩
    exact ⟨none, 0, rfl, Rd.nil _ _ _ _, (fun a e => by cases e), hb⟩

set_option maxRecDepth 100000 in
set_option maxHeartbeats 1000000 in
theorem sameMat_any (N : Int) (A A' : Option Addr) (c c' : Nat) (l : List Int) (w : World) (hl : l.length ≤ 140737488355328) (hr : Rd w w.heap.size 1 A l.length (intsV l)) (hr' : Rd w w.heap.size 1 A' l.length (intsV l)) :
    Calls Try.prog 41 #[.agg #[.int .i64 N, .slice A l.length c], .agg #[.int .i64 N, .slice A' l.length c']] w fun e w' => e = .returned (.bool true) ∧ Below w.heap.size w w' := by
  have HB := Lib.hid (show Below w.heap.size w ((w.alloc (.cells #[.int .i64 N, .slice A l.length c] 49)).alloc (.cells #[.int .i64 N, .slice A' l.length c'] 49)) from ((Below.refl _ _).alloc (Nat.le_refl _) _).alloc (by simp) _)
  have h0 : Blk ((w.alloc (.cells #[.int .i64 N, .slice A l.length c] 49)).alloc (.cells #[.int .i64 N, .slice A' l.length c'] 49)) w.heap.size 49 #[.int .i64 N, .slice A l.length c] := (Blk.new rfl).alloc _
  have h1 : Blk ((w.alloc (.cells #[.int .i64 N, .slice A l.length c] 49)).alloc (.cells #[.int .i64 N, .slice A' l.length c'] 49)) (w.heap.size + 1) 49 #[.int .i64 N, .slice A' l.length c'] := Blk.new (by simp)
  have HR := Lib.hid (hr.below HB.out)
  have HR' := Lib.hid (hr'.below HB.out)
  have HL := Lib.hid hl
  clear hr hr' hl
  go_enter Try.func41, Try.ntmps41
  go_upto_region 1 with fail
  generalize ((w.alloc (.cells #[.int .i64 N, .slice A l.length c] 49)).alloc (.cells #[.int .i64 N, .slice A' l.length c'] 49)) = w1 at *
  have c0 : w1.cell? ⟨w.heap.size, 0, none⟩ = some (.int .i64 N) := (h0.cell 0).trans rfl
  have c1 : w1.cell? ⟨w.heap.size, 1, none⟩ = some (.slice A l.length c) := (h0.cell 1).trans rfl
  have c2 : w1.cell? ⟨w.heap.size + 1, 0, none⟩ = some (.int .i64 N) := (h1.cell 0).trans rfl
  have c3 : w1.cell? ⟨w.heap.size + 1, 1, none⟩ = some (.slice A' l.length c') := (h1.cell 1).trans rfl
  clear h0 h1
  go_wp2_with fail
  refine (sameInts_any A A' c c' l w.heap.size w1 HL.out HR.out HR'.out).mono ?_
  rintro e w2 ⟨rfl, hb⟩
  have HB := Lib.hid (onward HB.out (Nat.le_refl _) hb)
  clear hb
  go_wp2_with fail
  go_ret
  exact ⟨rfl, HB.out⟩
end Go.Proofs.Ytajhkbdaoakogaa.BigW

