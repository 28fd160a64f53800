/- Contract: the reference's unpacked: the computer with the state that numbers tell. -/
import Derived.Test.YtjfllpmiajkenaaCloseF
import Derived.Test.YtjfllpmiajkenaaRegR
import Derived.Test.YtjfllpmiajkenaaRdNe
namespace Go.Proofs.Ytjfllpmiajkenaa.Nd
open Go.RowKit Go.Proofs.Ytjfllpmiajkenaa.Mem Go.Proofs.Ytjfllpmiajkenaa.Rws Go.Proofs.Ytjfllpmiajkenaa.Flat
set_option linter.unusedVariables false
set_option linter.unusedSimpArgs false

theorem one_of2 {f : Nat → Value} (hf : ∀ i, i < 73 → okT (nodeT i) (f i)) {S : Value} (hS : S.oneCell' = true) : (row 74 (nodeW f S)).all (·.oneCell') = true := row_one fun i hi => by
  unfold nodeW
  by_cases e : i = 73
  · rw [if_pos e]; exact hS
  · rw [if_neg e]
    have h := hf i (by omega)
    cases hn : nodeT i with
    | true => rw [hn] at h; obtain ⟨n, h⟩ := h; rw [h]; rfl
    | false => rw [hn] at h; obtain ⟨n, h⟩ := h; rw [h]; rfl
def UnpackedAs (w w' : World) (zs : List Int) (f : Nat → Value) (S : Value) (e : Ending) : Prop :=
  ∃ g : Nat → Value, e = .returned (.tuple #[.agg (row 74 (nodeW g S)), .bool (unpackOk zs)]) ∧ (∀ i, i < 73 → okT (nodeT i) (g i)) ∧ (unpackOk zs = true → row 74 (nodeW g S) = row 74 (nodeW (unpackF zs f) S)) ∧ Below w.heap.size w w'

set_option maxRecDepth 100000 in
set_option maxHeartbeats 4000000 in
theorem unpacked_any (f : Nat → Value) (hf : ∀ i, i < 73 → okT (nodeT i) (f i)) (zs : List Int) (hl : zs.length = 24) (a : Option Addr) (c : Nat) (hc : 24 ≤ c) (S : Value) (hS : S.oneCell' = true) (w : World) (hr : Rd w w.heap.size 1 a zs.length (Ms.intsV zs)) :
    Calls Try.prog 59 #[.agg (row 74 (nodeW f S)), .slice a 24 c] w fun e w' => UnpackedAs w w' zs f S e := by
  obtain ⟨b, o, rfl, hb, hz⟩ := rd_zs hr hl
  have HZ := Lib.hid hz
  have HF := Lib.hid hf
  have HS1 := Lib.hid hS
  clear hr hz hf hS
  go_enter Try.func59, Try.ntmps59
  go_upto_region 1 with fail
  have HN := Lib.hid (show Blk ((w.alloc (.cells (row 74 (nodeW f S)) 37)).alloc (.cells Try.zeroCells37 37)) w.heap.size 37 (row 74 (nodeW f S)) from (Blk.new rfl).alloc _)
  have H4 := Lib.hid (show Blk ((w.alloc (.cells (row 74 (nodeW f S)) 37)).alloc (.cells Try.zeroCells37 37)) (w.heap.size + 1) 37 Try.zeroCells37 from Blk.new (by simp))
  have HB := Lib.hid (show Below w.heap.size w ((w.alloc (.cells (row 74 (nodeW f S)) 37)).alloc (.cells Try.zeroCells37 37)) from ((Below.refl _ _).alloc (Nat.le_refl _) _).alloc (by simp) _)
  generalize ((w.alloc (.cells (row 74 (nodeW f S)) 37)).alloc (.cells Try.zeroCells37 37)) = w1 at *
  obtain ⟨gn, hgn⟩ : ∃ g, w.heap.size = g := ⟨_, rfl⟩
  have HG1 := Lib.hid hgn
  rw [hgn] at HN H4 hb ⊢
  clear hgn
  obtain ⟨g4, hg4⟩ : ∃ g, gn + 1 = g := ⟨_, rfl⟩
  rw [hg4] at H4 ⊢
  have HGG := Lib.hid (show w.heap.size ≤ gn ∧ gn < g4 by have := HG1.out; omega)
  clear hg4
  rw [← ax_none zs] at HN
  generalize row 74 (nodeW f S) = R0 at *
  go_wp2_with fail
  go_loopw [6] (fun i wr => ∃ k : Nat, k ≤ 3 ∧ i = .int .i64 (k : Int) ∧ bentTo zs k = true ∧ Blk wr gn 37 (row 74 (nodeW (axU zs k f) S)) ∧ Blk wr g4 37 Try.zeroCells37 ∧ Below w.heap.size w wr) (fun i _ => 3 - (intOf i).toNat)
  case atStart => exact ⟨0, by omega, rfl, rfl, HN.out, H4.out, HB.out⟩
  case round =>
    clear HN H4 HB
    obtain ⟨k, hk, rfl, hbt, hn, h4, hbb⟩ := hrel
    have HN := Lib.hid hn
    have H4 := Lib.hid h4
    have HB := Lib.hid hbb
    have HBT := Lib.hid hbt
    clear hn h4 hbb hbt
    have HC := Lib.hid (fun j hj => (HB.out.cell (p := ⟨b, o + j, none⟩) (by show b < w.heap.size; rw [HG1.out]; exact hb)).trans (HZ.out j hj))
    by_cases hlt : k < 3
    · obtain rfl | rfl | rfl : k = 0 ∨ k = 1 ∨ k = 2 := by omega
      · have hc7 : (row 7 fun j => axV zs (0 * 7 + j)) = #[.int .i64 (zAt zs 0), .int .i64 (zAt zs 1), .int .i64 (zAt zs 2), .int .i64 (zAt zs 3), .int .i64 (zAt zs 4), .bool (zAt zs 5 == 1), .int .i64 (zAt zs 6)] := rfl
        have hbo : bentOk zs 0 = decide (zAt zs 5 = 0 ∨ zAt zs 5 = 1) := rfl
        have x0 := HC.out 0 (by omega)
        have x1 := HC.out 1 (by omega)
        have x2 := HC.out 2 (by omega)
        have x3 := HC.out 3 (by omega)
        have x4 := HC.out 4 (by omega)
        have x5 := HC.out 5 (by omega)
        have x6 := HC.out 6 (by omega)
        rw [Nat.add_zero] at x0
        generalize zAt zs 0 = p0 at *
        generalize zAt zs 1 = p1 at *
        generalize zAt zs 2 = p2 at *
        generalize zAt zs 3 = p3 at *
        generalize zAt zs 4 = p4 at *
        generalize zAt zs 5 = p5 at *
        generalize zAt zs 6 = p6 at *
        by_cases hp : p5 = 0 ∨ p5 = 1
        · have HBT1 := Lib.hid (show bentTo zs 1 = true by show (bentTo zs 0 && bentOk zs 0) = true; rw [HBT.out, hbo, decide_eq_true hp]; rfl)
          have HGT := Lib.hid (show decide (0 < p5) = (p5 == 1) by rcases hp with rfl | rfl <;> rfl)
          have q0 : ¬ p5 < 0 := by omega
          have q1 : ¬ 1 < p5 := by omega
          clear hbo hp
          go_upto_region 7 with fail
          clear q0 q1
          have HS := And.intro x0 (And.intro x1 (And.intro x2 (And.intro x3 (And.intro x4 (And.intro x5 x6)))))
          have HC7 := Lib.hid hc7
          have HTH := Lib.hid (row_there HN.out 6 7 (by omega))
          clear hc7 x0 x1 x2 x3 x4 x5 x6
          refine wp_region_noPanic ?_
          refine Rg.beginR [3, 6, 9, 12, 15, 18, 22] (fun w' => w'.cell? ⟨b, o, none⟩ = some (.int .i64 p0) ∧ w'.cell? ⟨b, o + 1, none⟩ = some (.int .i64 p1) ∧ w'.cell? ⟨b, o + 2, none⟩ = some (.int .i64 p2) ∧ w'.cell? ⟨b, o + 3, none⟩ = some (.int .i64 p3) ∧ w'.cell? ⟨b, o + 4, none⟩ = some (.int .i64 p4) ∧ w'.cell? ⟨b, o + 5, none⟩ = some (.int .i64 p5) ∧ w'.cell? ⟨b, o + 6, none⟩ = some (.int .i64 p6)) (by kernel_rfl) ?_
          have HN := Lib.hid HN.out.drew
          have H4 := Lib.hid H4.out.drew
          have HB := Lib.hid HB.out.drew
          have HTH := Lib.hid (show wr.drew.there gn 6 7 from HTH.out)
          have HS := (show wr.drew.cell? ⟨b, o, none⟩ = some (.int .i64 p0) ∧ wr.drew.cell? ⟨b, o + 1, none⟩ = some (.int .i64 p1) ∧ wr.drew.cell? ⟨b, o + 2, none⟩ = some (.int .i64 p2) ∧ wr.drew.cell? ⟨b, o + 3, none⟩ = some (.int .i64 p3) ∧ wr.drew.cell? ⟨b, o + 4, none⟩ = some (.int .i64 p4) ∧ wr.drew.cell? ⟨b, o + 5, none⟩ = some (.int .i64 p5) ∧ wr.drew.cell? ⟨b, o + 6, none⟩ = some (.int .i64 p6) from HS)
          generalize wr.drew = V0 at *
          refine Rg.takeP (i := 0) (oi := { dst := some 33, op := Op.move (Operand.tmp 6), type := 3, pos := "node.go:189", after := #[], guard := none }) (v := ?_) rfl (by kernel_rfl) (fun _ _ _ h => h) (by rfl) ?_ ?_
          rotate_left 1
          · (intro w; go_simp; (try with_reducible rfl))
          try simp only [Act.put, List.setIfInBounds_toArray, List.set_cons_zero, List.set_cons_succ]
          refine Rg.takeP (i := 1) (oi := { dst := some 34, op := Op.move (Operand.tmp 7), type := 39, pos := "node.go:189", after := #[], guard := none }) (v := ?_) rfl (by kernel_rfl) (fun _ _ _ h => h) (by rfl) ?_ ?_
          rotate_left 1
          · (intro w; go_simp; (try with_reducible rfl))
          try simp only [Act.put, List.setIfInBounds_toArray, List.set_cons_zero, List.set_cons_succ]
          refine Rg.takeP (i := 2) (oi := { dst := some 35, op := Op.indexAddr 39 (Operand.tmp 34) (Operand.const (Value.int IntKind.i64 0)), type := 0, pos := "node.go:189", after := #[{ on := 1, ground := Ground.data }], guard := none }) (v := ?_) rfl (by kernel_rfl) (fun _ _ _ h => h) (by rfl) ?_ ?_
          rotate_left 1
          · (intro w; go_simp; (try with_reducible rfl))
          try simp only [Act.put, List.setIfInBounds_toArray, List.set_cons_zero, List.set_cons_succ]
          refine Rg.takeS (i := 3) (oi := { dst := some 36, op := Op.load 3 (Operand.tmp 35), type := 3, pos := "node.go:189", after := #[{ on := 2, ground := Ground.data }], guard := none }) (v := ?_) rfl (by kernel_rfl) (fun _ _ _ h => h) (by rfl) HS ?_ ?_
          rotate_left 1
          · (intro w hSw; (try dsimp only at hSw); (try go_split_ands); go_simp; (try with_reducible rfl))
          try simp only [Act.put, List.setIfInBounds_toArray, List.set_cons_zero, List.set_cons_succ]
          refine Rg.takeP (i := 4) (oi := { dst := some 37, op := Op.move (Operand.tmp 7), type := 39, pos := "node.go:189", after := #[], guard := none }) (v := ?_) rfl (by kernel_rfl) (fun _ _ _ h => h) (by rfl) ?_ ?_
          rotate_left 1
          · (intro w; go_simp; (try with_reducible rfl))
          try simp only [Act.put, List.setIfInBounds_toArray, List.set_cons_zero, List.set_cons_succ]
          refine Rg.takeP (i := 5) (oi := { dst := some 38, op := Op.indexAddr 39 (Operand.tmp 37) (Operand.const (Value.int IntKind.i64 1)), type := 0, pos := "node.go:189", after := #[{ on := 4, ground := Ground.data }], guard := none }) (v := ?_) rfl (by kernel_rfl) (fun _ _ _ h => h) (by rfl) ?_ ?_
          rotate_left 1
          · (intro w; go_simp; (try with_reducible rfl))
          try simp only [Act.put, List.setIfInBounds_toArray, List.set_cons_zero, List.set_cons_succ]
          refine Rg.takeS (i := 6) (oi := { dst := some 39, op := Op.load 3 (Operand.tmp 38), type := 3, pos := "node.go:189", after := #[{ on := 5, ground := Ground.data }], guard := none }) (v := ?_) rfl (by kernel_rfl) (fun _ _ _ h => h) (by rfl) HS ?_ ?_
          rotate_left 1
          · (intro w hSw; (try dsimp only at hSw); (try go_split_ands); go_simp; (try with_reducible rfl))
          try simp only [Act.put, List.setIfInBounds_toArray, List.set_cons_zero, List.set_cons_succ]
          refine Rg.takeP (i := 7) (oi := { dst := some 40, op := Op.move (Operand.tmp 7), type := 39, pos := "node.go:189", after := #[], guard := none }) (v := ?_) rfl (by kernel_rfl) (fun _ _ _ h => h) (by rfl) ?_ ?_
          rotate_left 1
          · (intro w; go_simp; (try with_reducible rfl))
          try simp only [Act.put, List.setIfInBounds_toArray, List.set_cons_zero, List.set_cons_succ]
          refine Rg.takeP (i := 8) (oi := { dst := some 41, op := Op.indexAddr 39 (Operand.tmp 40) (Operand.const (Value.int IntKind.i64 2)), type := 0, pos := "node.go:189", after := #[{ on := 7, ground := Ground.data }], guard := none }) (v := ?_) rfl (by kernel_rfl) (fun _ _ _ h => h) (by rfl) ?_ ?_
          rotate_left 1
          · (intro w; go_simp; (try with_reducible rfl))
          try simp only [Act.put, List.setIfInBounds_toArray, List.set_cons_zero, List.set_cons_succ]
          refine Rg.takeS (i := 9) (oi := { dst := some 42, op := Op.load 3 (Operand.tmp 41), type := 3, pos := "node.go:189", after := #[{ on := 8, ground := Ground.data }], guard := none }) (v := ?_) rfl (by kernel_rfl) (fun _ _ _ h => h) (by rfl) HS ?_ ?_
          rotate_left 1
          · (intro w hSw; (try dsimp only at hSw); (try go_split_ands); go_simp; (try with_reducible rfl))
          try simp only [Act.put, List.setIfInBounds_toArray, List.set_cons_zero, List.set_cons_succ]
          refine Rg.takeP (i := 10) (oi := { dst := some 43, op := Op.move (Operand.tmp 7), type := 39, pos := "node.go:189", after := #[], guard := none }) (v := ?_) rfl (by kernel_rfl) (fun _ _ _ h => h) (by rfl) ?_ ?_
          rotate_left 1
          · (intro w; go_simp; (try with_reducible rfl))
          try simp only [Act.put, List.setIfInBounds_toArray, List.set_cons_zero, List.set_cons_succ]
          refine Rg.takeP (i := 11) (oi := { dst := some 44, op := Op.indexAddr 39 (Operand.tmp 43) (Operand.const (Value.int IntKind.i64 3)), type := 0, pos := "node.go:189", after := #[{ on := 10, ground := Ground.data }], guard := none }) (v := ?_) rfl (by kernel_rfl) (fun _ _ _ h => h) (by rfl) ?_ ?_
          rotate_left 1
          · (intro w; go_simp; (try with_reducible rfl))
          try simp only [Act.put, List.setIfInBounds_toArray, List.set_cons_zero, List.set_cons_succ]
          refine Rg.takeS (i := 12) (oi := { dst := some 45, op := Op.load 3 (Operand.tmp 44), type := 3, pos := "node.go:189", after := #[{ on := 11, ground := Ground.data }], guard := none }) (v := ?_) rfl (by kernel_rfl) (fun _ _ _ h => h) (by rfl) HS ?_ ?_
          rotate_left 1
          · (intro w hSw; (try dsimp only at hSw); (try go_split_ands); go_simp; (try with_reducible rfl))
          try simp only [Act.put, List.setIfInBounds_toArray, List.set_cons_zero, List.set_cons_succ]
          refine Rg.takeP (i := 13) (oi := { dst := some 46, op := Op.move (Operand.tmp 7), type := 39, pos := "node.go:189", after := #[], guard := none }) (v := ?_) rfl (by kernel_rfl) (fun _ _ _ h => h) (by rfl) ?_ ?_
          rotate_left 1
          · (intro w; go_simp; (try with_reducible rfl))
          try simp only [Act.put, List.setIfInBounds_toArray, List.set_cons_zero, List.set_cons_succ]
          refine Rg.takeP (i := 14) (oi := { dst := some 47, op := Op.indexAddr 39 (Operand.tmp 46) (Operand.const (Value.int IntKind.i64 4)), type := 0, pos := "node.go:189", after := #[{ on := 13, ground := Ground.data }], guard := none }) (v := ?_) rfl (by kernel_rfl) (fun _ _ _ h => h) (by rfl) ?_ ?_
          rotate_left 1
          · (intro w; go_simp; (try with_reducible rfl))
          try simp only [Act.put, List.setIfInBounds_toArray, List.set_cons_zero, List.set_cons_succ]
          refine Rg.takeS (i := 15) (oi := { dst := some 48, op := Op.load 3 (Operand.tmp 47), type := 3, pos := "node.go:189", after := #[{ on := 14, ground := Ground.data }], guard := none }) (v := ?_) rfl (by kernel_rfl) (fun _ _ _ h => h) (by rfl) HS ?_ ?_
          rotate_left 1
          · (intro w hSw; (try dsimp only at hSw); (try go_split_ands); go_simp; (try with_reducible rfl))
          try simp only [Act.put, List.setIfInBounds_toArray, List.set_cons_zero, List.set_cons_succ]
          refine Rg.takeP (i := 16) (oi := { dst := some 49, op := Op.move (Operand.tmp 7), type := 39, pos := "node.go:189", after := #[], guard := none }) (v := ?_) rfl (by kernel_rfl) (fun _ _ _ h => h) (by rfl) ?_ ?_
          rotate_left 1
          · (intro w; go_simp; (try with_reducible rfl))
          try simp only [Act.put, List.setIfInBounds_toArray, List.set_cons_zero, List.set_cons_succ]
          refine Rg.takeP (i := 17) (oi := { dst := some 50, op := Op.indexAddr 39 (Operand.tmp 49) (Operand.const (Value.int IntKind.i64 5)), type := 0, pos := "node.go:189", after := #[{ on := 16, ground := Ground.data }], guard := none }) (v := ?_) rfl (by kernel_rfl) (fun _ _ _ h => h) (by rfl) ?_ ?_
          rotate_left 1
          · (intro w; go_simp; (try with_reducible rfl))
          try simp only [Act.put, List.setIfInBounds_toArray, List.set_cons_zero, List.set_cons_succ]
          refine Rg.takeS (i := 18) (oi := { dst := some 51, op := Op.load 3 (Operand.tmp 50), type := 3, pos := "node.go:189", after := #[{ on := 17, ground := Ground.data }], guard := none }) (v := ?_) rfl (by kernel_rfl) (fun _ _ _ h => h) (by rfl) HS ?_ ?_
          rotate_left 1
          · (intro w hSw; (try dsimp only at hSw); (try go_split_ands); go_simp; (try with_reducible rfl))
          try simp only [Act.put, List.setIfInBounds_toArray, List.set_cons_zero, List.set_cons_succ]
          refine Rg.takeP (i := 19) (oi := { dst := some 52, op := Op.binOp BinOp.gtr 3 (Operand.tmp 51) (Operand.const (Value.int IntKind.i64 0)) 3, type := 4, pos := "node.go:189", after := #[{ on := 18, ground := Ground.data }], guard := none }) (v := ?_) rfl (by kernel_rfl) (fun _ _ _ h => h) (by rfl) ?_ ?_
          rotate_left 1
          · (intro w; go_simp; (try with_reducible rfl))
          try simp only [Act.put, List.setIfInBounds_toArray, List.set_cons_zero, List.set_cons_succ]
          refine Rg.takeP (i := 20) (oi := { dst := some 53, op := Op.move (Operand.tmp 7), type := 39, pos := "node.go:189", after := #[], guard := none }) (v := ?_) rfl (by kernel_rfl) (fun _ _ _ h => h) (by rfl) ?_ ?_
          rotate_left 1
          · (intro w; go_simp; (try with_reducible rfl))
          try simp only [Act.put, List.setIfInBounds_toArray, List.set_cons_zero, List.set_cons_succ]
          refine Rg.takeP (i := 21) (oi := { dst := some 54, op := Op.indexAddr 39 (Operand.tmp 53) (Operand.const (Value.int IntKind.i64 6)), type := 0, pos := "node.go:189", after := #[{ on := 20, ground := Ground.data }], guard := none }) (v := ?_) rfl (by kernel_rfl) (fun _ _ _ h => h) (by rfl) ?_ ?_
          rotate_left 1
          · (intro w; go_simp; (try with_reducible rfl))
          try simp only [Act.put, List.setIfInBounds_toArray, List.set_cons_zero, List.set_cons_succ]
          refine Rg.takeS (i := 22) (oi := { dst := some 55, op := Op.load 3 (Operand.tmp 54), type := 3, pos := "node.go:189", after := #[{ on := 21, ground := Ground.data }], guard := none }) (v := ?_) rfl (by kernel_rfl) (fun _ _ _ h => h) (by rfl) HS ?_ ?_
          rotate_left 1
          · (intro w hSw; (try dsimp only at hSw); (try go_split_ands); go_simp; (try with_reducible rfl))
          try simp only [Act.put, List.setIfInBounds_toArray, List.set_cons_zero, List.set_cons_succ]
          refine Rg.takeP (i := 23) (oi := { dst := some 56, op := Op.build 25 #[(0, Operand.tmp 36), (1, Operand.tmp 39), (2, Operand.tmp 42), (3, Operand.tmp 45), (4, Operand.tmp 48), (5, Operand.tmp 52), (6, Operand.tmp 55)], type := 25, pos := "node.go:189", after := #[{ on := 3, ground := Ground.data }, { on := 6, ground := Ground.data }, { on := 9, ground := Ground.data }, { on := 12, ground := Ground.data }, { on := 15, ground := Ground.data }, { on := 19, ground := Ground.data }, { on := 22, ground := Ground.data }], guard := none }) (v := ?_) rfl (by kernel_rfl) (fun _ _ _ h => h) (by rfl) ?_ ?_
          rotate_left 1
          · (intro w; go_simp; (try with_reducible rfl))
          try simp only [Act.put, List.setIfInBounds_toArray, List.set_cons_zero, List.set_cons_succ]
          refine Rg.takeP (i := 24) (oi := { dst := some 57, op := Op.fieldAddr 37 (Operand.tmp 2) 3, type := 0, pos := "node.go:189", after := #[], guard := none }) (v := ?_) rfl (by kernel_rfl) (fun _ _ _ h => h) (by rfl) ?_ ?_
          rotate_left 1
          · (intro w; go_simp; (try with_reducible rfl))
          try simp only [Act.put, List.setIfInBounds_toArray, List.set_cons_zero, List.set_cons_succ]
          refine Rg.takeP (i := 25) (oi := { dst := some 58, op := Op.indexAddr 26 (Operand.tmp 57) (Operand.tmp 33), type := 0, pos := "node.go:189", after := #[{ on := 24, ground := Ground.data }, { on := 0, ground := Ground.data }, { on := 0, ground := Ground.phase }, { on := 1, ground := Ground.phase }, { on := 2, ground := Ground.phase }, { on := 3, ground := Ground.phase }, { on := 4, ground := Ground.phase }, { on := 5, ground := Ground.phase }, { on := 6, ground := Ground.phase }, { on := 7, ground := Ground.phase }, { on := 8, ground := Ground.phase }, { on := 9, ground := Ground.phase }, { on := 10, ground := Ground.phase }, { on := 11, ground := Ground.phase }, { on := 12, ground := Ground.phase }, { on := 13, ground := Ground.phase }, { on := 14, ground := Ground.phase }, { on := 15, ground := Ground.phase }, { on := 16, ground := Ground.phase }, { on := 17, ground := Ground.phase }, { on := 18, ground := Ground.phase }, { on := 19, ground := Ground.phase }, { on := 20, ground := Ground.phase }, { on := 21, ground := Ground.phase }, { on := 22, ground := Ground.phase }, { on := 23, ground := Ground.phase }], guard := none }) (v := ?_) rfl (by kernel_rfl) (fun _ _ _ h => h) (by rfl) ?_ ?_
          rotate_left 1
          · (intro w; go_simp; (try with_reducible rfl))
          try simp only [Act.put, List.setIfInBounds_toArray, List.set_cons_zero, List.set_cons_succ]
          refine Rg.oneR (i := 26) (oi := { dst := none, op := Op.store 25 (Operand.tmp 58) (Operand.tmp 56), type := 0, pos := "node.go:189", after := #[{ on := 25, ground := Ground.data }, { on := 23, ground := Ground.data }, { on := 0, ground := Ground.phase }, { on := 1, ground := Ground.phase }, { on := 2, ground := Ground.phase }, { on := 3, ground := Ground.phase }, { on := 4, ground := Ground.phase }, { on := 5, ground := Ground.phase }, { on := 6, ground := Ground.phase }, { on := 7, ground := Ground.phase }, { on := 8, ground := Ground.phase }, { on := 9, ground := Ground.phase }, { on := 10, ground := Ground.phase }, { on := 11, ground := Ground.phase }, { on := 12, ground := Ground.phase }, { on := 13, ground := Ground.phase }, { on := 14, ground := Ground.phase }, { on := 15, ground := Ground.phase }, { on := 16, ground := Ground.phase }, { on := 17, ground := Ground.phase }, { on := 18, ground := Ground.phase }, { on := 19, ground := Ground.phase }, { on := 20, ground := Ground.phase }, { on := 21, ground := Ground.phase }, { on := 22, ground := Ground.phase }, { on := 23, ground := Ground.phase }], guard := none }) rfl (by kernel_rfl) ?_
          refine Rg.stepF ?_ ?_
          · kernel_rfl
          intro K hK
          rw [if_pos (by rfl)]
          refine wp_store_mid 25 (.tmp 58) (.tmp 56) rfl gn 6 #[.int .i64 p0, .int .i64 p1, .int .i64 p2, .int .i64 p3, .int .i64 p4, .bool (p5 == 1), .int .i64 p6] rfl (by rw [← HGT.out]; rfl) HTH.out (by kernel_rfl) (by simp [Value.oneCell']) ?_
          have HN := Lib.hid (blk_mid HN.out (6 + 0 * 7) 7 (fun j => axV zs (0 * 7 + j)))
          rw [ax_put zs 0 (by omega), HC7.out] at HN
          have HB := Lib.hid (below_setCells (show w.heap.size ≤ gn by have := HGG.out; omega) (#[.int .i64 p0, .int .i64 p1, .int .i64 p2, .int .i64 p3, .int .i64 p4, .bool (p5 == 1), .int .i64 p6] : Array Value).toList 6 HB.out)
          have H4 := Lib.hid (blk_mid_other (w := V0) (b' := gn) (by have := HGG.out; omega) (#[.int .i64 p0, .int .i64 p1, .int .i64 p2, .int .i64 p3, .int .i64 p4, .bool (p5 == 1), .int .i64 p6] : Array Value).toList 6 _ H4.out)
          have HN : Hid (Blk (V0.setCells gn 6 (#[.int .i64 p0, .int .i64 p1, .int .i64 p2, .int .i64 p3, .int .i64 p4, .bool (p5 == 1), .int .i64 p6] : Array Value).toList) gn 37 (row 74 (nodeW (axU zs (0 + 1) f) S))) := HN
          generalize (V0.setCells gn 6 (#[.int .i64 p0, .int .i64 p1, .int .i64 p2, .int .i64 p3, .int .i64 p4, .bool (p5 == 1), .int .i64 p6] : Array Value).toList) = V1 at *
          refine hK.out _ _ ?_
          clear hK K
          try simp only [Act.put, List.setIfInBounds_toArray, List.set_cons_zero, List.set_cons_succ]
          refine Rg.doneR (by kernel_rfl) ?_ _
          refine NoPanic.normal ?_
          clear HS
          go_wp2_with fail
          exact ⟨⟨1, by omega, rfl, HBT1.out, HN.out, H4.out, HB.out⟩, by simp [intOf]⟩
        · have HUF := Lib.hid (show unpackOk zs = false by unfold unpackOk; rw [bent_bad (k := 0) (by rw [hbo]; exact decide_eq_false hp) (by omega), Bool.and_false])
          have HNB := HN
          have HBB := HB
          by_cases q0 : p5 < 0
          · clear hbo hp
            have HOKB := Lib.hid (show ∀ i, i < 73 → okT (nodeT i) (axU zs 0 f i) from ok_axU HF.out zs 0 (by omega))
            have iB : (Try.prog.info? 37).map (·.size) = some (row 74 (nodeW (axU zs 0 f) S)).size := by rw [row_size]; kernel_rfl
            have zB : (Try.zeroCells37).size = (row 74 (nodeW (axU zs 0 f) S)).size := by rw [row_size]; kernel_rfl
            have oB : (row 74 (nodeW (axU zs 0 f) S)).all (·.oneCell') = true := one_of2 HOKB.out HS1.out
            have HFB := Lib.hid (show (fun i => (axU zs 0 f) i) = axU zs 0 f from rfl)
            obtain ⟨RB, hRB⟩ : ∃ R, row 74 (nodeW (axU zs 0 f) S) = R := ⟨_, rfl⟩
            rw [hRB] at HNB iB zB oB
            have HRB := Lib.hid hRB
            clear hRB
            go_wp2_with (first | (refine wpList_whole rfl 37 _ rfl gn rfl HNB.out _ Try.underlying37 rfl iB ?_) | (refine wpList_store_row rfl 37 _ _ rfl g4 RB rfl rfl 37 _ H4.out iB zB oB ?_))
            refine ret_row2 (x := .bool false) rfl rfl rfl (H4.out.setRow RB) ⟨by rw [Try.underlying37], iB⟩ rfl ⟨axU zs 0 f, by rw [HUF.out, HRB.out], HOKB.out, fun h => absurd (h.symm.trans HUF.out) (by simp), by have h := below_setRow HBB.out (show w.heap.size ≤ g4 by have := HGG.out; omega) RB; exact h⟩
          · have q1 : 1 < p5 := by omega
            clear hbo hp
            have HOKB := Lib.hid (show ∀ i, i < 73 → okT (nodeT i) (axU zs 0 f i) from ok_axU HF.out zs 0 (by omega))
            have iB : (Try.prog.info? 37).map (·.size) = some (row 74 (nodeW (axU zs 0 f) S)).size := by rw [row_size]; kernel_rfl
            have zB : (Try.zeroCells37).size = (row 74 (nodeW (axU zs 0 f) S)).size := by rw [row_size]; kernel_rfl
            have oB : (row 74 (nodeW (axU zs 0 f) S)).all (·.oneCell') = true := one_of2 HOKB.out HS1.out
            have HFB := Lib.hid (show (fun i => (axU zs 0 f) i) = axU zs 0 f from rfl)
            obtain ⟨RB, hRB⟩ : ∃ R, row 74 (nodeW (axU zs 0 f) S) = R := ⟨_, rfl⟩
            rw [hRB] at HNB iB zB oB
            have HRB := Lib.hid hRB
            clear hRB
            go_wp2_with (first | (refine wpList_whole rfl 37 _ rfl gn rfl HNB.out _ Try.underlying37 rfl iB ?_) | (refine wpList_store_row rfl 37 _ _ rfl g4 RB rfl rfl 37 _ H4.out iB zB oB ?_))
            refine ret_row2 (x := .bool false) rfl rfl rfl (H4.out.setRow RB) ⟨by rw [Try.underlying37], iB⟩ rfl ⟨axU zs 0 f, by rw [HUF.out, HRB.out], HOKB.out, fun h => absurd (h.symm.trans HUF.out) (by simp), by have h := below_setRow HBB.out (show w.heap.size ≤ g4 by have := HGG.out; omega) RB; exact h⟩
      · have hc7 : (row 7 fun j => axV zs (1 * 7 + j)) = #[.int .i64 (zAt zs 7), .int .i64 (zAt zs 8), .int .i64 (zAt zs 9), .int .i64 (zAt zs 10), .int .i64 (zAt zs 11), .bool (zAt zs 12 == 1), .int .i64 (zAt zs 13)] := rfl
        have hbo : bentOk zs 1 = decide (zAt zs 12 = 0 ∨ zAt zs 12 = 1) := rfl
        have x0 := HC.out 7 (by omega)
        have x1 := HC.out 8 (by omega)
        have x2 := HC.out 9 (by omega)
        have x3 := HC.out 10 (by omega)
        have x4 := HC.out 11 (by omega)
        have x5 := HC.out 12 (by omega)
        have x6 := HC.out 13 (by omega)
        generalize zAt zs 7 = p0 at *
        generalize zAt zs 8 = p1 at *
        generalize zAt zs 9 = p2 at *
        generalize zAt zs 10 = p3 at *
        generalize zAt zs 11 = p4 at *
        generalize zAt zs 12 = p5 at *
        generalize zAt zs 13 = p6 at *
        by_cases hp : p5 = 0 ∨ p5 = 1
        · have HBT1 := Lib.hid (show bentTo zs 2 = true by show (bentTo zs 1 && bentOk zs 1) = true; rw [HBT.out, hbo, decide_eq_true hp]; rfl)
          have HGT := Lib.hid (show decide (0 < p5) = (p5 == 1) by rcases hp with rfl | rfl <;> rfl)
          have q0 : ¬ p5 < 0 := by omega
          have q1 : ¬ 1 < p5 := by omega
          clear hbo hp
          go_upto_region 7 with fail
          clear q0 q1
          have HS := And.intro x0 (And.intro x1 (And.intro x2 (And.intro x3 (And.intro x4 (And.intro x5 x6)))))
          have HC7 := Lib.hid hc7
          have HTH := Lib.hid (row_there HN.out 13 7 (by omega))
          clear hc7 x0 x1 x2 x3 x4 x5 x6
          refine wp_region_noPanic ?_
          refine Rg.beginR [3, 6, 9, 12, 15, 18, 22] (fun w' => w'.cell? ⟨b, o + 7, none⟩ = some (.int .i64 p0) ∧ w'.cell? ⟨b, o + 8, none⟩ = some (.int .i64 p1) ∧ w'.cell? ⟨b, o + 9, none⟩ = some (.int .i64 p2) ∧ w'.cell? ⟨b, o + 10, none⟩ = some (.int .i64 p3) ∧ w'.cell? ⟨b, o + 11, none⟩ = some (.int .i64 p4) ∧ w'.cell? ⟨b, o + 12, none⟩ = some (.int .i64 p5) ∧ w'.cell? ⟨b, o + 13, none⟩ = some (.int .i64 p6)) (by kernel_rfl) ?_
          have HN := Lib.hid HN.out.drew
          have H4 := Lib.hid H4.out.drew
          have HB := Lib.hid HB.out.drew
          have HTH := Lib.hid (show wr.drew.there gn 13 7 from HTH.out)
          have HS := (show wr.drew.cell? ⟨b, o + 7, none⟩ = some (.int .i64 p0) ∧ wr.drew.cell? ⟨b, o + 8, none⟩ = some (.int .i64 p1) ∧ wr.drew.cell? ⟨b, o + 9, none⟩ = some (.int .i64 p2) ∧ wr.drew.cell? ⟨b, o + 10, none⟩ = some (.int .i64 p3) ∧ wr.drew.cell? ⟨b, o + 11, none⟩ = some (.int .i64 p4) ∧ wr.drew.cell? ⟨b, o + 12, none⟩ = some (.int .i64 p5) ∧ wr.drew.cell? ⟨b, o + 13, none⟩ = some (.int .i64 p6) from HS)
          generalize wr.drew = V0 at *
          refine Rg.takeP (i := 0) (oi := { dst := some 33, op := Op.move (Operand.tmp 6), type := 3, pos := "node.go:189", after := #[], guard := none }) (v := ?_) rfl (by kernel_rfl) (fun _ _ _ h => h) (by rfl) ?_ ?_
          rotate_left 1
          · (intro w; go_simp; (try with_reducible rfl))
          try simp only [Act.put, List.setIfInBounds_toArray, List.set_cons_zero, List.set_cons_succ]
          refine Rg.takeP (i := 1) (oi := { dst := some 34, op := Op.move (Operand.tmp 7), type := 39, pos := "node.go:189", after := #[], guard := none }) (v := ?_) rfl (by kernel_rfl) (fun _ _ _ h => h) (by rfl) ?_ ?_
          rotate_left 1
          · (intro w; go_simp; (try with_reducible rfl))
          try simp only [Act.put, List.setIfInBounds_toArray, List.set_cons_zero, List.set_cons_succ]
          refine Rg.takeP (i := 2) (oi := { dst := some 35, op := Op.indexAddr 39 (Operand.tmp 34) (Operand.const (Value.int IntKind.i64 0)), type := 0, pos := "node.go:189", after := #[{ on := 1, ground := Ground.data }], guard := none }) (v := ?_) rfl (by kernel_rfl) (fun _ _ _ h => h) (by rfl) ?_ ?_
          rotate_left 1
          · (intro w; go_simp; (try with_reducible rfl))
          try simp only [Act.put, List.setIfInBounds_toArray, List.set_cons_zero, List.set_cons_succ]
          refine Rg.takeS (i := 3) (oi := { dst := some 36, op := Op.load 3 (Operand.tmp 35), type := 3, pos := "node.go:189", after := #[{ on := 2, ground := Ground.data }], guard := none }) (v := ?_) rfl (by kernel_rfl) (fun _ _ _ h => h) (by rfl) HS ?_ ?_
          rotate_left 1
          · (intro w hSw; (try dsimp only at hSw); (try go_split_ands); go_simp; (try with_reducible rfl))
          try simp only [Act.put, List.setIfInBounds_toArray, List.set_cons_zero, List.set_cons_succ]
          refine Rg.takeP (i := 4) (oi := { dst := some 37, op := Op.move (Operand.tmp 7), type := 39, pos := "node.go:189", after := #[], guard := none }) (v := ?_) rfl (by kernel_rfl) (fun _ _ _ h => h) (by rfl) ?_ ?_
          rotate_left 1
          · (intro w; go_simp; (try with_reducible rfl))
          try simp only [Act.put, List.setIfInBounds_toArray, List.set_cons_zero, List.set_cons_succ]
          refine Rg.takeP (i := 5) (oi := { dst := some 38, op := Op.indexAddr 39 (Operand.tmp 37) (Operand.const (Value.int IntKind.i64 1)), type := 0, pos := "node.go:189", after := #[{ on := 4, ground := Ground.data }], guard := none }) (v := ?_) rfl (by kernel_rfl) (fun _ _ _ h => h) (by rfl) ?_ ?_
          rotate_left 1
          · (intro w; go_simp; (try with_reducible rfl))
          try simp only [Act.put, List.setIfInBounds_toArray, List.set_cons_zero, List.set_cons_succ]
          refine Rg.takeS (i := 6) (oi := { dst := some 39, op := Op.load 3 (Operand.tmp 38), type := 3, pos := "node.go:189", after := #[{ on := 5, ground := Ground.data }], guard := none }) (v := ?_) rfl (by kernel_rfl) (fun _ _ _ h => h) (by rfl) HS ?_ ?_
          rotate_left 1
          · (intro w hSw; (try dsimp only at hSw); (try go_split_ands); go_simp; (try with_reducible rfl))
          try simp only [Act.put, List.setIfInBounds_toArray, List.set_cons_zero, List.set_cons_succ]
          refine Rg.takeP (i := 7) (oi := { dst := some 40, op := Op.move (Operand.tmp 7), type := 39, pos := "node.go:189", after := #[], guard := none }) (v := ?_) rfl (by kernel_rfl) (fun _ _ _ h => h) (by rfl) ?_ ?_
          rotate_left 1
          · (intro w; go_simp; (try with_reducible rfl))
          try simp only [Act.put, List.setIfInBounds_toArray, List.set_cons_zero, List.set_cons_succ]
          refine Rg.takeP (i := 8) (oi := { dst := some 41, op := Op.indexAddr 39 (Operand.tmp 40) (Operand.const (Value.int IntKind.i64 2)), type := 0, pos := "node.go:189", after := #[{ on := 7, ground := Ground.data }], guard := none }) (v := ?_) rfl (by kernel_rfl) (fun _ _ _ h => h) (by rfl) ?_ ?_
          rotate_left 1
          · (intro w; go_simp; (try with_reducible rfl))
          try simp only [Act.put, List.setIfInBounds_toArray, List.set_cons_zero, List.set_cons_succ]
          refine Rg.takeS (i := 9) (oi := { dst := some 42, op := Op.load 3 (Operand.tmp 41), type := 3, pos := "node.go:189", after := #[{ on := 8, ground := Ground.data }], guard := none }) (v := ?_) rfl (by kernel_rfl) (fun _ _ _ h => h) (by rfl) HS ?_ ?_
          rotate_left 1
          · (intro w hSw; (try dsimp only at hSw); (try go_split_ands); go_simp; (try with_reducible rfl))
          try simp only [Act.put, List.setIfInBounds_toArray, List.set_cons_zero, List.set_cons_succ]
          refine Rg.takeP (i := 10) (oi := { dst := some 43, op := Op.move (Operand.tmp 7), type := 39, pos := "node.go:189", after := #[], guard := none }) (v := ?_) rfl (by kernel_rfl) (fun _ _ _ h => h) (by rfl) ?_ ?_
          rotate_left 1
          · (intro w; go_simp; (try with_reducible rfl))
          try simp only [Act.put, List.setIfInBounds_toArray, List.set_cons_zero, List.set_cons_succ]
          refine Rg.takeP (i := 11) (oi := { dst := some 44, op := Op.indexAddr 39 (Operand.tmp 43) (Operand.const (Value.int IntKind.i64 3)), type := 0, pos := "node.go:189", after := #[{ on := 10, ground := Ground.data }], guard := none }) (v := ?_) rfl (by kernel_rfl) (fun _ _ _ h => h) (by rfl) ?_ ?_
          rotate_left 1
          · (intro w; go_simp; (try with_reducible rfl))
          try simp only [Act.put, List.setIfInBounds_toArray, List.set_cons_zero, List.set_cons_succ]
          refine Rg.takeS (i := 12) (oi := { dst := some 45, op := Op.load 3 (Operand.tmp 44), type := 3, pos := "node.go:189", after := #[{ on := 11, ground := Ground.data }], guard := none }) (v := ?_) rfl (by kernel_rfl) (fun _ _ _ h => h) (by rfl) HS ?_ ?_
          rotate_left 1
          · (intro w hSw; (try dsimp only at hSw); (try go_split_ands); go_simp; (try with_reducible rfl))
          try simp only [Act.put, List.setIfInBounds_toArray, List.set_cons_zero, List.set_cons_succ]
          refine Rg.takeP (i := 13) (oi := { dst := some 46, op := Op.move (Operand.tmp 7), type := 39, pos := "node.go:189", after := #[], guard := none }) (v := ?_) rfl (by kernel_rfl) (fun _ _ _ h => h) (by rfl) ?_ ?_
          rotate_left 1
          · (intro w; go_simp; (try with_reducible rfl))
          try simp only [Act.put, List.setIfInBounds_toArray, List.set_cons_zero, List.set_cons_succ]
          refine Rg.takeP (i := 14) (oi := { dst := some 47, op := Op.indexAddr 39 (Operand.tmp 46) (Operand.const (Value.int IntKind.i64 4)), type := 0, pos := "node.go:189", after := #[{ on := 13, ground := Ground.data }], guard := none }) (v := ?_) rfl (by kernel_rfl) (fun _ _ _ h => h) (by rfl) ?_ ?_
          rotate_left 1
          · (intro w; go_simp; (try with_reducible rfl))
          try simp only [Act.put, List.setIfInBounds_toArray, List.set_cons_zero, List.set_cons_succ]
          refine Rg.takeS (i := 15) (oi := { dst := some 48, op := Op.load 3 (Operand.tmp 47), type := 3, pos := "node.go:189", after := #[{ on := 14, ground := Ground.data }], guard := none }) (v := ?_) rfl (by kernel_rfl) (fun _ _ _ h => h) (by rfl) HS ?_ ?_
          rotate_left 1
          · (intro w hSw; (try dsimp only at hSw); (try go_split_ands); go_simp; (try with_reducible rfl))
          try simp only [Act.put, List.setIfInBounds_toArray, List.set_cons_zero, List.set_cons_succ]
          refine Rg.takeP (i := 16) (oi := { dst := some 49, op := Op.move (Operand.tmp 7), type := 39, pos := "node.go:189", after := #[], guard := none }) (v := ?_) rfl (by kernel_rfl) (fun _ _ _ h => h) (by rfl) ?_ ?_
          rotate_left 1
          · (intro w; go_simp; (try with_reducible rfl))
          try simp only [Act.put, List.setIfInBounds_toArray, List.set_cons_zero, List.set_cons_succ]
          refine Rg.takeP (i := 17) (oi := { dst := some 50, op := Op.indexAddr 39 (Operand.tmp 49) (Operand.const (Value.int IntKind.i64 5)), type := 0, pos := "node.go:189", after := #[{ on := 16, ground := Ground.data }], guard := none }) (v := ?_) rfl (by kernel_rfl) (fun _ _ _ h => h) (by rfl) ?_ ?_
          rotate_left 1
          · (intro w; go_simp; (try with_reducible rfl))
          try simp only [Act.put, List.setIfInBounds_toArray, List.set_cons_zero, List.set_cons_succ]
          refine Rg.takeS (i := 18) (oi := { dst := some 51, op := Op.load 3 (Operand.tmp 50), type := 3, pos := "node.go:189", after := #[{ on := 17, ground := Ground.data }], guard := none }) (v := ?_) rfl (by kernel_rfl) (fun _ _ _ h => h) (by rfl) HS ?_ ?_
          rotate_left 1
          · (intro w hSw; (try dsimp only at hSw); (try go_split_ands); go_simp; (try with_reducible rfl))
          try simp only [Act.put, List.setIfInBounds_toArray, List.set_cons_zero, List.set_cons_succ]
          refine Rg.takeP (i := 19) (oi := { dst := some 52, op := Op.binOp BinOp.gtr 3 (Operand.tmp 51) (Operand.const (Value.int IntKind.i64 0)) 3, type := 4, pos := "node.go:189", after := #[{ on := 18, ground := Ground.data }], guard := none }) (v := ?_) rfl (by kernel_rfl) (fun _ _ _ h => h) (by rfl) ?_ ?_
          rotate_left 1
          · (intro w; go_simp; (try with_reducible rfl))
          try simp only [Act.put, List.setIfInBounds_toArray, List.set_cons_zero, List.set_cons_succ]
          refine Rg.takeP (i := 20) (oi := { dst := some 53, op := Op.move (Operand.tmp 7), type := 39, pos := "node.go:189", after := #[], guard := none }) (v := ?_) rfl (by kernel_rfl) (fun _ _ _ h => h) (by rfl) ?_ ?_
          rotate_left 1
          · (intro w; go_simp; (try with_reducible rfl))
          try simp only [Act.put, List.setIfInBounds_toArray, List.set_cons_zero, List.set_cons_succ]
          refine Rg.takeP (i := 21) (oi := { dst := some 54, op := Op.indexAddr 39 (Operand.tmp 53) (Operand.const (Value.int IntKind.i64 6)), type := 0, pos := "node.go:189", after := #[{ on := 20, ground := Ground.data }], guard := none }) (v := ?_) rfl (by kernel_rfl) (fun _ _ _ h => h) (by rfl) ?_ ?_
          rotate_left 1
          · (intro w; go_simp; (try with_reducible rfl))
          try simp only [Act.put, List.setIfInBounds_toArray, List.set_cons_zero, List.set_cons_succ]
          refine Rg.takeS (i := 22) (oi := { dst := some 55, op := Op.load 3 (Operand.tmp 54), type := 3, pos := "node.go:189", after := #[{ on := 21, ground := Ground.data }], guard := none }) (v := ?_) rfl (by kernel_rfl) (fun _ _ _ h => h) (by rfl) HS ?_ ?_
          rotate_left 1
          · (intro w hSw; (try dsimp only at hSw); (try go_split_ands); go_simp; (try with_reducible rfl))
          try simp only [Act.put, List.setIfInBounds_toArray, List.set_cons_zero, List.set_cons_succ]
          refine Rg.takeP (i := 23) (oi := { dst := some 56, op := Op.build 25 #[(0, Operand.tmp 36), (1, Operand.tmp 39), (2, Operand.tmp 42), (3, Operand.tmp 45), (4, Operand.tmp 48), (5, Operand.tmp 52), (6, Operand.tmp 55)], type := 25, pos := "node.go:189", after := #[{ on := 3, ground := Ground.data }, { on := 6, ground := Ground.data }, { on := 9, ground := Ground.data }, { on := 12, ground := Ground.data }, { on := 15, ground := Ground.data }, { on := 19, ground := Ground.data }, { on := 22, ground := Ground.data }], guard := none }) (v := ?_) rfl (by kernel_rfl) (fun _ _ _ h => h) (by rfl) ?_ ?_
          rotate_left 1
          · (intro w; go_simp; (try with_reducible rfl))
          try simp only [Act.put, List.setIfInBounds_toArray, List.set_cons_zero, List.set_cons_succ]
          refine Rg.takeP (i := 24) (oi := { dst := some 57, op := Op.fieldAddr 37 (Operand.tmp 2) 3, type := 0, pos := "node.go:189", after := #[], guard := none }) (v := ?_) rfl (by kernel_rfl) (fun _ _ _ h => h) (by rfl) ?_ ?_
          rotate_left 1
          · (intro w; go_simp; (try with_reducible rfl))
          try simp only [Act.put, List.setIfInBounds_toArray, List.set_cons_zero, List.set_cons_succ]
          refine Rg.takeP (i := 25) (oi := { dst := some 58, op := Op.indexAddr 26 (Operand.tmp 57) (Operand.tmp 33), type := 0, pos := "node.go:189", after := #[{ on := 24, ground := Ground.data }, { on := 0, ground := Ground.data }, { on := 0, ground := Ground.phase }, { on := 1, ground := Ground.phase }, { on := 2, ground := Ground.phase }, { on := 3, ground := Ground.phase }, { on := 4, ground := Ground.phase }, { on := 5, ground := Ground.phase }, { on := 6, ground := Ground.phase }, { on := 7, ground := Ground.phase }, { on := 8, ground := Ground.phase }, { on := 9, ground := Ground.phase }, { on := 10, ground := Ground.phase }, { on := 11, ground := Ground.phase }, { on := 12, ground := Ground.phase }, { on := 13, ground := Ground.phase }, { on := 14, ground := Ground.phase }, { on := 15, ground := Ground.phase }, { on := 16, ground := Ground.phase }, { on := 17, ground := Ground.phase }, { on := 18, ground := Ground.phase }, { on := 19, ground := Ground.phase }, { on := 20, ground := Ground.phase }, { on := 21, ground := Ground.phase }, { on := 22, ground := Ground.phase }, { on := 23, ground := Ground.phase }], guard := none }) (v := ?_) rfl (by kernel_rfl) (fun _ _ _ h => h) (by rfl) ?_ ?_
          rotate_left 1
          · (intro w; go_simp; (try with_reducible rfl))
          try simp only [Act.put, List.setIfInBounds_toArray, List.set_cons_zero, List.set_cons_succ]
          refine Rg.oneR (i := 26) (oi := { dst := none, op := Op.store 25 (Operand.tmp 58) (Operand.tmp 56), type := 0, pos := "node.go:189", after := #[{ on := 25, ground := Ground.data }, { on := 23, ground := Ground.data }, { on := 0, ground := Ground.phase }, { on := 1, ground := Ground.phase }, { on := 2, ground := Ground.phase }, { on := 3, ground := Ground.phase }, { on := 4, ground := Ground.phase }, { on := 5, ground := Ground.phase }, { on := 6, ground := Ground.phase }, { on := 7, ground := Ground.phase }, { on := 8, ground := Ground.phase }, { on := 9, ground := Ground.phase }, { on := 10, ground := Ground.phase }, { on := 11, ground := Ground.phase }, { on := 12, ground := Ground.phase }, { on := 13, ground := Ground.phase }, { on := 14, ground := Ground.phase }, { on := 15, ground := Ground.phase }, { on := 16, ground := Ground.phase }, { on := 17, ground := Ground.phase }, { on := 18, ground := Ground.phase }, { on := 19, ground := Ground.phase }, { on := 20, ground := Ground.phase }, { on := 21, ground := Ground.phase }, { on := 22, ground := Ground.phase }, { on := 23, ground := Ground.phase }], guard := none }) rfl (by kernel_rfl) ?_
          refine Rg.stepF ?_ ?_
          · kernel_rfl
          intro K hK
          rw [if_pos (by rfl)]
          refine wp_store_mid 25 (.tmp 58) (.tmp 56) rfl gn 13 #[.int .i64 p0, .int .i64 p1, .int .i64 p2, .int .i64 p3, .int .i64 p4, .bool (p5 == 1), .int .i64 p6] rfl (by rw [← HGT.out]; rfl) HTH.out (by kernel_rfl) (by simp [Value.oneCell']) ?_
          have HN := Lib.hid (blk_mid HN.out (6 + 1 * 7) 7 (fun j => axV zs (1 * 7 + j)))
          rw [ax_put zs 1 (by omega), HC7.out] at HN
          have HB := Lib.hid (below_setCells (show w.heap.size ≤ gn by have := HGG.out; omega) (#[.int .i64 p0, .int .i64 p1, .int .i64 p2, .int .i64 p3, .int .i64 p4, .bool (p5 == 1), .int .i64 p6] : Array Value).toList 13 HB.out)
          have H4 := Lib.hid (blk_mid_other (w := V0) (b' := gn) (by have := HGG.out; omega) (#[.int .i64 p0, .int .i64 p1, .int .i64 p2, .int .i64 p3, .int .i64 p4, .bool (p5 == 1), .int .i64 p6] : Array Value).toList 13 _ H4.out)
          have HN : Hid (Blk (V0.setCells gn 13 (#[.int .i64 p0, .int .i64 p1, .int .i64 p2, .int .i64 p3, .int .i64 p4, .bool (p5 == 1), .int .i64 p6] : Array Value).toList) gn 37 (row 74 (nodeW (axU zs (1 + 1) f) S))) := HN
          generalize (V0.setCells gn 13 (#[.int .i64 p0, .int .i64 p1, .int .i64 p2, .int .i64 p3, .int .i64 p4, .bool (p5 == 1), .int .i64 p6] : Array Value).toList) = V1 at *
          refine hK.out _ _ ?_
          clear hK K
          try simp only [Act.put, List.setIfInBounds_toArray, List.set_cons_zero, List.set_cons_succ]
          refine Rg.doneR (by kernel_rfl) ?_ _
          refine NoPanic.normal ?_
          clear HS
          go_wp2_with fail
          exact ⟨⟨2, by omega, rfl, HBT1.out, HN.out, H4.out, HB.out⟩, by simp [intOf]⟩
        · have HUF := Lib.hid (show unpackOk zs = false by unfold unpackOk; rw [bent_bad (k := 1) (by rw [hbo]; exact decide_eq_false hp) (by omega), Bool.and_false])
          have HNB := HN
          have HBB := HB
          by_cases q0 : p5 < 0
          · clear hbo hp
            have HOKB := Lib.hid (show ∀ i, i < 73 → okT (nodeT i) (axU zs 1 f i) from ok_axU HF.out zs 1 (by omega))
            have iB : (Try.prog.info? 37).map (·.size) = some (row 74 (nodeW (axU zs 1 f) S)).size := by rw [row_size]; kernel_rfl
            have zB : (Try.zeroCells37).size = (row 74 (nodeW (axU zs 1 f) S)).size := by rw [row_size]; kernel_rfl
            have oB : (row 74 (nodeW (axU zs 1 f) S)).all (·.oneCell') = true := one_of2 HOKB.out HS1.out
            have HFB := Lib.hid (show (fun i => (axU zs 1 f) i) = axU zs 1 f from rfl)
            obtain ⟨RB, hRB⟩ : ∃ R, row 74 (nodeW (axU zs 1 f) S) = R := ⟨_, rfl⟩
            rw [hRB] at HNB iB zB oB
            have HRB := Lib.hid hRB
            clear hRB
            go_wp2_with (first | (refine wpList_whole rfl 37 _ rfl gn rfl HNB.out _ Try.underlying37 rfl iB ?_) | (refine wpList_store_row rfl 37 _ _ rfl g4 RB rfl rfl 37 _ H4.out iB zB oB ?_))
            refine ret_row2 (x := .bool false) rfl rfl rfl (H4.out.setRow RB) ⟨by rw [Try.underlying37], iB⟩ rfl ⟨axU zs 1 f, by rw [HUF.out, HRB.out], HOKB.out, fun h => absurd (h.symm.trans HUF.out) (by simp), by have h := below_setRow HBB.out (show w.heap.size ≤ g4 by have := HGG.out; omega) RB; exact h⟩
          · have q1 : 1 < p5 := by omega
            clear hbo hp
            have HOKB := Lib.hid (show ∀ i, i < 73 → okT (nodeT i) (axU zs 1 f i) from ok_axU HF.out zs 1 (by omega))
            have iB : (Try.prog.info? 37).map (·.size) = some (row 74 (nodeW (axU zs 1 f) S)).size := by rw [row_size]; kernel_rfl
            have zB : (Try.zeroCells37).size = (row 74 (nodeW (axU zs 1 f) S)).size := by rw [row_size]; kernel_rfl
            have oB : (row 74 (nodeW (axU zs 1 f) S)).all (·.oneCell') = true := one_of2 HOKB.out HS1.out
            have HFB := Lib.hid (show (fun i => (axU zs 1 f) i) = axU zs 1 f from rfl)
            obtain ⟨RB, hRB⟩ : ∃ R, row 74 (nodeW (axU zs 1 f) S) = R := ⟨_, rfl⟩
            rw [hRB] at HNB iB zB oB
            have HRB := Lib.hid hRB
            clear hRB
            go_wp2_with (first | (refine wpList_whole rfl 37 _ rfl gn rfl HNB.out _ Try.underlying37 rfl iB ?_) | (refine wpList_store_row rfl 37 _ _ rfl g4 RB rfl rfl 37 _ H4.out iB zB oB ?_))
            refine ret_row2 (x := .bool false) rfl rfl rfl (H4.out.setRow RB) ⟨by rw [Try.underlying37], iB⟩ rfl ⟨axU zs 1 f, by rw [HUF.out, HRB.out], HOKB.out, fun h => absurd (h.symm.trans HUF.out) (by simp), by have h := below_setRow HBB.out (show w.heap.size ≤ g4 by have := HGG.out; omega) RB; exact h⟩
      · have hc7 : (row 7 fun j => axV zs (2 * 7 + j)) = #[.int .i64 (zAt zs 14), .int .i64 (zAt zs 15), .int .i64 (zAt zs 16), .int .i64 (zAt zs 17), .int .i64 (zAt zs 18), .bool (zAt zs 19 == 1), .int .i64 (zAt zs 20)] := rfl
        have hbo : bentOk zs 2 = decide (zAt zs 19 = 0 ∨ zAt zs 19 = 1) := rfl
        have x0 := HC.out 14 (by omega)
        have x1 := HC.out 15 (by omega)
        have x2 := HC.out 16 (by omega)
        have x3 := HC.out 17 (by omega)
        have x4 := HC.out 18 (by omega)
        have x5 := HC.out 19 (by omega)
        have x6 := HC.out 20 (by omega)
        generalize zAt zs 14 = p0 at *
        generalize zAt zs 15 = p1 at *
        generalize zAt zs 16 = p2 at *
        generalize zAt zs 17 = p3 at *
        generalize zAt zs 18 = p4 at *
        generalize zAt zs 19 = p5 at *
        generalize zAt zs 20 = p6 at *
        by_cases hp : p5 = 0 ∨ p5 = 1
        · have HBT1 := Lib.hid (show bentTo zs 3 = true by show (bentTo zs 2 && bentOk zs 2) = true; rw [HBT.out, hbo, decide_eq_true hp]; rfl)
          have HGT := Lib.hid (show decide (0 < p5) = (p5 == 1) by rcases hp with rfl | rfl <;> rfl)
          have q0 : ¬ p5 < 0 := by omega
          have q1 : ¬ 1 < p5 := by omega
          clear hbo hp
          go_upto_region 7 with fail
          clear q0 q1
          have HS := And.intro x0 (And.intro x1 (And.intro x2 (And.intro x3 (And.intro x4 (And.intro x5 x6)))))
          have HC7 := Lib.hid hc7
          have HTH := Lib.hid (row_there HN.out 20 7 (by omega))
          clear hc7 x0 x1 x2 x3 x4 x5 x6
          refine wp_region_noPanic ?_
          refine Rg.beginR [3, 6, 9, 12, 15, 18, 22] (fun w' => w'.cell? ⟨b, o + 14, none⟩ = some (.int .i64 p0) ∧ w'.cell? ⟨b, o + 15, none⟩ = some (.int .i64 p1) ∧ w'.cell? ⟨b, o + 16, none⟩ = some (.int .i64 p2) ∧ w'.cell? ⟨b, o + 17, none⟩ = some (.int .i64 p3) ∧ w'.cell? ⟨b, o + 18, none⟩ = some (.int .i64 p4) ∧ w'.cell? ⟨b, o + 19, none⟩ = some (.int .i64 p5) ∧ w'.cell? ⟨b, o + 20, none⟩ = some (.int .i64 p6)) (by kernel_rfl) ?_
          have HN := Lib.hid HN.out.drew
          have H4 := Lib.hid H4.out.drew
          have HB := Lib.hid HB.out.drew
          have HTH := Lib.hid (show wr.drew.there gn 20 7 from HTH.out)
          have HS := (show wr.drew.cell? ⟨b, o + 14, none⟩ = some (.int .i64 p0) ∧ wr.drew.cell? ⟨b, o + 15, none⟩ = some (.int .i64 p1) ∧ wr.drew.cell? ⟨b, o + 16, none⟩ = some (.int .i64 p2) ∧ wr.drew.cell? ⟨b, o + 17, none⟩ = some (.int .i64 p3) ∧ wr.drew.cell? ⟨b, o + 18, none⟩ = some (.int .i64 p4) ∧ wr.drew.cell? ⟨b, o + 19, none⟩ = some (.int .i64 p5) ∧ wr.drew.cell? ⟨b, o + 20, none⟩ = some (.int .i64 p6) from HS)
          generalize wr.drew = V0 at *
          refine Rg.takeP (i := 0) (oi := { dst := some 33, op := Op.move (Operand.tmp 6), type := 3, pos := "node.go:189", after := #[], guard := none }) (v := ?_) rfl (by kernel_rfl) (fun _ _ _ h => h) (by rfl) ?_ ?_
          rotate_left 1
          · (intro w; go_simp; (try with_reducible rfl))
          try simp only [Act.put, List.setIfInBounds_toArray, List.set_cons_zero, List.set_cons_succ]
          refine Rg.takeP (i := 1) (oi := { dst := some 34, op := Op.move (Operand.tmp 7), type := 39, pos := "node.go:189", after := #[], guard := none }) (v := ?_) rfl (by kernel_rfl) (fun _ _ _ h => h) (by rfl) ?_ ?_
          rotate_left 1
          · (intro w; go_simp; (try with_reducible rfl))
          try simp only [Act.put, List.setIfInBounds_toArray, List.set_cons_zero, List.set_cons_succ]
          refine Rg.takeP (i := 2) (oi := { dst := some 35, op := Op.indexAddr 39 (Operand.tmp 34) (Operand.const (Value.int IntKind.i64 0)), type := 0, pos := "node.go:189", after := #[{ on := 1, ground := Ground.data }], guard := none }) (v := ?_) rfl (by kernel_rfl) (fun _ _ _ h => h) (by rfl) ?_ ?_
          rotate_left 1
          · (intro w; go_simp; (try with_reducible rfl))
          try simp only [Act.put, List.setIfInBounds_toArray, List.set_cons_zero, List.set_cons_succ]
          refine Rg.takeS (i := 3) (oi := { dst := some 36, op := Op.load 3 (Operand.tmp 35), type := 3, pos := "node.go:189", after := #[{ on := 2, ground := Ground.data }], guard := none }) (v := ?_) rfl (by kernel_rfl) (fun _ _ _ h => h) (by rfl) HS ?_ ?_
          rotate_left 1
          · (intro w hSw; (try dsimp only at hSw); (try go_split_ands); go_simp; (try with_reducible rfl))
          try simp only [Act.put, List.setIfInBounds_toArray, List.set_cons_zero, List.set_cons_succ]
          refine Rg.takeP (i := 4) (oi := { dst := some 37, op := Op.move (Operand.tmp 7), type := 39, pos := "node.go:189", after := #[], guard := none }) (v := ?_) rfl (by kernel_rfl) (fun _ _ _ h => h) (by rfl) ?_ ?_
          rotate_left 1
          · (intro w; go_simp; (try with_reducible rfl))
          try simp only [Act.put, List.setIfInBounds_toArray, List.set_cons_zero, List.set_cons_succ]
          refine Rg.takeP (i := 5) (oi := { dst := some 38, op := Op.indexAddr 39 (Operand.tmp 37) (Operand.const (Value.int IntKind.i64 1)), type := 0, pos := "node.go:189", after := #[{ on := 4, ground := Ground.data }], guard := none }) (v := ?_) rfl (by kernel_rfl) (fun _ _ _ h => h) (by rfl) ?_ ?_
          rotate_left 1
          · (intro w; go_simp; (try with_reducible rfl))
          try simp only [Act.put, List.setIfInBounds_toArray, List.set_cons_zero, List.set_cons_succ]
          refine Rg.takeS (i := 6) (oi := { dst := some 39, op := Op.load 3 (Operand.tmp 38), type := 3, pos := "node.go:189", after := #[{ on := 5, ground := Ground.data }], guard := none }) (v := ?_) rfl (by kernel_rfl) (fun _ _ _ h => h) (by rfl) HS ?_ ?_
          rotate_left 1
          · (intro w hSw; (try dsimp only at hSw); (try go_split_ands); go_simp; (try with_reducible rfl))
          try simp only [Act.put, List.setIfInBounds_toArray, List.set_cons_zero, List.set_cons_succ]
          refine Rg.takeP (i := 7) (oi := { dst := some 40, op := Op.move (Operand.tmp 7), type := 39, pos := "node.go:189", after := #[], guard := none }) (v := ?_) rfl (by kernel_rfl) (fun _ _ _ h => h) (by rfl) ?_ ?_
          rotate_left 1
          · (intro w; go_simp; (try with_reducible rfl))
          try simp only [Act.put, List.setIfInBounds_toArray, List.set_cons_zero, List.set_cons_succ]
          refine Rg.takeP (i := 8) (oi := { dst := some 41, op := Op.indexAddr 39 (Operand.tmp 40) (Operand.const (Value.int IntKind.i64 2)), type := 0, pos := "node.go:189", after := #[{ on := 7, ground := Ground.data }], guard := none }) (v := ?_) rfl (by kernel_rfl) (fun _ _ _ h => h) (by rfl) ?_ ?_
          rotate_left 1
          · (intro w; go_simp; (try with_reducible rfl))
          try simp only [Act.put, List.setIfInBounds_toArray, List.set_cons_zero, List.set_cons_succ]
          refine Rg.takeS (i := 9) (oi := { dst := some 42, op := Op.load 3 (Operand.tmp 41), type := 3, pos := "node.go:189", after := #[{ on := 8, ground := Ground.data }], guard := none }) (v := ?_) rfl (by kernel_rfl) (fun _ _ _ h => h) (by rfl) HS ?_ ?_
          rotate_left 1
          · (intro w hSw; (try dsimp only at hSw); (try go_split_ands); go_simp; (try with_reducible rfl))
          try simp only [Act.put, List.setIfInBounds_toArray, List.set_cons_zero, List.set_cons_succ]
          refine Rg.takeP (i := 10) (oi := { dst := some 43, op := Op.move (Operand.tmp 7), type := 39, pos := "node.go:189", after := #[], guard := none }) (v := ?_) rfl (by kernel_rfl) (fun _ _ _ h => h) (by rfl) ?_ ?_
          rotate_left 1
          · (intro w; go_simp; (try with_reducible rfl))
          try simp only [Act.put, List.setIfInBounds_toArray, List.set_cons_zero, List.set_cons_succ]
          refine Rg.takeP (i := 11) (oi := { dst := some 44, op := Op.indexAddr 39 (Operand.tmp 43) (Operand.const (Value.int IntKind.i64 3)), type := 0, pos := "node.go:189", after := #[{ on := 10, ground := Ground.data }], guard := none }) (v := ?_) rfl (by kernel_rfl) (fun _ _ _ h => h) (by rfl) ?_ ?_
          rotate_left 1
          · (intro w; go_simp; (try with_reducible rfl))
          try simp only [Act.put, List.setIfInBounds_toArray, List.set_cons_zero, List.set_cons_succ]
          refine Rg.takeS (i := 12) (oi := { dst := some 45, op := Op.load 3 (Operand.tmp 44), type := 3, pos := "node.go:189", after := #[{ on := 11, ground := Ground.data }], guard := none }) (v := ?_) rfl (by kernel_rfl) (fun _ _ _ h => h) (by rfl) HS ?_ ?_
          rotate_left 1
          · (intro w hSw; (try dsimp only at hSw); (try go_split_ands); go_simp; (try with_reducible rfl))
          try simp only [Act.put, List.setIfInBounds_toArray, List.set_cons_zero, List.set_cons_succ]
          refine Rg.takeP (i := 13) (oi := { dst := some 46, op := Op.move (Operand.tmp 7), type := 39, pos := "node.go:189", after := #[], guard := none }) (v := ?_) rfl (by kernel_rfl) (fun _ _ _ h => h) (by rfl) ?_ ?_
          rotate_left 1
          · (intro w; go_simp; (try with_reducible rfl))
          try simp only [Act.put, List.setIfInBounds_toArray, List.set_cons_zero, List.set_cons_succ]
          refine Rg.takeP (i := 14) (oi := { dst := some 47, op := Op.indexAddr 39 (Operand.tmp 46) (Operand.const (Value.int IntKind.i64 4)), type := 0, pos := "node.go:189", after := #[{ on := 13, ground := Ground.data }], guard := none }) (v := ?_) rfl (by kernel_rfl) (fun _ _ _ h => h) (by rfl) ?_ ?_
          rotate_left 1
          · (intro w; go_simp; (try with_reducible rfl))
          try simp only [Act.put, List.setIfInBounds_toArray, List.set_cons_zero, List.set_cons_succ]
          refine Rg.takeS (i := 15) (oi := { dst := some 48, op := Op.load 3 (Operand.tmp 47), type := 3, pos := "node.go:189", after := #[{ on := 14, ground := Ground.data }], guard := none }) (v := ?_) rfl (by kernel_rfl) (fun _ _ _ h => h) (by rfl) HS ?_ ?_
          rotate_left 1
          · (intro w hSw; (try dsimp only at hSw); (try go_split_ands); go_simp; (try with_reducible rfl))
          try simp only [Act.put, List.setIfInBounds_toArray, List.set_cons_zero, List.set_cons_succ]
          refine Rg.takeP (i := 16) (oi := { dst := some 49, op := Op.move (Operand.tmp 7), type := 39, pos := "node.go:189", after := #[], guard := none }) (v := ?_) rfl (by kernel_rfl) (fun _ _ _ h => h) (by rfl) ?_ ?_
          rotate_left 1
          · (intro w; go_simp; (try with_reducible rfl))
          try simp only [Act.put, List.setIfInBounds_toArray, List.set_cons_zero, List.set_cons_succ]
          refine Rg.takeP (i := 17) (oi := { dst := some 50, op := Op.indexAddr 39 (Operand.tmp 49) (Operand.const (Value.int IntKind.i64 5)), type := 0, pos := "node.go:189", after := #[{ on := 16, ground := Ground.data }], guard := none }) (v := ?_) rfl (by kernel_rfl) (fun _ _ _ h => h) (by rfl) ?_ ?_
          rotate_left 1
          · (intro w; go_simp; (try with_reducible rfl))
          try simp only [Act.put, List.setIfInBounds_toArray, List.set_cons_zero, List.set_cons_succ]
          refine Rg.takeS (i := 18) (oi := { dst := some 51, op := Op.load 3 (Operand.tmp 50), type := 3, pos := "node.go:189", after := #[{ on := 17, ground := Ground.data }], guard := none }) (v := ?_) rfl (by kernel_rfl) (fun _ _ _ h => h) (by rfl) HS ?_ ?_
          rotate_left 1
          · (intro w hSw; (try dsimp only at hSw); (try go_split_ands); go_simp; (try with_reducible rfl))
          try simp only [Act.put, List.setIfInBounds_toArray, List.set_cons_zero, List.set_cons_succ]
          refine Rg.takeP (i := 19) (oi := { dst := some 52, op := Op.binOp BinOp.gtr 3 (Operand.tmp 51) (Operand.const (Value.int IntKind.i64 0)) 3, type := 4, pos := "node.go:189", after := #[{ on := 18, ground := Ground.data }], guard := none }) (v := ?_) rfl (by kernel_rfl) (fun _ _ _ h => h) (by rfl) ?_ ?_
          rotate_left 1
          · (intro w; go_simp; (try with_reducible rfl))
          try simp only [Act.put, List.setIfInBounds_toArray, List.set_cons_zero, List.set_cons_succ]
          refine Rg.takeP (i := 20) (oi := { dst := some 53, op := Op.move (Operand.tmp 7), type := 39, pos := "node.go:189", after := #[], guard := none }) (v := ?_) rfl (by kernel_rfl) (fun _ _ _ h => h) (by rfl) ?_ ?_
          rotate_left 1
          · (intro w; go_simp; (try with_reducible rfl))
          try simp only [Act.put, List.setIfInBounds_toArray, List.set_cons_zero, List.set_cons_succ]
          refine Rg.takeP (i := 21) (oi := { dst := some 54, op := Op.indexAddr 39 (Operand.tmp 53) (Operand.const (Value.int IntKind.i64 6)), type := 0, pos := "node.go:189", after := #[{ on := 20, ground := Ground.data }], guard := none }) (v := ?_) rfl (by kernel_rfl) (fun _ _ _ h => h) (by rfl) ?_ ?_
          rotate_left 1
          · (intro w; go_simp; (try with_reducible rfl))
          try simp only [Act.put, List.setIfInBounds_toArray, List.set_cons_zero, List.set_cons_succ]
          refine Rg.takeS (i := 22) (oi := { dst := some 55, op := Op.load 3 (Operand.tmp 54), type := 3, pos := "node.go:189", after := #[{ on := 21, ground := Ground.data }], guard := none }) (v := ?_) rfl (by kernel_rfl) (fun _ _ _ h => h) (by rfl) HS ?_ ?_
          rotate_left 1
          · (intro w hSw; (try dsimp only at hSw); (try go_split_ands); go_simp; (try with_reducible rfl))
          try simp only [Act.put, List.setIfInBounds_toArray, List.set_cons_zero, List.set_cons_succ]
          refine Rg.takeP (i := 23) (oi := { dst := some 56, op := Op.build 25 #[(0, Operand.tmp 36), (1, Operand.tmp 39), (2, Operand.tmp 42), (3, Operand.tmp 45), (4, Operand.tmp 48), (5, Operand.tmp 52), (6, Operand.tmp 55)], type := 25, pos := "node.go:189", after := #[{ on := 3, ground := Ground.data }, { on := 6, ground := Ground.data }, { on := 9, ground := Ground.data }, { on := 12, ground := Ground.data }, { on := 15, ground := Ground.data }, { on := 19, ground := Ground.data }, { on := 22, ground := Ground.data }], guard := none }) (v := ?_) rfl (by kernel_rfl) (fun _ _ _ h => h) (by rfl) ?_ ?_
          rotate_left 1
          · (intro w; go_simp; (try with_reducible rfl))
          try simp only [Act.put, List.setIfInBounds_toArray, List.set_cons_zero, List.set_cons_succ]
          refine Rg.takeP (i := 24) (oi := { dst := some 57, op := Op.fieldAddr 37 (Operand.tmp 2) 3, type := 0, pos := "node.go:189", after := #[], guard := none }) (v := ?_) rfl (by kernel_rfl) (fun _ _ _ h => h) (by rfl) ?_ ?_
          rotate_left 1
          · (intro w; go_simp; (try with_reducible rfl))
          try simp only [Act.put, List.setIfInBounds_toArray, List.set_cons_zero, List.set_cons_succ]
          refine Rg.takeP (i := 25) (oi := { dst := some 58, op := Op.indexAddr 26 (Operand.tmp 57) (Operand.tmp 33), type := 0, pos := "node.go:189", after := #[{ on := 24, ground := Ground.data }, { on := 0, ground := Ground.data }, { on := 0, ground := Ground.phase }, { on := 1, ground := Ground.phase }, { on := 2, ground := Ground.phase }, { on := 3, ground := Ground.phase }, { on := 4, ground := Ground.phase }, { on := 5, ground := Ground.phase }, { on := 6, ground := Ground.phase }, { on := 7, ground := Ground.phase }, { on := 8, ground := Ground.phase }, { on := 9, ground := Ground.phase }, { on := 10, ground := Ground.phase }, { on := 11, ground := Ground.phase }, { on := 12, ground := Ground.phase }, { on := 13, ground := Ground.phase }, { on := 14, ground := Ground.phase }, { on := 15, ground := Ground.phase }, { on := 16, ground := Ground.phase }, { on := 17, ground := Ground.phase }, { on := 18, ground := Ground.phase }, { on := 19, ground := Ground.phase }, { on := 20, ground := Ground.phase }, { on := 21, ground := Ground.phase }, { on := 22, ground := Ground.phase }, { on := 23, ground := Ground.phase }], guard := none }) (v := ?_) rfl (by kernel_rfl) (fun _ _ _ h => h) (by rfl) ?_ ?_
          rotate_left 1
          · (intro w; go_simp; (try with_reducible rfl))
          try simp only [Act.put, List.setIfInBounds_toArray, List.set_cons_zero, List.set_cons_succ]
          refine Rg.oneR (i := 26) (oi := { dst := none, op := Op.store 25 (Operand.tmp 58) (Operand.tmp 56), type := 0, pos := "node.go:189", after := #[{ on := 25, ground := Ground.data }, { on := 23, ground := Ground.data }, { on := 0, ground := Ground.phase }, { on := 1, ground := Ground.phase }, { on := 2, ground := Ground.phase }, { on := 3, ground := Ground.phase }, { on := 4, ground := Ground.phase }, { on := 5, ground := Ground.phase }, { on := 6, ground := Ground.phase }, { on := 7, ground := Ground.phase }, { on := 8, ground := Ground.phase }, { on := 9, ground := Ground.phase }, { on := 10, ground := Ground.phase }, { on := 11, ground := Ground.phase }, { on := 12, ground := Ground.phase }, { on := 13, ground := Ground.phase }, { on := 14, ground := Ground.phase }, { on := 15, ground := Ground.phase }, { on := 16, ground := Ground.phase }, { on := 17, ground := Ground.phase }, { on := 18, ground := Ground.phase }, { on := 19, ground := Ground.phase }, { on := 20, ground := Ground.phase }, { on := 21, ground := Ground.phase }, { on := 22, ground := Ground.phase }, { on := 23, ground := Ground.phase }], guard := none }) rfl (by kernel_rfl) ?_
          refine Rg.stepF ?_ ?_
          · kernel_rfl
          intro K hK
          rw [if_pos (by rfl)]
          refine wp_store_mid 25 (.tmp 58) (.tmp 56) rfl gn 20 #[.int .i64 p0, .int .i64 p1, .int .i64 p2, .int .i64 p3, .int .i64 p4, .bool (p5 == 1), .int .i64 p6] rfl (by rw [← HGT.out]; rfl) HTH.out (by kernel_rfl) (by simp [Value.oneCell']) ?_
          have HN := Lib.hid (blk_mid HN.out (6 + 2 * 7) 7 (fun j => axV zs (2 * 7 + j)))
          rw [ax_put zs 2 (by omega), HC7.out] at HN
          have HB := Lib.hid (below_setCells (show w.heap.size ≤ gn by have := HGG.out; omega) (#[.int .i64 p0, .int .i64 p1, .int .i64 p2, .int .i64 p3, .int .i64 p4, .bool (p5 == 1), .int .i64 p6] : Array Value).toList 20 HB.out)
          have H4 := Lib.hid (blk_mid_other (w := V0) (b' := gn) (by have := HGG.out; omega) (#[.int .i64 p0, .int .i64 p1, .int .i64 p2, .int .i64 p3, .int .i64 p4, .bool (p5 == 1), .int .i64 p6] : Array Value).toList 20 _ H4.out)
          have HN : Hid (Blk (V0.setCells gn 20 (#[.int .i64 p0, .int .i64 p1, .int .i64 p2, .int .i64 p3, .int .i64 p4, .bool (p5 == 1), .int .i64 p6] : Array Value).toList) gn 37 (row 74 (nodeW (axU zs (2 + 1) f) S))) := HN
          generalize (V0.setCells gn 20 (#[.int .i64 p0, .int .i64 p1, .int .i64 p2, .int .i64 p3, .int .i64 p4, .bool (p5 == 1), .int .i64 p6] : Array Value).toList) = V1 at *
          refine hK.out _ _ ?_
          clear hK K
          try simp only [Act.put, List.setIfInBounds_toArray, List.set_cons_zero, List.set_cons_succ]
          refine Rg.doneR (by kernel_rfl) ?_ _
          refine NoPanic.normal ?_
          clear HS
          go_wp2_with fail
          exact ⟨⟨3, by omega, rfl, HBT1.out, HN.out, H4.out, HB.out⟩, by simp [intOf]⟩
        · have HUF := Lib.hid (show unpackOk zs = false by unfold unpackOk; rw [bent_bad (k := 2) (by rw [hbo]; exact decide_eq_false hp) (by omega), Bool.and_false])
          have HNB := HN
          have HBB := HB
          by_cases q0 : p5 < 0
          · clear hbo hp
            have HOKB := Lib.hid (show ∀ i, i < 73 → okT (nodeT i) (axU zs 2 f i) from ok_axU HF.out zs 2 (by omega))
            have iB : (Try.prog.info? 37).map (·.size) = some (row 74 (nodeW (axU zs 2 f) S)).size := by rw [row_size]; kernel_rfl
            have zB : (Try.zeroCells37).size = (row 74 (nodeW (axU zs 2 f) S)).size := by rw [row_size]; kernel_rfl
            have oB : (row 74 (nodeW (axU zs 2 f) S)).all (·.oneCell') = true := one_of2 HOKB.out HS1.out
            have HFB := Lib.hid (show (fun i => (axU zs 2 f) i) = axU zs 2 f from rfl)
            obtain ⟨RB, hRB⟩ : ∃ R, row 74 (nodeW (axU zs 2 f) S) = R := ⟨_, rfl⟩
            rw [hRB] at HNB iB zB oB
            have HRB := Lib.hid hRB
            clear hRB
            go_wp2_with (first | (refine wpList_whole rfl 37 _ rfl gn rfl HNB.out _ Try.underlying37 rfl iB ?_) | (refine wpList_store_row rfl 37 _ _ rfl g4 RB rfl rfl 37 _ H4.out iB zB oB ?_))
            refine ret_row2 (x := .bool false) rfl rfl rfl (H4.out.setRow RB) ⟨by rw [Try.underlying37], iB⟩ rfl ⟨axU zs 2 f, by rw [HUF.out, HRB.out], HOKB.out, fun h => absurd (h.symm.trans HUF.out) (by simp), by have h := below_setRow HBB.out (show w.heap.size ≤ g4 by have := HGG.out; omega) RB; exact h⟩
          · have q1 : 1 < p5 := by omega
            clear hbo hp
            have HOKB := Lib.hid (show ∀ i, i < 73 → okT (nodeT i) (axU zs 2 f i) from ok_axU HF.out zs 2 (by omega))
            have iB : (Try.prog.info? 37).map (·.size) = some (row 74 (nodeW (axU zs 2 f) S)).size := by rw [row_size]; kernel_rfl
            have zB : (Try.zeroCells37).size = (row 74 (nodeW (axU zs 2 f) S)).size := by rw [row_size]; kernel_rfl
            have oB : (row 74 (nodeW (axU zs 2 f) S)).all (·.oneCell') = true := one_of2 HOKB.out HS1.out
            have HFB := Lib.hid (show (fun i => (axU zs 2 f) i) = axU zs 2 f from rfl)
            obtain ⟨RB, hRB⟩ : ∃ R, row 74 (nodeW (axU zs 2 f) S) = R := ⟨_, rfl⟩
            rw [hRB] at HNB iB zB oB
            have HRB := Lib.hid hRB
            clear hRB
            go_wp2_with (first | (refine wpList_whole rfl 37 _ rfl gn rfl HNB.out _ Try.underlying37 rfl iB ?_) | (refine wpList_store_row rfl 37 _ _ rfl g4 RB rfl rfl 37 _ H4.out iB zB oB ?_))
            refine ret_row2 (x := .bool false) rfl rfl rfl (H4.out.setRow RB) ⟨by rw [Try.underlying37], iB⟩ rfl ⟨axU zs 2 f, by rw [HUF.out, HRB.out], HOKB.out, fun h => absurd (h.symm.trans HUF.out) (by simp), by have h := below_setRow HBB.out (show w.heap.size ≤ g4 by have := HGG.out; omega) RB; exact h⟩
    · obtain rfl : k = 3 := by omega
      clear hlt
      rw [show ((3 : Nat) : Int) = 3 from rfl]
      have HTO := Lib.hid (show tailOk zs = decide (0 ≤ zAt zs 21 ∧ zAt zs 21 < 16 ∧ 0 ≤ zAt zs 22 ∧ zAt zs 22 < 4096 ∧ 0 ≤ zAt zs 23 ∧ zAt zs 23 < 4096) from rfl)
      have x21 := HC.out 21 (by omega)
      have x22 := HC.out 22 (by omega)
      have x23 := HC.out 23 (by omega)
      obtain ⟨z1, hz1⟩ : ∃ z, zAt zs 21 = z := ⟨_, rfl⟩
      obtain ⟨z2, hz2⟩ : ∃ z, zAt zs 22 = z := ⟨_, rfl⟩
      obtain ⟨z3, hz3⟩ : ∃ z, zAt zs 23 = z := ⟨_, rfl⟩
      rw [hz1, hz2, hz3] at HTO
      rw [hz1] at x21
      rw [hz2] at x22
      rw [hz3] at x23
      have HZ1 := Lib.hid hz1
      have HZ2 := Lib.hid hz2
      have HZ3 := Lib.hid hz3
      clear hz1 hz2 hz3
      by_cases q0 : z1 < 0
      · have HUF := Lib.hid (show unpackOk zs = false by unfold unpackOk; rw [show tailOk zs = false by rw [HTO.out]; exact decide_eq_false (by omega), Bool.false_and, Bool.false_and])
        have HNB := HN
        have HBB := HB
        have HOKB := Lib.hid (show ∀ i, i < 73 → okT (nodeT i) (axU zs 3 f i) from ok_axU HF.out zs 3 (by omega))
        have iB : (Try.prog.info? 37).map (·.size) = some (row 74 (nodeW (axU zs 3 f) S)).size := by rw [row_size]; kernel_rfl
        have zB : (Try.zeroCells37).size = (row 74 (nodeW (axU zs 3 f) S)).size := by rw [row_size]; kernel_rfl
        have oB : (row 74 (nodeW (axU zs 3 f) S)).all (·.oneCell') = true := one_of2 HOKB.out HS1.out
        have HFB := Lib.hid (show (fun i => (axU zs 3 f) i) = axU zs 3 f from rfl)
        obtain ⟨RB, hRB⟩ : ∃ R, row 74 (nodeW (axU zs 3 f) S) = R := ⟨_, rfl⟩
        rw [hRB] at HNB iB zB oB
        have HRB := Lib.hid hRB
        clear hRB
        go_wp2_with (first | (refine wpList_whole rfl 37 _ rfl gn rfl HNB.out _ Try.underlying37 rfl iB ?_) | (refine wpList_store_row rfl 37 _ _ rfl g4 RB rfl rfl 37 _ H4.out iB zB oB ?_))
        refine ret_row2 (x := .bool false) rfl rfl rfl (H4.out.setRow RB) ⟨by rw [Try.underlying37], iB⟩ rfl ⟨axU zs 3 f, by rw [HUF.out, HRB.out], HOKB.out, fun h => absurd (h.symm.trans HUF.out) (by simp), by have h := below_setRow HBB.out (show w.heap.size ≤ g4 by have := HGG.out; omega) RB; exact h⟩
      ·
        by_cases q1 : 15 < z1
        · have HUF := Lib.hid (show unpackOk zs = false by unfold unpackOk; rw [show tailOk zs = false by rw [HTO.out]; exact decide_eq_false (by omega), Bool.false_and, Bool.false_and])
          have HNB := HN
          have HBB := HB
          have HOKB := Lib.hid (show ∀ i, i < 73 → okT (nodeT i) (axU zs 3 f i) from ok_axU HF.out zs 3 (by omega))
          have iB : (Try.prog.info? 37).map (·.size) = some (row 74 (nodeW (axU zs 3 f) S)).size := by rw [row_size]; kernel_rfl
          have zB : (Try.zeroCells37).size = (row 74 (nodeW (axU zs 3 f) S)).size := by rw [row_size]; kernel_rfl
          have oB : (row 74 (nodeW (axU zs 3 f) S)).all (·.oneCell') = true := one_of2 HOKB.out HS1.out
          have HFB := Lib.hid (show (fun i => (axU zs 3 f) i) = axU zs 3 f from rfl)
          obtain ⟨RB, hRB⟩ : ∃ R, row 74 (nodeW (axU zs 3 f) S) = R := ⟨_, rfl⟩
          rw [hRB] at HNB iB zB oB
          have HRB := Lib.hid hRB
          clear hRB
          go_wp2_with (first | (refine wpList_whole rfl 37 _ rfl gn rfl HNB.out _ Try.underlying37 rfl iB ?_) | (refine wpList_store_row rfl 37 _ _ rfl g4 RB rfl rfl 37 _ H4.out iB zB oB ?_))
          refine ret_row2 (x := .bool false) rfl rfl rfl (H4.out.setRow RB) ⟨by rw [Try.underlying37], iB⟩ rfl ⟨axU zs 3 f, by rw [HUF.out, HRB.out], HOKB.out, fun h => absurd (h.symm.trans HUF.out) (by simp), by have h := below_setRow HBB.out (show w.heap.size ≤ g4 by have := HGG.out; omega) RB; exact h⟩
        ·
          by_cases q2 : z2 < 0
          · have HUF := Lib.hid (show unpackOk zs = false by unfold unpackOk; rw [show tailOk zs = false by rw [HTO.out]; exact decide_eq_false (by omega), Bool.false_and, Bool.false_and])
            have HNB := HN
            have HBB := HB
            have HOKB := Lib.hid (show ∀ i, i < 73 → okT (nodeT i) (axU zs 3 f i) from ok_axU HF.out zs 3 (by omega))
            have iB : (Try.prog.info? 37).map (·.size) = some (row 74 (nodeW (axU zs 3 f) S)).size := by rw [row_size]; kernel_rfl
            have zB : (Try.zeroCells37).size = (row 74 (nodeW (axU zs 3 f) S)).size := by rw [row_size]; kernel_rfl
            have oB : (row 74 (nodeW (axU zs 3 f) S)).all (·.oneCell') = true := one_of2 HOKB.out HS1.out
            have HFB := Lib.hid (show (fun i => (axU zs 3 f) i) = axU zs 3 f from rfl)
            obtain ⟨RB, hRB⟩ : ∃ R, row 74 (nodeW (axU zs 3 f) S) = R := ⟨_, rfl⟩
            rw [hRB] at HNB iB zB oB
            have HRB := Lib.hid hRB
            clear hRB
            go_wp2_with (first | (refine wpList_whole rfl 37 _ rfl gn rfl HNB.out _ Try.underlying37 rfl iB ?_) | (refine wpList_store_row rfl 37 _ _ rfl g4 RB rfl rfl 37 _ H4.out iB zB oB ?_))
            refine ret_row2 (x := .bool false) rfl rfl rfl (H4.out.setRow RB) ⟨by rw [Try.underlying37], iB⟩ rfl ⟨axU zs 3 f, by rw [HUF.out, HRB.out], HOKB.out, fun h => absurd (h.symm.trans HUF.out) (by simp), by have h := below_setRow HBB.out (show w.heap.size ≤ g4 by have := HGG.out; omega) RB; exact h⟩
          ·
            by_cases q3 : 4095 < z2
            · have HUF := Lib.hid (show unpackOk zs = false by unfold unpackOk; rw [show tailOk zs = false by rw [HTO.out]; exact decide_eq_false (by omega), Bool.false_and, Bool.false_and])
              have HNB := HN
              have HBB := HB
              have HOKB := Lib.hid (show ∀ i, i < 73 → okT (nodeT i) (axU zs 3 f i) from ok_axU HF.out zs 3 (by omega))
              have iB : (Try.prog.info? 37).map (·.size) = some (row 74 (nodeW (axU zs 3 f) S)).size := by rw [row_size]; kernel_rfl
              have zB : (Try.zeroCells37).size = (row 74 (nodeW (axU zs 3 f) S)).size := by rw [row_size]; kernel_rfl
              have oB : (row 74 (nodeW (axU zs 3 f) S)).all (·.oneCell') = true := one_of2 HOKB.out HS1.out
              have HFB := Lib.hid (show (fun i => (axU zs 3 f) i) = axU zs 3 f from rfl)
              obtain ⟨RB, hRB⟩ : ∃ R, row 74 (nodeW (axU zs 3 f) S) = R := ⟨_, rfl⟩
              rw [hRB] at HNB iB zB oB
              have HRB := Lib.hid hRB
              clear hRB
              go_wp2_with (first | (refine wpList_whole rfl 37 _ rfl gn rfl HNB.out _ Try.underlying37 rfl iB ?_) | (refine wpList_store_row rfl 37 _ _ rfl g4 RB rfl rfl 37 _ H4.out iB zB oB ?_))
              refine ret_row2 (x := .bool false) rfl rfl rfl (H4.out.setRow RB) ⟨by rw [Try.underlying37], iB⟩ rfl ⟨axU zs 3 f, by rw [HUF.out, HRB.out], HOKB.out, fun h => absurd (h.symm.trans HUF.out) (by simp), by have h := below_setRow HBB.out (show w.heap.size ≤ g4 by have := HGG.out; omega) RB; exact h⟩
            ·
              by_cases q4 : z3 < 0
              · have HUF := Lib.hid (show unpackOk zs = false by unfold unpackOk; rw [show tailOk zs = false by rw [HTO.out]; exact decide_eq_false (by omega), Bool.false_and, Bool.false_and])
                have HNB := HN
                have HBB := HB
                have HOKB := Lib.hid (show ∀ i, i < 73 → okT (nodeT i) (axU zs 3 f i) from ok_axU HF.out zs 3 (by omega))
                have iB : (Try.prog.info? 37).map (·.size) = some (row 74 (nodeW (axU zs 3 f) S)).size := by rw [row_size]; kernel_rfl
                have zB : (Try.zeroCells37).size = (row 74 (nodeW (axU zs 3 f) S)).size := by rw [row_size]; kernel_rfl
                have oB : (row 74 (nodeW (axU zs 3 f) S)).all (·.oneCell') = true := one_of2 HOKB.out HS1.out
                have HFB := Lib.hid (show (fun i => (axU zs 3 f) i) = axU zs 3 f from rfl)
                obtain ⟨RB, hRB⟩ : ∃ R, row 74 (nodeW (axU zs 3 f) S) = R := ⟨_, rfl⟩
                rw [hRB] at HNB iB zB oB
                have HRB := Lib.hid hRB
                clear hRB
                go_wp2_with (first | (refine wpList_whole rfl 37 _ rfl gn rfl HNB.out _ Try.underlying37 rfl iB ?_) | (refine wpList_store_row rfl 37 _ _ rfl g4 RB rfl rfl 37 _ H4.out iB zB oB ?_))
                refine ret_row2 (x := .bool false) rfl rfl rfl (H4.out.setRow RB) ⟨by rw [Try.underlying37], iB⟩ rfl ⟨axU zs 3 f, by rw [HUF.out, HRB.out], HOKB.out, fun h => absurd (h.symm.trans HUF.out) (by simp), by have h := below_setRow HBB.out (show w.heap.size ≤ g4 by have := HGG.out; omega) RB; exact h⟩
              ·
                by_cases q5 : 4095 < z3
                · have HUF := Lib.hid (show unpackOk zs = false by unfold unpackOk; rw [show tailOk zs = false by rw [HTO.out]; exact decide_eq_false (by omega), Bool.false_and, Bool.false_and])
                  have HNB := HN
                  have HBB := HB
                  have HOKB := Lib.hid (show ∀ i, i < 73 → okT (nodeT i) (axU zs 3 f i) from ok_axU HF.out zs 3 (by omega))
                  have iB : (Try.prog.info? 37).map (·.size) = some (row 74 (nodeW (axU zs 3 f) S)).size := by rw [row_size]; kernel_rfl
                  have zB : (Try.zeroCells37).size = (row 74 (nodeW (axU zs 3 f) S)).size := by rw [row_size]; kernel_rfl
                  have oB : (row 74 (nodeW (axU zs 3 f) S)).all (·.oneCell') = true := one_of2 HOKB.out HS1.out
                  have HFB := Lib.hid (show (fun i => (axU zs 3 f) i) = axU zs 3 f from rfl)
                  obtain ⟨RB, hRB⟩ : ∃ R, row 74 (nodeW (axU zs 3 f) S) = R := ⟨_, rfl⟩
                  rw [hRB] at HNB iB zB oB
                  have HRB := Lib.hid hRB
                  clear hRB
                  go_wp2_with (first | (refine wpList_whole rfl 37 _ rfl gn rfl HNB.out _ Try.underlying37 rfl iB ?_) | (refine wpList_store_row rfl 37 _ _ rfl g4 RB rfl rfl 37 _ H4.out iB zB oB ?_))
                  refine ret_row2 (x := .bool false) rfl rfl rfl (H4.out.setRow RB) ⟨by rw [Try.underlying37], iB⟩ rfl ⟨axU zs 3 f, by rw [HUF.out, HRB.out], HOKB.out, fun h => absurd (h.symm.trans HUF.out) (by simp), by have h := below_setRow HBB.out (show w.heap.size ≤ g4 by have := HGG.out; omega) RB; exact h⟩
                ·
                  have HTK := Lib.hid (show tailOk zs = true by rw [HTO.out]; exact decide_eq_true (by omega))
                  go_upto_region 10 with fail
                  obtain ⟨v1, rfl⟩ : ∃ v : Nat, z1 = (v : Int) := ⟨z1.toNat, by omega⟩
                  obtain ⟨v2, rfl⟩ : ∃ v : Nat, z2 = (v : Int) := ⟨z2.toNat, by omega⟩
                  obtain ⟨v3, rfl⟩ : ∃ v : Nat, z3 = (v : Int) := ⟨z3.toNat, by omega⟩
                  have hv2 : v2 < 4096 := by omega
                  have hv3 : v3 < 4096 := by omega
                  have hv1 : v1 < 16 := by omega
                  have HS := And.intro x22 x23
                  have HN := Lib.hid HN.out.drew
                  have H4 := Lib.hid H4.out.drew
                  have HB := Lib.hid HB.out.drew
                  clear q0 q1 q2 q3 q4 q5 x21 x22 x23 HC
                  refine wp_region_noPanic ?_
                  refine Rg.beginR [2, 5] (fun w' => w'.cell? ⟨b, o + 22, none⟩ = some (.int .i64 v2) ∧ w'.cell? ⟨b, o + 23, none⟩ = some (.int .i64 v3)) (by kernel_rfl) ?_
                  have HS := (show wr.drew.cell? ⟨b, o + 22, none⟩ = some (.int .i64 v2) ∧ wr.drew.cell? ⟨b, o + 23, none⟩ = some (.int .i64 v3) from HS)
                  generalize wr.drew = V0 at *
                  refine Rg.takeP (i := 0) (oi := { dst := some 94, op := Op.move (Operand.tmp 1), type := 39, pos := "node.go:194", after := #[], guard := none }) (v := ?_) rfl (by kernel_rfl) (fun _ _ _ h => h) (by rfl) ?_ ?_
                  rotate_left 1
                  · (intro w; go_simp; (try with_reducible rfl))
                  try simp only [Act.put, List.setIfInBounds_toArray, List.set_cons_zero, List.set_cons_succ]
                  refine Rg.takeP (i := 1) (oi := { dst := some 95, op := Op.indexAddr 39 (Operand.tmp 94) (Operand.const (Value.int IntKind.i64 22)), type := 0, pos := "node.go:194", after := #[{ on := 0, ground := Ground.data }], guard := none }) (v := ?_) rfl (by kernel_rfl) (fun _ _ _ h => h) (by rfl) ?_ ?_
                  rotate_left 1
                  · (intro w; go_simp; (try with_reducible rfl))
                  try simp only [Act.put, List.setIfInBounds_toArray, List.set_cons_zero, List.set_cons_succ]
                  refine Rg.takeS (i := 2) (oi := { dst := some 96, op := Op.load 3 (Operand.tmp 95), type := 3, pos := "node.go:194", after := #[{ on := 1, ground := Ground.data }], guard := none }) (v := ?_) rfl (by kernel_rfl) (fun _ _ _ h => h) (by rfl) HS ?_ ?_
                  rotate_left 1
                  · (intro w hSw; (try dsimp only at hSw); (try go_split_ands); go_simp; (try with_reducible rfl))
                  try simp only [Act.put, List.setIfInBounds_toArray, List.set_cons_zero, List.set_cons_succ]
                  refine Rg.takeP (i := 3) (oi := { dst := some 97, op := Op.move (Operand.tmp 1), type := 39, pos := "node.go:194", after := #[{ on := 6, ground := Ground.gcOnly Departure.lateStores }], guard := none }) (v := ?_) rfl (by kernel_rfl) (fun _ _ _ h => h) (by rfl) ?_ ?_
                  rotate_left 1
                  · (intro w; go_simp; (try with_reducible rfl))
                  try simp only [Act.put, List.setIfInBounds_toArray, List.set_cons_zero, List.set_cons_succ]
                  refine Rg.takeP (i := 4) (oi := { dst := some 98, op := Op.indexAddr 39 (Operand.tmp 97) (Operand.const (Value.int IntKind.i64 23)), type := 0, pos := "node.go:194", after := #[{ on := 3, ground := Ground.data }, { on := 6, ground := Ground.gcOnly Departure.lateStores }], guard := none }) (v := ?_) rfl (by kernel_rfl) (fun _ _ _ h => h) (by rfl) ?_ ?_
                  rotate_left 1
                  · (intro w; go_simp; (try with_reducible rfl))
                  try simp only [Act.put, List.setIfInBounds_toArray, List.set_cons_zero, List.set_cons_succ]
                  refine Rg.takeS (i := 5) (oi := { dst := some 99, op := Op.load 3 (Operand.tmp 98), type := 3, pos := "node.go:194", after := #[{ on := 4, ground := Ground.data }, { on := 6, ground := Ground.gcOnly Departure.lateStores }], guard := none }) (v := ?_) rfl (by kernel_rfl) (fun _ _ _ h => h) (by rfl) HS ?_ ?_
                  rotate_left 1
                  · (intro w hSw; (try dsimp only at hSw); (try go_split_ands); go_simp; (try with_reducible rfl))
                  try simp only [Act.put, List.setIfInBounds_toArray, List.set_cons_zero, List.set_cons_succ]
                  refine Rg.takeP (i := 6) (oi := { dst := some 8, op := Op.assign (Operand.tmp 96), type := 3, pos := "node.go:194", after := #[{ on := 2, ground := Ground.data }, { on := 0, ground := Ground.phase }, { on := 1, ground := Ground.phase }, { on := 2, ground := Ground.phase }, { on := 3, ground := Ground.textOnly Departure.lateStores }, { on := 4, ground := Ground.textOnly Departure.lateStores }, { on := 5, ground := Ground.textOnly Departure.lateStores }], guard := none }) (v := ?_) rfl (by kernel_rfl) (fun _ _ _ h => h) (by rfl) ?_ ?_
                  rotate_left 1
                  · (intro w; go_simp; (try with_reducible rfl))
                  try simp only [Act.put, List.setIfInBounds_toArray, List.set_cons_zero, List.set_cons_succ]
                  refine Rg.takeP (i := 7) (oi := { dst := some 9, op := Op.assign (Operand.tmp 99), type := 3, pos := "node.go:194", after := #[{ on := 5, ground := Ground.data }, { on := 6, ground := Ground.chain }, { on := 0, ground := Ground.phase }, { on := 1, ground := Ground.phase }, { on := 2, ground := Ground.phase }, { on := 3, ground := Ground.phase }, { on := 4, ground := Ground.phase }, { on := 5, ground := Ground.phase }, { on := 6, ground := Ground.phase }], guard := none }) (v := ?_) rfl (by kernel_rfl) (fun _ _ _ h => h) (by rfl) ?_ ?_
                  rotate_left 1
                  · (intro w; go_simp; (try with_reducible rfl))
                  try simp only [Act.put, List.setIfInBounds_toArray, List.set_cons_zero, List.set_cons_succ]
                  refine Rg.doneR (by kernel_rfl) ?_ _
                  refine NoPanic.normal ?_
                  clear HS
                  go_wp2_with fail
                  go_loopw [8, 9, 10] (fun mv jv iv wr => ∃ n : Nat, n ≤ 4 ∧ iv = .int .i64 ((n : Int) - 1) ∧ mv = .int .i64 ((v2 / 8 ^ (4 - n) : Nat) : Int) ∧ jv = .int .i64 ((v3 / 8 ^ (4 - n) : Nat) : Int) ∧ Blk wr gn 37 (row 74 (nodeW (rollD (rollU zs) n (axU zs 3 f)) S)) ∧ Blk wr g4 37 Try.zeroCells37 ∧ Below w.heap.size w wr) (fun _ _ iv _ => (intOf iv + 1).toNat)
                  case atStart => exact ⟨4, by omega, rfl, by simp, by simp, by rw [rollD_top]; exact HN.out, H4.out, HB.out⟩
                  case round =>
                    clear HN H4 HB
                    obtain ⟨n, hn4, rfl, rfl, rfl, hn, h4, hbb⟩ := hrel
                    have HN := Lib.hid hn
                    have H4 := Lib.hid h4
                    have HB := Lib.hid hbb
                    clear hn h4 hbb
                    have x21 := (HB.out.cell (p := ⟨b, o + 21, none⟩) (by show b < w.heap.size; rw [HG1.out]; exact hb)).trans (HZ.out 21 (by omega))
                    rw [HZ1.out] at x21
                    obtain rfl | rfl | rfl | rfl | rfl : n = 0 ∨ n = 1 ∨ n = 2 ∨ n = 3 ∨ n = 4 := by omega
                    · have HRW := Lib.hid (rollD_all (rollU zs) (axU zs 3 f) S)
                      rw [HRW.out] at HN
                      have HOKG := Lib.hid (show ∀ i, i < 73 → okT (nodeT i) (rollW (axU zs 3 f) (rollU zs) i) from ok_rollW (ok_axU HF.out zs 3 (by omega)) _)
                      have iB : (Try.prog.info? 37).map (·.size) = some (row 74 (nodeW (rollW (axU zs 3 f) (rollU zs)) S)).size := by rw [row_size]; kernel_rfl
                      have zB : (Try.zeroCells37).size = (row 74 (nodeW (rollW (axU zs 3 f) (rollU zs)) S)).size := by rw [row_size]; kernel_rfl
                      have oB : (row 74 (nodeW (rollW (axU zs 3 f) (rollU zs)) S)).all (·.oneCell') = true := one_of2 HOKG.out HS1.out
                      have HRR := Lib.hid (rollW_part (rollU zs) (axU zs 3 f) S)
                      have CG := Lib.hid (fun w => show Calls Try.prog 85 #[.agg (rollU zs).row] w fun e w' => e = .returned (.bool (goodU zs)) ∧ Below w.heap.size w w' from refgood_any (rollU zs).f (rollU zs).m (rollU zs).j w)
                      have HUG := Lib.hid (show unpackOk zs = goodU zs by unfold unpackOk; rw [HTK.out, HBT.out, Bool.true_and, Bool.and_true])
                      obtain ⟨F, hFe⟩ : ∃ F, rollW (axU zs 3 f) (rollU zs) = F := ⟨_, rfl⟩
                      rw [hFe] at HN HOKG iB zB oB HRR
                      have HFE := Lib.hid (show unpackF zs f = F from hFe)
                      clear hFe x21
                      go_wp2_with fail
                      go_upto_region 17 with fail
                      have HN := Lib.hid HN.out.drew
                      have H4 := Lib.hid H4.out.drew
                      have HB := Lib.hid HB.out.drew
                      have HS := HN.out
                      refine wp_region_noPanic ?_
                      refine Rg.beginR [0, 2] (fun w' => Blk w' gn 37 (row 74 (nodeW F S))) (by kernel_rfl) ?_
                      generalize wr.drew = V0 at *
                      refine Rg.takeS (i := 0) (oi := { dst := some 132, op := Op.load 37 (Operand.tmp 2), type := 37, pos := "node.go:200", after := #[], guard := none }) (v := .agg (row 74 (nodeW F S))) rfl (by kernel_rfl) (fun _ _ _ h => h) (by rfl) HS ?_ ?_
                      · (intro w' hSw; exact exec_load_row 37 _ rfl _ rfl hSw Try.underlying37 rfl iB)
                      try simp only [Act.put, List.setIfInBounds_toArray, List.set_cons_zero, List.set_cons_succ]
                      refine Rg.takeP (i := 1) (oi := { dst := some 133, op := Op.fieldAddr 37 (Operand.tmp 2) 4, type := 0, pos := "node.go:200", after := #[], guard := none }) (v := ?_) rfl (by kernel_rfl) (fun _ _ _ h => h) (by rfl) ?_ ?_
                      rotate_left 1
                      · (intro w; go_simp; (try with_reducible rfl))
                      try simp only [Act.put, List.setIfInBounds_toArray, List.set_cons_zero, List.set_cons_succ]
                      refine Rg.takeS (i := 2) (oi := { dst := some 134, op := Op.load 30 (Operand.tmp 133), type := 30, pos := "node.go:200", after := #[{ on := 1, ground := Ground.data }], guard := none }) (v := .agg (rollU zs).row) rfl (by kernel_rfl) (fun _ _ _ h => h) (by rfl) HS ?_ ?_
                      · (intro w' hSw; rw [← HRR.out]; exact exec_load_mid 30 _ rfl _ 27 12 rfl _ _ (row_range hSw 27 12 (by omega)) Try.underlying30 rfl (by kernel_rfl))
                      try simp only [Act.put, List.setIfInBounds_toArray, List.set_cons_zero, List.set_cons_succ]
                      refine Rg.oneR (i := 3) (oi := { dst := some 135, op := Op.call { callee := Callee.value (Operand.func 85), args := #[Operand.tmp 134], argTypes := #[30] }, type := 4, pos := "node.go:200", after := #[{ on := 2, ground := Ground.data }], guard := none }) rfl (by kernel_rfl) ?_
                      refine Rg.stepS ?_
                      intro K hK
                      rw [if_pos (by rfl)]
                      go_simp
                      go_at_call 85
                      refine (CG.out V0).mono ?_
                      rintro e V1 ⟨rfl, hb2⟩
                      have HN := Lib.hid (HN.out.below hb2 HN.out.lt)
                      have H4 := Lib.hid (H4.out.below hb2 H4.out.lt)
                      have HB := Lib.hid (onward HB.out (Nat.le_refl _) hb2)
                      clear hb2 HS
                      have HS := HN.out
                      go_wp2_with fail
                      refine hK.out _ _ HS ?_
                      clear hK K
                      try simp only [Act.put, List.setIfInBounds_toArray, List.set_cons_zero, List.set_cons_succ]
                      refine Rg.oneR (i := 4) (oi := { dst := none, op := Op.store 37 (Operand.tmp 4) (Operand.tmp 132), type := 0, pos := "node.go:200", after := #[{ on := 0, ground := Ground.data }, { on := 3, ground := Ground.chain }, { on := 0, ground := Ground.phase }, { on := 1, ground := Ground.textOnly Departure.lateStores }, { on := 2, ground := Ground.textOnly Departure.lateStores }, { on := 3, ground := Ground.textOnly Departure.lateStoresUnsure }], guard := none }) rfl (by kernel_rfl) ?_
                      refine Rg.stepF ?_ ?_
                      · kernel_rfl
                      intro K hK
                      rw [if_pos (by rfl)]
                      refine wp_store_row 37 _ _ rfl g4 (row 74 (nodeW F S)) rfl rfl 37 _ H4.out iB zB oB ?_
                      have H4 := Lib.hid (H4.out.setRow (row 74 (nodeW F S)))
                      have HB := Lib.hid (below_setRow HB.out (show w.heap.size ≤ g4 by have := HGG.out; omega) (row 74 (nodeW F S)))
                      clear HS HN
                      generalize (V1.setRow g4 (row 74 (nodeW F S))) = V2 at *
                      refine hK.out _ _ ?_
                      clear hK K
                      try simp only [Act.put, List.setIfInBounds_toArray, List.set_cons_zero, List.set_cons_succ]
                      refine Rg.takeP (i := 5) (oi := { dst := some 5, op := Op.assign (Operand.tmp 135), type := 4, pos := "node.go:200", after := #[{ on := 3, ground := Ground.data }, { on := 4, ground := Ground.chain }, { on := 0, ground := Ground.phase }, { on := 1, ground := Ground.phase }, { on := 2, ground := Ground.phase }, { on := 3, ground := Ground.phase }, { on := 4, ground := Ground.phase }], guard := none }) (v := ?_) rfl (by kernel_rfl) (fun _ _ _ h => h) (by rfl) ?_ ?_
                      rotate_left 1
                      · (intro w; go_simp; (try with_reducible rfl))
                      try simp only [Act.put, List.setIfInBounds_toArray, List.set_cons_zero, List.set_cons_succ]
                      refine Rg.doneR (by kernel_rfl) ?_ _
                      refine NoPanic.normal ?_
                      go_wp2_with fail
                      refine ret_row2 (x := .bool (goodU zs)) rfl rfl rfl H4.out ⟨by rw [Try.underlying37], iB⟩ rfl ⟨F, by rw [HUG.out], HOKG.out, fun _ => by rw [HFE.out], HB.out⟩
                    · have c0 := HN.out.cell 27
                      have t0 := HN.out.thaw 27
                      have c1 := HN.out.cell 31
                      have t1 := HN.out.thaw 31
                      have c2 := HN.out.cell 35
                      have t2 := HN.out.thaw 35
                      rw [row_at (by omega)] at c0 c1 c2
                      obtain ⟨m2, hm2⟩ : ∃ m : Nat, v2 / 8 ^ (4 - 1) = m := ⟨_, rfl⟩
                      obtain ⟨m3, hm3⟩ : ∃ m : Nat, v3 / 8 ^ (4 - 1) = m := ⟨_, rfl⟩
                      rw [hm2, hm3]
                      have HM2 := Lib.hid (show v2 / 512 = m2 from hm2)
                      have HM3 := Lib.hid (show v3 / 512 = m3 from hm3)
                      have hm2' : m2 < 4096 := by have := HM2.out; omega
                      have hm3' : m3 < 4096 := by have := HM3.out; omega
                      clear hm2 hm3
                      rw [show (((1 : Nat) : Int) - 1) = 0 from rfl]
                      go_wp2_with fail
                      refine ⟨⟨0, by omega, rfl, ?_, ?_, rollD_put (rollU zs) 0 (by omega) _ _ HN.out (by show _ = bitZ (zAt zs 21) 0; rw [HZ1.out]; exact bit_mod v1 0 (by omega)) (by show _ = octAt (zAt zs 22) 0; rw [HZ2.out]; exact oct_mod v2 0 (by show (m2 : Int) = ((v2 / 512 : Nat) : Int); rw [HM2.out])) (by show _ = octAt (zAt zs 23) 0; rw [HZ3.out]; exact oct_mod v3 0 (by show (m3 : Int) = ((v3 / 512 : Nat) : Int); rw [HM3.out])), ((H4.out.other (p := ⟨gn, 31, none⟩) (by show g4 ≠ gn; have := HGG.out; omega) _).other (p := ⟨gn, 35, none⟩) (by show g4 ≠ gn; have := HGG.out; omega) _).other (p := ⟨gn, 27, none⟩) (by show g4 ≠ gn; have := HGG.out; omega) _, ((HB.out.setCell (p := ⟨gn, 31, none⟩) HGG.out.1 _).setCell (p := ⟨gn, 35, none⟩) HGG.out.1 _).setCell (p := ⟨gn, 27, none⟩) HGG.out.1 _⟩, by simp [intOf]⟩
                      · show Value.int .i64 ((m2 : Int) / 8) = .int .i64 ((v2 / 4096 : Nat) : Int)
                        rw [show v2 / 4096 = m2 / 8 by have := HM2.out; omega]
                        rfl
                      · show Value.int .i64 ((m3 : Int) / 8) = .int .i64 ((v3 / 4096 : Nat) : Int)
                        rw [show v3 / 4096 = m3 / 8 by have := HM3.out; omega]
                        rfl
                    · have c0 := HN.out.cell 28
                      have t0 := HN.out.thaw 28
                      have c1 := HN.out.cell 32
                      have t1 := HN.out.thaw 32
                      have c2 := HN.out.cell 36
                      have t2 := HN.out.thaw 36
                      rw [row_at (by omega)] at c0 c1 c2
                      obtain ⟨m2, hm2⟩ : ∃ m : Nat, v2 / 8 ^ (4 - 2) = m := ⟨_, rfl⟩
                      obtain ⟨m3, hm3⟩ : ∃ m : Nat, v3 / 8 ^ (4 - 2) = m := ⟨_, rfl⟩
                      rw [hm2, hm3]
                      have HM2 := Lib.hid (show v2 / 64 = m2 from hm2)
                      have HM3 := Lib.hid (show v3 / 64 = m3 from hm3)
                      have hm2' : m2 < 4096 := by have := HM2.out; omega
                      have hm3' : m3 < 4096 := by have := HM3.out; omega
                      clear hm2 hm3
                      rw [show (((2 : Nat) : Int) - 1) = 1 from rfl]
                      go_wp2_with fail
                      refine ⟨⟨1, by omega, rfl, ?_, ?_, rollD_put (rollU zs) 1 (by omega) _ _ HN.out (by show _ = bitZ (zAt zs 21) 1; rw [HZ1.out]; exact bit_mod v1 1 (by omega)) (by show _ = octAt (zAt zs 22) 1; rw [HZ2.out]; exact oct_mod v2 1 (by show (m2 : Int) = ((v2 / 64 : Nat) : Int); rw [HM2.out])) (by show _ = octAt (zAt zs 23) 1; rw [HZ3.out]; exact oct_mod v3 1 (by show (m3 : Int) = ((v3 / 64 : Nat) : Int); rw [HM3.out])), ((H4.out.other (p := ⟨gn, 32, none⟩) (by show g4 ≠ gn; have := HGG.out; omega) _).other (p := ⟨gn, 36, none⟩) (by show g4 ≠ gn; have := HGG.out; omega) _).other (p := ⟨gn, 28, none⟩) (by show g4 ≠ gn; have := HGG.out; omega) _, ((HB.out.setCell (p := ⟨gn, 32, none⟩) HGG.out.1 _).setCell (p := ⟨gn, 36, none⟩) HGG.out.1 _).setCell (p := ⟨gn, 28, none⟩) HGG.out.1 _⟩, by simp [intOf]⟩
                      · show Value.int .i64 ((m2 : Int) / 8) = .int .i64 ((v2 / 512 : Nat) : Int)
                        rw [show v2 / 512 = m2 / 8 by have := HM2.out; omega]
                        rfl
                      · show Value.int .i64 ((m3 : Int) / 8) = .int .i64 ((v3 / 512 : Nat) : Int)
                        rw [show v3 / 512 = m3 / 8 by have := HM3.out; omega]
                        rfl
                    · have c0 := HN.out.cell 29
                      have t0 := HN.out.thaw 29
                      have c1 := HN.out.cell 33
                      have t1 := HN.out.thaw 33
                      have c2 := HN.out.cell 37
                      have t2 := HN.out.thaw 37
                      rw [row_at (by omega)] at c0 c1 c2
                      obtain ⟨m2, hm2⟩ : ∃ m : Nat, v2 / 8 ^ (4 - 3) = m := ⟨_, rfl⟩
                      obtain ⟨m3, hm3⟩ : ∃ m : Nat, v3 / 8 ^ (4 - 3) = m := ⟨_, rfl⟩
                      rw [hm2, hm3]
                      have HM2 := Lib.hid (show v2 / 8 = m2 from hm2)
                      have HM3 := Lib.hid (show v3 / 8 = m3 from hm3)
                      have hm2' : m2 < 4096 := by have := HM2.out; omega
                      have hm3' : m3 < 4096 := by have := HM3.out; omega
                      clear hm2 hm3
                      rw [show (((3 : Nat) : Int) - 1) = 2 from rfl]
                      go_wp2_with fail
                      refine ⟨⟨2, by omega, rfl, ?_, ?_, rollD_put (rollU zs) 2 (by omega) _ _ HN.out (by show _ = bitZ (zAt zs 21) 2; rw [HZ1.out]; exact bit_mod v1 2 (by omega)) (by show _ = octAt (zAt zs 22) 2; rw [HZ2.out]; exact oct_mod v2 2 (by show (m2 : Int) = ((v2 / 8 : Nat) : Int); rw [HM2.out])) (by show _ = octAt (zAt zs 23) 2; rw [HZ3.out]; exact oct_mod v3 2 (by show (m3 : Int) = ((v3 / 8 : Nat) : Int); rw [HM3.out])), ((H4.out.other (p := ⟨gn, 33, none⟩) (by show g4 ≠ gn; have := HGG.out; omega) _).other (p := ⟨gn, 37, none⟩) (by show g4 ≠ gn; have := HGG.out; omega) _).other (p := ⟨gn, 29, none⟩) (by show g4 ≠ gn; have := HGG.out; omega) _, ((HB.out.setCell (p := ⟨gn, 33, none⟩) HGG.out.1 _).setCell (p := ⟨gn, 37, none⟩) HGG.out.1 _).setCell (p := ⟨gn, 29, none⟩) HGG.out.1 _⟩, by simp [intOf]⟩
                      · show Value.int .i64 ((m2 : Int) / 8) = .int .i64 ((v2 / 64 : Nat) : Int)
                        rw [show v2 / 64 = m2 / 8 by have := HM2.out; omega]
                        rfl
                      · show Value.int .i64 ((m3 : Int) / 8) = .int .i64 ((v3 / 64 : Nat) : Int)
                        rw [show v3 / 64 = m3 / 8 by have := HM3.out; omega]
                        rfl
                    · have c0 := HN.out.cell 30
                      have t0 := HN.out.thaw 30
                      have c1 := HN.out.cell 34
                      have t1 := HN.out.thaw 34
                      have c2 := HN.out.cell 38
                      have t2 := HN.out.thaw 38
                      rw [row_at (by omega)] at c0 c1 c2
                      obtain ⟨m2, hm2⟩ : ∃ m : Nat, v2 / 8 ^ (4 - 4) = m := ⟨_, rfl⟩
                      obtain ⟨m3, hm3⟩ : ∃ m : Nat, v3 / 8 ^ (4 - 4) = m := ⟨_, rfl⟩
                      rw [hm2, hm3]
                      have HM2 := Lib.hid (show v2 / 1 = m2 from hm2)
                      have HM3 := Lib.hid (show v3 / 1 = m3 from hm3)
                      have hm2' : m2 < 4096 := by have := HM2.out; omega
                      have hm3' : m3 < 4096 := by have := HM3.out; omega
                      clear hm2 hm3
                      rw [show (((4 : Nat) : Int) - 1) = 3 from rfl]
                      go_wp2_with fail
                      refine ⟨⟨3, by omega, rfl, ?_, ?_, rollD_put (rollU zs) 3 (by omega) _ _ HN.out (by show _ = bitZ (zAt zs 21) 3; rw [HZ1.out]; exact bit_mod v1 3 (by omega)) (by show _ = octAt (zAt zs 22) 3; rw [HZ2.out]; exact oct_mod v2 3 (by show (m2 : Int) = ((v2 / 1 : Nat) : Int); rw [HM2.out])) (by show _ = octAt (zAt zs 23) 3; rw [HZ3.out]; exact oct_mod v3 3 (by show (m3 : Int) = ((v3 / 1 : Nat) : Int); rw [HM3.out])), ((H4.out.other (p := ⟨gn, 34, none⟩) (by show g4 ≠ gn; have := HGG.out; omega) _).other (p := ⟨gn, 38, none⟩) (by show g4 ≠ gn; have := HGG.out; omega) _).other (p := ⟨gn, 30, none⟩) (by show g4 ≠ gn; have := HGG.out; omega) _, ((HB.out.setCell (p := ⟨gn, 34, none⟩) HGG.out.1 _).setCell (p := ⟨gn, 38, none⟩) HGG.out.1 _).setCell (p := ⟨gn, 30, none⟩) HGG.out.1 _⟩, by simp [intOf]⟩
                      · show Value.int .i64 ((m2 : Int) / 8) = .int .i64 ((v2 / 8 : Nat) : Int)
                        rw [show v2 / 8 = m2 / 8 by have := HM2.out; omega]
                        rfl
                      · show Value.int .i64 ((m3 : Int) / 8) = .int .i64 ((v3 / 8 : Nat) : Int)
                        rw [show v3 / 8 = m3 / 8 by have := HM3.out; omega]
                        rfl
end Go.Proofs.Ytjfllpmiajkenaa.Nd
