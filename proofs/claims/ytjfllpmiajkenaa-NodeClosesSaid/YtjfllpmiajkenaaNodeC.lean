/- Contracts: a computer handed on in memory of its own (copied, CopyNode); strange, none; say; begun; SameMessage. -/
import Derived.Test.YtjfllpmiajkenaaNodeB
import Derived.Test.YtjfllpmiajkenaaOwnMore
import Derived.Test.YtjfllpmiajkenaaSameN
import Derived.Test.YtjfllpmiajkenaaSame
import Derived.Deep.DeepCutAuto
namespace Go.Proofs.Ytjfllpmiajkenaa.Nd
open Go.RowKit Go.Proofs.Ytjfllpmiajkenaa.Mem Go.Proofs.Ytjfllpmiajkenaa.Rws Go.Proofs.Ytjfllpmiajkenaa.Flat
set_option linter.unusedVariables false
set_option linter.unusedSimpArgs false

theorem elemBools : Elem Try.prog 33 4 (.bool false) 1 1 := ⟨Try.underlying33, by kernel_rfl, rfl, by omega⟩
theorem one_of {f : Nat → Value} (h : ∀ i, i < 73 → okT (nodeT i) (f i)) {A : Option Addr} {n c : Nat} : (row 74 (nodeW f (.slice A n c))).all (·.oneCell') = true := row_one fun i hi => by
  unfold nodeW
  split
  · rfl
  · have := h i (by omega)
    unfold okT at this
    split at this
    · obtain ⟨_, h⟩ := this; rw [h]; rfl
    · obtain ⟨_, h⟩ := this; rw [h]; rfl
theorem row_last (f : Nat → Value) (S S' : Value) : (row 74 (nodeW f S)).setIfInBounds 73 S' = row 74 (nodeW f S') := by
  rw [row_set]
  refine row_congr fun i _ => ?_
  unfold nodeW
  by_cases h : i = 73
  · rw [if_pos h, if_pos h]
  · rw [if_neg h, if_neg h, if_neg h]
def OwnNode (w w' : World) (f : Nat → Value) (bs : List Bool) (e : Ending) : Prop :=
  ∃ A c, e = .returned (.agg (row 74 (nodeW f (.slice A bs.length c)))) ∧ w'.ownsRow w.heap.size 4 1 (.slice A bs.length c) bs.length (boolsV bs) ∧ Below w.heap.size w w'

set_option maxRecDepth 100000 in
set_option maxHeartbeats 1000000 in
theorem copied_any (f : Nat → Value) (hf : ∀ i, i < 73 → okT (nodeT i) (f i)) (A : Option Addr) (c : Nat) (bs : List Bool) (B : Nat) (w : World) (hB : B ≤ w.heap.size) (hA : A = none → c = 0) (hnc : bs.length ≤ c) (hl : bs.length ≤ 140737488351232) (hr : Rd w B 1 A bs.length (boolsV bs)) :
    Calls Try.prog 40 #[.agg (row 74 (nodeW f (.slice A bs.length c)))] w fun e w' => OwnNode w w' f bs e := by
  have hone : ∀ (A : Option Addr) (n c : Nat), (row 74 (nodeW f (.slice A n c))).all (·.oneCell') = true := fun A n c => one_of hf
  have HO := Lib.hid hone
  have HF := Lib.hid hf
  clear hf hone
  go_enter Try.func40, Try.ntmps40
  go_upto_region 1 with fail
  have D1 : Hid (Blk ((w.alloc (.cells (row 74 (nodeW f (.slice A bs.length c))) 37)).alloc (.cells Try.zeroCells37 37)) w.heap.size 37 (row 74 (nodeW f (.slice A bs.length c)))) := Lib.hid ((Blk.new rfl).alloc _)
  have D2 : Hid (Blk ((w.alloc (.cells (row 74 (nodeW f (.slice A bs.length c))) 37)).alloc (.cells Try.zeroCells37 37)) (w.heap.size + 1) 37 Try.zeroCells37) := Lib.hid (Blk.new (by simp))
  have HB := Lib.hid (((Below.refl w.heap.size w).alloc (Nat.le_refl _) (.cells (row 74 (nodeW f (.slice A bs.length c))) 37)).alloc (by simp) (.cells Try.zeroCells37 37))
  have HR := Lib.hid ((hr.alloc hB (.cells (row 74 (nodeW f (.slice A bs.length c))) 37)).alloc (by simp; omega) (.cells Try.zeroCells37 37))
  clear hr
  generalize ((w.alloc (.cells (row 74 (nodeW f (.slice A bs.length c))) 37)).alloc (.cells Try.zeroCells37 37)) = W at *
  have hsz : w.heap.size + 1 < W.heap.size := D2.out.lt
  have x73 : W.cell? ⟨w.heap.size, 73, none⟩ = some (.slice A bs.length c) := by rw [D1.out.cell, row_at (by omega)]; rfl
  have f73 := D1.out.thaw 73
  go_upto_region 2 with (at_builtin; refine wpList_append_rd _ rfl (.const (.slice none 0 0)) (.tmp 5) 33 rfl (base := W.heap.size) elemBools rfl (World.ownsRow_nil _ _ _ _) rfl (fun h => ⟨by have := hA h; omega, hA h⟩) HR.out (boolsV_one bs) (by unfold maxLen; omega) (by omega) (Nat.le_refl _) ?_; intro A' c' w1 hA' hown hg; (try simp only [List.nil_append, Nat.zero_add] at hown); have E1 := Lib.hid (D1.out.grown hg (by simp [Value.ownBlock, Act.eval])); have E2 := Lib.hid (D2.out.grown hg (by simp [Value.ownBlock, Act.eval])); have HB1 := Lib.hid (HB.out.grown hg HB.out.size (by intro g e; cases e)); have y73 : w1.cell? ⟨w.heap.size, 73, none⟩ = some (.slice A bs.length c) := (by rw [E1.out.cell, row_at (by omega)]; rfl); have g73 := E1.out.thaw 73; have HW := Lib.hid hown; clear x73 f73 hown hg hA'; have F1 := Lib.hid (E1.out.set 73 (.slice A' bs.length c')); rw [row_last] at F1; have F2 := Lib.hid (E2.out.other (p := ⟨w.heap.size, 73, none⟩) (by show w.heap.size + 1 ≠ w.heap.size; omega) (.slice A' bs.length c')); have hi74 : (Try.prog.info? 37).map (·.size) = some (row 74 (nodeW f (.slice A' bs.length c'))).size := (by rw [row_size]; kernel_rfl); have hz : (Try.zeroCells37).size = (row 74 (nodeW f (.slice A' bs.length c'))).size := (by rw [row_size]; kernel_rfl); have h174 := HO.out A' bs.length c'; obtain ⟨R, hRR⟩ : ∃ R, row 74 (nodeW f (.slice A' bs.length c')) = R := ⟨_, rfl⟩; have HRR := Lib.hid hRR; rw [hRR] at F1 hi74 hz h174; clear hRR)
  go_wp2_with (first
    | (refine wpList_whole rfl 37 _ rfl w.heap.size rfl F1.out _ Try.underlying37 rfl hi74 ?_)
    | (refine wpList_store_row rfl 37 _ _ rfl (w.heap.size + 1) R rfl rfl 37 _ F2.out hi74 hz h174 ?_))
  refine ret_row rfl rfl (F2.out.setRow R) Try.underlying37 rfl hi74 rfl ⟨A', c', by rw [HRR.out], ?_, ?_⟩
  · exact own_weaken (own_setRow (ownsRow_setCell_below HW.out (by show w.heap.size < W.heap.size; omega) _) (by omega) R) (by omega)
  · exact below_setRow (HB1.out.setCell (by show w.heap.size ≤ w.heap.size; omega) _) (by omega) R

set_option maxRecDepth 100000 in
set_option maxHeartbeats 1000000 in
theorem copyNode_any (f : Nat → Value) (hf : ∀ i, i < 73 → okT (nodeT i) (f i)) (A : Option Addr) (c : Nat) (bs : List Bool) (B : Nat) (w : World) (hB : B ≤ w.heap.size) (hA : A = none → c = 0) (hnc : bs.length ≤ c) (hl : bs.length ≤ 140737488351232) (hr : Rd w B 1 A bs.length (boolsV bs)) :
    Calls Try.prog 14 #[.agg (row 74 (nodeW f (.slice A bs.length c)))] w fun e w' => OwnNode w w' f bs e := by
  have hone : ∀ (A : Option Addr) (n c : Nat), (row 74 (nodeW f (.slice A n c))).all (·.oneCell') = true := fun A n c => one_of hf
  have HO := Lib.hid hone
  have HF := Lib.hid hf
  clear hf hone
  go_enter Try.func14, Try.ntmps14
  go_upto_region 1 with fail
  have D1 : Hid (Blk ((w.alloc (.cells (row 74 (nodeW f (.slice A bs.length c))) 37)).alloc (.cells Try.zeroCells37 37)) w.heap.size 37 (row 74 (nodeW f (.slice A bs.length c)))) := Lib.hid ((Blk.new rfl).alloc _)
  have D2 : Hid (Blk ((w.alloc (.cells (row 74 (nodeW f (.slice A bs.length c))) 37)).alloc (.cells Try.zeroCells37 37)) (w.heap.size + 1) 37 Try.zeroCells37) := Lib.hid (Blk.new (by simp))
  have HB := Lib.hid (((Below.refl w.heap.size w).alloc (Nat.le_refl _) (.cells (row 74 (nodeW f (.slice A bs.length c))) 37)).alloc (by simp) (.cells Try.zeroCells37 37))
  have HR := Lib.hid ((hr.alloc hB (.cells (row 74 (nodeW f (.slice A bs.length c))) 37)).alloc (by simp; omega) (.cells Try.zeroCells37 37))
  clear hr
  generalize ((w.alloc (.cells (row 74 (nodeW f (.slice A bs.length c))) 37)).alloc (.cells Try.zeroCells37 37)) = W at *
  have hsz : w.heap.size + 1 < W.heap.size := D2.out.lt
  have x73 : W.cell? ⟨w.heap.size, 73, none⟩ = some (.slice A bs.length c) := by rw [D1.out.cell, row_at (by omega)]; rfl
  have f73 := D1.out.thaw 73
  go_upto_region 2 with (at_builtin; refine wpList_append_rd _ rfl (.const (.slice none 0 0)) (.tmp 5) 33 rfl (base := W.heap.size) elemBools rfl (World.ownsRow_nil _ _ _ _) rfl (fun h => ⟨by have := hA h; omega, hA h⟩) HR.out (boolsV_one bs) (by unfold maxLen; omega) (by omega) (Nat.le_refl _) ?_; intro A' c' w1 hA' hown hg; (try simp only [List.nil_append, Nat.zero_add] at hown); have E1 := Lib.hid (D1.out.grown hg (by simp [Value.ownBlock, Act.eval])); have E2 := Lib.hid (D2.out.grown hg (by simp [Value.ownBlock, Act.eval])); have HB1 := Lib.hid (HB.out.grown hg HB.out.size (by intro g e; cases e)); have y73 : w1.cell? ⟨w.heap.size, 73, none⟩ = some (.slice A bs.length c) := (by rw [E1.out.cell, row_at (by omega)]; rfl); have g73 := E1.out.thaw 73; have HW := Lib.hid hown; clear x73 f73 hown hg hA'; have F1 := Lib.hid (E1.out.set 73 (.slice A' bs.length c')); rw [row_last] at F1; have F2 := Lib.hid (E2.out.other (p := ⟨w.heap.size, 73, none⟩) (by show w.heap.size + 1 ≠ w.heap.size; omega) (.slice A' bs.length c')); have hi74 : (Try.prog.info? 37).map (·.size) = some (row 74 (nodeW f (.slice A' bs.length c'))).size := (by rw [row_size]; kernel_rfl); have hz : (Try.zeroCells37).size = (row 74 (nodeW f (.slice A' bs.length c'))).size := (by rw [row_size]; kernel_rfl); have h174 := HO.out A' bs.length c'; obtain ⟨R, hRR⟩ : ∃ R, row 74 (nodeW f (.slice A' bs.length c')) = R := ⟨_, rfl⟩; have HRR := Lib.hid hRR; rw [hRR] at F1 hi74 hz h174; clear hRR)
  go_wp2_with (first
    | (refine wpList_whole rfl 37 _ rfl w.heap.size rfl F1.out _ Try.underlying37 rfl hi74 ?_)
    | (refine wpList_store_row rfl 37 _ _ rfl (w.heap.size + 1) R rfl rfl 37 _ F2.out hi74 hz h174 ?_))
  refine ret_row rfl rfl (F2.out.setRow R) Try.underlying37 rfl hi74 rfl ⟨A', c', by rw [HRR.out], ?_, ?_⟩
  · exact own_weaken (own_setRow (ownsRow_setCell_below HW.out (by show w.heap.size < W.heap.size; omega) _) (by omega) R) (by omega)
  · exact below_setRow (HB1.out.setCell (by show w.heap.size ≤ w.heap.size; omega) _) (by omega) R

def badId (id : Int) : Bool := decide (id < 0) || decide (4 ≤ id)

set_option maxRecDepth 100000 in
set_option maxHeartbeats 400000 in
theorem strange_any (R : Array Value) (id : Int) (h0 : R[0]? = some (.int .i64 id)) (w : World) :
    Calls Try.prog 41 #[.agg R] w fun e w' => e = .returned (.bool (badId id)) ∧ Below w.heap.size w w' := by
  have x0 : (w.alloc (.cells R 37)).cell? ⟨w.heap.size, 0, none⟩ = some (.int .i64 id) := by rw [(Blk.new (g := w.heap.size) rfl).cell, h0]
  by_cases h1 : id < 0
  · have HE := Lib.hid (show badId id = true by simp [badId, h1])
    go_enter Try.func41, Try.ntmps41
    go_wp2_with fail
    go_ret
    exact ⟨by rw [HE.out]; rfl, (Below.refl _ _).alloc (Nat.le_refl _) _⟩
  · by_cases h2 : 4 ≤ id
    · have HE := Lib.hid (show badId id = true by simp [badId, h2])
      have h3 : 3 < id := by omega
      go_enter Try.func41, Try.ntmps41
      go_wp2_with fail
      go_ret
      exact ⟨by rw [HE.out]; rfl, (Below.refl _ _).alloc (Nat.le_refl _) _⟩
    · have HE := Lib.hid (show badId id = false by simp [badId, h1, h2])
      have h3 : ¬ 3 < id := by omega
      go_enter Try.func41, Try.ntmps41
      go_wp2_with fail
      go_ret
      exact ⟨by rw [HE.out]; (first | rfl | simp [h1, h2, h3]), (Below.refl _ _).alloc (Nat.le_refl _) _⟩

set_option maxRecDepth 100000 in
set_option maxHeartbeats 400000 in
theorem none_any (R : Array Value) (id : Int) (h0 : R[0]? = some (.int .i64 id)) (w : World) :
    Calls Try.prog 50 #[.agg R] w fun e w' => e = .returned (.bool (badId id)) ∧ Below w.heap.size w w' := by
  have x0 : (w.alloc (.cells R 37)).cell? ⟨w.heap.size, 0, none⟩ = some (.int .i64 id) := by rw [(Blk.new (g := w.heap.size) rfl).cell, h0]
  by_cases h1 : id < 0
  · have HE := Lib.hid (show badId id = true by simp [badId, h1])
    go_enter Try.func50, Try.ntmps50
    go_wp2_with fail
    go_ret
    exact ⟨by rw [HE.out]; rfl, (Below.refl _ _).alloc (Nat.le_refl _) _⟩
  · by_cases h2 : 4 ≤ id
    · have HE := Lib.hid (show badId id = true by simp [badId, h2])
      have h3 : 3 < id := by omega
      go_enter Try.func50, Try.ntmps50
      go_wp2_with fail
      go_ret
      exact ⟨by rw [HE.out]; rfl, (Below.refl _ _).alloc (Nat.le_refl _) _⟩
    · have HE := Lib.hid (show badId id = false by simp [badId, h1, h2])
      have h3 : ¬ 3 < id := by omega
      go_enter Try.func50, Try.ntmps50
      go_wp2_with fail
      go_ret
      exact ⟨by rw [HE.out]; (first | rfl | simp [h1, h2, h3]), (Below.refl _ _).alloc (Nat.le_refl _) _⟩

set_option maxRecDepth 100000 in
set_option maxHeartbeats 400000 in
theorem say_any (R : Array Value) (id fr kind : Int) (A : Option Addr) (l c : Nat) (h0 : R[0]? = some (.int .i64 id)) (h1 : R[1]? = some (.int .i64 fr)) (w : World) :
    Calls Try.prog 47 #[.agg R, .int .i64 kind, .slice A l c] w fun e w' => e = .returned (Ms.msgV kind id fr A l c) ∧ Below w.heap.size w w' := by
  have x0 : (w.alloc (.cells R 37)).cell? ⟨w.heap.size, 0, none⟩ = some (.int .i64 id) := by rw [(Blk.new (g := w.heap.size) rfl).cell, h0]
  have x1 : (w.alloc (.cells R 37)).cell? ⟨w.heap.size, 1, none⟩ = some (.int .i64 fr) := by rw [(Blk.new (g := w.heap.size) rfl).cell, h1]
  have y0 := (World.cell?_alloc_lt (w.alloc (.cells R 37)) (.cells #[.int .i64 0, .int .i64 0, .int .i64 0, .slice none 0 0] 41) ⟨w.heap.size, 0, none⟩ (by simp)).trans x0
  have y1 := (World.cell?_alloc_lt (w.alloc (.cells R 37)) (.cells #[.int .i64 0, .int .i64 0, .int .i64 0, .slice none 0 0] 41) ⟨w.heap.size, 1, none⟩ (by simp)).trans x1
  unfold Ms.msgV
  go_enter Try.func47, Try.ntmps47
  go_wp2_with fail
  exact ret_row rfl rfl (Blk.new (by simp)) Try.underlying41 rfl (by kernel_rfl) rfl ⟨rfl, ((Below.refl _ _).alloc (Nat.le_refl _) _).alloc (by simp) _⟩

set_option maxRecDepth 100000 in
set_option maxHeartbeats 1000000 in
theorem sameMessage_any (k f n : Int) (A A' : Option Addr) (c c' : Nat) (zs : List Int) (B : Nat) (w : World) (hB : B ≤ w.heap.size) (hl : zs.length ≤ 140737488355328) (hr : Rd w B 1 A zs.length (Ms.intsV zs)) (hr' : Rd w B 1 A' zs.length (Ms.intsV zs)) :
    Calls Try.prog 19 #[Ms.msgV k f n A zs.length c, Ms.msgV k f n A' zs.length c'] w fun e w' => e = .returned (.bool true) ∧ Below w.heap.size w w' := by
  have HR := Lib.hid ((hr.alloc hB (.cells (Ms.msgC k f n A zs.length c) 41)).alloc (by simp; omega) (.cells (Ms.msgC k f n A' zs.length c') 41))
  have HR' := Lib.hid ((hr'.alloc hB (.cells (Ms.msgC k f n A zs.length c) 41)).alloc (by simp; omega) (.cells (Ms.msgC k f n A' zs.length c') 41))
  have HB := Lib.hid (((Below.refl w.heap.size w).alloc (Nat.le_refl _) (.cells (Ms.msgC k f n A zs.length c) 41)).alloc (by simp) (.cells (Ms.msgC k f n A' zs.length c') 41))
  clear hr hr'
  unfold Ms.msgV Ms.msgC at *
  go_enter Try.func19, Try.ntmps19
  go_wp2_with (go_at_call 56; refine (Ms.sameInts_any A A' c c' zs B _ hl HR.out HR'.out).mono ?_; rintro e w1 ⟨rfl, hb1⟩)
  go_ret
  exact ⟨rfl, onward HB.out (Nat.le_refl _) hb1⟩

set_option maxRecDepth 100000 in
set_option maxHeartbeats 400000 in
theorem begun_any (w : World) :
    Calls Try.prog 17 #[] w fun e w' => e = .returned (.agg (row 74 (nodeK 2 1 0 0 0 3))) ∧ Below w.heap.size w w' := by
  have cB := refBegin_yes 2 1 0 0 0
  have h174 : (row 74 (nodeK 2 1 0 0 0 3)).all (·.oneCell') = true := row_one fun i _ => nodeK_one _ _ _ _ _ _ i
  have hi74 : (Try.prog.info? 37).map (·.size) = some (row 74 (nodeK 2 1 0 0 0 3)).size := by rw [row_size]; kernel_rfl
  have hz : (Try.zeroCells37).size = (row 74 (nodeK 2 1 0 0 0 3)).size := by rw [row_size]; kernel_rfl
  generalize row 74 (nodeK 2 1 0 0 0 3) = R at *
  go_enter Try.func17, Try.ntmps17
  go_wp2_with fail
  refine (cB _ (by omega) (by omega)).mono ?_
  rintro e w1 ⟨rfl, hb1⟩
  have HB1 := Lib.hid (onward ((Below.refl w.heap.size w).alloc (Nat.le_refl _) (.cells Try.zeroCells37 37)) (Nat.le_refl _) hb1)
  have D0 := Lib.hid ((Blk.new (w := w) (t := 37) (cs := Try.zeroCells37) rfl).below hb1 (by simp))
  have E0 := Lib.hid ((D0.out.alloc (.cells Try.zeroCells37 37)).setRow_other (g' := w1.heap.size) (by have := D0.out.lt; omega) R)
  have E1 : Hid (Blk ((w1.alloc (.cells Try.zeroCells37 37)).setRow w1.heap.size R) w1.heap.size 37 R) := Lib.hid ((Blk.fresh _ _ _).setRow R)
  have HB2 := Lib.hid (below_setRow (HB1.out.alloc HB1.out.size (.cells Try.zeroCells37 37)) HB1.out.size R)
  have F1 : Hid (Blk (w1.alloc (.cells Try.zeroCells37 37)) w1.heap.size 37 Try.zeroCells37) := Lib.hid (Blk.fresh _ _ _)
  clear hb1 D0
  go_wp2_with (first
    | (refine wpList_store_row rfl 37 (.tmp 1) _ rfl w1.heap.size R rfl rfl 37 _ F1.out hi74 hz h174 ?_)
    | (refine wpList_whole rfl 37 _ rfl w1.heap.size rfl E1.out _ Try.underlying37 rfl hi74 ?_)
    | (refine wpList_store_row rfl 37 (.tmp 0) _ rfl w.heap.size R rfl rfl 37 _ E0.out hi74 hz h174 ?_))
  exact ret_row rfl rfl (E0.out.setRow R) Try.underlying37 rfl hi74 rfl ⟨rfl, below_setRow HB2.out (by omega) R⟩
end Go.Proofs.Ytjfllpmiajkenaa.Nd
