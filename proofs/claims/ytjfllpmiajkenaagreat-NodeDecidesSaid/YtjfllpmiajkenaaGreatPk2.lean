import Derived.Test.YtjfllpmiajkenaaGreatPk1
import Derived.Deep.QuietTactic
import Derived.BigQuiet
import Derived.Deep.DeepCutAuto
namespace Go.Proofs.YtjfllpmiajkenaaGreat.Nd
open Go.RowKit Go.Proofs.YtjfllpmiajkenaaGreat.Mem Go.Proofs.YtjfllpmiajkenaaGreat.Rws Go.Proofs.YtjfllpmiajkenaaGreat.Flat
set_option linter.unusedVariables false
def boolsV (bs : List Bool) : List Value := bs.map Value.bool
theorem boolsV_at (bs : List Bool) (k : Nat) (hk : k < bs.length) : (boolsV bs)[k]? = some (.bool bs[k]) := by simp [boolsV, hk]
theorem boolsV_one (bs : List Bool) : ∀ u ∈ boolsV bs, u.oneCell' = true := fun u hu => by
  obtain ⟨z, _, rfl⟩ := List.mem_map.1 hu
  rfl
def verC (v : Int) (s : Bool) (A : Option Addr) (n c : Nat) : Array Value := #[.int .i64 v, .bool s, .slice A n c]
set_option maxRecDepth 100000 in
set_option maxHeartbeats 1000000 in
theorem sameVerdict_any (v : Int) (s : Bool) (A A' : Option Addr) (c c' : Nat) (bs : List Bool) (B : Nat) (w : World) (hB : B ≤ w.heap.size) (hl : bs.length ≤ 140737488355328) (hr : Rd w B 1 A bs.length (boolsV bs)) (hr' : Rd w B 1 A' bs.length (boolsV bs)) :
    Calls Tryz.prog 38 #[.agg (verC v s A bs.length c), .agg (verC v s A' bs.length c')] w fun e w' => e = .returned (.bool true) ∧ Below w.heap.size w w' := by
  have HR := Lib.hid ((hr.alloc hB (.cells (verC v s A bs.length c) 35)).alloc (by simp; omega) (.cells (verC v s A' bs.length c') 35))
  have HR' := Lib.hid ((hr'.alloc hB (.cells (verC v s A bs.length c) 35)).alloc (by simp; omega) (.cells (verC v s A' bs.length c') 35))
  have HB := Lib.hid (((Below.refl w.heap.size w).alloc (Nat.le_refl _) (.cells (verC v s A bs.length c) 35)).alloc (by simp) (.cells (verC v s A' bs.length c') 35))
  have hne : (v != v) = false := by simp
  have hns : (s != s) = false := by simp
  clear hr hr'
  unfold verC at *
  go_enter Tryz.func38, Tryz.ntmps38
  go_wp2_with fail
  generalize hW : ((w.alloc (.cells #[.int .i64 v, .bool s, .slice A bs.length c] 35)).alloc (.cells #[.int .i64 v, .bool s, .slice A' bs.length c'] 35)) = W at *
  have c2 : W.cell? ⟨w.heap.size, 2, none⟩ = some (.slice A bs.length c) := by rw [← hW]; exact ((Blk.new rfl).alloc _).cell 2
  have c3 : W.cell? ⟨w.heap.size + 1, 2, none⟩ = some (.slice A' bs.length c') := by rw [← hW]; exact (Blk.new (by simp)).cell 2
  clear hW
  have C2 := Lib.hid c2
  have C3 := Lib.hid c3
  clear c2 c3
  go_loopw [30] (fun i wr => ∃ k q : Nat, k ≤ bs.length ∧ i = .int .i64 k ∧ wr = W.drewN q) (fun i _ => bs.length - (intOf i).toNat)
  case atStart => exact ⟨0, 0, by omega, rfl, rfl⟩
  case round =>
    obtain ⟨k, q, hk, rfl, rfl⟩ := hrel
    by_cases hlt : k < bs.length
    · obtain ⟨b, o, u, rfl, hbB, hu, hcell⟩ := HR.out.at hlt
      obtain ⟨b', o', u', rfl, hbB', hu', hcell'⟩ := HR'.out.at hlt
      rw [boolsV_at bs k hlt] at hu hu'
      obtain rfl := Option.some.inj hu
      obtain rfl := Option.some.inj hu'
      generalize bs[k] = z at *
      clear hu hu'
      have hl0 : (0 : Int) ≤ (k : Int) := by omega
      have hl1 : (k : Int) < (bs.length : Int) := by omega
      have hcell : (W.drewN q).cell? ⟨b, o + k, none⟩ = some (.bool z) := hcell
      have hcell' : (W.drewN q).cell? ⟨b', o' + k, none⟩ = some (.bool z) := hcell'
      have c2 : (W.drewN q).cell? ⟨w.heap.size, 2, none⟩ = some (.slice (some ⟨b, o, none⟩) bs.length c) := C2.out
      have c3 : (W.drewN q).cell? ⟨w.heap.size + 1, 2, none⟩ = some (.slice (some ⟨b', o', none⟩) bs.length c') := C3.out
      have hnz : (z != z) = false := by simp
      have c4 : W.cell? ⟨w.heap.size, 2, none⟩ = some (.slice (some ⟨b, o, none⟩) bs.length c) := C2.out
      have c5 : W.cell? ⟨w.heap.size + 1, 2, none⟩ = some (.slice (some ⟨b', o', none⟩) bs.length c') := C3.out
      have hc6 : W.cell? ⟨b, o + k, none⟩ = some (.bool z) := hcell
      have hc7 : W.cell? ⟨b', o' + k, none⟩ = some (.bool z) := hcell'
      go_wp2_with fail
      go_quiet (fail)
      go_wp2_with fail
      exact ⟨⟨k + 1, q + nq, by omega, by go_num, rfl⟩, by simp [intOf]; omega⟩
    · obtain rfl : k = bs.length := by omega
      clear hlt
      go_wp2_with fail
      go_ret
      exact ⟨rfl, below_drewN HB.out _⟩
def nodeT (i : Nat) : Bool := !(i == 11 || i == 18 || i == 25 || i == 27 || i == 28 || i == 29 || i == 30 || i == 72)
def okT (b : Bool) (v : Value) : Prop := match b with | true => ∃ n, v = Value.int .i64 n | false => ∃ c, v = Value.bool c
def nodeW (f : Nat → Value) (S : Value) (i : Nat) : Value := if i = 73 then S else f i
theorem typed_row : ∀ (ls : List Bool) (o : Nat) (f : Nat → Value), (∀ i (h : i < ls.length), okT ls[i] (f (o + i))) → Typed ls ((List.range ls.length).map fun j => f (o + j))
  | [], _, _, _ => trivial
  | b :: ls, o, f, h => by
    rw [List.length_cons, List.range_succ_eq_map, List.map_cons, List.map_map]
    refine ⟨?_, ?_⟩
    · have := h 0 (by simp)
      simp only [List.getElem_cons_zero, okT] at this
      cases b
      · exact this
      · obtain ⟨n, hn⟩ := this; exact ⟨_, n, hn⟩
    · have := typed_row ls (o + 1) f fun i hi => by
        have := h (i + 1) (by simpa using hi)
        rw [show o + (i + 1) = o + 1 + i by omega] at this
        simpa using this
      refine (congrArg (Typed ls) (List.map_congr_left fun j _ => ?_)).mp this
      show f (o + 1 + j) = f (o + (j + 1))
      congr 1; omega
section
variable {P : Program} {ops : Array Oper} {rest : List Oper} {o : Oper} {a : Act} {w : World} {Q : Exit → Act → World → Prop}
theorem wpList_part (hw : Region.wanted o (yielded ops a.tmps) = true) (ty : TypeId) (x : Operand) (ho : o.op = .load ty x)
    (b off m : Nat) (hx : a.eval x = .pointer (some ⟨b, off, none⟩)) {t : TypeId} {f : Nat → Value} {S : Value} (hb : Blk w b t (row 74 (nodeW f S))) (hm : off + m ≤ 73) (d : TypeDesc)
    (hu : P.underlying ty = some d) (hd : d.isRow = true) (hi : (P.info? ty).map (·.size) = some m)
    (h : wpList P ops Q rest (a.put o.dst (.agg (row m fun j => f (off + j)))) w) : wpList P ops Q (o :: rest) a w := by
  refine wpList_mid hw ty x ho b off m hx hb (by omega) d hu hd hi ?_
  rw [row_congr (f := fun j => nodeW f S (off + j)) (g := fun j => f (off + j)) (fun i hi => by unfold nodeW; rw [if_neg (by omega)])]
  exact h
end
theorem typ_part {f : Nat → Value} (h : ∀ i, i < 73 → okT (nodeT i) (f i)) {ls : List Bool} {o : Nat} (hl : (List.range ls.length).all (fun i => decide (o + i < 73) && (ls.getD i true == nodeT (o + i))) = true) : ∀ i (hi : i < ls.length), okT ls[i] (f (o + i)) := fun i hi => by
  have h1 := List.all_eq_true.1 hl i (List.mem_range.2 hi)
  simp only [Bool.and_eq_true, decide_eq_true_eq, beq_iff_eq] at h1
  have e : ls.getD i true = ls[i] := by simp [List.getD, hi]
  rw [← e, h1.2]
  exact h _ h1.1
set_option maxRecDepth 100000 in
set_option maxHeartbeats 2000000 in
theorem sameNode_any (f : Nat → Value) (hf : ∀ i, i < 73 → okT (nodeT i) (f i)) (A A' : Option Addr) (c c' : Nat) (bs : List Bool) (B : Nat) (w : World) (hB : B ≤ w.heap.size) (hl : bs.length ≤ 140737488355328) (hr : Rd w B 1 A bs.length (boolsV bs)) (hr' : Rd w B 1 A' bs.length (boolsV bs)) :
    Calls Tryz.prog 11 #[.agg (row 74 (nodeW f (.slice A bs.length c))), .agg (row 74 (nodeW f (.slice A' bs.length c')))] w fun e w' => e = .returned (.bool true) ∧ Below w.heap.size w w' := by
  have HT := Lib.hid hf
  obtain ⟨i0, hi0⟩ := hf 0 (by omega)
  obtain ⟨i1, hi1⟩ := hf 1 (by omega)
  obtain ⟨i70, hi70⟩ := hf 70 (by omega)
  obtain ⟨v, hv⟩ := hf 71 (by omega)
  obtain ⟨s, hs⟩ := hf 72 (by omega)
  have HR := Lib.hid ((hr.alloc hB (.cells (row 74 (nodeW f (.slice A bs.length c))) 37)).alloc (by simp; omega) (.cells (row 74 (nodeW f (.slice A' bs.length c'))) 37))
  have HR' := Lib.hid ((hr'.alloc hB (.cells (row 74 (nodeW f (.slice A bs.length c))) 37)).alloc (by simp; omega) (.cells (row 74 (nodeW f (.slice A' bs.length c'))) 37))
  have HL := Lib.hid (((Below.refl w.heap.size w).alloc (Nat.le_refl _) (.cells (row 74 (nodeW f (.slice A bs.length c))) 37)).alloc (by simp) (.cells (row 74 (nodeW f (.slice A' bs.length c'))) 37))
  have HA : Hid (Blk ((w.alloc (.cells (row 74 (nodeW f (.slice A bs.length c))) 37)).alloc (.cells (row 74 (nodeW f (.slice A' bs.length c'))) 37)) w.heap.size 37 (row 74 (nodeW f (.slice A bs.length c)))) := Lib.hid ((Blk.new rfl).alloc _)
  have HB : Hid (Blk ((w.alloc (.cells (row 74 (nodeW f (.slice A bs.length c))) 37)).alloc (.cells (row 74 (nodeW f (.slice A' bs.length c'))) 37)) (w.heap.size + 1) 37 (row 74 (nodeW f (.slice A' bs.length c')))) := Lib.hid (Blk.new (by simp))
  have hB2 : B ≤ ((w.alloc (.cells (row 74 (nodeW f (.slice A bs.length c))) 37)).alloc (.cells (row 74 (nodeW f (.slice A' bs.length c'))) 37)).heap.size := by simp; omega
  have cell : ∀ {wx : World} {g : Nat} {t : TypeId} {S x : Value} {i : Nat}, i < 74 → Blk wx g t (row 74 (nodeW f S)) → nodeW f S i = x → wx.cell? ⟨g, i, none⟩ = some x := fun hi hb hx => by rw [hb.cell, row_at hi, hx]
  have a0 := cell (by omega) HA.out (show nodeW f _ 0 = _ from hi0)
  have a1 := cell (by omega) HA.out (show nodeW f _ 1 = _ from hi1)
  have a70 := cell (by omega) HA.out (show nodeW f _ 70 = _ from hi70)
  have a71 := cell (by omega) HA.out (show nodeW f _ 71 = _ from hv)
  have a72 := cell (by omega) HA.out (show nodeW f _ 72 = _ from hs)
  have a73 := cell (i := 73) (by omega) HA.out rfl
  have b0 := cell (by omega) HB.out (show nodeW f _ 0 = _ from hi0)
  have b1 := cell (by omega) HB.out (show nodeW f _ 1 = _ from hi1)
  have b70 := cell (by omega) HB.out (show nodeW f _ 70 = _ from hi70)
  have b71 := cell (by omega) HB.out (show nodeW f _ 71 = _ from hv)
  have b72 := cell (by omega) HB.out (show nodeW f _ 72 = _ from hs)
  have b73 := cell (i := 73) (by omega) HB.out rfl
  rw [show nodeW f (.slice A bs.length c) 73 = .slice A bs.length c from rfl] at a73
  rw [show nodeW f (.slice A' bs.length c') 73 = .slice A' bs.length c' from rfl] at b73
  clear hf hi0 hi1 hi70 hv hs cell hr hr'
  generalize hW : ((w.alloc (.cells (row 74 (nodeW f (.slice A bs.length c))) 37)).alloc (.cells (row 74 (nodeW f (.slice A' bs.length c'))) 37)) = W at *
  go_enter Tryz.func11, Tryz.ntmps11
  go_upto_region 1 with fail
  clear hW
  refine wp_region_list ?_
  simp only [List.cons_append, List.nil_append, List.append_eq]
  refine wpList_wanted (by rfl) (fun K hK => ?_)
  go_simp
  refine hK _ _ ?_
  clear hK K
  try simp only [Act.put, List.setIfInBounds_toArray, List.set_cons_zero, List.set_cons_succ]
  refine wpList_wanted (by rfl) (fun K hK => ?_)
  go_simp
  refine hK _ _ ?_
  clear hK K
  try simp only [Act.put, List.setIfInBounds_toArray, List.set_cons_zero, List.set_cons_succ]
  refine wpList_wanted (by rfl) (fun K hK => ?_)
  go_simp
  refine hK _ _ ?_
  clear hK K
  try simp only [Act.put, List.setIfInBounds_toArray, List.set_cons_zero, List.set_cons_succ]
  refine wpList_wanted (by rfl) (fun K hK => ?_)
  go_simp
  refine hK _ _ ?_
  clear hK K
  try simp only [Act.put, List.setIfInBounds_toArray, List.set_cons_zero, List.set_cons_succ]
  refine wpList_wanted (by rfl) (fun K hK => ?_)
  go_simp
  refine hK _ _ ?_
  clear hK K
  try simp only [Act.put, List.setIfInBounds_toArray, List.set_cons_zero, List.set_cons_succ]
  refine wpList_wanted (by rfl) (fun K hK => ?_)
  go_simp
  refine hK _ _ ?_
  clear hK K
  try simp only [Act.put, List.setIfInBounds_toArray, List.set_cons_zero, List.set_cons_succ]
  refine wpList_wanted (by rfl) (fun K hK => ?_)
  go_simp
  refine hK _ _ ?_
  clear hK K
  try simp only [Act.put, List.setIfInBounds_toArray, List.set_cons_zero, List.set_cons_succ]
  refine wpList_wanted (by rfl) (fun K hK => ?_)
  go_simp
  refine hK _ _ ?_
  clear hK K
  try simp only [Act.put, List.setIfInBounds_toArray, List.set_cons_zero, List.set_cons_succ]
  refine wpList_wanted (by rfl) (fun K hK => ?_)
  go_simp
  refine hK _ _ ?_
  clear hK K
  try simp only [Act.put, List.setIfInBounds_toArray, List.set_cons_zero, List.set_cons_succ]
  refine wpList_wanted (by rfl) (fun K hK => ?_)
  go_simp
  refine hK _ _ ?_
  clear hK K
  try simp only [Act.put, List.setIfInBounds_toArray, List.set_cons_zero, List.set_cons_succ]
  refine wpList_wanted (by rfl) (fun K hK => ?_)
  go_simp
  refine hK _ _ ?_
  clear hK K
  try simp only [Act.put, List.setIfInBounds_toArray, List.set_cons_zero, List.set_cons_succ]
  refine wpList_wanted (by rfl) (fun K hK => ?_)
  go_simp
  refine hK _ _ ?_
  clear hK K
  try simp only [Act.put, List.setIfInBounds_toArray, List.set_cons_zero, List.set_cons_succ]
  refine wpList_wanted (by rfl) (fun K hK => ?_)
  go_simp
  refine hK _ _ ?_
  clear hK K
  try simp only [Act.put, List.setIfInBounds_toArray, List.set_cons_zero, List.set_cons_succ]
  refine wpList_wanted (by rfl) (fun K hK => ?_)
  go_simp
  refine hK _ _ ?_
  clear hK K
  try simp only [Act.put, List.setIfInBounds_toArray, List.set_cons_zero, List.set_cons_succ]
  refine wpList_part (by rfl) 23 _ rfl w.heap.size 2 4 rfl HA.out (by omega) _ Tryz.underlying23 rfl (by kernel_rfl) ?_
  try simp only [Act.put, List.setIfInBounds_toArray, List.set_cons_zero, List.set_cons_succ]
  refine wpList_wanted (by rfl) (fun K hK => ?_)
  go_simp
  refine hK _ _ ?_
  clear hK K
  try simp only [Act.put, List.setIfInBounds_toArray, List.set_cons_zero, List.set_cons_succ]
  refine wpList_part (by rfl) 23 _ rfl (w.heap.size + 1) 2 4 rfl HB.out (by omega) _ Tryz.underlying23 rfl (by kernel_rfl) ?_
  try simp only [Act.put, List.setIfInBounds_toArray, List.set_cons_zero, List.set_cons_succ]
  refine wpList_eql (by rfl) 23 _ _ _ rfl (d := 20) (ls := [true, true, true, true]) (by kernel_rfl) (by omega) Tryz.underlying23 rfl (by kernel_rfl) (by kernel_rfl) (fun j => f (2 + j)) rfl rfl (typed_row [true, true, true, true] 2 f (typ_part HT.out (by decide))) ?_
  try simp only [Act.put, List.setIfInBounds_toArray, List.set_cons_zero, List.set_cons_succ]
  refine wpList_wanted (by rfl) (fun K hK => ?_)
  go_simp
  refine hK _ _ ?_
  clear hK K
  try simp only [Act.put, List.setIfInBounds_toArray, List.set_cons_zero, List.set_cons_succ]
  refine wpList_wanted (by rfl) (fun K hK => ?_)
  go_simp
  refine hK _ _ ?_
  clear hK K
  try simp only [Act.put, List.setIfInBounds_toArray, List.set_cons_zero, List.set_cons_succ]
  refine wpList_wanted (by rfl) (fun K hK => ?_)
  go_simp
  refine hK _ _ ?_
  clear hK K
  try simp only [Act.put, List.setIfInBounds_toArray, List.set_cons_zero, List.set_cons_succ]
  refine wpList_part (by rfl) 26 _ rfl w.heap.size 6 21 rfl HA.out (by omega) _ Tryz.underlying26 rfl (by kernel_rfl) ?_
  try simp only [Act.put, List.setIfInBounds_toArray, List.set_cons_zero, List.set_cons_succ]
  refine wpList_wanted (by rfl) (fun K hK => ?_)
  go_simp
  refine hK _ _ ?_
  clear hK K
  try simp only [Act.put, List.setIfInBounds_toArray, List.set_cons_zero, List.set_cons_succ]
  refine wpList_part (by rfl) 26 _ rfl (w.heap.size + 1) 6 21 rfl HB.out (by omega) _ Tryz.underlying26 rfl (by kernel_rfl) ?_
  try simp only [Act.put, List.setIfInBounds_toArray, List.set_cons_zero, List.set_cons_succ]
  refine wpList_eql (by rfl) 26 _ _ _ rfl (d := 20) (ls := [true, true, true, true, true, false, true, true, true, true, true, true, false, true, true, true, true, true, true, false, true]) (by kernel_rfl) (by omega) Tryz.underlying26 rfl (by kernel_rfl) (by kernel_rfl) (fun j => f (6 + j)) rfl rfl (typed_row [true, true, true, true, true, false, true, true, true, true, true, true, false, true, true, true, true, true, true, false, true] 6 f (typ_part HT.out (by decide))) ?_
  try simp only [Act.put, List.setIfInBounds_toArray, List.set_cons_zero, List.set_cons_succ]
  refine wpList_wanted (by rfl) (fun K hK => ?_)
  go_simp
  refine hK _ _ ?_
  clear hK K
  try simp only [Act.put, List.setIfInBounds_toArray, List.set_cons_zero, List.set_cons_succ]
  refine wpList_wanted (by rfl) (fun K hK => ?_)
  go_simp
  refine hK _ _ ?_
  clear hK K
  try simp only [Act.put, List.setIfInBounds_toArray, List.set_cons_zero, List.set_cons_succ]
  refine wpList_wanted (by rfl) (fun K hK => ?_)
  go_simp
  refine hK _ _ ?_
  clear hK K
  try simp only [Act.put, List.setIfInBounds_toArray, List.set_cons_zero, List.set_cons_succ]
  refine wpList_part (by rfl) 30 _ rfl w.heap.size 27 12 rfl HA.out (by omega) _ Tryz.underlying30 rfl (by kernel_rfl) ?_
  try simp only [Act.put, List.setIfInBounds_toArray, List.set_cons_zero, List.set_cons_succ]
  refine wpList_wanted (by rfl) (fun K hK => ?_)
  go_simp
  refine hK _ _ ?_
  clear hK K
  try simp only [Act.put, List.setIfInBounds_toArray, List.set_cons_zero, List.set_cons_succ]
  refine wpList_part (by rfl) 30 _ rfl (w.heap.size + 1) 27 12 rfl HB.out (by omega) _ Tryz.underlying30 rfl (by kernel_rfl) ?_
  try simp only [Act.put, List.setIfInBounds_toArray, List.set_cons_zero, List.set_cons_succ]
  refine wpList_eql (by rfl) 30 _ _ _ rfl (d := 20) (ls := [false, false, false, false, true, true, true, true, true, true, true, true]) (by kernel_rfl) (by omega) Tryz.underlying30 rfl (by kernel_rfl) (by kernel_rfl) (fun j => f (27 + j)) rfl rfl (typed_row [false, false, false, false, true, true, true, true, true, true, true, true] 27 f (typ_part HT.out (by decide))) ?_
  try simp only [Act.put, List.setIfInBounds_toArray, List.set_cons_zero, List.set_cons_succ]
  refine wpList_wanted (by rfl) (fun K hK => ?_)
  go_simp
  refine hK _ _ ?_
  clear hK K
  try simp only [Act.put, List.setIfInBounds_toArray, List.set_cons_zero, List.set_cons_succ]
  refine wpList_wanted (by rfl) (fun K hK => ?_)
  go_simp
  refine hK _ _ ?_
  clear hK K
  try simp only [Act.put, List.setIfInBounds_toArray, List.set_cons_zero, List.set_cons_succ]
  refine wpList_wanted (by rfl) (fun K hK => ?_)
  go_simp
  refine hK _ _ ?_
  clear hK K
  try simp only [Act.put, List.setIfInBounds_toArray, List.set_cons_zero, List.set_cons_succ]
  refine wpList_part (by rfl) 32 _ rfl w.heap.size 39 12 rfl HA.out (by omega) _ Tryz.underlying32 rfl (by kernel_rfl) ?_
  try simp only [Act.put, List.setIfInBounds_toArray, List.set_cons_zero, List.set_cons_succ]
  refine wpList_wanted (by rfl) (fun K hK => ?_)
  go_simp
  refine hK _ _ ?_
  clear hK K
  try simp only [Act.put, List.setIfInBounds_toArray, List.set_cons_zero, List.set_cons_succ]
  refine wpList_part (by rfl) 32 _ rfl (w.heap.size + 1) 39 12 rfl HB.out (by omega) _ Tryz.underlying32 rfl (by kernel_rfl) ?_
  try simp only [Act.put, List.setIfInBounds_toArray, List.set_cons_zero, List.set_cons_succ]
  refine wpList_eql (by rfl) 32 _ _ _ rfl (d := 20) (ls := [true, true, true, true, true, true, true, true, true, true, true, true]) (by kernel_rfl) (by omega) Tryz.underlying32 rfl (by kernel_rfl) (by kernel_rfl) (fun j => f (39 + j)) rfl rfl (typed_row [true, true, true, true, true, true, true, true, true, true, true, true] 39 f (typ_part HT.out (by decide))) ?_
  try simp only [Act.put, List.setIfInBounds_toArray, List.set_cons_zero, List.set_cons_succ]
  refine wpList_wanted (by rfl) (fun K hK => ?_)
  go_simp
  refine hK _ _ ?_
  clear hK K
  try simp only [Act.put, List.setIfInBounds_toArray, List.set_cons_zero, List.set_cons_succ]
  refine wpList_wanted (by rfl) (fun K hK => ?_)
  go_simp
  refine hK _ _ ?_
  clear hK K
  try simp only [Act.put, List.setIfInBounds_toArray, List.set_cons_zero, List.set_cons_succ]
  refine wpList_wanted (by rfl) (fun K hK => ?_)
  go_simp
  refine hK _ _ ?_
  clear hK K
  try simp only [Act.put, List.setIfInBounds_toArray, List.set_cons_zero, List.set_cons_succ]
  refine wpList_part (by rfl) 28 _ rfl w.heap.size 51 4 rfl HA.out (by omega) _ Tryz.underlying28 rfl (by kernel_rfl) ?_
  try simp only [Act.put, List.setIfInBounds_toArray, List.set_cons_zero, List.set_cons_succ]
  refine wpList_wanted (by rfl) (fun K hK => ?_)
  go_simp
  refine hK _ _ ?_
  clear hK K
  try simp only [Act.put, List.setIfInBounds_toArray, List.set_cons_zero, List.set_cons_succ]
  refine wpList_part (by rfl) 28 _ rfl (w.heap.size + 1) 51 4 rfl HB.out (by omega) _ Tryz.underlying28 rfl (by kernel_rfl) ?_
  try simp only [Act.put, List.setIfInBounds_toArray, List.set_cons_zero, List.set_cons_succ]
  refine wpList_eql (by rfl) 28 _ _ _ rfl (d := 20) (ls := [true, true, true, true]) (by kernel_rfl) (by omega) Tryz.underlying28 rfl (by kernel_rfl) (by kernel_rfl) (fun j => f (51 + j)) rfl rfl (typed_row [true, true, true, true] 51 f (typ_part HT.out (by decide))) ?_
  try simp only [Act.put, List.setIfInBounds_toArray, List.set_cons_zero, List.set_cons_succ]
  refine wpList_wanted (by rfl) (fun K hK => ?_)
  go_simp
  refine hK _ _ ?_
  clear hK K
  try simp only [Act.put, List.setIfInBounds_toArray, List.set_cons_zero, List.set_cons_succ]
  refine wpList_wanted (by rfl) (fun K hK => ?_)
  go_simp
  refine hK _ _ ?_
  clear hK K
  try simp only [Act.put, List.setIfInBounds_toArray, List.set_cons_zero, List.set_cons_succ]
  refine wpList_wanted (by rfl) (fun K hK => ?_)
  go_simp
  refine hK _ _ ?_
  clear hK K
  try simp only [Act.put, List.setIfInBounds_toArray, List.set_cons_zero, List.set_cons_succ]
  refine wpList_part (by rfl) 32 _ rfl w.heap.size 55 12 rfl HA.out (by omega) _ Tryz.underlying32 rfl (by kernel_rfl) ?_
  try simp only [Act.put, List.setIfInBounds_toArray, List.set_cons_zero, List.set_cons_succ]
  refine wpList_wanted (by rfl) (fun K hK => ?_)
  go_simp
  refine hK _ _ ?_
  clear hK K
  try simp only [Act.put, List.setIfInBounds_toArray, List.set_cons_zero, List.set_cons_succ]
  refine wpList_part (by rfl) 32 _ rfl (w.heap.size + 1) 55 12 rfl HB.out (by omega) _ Tryz.underlying32 rfl (by kernel_rfl) ?_
  try simp only [Act.put, List.setIfInBounds_toArray, List.set_cons_zero, List.set_cons_succ]
  refine wpList_eql (by rfl) 32 _ _ _ rfl (d := 20) (ls := [true, true, true, true, true, true, true, true, true, true, true, true]) (by kernel_rfl) (by omega) Tryz.underlying32 rfl (by kernel_rfl) (by kernel_rfl) (fun j => f (55 + j)) rfl rfl (typed_row [true, true, true, true, true, true, true, true, true, true, true, true] 55 f (typ_part HT.out (by decide))) ?_
  try simp only [Act.put, List.setIfInBounds_toArray, List.set_cons_zero, List.set_cons_succ]
  refine wpList_wanted (by rfl) (fun K hK => ?_)
  go_simp
  refine hK _ _ ?_
  clear hK K
  try simp only [Act.put, List.setIfInBounds_toArray, List.set_cons_zero, List.set_cons_succ]
  refine wpList_wanted (by rfl) (fun K hK => ?_)
  go_simp
  refine hK _ _ ?_
  clear hK K
  try simp only [Act.put, List.setIfInBounds_toArray, List.set_cons_zero, List.set_cons_succ]
  refine wpList_wanted (by rfl) (fun K hK => ?_)
  go_simp
  refine hK _ _ ?_
  clear hK K
  try simp only [Act.put, List.setIfInBounds_toArray, List.set_cons_zero, List.set_cons_succ]
  refine wpList_part (by rfl) 31 _ rfl w.heap.size 67 3 rfl HA.out (by omega) _ Tryz.underlying31 rfl (by kernel_rfl) ?_
  try simp only [Act.put, List.setIfInBounds_toArray, List.set_cons_zero, List.set_cons_succ]
  refine wpList_wanted (by rfl) (fun K hK => ?_)
  go_simp
  refine hK _ _ ?_
  clear hK K
  try simp only [Act.put, List.setIfInBounds_toArray, List.set_cons_zero, List.set_cons_succ]
  refine wpList_part (by rfl) 31 _ rfl (w.heap.size + 1) 67 3 rfl HB.out (by omega) _ Tryz.underlying31 rfl (by kernel_rfl) ?_
  try simp only [Act.put, List.setIfInBounds_toArray, List.set_cons_zero, List.set_cons_succ]
  refine wpList_eql (by rfl) 31 _ _ _ rfl (d := 20) (ls := [true, true, true]) (by kernel_rfl) (by omega) Tryz.underlying31 rfl (by kernel_rfl) (by kernel_rfl) (fun j => f (67 + j)) rfl rfl (typed_row [true, true, true] 67 f (typ_part HT.out (by decide))) ?_
  try simp only [Act.put, List.setIfInBounds_toArray, List.set_cons_zero, List.set_cons_succ]
  refine wpList_wanted (by rfl) (fun K hK => ?_)
  go_simp
  refine hK _ _ ?_
  clear hK K
  try simp only [Act.put, List.setIfInBounds_toArray, List.set_cons_zero, List.set_cons_succ]
  refine wpList_wanted (by rfl) (fun K hK => ?_)
  go_simp
  refine hK _ _ ?_
  clear hK K
  try simp only [Act.put, List.setIfInBounds_toArray, List.set_cons_zero, List.set_cons_succ]
  refine wpList_wanted (by rfl) (fun K hK => ?_)
  go_simp
  refine hK _ _ ?_
  clear hK K
  try simp only [Act.put, List.setIfInBounds_toArray, List.set_cons_zero, List.set_cons_succ]
  refine wpList_wanted (by rfl) (fun K hK => ?_)
  go_simp
  refine hK _ _ ?_
  clear hK K
  try simp only [Act.put, List.setIfInBounds_toArray, List.set_cons_zero, List.set_cons_succ]
  refine wpList_wanted (by rfl) (fun K hK => ?_)
  go_simp
  refine hK _ _ ?_
  clear hK K
  try simp only [Act.put, List.setIfInBounds_toArray, List.set_cons_zero, List.set_cons_succ]
  refine wpList_wanted (by rfl) (fun K hK => ?_)
  go_simp
  refine hK _ _ ?_
  clear hK K
  try simp only [Act.put, List.setIfInBounds_toArray, List.set_cons_zero, List.set_cons_succ]
  refine wpList_wanted (by rfl) (fun K hK => ?_)
  go_simp
  refine hK _ _ ?_
  clear hK K
  try simp only [Act.put, List.setIfInBounds_toArray, List.set_cons_zero, List.set_cons_succ]
  refine wpList_wanted (by rfl) (fun K hK => ?_)
  go_simp
  refine hK _ _ ?_
  clear hK K
  try simp only [Act.put, List.setIfInBounds_toArray, List.set_cons_zero, List.set_cons_succ]
  refine wpList_wanted (by rfl) (fun K hK => ?_)
  go_simp
  refine hK _ _ ?_
  clear hK K
  try simp only [Act.put, List.setIfInBounds_toArray, List.set_cons_zero, List.set_cons_succ]
  refine wpList_wanted (by rfl) (fun K hK => ?_)
  go_simp
  refine hK _ _ ?_
  clear hK K
  try simp only [Act.put, List.setIfInBounds_toArray, List.set_cons_zero, List.set_cons_succ]
  refine wpList_wanted (by rfl) (fun K hK => ?_)
  go_simp
  refine hK _ _ ?_
  clear hK K
  try simp only [Act.put, List.setIfInBounds_toArray, List.set_cons_zero, List.set_cons_succ]
  refine wpList_wanted (by rfl) (fun K hK => ?_)
  go_simp
  refine hK _ _ ?_
  clear hK K
  try simp only [Act.put, List.setIfInBounds_toArray, List.set_cons_zero, List.set_cons_succ]
  refine wpList_wanted (by rfl) (fun K hK => ?_)
  go_simp
  refine hK _ _ ?_
  clear hK K
  try simp only [Act.put, List.setIfInBounds_toArray, List.set_cons_zero, List.set_cons_succ]
  refine wpList_wanted (by rfl) (fun K hK => ?_)
  go_simp
  go_at_call 38
  refine (sameVerdict_any v s A A' c c' bs B _ hB2 hl HR.out HR'.out).mono ?_
  rintro e w1 ⟨rfl, hb1⟩
  have HB1 := Lib.hid (onward HL.out (Nat.le_refl _) hb1)
  go_wp2_with fail
  go_ret
  exact ⟨rfl, HB1.out⟩
end Go.Proofs.YtjfllpmiajkenaaGreat.Nd
