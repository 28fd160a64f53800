/- Contracts: node.Sense and the reference's Sense. -/
import Derived.Test.YtjfllpmiajkenaaNodeC
import Derived.Test.YtjfllpmiajkenaaOwnCap
namespace Go.Proofs.Ytjfllpmiajkenaa.Nd
open Go.RowKit Go.Proofs.Ytjfllpmiajkenaa.Mem Go.Proofs.Ytjfllpmiajkenaa.Rws Go.Proofs.Ytjfllpmiajkenaa.Flat
set_option linter.unusedVariables false
set_option linter.unusedSimpArgs false

/-- a computer and a message, as answers -/
def NodeMsg (w w' : World) (f : Nat → Value) (bs : List Bool) (k i fr : Int) (zs : List Int) (e : Ending) : Prop :=
  ∃ A c A2 c2, e = .returned (.tuple #[.agg (row 74 (nodeW f (.slice A bs.length c))), Ms.msgV k i fr A2 zs.length c2]) ∧ Rd w' w'.heap.size 1 A bs.length (boolsV bs) ∧ Rd w' w'.heap.size 1 A2 zs.length (Ms.intsV zs) ∧ Below w.heap.size w w' ∧ (∀ a, A = some a → w.heap.size ≤ a.block) ∧ (∀ a, A2 = some a → w.heap.size ≤ a.block) ∧ (A = none → c = 0) ∧ bs.length ≤ c

def rd3 (r0 r1 r2 : Int) (j : Nat) : Value := if j = 0 then .int .i64 r0 else if j = 1 then .int .i64 r1 else .int .i64 r2
def lit12 : Array Value := #[.int .i64 0, .int .i64 0, .int .i64 0, .int .i64 0, .int .i64 0, .int .i64 0, .int .i64 0, .int .i64 0, .int .i64 0, .int .i64 0, .int .i64 0, .int .i64 0]
def lit4 : Array Value := #[.int .i64 0, .int .i64 0, .int .i64 0, .int .i64 0]
def lit3 (r0 r1 r2 : Int) : Array Value := #[.int .i64 r0, .int .i64 r1, .int .i64 r2]
def zero (j : Nat) : Value := .int .i64 0
/-- P12.2: what Sense makes of a computer's cells -/
def senseF (f : Nat → Value) (fr : Int) (k : Nat) (r0 r1 r2 : Int) : Nat → Value :=
  over (39 + k * 3) 3 (rd3 r0 r1 r2) (over 51 4 zero (over 39 12 zero (fun i => if i = 1 then .int .i64 fr else f i)))
theorem lit12_row : lit12 = row 12 zero := rfl
theorem lit4_row : lit4 = row 4 zero := rfl
theorem lit3_row (r0 r1 r2 : Int) : lit3 r0 r1 r2 = row 3 (rd3 r0 r1 r2) := rfl
theorem blk_lit {w : World} {b : Nat} {t : TypeId} {n m : Nat} {f g : Nat → Value} {L : Array Value} (hL : L = row m g) (h : Blk w b t (row n f)) (o : Nat) : Blk (w.setCells b o L.toList) b t (row n (over o m g f)) := by subst hL; exact blk_mid h o m g
theorem own_setCells {base : Nat} {e : TypeId} {size : Nat} {v : Value} {n : Nat} {xs : List Value} {g : Nat} (hg : g < base) : ∀ (vs : List Value) (o : Nat) {w : World}, w.ownsRow base e size v n xs → (w.setCells g o vs).ownsRow base e size v n xs
  | [], _, _, h => h
  | u :: r, o, w, h => by
    rw [World.setCells]
    exact own_setCells hg r (o + 1) (ownsRow_setCell_below h (a := ⟨g, o, none⟩) hg u)
theorem rd_of_blk {w : World} {g : Nat} {t : TypeId} {cs : Array Value} (h : Blk w g t cs) : Rd w (g + 1) 1 (some ⟨g, 0, none⟩) cs.size cs.toList :=
  ⟨by simp, fun _ => ⟨g, 0, rfl, by omega, fun j u hu => by rw [Nat.zero_add, h.cell]; simpa using hu⟩⟩
theorem exec_load_row {P : Program} {op : Oper} {a : Act} {w : World} (ty : TypeId) (x : Operand) (ho : op.op = .load ty x) (b : Nat) (hx : a.eval x = .pointer (some ⟨b, 0, none⟩)) {t : TypeId} {cs : Array Value} (h : Blk w b t cs)
    {d : TypeDesc} (hu : P.underlying ty = some d) (hd : (match d with | .struct _ | .array _ _ => true | _ => false) = true) (hi : (P.info? ty).map (·.size) = some cs.size) : (execOp a.eval op).run P w = .ok (.value (.agg cs)) w := by
  unfold execOp
  simp only [ho, hx, Instr.loadAt, Instr.sureAddr, Sem.run_bind, Sem.run_pure, Result.andThen_ok, run_loadVar_row w b t ty cs _ d h hu hd hi]
theorem sense0 (f : Nat → Value) (fr : Int) (k : Nat) (hk : k < 4) (r0 r1 r2 : Int) : senseF f fr k r0 r1 r2 0 = f 0 := by
  unfold senseF
  rw [over_out (by omega), over_out (by omega), over_out (by omega), if_neg (by omega)]
theorem sense1 (f : Nat → Value) (fr : Int) (k : Nat) (hk : k < 4) (r0 r1 r2 : Int) : senseF f fr k r0 r1 r2 1 = .int .i64 fr := by
  unfold senseF
  rw [over_out (by omega), over_out (by omega), over_out (by omega), if_pos rfl]
theorem sense_row (f : Nat → Value) (fr : Int) (k : Nat) (hk : k < 4) (r0 r1 r2 : Int) (S : Value) :
    row 74 (over (39 + k * 3) 3 (rd3 r0 r1 r2) (over 51 4 zero (over 39 12 zero (fun i => if i = 1 then .int .i64 fr else nodeW f S i)))) = row 74 (nodeW (senseF f fr k r0 r1 r2) S) :=
  row_congr fun i hi => by
    by_cases h : i = 73
    · subst h
      rw [over_out (by omega), over_out (by omega), over_out (by omega), if_neg (by omega)]
      rfl
    · unfold nodeW senseF
      rw [if_neg h]
      unfold over
      simp only [if_neg h]
theorem ok_sense {f : Nat → Value} (hf : ∀ i, i < 73 → okT (nodeT i) (f i)) (fr : Int) (k : Nat) (hk : k < 4) (r0 r1 r2 : Int) : ∀ i, i < 73 → okT (nodeT i) (senseF f fr k r0 r1 r2 i) := fun i hi => by
  unfold senseF
  by_cases h1 : 39 ≤ i ∧ i < 55
  · have e : nodeT i = true := by
      obtain ⟨a, b⟩ := h1
      unfold nodeT
      simp
      omega
    rw [e]
    unfold over
    split
    · unfold rd3; split
      · exact ⟨_, rfl⟩
      · split <;> exact ⟨_, rfl⟩
    · split
      · exact ⟨_, rfl⟩
      · split
        · exact ⟨_, rfl⟩
        · omega
  · rw [over_out (by omega), over_out (by omega), over_out (by omega)]
    by_cases h2 : i = 1
    · subst h2; rw [if_pos rfl]; exact ⟨_, rfl⟩
    · rw [if_neg h2]; exact hf i hi

set_option maxRecDepth 100000 in
set_option maxHeartbeats 2000000 in
theorem sense_any (f : Nat → Value) (hf : ∀ i, i < 73 → okT (nodeT i) (f i)) (k : Nat) (hk : k < 4) (hid : f 0 = .int .i64 (k : Int)) (fr r0 r1 r2 : Int) (A : Option Addr) (c : Nat) (bs : List Bool) (B : Nat) (w : World) (hB : B ≤ w.heap.size) (hA : A = none → c = 0) (hnc : bs.length ≤ c) (hl : bs.length ≤ 140737488351232) (hr : Rd w B 1 A bs.length (boolsV bs)) :
    Calls Try.prog 29 #[.agg (row 74 (nodeW f (.slice A bs.length c))), .int .i64 fr, .agg #[.int .i64 r0, .int .i64 r1, .int .i64 r2]] w fun e w' => NodeMsg w w' (senseF f fr k r0 r1 r2) bs 1 (k : Int) fr [r0, r1, r2] e := by
  obtain ⟨ifr, hfr⟩ := hf 1 (by omega)
  have hone : ∀ (A : Option Addr) (n c : Nat), (row 74 (nodeW f (.slice A n c))).all (·.oneCell') = true := fun A n c => one_of hf
  have HSF := Lib.hid (ok_sense hf fr k hk r0 r1 r2)
  have HS0 := Lib.hid ((sense0 f fr k hk r0 r1 r2).trans hid)
  have HS1 := Lib.hid (sense1 f fr k hk r0 r1 r2)
  have HO := Lib.hid hone
  have HF := Lib.hid hf
  have HID := Lib.hid hid
  have HFR := Lib.hid hfr
  clear hf hone hid hfr
  go_enter Try.func29, Try.ntmps29
  go_upto_region 1 with fail
  have D3 : Hid (Blk ((((w.alloc (.cells (row 74 (nodeW f (.slice A bs.length c))) 37)).alloc (.cells #[.int .i64 r0, .int .i64 r1, .int .i64 r2] 31)).alloc (.cells Try.zeroCells37 37)).alloc (.cells #[.int .i64 0, .int .i64 0, .int .i64 0, .slice none 0 0] 41)) w.heap.size 37 (row 74 (nodeW f (.slice A bs.length c)))) := Lib.hid ((((Blk.new rfl).alloc _).alloc _).alloc _)
  have D5 : Hid (Blk ((((w.alloc (.cells (row 74 (nodeW f (.slice A bs.length c))) 37)).alloc (.cells #[.int .i64 r0, .int .i64 r1, .int .i64 r2] 31)).alloc (.cells Try.zeroCells37 37)).alloc (.cells #[.int .i64 0, .int .i64 0, .int .i64 0, .slice none 0 0] 41)) (w.heap.size + 1) 31 #[.int .i64 r0, .int .i64 r1, .int .i64 r2]) := Lib.hid (((Blk.new (by simp)).alloc _).alloc _)
  have D6 : Hid (Blk ((((w.alloc (.cells (row 74 (nodeW f (.slice A bs.length c))) 37)).alloc (.cells #[.int .i64 r0, .int .i64 r1, .int .i64 r2] 31)).alloc (.cells Try.zeroCells37 37)).alloc (.cells #[.int .i64 0, .int .i64 0, .int .i64 0, .slice none 0 0] 41)) (w.heap.size + 1 + 1) 37 Try.zeroCells37) := Lib.hid ((Blk.new (by simp)).alloc _)
  have D7 : Hid (Blk ((((w.alloc (.cells (row 74 (nodeW f (.slice A bs.length c))) 37)).alloc (.cells #[.int .i64 r0, .int .i64 r1, .int .i64 r2] 31)).alloc (.cells Try.zeroCells37 37)).alloc (.cells #[.int .i64 0, .int .i64 0, .int .i64 0, .slice none 0 0] 41)) (w.heap.size + 1 + 1 + 1) 41 #[.int .i64 0, .int .i64 0, .int .i64 0, .slice none 0 0]) := Lib.hid (Blk.new (by simp))
  have HB := Lib.hid ((((((Below.refl w.heap.size w).alloc (Nat.le_refl _) (.cells (row 74 (nodeW f (.slice A bs.length c))) 37)).alloc (by simp) (.cells #[.int .i64 r0, .int .i64 r1, .int .i64 r2] 31)).alloc (by simp; omega) (.cells Try.zeroCells37 37)).alloc (by simp; omega) (.cells #[.int .i64 0, .int .i64 0, .int .i64 0, .slice none 0 0] 41)))
  have HR := Lib.hid hr
  clear hr
  generalize ((((w.alloc (.cells (row 74 (nodeW f (.slice A bs.length c))) 37)).alloc (.cells #[.int .i64 r0, .int .i64 r1, .int .i64 r2] 31)).alloc (.cells Try.zeroCells37 37)).alloc (.cells #[.int .i64 0, .int .i64 0, .int .i64 0, .slice none 0 0] 41)) = W at *
  have hi74 : ∀ A (n : Nat) c, (Try.prog.info? 37).map (·.size) = some (row 74 (nodeW f (.slice A n c))).size := fun A n c => by rw [row_size]; kernel_rfl
  have HI := Lib.hid hi74
  clear hi74
  have hwz : w.heap.size + 1 + 1 + 1 < W.heap.size := D7.out.lt
  have hia := HI.out A bs.length c
  obtain ⟨R1, hR1⟩ : ∃ R1, row 74 (nodeW f (.slice A bs.length c)) = R1 := ⟨_, rfl⟩
  have HR1 := Lib.hid hR1
  rw [hR1] at D3 hia
  clear hR1
  go_wp2_with (refine wpList_whole rfl 37 _ rfl w.heap.size rfl D3.out _ Try.underlying37 rfl hia ?_)
  rw [← HR1.out]
  refine (copied_any f HF.out A c bs B _ (Nat.le_trans hB HB.out.size) hA hnc hl (HR.out.below (HB.out.mono hB))).mono ?_
  rintro e w1 ⟨A2, c2, rfl, hown, hb1⟩
  rw [HR1.out]
  have HW1 := Lib.hid hown
  have HB1 := Lib.hid (onward HB.out (Nat.le_refl _) hb1)
  have hsz := hb1.size
  have hi2 := HI.out A2 bs.length c2
  have h12 := HO.out A2 bs.length c2
  have h20 : (row 74 (nodeW f (.slice A2 bs.length c2)))[0]? = some (.int .i64 (k : Int)) := by rw [row_at (by omega)]; exact congrArg some HID.out
  have h21 : (row 74 (nodeW f (.slice A2 bs.length c2)))[1]? = some (.int .i64 ifr) := by rw [row_at (by omega)]; exact congrArg some HFR.out
  have hs2 : R1.size = (row 74 (nodeW f (.slice A2 bs.length c2))).size := by rw [← HR1.out, row_size, row_size]
  obtain ⟨R2, hR2⟩ : ∃ R2, row 74 (nodeW f (.slice A2 bs.length c2)) = R2 := ⟨_, rfl⟩
  have HR2 := Lib.hid hR2
  rw [hR2] at hi2 h12 h20 h21 hs2 ⊢
  clear hR2
  have E3 := Lib.hid (D3.out.below hb1 D3.out.lt)
  have F3 := Lib.hid (E3.out.setRow R2)
  have F5 := Lib.hid ((D5.out.below hb1 D5.out.lt).setRow_other (g' := w.heap.size) (by omega) R2)
  have F6 := Lib.hid ((D6.out.below hb1 D6.out.lt).setRow_other (g' := w.heap.size) (by omega) R2)
  have F7 := Lib.hid ((D7.out.below hb1 D7.out.lt).setRow_other (g' := w.heap.size) (by omega) R2)
  have HB2 := Lib.hid (below_setRow HB1.out (Nat.le_refl _) R2)
  have HW2 := Lib.hid (own_setRow HW1.out (show w.heap.size < W.heap.size by omega) R2)
  have hk0 : ¬ ((k : Int) < 0) := by omega
  have hbk : badId (k : Int) = false := by unfold badId; simp; omega
  have cT := fun w => strange_any R2 (k : Int) h20 w
  rw [hbk] at cT
  clear hb1 hown hbk
  go_upto_region 4 with (first
    | (refine wpList_store_row rfl 37 _ _ rfl w.heap.size R2 rfl rfl 37 _ E3.out hi2 hs2 h12 ?_)
    | (refine wpList_whole rfl 37 _ rfl w.heap.size rfl F3.out _ Try.underlying37 rfl hi2 ?_)
    | (go_at_call 41; refine (cT _).mono ?_; rintro e w3 ⟨rfl, hb3⟩; have G3 := Lib.hid (F3.out.below hb3 F3.out.lt); have G5 := Lib.hid (F5.out.below hb3 F5.out.lt); have G6 := Lib.hid (F6.out.below hb3 F6.out.lt); have G7 := Lib.hid (F7.out.below hb3 F7.out.lt); have HB3 := Lib.hid (onward HB2.out (Nat.le_refl _) hb3); have HW3 := Lib.hid (ownsRow_below HW2.out hb3); clear hb3))
  rw [← HR2.out] at G3
  have H4 := Lib.hid (G3.out.set 1 (.int .i64 fr))
  rw [row_set] at H4
  have x1 : w3.cell? ⟨w.heap.size, 1, none⟩ = some (.int .i64 ifr) := by rw [G3.out.cell, row_at (by omega)]; exact congrArg some HFR.out
  have f1 := G3.out.thaw 1
  have H5 := Lib.hid (blk_lit lit12_row H4.out 39)
  have H6 := Lib.hid (blk_lit lit4_row H5.out 51)
  have H7 := Lib.hid (blk_lit (lit3_row r0 r1 r2) H6.out (39 + k * 3))
  rw [sense_row f fr k hk] at H7
  have y0 : (((w3.setCell ⟨w.heap.size, 1, none⟩ (.int .i64 fr)).setCells w.heap.size 39 lit12.toList).setCells w.heap.size 51 lit4.toList).cell? ⟨w.heap.size, 0, none⟩ = some (.int .i64 (k : Int)) := by
    rw [H6.out.cell, row_at (by omega), over_out (by omega), over_out (by omega), if_neg (by omega)]; exact congrArg some HID.out
  have A5 := Lib.hid (G5.out.other (p := ⟨w.heap.size, 1, none⟩) (by show w.heap.size + 1 ≠ w.heap.size; omega) (.int .i64 fr))
  have A5 := Lib.hid (blk_mid_other (w := w3) (b' := w.heap.size) (by omega) lit12.toList 39 _ A5.out)
  have A5 := Lib.hid (blk_mid_other (w := w3) (b' := w.heap.size) (by omega) lit4.toList 51 _ A5.out)
  have y1 := A5.out.cell 0
  have y2 := A5.out.cell 1
  have y3 := A5.out.cell 2
  simp only [List.getElem?_toArray, List.getElem?_cons_zero, List.getElem?_cons_succ] at y1 y2 y3
  have HY0 := Lib.hid y0
  have HY1 := Lib.hid y1
  have HY2 := Lib.hid y2
  have HY3 := Lib.hid y3
  clear y0 y1 y2 y3
  have A5 := Lib.hid (blk_mid_other (w := w3) (b' := w.heap.size) (by omega) (lit3 r0 r1 r2).toList (39 + k * 3) _ A5.out)
  have A6 := Lib.hid (blk_mid_other (w := w3) (b' := w.heap.size) (by omega) (lit3 r0 r1 r2).toList (39 + k * 3) _ (blk_mid_other (w := w3) (b' := w.heap.size) (by omega) lit4.toList 51 _ (blk_mid_other (w := w3) (b' := w.heap.size) (by omega) lit12.toList 39 _ (G6.out.other (p := ⟨w.heap.size, 1, none⟩) (by show w.heap.size + 1 + 1 ≠ w.heap.size; omega) (.int .i64 fr)))))
  have A7 := Lib.hid (blk_mid_other (w := w3) (b' := w.heap.size) (by omega) (lit3 r0 r1 r2).toList (39 + k * 3) _ (blk_mid_other (w := w3) (b' := w.heap.size) (by omega) lit4.toList 51 _ (blk_mid_other (w := w3) (b' := w.heap.size) (by omega) lit12.toList 39 _ (G7.out.other (p := ⟨w.heap.size, 1, none⟩) (by show w.heap.size + 1 + 1 + 1 ≠ w.heap.size; omega) (.int .i64 fr)))))
  have HB7 := Lib.hid (below_setCells (Nat.le_refl _) (lit3 r0 r1 r2).toList (39 + k * 3) (below_setCells (Nat.le_refl _) lit4.toList 51 (below_setCells (Nat.le_refl _) lit12.toList 39 (HB3.out.setCell (p := ⟨w.heap.size, 1, none⟩) (Nat.le_refl _) (.int .i64 fr)))))
  have HW7 := Lib.hid (own_setCells (show w.heap.size < W.heap.size by omega) (lit3 r0 r1 r2).toList (39 + k * 3) (own_setCells (show w.heap.size < W.heap.size by omega) lit4.toList 51 (own_setCells (show w.heap.size < W.heap.size by omega) lit12.toList 39 (ownsRow_setCell_below HW3.out (a := ⟨w.heap.size, 1, none⟩) (show w.heap.size < W.heap.size by omega) (.int .i64 fr)))))
  have q5 : (w3.setCell ⟨w.heap.size, 1, none⟩ (.int .i64 fr)).there w.heap.size 39 lit12.size := row_there H4.out 39 12 (by omega)
  have Hq5 := Lib.hid q5
  clear q5
  have q6 : ((w3.setCell ⟨w.heap.size, 1, none⟩ (.int .i64 fr)).setCells w.heap.size 39 lit12.toList).there w.heap.size 51 lit4.size := row_there H5.out 51 4 (by omega)
  have Hq6 := Lib.hid q6
  clear q6
  have q7 : (((w3.setCell ⟨w.heap.size, 1, none⟩ (.int .i64 fr)).setCells w.heap.size 39 lit12.toList).setCells w.heap.size 51 lit4.toList).there w.heap.size (39 + k * 3) (lit3 r0 r1 r2).size := row_there H6.out (39 + k * 3) 3 (by omega)
  have Hq7 := Lib.hid q7
  clear q7
  have i5 : (Try.prog.info? 32).map (·.size) = some lit12.size := by kernel_rfl
  have Hi5 := Lib.hid i5
  clear i5
  have i6 : (Try.prog.info? 28).map (·.size) = some lit4.size := by kernel_rfl
  have Hi6 := Lib.hid i6
  clear i6
  have i7 : (Try.prog.info? 31).map (·.size) = some (lit3 r0 r1 r2).size := by kernel_rfl
  have Hi7 := Lib.hid i7
  clear i7
  have o5 : lit12.all (·.oneCell') = true := by simp [lit12, Value.oneCell']
  have Ho5 := Lib.hid o5
  clear o5
  have o6 : lit4.all (·.oneCell') = true := by simp [lit4, Value.oneCell']
  have Ho6 := Lib.hid o6
  clear o6
  have o7 : (lit3 r0 r1 r2).all (·.oneCell') = true := by simp [lit3, Value.oneCell']
  have Ho7 := Lib.hid o7
  clear o7
  clear HB HB1 HB2 HB3 HW1 HW2 HW3 D3 D5 D6 D7 E3 F3 F5 F6 F7 G5 G6 G7 cT h20 h21 h12 hi2 hs2
  go_upto_region 5 with fail
  refine wp_region_list ?_
  refine wpList_plain rfl (fun K hK => ?_)
  go_simp
  refine hK _ _ ?_
  clear hK K
  try simp only [Act.put, List.setIfInBounds_toArray, List.set_cons_zero, List.set_cons_succ]
  refine wpList_plain rfl (fun K hK => ?_)
  go_simp
  refine hK _ _ ?_
  clear hK K
  try simp only [Act.put, List.setIfInBounds_toArray, List.set_cons_zero, List.set_cons_succ]
  refine wpList_plain rfl (fun K hK => ?_)
  refine wp_store_mid 32 (.tmp 17) (.tmp 16) rfl w.heap.size 39 lit12 rfl rfl Hq5.out Hi5.out Ho5.out (hK _ _ ?_)
  clear hK K
  try simp only [Act.put, List.setIfInBounds_toArray, List.set_cons_zero, List.set_cons_succ]
  clear x1 f1
  generalize ((w3.setCell ⟨w.heap.size, 1, none⟩ (.int .i64 fr)).setCells w.heap.size 39 lit12.toList) = W5 at *
  go_upto_region 6 with fail
  refine wp_region_list ?_
  refine wpList_plain rfl (fun K hK => ?_)
  go_simp
  refine hK _ _ ?_
  clear hK K
  try simp only [Act.put, List.setIfInBounds_toArray, List.set_cons_zero, List.set_cons_succ]
  refine wpList_plain rfl (fun K hK => ?_)
  go_simp
  refine hK _ _ ?_
  clear hK K
  try simp only [Act.put, List.setIfInBounds_toArray, List.set_cons_zero, List.set_cons_succ]
  refine wpList_plain rfl (fun K hK => ?_)
  refine wp_store_mid 28 (.tmp 19) (.tmp 18) rfl w.heap.size 51 lit4 rfl rfl Hq6.out Hi6.out Ho6.out (hK _ _ ?_)
  clear hK K
  try simp only [Act.put, List.setIfInBounds_toArray, List.set_cons_zero, List.set_cons_succ]
  go_upto_region 7 with fail
  generalize (W5.setCells w.heap.size 51 lit4.toList) = W6 at *
  have y0 := HY0.out
  have y1 := HY1.out
  have y2 := HY2.out
  have y3 := HY3.out
  have hk4 : (k : Int) < 4 := by omega
  have hk5 : (0 : Int) ≤ (k : Int) := by omega
  refine wp_region_list ?_
  refine wpList_plain rfl (fun K hK => ?_)
  go_simp
  refine hK _ _ ?_
  clear hK K
  try simp only [Act.put, List.setIfInBounds_toArray, List.set_cons_zero, List.set_cons_succ]
  refine wpList_plain rfl (fun K hK => ?_)
  go_simp
  refine hK _ _ ?_
  clear hK K
  try simp only [Act.put, List.setIfInBounds_toArray, List.set_cons_zero, List.set_cons_succ]
  refine wpList_plain rfl (fun K hK => ?_)
  go_simp
  refine hK _ _ ?_
  clear hK K
  try simp only [Act.put, List.setIfInBounds_toArray, List.set_cons_zero, List.set_cons_succ]
  refine wpList_plain rfl (fun K hK => ?_)
  go_simp
  refine hK _ _ ?_
  clear hK K
  try simp only [Act.put, List.setIfInBounds_toArray, List.set_cons_zero, List.set_cons_succ]
  refine wpList_plain rfl (fun K hK => ?_)
  go_simp
  refine hK _ _ ?_
  clear hK K
  try simp only [Act.put, List.setIfInBounds_toArray, List.set_cons_zero, List.set_cons_succ]
  refine wpList_plain rfl (fun K hK => ?_)
  refine wp_store_mid 31 (.tmp 24) (.tmp 22) rfl w.heap.size (39 + k * 3) (lit3 r0 r1 r2) rfl rfl Hq7.out Hi7.out Ho7.out (hK _ _ ?_)
  clear hK K
  try simp only [Act.put, List.setIfInBounds_toArray, List.set_cons_zero, List.set_cons_succ]
  clear y0 y1 y2 y3
  go_upto_region 8 with fail
  generalize (W6.setCells w.heap.size (39 + k * 3) (lit3 r0 r1 r2).toList) = W7 at *
  have i3 := HI.out A2 bs.length c2
  have sF := HSF.out
  have s3 := fun (A : Option Addr) (n c : Nat) => (one_of sF : (row 74 (nodeW (senseF f fr k r0 r1 r2) (.slice A n c))).all (·.oneCell') = true)
  have o3 := s3 A2 bs.length c2
  have z3 : (Try.zeroCells37).size = (row 74 (nodeW (senseF f fr k r0 r1 r2) (.slice A2 bs.length c2))).size := by rw [row_size]; kernel_rfl
  have j0 : (row 74 (nodeW (senseF f fr k r0 r1 r2) (.slice A2 bs.length c2)))[0]? = some (.int .i64 (k : Int)) := by rw [row_at (by omega)]; exact congrArg some HS0.out
  have j1 : (row 74 (nodeW (senseF f fr k r0 r1 r2) (.slice A2 bs.length c2)))[1]? = some (.int .i64 fr) := by rw [row_at (by omega)]; exact congrArg some HS1.out
  have i3 : (Try.prog.info? 37).map (·.size) = some (row 74 (nodeW (senseF f fr k r0 r1 r2) (.slice A2 bs.length c2))).size := by rw [row_size]; kernel_rfl
  obtain ⟨R3, hR3⟩ : ∃ R3, row 74 (nodeW (senseF f fr k r0 r1 r2) (.slice A2 bs.length c2)) = R3 := ⟨_, rfl⟩
  have HR3 := Lib.hid hR3
  rw [hR3] at H7 o3 z3 j0 j1 i3
  clear hR3 sF s3
  have cY := fun u => say_any R3 (k : Int) fr 1 (some ⟨w.heap.size + 1, 0, none⟩) 3 3 j0 j1 u
  refine wp_region_noPanic ?_
  have hHS : Blk W7.drew w.heap.size 37 R3 := H7.out.drew
  have H7 := Lib.hid H7.out.drew
  have A5 := Lib.hid A5.out.drew
  have A6 := Lib.hid A6.out.drew
  have A7 := Lib.hid A7.out.drew
  have HB7 := Lib.hid HB7.out.drew
  have HW7 := Lib.hid (ownsRow_below HW7.out ((Below.refl W7.heap.size W7).drew))
  have HS := hHS
  clear hHS
  refine Rg.beginR [0, 1] (fun w' => Blk w' w.heap.size 37 R3) (by kernel_rfl) ?_
  refine Rg.takeS (i := 0) (oi := { dst := some 25, op := Op.load 37 (Operand.tmp 3), type := 37, pos := "node.go:62", after := #[], guard := none }) (v := .agg R3) rfl (by kernel_rfl) (fun _ _ _ h => h) (by rfl) HS ?_ ?_
  · (intro w' hSw; exact exec_load_row 37 _ rfl _ rfl hSw Try.underlying37 rfl i3)
  try simp only [Act.put, List.setIfInBounds_toArray, List.set_cons_zero, List.set_cons_succ]
  refine Rg.takeS (i := 1) (oi := { dst := some 26, op := Op.load 37 (Operand.tmp 3), type := 37, pos := "node.go:62", after := #[], guard := none }) (v := .agg R3) rfl (by kernel_rfl) (fun _ _ _ h => h) (by rfl) HS ?_ ?_
  · (intro w' hSw; exact exec_load_row 37 _ rfl _ rfl hSw Try.underlying37 rfl i3)
  try simp only [Act.put, List.setIfInBounds_toArray, List.set_cons_zero, List.set_cons_succ]
  refine Rg.takeP (i := 2) (oi := { dst := some 27, op := Op.slice 31 (Operand.tmp 5) none none none, type := 39, pos := "node.go:62", after := #[], guard := none }) (v := ?_) rfl (by kernel_rfl) (fun _ _ _ h => h) (by rfl) ?_ ?_
  rotate_left 1
  · (intro w; go_simp; (try with_reducible rfl))
  try simp only [Act.put, List.setIfInBounds_toArray, List.set_cons_zero, List.set_cons_succ]
  refine Rg.oneR (i := 3) (oi := { dst := some 28, op := Op.call { callee := Callee.value (Operand.func 47), args := #[Operand.tmp 26, Operand.const (Value.int IntKind.i64 1), Operand.tmp 27], argTypes := #[37, 3, 39] }, type := 41, pos := "node.go:62", after := #[{ on := 1, ground := Ground.data }, { on := 2, ground := Ground.data }], guard := none }) rfl (by kernel_rfl) ?_
  refine Rg.stepS ?_
  intro K hK
  rw [if_pos (by rfl)]
  go_simp
  go_at_call 47
  refine (cY _).mono ?_
  rintro e w8 ⟨rfl, hb8⟩
  have H8 := Lib.hid (H7.out.below hb8 H7.out.lt)
  have HS := H8.out
  have A5 := Lib.hid (A5.out.below hb8 A5.out.lt)
  have A6 := Lib.hid (A6.out.below hb8 A6.out.lt)
  have A7 := Lib.hid (A7.out.below hb8 A7.out.lt)
  have HB8 := Lib.hid (onward HB7.out (Nat.le_refl _) hb8)
  have HW8 := Lib.hid (ownsRow_below HW7.out hb8)
  clear hb8
  go_wp2_with fail
  refine hK.out _ _ HS ?_
  clear hK K
  try simp only [Act.put, List.setIfInBounds_toArray, List.set_cons_zero, List.set_cons_succ]
  refine Rg.oneR (i := 4) (oi := { dst := none, op := Op.store 37 (Operand.tmp 6) (Operand.tmp 25), type := 0, pos := "node.go:62", after := #[{ on := 0, ground := Ground.data }, { on := 3, ground := Ground.chain }, { on := 0, ground := Ground.phase }, { on := 1, ground := Ground.textOnly Departure.lateStores }, { on := 2, ground := Ground.textOnly Departure.lateStoresUnsure }, { on := 3, ground := Ground.textOnly Departure.lateStoresUnsure }], guard := none }) rfl (by kernel_rfl) ?_
  refine Rg.stepF ?_ ?_
  · kernel_rfl
  intro K hK
  rw [if_pos (by rfl)]
  refine wp_store_row 37 _ _ rfl (w.heap.size + 1 + 1) R3 rfl rfl 37 _ A6.out i3 z3 o3 ?_
  have A5 := Lib.hid (A5.out.setRow_other (g' := w.heap.size + 1 + 1) (by omega) R3)
  have A6 := Lib.hid (A6.out.setRow R3)
  have A7 := Lib.hid (A7.out.setRow_other (g' := w.heap.size + 1 + 1) (by omega) R3)
  have HB8 := Lib.hid (below_setRow HB8.out (show w.heap.size ≤ w.heap.size + 1 + 1 by omega) R3)
  have HW8 := Lib.hid (own_setRow HW8.out (show w.heap.size + 1 + 1 < W.heap.size by omega) R3)
  generalize (w8.setRow (w.heap.size + 1 + 1) R3) = W8 at *
  refine hK.out _ _ ?_
  clear hK K
  try simp only [Act.put, List.setIfInBounds_toArray, List.set_cons_zero, List.set_cons_succ]
  refine Rg.oneR (i := 5) (oi := { dst := none, op := Op.store 41 (Operand.tmp 7) (Operand.tmp 28), type := 0, pos := "node.go:62", after := #[{ on := 3, ground := Ground.data }, { on := 4, ground := Ground.chain }, { on := 0, ground := Ground.phase }, { on := 1, ground := Ground.phase }, { on := 2, ground := Ground.phase }, { on := 3, ground := Ground.phase }, { on := 4, ground := Ground.phase }], guard := none }) rfl (by kernel_rfl) ?_
  refine Rg.stepF ?_ ?_
  · kernel_rfl
  intro K hK
  rw [if_pos (by rfl)]
  refine wp_store_row 41 _ _ rfl (w.heap.size + 1 + 1 + 1) (Ms.msgC 1 (k : Int) fr (some ⟨w.heap.size + 1, 0, none⟩) 3 3) rfl rfl 41 _ A7.out (by kernel_rfl) rfl (by simp [Ms.msgC, Value.oneCell']) ?_
  have A5 := Lib.hid (A5.out.setRow_other (g' := w.heap.size + 1 + 1 + 1) (by omega) (Ms.msgC 1 (k : Int) fr (some ⟨w.heap.size + 1, 0, none⟩) 3 3))
  have A6 := Lib.hid (A6.out.setRow_other (g' := w.heap.size + 1 + 1 + 1) (by omega) (Ms.msgC 1 (k : Int) fr (some ⟨w.heap.size + 1, 0, none⟩) 3 3))
  have A7 := Lib.hid (A7.out.setRow (Ms.msgC 1 (k : Int) fr (some ⟨w.heap.size + 1, 0, none⟩) 3 3))
  have HB8 := Lib.hid (below_setRow HB8.out (show w.heap.size ≤ w.heap.size + 1 + 1 + 1 by omega) (Ms.msgC 1 (k : Int) fr (some ⟨w.heap.size + 1, 0, none⟩) 3 3))
  have HW8 := Lib.hid (own_setRow HW8.out (show w.heap.size + 1 + 1 + 1 < W.heap.size by omega) (Ms.msgC 1 (k : Int) fr (some ⟨w.heap.size + 1, 0, none⟩) 3 3))
  generalize (W8.setRow (w.heap.size + 1 + 1 + 1) (Ms.msgC 1 (k : Int) fr (some ⟨w.heap.size + 1, 0, none⟩) 3 3)) = W9 at *
  refine hK.out _ _ ?_
  clear hK K
  try simp only [Act.put, List.setIfInBounds_toArray, List.set_cons_zero, List.set_cons_succ]
  refine Rg.doneR (by kernel_rfl) ?_ _
  refine NoPanic.normal ?_
  clear H7 H8 HS HB7 HW7
  go_wp2_with fail
  have hi4 : (Try.prog.info? 41).map (·.size) = some (Ms.msgC 1 (k : Int) fr (some ⟨w.heap.size + 1, 0, none⟩) 3 3).size := by kernel_rfl
  refine ret_rows2 rfl rfl rfl A6.out ⟨by rw [Try.underlying37], i3⟩ A7.out ⟨by rw [Try.underlying41], hi4⟩ rfl ⟨A2, c2, some ⟨w.heap.size + 1, 0, none⟩, 3, by rw [HR3.out]; rfl, Rd.of_own HW8.out, (rd_of_blk A5.out).more (by have := A6.out.lt; omega), HB8.out, fun a h => Nat.le_trans (by omega) (own_lo HW8.out a h), fun a h => by cases h; exact Nat.le_succ _, own_cap HW8.out⟩
end Go.Proofs.Ytjfllpmiajkenaa.Nd
