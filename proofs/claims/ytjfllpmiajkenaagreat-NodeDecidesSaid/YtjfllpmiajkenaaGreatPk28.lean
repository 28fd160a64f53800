import Derived.Test.YtjfllpmiajkenaaGreatPk25
import Derived.Test.YtjfllpmiajkenaaGreatPk15
import Derived.Test.YtjfllpmiajkenaaGreatPk8
import Derived.Test.YtjfllpmiajkenaaGreatPk26
namespace Go.Proofs.YtjfllpmiajkenaaGreat.Nd
open Go.RowKit Go.Proofs.YtjfllpmiajkenaaGreat.Mem Go.Proofs.YtjfllpmiajkenaaGreat.Rws Go.Proofs.YtjfllpmiajkenaaGreat.Flat Go.Proofs.YtjfllpmiajkenaaGreat.BigW Go.Proofs.YtjfllpmiajkenaaGreat.Md
set_option linter.unusedVariables false
set_option linter.unusedSimpArgs false
def PR (a s x : Nat) : Bool := decide (x % 3 < a) || (decide (x % 3 = a) && decide (x / 3 < s))
theorem PR_next (a s : Nat) (ha : a < 3) (x : Nat) (hx : x < 12) : PR a (s + 1) x = (PR a s x || x == s * 3 + a) := by
  unfold PR
  rw [Bool.eq_iff_iff]
  simp
  omega
theorem PR_turn (a : Nat) (x : Nat) (hx : x < 12) : PR a 4 x = PR (a + 1) 0 x := by
  unfold PR
  rw [Bool.eq_iff_iff]
  simp
  omega
theorem PR_all (x : Nat) (hx : x < 12) : PR 3 0 x = allP x := by
  unfold PR allP
  simp
  omega
set_option maxRecDepth 100000 in
set_option maxHeartbeats 8000000 in
theorem refdecide_any (f : Nat → Value) (hf : ∀ i, i < 73 → okT (nodeT i) (f i)) (k : Nat) (hk : k < 4) (hid : f 0 = .int .i64 (k : Int)) (fr : Int) (hfr : f 1 = .int .i64 fr) (A : Option Addr) (c : Nat) (bs : List Bool) (AI : Option Addr) (ci : Nat) (ms : List Ms.Msg) (B : Nat) (w : World) (hB : B ≤ w.heap.size) (hA : A = none → c = 0) (hnc : bs.length ≤ c) (hl : bs.length ≤ 140737488351232) (hr : Rd w B 1 A bs.length (boolsV bs)) (hml : ms.length ≤ 140737488355328) (hm : Ms.MsgsAt w B AI ms) (hw : ∀ i z, i < 73 → f i = .int .i64 z → Wf z) (hmw : ∀ m ∈ ms, ∀ z ∈ m.zs, Wf z) :
    Calls Tryz.prog 9 #[.agg (row 74 (nodeW f (.slice A bs.length c))), .slice AI ms.length ci] w fun e w' => NodeMsg w w' (decF k (agreedZ k fr ms f) f) bs 3 (k : Int) fr [digestZ (decG f (agreedZ k fr ms f) allP 3 3)] e := by
  have hone : ∀ (A : Option Addr) (n c : Nat), (row 74 (nodeW f (.slice A n c))).all (·.oneCell') = true := fun A n c => one_of hf
  have HWF := Lib.hid (wf_agreed hf hw hmw k fr)
  have HSI := Lib.hid (fun a (ha : a < 3) => st_in hf hw a ha)
  have HTI := Lib.hid (fun i (hi : 2 ≤ i ∧ i < 6) => tun_in hf hw i hi)
  clear hw hmw
  have HO := Lib.hid hone
  have HF := Lib.hid hf
  have HID := Lib.hid hid
  have HFR := Lib.hid hfr
  clear hf hone hid hfr
  go_enter Tryz.func9, Tryz.ntmps9
  go_upto_region 1 with fail
  have D3 : Hid (Blk (((w.alloc (.cells (row 74 (nodeW f (.slice A bs.length c))) 37)).alloc (.cells Tryz.zeroCells37 37)).alloc (.cells #[.int .i64 0, .int .i64 0, .int .i64 0, .slice none 0 0] 41)) w.heap.size 37 (row 74 (nodeW f (.slice A bs.length c)))) := Lib.hid (((Blk.new rfl).alloc _).alloc _)
  have D6 : Hid (Blk (((w.alloc (.cells (row 74 (nodeW f (.slice A bs.length c))) 37)).alloc (.cells Tryz.zeroCells37 37)).alloc (.cells #[.int .i64 0, .int .i64 0, .int .i64 0, .slice none 0 0] 41)) (w.heap.size + 1) 37 Tryz.zeroCells37) := Lib.hid ((Blk.new (by simp)).alloc _)
  have D7 : Hid (Blk (((w.alloc (.cells (row 74 (nodeW f (.slice A bs.length c))) 37)).alloc (.cells Tryz.zeroCells37 37)).alloc (.cells #[.int .i64 0, .int .i64 0, .int .i64 0, .slice none 0 0] 41)) (w.heap.size + 1 + 1) 41 #[.int .i64 0, .int .i64 0, .int .i64 0, .slice none 0 0]) := Lib.hid (Blk.new (by simp))
  have HB := Lib.hid (((((Below.refl w.heap.size w).alloc (Nat.le_refl _) (.cells (row 74 (nodeW f (.slice A bs.length c))) 37)).alloc (by simp) (.cells Tryz.zeroCells37 37)).alloc (by simp; omega) (.cells #[.int .i64 0, .int .i64 0, .int .i64 0, .slice none 0 0] 41)))
  have HR := Lib.hid hr
  have HMS := Lib.hid hm
  clear hr hm
  generalize (((w.alloc (.cells (row 74 (nodeW f (.slice A bs.length c))) 37)).alloc (.cells Tryz.zeroCells37 37)).alloc (.cells #[.int .i64 0, .int .i64 0, .int .i64 0, .slice none 0 0] 41)) = W at *
  have hi74 : ∀ A (n : Nat) c, (Tryz.prog.info? 37).map (·.size) = some (row 74 (nodeW f (.slice A n c))).size := fun A n c => by rw [row_size]; kernel_rfl
  have HI := Lib.hid hi74
  clear hi74
  have hwz : w.heap.size + 1 + 1 < W.heap.size := D7.out.lt
  have hia := HI.out A bs.length c
  obtain ⟨R1, hR1⟩ : ∃ R1, row 74 (nodeW f (.slice A bs.length c)) = R1 := ⟨_, rfl⟩
  have HR1 := Lib.hid hR1
  rw [hR1] at D3 hia
  clear hR1
  go_wp2_with (refine wpList_whole rfl 37 _ rfl w.heap.size rfl D3.out _ Tryz.underlying37 rfl hia ?_)
  rw [← HR1.out]
  refine (copyNode_any f HF.out A c bs B _ (Nat.le_trans hB HB.out.size) hA hnc hl (HR.out.below (HB.out.mono hB))).mono ?_
  rintro e w1 ⟨A2, c2, rfl, hown, hb1⟩
  rw [HR1.out]
  have HW1 := Lib.hid hown
  have HB1 := Lib.hid (onward HB.out (Nat.le_refl _) hb1)
  have hsz := hb1.size
  have hi2 := HI.out A2 bs.length c2
  have h12 := HO.out A2 bs.length c2
  have h20 : (row 74 (nodeW f (.slice A2 bs.length c2)))[0]? = some (.int .i64 (k : Int)) := by rw [row_at (by omega)]; exact congrArg some HID.out
  have h21 : (row 74 (nodeW f (.slice A2 bs.length c2)))[1]? = some (.int .i64 fr) := by rw [row_at (by omega)]; exact congrArg some HFR.out
  have hs2 : R1.size = (row 74 (nodeW f (.slice A2 bs.length c2))).size := by rw [← HR1.out, row_size, row_size]
  obtain ⟨R2, hR2⟩ : ∃ R2, row 74 (nodeW f (.slice A2 bs.length c2)) = R2 := ⟨_, rfl⟩
  have HR2 := Lib.hid hR2
  rw [hR2] at hi2 h12 h20 h21 hs2 ⊢
  clear hR2
  have E3 := Lib.hid (D3.out.below hb1 D3.out.lt)
  have F3 := Lib.hid (E3.out.setRow R2)
  have F6 := Lib.hid ((D6.out.below hb1 D6.out.lt).setRow_other (g' := w.heap.size) (by omega) R2)
  have F7 := Lib.hid ((D7.out.below hb1 D7.out.lt).setRow_other (g' := w.heap.size) (by omega) R2)
  have HB2 := Lib.hid (below_setRow HB1.out (Nat.le_refl _) R2)
  have HW2 := Lib.hid (own_setRow HW1.out (show w.heap.size < W.heap.size by omega) R2)
  have cT := fun w => none_any R2 (k : Int) h20 w
  have hk0 : ¬ ((k : Int) < 0) := by omega
  have hbk : badId (k : Int) = false := by unfold badId; simp; omega
  rw [hbk] at cT
  clear hb1 hown hbk
  go_upto_region 4 with (first
    | (refine wpList_store_row rfl 37 _ _ rfl w.heap.size R2 rfl rfl 37 _ E3.out hi2 hs2 h12 ?_)
    | (refine wpList_whole rfl 37 _ rfl w.heap.size rfl F3.out _ Tryz.underlying37 rfl hi2 ?_)
    | (go_at_call 32; refine (cT _).mono ?_; rintro e w3 ⟨rfl, hb3⟩; have G3 := Lib.hid (F3.out.below hb3 F3.out.lt); have G6 := Lib.hid (F6.out.below hb3 F6.out.lt); have G7 := Lib.hid (F7.out.below hb3 F7.out.lt); have HB3 := Lib.hid (onward HB2.out (Nat.le_refl _) hb3); have HW3 := Lib.hid (ownsRow_below HW2.out hb3); have hz3 := Nat.le_trans hsz (Nat.le_trans (show w1.heap.size ≤ (w1.setRow w.heap.size R2).heap.size from (below_setRow (Below.refl 0 w1) (Nat.zero_le _) R2).size) hb3.size); clear hb3))
  clear HB HB1 HB2 HW1 HW2 D3 D6 D7 E3 F3 F6 F7 cT hs2
  have HK : Hid (NK w w.heap.size A2 c2 bs w3) := Lib.hid ⟨HB3.out, G6.out, G7.out, own_weaken HW3.out (by omega)⟩
  rw [← HR2.out] at G3
  have HAZ := Lib.hid (fun j : Nat => show agreedZ k fr ms f j = takenZ k (j / 3) (dirZ f j) j (fun i => Ms.firstOf (k : Int) fr 2 12 (i : Int) ms) from rfl)
  clear HW3 HB3 h12 h20 h21 hi2 HR hz3 G6 G7
  obtain ⟨z, hz⟩ : ∃ z, agreedZ k fr ms f = z := ⟨_, rfl⟩
  have HZZ := Lib.hid hz
  rw [hz] at HWF HAZ
  clear hz
  have G3 := Lib.hid (show Blk w3 w.heap.size 37 (row 74 (nodeW (decG f z (PR 0 0) 0 0) (.slice A2 bs.length c2))) from by rw [decG_start f z _ (fun j hj => by unfold PR; simp)]; exact G3.out)
  have HMW := Lib.hid (fun v (hv : Below w.heap.size w v) => HMS.out.below (hv.mono hB))
  go_wp2_with fail
  go_loopw [6] (fun iv wr => ∃ a : Nat, a ≤ 3 ∧ iv = .int .i64 (a : Int) ∧ Blk wr w.heap.size 37 (row 74 (nodeW (decG f z (PR a 0) a a) (.slice A2 bs.length c2))) ∧ NK w w.heap.size A2 c2 bs wr) (fun iv _ => 3 - (intOf iv).toNat)
  case atStart => exact ⟨0, by omega, rfl, G3.out, HK.out⟩
  case round =>
    obtain ⟨a, ha, rfl, hg3, hd⟩ := hrel
    clear G3 HK
    have G3 := Lib.hid hg3
    have HK := Lib.hid hd
    clear hg3 hd
    by_cases hla : a < 3
    · have a0 : (0 : Int) ≤ (a : Int) := by omega
      have a3 : (a : Int) < 3 := by omega
      have HLA := Lib.hid hla
      clear hla
      go_wp2_with fail
      generalize wr = wq at *
      go_loopw [7, 8] (fun sv si wr => ∃ (sx : Nat) (AL : Option Addr) (cl : Nat), sx ≤ 4 ∧ si = .int .i64 (sx : Int) ∧ sv = .slice AL (fuseL (inB f) (fun s => z (s * 3 + a)) sx).length cl ∧ wr.ownsRow (w.heap.size + 1 + 1 + 1) 3 1 (.slice AL (fuseL (inB f) (fun s => z (s * 3 + a)) sx).length cl) (fuseL (inB f) (fun s => z (s * 3 + a)) sx).length (Ms.intsV (fuseL (inB f) (fun s => z (s * 3 + a)) sx)) ∧ Blk wr w.heap.size 37 (row 74 (nodeW (decG f z (PR a sx) a a) (.slice A2 bs.length c2))) ∧ NK w w.heap.size A2 c2 bs wr) (fun _ si _ => 4 - (intOf si).toNat)
      case atStart => exact ⟨0, none, 0, by omega, rfl, rfl, World.ownsRow_nil _ _ _ _, G3.out, HK.out⟩
      case round =>
        obtain ⟨sx, AL, cl, hsx, rfl, rfl, hown, hg3, hd⟩ := hrel
        clear G3 HK
        have G3 := Lib.hid hg3
        have HK := Lib.hid hd
        have HO := Lib.hid hown
        have hlen := fuse_len (inB f) (fun s => z (s * 3 + a)) sx
        clear hg3 hd hown
        by_cases hls : sx < 4
        · have s0 : (0 : Int) ≤ (sx : Int) := by omega
          have s4 : (sx : Int) < 4 := by omega
          have HSX := Lib.hid hls
          have hlj : sx * 3 + a < 12 := by have := HLA.out; omega
          have HLJ := Lib.hid hlj
          have hla3 := HLA.out
          have HN39 := Lib.hid (show (row 74 (nodeW (decG f z (PR a sx) a a) (.slice A2 bs.length c2)))[39 + sx * 3 + a]? = some (.int .i64 (dirZ f (sx * 3 + a))) from by
            rw [row_at (by omega)]
            unfold nodeW dirZ
            rw [if_neg (by omega), decG_low _ _ _ _ _ _ (by omega) (by omega) (by omega), Nat.add_assoc, ← cell_int HF.out (39 + (sx * 3 + a)) (by omega) (by unfold nodeT; simp; omega)])
          have hn0 : (row 74 (nodeW (decG f z (PR a sx) a a) (.slice A2 bs.length c2)))[0]? = some (.int .i64 (k : Int)) := by rw [row_at (by omega)]; unfold nodeW; rw [if_neg (by omega), decG_low _ _ _ _ _ _ (by omega) (by omega) (by omega), HID.out]
          have hn1 : (row 74 (nodeW (decG f z (PR a sx) a a) (.slice A2 bs.length c2)))[1]? = some (.int .i64 fr) := by rw [row_at (by omega)]; unfold nodeW; rw [if_neg (by omega), decG_low _ _ _ _ _ _ (by omega) (by omega) (by omega), HFR.out]
          have hiA : (Tryz.prog.info? 37).map (·.size) = some (row 74 (nodeW (decG f z (PR a sx) a a) (.slice A2 bs.length c2))).size := by rw [row_size]; kernel_rfl
          have HN55 := Lib.hid (show ∃ v, (row 74 (nodeW (decG f z (PR a sx) a a) (.slice A2 bs.length c2)))[55 + sx * 3 + a]? = some (.int .i64 v) from by
            refine ⟨iv (decG f z (PR a sx) a a (55 + sx * 3 + a)), ?_⟩
            rw [row_at (by omega)]
            unfold nodeW
            rw [if_neg (by omega), ← cell_int (ok_decG HF.out z _ a a (by omega) (by omega)) (55 + sx * 3 + a) (by omega) (by unfold nodeT; simp; omega)])
          have HAG := Lib.hid (show ((row 74 (nodeW (decG f z (PR a sx) a a) (.slice A2 bs.length c2)))).setIfInBounds (55 + sx * 3 + a) (.int .i64 (z (sx * 3 + a))) = row 74 (nodeW (decG f z (PR a (sx + 1)) a a) (.slice A2 bs.length c2)) from by
            rw [Nat.add_assoc]
            exact decG_agree f z _ _ a a (by omega) (sx * 3 + a) hlj rfl (fun x hx => PR_next a sx hla3 x hx) _)
          have HTK := Lib.hid (show z (sx * 3 + a) = takenZ k sx (dirZ f (sx * 3 + a)) (sx * 3 + a) (fun i => Ms.firstOf (k : Int) fr 2 12 (i : Int) ms) from by rw [HAZ.out, show (sx * 3 + a) / 3 = sx by omega])
          have HCT := Lib.hid (fun (v : World) (hv : Below w.heap.size w v) => show Calls Tryz.prog 33 #[.agg (row 74 (nodeW (decG f z (PR a sx) a a) (.slice A2 bs.length c2))), .slice AI ms.length ci, .int .i64 (sx : Int), .int .i64 (dirZ f (sx * 3 + a)), .int .i64 ((sx * 3 + a : Nat) : Int), .int .i64 12] v fun e w' => e = .returned (.int .i64 (z (sx * 3 + a))) ∧ Below v.heap.size v w' from by
            rw [HTK.out]
            exact taken_any _ hiA k hk fr hn0 hn1 sx hls (dirZ f (sx * 3 + a)) (sx * 3 + a) 12 hlj (by omega) AI ci ms B v (Nat.le_trans hB hv.size) hml (HMW.out v hv))
          have HX27 := Lib.hid (show ((row 74 (nodeW (decG f z (PR a (sx + 1)) a a) (.slice A2 bs.length c2))))[27 + sx]? = some (.bool (inB f sx)) from by rw [row_at (by omega)]; unfold nodeW; rw [if_neg (by omega), decG_low _ _ _ _ _ _ (by omega) (by omega) (by omega)]; exact congrArg some (node_bool HF.out (27 + sx) (by omega) (by omega)))
          have HX55 := Lib.hid (show ((row 74 (nodeW (decG f z (PR a (sx + 1)) a a) (.slice A2 bs.length c2))))[55 + sx * 3 + a]? = some (.int .i64 (z (sx * 3 + a))) from by rw [row_at (by omega)]; unfold nodeW; rw [if_neg (by omega), Nat.add_assoc, decG_ag _ _ _ _ _ (by omega) _ hlj (by rw [PR_next a sx hla3 _ hlj]; simp)])
          have HFL := Lib.hid (show fuseL (inB f) (fun s => z (s * 3 + a)) (sx + 1) = if inB f sx then fuseL (inB f) (fun s => z (s * 3 + a)) sx ++ [z (sx * 3 + a)] else fuseL (inB f) (fun s => z (s * 3 + a)) sx from rfl)
          obtain ⟨d, hd⟩ : ∃ d, dirZ f (sx * 3 + a) = d := ⟨_, rfl⟩
          rw [hd] at HN39 HTK HCT
          obtain ⟨zj, hzj⟩ : ∃ d, z (sx * 3 + a) = d := ⟨_, rfl⟩
          rw [hzj] at HTK HAG HCT HX55 HFL
          obtain ⟨fl, hfl⟩ : ∃ l, fuseL (inB f) (fun s => z (s * 3 + a)) sx = l := ⟨_, rfl⟩
          rw [hfl] at HO HFL hlen ⊢
          obtain ⟨I, hI⟩ : ∃ I, inB f sx = I := ⟨_, rfl⟩
          rw [hI] at HX27 HFL
          obtain ⟨RN, hRN⟩ : ∃ RN, (row 74 (nodeW (decG f z (PR a sx) a a) (.slice A2 bs.length c2))) = RN := ⟨_, rfl⟩
          rw [hRN] at G3 HN39 HN55 HAG HCT hn0 hn1 hiA
          obtain ⟨q3, hq3⟩ : ∃ q : Nat, 3 * sx = q := ⟨_, rfl⟩
          obtain ⟨q, hq⟩ : ∃ q : Nat, sx * 3 + a = q := ⟨_, rfl⟩
          have ew1 : IntKind.i64.wrap (3 * (sx : Int)) = (q3 : Int) := by rw [IntKind.wrap_i64]; omega
          have ew2 : IntKind.i64.wrap ((q3 : Int) + (a : Int)) = (q : Int) := by rw [IntKind.wrap_i64]; omega
          have hsl : (sx : Nat) ≤ 3 := by omega
          rw [hq] at HCT
          clear hlj hd hzj hRN hls hfl hI hq hq3 hla3 hn0 hn1
          go_upto_region 11 with fail
          have G3 := Lib.hid G3.out.drew
          have HK := Lib.hid HK.out.drew
          have HO := Lib.hid (ownsRow_below HO.out (Below.refl _ _).drew)
          have HS_ := And.intro G3.out ((G3.out.cell (39 + sx * 3 + a)).trans HN39.out)
          refine wp_region_noPanic ?_
          refine Rg.beginR [2, 10] (fun w' => Blk w' w.heap.size 37 RN ∧ w'.cell? ⟨w.heap.size, 39 + sx * 3 + a, none⟩ = some (.int .i64 d)) (by kernel_rfl) ?_
          generalize wr.drew = V0 at *
          refine Rg.takeP (i := 0) (oi := { dst := some 23, op := Op.move (Operand.tmp 8), type := 3, pos := "node.go:136", after := #[], guard := none }) (v := ?_) rfl (by kernel_rfl) (fun _ _ _ h => h) (by rfl) ?_ ?_
          rotate_left 1
          · (intro w; go_simp; (try with_reducible rfl))
          try simp only [Act.put, List.setIfInBounds_toArray, List.set_cons_zero, List.set_cons_succ]
          refine Rg.takeP (i := 1) (oi := { dst := some 24, op := Op.move (Operand.tmp 6), type := 3, pos := "node.go:136", after := #[], guard := none }) (v := ?_) rfl (by kernel_rfl) (fun _ _ _ h => h) (by rfl) ?_ ?_
          rotate_left 1
          · (intro w; go_simp; (try with_reducible rfl))
          try simp only [Act.put, List.setIfInBounds_toArray, List.set_cons_zero, List.set_cons_succ]
          refine Rg.takeS (i := 2) (oi := { dst := some 25, op := Op.load 37 (Operand.tmp 2), type := 37, pos := "node.go:136", after := #[], guard := none }) (v := .agg RN) rfl (by kernel_rfl) (fun _ _ _ h => h) (by rfl) HS_ ?_ ?_
          · (intro w' hSw; exact exec_load_row 37 _ rfl _ rfl hSw.1 Tryz.underlying37 rfl hiA)
          try simp only [Act.put, List.setIfInBounds_toArray, List.set_cons_zero, List.set_cons_succ]
          refine Rg.takeP (i := 3) (oi := { dst := some 26, op := Op.move (Operand.tmp 1), type := 38, pos := "node.go:136", after := #[], guard := none }) (v := ?_) rfl (by kernel_rfl) (fun _ _ _ h => h) (by rfl) ?_ ?_
          rotate_left 1
          · (intro w; go_simp; (try with_reducible rfl))
          try simp only [Act.put, List.setIfInBounds_toArray, List.set_cons_zero, List.set_cons_succ]
          refine Rg.takeP (i := 4) (oi := { dst := some 27, op := Op.move (Operand.tmp 8), type := 3, pos := "node.go:136", after := #[], guard := none }) (v := ?_) rfl (by kernel_rfl) (fun _ _ _ h => h) (by rfl) ?_ ?_
          rotate_left 1
          · (intro w; go_simp; (try with_reducible rfl))
          try simp only [Act.put, List.setIfInBounds_toArray, List.set_cons_zero, List.set_cons_succ]
          refine Rg.takeP (i := 5) (oi := { dst := some 28, op := Op.move (Operand.tmp 8), type := 3, pos := "node.go:136", after := #[], guard := none }) (v := ?_) rfl (by kernel_rfl) (fun _ _ _ h => h) (by rfl) ?_ ?_
          rotate_left 1
          · (intro w; go_simp; (try with_reducible rfl))
          try simp only [Act.put, List.setIfInBounds_toArray, List.set_cons_zero, List.set_cons_succ]
          refine Rg.takeP (i := 6) (oi := { dst := some 29, op := Op.move (Operand.tmp 6), type := 3, pos := "node.go:136", after := #[], guard := none }) (v := ?_) rfl (by kernel_rfl) (fun _ _ _ h => h) (by rfl) ?_ ?_
          rotate_left 1
          · (intro w; go_simp; (try with_reducible rfl))
          try simp only [Act.put, List.setIfInBounds_toArray, List.set_cons_zero, List.set_cons_succ]
          refine Rg.takeP (i := 7) (oi := { dst := some 30, op := Op.fieldAddr 37 (Operand.tmp 2) 5, type := 0, pos := "node.go:136", after := #[], guard := none }) (v := ?_) rfl (by kernel_rfl) (fun _ _ _ h => h) (by rfl) ?_ ?_
          rotate_left 1
          · (intro w; go_simp; (try with_reducible rfl))
          try simp only [Act.put, List.setIfInBounds_toArray, List.set_cons_zero, List.set_cons_succ]
          refine Rg.takeP (i := 8) (oi := { dst := some 31, op := Op.indexAddr 32 (Operand.tmp 30) (Operand.tmp 28), type := 0, pos := "node.go:136", after := #[{ on := 7, ground := Ground.data }, { on := 5, ground := Ground.data }], guard := none }) (v := ?_) rfl (by kernel_rfl) (fun _ _ _ h => h) (by rfl) ?_ ?_
          rotate_left 1
          · (intro w; go_simp; (try with_reducible rfl))
          try simp only [Act.put, List.setIfInBounds_toArray, List.set_cons_zero, List.set_cons_succ]
          refine Rg.takeP (i := 9) (oi := { dst := some 32, op := Op.indexAddr 31 (Operand.tmp 31) (Operand.tmp 29), type := 0, pos := "node.go:136", after := #[{ on := 8, ground := Ground.data }, { on := 6, ground := Ground.data }], guard := none }) (v := ?_) rfl (by kernel_rfl) (fun _ _ _ h => h) (by rfl) ?_ ?_
          rotate_left 1
          · (intro w; go_simp; (try with_reducible rfl))
          try simp only [Act.put, List.setIfInBounds_toArray, List.set_cons_zero, List.set_cons_succ]
          refine Rg.takeS (i := 10) (oi := { dst := some 33, op := Op.load 3 (Operand.tmp 32), type := 3, pos := "node.go:136", after := #[{ on := 9, ground := Ground.data }], guard := none }) (v := .int .i64 d) rfl (by kernel_rfl) (fun _ _ _ h => h) (by rfl) HS_ ?_ ?_
          · (intro w' hSw; have y := hSw.2; go_simp; (try with_reducible rfl))
          try simp only [Act.put, List.setIfInBounds_toArray, List.set_cons_zero, List.set_cons_succ]
          refine Rg.takeP (i := 11) (oi := { dst := some 34, op := Op.move (Operand.tmp 8), type := 3, pos := "node.go:136", after := #[], guard := none }) (v := ?_) rfl (by kernel_rfl) (fun _ _ _ h => h) (by rfl) ?_ ?_
          rotate_left 1
          · (intro w; go_simp; (try with_reducible rfl))
          try simp only [Act.put, List.setIfInBounds_toArray, List.set_cons_zero, List.set_cons_succ]
          refine Rg.takeP (i := 12) (oi := { dst := some 35, op := Op.binOp BinOp.mul 3 (Operand.const (Value.int IntKind.i64 3)) (Operand.tmp 34) 3, type := 3, pos := "node.go:136", after := #[{ on := 11, ground := Ground.data }], guard := none }) (v := .int .i64 (q3 : Nat)) rfl (by kernel_rfl) (fun _ _ _ h => h) (by rfl) ?_ ?_
          · (intro w; go_simp; (try with_reducible rfl))
          try simp only [Act.put, List.setIfInBounds_toArray, List.set_cons_zero, List.set_cons_succ]
          refine Rg.takeP (i := 13) (oi := { dst := some 36, op := Op.move (Operand.tmp 6), type := 3, pos := "node.go:136", after := #[], guard := none }) (v := ?_) rfl (by kernel_rfl) (fun _ _ _ h => h) (by rfl) ?_ ?_
          rotate_left 1
          · (intro w; go_simp; (try with_reducible rfl))
          try simp only [Act.put, List.setIfInBounds_toArray, List.set_cons_zero, List.set_cons_succ]
          refine Rg.takeP (i := 14) (oi := { dst := some 37, op := Op.binOp BinOp.add 3 (Operand.tmp 35) (Operand.tmp 36) 3, type := 3, pos := "node.go:136", after := #[{ on := 12, ground := Ground.data }, { on := 13, ground := Ground.data }], guard := none }) (v := .int .i64 (q : Nat)) rfl (by kernel_rfl) (fun _ _ _ h => h) (by rfl) ?_ ?_
          · (intro w; go_simp; (try with_reducible rfl))
          try simp only [Act.put, List.setIfInBounds_toArray, List.set_cons_zero, List.set_cons_succ]
          refine Rg.takeP (i := 16) (oi := { dst := some 39, op := Op.fieldAddr 37 (Operand.tmp 2) 7, type := 0, pos := "node.go:136", after := #[], guard := none }) (v := ?_) rfl (by kernel_rfl) (fun _ _ _ h => h) (by rfl) ?_ ?_
          rotate_left 1
          · (intro w; go_simp; (try with_reducible rfl))
          try simp only [Act.put, List.setIfInBounds_toArray, List.set_cons_zero, List.set_cons_succ]
          refine Rg.takeP (i := 17) (oi := { dst := some 40, op := Op.indexAddr 32 (Operand.tmp 39) (Operand.tmp 23), type := 0, pos := "node.go:136", after := #[{ on := 16, ground := Ground.data }, { on := 0, ground := Ground.data }], guard := none }) (v := ?_) rfl (by kernel_rfl) (fun _ _ _ h => h) (by rfl) ?_ ?_
          rotate_left 1
          · (intro w; go_simp; (try with_reducible rfl))
          try simp only [Act.put, List.setIfInBounds_toArray, List.set_cons_zero, List.set_cons_succ]
          refine Rg.oneR (i := 15) (oi := { dst := some 38, op := Op.call { callee := Callee.value (Operand.func 33), args := #[Operand.tmp 25, Operand.tmp 26, Operand.tmp 27, Operand.tmp 33, Operand.tmp 37, Operand.const (Value.int IntKind.i64 12)], argTypes := #[37, 38, 3, 3, 3, 3] }, type := 3, pos := "node.go:136", after := #[{ on := 2, ground := Ground.data }, { on := 3, ground := Ground.data }, { on := 4, ground := Ground.data }, { on := 10, ground := Ground.data }, { on := 14, ground := Ground.data }], guard := none }) rfl (by kernel_rfl) ?_
          refine Rg.stepF ?_ ?_
          · kernel_rfl
          intro K hK
          rw [if_pos (by rfl)]
          go_simp
          go_at_call 33
          refine (HCT.out V0 HK.out.hb).mono ?_
          rintro e V1 ⟨rfl, hb⟩
          have HK := Lib.hid (HK.out.step hb)
          have G3 := Lib.hid (G3.out.below hb G3.out.lt)
          have HO := Lib.hid (ownsRow_below HO.out hb)
          clear hb HS_
          have HS_ := trivial
          obtain ⟨v55, h55⟩ := HN55.out
          have x55 := (G3.out.cell (55 + sx * 3 + a)).trans h55
          have f55 := G3.out.thaw (55 + sx * 3 + a)
          refine hK.out _ _ ?_
          clear hK K
          try simp only [Act.put, List.setIfInBounds_toArray, List.set_cons_zero, List.set_cons_succ]
          refine Rg.takeP (i := 18) (oi := { dst := some 41, op := Op.indexAddr 31 (Operand.tmp 40) (Operand.tmp 24), type := 0, pos := "node.go:136", after := #[{ on := 17, ground := Ground.data }, { on := 1, ground := Ground.data }, { on := 0, ground := Ground.phase }, { on := 1, ground := Ground.phase }, { on := 2, ground := Ground.phase }, { on := 3, ground := Ground.phase }, { on := 4, ground := Ground.phase }, { on := 5, ground := Ground.phase }, { on := 6, ground := Ground.phase }, { on := 7, ground := Ground.phase }, { on := 8, ground := Ground.phase }, { on := 9, ground := Ground.phase }, { on := 10, ground := Ground.phase }, { on := 11, ground := Ground.phase }, { on := 12, ground := Ground.phase }, { on := 13, ground := Ground.phase }, { on := 14, ground := Ground.phase }, { on := 15, ground := Ground.phase }], guard := none }) (v := ?_) rfl (by kernel_rfl) (fun _ _ _ h => h) (by rfl) ?_ ?_
          rotate_left 1
          · (intro w; go_simp; (try with_reducible rfl))
          try simp only [Act.put, List.setIfInBounds_toArray, List.set_cons_zero, List.set_cons_succ]
          refine Rg.oneR (i := 19) (oi := { dst := none, op := Op.store 3 (Operand.tmp 41) (Operand.tmp 38), type := 0, pos := "node.go:136", after := #[{ on := 18, ground := Ground.data }, { on := 15, ground := Ground.data }, { on := 15, ground := Ground.chain }, { on := 0, ground := Ground.phase }, { on := 1, ground := Ground.phase }, { on := 2, ground := Ground.phase }, { on := 3, ground := Ground.phase }, { on := 4, ground := Ground.phase }, { on := 5, ground := Ground.phase }, { on := 6, ground := Ground.phase }, { on := 7, ground := Ground.phase }, { on := 8, ground := Ground.phase }, { on := 9, ground := Ground.phase }, { on := 10, ground := Ground.phase }, { on := 11, ground := Ground.phase }, { on := 12, ground := Ground.phase }, { on := 13, ground := Ground.phase }, { on := 14, ground := Ground.phase }, { on := 15, ground := Ground.phase }], guard := none }) rfl (by kernel_rfl) ?_
          refine Rg.stepF ?_ ?_
          · kernel_rfl
          intro K hK
          go_simp
          refine hK.out _ _ ?_
          clear hK K
          try simp only [Act.put, List.setIfInBounds_toArray, List.set_cons_zero, List.set_cons_succ]
          refine Rg.doneR (by kernel_rfl) ?_ _
          refine NoPanic.normal ?_
          clear HS_ x55 f55 h55 ew1 ew2
          have HK := Lib.hid (HK.out.set (55 + sx * 3 + a) (.int .i64 zj))
          have G3 := Lib.hid (G3.out.set (55 + sx * 3 + a) (.int .i64 zj))
          have HO := Lib.hid (ownsRow_setCell_below (a := ⟨w.heap.size, 55 + sx * 3 + a, none⟩) HO.out (by show w.heap.size < _; omega) (.int .i64 zj))
          rw [HAG.out] at G3
          generalize (V1.setCell ⟨w.heap.size, 55 + sx * 3 + a, none⟩ (.int .i64 zj)) = W6 at *
          have x27 := (G3.out.cell (27 + sx)).trans HX27.out
          have x55 := (G3.out.cell (55 + sx * 3 + a)).trans HX55.out
          cases I
          · have HS2 := Lib.hid (HFL.out.trans (if_neg (by simp)))
            clear HFL HX27
            go_wp2_with fail
            exact ⟨⟨sx + 1, AL, cl, by have := HSX.out; omega, by go_num, by rw [HS2.out], by rw [HS2.out]; exact HO.out, G3.out, HK.out⟩, by have := HSX.out; simp [intOf]; omega⟩
          · have HS2 := Lib.hid (HFL.out.trans (if_pos rfl))
            clear HFL HX27
            have hbz : w.heap.size + 1 + 1 + 1 ≤ W6.heap.size := HK.out.g7.lt
            have HV2 := Lib.hid (ownsRow_below HO.out ((Below.refl W6.heap.size W6).alloc (Nat.le_refl _) (.cells #[.int .i64 zj] 3)))
            have HK2 := Lib.hid (HK.out.step ((Below.refl W6.heap.size W6).alloc (Nat.le_refl _) (.cells #[.int .i64 zj] 3)))
            have G32 := Lib.hid (G3.out.alloc (.cells #[.int .i64 zj] 3))
            have HS := Lib.hid (Fc.rd_one W6 (.int .i64 zj) 3)
            go_wp2_with (at_builtin; go_loud (refine wpList_append_rd _ rfl (.tmp 47) (.tmp 54) 39 rfl (base := w.heap.size + 1 + 1 + 1) Ms.elemInts rfl HV2.out rfl (fun h => by cases h) HS.out (by simp [Value.oneCell']) (by unfold maxLen; omega) (by omega) (by simp; omega) ?_); intro A9 c9 w5 hA9 hown2 hg2; have HO5 := Lib.hid hown2; have G35 := Lib.hid (G32.out.grown hg2 (fun e => by have := (HV2.out.lt _ e.symm).1; omega)); have HK5 := Lib.hid (HK2.out.grown hg2 (own_bools HV2.out) (fun e he => by have := (HV2.out.lt _ he).1; omega)); clear hown2 hg2)
            exact ⟨⟨sx + 1, A9, c9, by have := HSX.out; omega, by go_num, by rw [HS2.out, List.length_append]; rfl, by rw [HS2.out, List.length_append, show Ms.intsV (fl ++ [zj]) = Ms.intsV fl ++ [.int .i64 zj] by simp [Ms.intsV]]; exact HO5.out, G35.out, HK5.out⟩, by have := HSX.out; simp [intOf]; omega⟩
        · obtain rfl : sx = 4 := by omega
          rw [show ((4 : Nat) : Int) = 4 from rfl]
          clear hls
          have hla := HLA.out
          have HUI := Lib.hid (used_in (f := f) HWF.out a hla)
          have HMM := Lib.hid (fun v (hv : v.ownsRow (w.heap.size + 1 + 1 + 1) 3 1 (.slice AL (fuseL (inB f) (fun s => z (s * 3 + a)) 4).length cl) (fuseL (inB f) (fun s => z (s * 3 + a)) 4).length (Ms.intsV (fuseL (inB f) (fun s => z (s * 3 + a)) 4))) => show Calls Tryz.prog 34 #[.slice AL (fuseL (inB f) (fun s => z (s * 3 + a)) 4).length cl] v fun e w' => e = .returned (.tuple #[.int .i64 (usedZ f z a), .int .i64 (midZ (fuseL (inB f) (fun s => z (s * 3 + a)) 4)).2]) ∧ Below v.heap.size v w' from
            refmid_any AL cl _ v.heap.size v (Nat.le_refl _) (by omega) (fun x hx => by
              obtain ⟨sj, hsj, _, rfl⟩ := fuse_mem hx
              exact HWF.out _ (by have := HLA.out; omega)) (Rd.of_own hv))
          have HUS := Lib.hid (decG_used f z (PR a 4) a a (by omega) hla (.slice A2 bs.length c2))
          have HN67 := Lib.hid (show ∃ v, (row 74 (nodeW (decG f z (PR a 4) a a) (.slice A2 bs.length c2)))[67 + a]? = some (.int .i64 v) from by
            refine ⟨iv (decG f z (PR a 4) a a (67 + a)), ?_⟩
            rw [row_at (by omega)]
            unfold nodeW
            rw [if_neg (by omega), ← cell_int (ok_decG HF.out z _ a a (by omega) (by omega)) (67 + a) (by omega) (by unfold nodeT; simp; omega)])
          have HST := Lib.hid (show (row 7 fun j => nodeW (decG f z (PR a 4) a (a + 1)) (.slice A2 bs.length c2) (6 + a * 7 + j)) = stC (stOf f a) from by
            rw [← st_load HF.out a hla]
            exact row_congr fun j hj => by unfold nodeW; rw [if_neg (by omega), Nat.add_assoc, decG_ax _ _ _ _ _ hla _ hj])
          have HTU := Lib.hid (show (row 4 fun j => nodeW (decG f z (PR a 4) a (a + 1)) (.slice A2 bs.length c2) (2 + j)) = tunC (iv (f 2)) (iv (f 3)) (iv (f 4)) (iv (f 5)) from by
            have e : ∀ j, j < 4 → nodeW (decG f z (PR a 4) a (a + 1)) (.slice A2 bs.length c2) (2 + j) = .int .i64 (iv (f (2 + j))) := fun j hj => by unfold nodeW; rw [if_neg (by omega), decG_low _ _ _ _ _ _ (by omega) (by omega) (by omega)]; exact cell_int HF.out (2 + j) (by omega) (by unfold nodeT; simp; omega)
            rw [row_congr (g := fun j => .int .i64 (iv (f (2 + j)))) e]
            rfl)
          have HU67 := Lib.hid (show (row 74 (nodeW (decG f z (PR a 4) a (a + 1)) (.slice A2 bs.length c2)))[67 + a]? = some (.int .i64 (usedZ f z a)) from by rw [row_at (by omega)]; unfold nodeW; rw [if_neg (by omega), decG_us _ _ _ _ _ (by omega) _ (by omega) (by omega)])
          have HCS := Lib.hid (fun v => show Calls Tryz.prog 35 #[.agg (stC (stOf f a)), .agg (tunC (iv (f 2)) (iv (f 3)) (iv (f 4)) (iv (f 5))), .int .i64 (usedZ f z a)] v fun e w' => e = .returned (.tuple #[.agg (stC (newSt f z a)), .bool (fstep (stOf f a) (iv (f 2)) (iv (f 3)) (iv (f 4)) (iv (f 5)) (usedZ f z a)).2]) ∧ Below v.heap.size v w' from
            reffstep_any (stOf f a) _ _ _ _ _ v (HSI.out a hla) (HTI.out 2 (by omega)) (HTI.out 3 (by omega)) (HTI.out 4 (by omega)) (HTI.out 5 (by omega)) HUI.out)
          have HAX := Lib.hid (decG_axis f z (PR a 4) a (a + 1) hla (.slice A2 bs.length c2))
          obtain ⟨U, hU⟩ : ∃ U, usedZ f z a = U := ⟨_, rfl⟩
          rw [hU] at HMM HUS HU67 HCS
          obtain ⟨RA, hRA⟩ : ∃ RA, (row 74 (nodeW (decG f z (PR a 4) a a) (.slice A2 bs.length c2))) = RA := ⟨_, rfl⟩
          rw [hRA] at G3 HUS HN67
          obtain ⟨TC, hTC⟩ : ∃ T, tunC (iv (f 2)) (iv (f 3)) (iv (f 4)) (iv (f 5)) = T := ⟨_, rfl⟩
          rw [hTC] at HTU HCS
          obtain ⟨SC, hSC⟩ : ∃ T, stC (stOf f a) = T := ⟨_, rfl⟩
          rw [hSC] at HST HCS
          clear hU hRA hla hTC hSC
          have CMM := Lib.hid (HMM.out wr HO.out)
          obtain ⟨fe, hfe⟩ : ∃ e, (midZ (fuseL (inB f) (fun s => z (s * 3 + a)) 4)).2 = e := ⟨_, rfl⟩
          obtain ⟨fl, hfl⟩ : ∃ l, (fuseL (inB f) (fun s => z (s * 3 + a)) 4).length = l := ⟨_, rfl⟩
          rw [hfe, hfl] at CMM
          rw [hfl]
          clear HMM hfe hfl HO hlen
          go_wp2_with fail
          refine CMM.out.mono ?_
          rintro e w6 ⟨rfl, hb⟩
          have G3 := Lib.hid (G3.out.below hb G3.out.lt)
          have HK := Lib.hid (HK.out.step hb)
          clear hb CMM
          obtain ⟨v67, h67⟩ := HN67.out
          have x67 := (G3.out.cell (67 + a)).trans h67
          have f67 := G3.out.thaw (67 + a)
          go_upto_region 15 with fail
          have HK := Lib.hid (HK.out.set (67 + a) (.int .i64 U))
          have G3 := Lib.hid (G3.out.set (67 + a) (.int .i64 U))
          rw [HUS.out] at G3
          clear x67 f67 h67 HN67 HUS
          generalize (w6.setCell ⟨w.heap.size, 67 + a, none⟩ (.int .i64 U)) = w7 at *
          have G3 := Lib.hid G3.out.drew
          have HK := Lib.hid HK.out.drew
          have HS := G3.out
          refine wp_region_noPanic ?_
          refine Rg.beginR [4, 6, 10] (fun w' => Blk w' w.heap.size 37 (row 74 (nodeW (decG f z (PR a 4) a (a + 1)) (.slice A2 bs.length c2)))) (by kernel_rfl) ?_
          generalize w7.drew = V0 at *
          refine Rg.takeP (i := 0) (oi := { dst := some 65, op := Op.move (Operand.tmp 6), type := 3, pos := "node.go:142", after := #[], guard := none }) (v := ?_) rfl (by kernel_rfl) (fun _ _ _ h => h) (by rfl) ?_ ?_
          rotate_left 1
          · (intro w; go_simp; (try with_reducible rfl))
          try simp only [Act.put, List.setIfInBounds_toArray, List.set_cons_zero, List.set_cons_succ]
          refine Rg.takeP (i := 1) (oi := { dst := some 66, op := Op.move (Operand.tmp 6), type := 3, pos := "node.go:142", after := #[], guard := none }) (v := ?_) rfl (by kernel_rfl) (fun _ _ _ h => h) (by rfl) ?_ ?_
          rotate_left 1
          · (intro w; go_simp; (try with_reducible rfl))
          try simp only [Act.put, List.setIfInBounds_toArray, List.set_cons_zero, List.set_cons_succ]
          refine Rg.takeP (i := 2) (oi := { dst := some 67, op := Op.fieldAddr 37 (Operand.tmp 2) 3, type := 0, pos := "node.go:142", after := #[], guard := none }) (v := ?_) rfl (by kernel_rfl) (fun _ _ _ h => h) (by rfl) ?_ ?_
          rotate_left 1
          · (intro w; go_simp; (try with_reducible rfl))
          try simp only [Act.put, List.setIfInBounds_toArray, List.set_cons_zero, List.set_cons_succ]
          refine Rg.takeP (i := 3) (oi := { dst := some 68, op := Op.indexAddr 26 (Operand.tmp 67) (Operand.tmp 66), type := 0, pos := "node.go:142", after := #[{ on := 2, ground := Ground.data }, { on := 1, ground := Ground.data }], guard := none }) (v := ?_) rfl (by kernel_rfl) (fun _ _ _ h => h) (by rfl) ?_ ?_
          rotate_left 1
          · (intro w; go_simp; (try with_reducible rfl))
          try simp only [Act.put, List.setIfInBounds_toArray, List.set_cons_zero, List.set_cons_succ]
          refine Rg.takeS (i := 4) (oi := { dst := some 69, op := Op.load 25 (Operand.tmp 68), type := 25, pos := "node.go:142", after := #[{ on := 3, ground := Ground.data }], guard := none }) (v := .agg SC) rfl (by kernel_rfl) (fun _ _ _ h => h) (by rfl) HS ?_ ?_
          · (intro w' hSw; rw [← HST.out]; exact exec_load_mid 25 (.tmp 68) rfl w.heap.size (6 + a * 7) 7 rfl _ _ (row_range hSw (6 + a * 7) 7 (by have := HLA.out; omega)) Tryz.underlying25 rfl (by kernel_rfl))
          try simp only [Act.put, List.setIfInBounds_toArray, List.set_cons_zero, List.set_cons_succ]
          refine Rg.takeP (i := 5) (oi := { dst := some 70, op := Op.fieldAddr 37 (Operand.tmp 2) 2, type := 0, pos := "node.go:142", after := #[], guard := none }) (v := ?_) rfl (by kernel_rfl) (fun _ _ _ h => h) (by rfl) ?_ ?_
          rotate_left 1
          · (intro w; go_simp; (try with_reducible rfl))
          try simp only [Act.put, List.setIfInBounds_toArray, List.set_cons_zero, List.set_cons_succ]
          refine Rg.takeS (i := 6) (oi := { dst := some 71, op := Op.load 23 (Operand.tmp 70), type := 23, pos := "node.go:142", after := #[{ on := 5, ground := Ground.data }], guard := none }) (v := .agg TC) rfl (by kernel_rfl) (fun _ _ _ h => h) (by rfl) HS ?_ ?_
          · (intro w' hSw; rw [← HTU.out]; exact exec_load_mid 23 (.tmp 70) rfl w.heap.size 2 4 rfl _ _ (row_range hSw 2 4 (by omega)) Tryz.underlying23 rfl (by kernel_rfl))
          try simp only [Act.put, List.setIfInBounds_toArray, List.set_cons_zero, List.set_cons_succ]
          refine Rg.takeP (i := 7) (oi := { dst := some 72, op := Op.move (Operand.tmp 6), type := 3, pos := "node.go:142", after := #[], guard := none }) (v := ?_) rfl (by kernel_rfl) (fun _ _ _ h => h) (by rfl) ?_ ?_
          rotate_left 1
          · (intro w; go_simp; (try with_reducible rfl))
          try simp only [Act.put, List.setIfInBounds_toArray, List.set_cons_zero, List.set_cons_succ]
          refine Rg.takeP (i := 8) (oi := { dst := some 73, op := Op.fieldAddr 37 (Operand.tmp 2) 8, type := 0, pos := "node.go:142", after := #[], guard := none }) (v := ?_) rfl (by kernel_rfl) (fun _ _ _ h => h) (by rfl) ?_ ?_
          rotate_left 1
          · (intro w; go_simp; (try with_reducible rfl))
          try simp only [Act.put, List.setIfInBounds_toArray, List.set_cons_zero, List.set_cons_succ]
          refine Rg.takeP (i := 9) (oi := { dst := some 74, op := Op.indexAddr 31 (Operand.tmp 73) (Operand.tmp 72), type := 0, pos := "node.go:142", after := #[{ on := 8, ground := Ground.data }, { on := 7, ground := Ground.data }], guard := none }) (v := ?_) rfl (by kernel_rfl) (fun _ _ _ h => h) (by rfl) ?_ ?_
          rotate_left 1
          · (intro w; go_simp; (try with_reducible rfl))
          try simp only [Act.put, List.setIfInBounds_toArray, List.set_cons_zero, List.set_cons_succ]
          refine Rg.takeS (i := 10) (oi := { dst := some 75, op := Op.load 3 (Operand.tmp 74), type := 3, pos := "node.go:142", after := #[{ on := 9, ground := Ground.data }], guard := none }) (v := .int .i64 U) rfl (by kernel_rfl) (fun _ _ _ h => h) (by rfl) HS ?_ ?_
          · (intro w' hSw; have y := (hSw.cell (67 + a)).trans HU67.out; go_simp; (try with_reducible rfl))
          try simp only [Act.put, List.setIfInBounds_toArray, List.set_cons_zero, List.set_cons_succ]
          refine Rg.takeP (i := 15) (oi := { dst := some 79, op := Op.fieldAddr 37 (Operand.tmp 2) 3, type := 0, pos := "node.go:142", after := #[], guard := none }) (v := ?_) rfl (by kernel_rfl) (fun _ _ _ h => h) (by rfl) ?_ ?_
          rotate_left 1
          · (intro w; go_simp; (try with_reducible rfl))
          try simp only [Act.put, List.setIfInBounds_toArray, List.set_cons_zero, List.set_cons_succ]
          refine Rg.oneR (i := 11) (oi := { dst := some 76, op := Op.call { callee := Callee.value (Operand.func 35), args := #[Operand.tmp 69, Operand.tmp 71, Operand.tmp 75], argTypes := #[25, 23, 3] }, type := 76, pos := "node.go:142", after := #[{ on := 4, ground := Ground.data }, { on := 6, ground := Ground.data }, { on := 10, ground := Ground.data }], guard := none }) rfl (by kernel_rfl) ?_
          refine Rg.stepF ?_ ?_
          · kernel_rfl
          intro K hK
          rw [if_pos (by rfl)]
          go_simp
          go_at_call 35
          refine (HCS.out _).mono ?_
          rintro e V1 ⟨rfl, hb⟩
          have G3 := Lib.hid (G3.out.below hb G3.out.lt)
          have HK := Lib.hid (HK.out.step hb)
          clear hb HS
          have HS := trivial
          go_wp2_with fail
          refine hK.out _ _ ?_
          clear hK K
          try simp only [Act.put, List.setIfInBounds_toArray, List.set_cons_zero, List.set_cons_succ]
          refine Rg.takeP (i := 12) (oi := { dst := some 64, op := Op.move (Operand.tmp 76), type := 76, pos := "node.go:142", after := #[{ on := 11, ground := Ground.data }], guard := none }) (v := ?_) rfl (by kernel_rfl) (fun _ _ _ h => h) (by rfl) ?_ ?_
          rotate_left 1
          · (intro w; go_simp; (try with_reducible rfl))
          try simp only [Act.put, List.setIfInBounds_toArray, List.set_cons_zero, List.set_cons_succ]
          refine Rg.takeP (i := 13) (oi := { dst := some 77, op := Op.extract (Operand.tmp 64) 0, type := 25, pos := "node.go:142", after := #[{ on := 12, ground := Ground.data }], guard := none }) (v := ?_) rfl (by kernel_rfl) (fun _ _ _ h => h) (by rfl) ?_ ?_
          rotate_left 1
          · (intro w; go_simp; (try with_reducible rfl))
          try simp only [Act.put, List.setIfInBounds_toArray, List.set_cons_zero, List.set_cons_succ]
          refine Rg.takeP (i := 14) (oi := { dst := some 78, op := Op.extract (Operand.tmp 64) 1, type := 4, pos := "node.go:142", after := #[{ on := 12, ground := Ground.data }, { on := 17, ground := Ground.gcOnly Departure.lateStores }], guard := none }) (v := ?_) rfl (by kernel_rfl) (fun _ _ _ h => h) (by rfl) ?_ ?_
          rotate_left 1
          · (intro w; go_simp; (try with_reducible rfl))
          try simp only [Act.put, List.setIfInBounds_toArray, List.set_cons_zero, List.set_cons_succ]
          refine Rg.takeP (i := 16) (oi := { dst := some 80, op := Op.indexAddr 26 (Operand.tmp 79) (Operand.tmp 65), type := 0, pos := "node.go:142", after := #[{ on := 15, ground := Ground.data }, { on := 0, ground := Ground.data }, { on := 0, ground := Ground.phase }, { on := 1, ground := Ground.phase }, { on := 2, ground := Ground.phase }, { on := 3, ground := Ground.phase }, { on := 4, ground := Ground.phase }, { on := 5, ground := Ground.phase }, { on := 6, ground := Ground.phase }, { on := 7, ground := Ground.phase }, { on := 8, ground := Ground.phase }, { on := 9, ground := Ground.phase }, { on := 10, ground := Ground.phase }, { on := 11, ground := Ground.phase }, { on := 12, ground := Ground.phase }, { on := 13, ground := Ground.phase }, { on := 14, ground := Ground.textOnly Departure.lateStores }], guard := none }) (v := ?_) rfl (by kernel_rfl) (fun _ _ _ h => h) (by rfl) ?_ ?_
          rotate_left 1
          · (intro w; go_simp; (try with_reducible rfl))
          try simp only [Act.put, List.setIfInBounds_toArray, List.set_cons_zero, List.set_cons_succ]
          refine Rg.oneR (i := 17) (oi := { dst := none, op := Op.store 25 (Operand.tmp 80) (Operand.tmp 77), type := 0, pos := "node.go:142", after := #[{ on := 16, ground := Ground.data }, { on := 13, ground := Ground.data }, { on := 11, ground := Ground.chain }, { on := 0, ground := Ground.phase }, { on := 1, ground := Ground.phase }, { on := 2, ground := Ground.phase }, { on := 3, ground := Ground.phase }, { on := 4, ground := Ground.phase }, { on := 5, ground := Ground.phase }, { on := 6, ground := Ground.phase }, { on := 7, ground := Ground.phase }, { on := 8, ground := Ground.phase }, { on := 9, ground := Ground.phase }, { on := 10, ground := Ground.phase }, { on := 11, ground := Ground.phase }, { on := 12, ground := Ground.phase }, { on := 13, ground := Ground.phase }, { on := 14, ground := Ground.textOnly Departure.lateStores }], guard := none }) rfl (by kernel_rfl) ?_
          refine Rg.stepF ?_ ?_
          · kernel_rfl
          intro K hK
          rw [if_pos (by rfl)]
          refine wp_store_mid 25 (.tmp 80) (.tmp 77) rfl w.heap.size (6 + a * 7) (stC (newSt f z a)) rfl rfl (by rw [stC_row, row_size]; exact row_there G3.out (6 + a * 7) 7 (by have := HLA.out; omega)) (by rw [stC_row, row_size]; kernel_rfl) (by rw [stC_row]; exact row_one (stCell_one _)) ?_
          have G3 := Lib.hid (blk_mid G3.out (6 + a * 7) 7 (stCell (newSt f z a)))
          rw [HAX.out, ← stC_row] at G3
          have HK := Lib.hid (HK.out.sets (stC (newSt f z a)).toList (6 + a * 7))
          generalize (V1.setCells w.heap.size (6 + a * 7) (stC (newSt f z a)).toList) = V2 at *
          refine hK.out _ _ ?_
          clear hK K
          try simp only [Act.put, List.setIfInBounds_toArray, List.set_cons_zero, List.set_cons_succ]
          refine Rg.doneR (by kernel_rfl) ?_ _
          refine NoPanic.normal ?_
          go_wp2_with fail
          exact ⟨⟨a + 1, by have := HLA.out; omega, by go_num, by rw [← decG_P f z (PR a 4) (PR (a + 1) 0) (a + 1) (a + 1) (fun x hx => PR_turn a x hx)]; exact G3.out, HK.out⟩, by have := HLA.out; simp [intOf]; omega⟩
    · obtain rfl : a = 3 := by omega
      rw [show ((3 : Nat) : Int) = 3 from rfl]
      have G3 := Lib.hid (show Blk wr w.heap.size 37 (row 74 (nodeW (decG f z allP 3 3) (.slice A2 bs.length c2))) from by rw [← decG_P f z (PR 3 0) allP 3 3 (fun x hx => PR_all x hx)]; exact G3.out)
      clear hla
      have HDG := Lib.hid (fun v => show Calls Tryz.prog 36 #[.agg (row 74 (nodeW (decG f z allP 3 3) (.slice A2 bs.length c2)))] v fun e w' => e = .returned (.int .i64 (digestZ (decG f z allP 3 3))) ∧ Below v.heap.size v w' from refdigest_any (decG f z allP 3 3) (ok_decG HF.out z allP 3 3 (by omega) (by omega)) (.slice A2 bs.length c2) v)
      have HFR3 := Lib.hid (decF_row k hk z f (.slice A2 bs.length c2))
      have HN := Lib.hid (show ∀ i, i < 73 → ∃ v, (row 74 (nodeW (decG f z allP 3 3) (.slice A2 bs.length c2)))[i]? = some v from fun i hi => ⟨_, row_at (by omega)⟩)
      have HN0 := Lib.hid (show (row 74 (nodeW (decG f z allP 3 3) (.slice A2 bs.length c2)))[0]? = some (.int .i64 (k : Int)) from by rw [row_at (by omega)]; unfold nodeW; rw [if_neg (by omega), decG_low _ _ _ _ _ _ (by omega) (by omega) (by omega), HID.out])
      have HN51 := Lib.hid (show ∃ v, (row 74 (nodeW (decG f z allP 3 3) (.slice A2 bs.length c2)))[51 + k]? = some (.int .i64 v) from by
        refine ⟨iv (decG f z allP 3 3 (51 + k)), ?_⟩
        rw [row_at (by omega)]
        unfold nodeW
        rw [if_neg (by omega), ← cell_int (ok_decG HF.out z _ 3 3 (by omega) (by omega)) (51 + k) (by omega) (by unfold nodeT; simp; omega)])
      have HN70 := Lib.hid (show ∃ v, (row 74 (nodeW (decG f z allP 3 3) (.slice A2 bs.length c2)))[70]? = some (.int .i64 v) from by
        refine ⟨iv (decG f z allP 3 3 70), ?_⟩
        rw [row_at (by omega)]
        unfold nodeW
        rw [if_neg (by omega), ← cell_int (ok_decG HF.out z _ 3 3 (by omega) (by omega)) 70 (by omega) (by unfold nodeT; simp)])
      have hiA : (Tryz.prog.info? 37).map (·.size) = some (row 74 (nodeW (decG f z allP 3 3) (.slice A2 bs.length c2))).size := by rw [row_size]; kernel_rfl
      have k4 : (k : Int) < 4 := by omega
      obtain ⟨dg, hdg⟩ : ∃ d, digestZ (decG f z allP 3 3) = d := ⟨_, rfl⟩
      have HDE := Lib.hid hdg
      rw [hdg] at HDG HFR3
      obtain ⟨RA, hRA⟩ : ∃ RA, (row 74 (nodeW (decG f z allP 3 3) (.slice A2 bs.length c2))) = RA := ⟨_, rfl⟩
      rw [hRA] at G3 HDG HFR3 HN HN0 HN51 HN70 hiA
      clear hRA hdg
      go_wp2_with (refine wpList_whole rfl 37 _ rfl w.heap.size rfl G3.out _ Tryz.underlying37 rfl hiA ?_)
      refine (HDG.out _).mono ?_
      rintro e w6 ⟨rfl, hb⟩
      have G3 := Lib.hid (G3.out.below hb G3.out.lt)
      have HK := Lib.hid (HK.out.step hb)
      clear hb HDG
      obtain ⟨v70, h70⟩ := HN70.out
      have x70 := (G3.out.cell 70).trans h70
      have f70 := G3.out.thaw 70
      go_upto_region 17 with fail
      have HK := Lib.hid (HK.out.set 70 (.int .i64 dg))
      have G3 := Lib.hid (G3.out.set 70 (.int .i64 dg))
      clear x70 f70
      generalize (w6.setCell ⟨w.heap.size, 70, none⟩ (.int .i64 dg)) = w7 at *
      have x70 : w7.cell? ⟨w.heap.size, 70, none⟩ = some (.int .i64 dg) := by rw [G3.out.cell, Array.getElem?_setIfInBounds_self_of_lt (Array.getElem?_eq_some_iff.1 h70).1]
      have x0 : w7.cell? ⟨w.heap.size, 0, none⟩ = some (.int .i64 (k : Int)) := by rw [G3.out.cell, Array.getElem?_setIfInBounds_ne (by omega)]; exact HN0.out
      obtain ⟨v51, h51⟩ := HN51.out
      have x51 : w7.cell? ⟨w.heap.size, 51 + k, none⟩ = some (.int .i64 v51) := by rw [G3.out.cell, Array.getElem?_setIfInBounds_ne (by omega)]; exact h51
      have f51 := G3.out.thaw (51 + k)
      go_upto_region 18 with fail
      have HK := Lib.hid (HK.out.set (51 + k) (.int .i64 dg))
      have G3 := Lib.hid (G3.out.set (51 + k) (.int .i64 dg))
      rw [HFR3.out] at G3
      clear x70 x0 x51 f51 h51 h70 HN HN0 HN51 HN70 HFR3 hiA
      generalize (w7.setCell ⟨w.heap.size, 51 + k, none⟩ (.int .i64 dg)) = w8 at *
      obtain ⟨F, hF⟩ : ∃ F, decF k z f = F := ⟨_, rfl⟩
      have HFE := Lib.hid hF
      have HOK := Lib.hid (show ∀ i, i < 73 → okT (nodeT i) (F i) from by rw [← hF]; exact ok_decF HF.out k hk z)
      have hF0 : F 0 = .int .i64 (k : Int) := by rw [← hF]; unfold decF; rw [if_neg (by omega), decG_low _ _ _ _ _ _ (by omega) (by omega) (by omega)]; exact HID.out
      have hF1 : F 1 = .int .i64 fr := by rw [← hF]; unfold decF; rw [if_neg (by omega), decG_low _ _ _ _ _ _ (by omega) (by omega) (by omega)]; exact HFR.out
      have hF70 : F 70 = .int .i64 dg := by rw [← hF]; unfold decF; rw [if_pos (.inl rfl), HDE.out]
      rw [hF] at G3
      clear hF
      have o5 := one_of HOK.out (A := A2) (n := bs.length) (c := c2)
      have i5 : (Tryz.prog.info? 37).map (·.size) = some (row 74 (nodeW F (.slice A2 bs.length c2))).size := by rw [row_size]; kernel_rfl
      have z5 : (Tryz.zeroCells37).size = (row 74 (nodeW F (.slice A2 bs.length c2))).size := by rw [row_size]; kernel_rfl
      have j0 : (row 74 (nodeW F (.slice A2 bs.length c2)))[0]? = some (.int .i64 (k : Int)) := by rw [row_at (by omega)]; exact congrArg some hF0
      have j1 : (row 74 (nodeW F (.slice A2 bs.length c2)))[1]? = some (.int .i64 fr) := by rw [row_at (by omega)]; exact congrArg some hF1
      have J70 := Lib.hid (show (row 74 (nodeW F (.slice A2 bs.length c2)))[70]? = some (.int .i64 dg) from by rw [row_at (by omega)]; exact congrArg some hF70)
      obtain ⟨R5, hR5⟩ : ∃ R5, row 74 (nodeW F (.slice A2 bs.length c2)) = R5 := ⟨_, rfl⟩
      rw [hR5] at o5 i5 z5 j0 j1 G3 J70
      have HR5 := Lib.hid hR5
      clear hR5 hF0 hF1 hF70
      have G3 := Lib.hid G3.out.drew
      have G6 := Lib.hid HK.out.g6.drew
      have G7 := Lib.hid HK.out.g7.drew
      have HV := Lib.hid HK.out.drew.hv
      have HB := Lib.hid HK.out.hb.drew
      have HG7 := Lib.hid (show w.heap.size + 1 + 1 < w8.drew.heap.size from G7.out.lt)
      have J0 := Lib.hid j0
      have J1 := Lib.hid j1
      have HS := G3.out
      clear HK
      refine wp_region_noPanic ?_
      refine Rg.beginR [0, 2, 4, 6] (fun w' => Blk w' w.heap.size 37 R5) (by kernel_rfl) ?_
      generalize w8.drew = V0 at *
      refine Rg.takeS (i := 0) (oi := { dst := some 90, op := Op.load 37 (Operand.tmp 2), type := 37, pos := "node.go:146", after := #[], guard := none }) (v := .agg R5) rfl (by kernel_rfl) (fun _ _ _ h => h) (by rfl) HS ?_ ?_
      · (intro w' hSw; exact exec_load_row 37 _ rfl _ rfl hSw Tryz.underlying37 rfl i5)
      try simp only [Act.put, List.setIfInBounds_toArray, List.set_cons_zero, List.set_cons_succ]
      refine Rg.takeP (i := 1) (oi := { dst := some 91, op := Op.fieldAddr 37 (Operand.tmp 2) 0, type := 0, pos := "node.go:146", after := #[{ on := 9, ground := Ground.gcOnly Departure.lateStores }], guard := none }) (v := ?_) rfl (by kernel_rfl) (fun _ _ _ h => h) (by rfl) ?_ ?_
      rotate_left 1
      · (intro w; go_simp; (try with_reducible rfl))
      try simp only [Act.put, List.setIfInBounds_toArray, List.set_cons_zero, List.set_cons_succ]
      refine Rg.takeS (i := 2) (oi := { dst := some 92, op := Op.load 3 (Operand.tmp 91), type := 3, pos := "node.go:146", after := #[{ on := 1, ground := Ground.data }, { on := 9, ground := Ground.gcOnly Departure.lateStores }], guard := none }) (v := .int .i64 (k : Int)) rfl (by kernel_rfl) (fun _ _ _ h => h) (by rfl) HS ?_ ?_
      · (intro w' hSw; have y := (hSw.cell 0).trans J0.out; go_simp; (try with_reducible rfl))
      try simp only [Act.put, List.setIfInBounds_toArray, List.set_cons_zero, List.set_cons_succ]
      refine Rg.takeP (i := 3) (oi := { dst := some 93, op := Op.fieldAddr 37 (Operand.tmp 2) 1, type := 0, pos := "node.go:146", after := #[{ on := 9, ground := Ground.gcOnly Departure.lateStores }], guard := none }) (v := ?_) rfl (by kernel_rfl) (fun _ _ _ h => h) (by rfl) ?_ ?_
      rotate_left 1
      · (intro w; go_simp; (try with_reducible rfl))
      try simp only [Act.put, List.setIfInBounds_toArray, List.set_cons_zero, List.set_cons_succ]
      refine Rg.takeS (i := 4) (oi := { dst := some 94, op := Op.load 3 (Operand.tmp 93), type := 3, pos := "node.go:146", after := #[{ on := 3, ground := Ground.data }, { on := 9, ground := Ground.gcOnly Departure.lateStores }], guard := none }) (v := .int .i64 fr) rfl (by kernel_rfl) (fun _ _ _ h => h) (by rfl) HS ?_ ?_
      · (intro w' hSw; have y := (hSw.cell 1).trans J1.out; go_simp; (try with_reducible rfl))
      try simp only [Act.put, List.setIfInBounds_toArray, List.set_cons_zero, List.set_cons_succ]
      refine Rg.takeP (i := 5) (oi := { dst := some 95, op := Op.fieldAddr 37 (Operand.tmp 2) 9, type := 0, pos := "node.go:146", after := #[{ on := 9, ground := Ground.gcOnly Departure.lateStores }], guard := none }) (v := ?_) rfl (by kernel_rfl) (fun _ _ _ h => h) (by rfl) ?_ ?_
      rotate_left 1
      · (intro w; go_simp; (try with_reducible rfl))
      try simp only [Act.put, List.setIfInBounds_toArray, List.set_cons_zero, List.set_cons_succ]
      refine Rg.takeS (i := 6) (oi := { dst := some 96, op := Op.load 3 (Operand.tmp 95), type := 3, pos := "node.go:146", after := #[{ on := 5, ground := Ground.data }, { on := 9, ground := Ground.gcOnly Departure.lateStores }], guard := none }) (v := .int .i64 dg) rfl (by kernel_rfl) (fun _ _ _ h => h) (by rfl) HS ?_ ?_
      · (intro w' hSw; have y := (hSw.cell 70).trans J70.out; go_simp; (try with_reducible rfl))
      try simp only [Act.put, List.setIfInBounds_toArray, List.set_cons_zero, List.set_cons_succ]
      refine Rg.twoR (i := 7) (j := 9) (oi := { dst := some 97, op := Op.buildSlice 39 1 #[(0, Operand.tmp 96)], type := 39, pos := "node.go:146", after := #[{ on := 6, ground := Ground.data }, { on := 9, ground := Ground.gcOnly Departure.lateStores }], guard := none }) (oj := { dst := none, op := Op.store 37 (Operand.tmp 4) (Operand.tmp 90), type := 0, pos := "node.go:146", after := #[{ on := 0, ground := Ground.data }, { on := 0, ground := Ground.phase }, { on := 1, ground := Ground.textOnly Departure.lateStores }, { on := 2, ground := Ground.textOnly Departure.lateStores }, { on := 3, ground := Ground.textOnly Departure.lateStores }, { on := 4, ground := Ground.textOnly Departure.lateStores }, { on := 5, ground := Ground.textOnly Departure.lateStores }, { on := 6, ground := Ground.textOnly Departure.lateStores }, { on := 7, ground := Ground.textOnly Departure.lateStores }, { on := 8, ground := Ground.textOnly Departure.lateStores }], guard := none }) (by kernel_rfl) rfl rfl ?_ ?_
      ·
        refine Rg.stepS ?_
        intro K hK
        go_simp
        have HP := Lib.hid (Blk.fresh V0 3 #[.int .i64 dg])
        have HGP := Lib.hid (show w.heap.size + 1 + 1 < V0.heap.size from G7.out.lt)
        have G3 := Lib.hid (G3.out.alloc (.cells #[.int .i64 dg] 3))
        have G6 := Lib.hid (G6.out.alloc (.cells #[.int .i64 dg] 3))
        have G7 := Lib.hid (G7.out.alloc (.cells #[.int .i64 dg] 3))
        have HV := Lib.hid (ownsRow_below HV.out ((Below.refl V0.heap.size V0).alloc (Nat.le_refl _) (.cells #[.int .i64 dg] 3)))
        have HB := Lib.hid (HB.out.alloc HB.out.size (.cells #[.int .i64 dg] 3))
        clear HS
        generalize (V0.alloc (.cells #[.int .i64 dg] 3)) = V1 at *
        have HS := G3.out
        obtain ⟨gp, hgp⟩ : ∃ g, V0.heap.size = g := ⟨_, rfl⟩
        rw [hgp] at HP HGP ⊢
        clear hgp
        refine hK.out _ _ HS ?_
        clear hK K
        try simp only [Act.put, List.setIfInBounds_toArray, List.set_cons_zero, List.set_cons_succ]
        refine Rg.takeP (i := 8) (oi := { dst := some 98, op := Op.build 41 #[(0, Operand.const (Value.int IntKind.i64 3)), (1, Operand.tmp 92), (2, Operand.tmp 94), (3, Operand.tmp 97)], type := 41, pos := "node.go:146", after := #[{ on := 2, ground := Ground.data }, { on := 4, ground := Ground.data }, { on := 7, ground := Ground.data }, { on := 9, ground := Ground.gcOnly Departure.lateStores }], guard := none }) (v := .agg #[.int .i64 3, .int .i64 (k : Int), .int .i64 fr, .slice (some ⟨gp, 0, none⟩) 1 1]) rfl (by kernel_rfl) (fun _ _ _ h => h) (by rfl) ?_ ?_
        · (intro w; go_simp; (try with_reducible rfl))
        try simp only [Act.put, List.setIfInBounds_toArray, List.set_cons_zero, List.set_cons_succ]
        refine Rg.oneR (i := 9) (oi := { dst := none, op := Op.store 37 (Operand.tmp 4) (Operand.tmp 90), type := 0, pos := "node.go:146", after := #[{ on := 0, ground := Ground.data }, { on := 0, ground := Ground.phase }, { on := 1, ground := Ground.textOnly Departure.lateStores }, { on := 2, ground := Ground.textOnly Departure.lateStores }, { on := 3, ground := Ground.textOnly Departure.lateStores }, { on := 4, ground := Ground.textOnly Departure.lateStores }, { on := 5, ground := Ground.textOnly Departure.lateStores }, { on := 6, ground := Ground.textOnly Departure.lateStores }, { on := 7, ground := Ground.textOnly Departure.lateStores }, { on := 8, ground := Ground.textOnly Departure.lateStores }], guard := none }) rfl (by kernel_rfl) ?_
        refine Rg.stepS ?_
        intro K hK
        rw [if_pos (by rfl)]
        refine wp_store_row 37 _ _ rfl (w.heap.size + 1) R5 rfl rfl 37 _ G6.out i5 z5 o5 ?_
        have G3 := Lib.hid (G3.out.setRow_other (g' := w.heap.size + 1) (by omega) R5)
        have G7 := Lib.hid (G7.out.setRow_other (g' := w.heap.size + 1) (by omega) R5)
        have HP := Lib.hid (HP.out.setRow_other (g' := w.heap.size + 1) (by have := HGP.out; omega) R5)
        have G6 := Lib.hid (G6.out.setRow R5)
        have HB := Lib.hid (below_setRow HB.out (show w.heap.size ≤ w.heap.size + 1 by omega) R5)
        have HV := Lib.hid (own_setRow HV.out (show w.heap.size + 1 < w.heap.size + 1 + 1 + 1 by omega) R5)
        clear HS
        generalize (V1.setRow (w.heap.size + 1) R5) = V2 at *
        have HS := G3.out
        refine hK.out _ _ HS ?_
        clear hK K
        try simp only [Act.put, List.setIfInBounds_toArray, List.set_cons_zero, List.set_cons_succ]
        refine Rg.oneR (i := 10) (oi := { dst := none, op := Op.store 41 (Operand.tmp 5) (Operand.tmp 98), type := 0, pos := "node.go:146", after := #[{ on := 8, ground := Ground.data }, { on := 9, ground := Ground.chain }, { on := 0, ground := Ground.phase }, { on := 1, ground := Ground.phase }, { on := 2, ground := Ground.phase }, { on := 3, ground := Ground.phase }, { on := 4, ground := Ground.phase }, { on := 5, ground := Ground.phase }, { on := 6, ground := Ground.phase }, { on := 7, ground := Ground.phase }, { on := 8, ground := Ground.phase }, { on := 9, ground := Ground.phase }], guard := none }) rfl (by kernel_rfl) ?_
        refine Rg.stepF ?_ ?_
        · kernel_rfl
        intro K hK
        rw [if_pos (by rfl)]
        refine wp_store_row 41 _ _ rfl (w.heap.size + 1 + 1) (Ms.msgC 3 (k : Int) fr (some ⟨gp, 0, none⟩) 1 1) rfl rfl 41 _ G7.out (by kernel_rfl) rfl (by simp [Ms.msgC, Value.oneCell']) ?_
        have G6 := Lib.hid (G6.out.setRow_other (g' := w.heap.size + 1 + 1) (by omega) (Ms.msgC 3 (k : Int) fr (some ⟨gp, 0, none⟩) 1 1))
        have HP := Lib.hid (HP.out.setRow_other (g' := w.heap.size + 1 + 1) (by have := HGP.out; omega) (Ms.msgC 3 (k : Int) fr (some ⟨gp, 0, none⟩) 1 1))
        have G7 := Lib.hid (G7.out.setRow (Ms.msgC 3 (k : Int) fr (some ⟨gp, 0, none⟩) 1 1))
        have HB := Lib.hid (below_setRow HB.out (show w.heap.size ≤ w.heap.size + 1 + 1 by omega) (Ms.msgC 3 (k : Int) fr (some ⟨gp, 0, none⟩) 1 1))
        have HV := Lib.hid (own_setRow HV.out (show w.heap.size + 1 + 1 < w.heap.size + 1 + 1 + 1 by omega) (Ms.msgC 3 (k : Int) fr (some ⟨gp, 0, none⟩) 1 1))
        generalize (V2.setRow (w.heap.size + 1 + 1) (Ms.msgC 3 (k : Int) fr (some ⟨gp, 0, none⟩) 1 1)) = V4 at *
        refine hK.out _ _ ?_
        clear hK K
        try simp only [Act.put, List.setIfInBounds_toArray, List.set_cons_zero, List.set_cons_succ]
        refine Rg.doneR (by kernel_rfl) ?_ _
        refine NoPanic.normal ?_
        clear HS
        go_wp2_with fail
        have hi4 : (Tryz.prog.info? 41).map (·.size) = some (Ms.msgC 3 (k : Int) fr (some ⟨gp, 0, none⟩) 1 1).size := by kernel_rfl
        have HPR := Lib.hid ((Mj.rd_of_blk HP.out).more (show gp + 1 ≤ V4.heap.size from HP.out.lt))
        exact ret_rows2 rfl rfl rfl G6.out ⟨by rw [Tryz.underlying37], i5⟩ G7.out ⟨by rw [Tryz.underlying41], hi4⟩ rfl (by rw [HZZ.out, HFE.out, HDE.out]; exact ⟨A2, c2, some ⟨gp, 0, none⟩, 1, by rw [← HR5.out]; rfl, Rd.of_own HV.out, HPR.out, HB.out, fun a h => Nat.le_trans (by omega) (own_lo HV.out a h), fun a h => by cases h; show w.heap.size ≤ gp; have := HGP.out; omega, (own_cap HV.out).1, (own_cap HV.out).2⟩)
      ·
        refine Rg.stepS ?_
        intro K hK
        rw [if_pos (by rfl)]
        refine wp_store_row 37 _ _ rfl (w.heap.size + 1) R5 rfl rfl 37 _ G6.out i5 z5 o5 ?_
        have G3 := Lib.hid (G3.out.setRow_other (g' := w.heap.size + 1) (by omega) R5)
        have G7 := Lib.hid (G7.out.setRow_other (g' := w.heap.size + 1) (by omega) R5)
        have G6 := Lib.hid (G6.out.setRow R5)
        have HB := Lib.hid (below_setRow HB.out (show w.heap.size ≤ w.heap.size + 1 by omega) R5)
        have HV := Lib.hid (own_setRow HV.out (show w.heap.size + 1 < w.heap.size + 1 + 1 + 1 by omega) R5)
        clear HS
        generalize (V0.setRow (w.heap.size + 1) R5) = V1 at *
        have HS := G3.out
        refine hK.out _ _ HS ?_
        clear hK K
        try simp only [Act.put, List.setIfInBounds_toArray, List.set_cons_zero, List.set_cons_succ]
        refine Rg.oneR (i := 7) (oi := { dst := some 97, op := Op.buildSlice 39 1 #[(0, Operand.tmp 96)], type := 39, pos := "node.go:146", after := #[{ on := 6, ground := Ground.data }, { on := 9, ground := Ground.gcOnly Departure.lateStores }], guard := none }) rfl (by kernel_rfl) ?_
        refine Rg.stepS ?_
        intro K hK
        go_simp
        have HP := Lib.hid (Blk.fresh V1 3 #[.int .i64 dg])
        have HGP := Lib.hid (show w.heap.size + 1 + 1 < V1.heap.size from G7.out.lt)
        have G3 := Lib.hid (G3.out.alloc (.cells #[.int .i64 dg] 3))
        have G6 := Lib.hid (G6.out.alloc (.cells #[.int .i64 dg] 3))
        have G7 := Lib.hid (G7.out.alloc (.cells #[.int .i64 dg] 3))
        have HV := Lib.hid (ownsRow_below HV.out ((Below.refl V1.heap.size V1).alloc (Nat.le_refl _) (.cells #[.int .i64 dg] 3)))
        have HB := Lib.hid (HB.out.alloc HB.out.size (.cells #[.int .i64 dg] 3))
        clear HS
        generalize (V1.alloc (.cells #[.int .i64 dg] 3)) = V2 at *
        have HS := G3.out
        obtain ⟨gp, hgp⟩ : ∃ g, V1.heap.size = g := ⟨_, rfl⟩
        rw [hgp] at HP HGP ⊢
        clear hgp
        refine hK.out _ _ HS ?_
        clear hK K
        try simp only [Act.put, List.setIfInBounds_toArray, List.set_cons_zero, List.set_cons_succ]
        refine Rg.takeP (i := 8) (oi := { dst := some 98, op := Op.build 41 #[(0, Operand.const (Value.int IntKind.i64 3)), (1, Operand.tmp 92), (2, Operand.tmp 94), (3, Operand.tmp 97)], type := 41, pos := "node.go:146", after := #[{ on := 2, ground := Ground.data }, { on := 4, ground := Ground.data }, { on := 7, ground := Ground.data }, { on := 9, ground := Ground.gcOnly Departure.lateStores }], guard := none }) (v := .agg #[.int .i64 3, .int .i64 (k : Int), .int .i64 fr, .slice (some ⟨gp, 0, none⟩) 1 1]) rfl (by kernel_rfl) (fun _ _ _ h => h) (by rfl) ?_ ?_
        · (intro w; go_simp; (try with_reducible rfl))
        try simp only [Act.put, List.setIfInBounds_toArray, List.set_cons_zero, List.set_cons_succ]
        refine Rg.oneR (i := 10) (oi := { dst := none, op := Op.store 41 (Operand.tmp 5) (Operand.tmp 98), type := 0, pos := "node.go:146", after := #[{ on := 8, ground := Ground.data }, { on := 9, ground := Ground.chain }, { on := 0, ground := Ground.phase }, { on := 1, ground := Ground.phase }, { on := 2, ground := Ground.phase }, { on := 3, ground := Ground.phase }, { on := 4, ground := Ground.phase }, { on := 5, ground := Ground.phase }, { on := 6, ground := Ground.phase }, { on := 7, ground := Ground.phase }, { on := 8, ground := Ground.phase }, { on := 9, ground := Ground.phase }], guard := none }) rfl (by kernel_rfl) ?_
        refine Rg.stepF ?_ ?_
        · kernel_rfl
        intro K hK
        rw [if_pos (by rfl)]
        refine wp_store_row 41 _ _ rfl (w.heap.size + 1 + 1) (Ms.msgC 3 (k : Int) fr (some ⟨gp, 0, none⟩) 1 1) rfl rfl 41 _ G7.out (by kernel_rfl) rfl (by simp [Ms.msgC, Value.oneCell']) ?_
        have G6 := Lib.hid (G6.out.setRow_other (g' := w.heap.size + 1 + 1) (by omega) (Ms.msgC 3 (k : Int) fr (some ⟨gp, 0, none⟩) 1 1))
        have HP := Lib.hid (HP.out.setRow_other (g' := w.heap.size + 1 + 1) (by have := HGP.out; omega) (Ms.msgC 3 (k : Int) fr (some ⟨gp, 0, none⟩) 1 1))
        have G7 := Lib.hid (G7.out.setRow (Ms.msgC 3 (k : Int) fr (some ⟨gp, 0, none⟩) 1 1))
        have HB := Lib.hid (below_setRow HB.out (show w.heap.size ≤ w.heap.size + 1 + 1 by omega) (Ms.msgC 3 (k : Int) fr (some ⟨gp, 0, none⟩) 1 1))
        have HV := Lib.hid (own_setRow HV.out (show w.heap.size + 1 + 1 < w.heap.size + 1 + 1 + 1 by omega) (Ms.msgC 3 (k : Int) fr (some ⟨gp, 0, none⟩) 1 1))
        generalize (V2.setRow (w.heap.size + 1 + 1) (Ms.msgC 3 (k : Int) fr (some ⟨gp, 0, none⟩) 1 1)) = V4 at *
        refine hK.out _ _ ?_
        clear hK K
        try simp only [Act.put, List.setIfInBounds_toArray, List.set_cons_zero, List.set_cons_succ]
        refine Rg.doneR (by kernel_rfl) ?_ _
        refine NoPanic.normal ?_
        clear HS
        go_wp2_with fail
        have hi4 : (Tryz.prog.info? 41).map (·.size) = some (Ms.msgC 3 (k : Int) fr (some ⟨gp, 0, none⟩) 1 1).size := by kernel_rfl
        have HPR := Lib.hid ((Mj.rd_of_blk HP.out).more (show gp + 1 ≤ V4.heap.size from HP.out.lt))
        exact ret_rows2 rfl rfl rfl G6.out ⟨by rw [Tryz.underlying37], i5⟩ G7.out ⟨by rw [Tryz.underlying41], hi4⟩ rfl (by rw [HZZ.out, HFE.out, HDE.out]; exact ⟨A2, c2, some ⟨gp, 0, none⟩, 1, by rw [← HR5.out]; rfl, Rd.of_own HV.out, HPR.out, HB.out, fun a h => Nat.le_trans (by omega) (own_lo HV.out a h), fun a h => by cases h; show w.heap.size ≤ gp; have := HGP.out; omega, (own_cap HV.out).1, (own_cap HV.out).2⟩)
end Go.Proofs.YtjfllpmiajkenaaGreat.Nd
