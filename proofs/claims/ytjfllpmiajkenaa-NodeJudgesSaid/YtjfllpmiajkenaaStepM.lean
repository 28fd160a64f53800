/- Contract: member.Step. -/
import Derived.Test.YtjfllpmiajkenaaStay
import Derived.Test.YtjfllpmiajkenaaMsgs2
import Derived.Test.YtjfllpmiajkenaaNodeC
import Derived.Test.YtjfllpmiajkenaaOwnCap
namespace Go.Proofs.Ytjfllpmiajkenaa.Nd
open Go.RowKit Go.Proofs.Ytjfllpmiajkenaa.Mem Go.Proofs.Ytjfllpmiajkenaa.Rws
set_option linter.unusedVariables false
set_option linter.unusedSimpArgs false

def changesV (l : List (Int × Int)) : List Value := l.flatMap fun c => [.int .i64 c.1, .int .i64 c.2]
theorem changesV_len (l : List (Int × Int)) : (changesV l).length = l.length * 2 := by
  induction l with
  | nil => rfl
  | cons x l ih => show (changesV l).length + 2 = _; rw [ih, List.length_cons]; omega
theorem changesV_snoc (l : List (Int × Int)) (a b : Int) : changesV (l ++ [(a, b)]) = changesV l ++ [.int .i64 a, .int .i64 b] := by
  unfold changesV; rw [List.flatMap_append]; rfl
def zeroRS : RS := ⟨fun _ => false, fun _ => 0, fun _ => 0⟩
/-- P10.2: the roll, the changes, the error -/
def stepR (s : RS) (st : Bool) (bs : List Bool) : RS × List (Int × Int) × Int :=
  if bs.length ≠ 4 then (zeroRS, [], 8)
  else if okTo s.f s.m s.j 4 = false then (zeroRS, [], 3)
  else if st = false then (s, [], 0)
  else ((many s (fun i => bs.getD i false) 4).1, (many s (fun i => bs.getD i false) 4).2, 0)
def StepAs (w w' : World) (r : RS × List (Int × Int) × Int) (e : Ending) : Prop :=
  ∃ A c, e = .returned (.tuple #[.agg r.1.row, .slice A r.2.1.length c, .int .i64 r.2.2]) ∧ Rd w' w'.heap.size 2 A r.2.1.length (changesV r.2.1) ∧ Below w.heap.size w w' ∧ (A = none → c = 0)
theorem elemCh : Elem Try.prog 84 125 (.agg #[.int .i64 0, .int .i64 0]) 2 16 := ⟨Try.underlying84, by kernel_rfl, rfl, by omega⟩
theorem rd_two (w : World) (a b : Value) (e : TypeId) : Rd (w.alloc (.cells #[a, b] e)) (w.heap.size + 1) 2 (some ⟨w.heap.size, 0, none⟩) 1 [a, b] := by
  refine ⟨rfl, fun _ => ⟨w.heap.size, 0, rfl, by omega, fun j u hu => ?_⟩⟩
  have h := (Blk.fresh w e #[a, b]).cell j
  rw [Nat.zero_add, h]
  simpa using hu
theorem zero_roll : (#[.bool false, .bool false, .bool false, .bool false, .int .i64 0, .int .i64 0, .int .i64 0, .int .i64 0, .int .i64 0, .int .i64 0, .int .i64 0, .int .i64 0] : Array Value) = zeroRS.row := rfl
theorem row_roll_one (s : RS) : s.row.all (·.oneCell') = true := row_one fun i _ => rollF_one _ _ _ i
theorem many_succ (s : RS) (ag : Nat → Bool) (k : Nat) : (many s ag (k + 1)).2 = (many s ag k).2 ++ (one (many s ag k).1 k (ag k)).2 := rfl

set_option maxRecDepth 100000 in
set_option maxHeartbeats 4000000 in
theorem step_any (s : RS) (v : Int) (st : Bool) (A : Option Addr) (c : Nat) (bs : List Bool) (B : Nat) (w : World) (hB : B ≤ w.heap.size) (hl : bs.length ≤ 140737488351232) (hr : Rd w B 1 A bs.length (boolsV bs)) :
    Calls Try.prog 46 #[.agg s.row, .agg (verC v st A bs.length c)] w fun e w' => StepAs w w' (stepR s st bs) e := by
  have HR := Lib.hid hr
  have is : ∀ s : RS, (Try.prog.info? 30).map (·.size) = some s.row.size := fun s => by unfold RS.row; rw [row_size]; kernel_rfl
  have zs : ∀ s : RS, (#[.bool false, .bool false, .bool false, .bool false, .int .i64 0, .int .i64 0, .int .i64 0, .int .i64 0, .int .i64 0, .int .i64 0, .int .i64 0, .int .i64 0] : Array Value).size = s.row.size := fun s => by unfold RS.row; rw [row_size]; rfl
  have IS := Lib.hid is
  have ZS := Lib.hid zs
  clear hr is zs
  have hok : ∀ w, Calls Try.prog 80 #[.agg s.row] w fun e w' => e = .returned (.bool (okTo s.f s.m s.j 4)) ∧ Below w.heap.size w w' := fun w => good_any s.f s.m s.j w
  have HGD := Lib.hid hok
  clear hok
  obtain ⟨Ro, hRo⟩ : ∃ Ro, s.row = Ro := ⟨_, rfl⟩
  have HRo := Lib.hid hRo
  rw [hRo] at HGD ⊢
  have iR : (Try.prog.info? 30).map (·.size) = some Ro.size := by rw [← hRo]; exact IS.out s
  have zR : (#[.bool false, .bool false, .bool false, .bool false, .int .i64 0, .int .i64 0, .int .i64 0, .int .i64 0, .int .i64 0, .int .i64 0, .int .i64 0, .int .i64 0] : Array Value).size = Ro.size := by rw [← hRo]; exact ZS.out s
  have oR : Ro.all (·.oneCell') = true := by rw [← hRo]; exact row_roll_one s
  have iZ : (Try.prog.info? 30).map (·.size) = some (#[.bool false, .bool false, .bool false, .bool false, .int .i64 0, .int .i64 0, .int .i64 0, .int .i64 0, .int .i64 0, .int .i64 0, .int .i64 0, .int .i64 0] : Array Value).size := by kernel_rfl
  have oZ : (#[.bool false, .bool false, .bool false, .bool false, .int .i64 0, .int .i64 0, .int .i64 0, .int .i64 0, .int .i64 0, .int .i64 0, .int .i64 0, .int .i64 0] : Array Value).all (·.oneCell') = true := by simp [Value.oneCell']
  clear hRo
  have HZo := Lib.hid zero_roll
  have W1 := Lib.hid (show Blk (((w.alloc (.cells Ro 30)).alloc (.cells (verC v st A bs.length c) 35)).alloc (.cells #[.bool false, .bool false, .bool false, .bool false, .int .i64 0, .int .i64 0, .int .i64 0, .int .i64 0, .int .i64 0, .int .i64 0, .int .i64 0, .int .i64 0] 30)) w.heap.size 30 Ro from ((Blk.new rfl).alloc _).alloc _)
  have W2 := Lib.hid (show Blk (((w.alloc (.cells Ro 30)).alloc (.cells (verC v st A bs.length c) 35)).alloc (.cells #[.bool false, .bool false, .bool false, .bool false, .int .i64 0, .int .i64 0, .int .i64 0, .int .i64 0, .int .i64 0, .int .i64 0, .int .i64 0, .int .i64 0] 30)) (w.heap.size + 1) 35 (verC v st A bs.length c) from (Blk.new (by simp)).alloc _)
  have W3 : Hid (Blk (((w.alloc (.cells Ro 30)).alloc (.cells (verC v st A bs.length c) 35)).alloc (.cells #[.bool false, .bool false, .bool false, .bool false, .int .i64 0, .int .i64 0, .int .i64 0, .int .i64 0, .int .i64 0, .int .i64 0, .int .i64 0, .int .i64 0] 30)) (w.heap.size + 1 + 1) 30 #[.bool false, .bool false, .bool false, .bool false, .int .i64 0, .int .i64 0, .int .i64 0, .int .i64 0, .int .i64 0, .int .i64 0, .int .i64 0, .int .i64 0]) := Lib.hid (Blk.new (by simp))
  have WB := Lib.hid ((((Below.refl w.heap.size w).alloc (Nat.le_refl _) (.cells Ro 30)).alloc (by simp) (.cells (verC v st A bs.length c) 35)).alloc (by simp; omega) (.cells #[.bool false, .bool false, .bool false, .bool false, .int .i64 0, .int .i64 0, .int .i64 0, .int .i64 0, .int .i64 0, .int .i64 0, .int .i64 0, .int .i64 0] 30))
  unfold verC at *
  go_enter Try.func46, Try.ntmps46
  go_upto_region 1 with fail
  generalize (((w.alloc (.cells Ro 30)).alloc (.cells #[.int .i64 v, .bool st, .slice A bs.length c] 35)).alloc (.cells #[.bool false, .bool false, .bool false, .bool false, .int .i64 0, .int .i64 0, .int .i64 0, .int .i64 0, .int .i64 0, .int .i64 0, .int .i64 0, .int .i64 0] 30)) = W at *
  have y1 := W2.out.cell 1
  have y2 := W2.out.cell 2
  simp only [List.getElem?_toArray, List.getElem?_cons_zero, List.getElem?_cons_succ] at y1 y2
  by_cases h4 : bs.length = 4
  · have e4 : ((bs.length : Int) != 4) = false := by rw [h4]; rfl
    have H4 := Lib.hid h4
    cases hok : okTo s.f s.m s.j 4 with
    | false =>
      rw [hok] at HGD
      have HSR := Lib.hid (show stepR s st bs = (zeroRS, [], 3) by unfold stepR; rw [if_neg (by omega), if_pos hok])
      clear hok h4
      go_wp2_with (refine wpList_whole rfl 30 _ rfl w.heap.size rfl W1.out _ Try.underlying30 rfl iR ?_)
      refine (HGD.out _).mono ?_
      rintro e w2 ⟨rfl, hb⟩
      have X3 := Lib.hid (W3.out.below hb W3.out.lt)
      have XB := Lib.hid (onward WB.out (Nat.le_refl _) hb)
      clear hb
      go_wp2_with (refine wpList_store_row rfl 30 _ _ rfl (w.heap.size + 1 + 1) #[.bool false, .bool false, .bool false, .bool false, .int .i64 0, .int .i64 0, .int .i64 0, .int .i64 0, .int .i64 0, .int .i64 0, .int .i64 0, .int .i64 0] rfl rfl 30 _ X3.out iZ rfl oZ ?_)
      refine ret_row3 (x := .slice none 0 0) (y := .int .i64 3) rfl rfl rfl rfl (X3.out.setRow #[.bool false, .bool false, .bool false, .bool false, .int .i64 0, .int .i64 0, .int .i64 0, .int .i64 0, .int .i64 0, .int .i64 0, .int .i64 0, .int .i64 0]) ⟨by rw [Try.underlying30], iZ⟩ rfl ?_
      rw [HSR.out]
      exact ⟨none, 0, by rw [HZo.out]; rfl, Rd.nil _ _ _ _, below_setRow XB.out (by omega) _, fun _ => rfl⟩
    | true =>
      rw [hok] at HGD
      have HOK := Lib.hid (fun i hi => show GoodAt s i from okTo_at hok i hi)
      have hnok : ¬ (okTo s.f s.m s.j 4 = false) := by rw [hok]; decide
      cases st with
      | false =>
        have HSR := Lib.hid (show stepR s false bs = (s, [], 0) by unfold stepR; rw [if_neg (by omega), if_neg hnok, if_pos rfl])
        clear hok h4 hnok
        go_wp2_with (refine wpList_whole rfl 30 _ rfl w.heap.size rfl W1.out _ Try.underlying30 rfl iR ?_)
        refine (HGD.out _).mono ?_
        rintro e w2 ⟨rfl, hb⟩
        have X1 := Lib.hid (W1.out.below hb W1.out.lt)
        have X2 := Lib.hid (W2.out.below hb W2.out.lt)
        have X3 := Lib.hid (W3.out.below hb W3.out.lt)
        have XB := Lib.hid (onward WB.out (Nat.le_refl _) hb)
        have y1 := X2.out.cell 1
        simp only [List.getElem?_toArray, List.getElem?_cons_zero, List.getElem?_cons_succ] at y1
        have zR2 : (#[.bool false, .bool false, .bool false, .bool false, .int .i64 0, .int .i64 0, .int .i64 0, .int .i64 0, .int .i64 0, .int .i64 0, .int .i64 0, .int .i64 0] : Array Value).size = Ro.size := zR
        clear hb
        go_wp2_with (first
          | (refine wpList_whole rfl 30 _ rfl w.heap.size rfl X1.out _ Try.underlying30 rfl iR ?_)
          | (refine wpList_store_row rfl 30 _ _ rfl (w.heap.size + 1 + 1) Ro rfl rfl 30 _ X3.out iR zR2 oR ?_))
        refine ret_row3 (x := .slice none 0 0) (y := .int .i64 0) rfl rfl rfl rfl (X3.out.setRow Ro) ⟨by rw [Try.underlying30], iR⟩ rfl ?_
        rw [HSR.out]
        exact ⟨none, 0, by rw [HRo.out]; rfl, Rd.nil _ _ _ _, below_setRow XB.out (by omega) _, fun _ => rfl⟩
      | true =>
        have HSR := Lib.hid (show stepR s true bs = ((many s (fun i => bs.getD i false) 4).1, (many s (fun i => bs.getD i false) 4).2, 0) by unfold stepR; rw [if_neg (by omega), if_neg hnok, if_neg (by decide)])
        clear hok h4 hnok
        go_wp2_with (refine wpList_whole rfl 30 _ rfl w.heap.size rfl W1.out _ Try.underlying30 rfl iR ?_)
        refine (HGD.out _).mono ?_
        rintro e w2 ⟨rfl, hb⟩
        have X1 := Lib.hid (W1.out.below hb W1.out.lt)
        have X2 := Lib.hid (W2.out.below hb W2.out.lt)
        have X3 := Lib.hid (W3.out.below hb W3.out.lt)
        have XB := Lib.hid (onward WB.out (Nat.le_refl _) hb)
        have y1 := X2.out.cell 1
        have y2 := X2.out.cell 2
        simp only [List.getElem?_toArray, List.getElem?_cons_zero, List.getElem?_cons_succ] at y1 y2
        have zR2 : (#[.bool false, .bool false, .bool false, .bool false, .int .i64 0, .int .i64 0, .int .i64 0, .int .i64 0, .int .i64 0, .int .i64 0, .int .i64 0, .int .i64 0] : Array Value).size = Ro.size := zR
        clear hb W1 W2 W3 WB HGD
        rw [← HRo.out] at X1
        obtain ⟨ag, hag⟩ : ∃ ag : Nat → Bool, (fun i => bs.getD i false) = ag := ⟨_, rfl⟩
        have HAGG := Lib.hid hag
        clear hag
        have h4 := H4.out
        go_wp2_with fail
        go_loopw [7, 26] (fun l i wr => ∃ (k n : Nat) (A' : Option Addr) (c' : Nat), k ≤ 4 ∧ i = .int .i64 k ∧ l = .slice A' n c' ∧ n = (many s ag k).2.length ∧ Blk wr w.heap.size 30 (many s ag k).1.row ∧ Blk wr (w.heap.size + 1) 35 #[.int .i64 v, .bool true, .slice A bs.length c] ∧ Blk wr (w.heap.size + 1 + 1) 30 #[.bool false, .bool false, .bool false, .bool false, .int .i64 0, .int .i64 0, .int .i64 0, .int .i64 0, .int .i64 0, .int .i64 0, .int .i64 0, .int .i64 0] ∧ wr.ownsRow (w.heap.size + 1 + 1 + 1) 125 2 (.slice A' n c') n (changesV (many s ag k).2) ∧ Below w.heap.size w wr) (fun _ i _ => 4 - (intOf i).toNat)
        case atStart => exact ⟨0, 0, none, 0, by omega, rfl, rfl, rfl, X1.out, X2.out, X3.out, World.ownsRow_nil _ _ _ _, XB.out⟩
        case round =>
          clear X1 X2 X3 XB
          obtain ⟨k, n, A', c', hk, rfl, rfl, hn, r1, r2, r3, hlist, rb⟩ := hrel
          have hnl := many_len s ag k
          rw [← hn] at hnl
          have HN2 := Lib.hid hn.symm
          have R1 := Lib.hid r1
          have R2 := Lib.hid r2
          have R3 := Lib.hid r3
          have HL := Lib.hid hlist
          have RB := Lib.hid rb
          clear r1 r2 r3 hlist rb hn
          by_cases hlt : k < 4
          · obtain ⟨b0, o, u, rfl, hbB, hu, hcell⟩ := (HR.out.below (RB.out.mono hB)).at (show k < bs.length by omega)
            rw [boolsV_at bs k (by omega)] at hu
            have hu := (Option.some.inj hu).symm
            subst hu
            have HAG := Lib.hid (show ag k = bs[k]'(by omega) by rw [← HAGG.out]; simp [List.getD, show k < bs.length by omega])
            generalize bs[k]'_ = b at *
            have hk0 : (0 : Int) ≤ (k : Int) := by omega
            have hk1 : (k : Int) < (bs.length : Int) := by omega
            have hk4 : (k : Int) < 4 := by omega
            cases hf : (many s ag k).1.f k with
            | true =>
              have x0 : wr.cell? ⟨w.heap.size, k, none⟩ = some (.bool true) := by rw [R1.out.cell]; unfold RS.row; rw [row_at (by omega), rollF_in hlt, hf]
              go_wp2_with fail
              refine (stay_any (many s ag k).1 k hlt b hf (many_good s ag k k (Nat.le_refl _) (HOK.out k hlt)) w.heap.size wr R1.out).mono ?_
              rintro e w3 ⟨out, rfl, hone, hbk, hgr⟩
              have hag : ag k = b := HAG.out
              rw [← hag] at hone hbk
              have HL := Lib.hid (Ms.own_kept HL.out hgr (fun q e => by injection e with e; subst e; exact ⟨_, _, R1.out, by decide⟩))
              have R1 : Hid (Blk w3 w.heap.size 30 (many s ag (k + 1)).1.row) := Lib.hid hbk
              have R2 := Lib.hid (R2.out.grown hgr (by intro h; injection h; omega))
              have R3 := Lib.hid (R3.out.grown hgr (by intro h; injection h; omega))
              have RB := Lib.hid (RB.out.grown hgr RB.out.size (fun q e => by injection e with e; omega))
              cases out with
              | false =>
                have HONE := Lib.hid (show (one (many s ag k).1 k (ag k)).2 = [] from hone)
                clear hone hbk hgr hag
                go_wp2_with fail
                refine ⟨⟨k + 1, n, A', c', by omega, by go_num, rfl, ?_, R1.out, R2.out, R3.out, ?_, RB.out⟩, by simp [intOf]; omega⟩
                · rw [many_succ, HONE.out, List.append_nil, HN2.out]
                · rw [many_succ, HONE.out, List.append_nil]; exact HL.out
              | true =>
                have HONE := Lib.hid (show (one (many s ag k).1 k (ag k)).2 = [(1, (k : Int))] from hone)
                clear hone hbk hgr hag
                have HN : Hid (Rd (w3.alloc (.cells #[.int .i64 1, .int .i64 (k : Int)] 125)) (w3.heap.size + 1) 2 (some ⟨w3.heap.size, 0, none⟩) 1 [.int .i64 1, .int .i64 (k : Int)]) := Lib.hid (rd_two _ _ _ _)
                have hb3 : Below w3.heap.size w3 (w3.alloc (.cells #[.int .i64 1, .int .i64 (k : Int)] 125)) := (Below.refl _ _).alloc (Nat.le_refl _) _
                have HQ := Lib.hid (ownsRow_below HL.out hb3)
                have Q1 := Lib.hid (R1.out.below hb3 R1.out.lt)
                have Q2 := Lib.hid (R2.out.below hb3 R2.out.lt)
                have Q3 := Lib.hid (R3.out.below hb3 R3.out.lt)
                have QB := Lib.hid (onward RB.out (Nat.le_refl _) hb3)
                have HBS := Lib.hid (show w.heap.size + 1 + 1 + 1 ≤ (w3.alloc (.cells #[.int .i64 1, .int .i64 (k : Int)] 125)).heap.size from Q3.out.lt)
                clear hb3
                go_wp2_with (at_builtin; refine wpList_append_rd _ rfl (.tmp 39) (.tmp 42) 84 rfl (base := w.heap.size + 1 + 1 + 1) elemCh rfl HQ.out rfl (fun h => by cases h) HN.out (by simp [Value.oneCell']) (by unfold maxLen; omega) (by omega) HBS.out ?_; intro A4 c4 w4 hA4 hown hgr; have HO4 := Lib.hid hown; have HG4 := Lib.hid hgr; clear hown hgr hA4)
                have hnb : ∀ g, g < w.heap.size + 1 + 1 + 1 → some g ≠ (Value.slice A' n c').ownBlock := fun g hg e => by have := (HQ.out.lt g e.symm).1; omega
                refine ⟨⟨k + 1, n + 1, A4, c4, by omega, by go_num, rfl, ?_, Q1.out.grown HG4.out (hnb _ (by omega)), Q2.out.grown HG4.out (hnb _ (by omega)), Q3.out.grown HG4.out (hnb _ (by omega)), ?_, QB.out.grown HG4.out QB.out.size (fun g e => by have := (HQ.out.lt g e).1; omega)⟩, by simp [intOf]; omega⟩
                · rw [many_succ, HONE.out, List.length_append, HN2.out]; rfl
                · rw [many_succ, HONE.out, changesV_snoc]; exact HO4.out
            | false =>
              have x0 : wr.cell? ⟨w.heap.size, k, none⟩ = some (.bool false) := by rw [R1.out.cell]; unfold RS.row; rw [row_at (by omega), rollF_in hlt, hf]
              go_wp2_with fail
              refine (wait_any (many s ag k).1 k hlt b hf (many_good s ag k k (Nat.le_refl _) (HOK.out k hlt)) w.heap.size wr R1.out).mono ?_
              rintro e w3 ⟨out, rfl, hone, hbk, hgr⟩
              have hag : ag k = b := HAG.out
              rw [← hag] at hone hbk
              have HL := Lib.hid (Ms.own_kept HL.out hgr (fun q e => by injection e with e; subst e; exact ⟨_, _, R1.out, by decide⟩))
              have R1 : Hid (Blk w3 w.heap.size 30 (many s ag (k + 1)).1.row) := Lib.hid hbk
              have R2 := Lib.hid (R2.out.grown hgr (by intro h; injection h; omega))
              have R3 := Lib.hid (R3.out.grown hgr (by intro h; injection h; omega))
              have RB := Lib.hid (RB.out.grown hgr RB.out.size (fun q e => by injection e with e; omega))
              cases out with
              | false =>
                have HONE := Lib.hid (show (one (many s ag k).1 k (ag k)).2 = [] from hone)
                clear hone hbk hgr hag
                go_wp2_with fail
                refine ⟨⟨k + 1, n, A', c', by omega, by go_num, rfl, ?_, R1.out, R2.out, R3.out, ?_, RB.out⟩, by simp [intOf]; omega⟩
                · rw [many_succ, HONE.out, List.append_nil, HN2.out]
                · rw [many_succ, HONE.out, List.append_nil]; exact HL.out
              | true =>
                have HONE := Lib.hid (show (one (many s ag k).1 k (ag k)).2 = [(2, (k : Int))] from hone)
                clear hone hbk hgr hag
                have HN : Hid (Rd (w3.alloc (.cells #[.int .i64 2, .int .i64 (k : Int)] 125)) (w3.heap.size + 1) 2 (some ⟨w3.heap.size, 0, none⟩) 1 [.int .i64 2, .int .i64 (k : Int)]) := Lib.hid (rd_two _ _ _ _)
                have hb3 : Below w3.heap.size w3 (w3.alloc (.cells #[.int .i64 2, .int .i64 (k : Int)] 125)) := (Below.refl _ _).alloc (Nat.le_refl _) _
                have HQ := Lib.hid (ownsRow_below HL.out hb3)
                have Q1 := Lib.hid (R1.out.below hb3 R1.out.lt)
                have Q2 := Lib.hid (R2.out.below hb3 R2.out.lt)
                have Q3 := Lib.hid (R3.out.below hb3 R3.out.lt)
                have QB := Lib.hid (onward RB.out (Nat.le_refl _) hb3)
                have HBS := Lib.hid (show w.heap.size + 1 + 1 + 1 ≤ (w3.alloc (.cells #[.int .i64 2, .int .i64 (k : Int)] 125)).heap.size from Q3.out.lt)
                clear hb3
                go_wp2_with (at_builtin; refine wpList_append_rd _ rfl (.tmp 48) (.tmp 51) 84 rfl (base := w.heap.size + 1 + 1 + 1) elemCh rfl HQ.out rfl (fun h => by cases h) HN.out (by simp [Value.oneCell']) (by unfold maxLen; omega) (by omega) HBS.out ?_; intro A4 c4 w4 hA4 hown hgr; have HO4 := Lib.hid hown; have HG4 := Lib.hid hgr; clear hown hgr hA4)
                have hnb : ∀ g, g < w.heap.size + 1 + 1 + 1 → some g ≠ (Value.slice A' n c').ownBlock := fun g hg e => by have := (HQ.out.lt g e.symm).1; omega
                refine ⟨⟨k + 1, n + 1, A4, c4, by omega, by go_num, rfl, ?_, Q1.out.grown HG4.out (hnb _ (by omega)), Q2.out.grown HG4.out (hnb _ (by omega)), Q3.out.grown HG4.out (hnb _ (by omega)), ?_, QB.out.grown HG4.out QB.out.size (fun g e => by have := (HQ.out.lt g e).1; omega)⟩, by simp [intOf]; omega⟩
                · rw [many_succ, HONE.out, List.length_append, HN2.out]; rfl
                · rw [many_succ, HONE.out, changesV_snoc]; exact HO4.out
          · obtain rfl : k = 4 := by omega
            clear hlt
            obtain ⟨R4, hR4⟩ : ∃ R4, (many s ag 4).1.row = R4 := ⟨_, rfl⟩
            have i4 : (Try.prog.info? 30).map (·.size) = some R4.size := by rw [← hR4]; exact IS.out _
            have z4 : (#[.bool false, .bool false, .bool false, .bool false, .int .i64 0, .int .i64 0, .int .i64 0, .int .i64 0, .int .i64 0, .int .i64 0, .int .i64 0, .int .i64 0] : Array Value).size = R4.size := by rw [← hR4]; exact ZS.out _
            have o4 : R4.all (·.oneCell') = true := by rw [← hR4]; exact row_roll_one _
            rw [hR4] at R1
            have HR4 := Lib.hid hR4
            clear hR4
            go_wp2_with (first
              | (refine wpList_whole rfl 30 _ rfl w.heap.size rfl R1.out _ Try.underlying30 rfl i4 ?_)
              | (refine wpList_store_row rfl 30 _ _ rfl (w.heap.size + 1 + 1) R4 rfl rfl 30 _ R3.out i4 z4 o4 ?_))
            refine ret_row3 (x := .slice A' n c') (y := .int .i64 0) rfl rfl rfl rfl (R3.out.setRow R4) ⟨by rw [Try.underlying30], i4⟩ rfl ?_
            rw [HSR.out, HAGG.out]
            have hfin := own_setRow HL.out (show w.heap.size + 1 + 1 < w.heap.size + 1 + 1 + 1 by omega) R4
            refine ⟨A', c', ?_, ?_, below_setRow RB.out (by omega) _, (own_cap hfin).1⟩
            · dsimp only; rw [HR4.out, HN2.out]
            · dsimp only; rw [HN2.out]; exact Rd.of_own hfin
  · have e4 : ((bs.length : Int) != 4) = true := by simp [bne]; omega
    have HSR := Lib.hid (show stepR s st bs = (zeroRS, [], 8) by unfold stepR; rw [if_pos h4])
    clear h4
    go_wp2_with (refine wpList_store_row rfl 30 _ _ rfl (w.heap.size + 1 + 1) #[.bool false, .bool false, .bool false, .bool false, .int .i64 0, .int .i64 0, .int .i64 0, .int .i64 0, .int .i64 0, .int .i64 0, .int .i64 0, .int .i64 0] rfl rfl 30 _ W3.out iZ rfl oZ ?_)
    refine ret_row3 (x := .slice none 0 0) (y := .int .i64 8) rfl rfl rfl rfl (W3.out.setRow #[.bool false, .bool false, .bool false, .bool false, .int .i64 0, .int .i64 0, .int .i64 0, .int .i64 0, .int .i64 0, .int .i64 0, .int .i64 0, .int .i64 0]) ⟨by rw [Try.underlying30], iZ⟩ rfl ?_
    rw [HSR.out]
    exact ⟨none, 0, by rw [HZo.out]; rfl, Rd.nil _ _ _ _, below_setRow WB.out (by omega) _, fun _ => rfl⟩
end Go.Proofs.Ytjfllpmiajkenaa.Nd
