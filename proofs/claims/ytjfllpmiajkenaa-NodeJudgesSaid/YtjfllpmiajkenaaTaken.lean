/- Contract: the reference's taken: what a node takes for said. -/
import Derived.Test.YtjfllpmiajkenaaToldN
import Derived.Test.YtjfllpmiajkenaaMaj
namespace Go.Proofs.Ytjfllpmiajkenaa.Nd
open Go.RowKit Go.Proofs.Ytjfllpmiajkenaa.Mem Go.Proofs.Ytjfllpmiajkenaa.Rws Go.Proofs.Ytjfllpmiajkenaa.Flat Go.Proofs.Ytjfllpmiajkenaa.Av
set_option linter.unusedVariables false
set_option linter.unusedSimpArgs false

/-- what a node takes for said -/
def takenZ (id ab : Nat) (hd : Int) (k : Nat) (o : Nat → Option Ms.Msg) : Int := if ab = id then hd else MajLaw.maj (hd :: toldL id ab k o 4) 0

set_option maxRecDepth 100000 in
set_option maxHeartbeats 2000000 in
theorem taken_any (R : Array Value) (hi : (Try.prog.info? 37).map (·.size) = some R.size) (id : Nat) (hid : id < 4) (fr : Int) (h0 : R[0]? = some (.int .i64 (id : Int))) (h1 : R[1]? = some (.int .i64 fr)) (ab : Nat) (hab : ab < 4) (hd : Int) (kk many : Nat) (hkm : kk < many) (hmm : many ≤ 100) (A : Option Addr) (c : Nat) (ms : List Ms.Msg) (B : Nat) (w : World) (hB : B ≤ w.heap.size) (hl : ms.length ≤ 140737488355328) (hr : Ms.MsgsAt w B A ms) :
    Calls Try.prog 51 #[.agg R, .slice A ms.length c, .int .i64 (ab : Int), .int .i64 hd, .int .i64 (kk : Int), .int .i64 (many : Int)] w fun e w' =>
      e = .returned (.int .i64 (takenZ id ab hd kk (fun i => Ms.firstOf (id : Int) fr 2 many (i : Int) ms))) ∧ Below w.heap.size w w' := by
  obtain ⟨o, ho⟩ : ∃ o, (fun i : Nat => Ms.firstOf (id : Int) fr 2 many (i : Int) ms) = o := ⟨_, rfl⟩
  have HO := Lib.hid (fun i : Nat => show Ms.firstOf (id : Int) fr 2 many (i : Int) ms = o i from congrFun ho i)
  have HLN := Lib.hid (fun (i : Nat) m (h : o i = some m) => show m.zs.length = many from fit_len (by rw [HO.out]; exact h))
  rw [ho]
  clear ho
  have HMS := Lib.hid hr
  have H0 := Lib.hid h0
  have H1 := Lib.hid h1
  have HI := Lib.hid hi
  clear hr h0 h1 hi
  go_enter Try.func51, Try.ntmps51
  go_upto_region 1 with fail
  have HN := Lib.hid (show Blk (w.alloc (.cells R 37)) w.heap.size 37 R from Blk.fresh _ _ _)
  have HB := Lib.hid ((Below.refl w.heap.size w).alloc (Nat.le_refl _) (.cells R 37))
  generalize (w.alloc (.cells R 37)) = w1 at *
  obtain ⟨gn, hgn⟩ : ∃ g, w.heap.size = g := ⟨_, rfl⟩
  have HGN := Lib.hid hgn
  rw [hgn] at HN hB ⊢
  have HB := Lib.hid (show Below gn w w1 from by have h := HB.out; rw [HGN.out] at h; exact h)
  have x0 := (HN.out.cell 0).trans H0.out
  clear hgn
  by_cases e0 : ab = id
  · have e0' : ((ab : Int) == (id : Int)) = true := by subst e0; simp
    have HT := Lib.hid (show takenZ id ab hd kk o = hd from if_pos e0)
    clear e0
    go_wp2_with fail
    go_ret
    exact ⟨ret_int HT.out.symm, by rw [HGN.out]; exact HB.out⟩
  · have e0' : ((ab : Int) == (id : Int)) = false := by simpa using (show ¬ (ab : Int) = (id : Int) by omega)
    have HTK := Lib.hid (show takenZ id ab hd kk o = MajLaw.maj (hd :: toldL id ab kk o 4) 0 from if_neg e0)
    have hne := e0
    have hc0 := HN.out.lt
    clear e0
    go_upto_region 4 with fail
    have HL := Lib.hid (show (w1.alloc (.cells #[.int .i64 hd] 3)).ownsRow (gn + 1) 3 1 (.slice (some ⟨w1.heap.size, 0, none⟩) 1 1) 1 (Mj.intsV [hd]) from World.ownsRow_lit (base := gn + 1) (size := 1) (e := 3) w1 #[.int .i64 hd] 1 (by omega) (by unfold maxLen; omega) (by simp))
    have HN := Lib.hid (HN.out.alloc (.cells #[.int .i64 hd] 3))
    have HB := Lib.hid (HB.out.alloc (by omega) (.cells #[.int .i64 hd] 3))
    clear x0
    generalize (w1.alloc (.cells #[.int .i64 hd] 3)) = w2 at *
    generalize w1.heap.size = gx at *
    go_wp2_with fail
    go_loopw [13, 14] (fun lv iv wr => ∃ (p : Nat) (A7 : Option Addr) (c7 : Nat), p ≤ 4 ∧ lv = .slice A7 ((toldL id ab kk o p).length + 1) c7 ∧ iv = .int .i64 p ∧ wr.ownsRow (gn + 1) 3 1 (.slice A7 ((toldL id ab kk o p).length + 1) c7) ((toldL id ab kk o p).length + 1) (Mj.intsV (hd :: toldL id ab kk o p)) ∧ Blk wr gn 37 R ∧ Below gn w wr) (fun _ i _ => 4 - (intOf i).toNat)
    case atStart => exact ⟨0, some ⟨gx, 0, none⟩, 1, by omega, rfl, rfl, HL.out, HN.out, HB.out⟩
    case round =>
      clear HN HB HL
      obtain ⟨p, A7, c7, hp4, rfl, rfl, hll, hn, hb⟩ := hrel
      have HL := Lib.hid hll
      have HN := Lib.hid hn
      have HB := Lib.hid hb
      have y0 := (HN.out.cell 0).trans H0.out
      clear hn hb hll
      have hgr := HN.out.lt
      by_cases hlp : p < 4
      · have hlp1 : (p : Int) < 4 := by omega
        by_cases hps : p = id
        · have m1 : ((p : Int) == (id : Int)) = true := by simp [hps]
          have HT := Lib.hid (show toldL id ab kk o (p + 1) = toldL id ab kk o p from by rw [toldL_succ, if_neg (fun h => h.1 hps), List.append_nil])
          clear hps
          go_wp2_with fail
          exact ⟨⟨p + 1, A7, c7, by omega, by rw [HT.out], by go_num, by rw [HT.out]; exact HL.out, HN.out, HB.out⟩, by simp [intOf]; omega⟩
        · have m1 : ((p : Int) == (id : Int)) = false := by simp; omega
          by_cases hpq : p = ab
          · have m2 : ((p : Int) == (ab : Int)) = true := by simp [hpq]
            have HT := Lib.hid (show toldL id ab kk o (p + 1) = toldL id ab kk o p from by rw [toldL_succ, if_neg (fun h => h.2 hpq), List.append_nil])
            clear hps hpq
            go_wp2_with fail
            exact ⟨⟨p + 1, A7, c7, by omega, by rw [HT.out], by go_num, by rw [HT.out]; exact HL.out, HN.out, HB.out⟩, by simp [intOf]; omega⟩
          · have m2 : ((p : Int) == (ab : Int)) = false := by simp; omega
            have HT := Lib.hid (show toldL id ab kk o (p + 1) = toldL id ab kk o p ++ [numAt kk (o p)] by rw [toldL_succ, if_pos ⟨hps, hpq⟩])
            have hlen := toldL_le id ab kk o p
            clear hps hpq
            generalize toldL id ab kk o p = tl at *
            obtain ⟨q, hq⟩ : ∃ q, tl.length = q := ⟨_, rfl⟩
            rw [hq] at HL hlen ⊢
            have HLQ := Lib.hid hq
            clear hq
            have hi := HI.out
            go_wp2_with (refine wpList_whole rfl 37 _ rfl gn rfl HN.out _ Try.underlying37 rfl hi ?_)
            refine (Ms.first_any R (id : Int) fr H0.out H1.out A c ms (p : Int) 2 many B wr (by omega) hl (HMS.out.below (HB.out.mono hB))).mono ?_
            rintro e wf ⟨hf, hb⟩
            rw [HO.out p] at hf
            have HL := Lib.hid (ownsRow_below HL.out hb)
            have HN := Lib.hid (HN.out.below hb HN.out.lt)
            have HB := Lib.hid (onward HB.out (by have := HB.out.size; have := HGN.out; omega) hb)
            clear hb y0 hgr
            cases hor : o p with
            | none =>
              rw [hor] at hf HT
              obtain rfl : e = .returned (.tuple #[.slice none 0 0, .bool false]) := hf
              clear hor
              have HNZ := Lib.hid (show numAt kk none = 0 from rfl)
              have HSG := Lib.hid (Vt.rd_one wf (.int .i64 0) 3)
              have HOW := Lib.hid (ownsRow_below HL.out ((Below.refl wf.heap.size wf).alloc (Nat.le_refl _) (.cells #[.int .i64 0] 3)))
              have HBX := Lib.hid (HB.out.alloc (by have := HB.out.size; have := HGN.out; omega) (.cells #[.int .i64 0] 3))
              have HNX := Lib.hid (HN.out.alloc (.cells #[.int .i64 0] 3))
              have hgr := HNX.out.lt
              have hgf := HN.out.lt
              go_wp2_with (at_builtin; go_loud (refine wpList_append_rd _ rfl (.tmp 53) (.tmp 54) 39 rfl (base := gn + 1) Ms.elemInts rfl HOW.out rfl (fun h => by cases h) HSG.out (by simp [Value.oneCell']) (by unfold maxLen; omega) (by omega) (by simp; omega) ?_); intro A9 c9 w5 hA9 hown2 hg2; have HO5 := Lib.hid hown2; have HN5 := Lib.hid (HNX.out.grown hg2 (fun e => by have := (HOW.out.lt _ e.symm).1; omega)); have HB5 := Lib.hid (HBX.out.grown hg2 (by omega) (fun g e => by have := (HOW.out.lt g e).1; omega)); clear hA9 hown2 hg2)
              refine ⟨⟨p + 1, A9, c9, by omega, ?_, by go_num, ?_, HN5.out, HB5.out⟩, by simp [intOf]; omega⟩
              · rw [HT.out, List.length_append, HLQ.out]; rfl
              · rw [HT.out, List.length_append, HLQ.out, HNZ.out, show Mj.intsV (hd :: (tl ++ [0])) = Mj.intsV (hd :: tl) ++ [.int .i64 0] by simp [Mj.intsV]]
                exact HO5.out
            | some m =>
              have hlz := HLN.out p m hor
              rw [hor] at hf HT
              obtain ⟨a, ca, rfl, hac, hlc, hrd⟩ := hf
              have hkm2 : kk < m.zs.length := by omega
              obtain ⟨b, of, u, e3, hbB, hu, hcell⟩ := hrd.at hkm2
              subst e3
              obtain ⟨rfl, hz⟩ : u = .int .i64 (m.zs.getD kk 0) ∧ True := by
                have : (Ms.intsV m.zs)[kk]? = some (.int .i64 (m.zs.getD kk 0)) := by
                  unfold Ms.intsV
                  rw [List.getElem?_map, List.getD_eq_getElem?_getD, List.getElem?_eq_getElem hkm2]
                  rfl
                rw [this] at hu
                exact ⟨(Option.some.inj hu).symm, trivial⟩
              obtain ⟨z, hz⟩ : ∃ z, m.zs.getD kk 0 = z := ⟨_, rfl⟩
              have HNZ := Lib.hid (show numAt kk (some m) = z from hz)
              rw [hz] at hcell
              have hkz0 : (0 : Int) ≤ (kk : Int) := by omega
              have hkz1 : (kk : Int) < (m.zs.length : Int) := by omega
              clear hor hu hz hac
              have HSG := Lib.hid (Vt.rd_one wf (.int .i64 z) 3)
              have HOW := Lib.hid (ownsRow_below HL.out ((Below.refl wf.heap.size wf).alloc (Nat.le_refl _) (.cells #[.int .i64 z] 3)))
              have HBX := Lib.hid (HB.out.alloc (by have := HB.out.size; have := HGN.out; omega) (.cells #[.int .i64 z] 3))
              have HNX := Lib.hid (HN.out.alloc (.cells #[.int .i64 z] 3))
              have hgr := HNX.out.lt
              have hgf := HN.out.lt
              go_wp2_with (at_builtin; go_loud (refine wpList_append_rd _ rfl (.tmp 46) (.tmp 51) 39 rfl (base := gn + 1) Ms.elemInts rfl HOW.out rfl (fun h => by cases h) HSG.out (by simp [Value.oneCell']) (by unfold maxLen; omega) (by omega) (by simp; omega) ?_); intro A9 c9 w5 hA9 hown2 hg2; have HO5 := Lib.hid hown2; have HN5 := Lib.hid (HNX.out.grown hg2 (fun e => by have := (HOW.out.lt _ e.symm).1; omega)); have HB5 := Lib.hid (HBX.out.grown hg2 (by omega) (fun g e => by have := (HOW.out.lt g e).1; omega)); clear hA9 hown2 hg2)
              refine ⟨⟨p + 1, A9, c9, by omega, ?_, by go_num, ?_, HN5.out, HB5.out⟩, by simp [intOf]; omega⟩
              · rw [HT.out, List.length_append, HLQ.out]; rfl
              · rw [HT.out, List.length_append, HLQ.out, HNZ.out, show Mj.intsV (hd :: (tl ++ [z])) = Mj.intsV (hd :: tl) ++ [.int .i64 z] by simp [Mj.intsV]]
                exact HO5.out
      · obtain rfl : p = 4 := by omega
        clear hlp
        rw [show ((4 : Nat) : Int) = 4 from rfl]
        have HLen := Lib.hid (toldL_two kk o hid hab hne)
        obtain ⟨tl, htl⟩ : ∃ tl, toldL id ab kk o 4 = tl := ⟨_, rfl⟩
        rw [htl] at HTK HLen HL ⊢
        clear htl
        rw [HLen.out] at HL ⊢
        go_wp2_with fail
        have cM := Mj.majorityref_any A7 c7 (hd :: tl) 0 wr.heap.size wr (by rw [List.length_cons, HLen.out]; omega) (by rw [List.length_cons, HLen.out]; exact Rd.of_own HL.out)
        rw [show (hd :: tl).length = 3 by rw [List.length_cons, HLen.out]] at cM
        refine cM.mono ?_
        rintro e w9 ⟨rfl, rfl⟩
        go_wp2_with fail
        go_ret
        refine ⟨ret_int ?_, by rw [HGN.out]; exact HB.out⟩
        rw [HTK.out]
end Go.Proofs.Ytjfllpmiajkenaa.Nd
