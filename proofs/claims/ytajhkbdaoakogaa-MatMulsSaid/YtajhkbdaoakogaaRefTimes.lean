/- Contract: the reference's Times. -/
import Derived.Test.YtajhkbdaoakogaaTimesR
namespace Go.Proofs.Ytajhkbdaoakogaa.BigW
open Go.RowKit Go.Proofs.Ytajhkbdaoakogaa.Mem Go.Proofs.Ytajhkbdaoakogaa.BigLaw Go.Proofs.Ytajhkbdaoakogaa.Rws Go.Proofs.Ytajhkbdaoakogaa.Ints Go.Proofs.Ytajhkbdaoakogaa.Mats
set_option linter.unusedVariables false
set_option linter.unusedSimpArgs false

def slen : Value → Nat
  | .slice _ n _ => n
  | _ => 0

set_option maxRecDepth 100000 in
set_option maxHeartbeats 1000000 in
theorem refTimes_yes (N : Nat) (A A' : Option Addr) (c c' : Nat) (zs vs : List Int) (w : World) (hN : 1 ≤ N) (h6 : N ≤ 6) (hl : zs.length = N * N) (hv : vs.length = N) (hr : Rd w w.heap.size 1 A zs.length (intsV zs)) (hr' : Rd w w.heap.size 1 A' vs.length (intsV vs)) (hz : ∀ k, In64 (zs.getD k 0)) (hzv : ∀ k, In64 (vs.getD k 0)) :
    Calls Try.prog 36 #[matV (N : Int) A zs.length c, .slice A' vs.length c'] w fun e w' => GaveInts w w' (timesF N zs vs N).1 (timesF N zs vs N).2 0 e := by
  have HR' := Lib.hid hr'
  rw [hv]
  have HVL := Lib.hid hv
  have HR := Lib.hid hr
  have HZ := Lib.hid hz
  have HZV := Lib.hid hzv
  have HL := Lib.hid hl
  have HN := Lib.hid hN
  have HGD := Lib.hid (show good (N : Int) zs.length = true from by
    unfold good
    rw [decide_eq_true (show (1 : Int) ≤ N by omega), decide_eq_true (show (N : Int) ≤ 6 by omega), decide_eq_true (by rw [hl]; push_cast; rfl)]
    rfl)
  clear hr hr' hz hzv hl hv
  have hmf : ∀ (fn : Fn) (first cap : Array Value) (w : World), (Instr.makeFunc fn first cap).run Try.prog w = .ok (.func fn first cap) w := fun _ _ _ _ => rfl
  unfold matV
  have HM := Lib.hid (show Blk ((w.alloc (.cells #[.int .i64 (N : Int), .slice A zs.length c] 49)).alloc (.cells #[.slice A' N c'] 32)) w.heap.size 49 #[.int .i64 (N : Int), .slice A zs.length c] from (Blk.new rfl).alloc _)
  have HS := Lib.hid (show Blk ((w.alloc (.cells #[.int .i64 (N : Int), .slice A zs.length c] 49)).alloc (.cells #[.slice A' N c'] 32)) (w.heap.size + 1) 32 #[.slice A' N c'] from Blk.new (by simp))
  have HB := Lib.hid (show Below w.heap.size w ((w.alloc (.cells #[.int .i64 (N : Int), .slice A zs.length c] 49)).alloc (.cells #[.slice A' N c'] 32)) from ((Below.refl _ _).alloc (Nat.le_refl _) _).alloc (by simp) _)
  go_enter Try.func36, Try.ntmps36
  go_upto_region 1 with fail
  generalize ((w.alloc (.cells #[.int .i64 (N : Int), .slice A zs.length c] 49)).alloc (.cells #[.slice A' N c'] 32)) = w1 at *
  obtain ⟨gv, hgv⟩ : ∃ g, w.heap.size + 1 = g := ⟨_, rfl⟩
  rw [hgv] at HS ⊢
  go_wp2_with (refine wpList_whole rfl 49 _ rfl w.heap.size rfl HM.out _ Try.underlying49 rfl (by kernel_rfl) ?_)
  refine (goodref_any (N : Int) A zs.length c w1).mono ?_
  rintro e w2 ⟨rfl, hb⟩
  rw [HGD.out]
  have HM := Lib.hid (HM.out.below hb HM.out.lt)
  have HS := Lib.hid (HS.out.below hb HS.out.lt)
  have HB := Lib.hid (onward HB.out (Nat.le_refl _) hb)
  have k0 : w2.cell? ⟨w.heap.size, 0, none⟩ = some (.int .i64 (N : Int)) := (HM.out.cell 0).trans rfl
  have k1 : w2.cell? ⟨gv, 0, none⟩ = some (.slice A' N c') := (HS.out.cell 0).trans rfl
  clear hb
  go_upto_region 3 with fail
  clear k0 k1
  go_wp2_with fail
  clear hmf
  have hm2 : w.heap.size < w2.heap.size := HM.out.lt
  have hv2 : gv < w2.heap.size := HS.out.lt
  have HK := Lib.hid (show Bent ((w2.alloc (.cells #[.bool false] 70)).alloc (.cells #[.int .i64 0] 3)) 70 w2.heap.size false from Blk.alloc (Blk.new rfl) _)
  have HI := Lib.hid (show Blk ((w2.alloc (.cells #[.bool false] 70)).alloc (.cells #[.int .i64 0] 3)) (w2.heap.size + 1) 3 #[.int .i64 0] from Blk.new (by simp))
  have HM := Lib.hid (show Blk ((w2.alloc (.cells #[.bool false] 70)).alloc (.cells #[.int .i64 0] 3)) w.heap.size 49 #[.int .i64 (N : Int), .slice A zs.length c] from (HM.out.alloc _).alloc _)
  have HS := Lib.hid (show Blk ((w2.alloc (.cells #[.bool false] 70)).alloc (.cells #[.int .i64 0] 3)) gv 32 #[.slice A' N c'] from (HS.out.alloc _).alloc _)
  have HB := Lib.hid (show Below w.heap.size w ((w2.alloc (.cells #[.bool false] 70)).alloc (.cells #[.int .i64 0] 3)) from (HB.out.alloc HB.out.size _).alloc (by simp; omega) _)
  generalize ((w2.alloc (.cells #[.bool false] 70)).alloc (.cells #[.int .i64 0] 3)) = w3 at *
  obtain ⟨gi0, hgi⟩ : ∃ g, w2.heap.size + 1 = g := ⟨_, rfl⟩
  rw [hgi] at HI ⊢
  obtain ⟨gr, hgr⟩ : ∃ g, w2.heap.size = g := ⟨_, rfl⟩
  rw [hgr] at HK hm2 hv2 hgi ⊢
  clear hgr
  go_loopw [8, 9] (fun out pi wr => ∃ (I : Nat) (A8 : Option Addr) (c8 gi : Nat), I ≤ N ∧ pi = .pointer (some ⟨gi, 0, none⟩) ∧ out = .slice A8 I c8 ∧ wr.ownsRow (gr + 1) 3 1 (.slice A8 I c8) I (intsV (timesF N zs vs I).1) ∧ Blk wr gi 3 #[.int .i64 (I : Int)] ∧ gr < gi ∧ (Value.slice A8 I c8).ownBlock ≠ some gi ∧ Bent wr 70 gr (timesF N zs vs I).2 ∧ Blk wr w.heap.size 49 #[.int .i64 (N : Int), .slice A zs.length c] ∧ Blk wr gv 32 #[.slice A' N c'] ∧ Below w.heap.size w wr) (fun out _ _ => N - slen out)
  case atStart => exact ⟨0, none, 0, gi0, by omega, rfl, rfl, World.ownsRow_nil _ _ _ _, HI.out, by omega, by simp [Value.ownBlock], HK.out, HM.out, HS.out, HB.out⟩
  case round =>
    clear HK HI HM HS HB hgi
    obtain ⟨I, A8, c8, gi, hI, rfl, rfl, ho, hi, hgi, hne, hk, hm, hs, hb⟩ := hrel
    have HO := Lib.hid ho
    have HI := Lib.hid hi
    have HNE := Lib.hid hne
    have HK := Lib.hid hk
    have HM := Lib.hid hm
    have HS := Lib.hid hs
    have HB := Lib.hid hb
    have kI : wr.cell? ⟨gi, 0, none⟩ = some (.int .i64 (I : Int)) := (hi.cell 0).trans rfl
    have kN : wr.cell? ⟨w.heap.size, 0, none⟩ = some (.int .i64 (N : Int)) := (hm.cell 0).trans rfl
    clear ho hi hne hk hm hs hb
    have HTL := Lib.hid (timesF_length N zs vs I)
    have hmf : ∀ (fn : Fn) (first cap : Array Value) (w : World), (Instr.makeFunc fn first cap).run Try.prog w = .ok (.func fn first cap) w := fun _ _ _ _ => rfl
    by_cases hlt : I < N
    · have HTS := Lib.hid (show timesF N zs vs (I + 1) = ((timesF N zs vs I).1 ++ [(chainF (fun k => zs.getD (I * N + k) 0) (fun k => vs.getD k 0) N).1], (timesF N zs vs I).2 || (chainF (fun k => zs.getD (I * N + k) 0) (fun k => vs.getD k 0) N).2) from rfl)
      generalize timesF N zs vs I = tt at *
      obtain ⟨tl, tb⟩ := tt
      simp only at HO HK HTS HTL
      have hlt1 : (I : Int) < (N : Int) := by omega
      go_wp2_with fail
      refine (chainT_any N I A A' c c' zs vs gr w.heap.size gv gi w.heap.size tb wr h6 hlt HL.out HVL.out HM.out HI.out (by rw [HVL.out]; exact HS.out) HK.out (HR.out.below HB.out) (HR'.out.below HB.out) HB.out.size (by omega) (by omega) (by omega) (by omega) HZ.out HZV.out).mono ?_
      generalize chainF (fun k => zs.getD (I * N + k) 0) (fun k => vs.getD k 0) N = ch at *
      obtain ⟨s, cb⟩ := ch
      rintro e w4 ⟨rfl, hst, hg⟩
      simp only at hst HTS ⊢
      clear kI kN hmf
      have HK := Lib.hid hst
      have HM := Lib.hid (HM.out.grown hg (neq_of (by omega)))
      have HS := Lib.hid (HS.out.grown hg (neq_of (by omega)))
      have HI := Lib.hid (HI.out.grown hg (neq_of (by omega)))
      have HO := Lib.hid (own_keep HO.out hg (by omega))
      have HB := Lib.hid (below_grown HB.out (Nat.le_refl _) hg (fun g e => by injection e with e; omega))
      clear hst hg
      have HRS := Lib.hid (rd_single w4 (.int .i64 s) 3)
      have hgs : gr < w4.heap.size := Blk.lt HK.out
      have hsz2 : I + 1 ≤ 7 := by omega
      go_wp2_with (at_builtin; go_loud (refine wpList_append_rd _ rfl (.tmp 28) (.tmp 35) 32 rfl Go.Proofs.Ytajhkbdaoakogaa.Ints.elemInts rfl (HO.out.alloc _) rfl (by simp) HRS.out (by simp [Value.oneCell']) (by unfold maxLen; omega) (by omega) (by simp; omega) ?_); intro A2 c2 w5 hA2 hown2 hg2; have HO2 := Lib.hid hown2; have HG2 := Lib.hid hg2; clear hA2 hown2 hg2; have HI5 := Lib.hid ((HI.out.alloc _).grown HG2.out (fun e => HNE.out e.symm)); have kI : w5.cell? ⟨gi, 0, none⟩ = some (.int .i64 (I : Int)) := (HI5.out.cell 0).trans rfl)
      rw [intsV_snoc] at HO2
      have hlt5 : ∀ g, (Value.slice A2 (I + 1) c2).ownBlock = some g → g < w5.heap.size := fun g e => (HO2.out.lt g e).2
      have HB5 := Lib.hid (below_grown (HB.out.alloc HB.out.size _) (by have := HB.out.size; simp) HG2.out (fun g e => by have := (HO.out.lt g e).1; have := HB.out.size; omega))
      refine ⟨⟨I + 1, A2, c2, w5.heap.size, by omega, rfl, rfl, ?_, ?_, ?_, ?_, ?_, ?_, ?_, ?_⟩, by simp [slen]; omega⟩
      · rw [HTS.out]; exact HO2.out.alloc _
      · rw [show ((I + 1 : Nat) : Int) = (I : Int) + 1 by omega]; exact Blk.fresh w5 3 #[.int .i64 ((I : Int) + 1)]
      · have := HG2.out.size; simp at this; omega
      · exact fun e => by have := hlt5 _ e; omega
      · rw [HTS.out]; exact Blk.alloc (Blk.grown (Blk.alloc HK.out _) HG2.out (own_apart HO.out (by omega))) _
      · exact ((HM.out.alloc _).grown HG2.out (own_apart HO.out (by omega))).alloc _
      · exact ((HS.out.alloc _).grown HG2.out (own_apart HO.out (by omega))).alloc _
      · exact HB5.out.alloc HB5.out.size _
    · obtain rfl : I = N := by omega
      clear hlt hmf
      have HRO := Lib.hid (Rd.of_own HO.out)
      obtain ⟨⟨tl, tb⟩, htt⟩ : ∃ tt, timesF I zs vs I = tt := ⟨_, rfl⟩
      have HTT := Lib.hid htt
      rw [htt] at HRO HK HTL
      clear htt
      simp only at HRO HK HTL
      have kb : wr.cell? ⟨gr, 0, none⟩ = some (.bool tb) := (Blk.cell HK.out 0).trans rfl
      go_wp2_with fail
      go_quiet (fail)
      go_wp2_with fail
      go_ret3
      refine ⟨A8, c8, ?_, ?_, below_drewN HB.out _⟩
      · rw [HTT.out]
        show _ = Ending.returned (.tuple #[.slice A8 tl.length c8, .bool tb, .int .i64 0])
        rw [show tl.length = I from HTL.out]; rfl
      · rw [HTT.out]
        show Rd _ _ 1 _ tl.length (intsV tl)
        rw [show tl.length = I from HTL.out]; exact HRO.out.drewN _
end Go.Proofs.Ytajhkbdaoakogaa.BigW
