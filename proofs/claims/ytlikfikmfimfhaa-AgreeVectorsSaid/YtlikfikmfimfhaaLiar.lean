/- Contracts: the liar's next; the closure of the reference's Vectors. -/
import Derived.Test.YtlikfikmfimfhaaInts
import Derived.Test.YtlikfikmfimfhaaRws
import Derived.Test.YtlikfikmfimfhaaRegR
import Derived.Test.YtlikfikmfimfhaaLoadRow
import Derived.Test.YtlikfikmfimfhaaOwnCap
import Derived.Deep.CutBlock
import Derived.Deep.DeepCutAuto
namespace Go.Proofs.Ytlikfikmfimfhaa.Av
open Go.RowKit Go.Proofs.Ytlikfikmfimfhaa.Mem Go.Proofs.Ytlikfikmfimfhaa.Rws Go.Proofs.Ytlikfikmfimfhaa.Ints Go.Proofs.Ytlikfikmfimfhaa.BigW
set_option linter.unusedVariables false
set_option linter.unusedSimpArgs false

theorem getD_of {l : List Int} {k : Nat} (h : k < l.length) : l.getD k 0 = l[k] := by rw [List.getD_eq_getElem?_getD, List.getElem?_eq_getElem h]; rfl
theorem getD_none {l : List Int} {k : Nat} (h : ¬ k < l.length) : l.getD k 0 = 0 := by rw [List.getD_eq_getElem?_getD, List.getElem?_eq_none (by omega)]; rfl
theorem rd_cell {w : World} {B b o : Nat} {l : List Int} (h : Rd w B 1 (some ⟨b, o, none⟩) l.length (intsV l)) {q : Nat} (hq : q < l.length) : b < B ∧ w.cell? ⟨b, o + q, none⟩ = some (.int .i64 (l.getD q 0)) := by
  obtain ⟨b', o', e, hb, hc⟩ := h.2 (by omega)
  injection e with e
  injection e with e1 e2
  subst e1 e2
  refine ⟨hb, ?_⟩
  rw [hc q _ (intsV_at l q hq), getD_of hq]
theorem grown_of_below {w w' : World} {row : Option Nat} (hb : Below w.heap.size w w') : w.grownBy w' row := ⟨hb.os, hb.tape, hb.output, hb.size, fun g hg _ => hb.block g hg⟩
theorem gtrans {a w w' : World} {row : Option Nat} (h : a.grownBy w row) (k : w.grownBy w' row) : a.grownBy w' row := ⟨k.os.trans h.os, k.tape.trans h.tape, k.output.trans h.output, Nat.le_trans h.size k.size, fun g hg hn => (k.block g (Nat.lt_of_lt_of_le hg h.size) hn).trans (h.block g hg hn)⟩
theorem grown_set (w : World) (g i : Nat) (v : Value) : w.grownBy (w.setCell ⟨g, i, none⟩ v) (some g) :=
  ⟨rfl, rfl, rfl, by simp, fun k hk hn => Below.heap_setCell w ⟨g, i, none⟩ v k (fun e => hn (by rw [e]))⟩

set_option maxRecDepth 100000 in
set_option maxHeartbeats 1000000 in
theorem next_any (A : Option Addr) (c k gl B : Nat) (lies : List Int) (w : World) (h : Blk w gl 83 #[.slice A lies.length c, .int .i64 ((min k lies.length : Nat) : Int)]) (hr : Rd w B 1 A lies.length (intsV lies)) (hB : B ≤ gl) (hl : lies.length ≤ 140737488355328) :
    Calls Try.prog 79 #[.pointer (some ⟨gl, 0, none⟩)] w fun e w' => e = .returned (.int .i64 (lies.getD k 0)) ∧ Blk w' gl 83 #[.slice A lies.length c, .int .i64 ((min (k + 1) lies.length : Nat) : Int)] ∧ w.grownBy w' (some gl) := by
  by_cases hk : k < lies.length
  · obtain ⟨b, o, rfl, hb, _⟩ := hr.2 (by omega)
    have hc := (rd_cell hr hk).2
    rw [show min k lies.length = k by omega] at h
    rw [show min (k + 1) lies.length = k + 1 by omega]
    have HH := Lib.hid h
    have k0 : w.cell? ⟨gl, 0, none⟩ = some (.slice (some ⟨b, o, none⟩) lies.length c) := (h.cell 0).trans rfl
    have k1 : w.cell? ⟨gl, 1, none⟩ = some (.int .i64 (k : Int)) := (h.cell 1).trans rfl
    have kf := h.thaw 1
    have hk1 : (k : Int) < (lies.length : Int) := by omega
    have hbg : b ≠ gl := by omega
    obtain ⟨u, hu⟩ : ∃ u, lies.getD k 0 = u := ⟨_, rfl⟩
    rw [hu] at hc ⊢
    have HC := Lib.hid hc
    clear h hr hu hc
    go_enter Try.func79, Try.ntmps79
    go_wp2_with fail
    go_quiet (fail)
    generalize hw1 : World.drewN w _ = w1
    have HG1 := Lib.hid (show w.grownBy w1 (some gl) from by rw [← hw1]; exact grown_of_below (below_drewN (Below.refl w.heap.size w) _))
    have HH1 := Lib.hid (show Blk w1 gl 83 #[.slice (some ⟨b, o, none⟩) lies.length c, .int .i64 (k : Int)] from by rw [← hw1]; exact HH.out.drewN _)
    have HC1 := Lib.hid (show w1.cell? ⟨b, o + k, none⟩ = some (.int .i64 u) from by rw [← hw1]; exact HC.out)
    clear hw1 k0 k1 kf HH HC
    have k0 : w1.cell? ⟨gl, 0, none⟩ = some (.slice (some ⟨b, o, none⟩) lies.length c) := (HH1.out.cell 0).trans rfl
    have k1 : w1.cell? ⟨gl, 1, none⟩ = some (.int .i64 (k : Int)) := (HH1.out.cell 1).trans rfl
    have kf := HH1.out.thaw 1
    go_upto_region 4 with fail
    have HH := Lib.hid (HH1.out.set 1 (.int .i64 ((k : Int) + 1)))
    have HG := Lib.hid (gtrans HG1.out (grown_set w1 gl 1 (.int .i64 ((k : Int) + 1))))
    have HC := Lib.hid ((grown_at (grown_set w1 gl 1 (.int .i64 ((k : Int) + 1))) (by have := HH1.out.lt; omega) hbg _).trans HC1.out)
    generalize (w1.setCell ⟨gl, 1, none⟩ (.int .i64 ((k : Int) + 1))) = w2 at *
    clear k0 k1 kf
    have k0 : w2.cell? ⟨gl, 0, none⟩ = some (.slice (some ⟨b, o, none⟩) lies.length c) := (HH.out.cell 0).trans rfl
    have k1 : w2.cell? ⟨gl, 1, none⟩ = some (.int .i64 ((k : Int) + 1)) := (HH.out.cell 1).trans rfl
    have kc := HC.out
    have q1 : IntKind.i64.wrap ((k : Int) + 1 - 1) = (k : Int) := by rw [show (k : Int) + 1 - 1 = (k : Int) by omega]; exact IntWalk.i64_in _ (by omega)
    have q0 : (0 : Int) ≤ (k : Int) := by omega
    have q2 : ((k : Int)).toNat = k := by omega
    go_quiet (fail)
    go_wp2_with fail
    go_ret
    exact ⟨rfl, by rw [show ((k + 1 : Nat) : Int) = (k : Int) + 1 by omega]; exact HH.out.drewN _, gtrans HG.out (grown_of_below (below_drewN (Below.refl _ _) _))⟩
  · have k0 : w.cell? ⟨gl, 0, none⟩ = some (.slice A lies.length c) := (h.cell 0).trans rfl
    rw [show min k lies.length = lies.length by omega] at h
    rw [show min (k + 1) lies.length = lies.length by omega, getD_none hk]
    have k1 : w.cell? ⟨gl, 1, none⟩ = some (.int .i64 (lies.length : Int)) := (h.cell 1).trans rfl
    have HH := Lib.hid h
    clear h hr
    go_enter Try.func79, Try.ntmps79
    go_wp2_with fail
    go_quiet (fail)
    go_wp2_with fail
    go_ret
    exact ⟨rfl, HH.out.drewN _, grown_of_below (below_drewN (Below.refl w.heap.size w) _)⟩

set_option maxRecDepth 100000 in
set_option maxHeartbeats 1000000 in
theorem lie_any (A : Option Addr) (c k gc gv B : Nat) (lies : List Int) (w : World) (h : Blk w gc 3 #[.int .i64 (k : Int)]) (hv : Blk w gv 23 #[.slice A lies.length c]) (hr : Rd w B 1 A lies.length (intsV lies)) (hB : B ≤ gv) (hvc : gv < gc) (hl : lies.length ≤ 140737488355328) (hk0 : k ≤ 1000) :
    Calls Try.prog 36 #[.pointer (some ⟨gc, 0, none⟩), .pointer (some ⟨gv, 0, none⟩)] w fun e w' => e = .returned (.int .i64 (lies.getD k 0)) ∧ Blk w' gc 3 #[.int .i64 ((k + 1 : Nat) : Int)] ∧ w.grownBy w' (some gc) := by
  have k0 : w.cell? ⟨gc, 0, none⟩ = some (.int .i64 (k : Int)) := (h.cell 0).trans rfl
  have kf := h.thaw 0
  have HV := Lib.hid hv
  have HH := Lib.hid h
  have HS := Lib.hid (h.set 0 (.int .i64 ((k : Int) + 1)))
  have HG := Lib.hid (grown_set w gc 0 (.int .i64 ((k : Int) + 1)))
  have hkk : (k : Int) ≤ 1000 := by omega
  rw [show ((k + 1 : Nat) : Int) = (k : Int) + 1 by omega]
  have HR := Lib.hid hr
  clear h hv hr
  obtain ⟨u, hu⟩ : ∃ u, lies.getD k 0 = u := ⟨_, rfl⟩
  rw [hu]
  have HU := Lib.hid hu
  clear hu
  go_enter Try.func36, Try.ntmps36
  go_upto_region 2 with fail
  have HV := Lib.hid (HV.out.other (p := ⟨gc, 0, none⟩) (by show gv ≠ gc; omega) (.int .i64 ((k : Int) + 1)))
  by_cases hk : k < lies.length
  · obtain ⟨b, o, rfl, hb, _⟩ := HR.out.2 (by omega)
    have HC := Lib.hid ((grown_at HG.out (by have := HH.out.lt; omega) (by omega) _).trans (rd_cell HR.out hk).2)
    rw [HU.out] at HC
    generalize (w.setCell ⟨gc, 0, none⟩ (.int .i64 ((k : Int) + 1))) = w2 at *
    clear k0 kf
    have k0 : w2.cell? ⟨gc, 0, none⟩ = some (.int .i64 ((k : Int) + 1)) := (HS.out.cell 0).trans rfl
    have k1 : w2.cell? ⟨gv, 0, none⟩ = some (.slice (some ⟨b, o, none⟩) lies.length c) := (HV.out.cell 0).trans rfl
    have kc := HC.out
    have hk1 : (k : Int) < (lies.length : Int) := by omega
    have hk2 : (k : Int) + 1 ≤ (lies.length : Int) := by omega
    go_wp2_with fail
    go_ret
    exact ⟨rfl, HS.out, HG.out⟩
  · have HU0 := Lib.hid (show u = 0 from by rw [← HU.out, getD_none hk])
    generalize (w.setCell ⟨gc, 0, none⟩ (.int .i64 ((k : Int) + 1))) = w2 at *
    clear k0 kf
    have k0 : w2.cell? ⟨gc, 0, none⟩ = some (.int .i64 ((k : Int) + 1)) := (HS.out.cell 0).trans rfl
    have k1 : w2.cell? ⟨gv, 0, none⟩ = some (.slice A lies.length c) := (HV.out.cell 0).trans rfl
    have hk1 : (lies.length : Int) < (k : Int) + 1 := by omega
    have hk2 : ¬ (k : Int) + 1 ≤ (lies.length : Int) := by omega
    go_wp2_with fail
    go_ret
    exact ⟨by rw [HU0.out]; rfl, HS.out, HG.out⟩
end Go.Proofs.Ytlikfikmfimfhaa.Av
