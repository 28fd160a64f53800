/- Contract: bus.find: the place of the first parcel of a serial number, by slices.IndexFunc with a closure. -/
import Derived.Test.YtlcpackmoolngaaParcD
import Derived.Test.YtlcpackmoolngaaRws
import Derived.Deep.CutBlock
import Derived.Deep.DeepCutAuto
namespace Go.Proofs.Ytlcpackmoolngaa.Bu
open Go.ChangeShapes Go.WideShapes Go.ChangeAt Go.RowKit Go.Proofs.Ytlcpackmoolngaa.Mem Go.Proofs.Ytlcpackmoolngaa.Op Go.Proofs.Ytlcpackmoolngaa.Sm Go.Proofs.Ytlcpackmoolngaa.Nd Go.Proofs.Ytlcpackmoolngaa.Rws
set_option linter.unusedVariables false
set_option linter.unusedSimpArgs false

/-- the place of the first parcel of a serial number -/
def fnd (s : Int) (qs : List Parc) : Option Nat := qs.findIdx? (fun p => p.s == s)
def fndZ (s : Int) (qs : List Parc) : Int := match fnd s qs with | some k => (k : Int) | none => -1
/-- none of the first k -/
def NoneTo (s : Int) (qs : List Parc) (k : Nat) : Prop := ∀ j q, j < k → qs[j]? = some q → ¬ q.s = s
theorem NoneTo.zero (s : Int) (qs : List Parc) : NoneTo s qs 0 := fun j q h => absurd h (by omega)
theorem NoneTo.succ {s : Int} {qs : List Parc} {k : Nat} {p : Parc} (h : NoneTo s qs k) (hp : qs[k]? = some p) (hn : ¬ p.s = s) : NoneTo s qs (k + 1) := fun j q hj hq => by
  by_cases e : j = k
  · subst e; rw [hp] at hq; injection hq with hq; subst hq; exact hn
  · exact h j q (by omega) hq
theorem fnd_some {s : Int} {qs : List Parc} {k : Nat} {p : Parc} (h : NoneTo s qs k) (hp : qs[k]? = some p) (hs : p.s = s) : fnd s qs = some k := by
  unfold fnd
  rw [List.findIdx?_eq_some_iff_getElem]
  obtain ⟨hk, e⟩ := List.getElem?_eq_some_iff.1 hp
  refine ⟨hk, by rw [e]; simp [hs], fun j hj => ?_⟩
  have := h j qs[j] hj (List.getElem?_eq_getElem (by omega))
  simpa using this
theorem fnd_none {s : Int} {qs : List Parc} (h : NoneTo s qs qs.length) : fnd s qs = none := by
  unfold fnd
  rw [List.findIdx?_eq_none_iff]
  intro q hq
  obtain ⟨j, hj, e⟩ := List.getElem_of_mem hq
  have := h j q hj (by rw [← e]; exact List.getElem?_eq_getElem hj)
  simpa using this
theorem fnd_at {s : Int} {qs : List Parc} {k : Nat} (h : fnd s qs = some k) : ∃ p, qs[k]? = some p ∧ p.s = s ∧ NoneTo s qs k := by
  unfold fnd at h
  rw [List.findIdx?_eq_some_iff_getElem] at h
  obtain ⟨hk, e, hj⟩ := h
  refine ⟨qs[k], List.getElem?_eq_getElem hk, by simpa using e, fun j q hjk hq => ?_⟩
  have := hj j hjk
  have e2 : qs[j] = q := by rw [List.getElem?_eq_getElem (by omega)] at hq; injection hq
  rw [e2] at this
  simpa using this

theorem pred_any (p : Parc) (a : Option Addr) (c : Nat) (ser : Int) (g : Nat) (w : World) (hg : g < w.heap.size) (hc : w.cell? ⟨g, 0, none⟩ = some (.int .i64 ser)) :
    Calls Try.prog 53 #[.agg #[.int .i64 p.f, .int .i64 p.t, .int .i64 p.d, .int .i64 p.s, .slice a p.bs.length c], .pointer (some ⟨g, 0, none⟩)] w fun e w' => e = .returned (.bool (decide (p.s = ser))) ∧ Below w.heap.size w w' := by
  have hne : g ≠ w.heap.size := by omega
  have HB := Lib.hid ((Below.refl w.heap.size w).alloc (Nat.le_refl _) (.cells #[.int .i64 p.f, .int .i64 p.t, .int .i64 p.d, .int .i64 p.s, .slice a p.bs.length c] 52))
  have P1 := Lib.hid (show Blk (w.alloc (.cells #[.int .i64 p.f, .int .i64 p.t, .int .i64 p.d, .int .i64 p.s, .slice a p.bs.length c] 52)) w.heap.size 52 #[.int .i64 p.f, .int .i64 p.t, .int .i64 p.d, .int .i64 p.s, .slice a p.bs.length c] from Blk.fresh _ _ _)
  have h1 := HB.out.cell (p := ⟨g, 0, none⟩) hg
  rw [hc] at h1
  go_enter Try.func53, Try.ntmps53
  go_upto_region 1 with fail
  generalize (w.alloc (.cells #[.int .i64 p.f, .int .i64 p.t, .int .i64 p.d, .int .i64 p.s, .slice a p.bs.length c] 52)) = w1 at *
  have y3 := P1.out.cell 3
  simp only [List.getElem?_toArray, List.getElem?_cons_zero, List.getElem?_cons_succ] at y3
  by_cases hs : p.s = ser
  · go_wp2_with fail
    go_ret
    exact ⟨by simp [hs], HB.out⟩
  · go_wp2_with fail
    go_ret
    exact ⟨by simp [hs], HB.out⟩

set_option maxRecDepth 100000 in
set_option maxHeartbeats 2000000 in
theorem indexFunc_any (ser : Int) (A : Option Addr) (c : Nat) (qs : List Parc) (g B : Nat) (w : World) (hB : B ≤ w.heap.size) (hl : qs.length ≤ 140737488351232) (hr : ParcsAt w B A qs) (hg : g < w.heap.size) (hc : w.cell? ⟨g, 0, none⟩ = some (.int .i64 ser)) :
    Calls Try.prog 52 #[.slice A qs.length c, .func (.func 53) #[] #[.pointer (some ⟨g, 0, none⟩)]] w fun e w' => e = .returned (.int .i64 (fndZ ser qs)) ∧ Below w.heap.size w w' := by
  have HR := Lib.hid hr
  have HC := Lib.hid hc
  clear hr hc
  go_enter Try.func52, Try.ntmps52
  go_wp2_with fail
  go_loopw [5, 8] (fun s5 i wr => ∃ k : Nat, k ≤ qs.length ∧ i = .int .i64 k ∧ NoneTo ser qs k ∧ Below w.heap.size w wr) (fun _ i _ => qs.length - (intOf i).toNat)
  case atStart => exact ⟨0, by omega, rfl, NoneTo.zero _ _, Below.refl _ _⟩
  case round =>
    obtain ⟨k, hk, rfl, hn, hb⟩ := hrel
    have HN := Lib.hid hn
    have HB := Lib.hid hb
    by_cases hlt : k < qs.length
    · have hm : qs[k]? = some qs[k] := List.getElem?_eq_getElem hlt
      generalize qs[k] = p at hm
      have HM := Lib.hid hm
      obtain ⟨b, o, a, ca, rfl, hbB, x0, x1, x2, x3, x4, h2, h3, h4, h5⟩ := (HR.out.below (hb.mono hB)).at hm
      have hk0 : (0 : Int) ≤ (k : Int) := by omega
      have hk1 : (k : Int) < (qs.length : Int) := by omega
      have hgw : g < wr.heap.size := Nat.lt_of_lt_of_le hg hb.size
      have CP := Lib.hid (pred_any p a ca ser g wr hgw ((hb.cell (p := ⟨g, 0, none⟩) hg).trans HC.out))
      clear h5 hm hn hb h2 h3
      by_cases hs : p.s = ser
      · have hd : decide (p.s = ser) = true := by simp [hs]
        rw [hd] at CP
        have HF := Lib.hid (fnd_some HN.out HM.out hs)
        clear hd hs
        go_wp2_with (go_at_call 53; refine CP.out.mono ?_; rintro e w2 ⟨rfl, hb2⟩; have HB2 := Lib.hid (onward HB.out (Nat.le_refl _) hb2); clear hb2)
        go_ret
        exact ⟨by unfold fndZ; rw [HF.out]; rfl, HB2.out⟩
      · have hd : decide (p.s = ser) = false := by simp [hs]
        rw [hd] at CP
        have HN2 := Lib.hid (HN.out.succ HM.out hs)
        clear hd hs
        go_wp2_with (go_at_call 53; refine CP.out.mono ?_; rintro e w2 ⟨rfl, hb2⟩; have HB2 := Lib.hid (onward HB.out (Nat.le_refl _) hb2); clear hb2)
        exact ⟨⟨k + 1, by omega, by go_num, HN2.out, HB2.out⟩, by simp [intOf]; omega⟩
    · obtain rfl : k = qs.length := by omega
      clear hlt hn hb
      have HF := Lib.hid (fnd_none HN.out)
      go_wp2_with fail
      go_ret
      exact ⟨by unfold fndZ; rw [HF.out]; rfl, HB.out⟩

set_option maxRecDepth 100000 in
theorem find_any (now ser0 ser : Int) (A : Option Addr) (c : Nat) (qs : List Parc) (B : Nat) (w : World) (hB : B ≤ w.heap.size) (hl : qs.length ≤ 140737488351232) (hr : ParcsAt w B A qs) :
    Calls Try.prog 25 #[.agg #[.int .i64 now, .int .i64 ser0, .slice A qs.length c], .int .i64 ser] w fun e w' => e = .returned (.int .i64 (fndZ ser qs)) ∧ Below w.heap.size w w' := by
  have HB := Lib.hid (((Below.refl w.heap.size w).alloc (Nat.le_refl _) (.cells #[.int .i64 now, .int .i64 ser0, .slice A qs.length c] 24)).alloc (by simp) (.cells #[.int .i64 ser] 3))
  have P1 := Lib.hid (show Blk ((w.alloc (.cells #[.int .i64 now, .int .i64 ser0, .slice A qs.length c] 24)).alloc (.cells #[.int .i64 ser] 3)) w.heap.size 24 #[.int .i64 now, .int .i64 ser0, .slice A qs.length c] from (Blk.new rfl).alloc _)
  have P2 := Lib.hid (show Blk ((w.alloc (.cells #[.int .i64 now, .int .i64 ser0, .slice A qs.length c] 24)).alloc (.cells #[.int .i64 ser] 3)) (w.heap.size + 1) 3 #[.int .i64 ser] from Blk.new (by simp))
  have HR := Lib.hid (hr.below (HB.out.mono hB))
  clear hr
  go_enter Try.func25, Try.ntmps25
  go_upto_region 1 with fail
  generalize ((w.alloc (.cells #[.int .i64 now, .int .i64 ser0, .slice A qs.length c] 24)).alloc (.cells #[.int .i64 ser] 3)) = W at *
  have CI := Lib.hid (indexFunc_any ser A c qs (w.heap.size + 1) B W (Nat.le_trans hB HB.out.size) hl HR.out P2.out.lt (P2.out.cell 0))
  have y2 := P1.out.cell 2
  simp only [List.getElem?_toArray, List.getElem?_cons_zero, List.getElem?_cons_succ] at y2
  go_wp2_with (go_at_call 52; refine CI.out.mono ?_; rintro e w2 ⟨rfl, hb2⟩; have HB2 := Lib.hid (onward HB.out (Nat.le_refl _) hb2); clear hb2)
  go_ret
  exact ⟨rfl, HB2.out⟩
end Go.Proofs.Ytlcpackmoolngaa.Bu
