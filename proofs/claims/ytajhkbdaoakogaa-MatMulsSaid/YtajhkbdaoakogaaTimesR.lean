/- Contracts: the reference's chain over Times' closures, and Times. -/
import Derived.Test.YtajhkbdaoakogaaTimesM
namespace Go.Proofs.Ytajhkbdaoakogaa.BigW
open Go.RowKit Go.Proofs.Ytajhkbdaoakogaa.Mem Go.Proofs.Ytajhkbdaoakogaa.BigLaw Go.Proofs.Ytajhkbdaoakogaa.Rws Go.Proofs.Ytajhkbdaoakogaa.Ints Go.Proofs.Ytajhkbdaoakogaa.Mats
set_option linter.unusedVariables false
set_option linter.unusedSimpArgs false

set_option maxRecDepth 100000 in
set_option maxHeartbeats 1000000 in
theorem times1_any (N I k : Nat) (A : Option Addr) (c : Nat) (zs : List Int) (gm gi B : Nat) (w : World) (hm : Blk w gm 49 #[.int .i64 (N : Int), .slice A zs.length c]) (hi : Blk w gi 3 #[.int .i64 (I : Int)]) (hr : Rd w B 1 A zs.length (intsV zs)) (h : I * N + k < zs.length) (hl : zs.length ≤ 36) :
    Calls Try.prog 76 #[.int .i64 (k : Int), .pointer (some ⟨gm, 0, none⟩), .pointer (some ⟨gi, 0, none⟩)] w fun e w' => e = .returned (.int .i64 (zs.getD (I * N + k) 0)) ∧ w = w' := by
  obtain ⟨b, o, u, rfl, hbB, hu, hcell⟩ := hr.at h
  rw [intsV_at zs _ h] at hu
  injection hu with hu
  subst hu
  have HE := Lib.hid (getD_of h)
  generalize zs[I * N + k] = z at HE hcell
  have c0 : w.cell? ⟨gm, 0, none⟩ = some (.int .i64 (N : Int)) := (hm.cell 0).trans rfl
  have c1 : w.cell? ⟨gm, 1, none⟩ = some (.slice (some ⟨b, o, none⟩) zs.length c) := (hm.cell 1).trans rfl
  have c2 : w.cell? ⟨gi, 0, none⟩ = some (.int .i64 (I : Int)) := (hi.cell 0).trans rfl
  obtain ⟨q, hq⟩ : ∃ q, I * N = q := ⟨_, rfl⟩
  have hq1 : (I : Int) * (N : Int) = (q : Int) := by rw [← hq]; push_cast; rfl
  rw [hq] at hcell h HE ⊢
  have h1 : (q : Int) + (k : Int) < (zs.length : Int) := by omega
  have h2 : (zs.length : Int) ≤ 36 := by omega
  have hcell : w.cell? ⟨b, o + (q + k), none⟩ = some (.int .i64 z) := hcell
  have htn : ((q : Int) + (k : Int)).toNat = q + k := by omega
  clear hr hm hi hq
  go_enter Try.func76, Try.ntmps76
  go_wp2_with fail
  go_ret
  exact ⟨by rw [HE.out]; rfl, rfl⟩

set_option maxRecDepth 100000 in
set_option maxHeartbeats 1000000 in
theorem times2_any (k : Nat) (A : Option Addr) (c : Nat) (vs : List Int) (gv B : Nat) (w : World) (hv : Blk w gv 32 #[.slice A vs.length c]) (hr : Rd w B 1 A vs.length (intsV vs)) (h : k < vs.length) :
    Calls Try.prog 77 #[.int .i64 (k : Int), .pointer (some ⟨gv, 0, none⟩)] w fun e w' => e = .returned (.int .i64 (vs.getD k 0)) ∧ w = w' := by
  obtain ⟨b, o, u, rfl, hbB, hu, hcell⟩ := hr.at h
  rw [intsV_at vs _ h] at hu
  injection hu with hu
  subst hu
  have HE := Lib.hid (getD_of h)
  generalize vs[k] = z at HE hcell
  have c0 : w.cell? ⟨gv, 0, none⟩ = some (.slice (some ⟨b, o, none⟩) vs.length c) := (hv.cell 0).trans rfl
  have h1 : (k : Int) < (vs.length : Int) := by omega
  clear hr hv
  go_enter Try.func77, Try.ntmps77
  go_wp2_with fail
  go_ret
  exact ⟨by rw [HE.out]; rfl, rfl⟩

set_option maxRecDepth 100000 in
set_option maxHeartbeats 1000000 in
theorem chainT_any (N I : Nat) (A A' : Option Addr) (c c' : Nat) (zs vs : List Int) (gr gm gv gi B : Nat) (x : Bool) (w : World) (hN : N ≤ 6) (hI : I < N) (hl : zs.length = N * N) (hvl : vs.length = N)
    (hm : Blk w gm 49 #[.int .i64 (N : Int), .slice A zs.length c]) (hi : Blk w gi 3 #[.int .i64 (I : Int)]) (hv : Blk w gv 32 #[.slice A' vs.length c']) (hk : Bent w 70 gr x)
    (hr : Rd w B 1 A zs.length (intsV zs)) (hr' : Rd w B 1 A' vs.length (intsV vs)) (hB : B ≤ w.heap.size) (hBr : B ≤ gr) (n1 : gm ≠ gr) (n2 : gi ≠ gr) (n3 : gv ≠ gr) (hz : ∀ k, In64 (zs.getD k 0)) (hzv : ∀ k, In64 (vs.getD k 0)) :
    Calls Try.prog 75 #[.pointer (some ⟨gr, 0, none⟩), .int .i64 (N : Int), .func (.func 76) #[] #[.pointer (some ⟨gm, 0, none⟩), .pointer (some ⟨gi, 0, none⟩)], .func (.func 77) #[] #[.pointer (some ⟨gv, 0, none⟩)]] w fun e w' =>
      Stepd w w' 70 gr x (chainF (fun k => zs.getD (I * N + k) 0) (fun k => vs.getD k 0) N) e := by
  have HM := Lib.hid hm
  have HI := Lib.hid hi
  have HV := Lib.hid hv
  have HK := Lib.hid hk
  have HR := Lib.hid hr
  have HR' := Lib.hid hr'
  have HZ := Lib.hid hz
  have HZV := Lib.hid hzv
  have HL := Lib.hid hl
  have HVL := Lib.hid hvl
  have h36 := Lib.hid (show zs.length ≤ 36 from by rw [hl]; exact sq_36 hN)
  have HBw := Lib.hid hB
  clear hm hi hv hk hr hr' hz hzv hl hvl hB
  go_enter Try.func75, Try.ntmps75
  go_wp2_with fail
  go_loopw [9, 10] (fun s k wr => ∃ J : Nat, J ≤ N ∧ k = .int .i64 J ∧ s = .int .i64 (chainF (fun k => zs.getD (I * N + k) 0) (fun k => vs.getD k 0) J).1 ∧ Bent wr 70 gr (x || (chainF (fun k => zs.getD (I * N + k) 0) (fun k => vs.getD k 0) J).2) ∧ w.grownBy wr (some gr)) (fun _ k _ => N - (intOf k).toNat)
  case atStart => exact ⟨0, by omega, rfl, rfl, by have h := HK.out; simpa [chainF] using h, grown_same _ _⟩
  case round =>
    obtain ⟨J, hJ, rfl, rfl, hk, hg⟩ := hrel
    have HK := Lib.hid hk
    have HG := Lib.hid hg
    clear hk hg
    have r_s := Lib.hid (chainF_range (fun k => zs.getD (I * N + k) 0) (fun k => vs.getD k 0) J)
    by_cases hJt : J < N
    · have HCH := Lib.hid (show chainF (fun k => zs.getD (I * N + k) 0) (fun k => vs.getD k 0) (J + 1) = ((fadd (chainF (fun k => zs.getD (I * N + k) 0) (fun k => vs.getD k 0) J).1 (fmul (zs.getD (I * N + J) 0) (vs.getD J 0)).1).1, (chainF (fun k => zs.getD (I * N + k) 0) (fun k => vs.getD k 0) J).2 || (fmul (zs.getD (I * N + J) 0) (vs.getD J 0)).2 || (fadd (chainF (fun k => zs.getD (I * N + k) 0) (fun k => vs.getD k 0) J).1 (fmul (zs.getD (I * N + J) 0) (vs.getD J 0)).1).2) from rfl)
      have HIJ := Lib.hid (show I * N + J < zs.length from by rw [HL.out]; exact sq_idx hI hJt)
      have r_a := Lib.hid (HZ.out (I * N + J))
      have r_x := Lib.hid (HZV.out J)
      have HJ2 := Lib.hid (show J < vs.length from by rw [HVL.out]; exact hJt)
      generalize chainF (fun k => zs.getD (I * N + k) 0) (fun k => vs.getD k 0) J = ch at *
      obtain ⟨s, cb⟩ := ch
      simp only at HCH r_s HK ⊢
      obtain ⟨a, ha⟩ : ∃ a, zs.getD (I * N + J) 0 = a := ⟨_, rfl⟩
      have HAV := Lib.hid ha
      obtain ⟨y, hy⟩ : ∃ y, vs.getD J 0 = y := ⟨_, rfl⟩
      have HYV := Lib.hid hy
      rw [ha] at HCH r_a
      rw [hy] at HCH r_x
      clear ha hy
      obtain ⟨⟨p, pb⟩, hp⟩ : ∃ r, fmul a y = r := ⟨_, rfl⟩
      have r_p := Lib.hid (show In64 p from by have h := fmul_range a y; rw [hp] at h; exact h)
      have P_ := Lib.hid hp
      rw [hp] at HCH
      simp only at HCH
      obtain ⟨⟨q, qb⟩, hq⟩ : ∃ r, fadd s p = r := ⟨_, rfl⟩
      have Q_ := Lib.hid hq
      rw [hq] at HCH
      clear hp hq
      have hJt1 : (J : Int) < (N : Int) := by omega
      go_wp2_with fail
      refine (times1_any N I J A c zs gm gi B wr (HM.out.grown HG.out (neq_of n1)) (HI.out.grown HG.out (neq_of n2)) (HR.out.grown HG.out HBw.out (fun g e => by injection e with e; omega)) HIJ.out h36.out).mono ?_
      rintro e w1 ⟨rfl, rfl⟩
      rw [HAV.out]
      go_wp2_with fail
      refine (times2_any J A' c' vs gv B wr (HV.out.grown HG.out (neq_of n3)) (HR'.out.grown HG.out HBw.out (fun g e => by injection e with e; omega)) HJ2.out).mono ?_
      rintro e w1 ⟨rfl, rfl⟩
      rw [HYV.out]
      go_wp2_with fail
      refine (rmul_any gr _ a y wr HK.out r_a.out r_x.out).mono ?_
      intro e w2 hc
      rw [P_.out] at hc
      obtain ⟨rfl, hst, hg⟩ := hc
      dsimp only at hst
      have HK := Lib.hid hst
      have HG := Lib.hid (HG.out.trans hg)
      clear hst hg
      go_wp2_with fail
      refine (radd_any gr _ s p w2 HK.out r_s.out r_p.out).mono ?_
      intro e w3 hc
      rw [Q_.out] at hc
      obtain ⟨rfl, hst, hg⟩ := hc
      dsimp only at hst
      have HK := Lib.hid hst
      have HG := Lib.hid (HG.out.trans hg)
      clear hst hg
      go_wp2_with fail
      refine ⟨⟨J + 1, by omega, by go_num, by rw [HCH.out], ?_, HG.out⟩, by simp [intOf]; omega⟩
      rw [HCH.out]
      have h := HK.out
      simp only [Bool.or_assoc] at h ⊢
      exact h
    · obtain rfl : J = N := by omega
      clear hJt
      obtain ⟨⟨s, cb⟩, hch⟩ : ∃ ch, chainF (fun k => zs.getD (I * J + k) 0) (fun k => vs.getD k 0) J = ch := ⟨_, rfl⟩
      have HCH := Lib.hid hch
      rw [hch] at HK ⊢
      clear hch r_s
      simp only at HK ⊢
      go_wp2_with fail
      go_ret
      exact ⟨by rw [HCH.out]; rfl, by rw [HCH.out]; exact HK.out, HG.out⟩
end Go.Proofs.Ytajhkbdaoakogaa.BigW
