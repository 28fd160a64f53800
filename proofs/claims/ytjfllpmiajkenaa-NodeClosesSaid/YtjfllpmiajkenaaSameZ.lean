/- Contracts: whether two lists of one length are alike: node.same, the reference's SameInts. -/
import Derived.Test.YtjfllpmiajkenaaMsg
import Derived.Deep.QuietTactic
import Derived.BigQuiet
namespace Go.Proofs.Ytjfllpmiajkenaa.Ms
open Go.ChangeShapes Go.WideShapes Go.ChangeAt Go.RowKit Go.Proofs.Ytjfllpmiajkenaa.Mem
set_option linter.unusedVariables false

set_option maxHeartbeats 1000000 in
theorem same_eq (A A' : Option Addr) (c c' : Nat) (zs ys : List Int) (hn : ys.length = zs.length) (B : Nat) (w : World) (hl : zs.length ≤ 140737488355328) (hr : Rd w B 1 A zs.length (intsV zs)) (hr' : Rd w B 1 A' zs.length (intsV ys)) :
    Calls Try.prog 87 #[.slice A zs.length c, .slice A' zs.length c'] w fun e w' => e = .returned (.bool (decide (zs = ys))) ∧ Below w.heap.size w w' := by
  have HR := Lib.hid hr
  have HR' := Lib.hid hr'
  have HNL := Lib.hid hn
  have HD := Lib.hid (fun k (h1 : k < zs.length) (h2 : k < ys.length) (h : ¬ zs[k] = ys[k]) => show decide (zs = ys) = false from decide_eq_false fun e => h (by subst e; rfl))
  clear hr hr' hn
  go_enter Try.func87, Try.ntmps87
  go_wp2_with fail
  go_loopw [8] (fun i wr => ∃ k q : Nat, k ≤ zs.length ∧ i = .int .i64 k ∧ zs.take k = ys.take k ∧ wr = w.drewN q) (fun i _ => zs.length - (intOf i).toNat)
  case atStart => exact ⟨0, 0, by omega, rfl, rfl, rfl⟩
  case round =>
    obtain ⟨k, q, hk, rfl, htk, rfl⟩ := hrel
    have HTK := Lib.hid htk
    clear htk
    by_cases hlt : k < zs.length
    · obtain ⟨b, o, u, rfl, hbB, hu, hcell⟩ := HR.out.at hlt
      obtain ⟨b', o', u', rfl, hbB', hu', hcell'⟩ := HR'.out.at hlt
      have hlt' : k < ys.length := by rw [HNL.out]; exact hlt
      rw [intsV_at zs k hlt] at hu
      rw [intsV_at ys k hlt'] at hu'
      obtain rfl := Option.some.inj hu
      obtain rfl := Option.some.inj hu'
      have HK := Lib.hid (HD.out k hlt hlt')
      have HT1 := Lib.hid (fun (e : zs[k] = ys[k]) => show zs.take (k + 1) = ys.take (k + 1) from by
        rw [List.take_add_one, List.take_add_one, HTK.out, List.getElem?_eq_getElem hlt, List.getElem?_eq_getElem hlt', e])
      generalize zs[k] = z at *
      generalize ys[k] = y at *
      clear hu hu' hlt'
      have hl0 : (0 : Int) ≤ (k : Int) := by omega
      have hl1 : (k : Int) < (zs.length : Int) := by omega
      have hcell : (w.drewN q).cell? ⟨b, o + k, none⟩ = some (.int .i64 z) := hcell
      have hcell' : (w.drewN q).cell? ⟨b', o' + k, none⟩ = some (.int .i64 y) := hcell'
      go_wp2_with fail
      go_quiet (fail)
      by_cases e : z = y
      · have HT2 := Lib.hid (HT1.out e)
        have hne : (z != y) = false := bne_eq_false_iff_eq.2 e
        clear HT1 HK e
        go_wp2_with fail
        exact ⟨⟨k + 1, q + nq, by omega, by go_num, HT2.out, rfl⟩, by simp [intOf]; omega⟩
      · have HK2 := Lib.hid (HK.out e)
        have hne : (z != y) = true := bne_iff_ne.2 e
        clear HT1 HK e
        go_wp2_with fail
        go_ret
        exact ⟨by rw [HK2.out]; rfl, below_drewN (below_drewN (Below.refl _ _) _) _⟩
    · obtain rfl : k = zs.length := by omega
      clear hlt
      have HE := Lib.hid (show decide (zs = ys) = true from decide_eq_true (by have h := HTK.out; rwa [List.take_length, ← HNL.out, List.take_length] at h))
      clear HTK
      go_wp2_with fail
      go_ret
      exact ⟨by rw [HE.out]; rfl, below_drewN (Below.refl _ _) _⟩

set_option maxHeartbeats 1000000 in
theorem sameInts_eq (A A' : Option Addr) (c c' : Nat) (zs ys : List Int) (hn : ys.length = zs.length) (B : Nat) (w : World) (hl : zs.length ≤ 140737488355328) (hr : Rd w B 1 A zs.length (intsV zs)) (hr' : Rd w B 1 A' zs.length (intsV ys)) :
    Calls Try.prog 56 #[.slice A zs.length c, .slice A' zs.length c'] w fun e w' => e = .returned (.bool (decide (zs = ys))) ∧ Below w.heap.size w w' := by
  have HR := Lib.hid hr
  have HR' := Lib.hid hr'
  have HNL := Lib.hid hn
  have HD := Lib.hid (fun k (h1 : k < zs.length) (h2 : k < ys.length) (h : ¬ zs[k] = ys[k]) => show decide (zs = ys) = false from decide_eq_false fun e => h (by subst e; rfl))
  clear hr hr' hn
  go_enter Try.func56, Try.ntmps56
  go_wp2_with fail
  go_loopw [13] (fun i wr => ∃ k q : Nat, k ≤ zs.length ∧ i = .int .i64 k ∧ zs.take k = ys.take k ∧ wr = w.drewN q) (fun i _ => zs.length - (intOf i).toNat)
  case atStart => exact ⟨0, 0, by omega, rfl, rfl, rfl⟩
  case round =>
    obtain ⟨k, q, hk, rfl, htk, rfl⟩ := hrel
    have HTK := Lib.hid htk
    clear htk
    by_cases hlt : k < zs.length
    · obtain ⟨b, o, u, rfl, hbB, hu, hcell⟩ := HR.out.at hlt
      obtain ⟨b', o', u', rfl, hbB', hu', hcell'⟩ := HR'.out.at hlt
      have hlt' : k < ys.length := by rw [HNL.out]; exact hlt
      rw [intsV_at zs k hlt] at hu
      rw [intsV_at ys k hlt'] at hu'
      obtain rfl := Option.some.inj hu
      obtain rfl := Option.some.inj hu'
      have HK := Lib.hid (HD.out k hlt hlt')
      have HT1 := Lib.hid (fun (e : zs[k] = ys[k]) => show zs.take (k + 1) = ys.take (k + 1) from by
        rw [List.take_add_one, List.take_add_one, HTK.out, List.getElem?_eq_getElem hlt, List.getElem?_eq_getElem hlt', e])
      generalize zs[k] = z at *
      generalize ys[k] = y at *
      clear hu hu' hlt'
      have hl0 : (0 : Int) ≤ (k : Int) := by omega
      have hl1 : (k : Int) < (zs.length : Int) := by omega
      have hcell : (w.drewN q).cell? ⟨b, o + k, none⟩ = some (.int .i64 z) := hcell
      have hcell' : (w.drewN q).cell? ⟨b', o' + k, none⟩ = some (.int .i64 y) := hcell'
      go_wp2_with fail
      go_quiet (fail)
      by_cases e : z = y
      · have HT2 := Lib.hid (HT1.out e)
        have hne : (z != y) = false := bne_eq_false_iff_eq.2 e
        clear HT1 HK e
        go_wp2_with fail
        exact ⟨⟨k + 1, q + nq, by omega, by go_num, HT2.out, rfl⟩, by simp [intOf]; omega⟩
      · have HK2 := Lib.hid (HK.out e)
        have hne : (z != y) = true := bne_iff_ne.2 e
        clear HT1 HK e
        go_wp2_with fail
        go_ret
        exact ⟨by rw [HK2.out]; rfl, below_drewN (below_drewN (Below.refl _ _) _) _⟩
    · obtain rfl : k = zs.length := by omega
      clear hlt
      have HE := Lib.hid (show decide (zs = ys) = true from decide_eq_true (by have h := HTK.out; rwa [List.take_length, ← HNL.out, List.take_length] at h))
      clear HTK
      go_wp2_with fail
      go_ret
      exact ⟨by rw [HE.out]; rfl, below_drewN (Below.refl _ _) _⟩
end Go.Proofs.Ytjfllpmiajkenaa.Ms
