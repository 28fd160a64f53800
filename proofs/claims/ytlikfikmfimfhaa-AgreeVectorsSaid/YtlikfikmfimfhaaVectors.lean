/- Contract: agree.Vectors. -/
import Derived.Test.YtlikfikmfimfhaaOne
namespace Go.Proofs.Ytlikfikmfimfhaa.Av
open Go.RowKit Go.Proofs.Ytlikfikmfimfhaa.Mem Go.Proofs.Ytlikfikmfimfhaa.Rws Go.Proofs.Ytlikfikmfimfhaa.Ints Go.Proofs.Ytlikfikmfimfhaa.BigW
set_option linter.unusedVariables false
set_option linter.unusedSimpArgs false

def v4 (a b c d : Int) : Nat → Int
  | 0 => a
  | 1 => b
  | 2 => c
  | _ => d
theorem row4 (a b c d : Int) : (#[.int .i64 a, .int .i64 b, .int .i64 c, .int .i64 d] : Array Value) = rowF .i64 4 (v4 a b c d) := rfl
theorem row16 : (#[.int .i64 0, .int .i64 0, .int .i64 0, .int .i64 0, .int .i64 0, .int .i64 0, .int .i64 0, .int .i64 0, .int .i64 0, .int .i64 0, .int .i64 0, .int .i64 0, .int .i64 0, .int .i64 0, .int .i64 0, .int .i64 0] : Array Value) = rowF .i64 16 (fun _ => 0) := rfl
theorem rowF_size (k : IntKind) (n : Nat) (f : Nat → Int) : (rowF k n f).size = n := by simp [rowF]
theorem rowF_one (k : IntKind) (n : Nat) (f : Nat → Int) : (rowF k n f).all (·.oneCell') = true := row_one (f := fun i => .int k (f i)) (fun i _ => rfl)

set_option maxRecDepth 100000 in
set_option maxHeartbeats 2000000 in
theorem vectors_any (a0 a1 a2 a3 bad : Int) (A : Option Addr) (c : Nat) (lies : List Int) (B : Nat) (w : World) (hB : B ≤ w.heap.size) (hr : Rd w B 1 A lies.length (intsV lies)) (hl : lies.length ≤ 140737488355328) (lie : Nat → Int) (hle : ∀ k, lies.getD k 0 = lie k) :
    Calls Try.prog 9 #[.agg #[.int .i64 a0, .int .i64 a1, .int .i64 a2, .int .i64 a3], .int .i64 bad, .slice A lies.length c] w fun e w' =>
      e = .returned (.agg (rowF .i64 16 fun q => (vecF bad (v4 a0 a1 a2 a3) lie 4).1 (q / 4) (q % 4))) ∧ Below w.heap.size w w' := by
  have HR := Lib.hid hr
  have HLL := Lib.hid hl
  have HLE := Lib.hid hle
  clear hr hl hle
  go_enter Try.func9, Try.ntmps9
  go_upto_region 3 with fail
  have HV := Lib.hid (show Blk ((((w.alloc (.cells #[.int .i64 a0, .int .i64 a1, .int .i64 a2, .int .i64 a3] 22)).alloc (.cells #[.int .i64 0, .int .i64 0, .int .i64 0, .int .i64 0, .int .i64 0, .int .i64 0, .int .i64 0, .int .i64 0, .int .i64 0, .int .i64 0, .int .i64 0, .int .i64 0, .int .i64 0, .int .i64 0, .int .i64 0, .int .i64 0] 24)).alloc (.cells #[.int .i64 0, .int .i64 0, .int .i64 0, .int .i64 0, .int .i64 0, .int .i64 0, .int .i64 0, .int .i64 0, .int .i64 0, .int .i64 0, .int .i64 0, .int .i64 0, .int .i64 0, .int .i64 0, .int .i64 0, .int .i64 0] 24)).alloc (.cells #[.slice A lies.length c, .int .i64 0] 83)) w.heap.size 22 (rowF .i64 4 (v4 a0 a1 a2 a3)) from (((Blk.new rfl).alloc _).alloc _).alloc _)
  have HE := Lib.hid (show Blk ((((w.alloc (.cells #[.int .i64 a0, .int .i64 a1, .int .i64 a2, .int .i64 a3] 22)).alloc (.cells #[.int .i64 0, .int .i64 0, .int .i64 0, .int .i64 0, .int .i64 0, .int .i64 0, .int .i64 0, .int .i64 0, .int .i64 0, .int .i64 0, .int .i64 0, .int .i64 0, .int .i64 0, .int .i64 0, .int .i64 0, .int .i64 0] 24)).alloc (.cells #[.int .i64 0, .int .i64 0, .int .i64 0, .int .i64 0, .int .i64 0, .int .i64 0, .int .i64 0, .int .i64 0, .int .i64 0, .int .i64 0, .int .i64 0, .int .i64 0, .int .i64 0, .int .i64 0, .int .i64 0, .int .i64 0] 24)).alloc (.cells #[.slice A lies.length c, .int .i64 0] 83)) (w.heap.size + 1) 24 (rowF .i64 16 fun _ => 0) from ((Blk.new (by simp)).alloc _).alloc _)
  have HO := Lib.hid (show Blk ((((w.alloc (.cells #[.int .i64 a0, .int .i64 a1, .int .i64 a2, .int .i64 a3] 22)).alloc (.cells #[.int .i64 0, .int .i64 0, .int .i64 0, .int .i64 0, .int .i64 0, .int .i64 0, .int .i64 0, .int .i64 0, .int .i64 0, .int .i64 0, .int .i64 0, .int .i64 0, .int .i64 0, .int .i64 0, .int .i64 0, .int .i64 0] 24)).alloc (.cells #[.int .i64 0, .int .i64 0, .int .i64 0, .int .i64 0, .int .i64 0, .int .i64 0, .int .i64 0, .int .i64 0, .int .i64 0, .int .i64 0, .int .i64 0, .int .i64 0, .int .i64 0, .int .i64 0, .int .i64 0, .int .i64 0] 24)).alloc (.cells #[.slice A lies.length c, .int .i64 0] 83)) (w.heap.size + 1 + 1) 24 (rowF .i64 16 fun _ => 0) from (Blk.new (by simp)).alloc _)
  have HLI := Lib.hid (show Blk ((((w.alloc (.cells #[.int .i64 a0, .int .i64 a1, .int .i64 a2, .int .i64 a3] 22)).alloc (.cells #[.int .i64 0, .int .i64 0, .int .i64 0, .int .i64 0, .int .i64 0, .int .i64 0, .int .i64 0, .int .i64 0, .int .i64 0, .int .i64 0, .int .i64 0, .int .i64 0, .int .i64 0, .int .i64 0, .int .i64 0, .int .i64 0] 24)).alloc (.cells #[.int .i64 0, .int .i64 0, .int .i64 0, .int .i64 0, .int .i64 0, .int .i64 0, .int .i64 0, .int .i64 0, .int .i64 0, .int .i64 0, .int .i64 0, .int .i64 0, .int .i64 0, .int .i64 0, .int .i64 0, .int .i64 0] 24)).alloc (.cells #[.slice A lies.length c, .int .i64 0] 83)) (w.heap.size + 1 + 1 + 1) 83 #[.slice A lies.length c, .int .i64 0] from Blk.new (by simp))
  have HB := Lib.hid (show Below w.heap.size w ((((w.alloc (.cells #[.int .i64 a0, .int .i64 a1, .int .i64 a2, .int .i64 a3] 22)).alloc (.cells #[.int .i64 0, .int .i64 0, .int .i64 0, .int .i64 0, .int .i64 0, .int .i64 0, .int .i64 0, .int .i64 0, .int .i64 0, .int .i64 0, .int .i64 0, .int .i64 0, .int .i64 0, .int .i64 0, .int .i64 0, .int .i64 0] 24)).alloc (.cells #[.int .i64 0, .int .i64 0, .int .i64 0, .int .i64 0, .int .i64 0, .int .i64 0, .int .i64 0, .int .i64 0, .int .i64 0, .int .i64 0, .int .i64 0, .int .i64 0, .int .i64 0, .int .i64 0, .int .i64 0, .int .i64 0] 24)).alloc (.cells #[.slice A lies.length c, .int .i64 0] 83)) from ((((Below.refl _ _).alloc (by omega) _).alloc (by simp) _).alloc (by simp; omega) _).alloc (by simp; omega) _)
  generalize ((((w.alloc (.cells #[.int .i64 a0, .int .i64 a1, .int .i64 a2, .int .i64 a3] 22)).alloc (.cells #[.int .i64 0, .int .i64 0, .int .i64 0, .int .i64 0, .int .i64 0, .int .i64 0, .int .i64 0, .int .i64 0, .int .i64 0, .int .i64 0, .int .i64 0, .int .i64 0, .int .i64 0, .int .i64 0, .int .i64 0, .int .i64 0] 24)).alloc (.cells #[.int .i64 0, .int .i64 0, .int .i64 0, .int .i64 0, .int .i64 0, .int .i64 0, .int .i64 0, .int .i64 0, .int .i64 0, .int .i64 0, .int .i64 0, .int .i64 0, .int .i64 0, .int .i64 0, .int .i64 0, .int .i64 0] 24)).alloc (.cells #[.slice A lies.length c, .int .i64 0] 83)) = w1 at *
  obtain ⟨gv, hgv⟩ : ∃ g, w.heap.size = g := ⟨_, rfl⟩
  have HGV := Lib.hid hgv
  rw [hgv] at hB HV HE HO HLI ⊢
  clear hgv
  obtain ⟨ge, hge⟩ : ∃ g, gv + 1 = g := ⟨_, rfl⟩
  rw [hge] at HE HO HLI ⊢
  obtain ⟨go, hgo⟩ : ∃ g, ge + 1 = g := ⟨_, rfl⟩
  rw [hgo] at HO HLI ⊢
  obtain ⟨gl, hgl⟩ : ∃ g, go + 1 = g := ⟨_, rfl⟩
  rw [hgl] at HLI ⊢
  have h1 : gv < ge := by omega
  have h2 : ge < go := by omega
  have h3 : go < gl := by omega
  clear hge hgo hgl
  go_wp2_with fail
  go_loopw [13] (fun iv wr => ∃ s : Nat, s ≤ 4 ∧ iv = .int .i64 s ∧ Blk wr gv 22 (rowF .i64 4 (v4 a0 a1 a2 a3)) ∧ Blk wr ge 24 (rowF .i64 16 fun _ => 0) ∧ Blk wr go 24 (rowF .i64 16 fun q => (vecF bad (v4 a0 a1 a2 a3) lie s).1 (q / 4) (q % 4)) ∧ Blk wr gl 83 #[.slice A lies.length c, .int .i64 ((min (vecF bad (v4 a0 a1 a2 a3) lie s).2 lies.length : Nat) : Int)] ∧ Below gv w wr) (fun iv _ => 4 - (intOf iv).toNat)
  case atStart => exact ⟨0, by omega, rfl, HV.out, HE.out, HO.out, by rw [show (vecF bad (v4 a0 a1 a2 a3) lie 0).2 = 0 from rfl, Nat.zero_min]; exact HLI.out, by have h := HB.out; rw [HGV.out] at h; exact h⟩
  case round =>
    clear HV HE HO HLI HB
    obtain ⟨s, hs4, rfl, hv, he, ho, hli, hb⟩ := hrel
    have HV := Lib.hid hv
    have HE := Lib.hid he
    have HO := Lib.hid ho
    have HLI := Lib.hid hli
    have HB := Lib.hid hb
    clear hv he ho hli hb
    by_cases hlt : s < 4
    · have HVS := Lib.hid (show vecF bad (v4 a0 a1 a2 a3) lie (s + 1) = (colF (vecF bad (v4 a0 a1 a2 a3) lie s).1 s 4 (takeF s (v4 a0 a1 a2 a3 s) (dirA bad (v4 a0 a1 a2 a3) lie s (vecF bad (v4 a0 a1 a2 a3) lie s).2).1 (saidA bad (v4 a0 a1 a2 a3) lie s (vecF bad (v4 a0 a1 a2 a3) lie s).2).1), (saidA bad (v4 a0 a1 a2 a3) lie s (vecF bad (v4 a0 a1 a2 a3) lie s).2).2) from rfl)
      have HCN := Lib.hid (show (vecF bad (v4 a0 a1 a2 a3) lie s).2 ≤ 80 from by have := vecF_count bad (v4 a0 a1 a2 a3) lie s; omega)
      generalize vecF bad (v4 a0 a1 a2 a3) lie s = vv at *
      obtain ⟨V, n⟩ := vv
      simp only at HVS HCN HO HLI
      have hk := HV.out.cell s
      rw [rowF_at _ _ _ _ hlt] at hk
      have hlt1 : (s : Int) < 4 := by omega
      generalize v4 a0 a1 a2 a3 = vals at *
      go_wp2_with fail
      clear hk
      refine (one_any s n go gl B bad vals V A c lies wr hlt HCN.out HO.out HLI.out (HR.out.below (HB.out.mono hB)) (by omega) h3 HLL.out lie HLE.out).mono ?_
      rintro e w3 ⟨rfl, ho, hli, hb⟩
      have HV := Lib.hid (HV.out.below hb (by omega))
      have HE := Lib.hid (HE.out.below hb (by omega))
      have HB := Lib.hid (HB.out.trans (hb.mono (by omega)))
      have HO := Lib.hid ho
      have HLI := Lib.hid hli
      clear ho hli hb
      go_wp2_with fail
      refine ⟨⟨s + 1, by omega, by go_num, HV.out, HE.out, ?_, ?_, HB.out⟩, by simp [intOf]; omega⟩
      · rw [HVS.out]; exact HO.out
      · rw [HVS.out]; exact HLI.out
    · obtain rfl : s = 4 := by omega
      clear hlt
      rw [show ((4 : Nat) : Int) = 4 from rfl]
      have hi : (Try.prog.info? 24).map (·.size) = some (rowF .i64 16 fun q => (vecF bad (v4 a0 a1 a2 a3) lie 4).1 (q / 4) (q % 4)).size := by rw [rowF_size]; kernel_rfl
      have hz : (rowF .i64 16 fun _ => 0).size = (rowF .i64 16 fun q => (vecF bad (v4 a0 a1 a2 a3) lie 4).1 (q / 4) (q % 4)).size := by rw [rowF_size, rowF_size]
      have h1 : (rowF .i64 16 fun q => (vecF bad (v4 a0 a1 a2 a3) lie 4).1 (q / 4) (q % 4)).all (·.oneCell') = true := rowF_one _ _ _
      obtain ⟨R, hRR⟩ : ∃ R, (rowF .i64 16 fun q => (vecF bad (v4 a0 a1 a2 a3) lie 4).1 (q / 4) (q % 4)) = R := ⟨_, rfl⟩
      have HRR := Lib.hid hRR
      rw [hRR] at HO hi h1 hz
      clear hRR
      go_wp2_with (first
        | (refine wpList_whole rfl 24 _ rfl go rfl HO.out _ Try.underlying24 rfl hi ?_)
        | (refine wpList_store_row rfl 24 _ _ rfl ge R rfl rfl 24 _ HE.out hi hz h1 ?_))
      exact ret_row rfl rfl (HE.out.setRow R) Try.underlying24 rfl hi rfl ⟨by rw [HRR.out], below_setRow (by have h := HB.out; rw [← HGV.out] at h; exact h) (by have := HGV.out; omega) _⟩
end Go.Proofs.Ytlikfikmfimfhaa.Av
