/- Contract: filter.Run. -/
import Derived.Test.YtajhkbdaoakogaaFStep
import Derived.Test.YtajhkbdaoakogaaInts
namespace Go.Proofs.Ytajhkbdaoakogaa.BigW
open Go.RowKit Go.Proofs.Ytajhkbdaoakogaa.Mem Go.Proofs.Ytajhkbdaoakogaa.BigLaw Go.Proofs.Ytajhkbdaoakogaa.Rws Go.Proofs.Ytajhkbdaoakogaa.Ints
set_option linter.unusedVariables false
set_option linter.unusedSimpArgs false

theorem runs_snoc (dt q r gate : Int) (p : St × Int) (l : List Int) (z : Int) : runs dt q r gate p (l ++ [z]) =
    ((fstep (runs dt q r gate p l).1 dt q r gate z).1, if (fstep (runs dt q r gate p l).1 dt q r gate z).2 then (runs dt q r gate p l).2 + 1 else (runs dt q r gate p l).2) := by
  unfold runs
  rw [List.foldl_append]
  rfl
theorem runs_take (dt q r gate : Int) (p : St × Int) (l : List Int) {k : Nat} (h : k < l.length) : runs dt q r gate p (l.take (k + 1)) =
    ((fstep (runs dt q r gate p (l.take k)).1 dt q r gate l[k]).1, if (fstep (runs dt q r gate p (l.take k)).1 dt q r gate l[k]).2 then (runs dt q r gate p (l.take k)).2 + 1 else (runs dt q r gate p (l.take k)).2) := by
  rw [← runs_snoc, List.take_succ_eq_append_getElem h]
theorem runs_in (dt q r gate : Int) : ∀ (l : List Int) (p : St × Int), StIn p.1 → StIn (runs dt q r gate p l).1
  | [], _, h => h
  | z :: l, p, h => runs_in dt q r gate l _ (step_in h dt q r gate z)
theorem runs_cnt (dt q r gate : Int) : ∀ (l : List Int) (p : St × Int), p.2 ≤ (runs dt q r gate p l).2 ∧ (runs dt q r gate p l).2 ≤ p.2 + l.length
  | [], _ => ⟨Int.le_refl _, by simp [runs]⟩
  | z :: l, p => by
    have h := runs_cnt dt q r gate l ((fstep p.1 dt q r gate z).1, if (fstep p.1 dt q r gate z).2 then p.2 + 1 else p.2)
    rw [show runs dt q r gate p (z :: l) = runs dt q r gate ((fstep p.1 dt q r gate z).1, if (fstep p.1 dt q r gate z).2 then p.2 + 1 else p.2) l from rfl]
    simp only [List.length_cons] at h ⊢
    generalize runs dt q r gate ((fstep p.1 dt q r gate z).1, if (fstep p.1 dt q r gate z).2 then p.2 + 1 else p.2) l = R at *
    split at h <;> constructor <;> omega
def GaveRun (w w' : World) (r : St × Int) (e : Ending) : Prop := e = .returned (.tuple #[stV r.1, .int .i64 r.2]) ∧ Below w.heap.size w w'

set_option maxRecDepth 100000 in
set_option maxHeartbeats 8000000 in
theorem run_any (s : St) (dt q r gate : Int) (A : Option Addr) (c : Nat) (zs : List Int) (w : World) (hs : StIn s) (r_dt : In64 dt) (r_q : In64 q) (r_r : In64 r) (r_gate : In64 gate) (hz : ∀ z ∈ zs, In64 z)
    (hl : zs.length ≤ 1000000) (hr : Rd w w.heap.size 1 A zs.length (intsV zs)) :
    Calls Try.prog 20 #[stV s, .agg (tunC dt q r gate), .slice A zs.length c] w fun e w' => GaveRun w w' (runs dt q r gate (s, 0) zs) e := by
  obtain ⟨X, V, P00, P01, P11, bent, missed⟩ := s
  unfold stV stC tunC
  have HS0 := Lib.hid hs
  have HD := Lib.hid r_dt
  have HK := Lib.hid r_q
  have HL := Lib.hid r_r
  have HG := Lib.hid r_gate
  have HZ := Lib.hid hz
  have HRD := Lib.hid hr
  clear hs r_dt r_q r_r r_gate hz hr
  go_enter Try.func20, Try.ntmps20
  go_wp2_with fail
  go_loopw [8, 14] (fun n i wr => ∃ k : Nat, k ≤ zs.length ∧ i = .int .i64 k ∧ n = .int .i64 (runs dt q r gate (⟨X, V, P00, P01, P11, bent, missed⟩, 0) (zs.take k)).2 ∧ StAt wr w.heap.size (runs dt q r gate (⟨X, V, P00, P01, P11, bent, missed⟩, 0) (zs.take k)).1 ∧ Blk wr (w.heap.size + 1) 29 #[.int .i64 dt, .int .i64 q, .int .i64 r, .int .i64 gate] ∧ Blk wr (w.heap.size + 1 + 1) 23 #[.int .i64 0, .int .i64 0, .int .i64 0, .int .i64 0, .int .i64 0, .bool false, .int .i64 0] ∧ Below w.heap.size w wr) (fun _ i _ => zs.length - (intOf i).toNat)
  case atStart => exact ⟨0, by omega, rfl, rfl, ((Blk.new rfl).alloc _).alloc _, (Blk.new (by simp)).alloc _, Blk.new (by simp), (((Below.refl _ _).alloc (Nat.le_refl _) _).alloc (by simp) _).alloc (by simp; omega) _⟩
  case round =>
    obtain ⟨k, hk, rfl, rfl, hst, hu, hr, hb⟩ := hrel
    have HU := Lib.hid hu
    have HR := Lib.hid hr
    have HB := Lib.hid hb
    clear hu hr hb
    obtain ⟨gr, hgr⟩ : ∃ g, w.heap.size + 1 + 1 = g := ⟨_, rfl⟩
    rw [hgr] at HR ⊢
    obtain ⟨gu, hgu⟩ : ∃ g, w.heap.size + 1 = g := ⟨_, rfl⟩
    rw [hgu] at HU ⊢
    have hcnt := runs_cnt dt q r gate (zs.take k) (⟨X, V, P00, P01, P11, bent, missed⟩, 0)
    rw [List.length_take, Nat.min_eq_left hk] at hcnt
    have hin := runs_in dt q r gate (zs.take k) (⟨X, V, P00, P01, P11, bent, missed⟩, 0) HS0.out
    by_cases hlt : k < zs.length
    · obtain ⟨b, o, u, rfl, hbB, hu, hcell⟩ := (HRD.out.below HB.out).at hlt
      rw [intsV_at zs k hlt] at hu
      injection hu with hu
      subst hu
      have HN := Lib.hid (runs_take dt q r gate (⟨X, V, P00, P01, P11, bent, missed⟩, 0) zs hlt)
      have HZk := Lib.hid (HZ.out zs[k] (List.getElem_mem hlt))
      generalize runs dt q r gate (⟨X, V, P00, P01, P11, bent, missed⟩, 0) (zs.take k) = p at *
      generalize zs[k] = z at HN HZk hcell
      obtain ⟨⟨SX, SV, SA, SB, SC, sb, sm⟩, n⟩ := p
      simp only at hcnt hin hst HN ⊢
      have HST := Lib.hid (show Blk wr w.heap.size 23 #[.int .i64 SX, .int .i64 SV, .int .i64 SA, .int .i64 SB, .int .i64 SC, .bool sb, .int .i64 sm] from hst)
      have HI := Lib.hid hin
      clear hst hin
      have hn0 : 0 ≤ n := by simpa using hcnt.1
      have hn1 : n ≤ k := by simpa using hcnt.2
      clear hcnt
      obtain ⟨⟨⟨QX, QV, QA, QB, QC, qb, qm⟩, qt⟩, hq⟩ : ∃ p, fstep ⟨SX, SV, SA, SB, SC, sb, sm⟩ dt q r gate z = p := ⟨_, rfl⟩
      have HQ := Lib.hid hq
      rw [hq] at HN
      clear hq
      have hlt1 : (k : Int) < (zs.length : Int) := by omega
      go_wp2_with (first | (refine wpList_whole rfl 23 _ rfl w.heap.size rfl HST.out _ Try.underlying23 rfl (by kernel_rfl) ?_) | (refine wpList_whole rfl 29 _ rfl gu rfl HU.out _ Try.underlying29 rfl (by kernel_rfl) ?_))
      refine (fstep_any ⟨SX, SV, SA, SB, SC, sb, sm⟩ dt q r gate z _ HI.out HD.out HK.out HL.out HG.out HZk.out).mono ?_
      rintro e w1 ⟨rfl, hb1⟩
      rw [HQ.out]
      simp only [stV, stC]
      have HST := Lib.hid (HST.out.below hb1 HST.out.lt)
      have HU := Lib.hid (HU.out.below hb1 HU.out.lt)
      have HR := Lib.hid (HR.out.below hb1 HR.out.lt)
      have HB := Lib.hid (onward HB.out (Nat.le_refl _) hb1)
      clear hb1 hcell
      cases qt
      · go_wp2_with (refine wpList_store_row rfl 23 _ _ rfl w.heap.size #[.int .i64 QX, .int .i64 QV, .int .i64 QA, .int .i64 QB, .int .i64 QC, .bool qb, .int .i64 qm] rfl rfl 23 _ HST.out (by kernel_rfl) rfl (by simp [Value.oneCell']) ?_)
        exact ⟨⟨k + 1, by omega, by go_num, by rw [HN.out]; rfl, by rw [HN.out]; exact HST.out.setRow _, by first | exact HU.out.setRow_other (by omega) _ | (rw [hgu]; exact HU.out.setRow_other (by omega) _), by first | exact HR.out.setRow_other (by omega) _ | (rw [hgr]; exact HR.out.setRow_other (by omega) _), below_setRow HB.out (Nat.le_refl _) _⟩, by simp [intOf]; omega⟩
      · go_wp2_with (refine wpList_store_row rfl 23 _ _ rfl w.heap.size #[.int .i64 QX, .int .i64 QV, .int .i64 QA, .int .i64 QB, .int .i64 QC, .bool qb, .int .i64 qm] rfl rfl 23 _ HST.out (by kernel_rfl) rfl (by simp [Value.oneCell']) ?_)
        exact ⟨⟨k + 1, by omega, by go_num, by rw [HN.out]; rfl, by rw [HN.out]; exact HST.out.setRow _, by first | exact HU.out.setRow_other (by omega) _ | (rw [hgu]; exact HU.out.setRow_other (by omega) _), by first | exact HR.out.setRow_other (by omega) _ | (rw [hgr]; exact HR.out.setRow_other (by omega) _), below_setRow HB.out (Nat.le_refl _) _⟩, by simp [intOf]; omega⟩
    · obtain rfl : k = zs.length := by omega
      clear hlt
      rw [List.take_length] at hcnt hin hst ⊢
      obtain ⟨p, hp⟩ : ∃ p, runs dt q r gate (⟨X, V, P00, P01, P11, bent, missed⟩, 0) zs = p := ⟨_, rfl⟩
      have HN := Lib.hid hp
      rw [hp] at hcnt hin hst ⊢
      clear hp
      obtain ⟨⟨SX, SV, SA, SB, SC, sb, sm⟩, n⟩ := p
      simp only at hcnt hin hst ⊢
      have HST := Lib.hid (show Blk wr w.heap.size 23 #[.int .i64 SX, .int .i64 SV, .int .i64 SA, .int .i64 SB, .int .i64 SC, .bool sb, .int .i64 sm] from hst)
      clear hst hin hcnt
      go_wp2_with (first | (refine wpList_whole rfl 23 _ rfl w.heap.size rfl HST.out _ Try.underlying23 rfl (by kernel_rfl) ?_) | (refine wpList_store_row rfl 23 _ _ rfl gr #[.int .i64 SX, .int .i64 SV, .int .i64 SA, .int .i64 SB, .int .i64 SC, .bool sb, .int .i64 sm] rfl rfl 23 _ HR.out (by kernel_rfl) rfl (by simp [Value.oneCell']) ?_))
      refine ret_row2 (x := .int .i64 n) rfl rfl rfl (HR.out.setRow #[.int .i64 SX, .int .i64 SV, .int .i64 SA, .int .i64 SB, .int .i64 SC, .bool sb, .int .i64 sm]) ⟨by rw [Try.underlying23], by kernel_rfl⟩ rfl ?_
      exact ⟨by rw [HN.out]; rfl, below_setRow HB.out (by omega) _⟩
end Go.Proofs.Ytajhkbdaoakogaa.BigW
