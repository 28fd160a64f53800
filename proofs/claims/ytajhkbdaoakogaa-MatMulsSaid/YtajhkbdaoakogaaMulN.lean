/- Contracts: mat.fresh, put, mat.Mul. -/
import Derived.Test.YtajhkbdaoakogaaTimesA
import Derived.Test.YtajhkbdaoakogaaVec
import Derived.Test.YtajhkbdaoakogaaMats
import Derived.Test.YtajhkbdaoakogaaRegR
import Derived.Test.YtajhkbdaoakogaaRes
import Derived.IntWalk
namespace Go.Proofs.Ytajhkbdaoakogaa.Mats
open Go.ChangeShapes Go.WideShapes Go.ChangeAt Go.RowKit Go.Proofs.Ytajhkbdaoakogaa.Mem
set_option linter.unusedVariables false

/-- a matrix at work: N, its numbers in block s, whether a step was bent in block p -/
def workC (N m s p : Nat) : Array Value := #[.int .i64 (N : Int), .slice (some ⟨s, 0, none⟩) m m, .pointer (some ⟨p, 0, none⟩)]
def Fresh (w w' : World) (N m : Nat) (e : Ending) : Prop :=
  ∃ s p, e = .returned (.agg (workC N m s p)) ∧ w.heap.size ≤ s ∧ s < p ∧ p < w'.heap.size ∧ Blk w' s 3 (rowF .i64 m fun _ => 0) ∧ Blk w' p 4 #[.bool false] ∧ Below w.heap.size w w'

theorem fresh_any (N m : Nat) (hm : N * N = m) (h6 : m ≤ 36) (w : World) :
    Calls Try.prog 78 #[.int .i64 (N : Int)] w fun e w' => Fresh w w' N m e := by
  have e1 : IntKind.i64.wrap ((N : Int) * (N : Int)) = (m : Int) := by rw [← Int.natCast_mul, hm]; exact IntWalk.i64_in _ (by omega)
  clear hm
  go_enter Try.func78, Try.ntmps78
  go_wp2_with (refine wpList_make_row rfl (.tmp 6) (.tmp 6) 32 rfl elemInts m rfl rfl rfl rfl (by omega) (by omega) ?_)
  refine ret_row rfl rfl (((Blk.new rfl).alloc _).alloc _) Try.underlying97 rfl (by kernel_rfl) rfl ⟨w.heap.size + 1, w.heap.size + 1 + 1, rfl, by omega, by omega, by simp, (Blk.new (by simp)).alloc _, Blk.new (by simp), ?_⟩
  exact (((Below.refl _ _).alloc (Nat.le_refl _) _).alloc (by simp) _).alloc (by simp; omega) _

theorem put_any (N m s p r c q : Nat) (v : Int) (f : Nat → Int) (hq : r * N = q) (hi : q + c < m) (hm : m ≤ 36) (w : World) (hs : Blk w s 3 (rowF .i64 m f)) :
    Calls Try.prog 79 #[.agg (workC N m s p), .int .i64 (r : Int), .int .i64 (c : Int), .int .i64 v] w fun e w' => e = .returned (.tuple #[]) ∧ Blk w' s 3 (rowF .i64 m fun j => if j = q + c then v else f j) ∧ w.grownBy w' (some s) := by
  have e1 : IntKind.i64.wrap ((r : Int) * (N : Int)) = (q : Int) := by rw [← Int.natCast_mul, hq]; exact IntWalk.i64_in _ (by omega)
  have hs1 := hs.alloc (.cells #[.int .i64 (N : Int), .slice (some ⟨s, 0, none⟩) m m, .pointer (some ⟨p, 0, none⟩)] 97)
  have HS := Lib.hid hs
  have hlt := hs.lt
  have hx := hs1.cell (q + c)
  have hf := hs1.thaw (q + c)
  rw [rowF_at _ _ _ _ hi] at hx
  unfold workC
  clear hq hs hs1
  go_enter Try.func79, Try.ntmps79
  go_wp2_with fail
  go_end0
  refine ⟨rfl, ?_, ?_⟩
  · rw [← rowF_set (f := f) (j := q + c) (v := v) (fun j _ => rfl)]
    exact (HS.out.set _ _).alloc _
  · exact ⟨rfl, rfl, rfl, by simp, fun g hg hne => (Below.heap_alloc (w.setCell ⟨s, q + c, none⟩ (.int .i64 v)) _ g (by simpa using hg)).trans (Below.heap_setCell w ⟨s, q + c, none⟩ _ g (fun e => hne (by rw [e])))⟩

end Go.Proofs.Ytajhkbdaoakogaa.Mats

namespace Go.Proofs.Ytajhkbdaoakogaa.BigW
open Go.RowKit Go.Proofs.Ytajhkbdaoakogaa.Mem Go.Proofs.Ytajhkbdaoakogaa.BigLaw Go.Proofs.Ytajhkbdaoakogaa.Rws Go.Proofs.Ytajhkbdaoakogaa.Ints Go.Proofs.Ytajhkbdaoakogaa.Mats
set_option linter.unusedVariables false
set_option linter.unusedSimpArgs false

/-- P3.3: number by number, and whether anything bent -/
def mulF (N : Nat) (zs vs : List Int) : Nat → List Int × Bool
  | 0 => ([], false)
  | d + 1 => ((mulF N zs vs d).1 ++ [(chainF (fun t => zs.getD (d / N * N + t) 0) (fun t => vs.getD (t * N + d % N) 0) N).1], (mulF N zs vs d).2 || (chainF (fun t => zs.getD (d / N * N + t) 0) (fun t => vs.getD (t * N + d % N) 0) N).2)
theorem mulF_length (N : Nat) (zs vs : List Int) : ∀ d, (mulF N zs vs d).1.length = d
  | 0 => rfl
  | d + 1 => by simp [mulF, mulF_length N zs vs d]
theorem mulF_succ (N : Nat) (zs vs : List Int) (I C : Nat) (hC : C < N) : mulF N zs vs (I * N + C + 1) = ((mulF N zs vs (I * N + C)).1 ++ [(chainF (fun t => zs.getD (I * N + t) 0) (fun t => vs.getD (t * N + C) 0) N).1], (mulF N zs vs (I * N + C)).2 || (chainF (fun t => zs.getD (I * N + t) 0) (fun t => vs.getD (t * N + C) 0) N).2) := by
  have h1 : (I * N + C) / N = I := by rw [Nat.mul_comm, Nat.mul_add_div (by omega), Nat.div_eq_of_lt hC, Nat.add_zero]
  have h2 : (I * N + C) % N = C := by rw [Nat.mul_comm, Nat.mul_add_mod, Nat.mod_eq_of_lt hC]
  show mulF N zs vs ((I * N + C) + 1) = _
  rw [mulF, h1, h2]
theorem getD_snoc (l : List Int) (x : Int) (j : Nat) : (l ++ [x]).getD j 0 = if j = l.length then x else l.getD j 0 := by
  rw [List.getD_eq_getElem?_getD, List.getD_eq_getElem?_getD]
  by_cases h : j = l.length
  · subst h; rw [if_pos rfl]; simp
  · rw [if_neg h]
    rcases Nat.lt_or_ge j l.length with h1 | h1
    · rw [List.getElem?_append_left h1]
    · rw [List.getElem?_eq_none (by simp; omega), List.getElem?_eq_none h1]
theorem rowF_list (l : List Int) : (rowF .i64 l.length fun j => l.getD j 0).toList = intsV l := by
  unfold rowF intsV
  apply List.ext_getElem?
  intro i
  rcases Nat.lt_or_ge i l.length with h | h
  · simp [h]
  · rw [List.getElem?_eq_none (by simpa using h), List.getElem?_eq_none (by simpa using h)]
/-- a matrix, a Bool and an error handed back -/
def GaveMat (w w' : World) (N : Int) (l : List Int) (b : Bool) (x : Int) (e : Ending) : Prop :=
  ∃ A c, e = .returned (.tuple #[.agg #[.int .i64 N, .slice A l.length c], .bool b, .int .i64 x]) ∧ Rd w' w'.heap.size 1 A l.length (intsV l) ∧ (∀ a, A = some a → w.heap.size ≤ a.block) ∧ Below w.heap.size w w'

/-- mat.Mul's blocks: what is reckoned so far -/
structure MulAt (w wr : World) (m : Nat) (MA MB WM : Array Value) (gb gr ga gk gt : Nat) (l : List Int) (b : Bool) : Prop where
  row : Blk wr ga 3 (rowF .i64 m fun j => l.getD j 0)
  bent : Bn wr gk b
  work : Blk wr gt 97 WM
  left : Blk wr w.heap.size 49 MA
  right : Blk wr gb 49 MB
  res : Blk wr gr 49 #[.int .i64 0, .slice none 0 0]
  bel : Below w.heap.size w wr

set_option maxRecDepth 100000 in
set_option maxHeartbeats 1500000 in
theorem mul_yes (N : Nat) (A A' : Option Addr) (c c' : Nat) (zs vs : List Int) (w : World) (hN : 1 ≤ N) (h6 : N ≤ 6) (hl : zs.length = N * N) (hv : vs.length = N * N) (hr : Rd w w.heap.size 1 A zs.length (intsV zs)) (hr' : Rd w w.heap.size 1 A' vs.length (intsV vs)) (hz : ∀ k, In64 (zs.getD k 0)) (hzv : ∀ k, In64 (vs.getD k 0)) :
    Calls Try.prog 39 #[matV (N : Int) A zs.length c, matV (N : Int) A' vs.length c'] w fun e w' => GaveMat w w' (N : Int) (mulF N zs vs (N * N)).1 (mulF N zs vs (N * N)).2 0 e := by
  have HR := Lib.hid hr
  have HR' := Lib.hid hr'
  have HZ := Lib.hid hz
  have HZV := Lib.hid hzv
  have HN := Lib.hid hN
  have HL := Lib.hid hl
  have HVL := Lib.hid hv
  have hgood : ∀ k : Nat, k = N * N → good (N : Int) k = true := fun k hk => by
    unfold good
    rw [decide_eq_true (show (1 : Int) ≤ N by omega), decide_eq_true (show (N : Int) ≤ 6 by omega), decide_eq_true (by rw [hk]; push_cast; rfl)]
    rfl
  have HGD := Lib.hid (hgood _ hl)
  have HGD2 := Lib.hid (hgood _ hv)
  have h36 := Lib.hid (sq_36 h6)
  clear hr hr' hz hzv hl hv hgood
  unfold matV
  have HM := Lib.hid (show Blk (((w.alloc (.cells #[.int .i64 (N : Int), .slice A zs.length c] 49)).alloc (.cells #[.int .i64 (N : Int), .slice A' vs.length c'] 49)).alloc (.cells #[.int .i64 0, .slice none 0 0] 49)) w.heap.size 49 #[.int .i64 (N : Int), .slice A zs.length c] from ((Blk.new rfl).alloc _).alloc _)
  have HM2 := Lib.hid (show Blk (((w.alloc (.cells #[.int .i64 (N : Int), .slice A zs.length c] 49)).alloc (.cells #[.int .i64 (N : Int), .slice A' vs.length c'] 49)).alloc (.cells #[.int .i64 0, .slice none 0 0] 49)) (w.heap.size + 1) 49 #[.int .i64 (N : Int), .slice A' vs.length c'] from (Blk.new (by simp)).alloc _)
  have HRS := Lib.hid (show Blk (((w.alloc (.cells #[.int .i64 (N : Int), .slice A zs.length c] 49)).alloc (.cells #[.int .i64 (N : Int), .slice A' vs.length c'] 49)).alloc (.cells #[.int .i64 0, .slice none 0 0] 49)) (w.heap.size + 1 + 1) 49 #[.int .i64 0, .slice none 0 0] from Blk.new (by simp))
  have HB := Lib.hid (show Below w.heap.size w (((w.alloc (.cells #[.int .i64 (N : Int), .slice A zs.length c] 49)).alloc (.cells #[.int .i64 (N : Int), .slice A' vs.length c'] 49)).alloc (.cells #[.int .i64 0, .slice none 0 0] 49)) from (((Below.refl _ _).alloc (Nat.le_refl _) _).alloc (by simp) _).alloc (by simp; omega) _)
  go_enter Try.func39, Try.ntmps39
  go_upto_region 1 with fail
  generalize (((w.alloc (.cells #[.int .i64 (N : Int), .slice A zs.length c] 49)).alloc (.cells #[.int .i64 (N : Int), .slice A' vs.length c'] 49)).alloc (.cells #[.int .i64 0, .slice none 0 0] 49)) = w1 at *
  obtain ⟨gr, hgr⟩ : ∃ g, w.heap.size + 1 + 1 = g := ⟨_, rfl⟩
  rw [hgr] at HRS ⊢
  obtain ⟨gb, hgb⟩ : ∃ g, w.heap.size + 1 = g := ⟨_, rfl⟩
  rw [hgb] at HM2 ⊢
  go_wp2_with (first | (refine wpList_whole rfl 49 _ rfl w.heap.size rfl HM.out _ Try.underlying49 rfl (by kernel_rfl) ?_) | (refine wpList_whole rfl 49 _ rfl gb rfl HM2.out _ Try.underlying49 rfl (by kernel_rfl) ?_))
  refine (good_any (N : Int) A zs.length c w1).mono ?_
  rintro e w2 ⟨rfl, hb⟩
  rw [HGD.out]
  have HM := Lib.hid (HM.out.below hb HM.out.lt)
  have HM2 := Lib.hid (HM2.out.below hb HM2.out.lt)
  have HRS := Lib.hid (HRS.out.below hb HRS.out.lt)
  have HB := Lib.hid (onward HB.out (Nat.le_refl _) hb)
  clear hb
  have j0 : w2.cell? ⟨gb, 0, none⟩ = some (.int .i64 (N : Int)) := (HM2.out.cell 0).trans rfl
  have j1 : w2.cell? ⟨gb, 1, none⟩ = some (.slice A' vs.length c') := (HM2.out.cell 1).trans rfl
  go_wp2_with (first | (refine wpList_whole rfl 49 _ rfl w.heap.size rfl HM.out _ Try.underlying49 rfl (by kernel_rfl) ?_) | (refine wpList_whole rfl 49 _ rfl gb rfl HM2.out _ Try.underlying49 rfl (by kernel_rfl) ?_))
  refine (good_any (N : Int) A' vs.length c' w2).mono ?_
  rintro e w3 ⟨rfl, hb⟩
  rw [HGD2.out]
  have HM := Lib.hid (HM.out.below hb HM.out.lt)
  have HM2 := Lib.hid (HM2.out.below hb HM2.out.lt)
  have HRS := Lib.hid (HRS.out.below hb HRS.out.lt)
  have HB := Lib.hid (onward HB.out (Nat.le_refl _) hb)
  clear hb j0 j1
  have k0 : w3.cell? ⟨w.heap.size, 0, none⟩ = some (.int .i64 (N : Int)) := (HM.out.cell 0).trans rfl
  have k1 : w3.cell? ⟨gb, 0, none⟩ = some (.int .i64 (N : Int)) := (HM2.out.cell 0).trans rfl
  go_wp2_with fail
  obtain ⟨m, hm⟩ : ∃ m, N * N = m := ⟨_, rfl⟩
  have HMM := Lib.hid hm
  rw [hm] at h36 HL HVL
  clear hm
  refine (fresh_any N m HMM.out h36.out w3).mono ?_
  rintro e w4 ⟨ga, gk, rfl, hga, hgk, hgs, hrow, hbent, hb⟩
  have hrl : gr < w3.heap.size := HRS.out.lt
  have HM := Lib.hid (HM.out.below hb HM.out.lt)
  have HM2 := Lib.hid (HM2.out.below hb HM2.out.lt)
  have HRS := Lib.hid (HRS.out.below hb HRS.out.lt)
  have HB := Lib.hid (onward HB.out (Nat.le_refl _) hb)
  have HROW := Lib.hid hrow
  have HBE := Lib.hid (show Bn w4 gk false from hbent)
  clear hb hrow hbent k0 k1
  unfold workC
  go_upto_region 4 with fail
  have HAT := Lib.hid (MulAt.mk (w := w) (wr := (w4.alloc (.cells #[.int .i64 (N : Int), .slice (some ⟨ga, 0, none⟩) m m, .pointer (some ⟨gk, 0, none⟩)] 97))) (m := m) (l := []) (b := false) (by exact HROW.out.alloc _) (Blk.alloc HBE.out _) (Blk.fresh _ _ _) (HM.out.alloc _) (HM2.out.alloc _) (HRS.out.alloc _) (HB.out.alloc HB.out.size _))
  clear HROW HBE HM HM2 HRS HB
  generalize (w4.alloc (.cells #[.int .i64 (N : Int), .slice (some ⟨ga, 0, none⟩) m m, .pointer (some ⟨gk, 0, none⟩)] 97)) = w5 at *
  obtain ⟨gt, hgt⟩ : ∃ g, w4.heap.size = g := ⟨_, rfl⟩
  rw [hgt] at HAT hgs ⊢
  clear hgt
  have k0 : w5.cell? ⟨w.heap.size, 0, none⟩ = some (.int .i64 (N : Int)) := (HAT.out.left.cell 0).trans rfl
  go_wp2_with fail
  clear k0
  go_loopw [33] (fun i wr => ∃ I : Nat, I ≤ N ∧ i = .int .i64 I ∧ MulAt w wr m #[.int .i64 (N : Int), .slice A zs.length c] #[.int .i64 (N : Int), .slice A' vs.length c'] #[.int .i64 (N : Int), .slice (some ⟨ga, 0, none⟩) m m, .pointer (some ⟨gk, 0, none⟩)] gb gr ga gk gt (mulF N zs vs (I * N)).1 (mulF N zs vs (I * N)).2) (fun i _ => N - (intOf i).toNat)
  case atStart => exact ⟨0, by omega, rfl, by rw [Nat.zero_mul]; exact HAT.out⟩
  case round =>
    clear HAT
    obtain ⟨I, hI, rfl, hat⟩ := hrel
    have HAT := Lib.hid hat
    clear hat
    by_cases hlt : I < N
    · have hlt1 : (I : Int) < (N : Int) := by omega
      have k0 : wr.cell? ⟨w.heap.size, 0, none⟩ = some (.int .i64 (N : Int)) := (HAT.out.left.cell 0).trans rfl
      go_wp2_with fail
      clear k0
      go_loopw [38] (fun k wr => ∃ C : Nat, C ≤ N ∧ k = .int .i64 C ∧ MulAt w wr m #[.int .i64 (N : Int), .slice A zs.length c] #[.int .i64 (N : Int), .slice A' vs.length c'] #[.int .i64 (N : Int), .slice (some ⟨ga, 0, none⟩) m m, .pointer (some ⟨gk, 0, none⟩)] gb gr ga gk gt (mulF N zs vs (I * N + C)).1 (mulF N zs vs (I * N + C)).2) (fun k _ => N - (intOf k).toNat)
      case atStart => exact ⟨0, by omega, rfl, by rw [Nat.add_zero]; exact HAT.out⟩
      case round =>
        clear HAT
        obtain ⟨C, hC, rfl, hat⟩ := hrel
        have HAT := Lib.hid hat
        clear hat
        by_cases hCt : C < N
        · have HTS := Lib.hid (mulF_succ N zs vs I C hCt)
          have HTL := Lib.hid (mulF_length N zs vs (I * N + C))
          obtain ⟨⟨tl, tb⟩, htt⟩ : ∃ tt, mulF N zs vs (I * N + C) = tt := ⟨_, rfl⟩
          rw [htt] at HTS HTL HAT
          simp only at HTS HTL HAT
          clear htt
          have hCt1 : (C : Int) < (N : Int) := by omega
          have k0 : wr.cell? ⟨w.heap.size, 0, none⟩ = some (.int .i64 (N : Int)) := (HAT.out.left.cell 0).trans rfl
          go_wp2_with fail
          clear k0
          go_loopw [10, 43] (fun s j wr => ∃ J : Nat, J ≤ N ∧ j = .int .i64 J ∧ s = .int .i64 (chainF (fun t => zs.getD (I * N + t) 0) (fun t => vs.getD (t * N + C) 0) J).1 ∧ MulAt w wr m #[.int .i64 (N : Int), .slice A zs.length c] #[.int .i64 (N : Int), .slice A' vs.length c'] #[.int .i64 (N : Int), .slice (some ⟨ga, 0, none⟩) m m, .pointer (some ⟨gk, 0, none⟩)] gb gr ga gk gt tl (tb || (chainF (fun t => zs.getD (I * N + t) 0) (fun t => vs.getD (t * N + C) 0) J).2)) (fun _ j _ => N - (intOf j).toNat)
          case atStart => exact ⟨0, by omega, rfl, rfl, by have h := HAT.out; simpa [chainF] using h⟩
          case round =>
            clear HAT
            obtain ⟨J, hJ, rfl, rfl, hat⟩ := hrel
            have HK := Lib.hid hat.bent
            have HROW := Lib.hid hat.row
            have HWK := Lib.hid hat.work
            have HM := Lib.hid hat.left
            have HM2 := Lib.hid hat.right
            have HRS := Lib.hid hat.res
            have HB := Lib.hid hat.bel
            clear hat
            have r_s := Lib.hid (chainF_range (fun t => zs.getD (I * N + t) 0) (fun t => vs.getD (t * N + C) 0) J)
            by_cases hJt : J < N
            · have HCH := Lib.hid (show chainF (fun t => zs.getD (I * N + t) 0) (fun t => vs.getD (t * N + C) 0) (J + 1) = ((fadd (chainF (fun t => zs.getD (I * N + t) 0) (fun t => vs.getD (t * N + C) 0) J).1 (fmul (zs.getD (I * N + J) 0) (vs.getD (J * N + C) 0)).1).1, (chainF (fun t => zs.getD (I * N + t) 0) (fun t => vs.getD (t * N + C) 0) J).2 || (fmul (zs.getD (I * N + J) 0) (vs.getD (J * N + C) 0)).2 || (fadd (chainF (fun t => zs.getD (I * N + t) 0) (fun t => vs.getD (t * N + C) 0) J).1 (fmul (zs.getD (I * N + J) 0) (vs.getD (J * N + C) 0)).1).2) from rfl)
              have hIJ : I * N + J < zs.length := by rw [HL.out, ← HMM.out]; exact sq_idx hlt hJt
              have hJC : J * N + C < vs.length := by rw [HVL.out, ← HMM.out]; exact sq_idx hJt hCt
              obtain ⟨ba, oa, u, rfl, hbA, hu, hca⟩ := (HR.out.below HB.out).at hIJ
              rw [intsV_at zs _ hIJ] at hu
              injection hu with hu
              subst hu
              rw [← getD_of hIJ] at hca
              obtain ⟨bb, ob, u, rfl, hbB, hu, hcb⟩ := (HR'.out.below HB.out).at hJC
              rw [intsV_at vs _ hJC] at hu
              injection hu with hu
              subst hu
              rw [← getD_of hJC] at hcb
              have r_a := Lib.hid (HZ.out (I * N + J))
              have r_x := Lib.hid (HZV.out (J * N + C))
              obtain ⟨⟨s, cb⟩, hch⟩ : ∃ ch, chainF (fun t => zs.getD (I * N + t) 0) (fun t => vs.getD (t * N + C) 0) J = ch := ⟨_, rfl⟩
              rw [hch] at HCH r_s HK ⊢
              clear hch
              simp only at HCH r_s HK ⊢
              obtain ⟨a, ha⟩ : ∃ a, zs.getD (I * N + J) 0 = a := ⟨_, rfl⟩
              obtain ⟨x, hx⟩ : ∃ x, vs.getD (J * N + C) 0 = x := ⟨_, rfl⟩
              rw [ha] at HCH r_a hca
              rw [hx] at HCH r_x hcb
              clear ha hx
              obtain ⟨⟨p, pb⟩, hp⟩ : ∃ r, fmul a x = r := ⟨_, rfl⟩
              have r_p := Lib.hid (show In64 p from by have h := fmul_range a x; rw [hp] at h; exact h)
              have P_ := Lib.hid hp
              rw [hp] at HCH
              simp only at HCH
              obtain ⟨⟨q, qb⟩, hq⟩ : ∃ r, fadd s p = r := ⟨_, rfl⟩
              have Q_ := Lib.hid hq
              rw [hq] at HCH
              clear hp hq
              obtain ⟨qi, hqi⟩ : ∃ q, I * N = q := ⟨_, rfl⟩
              obtain ⟨qj, hqj⟩ : ∃ q, J * N = q := ⟨_, rfl⟩
              have hqi1 : (I : Int) * (N : Int) = (qi : Int) := by rw [← hqi]; push_cast; rfl
              have hqj1 : (J : Int) * (N : Int) = (qj : Int) := by rw [← hqj]; push_cast; rfl
              rw [hqi] at hIJ hca
              rw [hqj] at hJC hcb
              have HQI := Lib.hid hqi
              have HQJ := Lib.hid hqj
              clear hqi hqj
              have hz36 : (zs.length : Int) ≤ 36 := by have := HL.out; have := h36.out; omega
              have hv36 : (vs.length : Int) ≤ 36 := by have := HVL.out; have := h36.out; omega
              have h1 : (qi : Int) + (J : Int) < (zs.length : Int) := by omega
              have h2 : (qj : Int) + (C : Int) < (vs.length : Int) := by omega
              have t1 : ((qi : Int) + (J : Int)).toNat = qi + J := by omega
              have t2 : ((qj : Int) + (C : Int)).toNat = qj + C := by omega
              have hJt1 : (J : Int) < (N : Int) := by omega
              have w1 : IntKind.i64.wrap (qi : Int) = (qi : Int) := IntWalk.i64_in _ (by omega)
              have w2 : IntKind.i64.wrap (qj : Int) = (qj : Int) := IntWalk.i64_in _ (by omega)
              have w3 : IntKind.i64.wrap ((qi : Int) + (J : Int)) = (qi : Int) + (J : Int) := IntWalk.i64_in _ (by omega)
              have w4 : IntKind.i64.wrap ((qj : Int) + (C : Int)) = (qj : Int) + (C : Int) := IntWalk.i64_in _ (by omega)
              have p1 : (0 : Int) ≤ (qi : Int) + (J : Int) := by omega
              have p2 : (0 : Int) ≤ (qj : Int) + (C : Int) := by omega
              have HCA := Lib.hid hca
              have HCB := Lib.hid hcb
              have HBR := Lib.hid (And.intro hbA hbB)
              clear hca hcb hbA hbB
              go_upto_region 14 with fail
              have HK := Lib.hid (Blk.drew HK.out)
              have HWK := Lib.hid HWK.out.drew
              have HM := Lib.hid HM.out.drew
              have HM2 := Lib.hid HM2.out.drew
              have HRS := Lib.hid HRS.out.drew
              have HROW := Lib.hid HROW.out.drew
              have HCA : Hid (wr.drew.cell? ⟨ba, oa + (qi + J), none⟩ = some (.int .i64 a)) := Lib.hid HCA.out
              have HCB : Hid (wr.drew.cell? ⟨bb, ob + (qj + C), none⟩ = some (.int .i64 x)) := Lib.hid HCB.out
              have HBA := Lib.hid (show ba < wr.drew.heap.size from Nat.lt_of_lt_of_le HBR.out.1 HB.out.size)
              have HBB := Lib.hid (show bb < wr.drew.heap.size from Nat.lt_of_lt_of_le HBR.out.2 HB.out.size)
              have HB := Lib.hid HB.out.drew
              have HS := And.intro HWK.out (And.intro ((HM.out.cell 0).trans rfl) (And.intro ((HM.out.cell 1).trans rfl) (And.intro ((HM2.out.cell 1).trans rfl) (And.intro HCA.out HCB.out))))
              refine wp_region_noPanic ?_
              refine Rg.beginR [0, 2, 4, 7, 12, 14, 17, 22] (fun w' => Blk w' gt 97 #[.int .i64 (N : Int), .slice (some ⟨ga, 0, none⟩) m m, .pointer (some ⟨gk, 0, none⟩)] ∧ w'.cell? ⟨w.heap.size, 0, none⟩ = some (.int .i64 (N : Int)) ∧ w'.cell? ⟨w.heap.size, 1, none⟩ = some (.slice (some ⟨ba, oa, none⟩) zs.length c) ∧ w'.cell? ⟨gb, 1, none⟩ = some (.slice (some ⟨bb, ob, none⟩) vs.length c') ∧ w'.cell? ⟨ba, oa + (qi + J), none⟩ = some (.int .i64 a) ∧ w'.cell? ⟨bb, ob + (qj + C), none⟩ = some (.int .i64 x)) (by kernel_rfl) ?_
              generalize wr.drew = w1 at *
              refine Rg.takeS (i := 0) (oi := { dst := some 46, op := Op.load 97 (Operand.tmp 7), type := 97, pos := "mat.go:58", after := #[], guard := none }) (v := .agg #[.int .i64 (N : Int), .slice (some ⟨ga, 0, none⟩) m m, .pointer (some ⟨gk, 0, none⟩)]) rfl (by kernel_rfl) (fun _ _ _ h => h) (by rfl) HS ?_ ?_
              · (intro w' hSw; exact exec_load_st 97 (.tmp 7) rfl gt rfl hSw.1 Try.underlying97 rfl (by kernel_rfl))
              try simp only [Act.put, List.setIfInBounds_toArray, List.set_cons_zero, List.set_cons_succ]
              refine Rg.takeP (i := 1) (oi := { dst := some 47, op := Op.move (Operand.tmp 10), type := 3, pos := "mat.go:58", after := #[], guard := none }) (v := ?_) rfl (by kernel_rfl) (fun _ _ _ h => h) (by rfl) ?_ ?_
              rotate_left 1
              · (intro w; go_simp; (try with_reducible rfl))
              try simp only [Act.put, List.setIfInBounds_toArray, List.set_cons_zero, List.set_cons_succ]
              refine Rg.takeS (i := 2) (oi := { dst := some 48, op := Op.load 97 (Operand.tmp 7), type := 97, pos := "mat.go:58", after := #[], guard := none }) (v := .agg #[.int .i64 (N : Int), .slice (some ⟨ga, 0, none⟩) m m, .pointer (some ⟨gk, 0, none⟩)]) rfl (by kernel_rfl) (fun _ _ _ h => h) (by rfl) HS ?_ ?_
              · (intro w' hSw; exact exec_load_st 97 (.tmp 7) rfl gt rfl hSw.1 Try.underlying97 rfl (by kernel_rfl))
              try simp only [Act.put, List.setIfInBounds_toArray, List.set_cons_zero, List.set_cons_succ]
              refine Rg.takeP (i := 3) (oi := { dst := some 49, op := Op.fieldAddr 49 (Operand.tmp 2) 1, type := 0, pos := "mat.go:58", after := #[], guard := none }) (v := ?_) rfl (by kernel_rfl) (fun _ _ _ h => h) (by rfl) ?_ ?_
              rotate_left 1
              · (intro w; go_simp; (try with_reducible rfl))
              try simp only [Act.put, List.setIfInBounds_toArray, List.set_cons_zero, List.set_cons_succ]
              refine Rg.takeS (i := 4) (oi := { dst := some 50, op := Op.load 32 (Operand.tmp 49), type := 32, pos := "mat.go:58", after := #[{ on := 3, ground := Ground.data }], guard := none }) (v := ?_) rfl (by kernel_rfl) (fun _ _ _ h => h) (by rfl) HS ?_ ?_
              rotate_left 1
              · (intro w hSw; (try dsimp only at hSw); (try go_split_ands); go_simp; (try with_reducible rfl))
              try simp only [Act.put, List.setIfInBounds_toArray, List.set_cons_zero, List.set_cons_succ]
              refine Rg.takeP (i := 5) (oi := { dst := some 51, op := Op.move (Operand.tmp 8), type := 3, pos := "mat.go:58", after := #[], guard := none }) (v := ?_) rfl (by kernel_rfl) (fun _ _ _ h => h) (by rfl) ?_ ?_
              rotate_left 1
              · (intro w; go_simp; (try with_reducible rfl))
              try simp only [Act.put, List.setIfInBounds_toArray, List.set_cons_zero, List.set_cons_succ]
              refine Rg.takeP (i := 6) (oi := { dst := some 52, op := Op.fieldAddr 49 (Operand.tmp 2) 0, type := 0, pos := "mat.go:58", after := #[], guard := none }) (v := ?_) rfl (by kernel_rfl) (fun _ _ _ h => h) (by rfl) ?_ ?_
              rotate_left 1
              · (intro w; go_simp; (try with_reducible rfl))
              try simp only [Act.put, List.setIfInBounds_toArray, List.set_cons_zero, List.set_cons_succ]
              refine Rg.takeS (i := 7) (oi := { dst := some 53, op := Op.load 3 (Operand.tmp 52), type := 3, pos := "mat.go:58", after := #[{ on := 6, ground := Ground.data }], guard := none }) (v := ?_) rfl (by kernel_rfl) (fun _ _ _ h => h) (by rfl) HS ?_ ?_
              rotate_left 1
              · (intro w hSw; (try dsimp only at hSw); (try go_split_ands); go_simp; (try with_reducible rfl))
              try simp only [Act.put, List.setIfInBounds_toArray, List.set_cons_zero, List.set_cons_succ]
              refine Rg.takeP (i := 8) (oi := { dst := some 54, op := Op.binOp BinOp.mul 3 (Operand.tmp 51) (Operand.tmp 53) 3, type := 3, pos := "mat.go:58", after := #[{ on := 5, ground := Ground.data }, { on := 7, ground := Ground.data }], guard := none }) (v := ?_) rfl (by kernel_rfl) (fun _ _ _ h => h) (by rfl) ?_ ?_
              rotate_left 1
              · (intro w; go_simp; (try simp only [hqi1, hqj1, w1, w2, w3, w4, t1, t2, if_pos (And.intro p1 h1), if_pos (And.intro p2 h2)]); (try with_reducible rfl))
              try simp only [Act.put, List.setIfInBounds_toArray, List.set_cons_zero, List.set_cons_succ]
              refine Rg.takeP (i := 9) (oi := { dst := some 55, op := Op.move (Operand.tmp 11), type := 3, pos := "mat.go:58", after := #[], guard := none }) (v := ?_) rfl (by kernel_rfl) (fun _ _ _ h => h) (by rfl) ?_ ?_
              rotate_left 1
              · (intro w; go_simp; (try with_reducible rfl))
              try simp only [Act.put, List.setIfInBounds_toArray, List.set_cons_zero, List.set_cons_succ]
              refine Rg.takeP (i := 10) (oi := { dst := some 56, op := Op.binOp BinOp.add 3 (Operand.tmp 54) (Operand.tmp 55) 3, type := 3, pos := "mat.go:58", after := #[{ on := 8, ground := Ground.data }, { on := 9, ground := Ground.data }], guard := none }) (v := ?_) rfl (by kernel_rfl) (fun _ _ _ h => h) (by rfl) ?_ ?_
              rotate_left 1
              · (intro w; go_simp; (try simp only [hqi1, hqj1, w1, w2, w3, w4, t1, t2, if_pos (And.intro p1 h1), if_pos (And.intro p2 h2)]); (try with_reducible rfl))
              try simp only [Act.put, List.setIfInBounds_toArray, List.set_cons_zero, List.set_cons_succ]
              refine Rg.takeP (i := 11) (oi := { dst := some 57, op := Op.indexAddr 32 (Operand.tmp 50) (Operand.tmp 56), type := 0, pos := "mat.go:58", after := #[{ on := 4, ground := Ground.data }, { on := 10, ground := Ground.data }], guard := none }) (v := ?_) rfl (by kernel_rfl) (fun _ _ _ h => h) (by rfl) ?_ ?_
              rotate_left 1
              · (intro w; go_simp; (try simp only [hqi1, hqj1, w1, w2, w3, w4, t1, t2, if_pos (And.intro p1 h1), if_pos (And.intro p2 h2)]); (try with_reducible rfl))
              try simp only [Act.put, List.setIfInBounds_toArray, List.set_cons_zero, List.set_cons_succ]
              refine Rg.takeS (i := 12) (oi := { dst := some 58, op := Op.load 3 (Operand.tmp 57), type := 3, pos := "mat.go:58", after := #[{ on := 11, ground := Ground.data }], guard := none }) (v := ?_) rfl (by kernel_rfl) (fun _ _ _ h => h) (by rfl) HS ?_ ?_
              rotate_left 1
              · (intro w hSw; (try dsimp only at hSw); (try go_split_ands); go_simp; (try with_reducible rfl))
              try simp only [Act.put, List.setIfInBounds_toArray, List.set_cons_zero, List.set_cons_succ]
              refine Rg.takeP (i := 13) (oi := { dst := some 59, op := Op.fieldAddr 49 (Operand.tmp 3) 1, type := 0, pos := "mat.go:58", after := #[], guard := none }) (v := ?_) rfl (by kernel_rfl) (fun _ _ _ h => h) (by rfl) ?_ ?_
              rotate_left 1
              · (intro w; go_simp; (try with_reducible rfl))
              try simp only [Act.put, List.setIfInBounds_toArray, List.set_cons_zero, List.set_cons_succ]
              refine Rg.takeS (i := 14) (oi := { dst := some 60, op := Op.load 32 (Operand.tmp 59), type := 32, pos := "mat.go:58", after := #[{ on := 13, ground := Ground.data }], guard := none }) (v := ?_) rfl (by kernel_rfl) (fun _ _ _ h => h) (by rfl) HS ?_ ?_
              rotate_left 1
              · (intro w hSw; (try dsimp only at hSw); (try go_split_ands); go_simp; (try with_reducible rfl))
              try simp only [Act.put, List.setIfInBounds_toArray, List.set_cons_zero, List.set_cons_succ]
              refine Rg.takeP (i := 15) (oi := { dst := some 61, op := Op.move (Operand.tmp 11), type := 3, pos := "mat.go:58", after := #[], guard := none }) (v := ?_) rfl (by kernel_rfl) (fun _ _ _ h => h) (by rfl) ?_ ?_
              rotate_left 1
              · (intro w; go_simp; (try with_reducible rfl))
              try simp only [Act.put, List.setIfInBounds_toArray, List.set_cons_zero, List.set_cons_succ]
              refine Rg.takeP (i := 16) (oi := { dst := some 62, op := Op.fieldAddr 49 (Operand.tmp 2) 0, type := 0, pos := "mat.go:58", after := #[], guard := none }) (v := ?_) rfl (by kernel_rfl) (fun _ _ _ h => h) (by rfl) ?_ ?_
              rotate_left 1
              · (intro w; go_simp; (try with_reducible rfl))
              try simp only [Act.put, List.setIfInBounds_toArray, List.set_cons_zero, List.set_cons_succ]
              refine Rg.takeS (i := 17) (oi := { dst := some 63, op := Op.load 3 (Operand.tmp 62), type := 3, pos := "mat.go:58", after := #[{ on := 16, ground := Ground.data }], guard := none }) (v := ?_) rfl (by kernel_rfl) (fun _ _ _ h => h) (by rfl) HS ?_ ?_
              rotate_left 1
              · (intro w hSw; (try dsimp only at hSw); (try go_split_ands); go_simp; (try with_reducible rfl))
              try simp only [Act.put, List.setIfInBounds_toArray, List.set_cons_zero, List.set_cons_succ]
              refine Rg.takeP (i := 18) (oi := { dst := some 64, op := Op.binOp BinOp.mul 3 (Operand.tmp 61) (Operand.tmp 63) 3, type := 3, pos := "mat.go:58", after := #[{ on := 15, ground := Ground.data }, { on := 17, ground := Ground.data }], guard := none }) (v := ?_) rfl (by kernel_rfl) (fun _ _ _ h => h) (by rfl) ?_ ?_
              rotate_left 1
              · (intro w; go_simp; (try simp only [hqi1, hqj1, w1, w2, w3, w4, t1, t2, if_pos (And.intro p1 h1), if_pos (And.intro p2 h2)]); (try with_reducible rfl))
              try simp only [Act.put, List.setIfInBounds_toArray, List.set_cons_zero, List.set_cons_succ]
              refine Rg.takeP (i := 19) (oi := { dst := some 65, op := Op.move (Operand.tmp 9), type := 3, pos := "mat.go:58", after := #[], guard := none }) (v := ?_) rfl (by kernel_rfl) (fun _ _ _ h => h) (by rfl) ?_ ?_
              rotate_left 1
              · (intro w; go_simp; (try with_reducible rfl))
              try simp only [Act.put, List.setIfInBounds_toArray, List.set_cons_zero, List.set_cons_succ]
              refine Rg.takeP (i := 20) (oi := { dst := some 66, op := Op.binOp BinOp.add 3 (Operand.tmp 64) (Operand.tmp 65) 3, type := 3, pos := "mat.go:58", after := #[{ on := 18, ground := Ground.data }, { on := 19, ground := Ground.data }], guard := none }) (v := ?_) rfl (by kernel_rfl) (fun _ _ _ h => h) (by rfl) ?_ ?_
              rotate_left 1
              · (intro w; go_simp; (try simp only [hqi1, hqj1, w1, w2, w3, w4, t1, t2, if_pos (And.intro p1 h1), if_pos (And.intro p2 h2)]); (try with_reducible rfl))
              try simp only [Act.put, List.setIfInBounds_toArray, List.set_cons_zero, List.set_cons_succ]
              refine Rg.takeP (i := 21) (oi := { dst := some 67, op := Op.indexAddr 32 (Operand.tmp 60) (Operand.tmp 66), type := 0, pos := "mat.go:58", after := #[{ on := 14, ground := Ground.data }, { on := 20, ground := Ground.data }], guard := none }) (v := ?_) rfl (by kernel_rfl) (fun _ _ _ h => h) (by rfl) ?_ ?_
              rotate_left 1
              · (intro w; go_simp; (try simp only [hqi1, hqj1, w1, w2, w3, w4, t1, t2, if_pos (And.intro p1 h1), if_pos (And.intro p2 h2)]); (try with_reducible rfl))
              try simp only [Act.put, List.setIfInBounds_toArray, List.set_cons_zero, List.set_cons_succ]
              refine Rg.takeS (i := 22) (oi := { dst := some 68, op := Op.load 3 (Operand.tmp 67), type := 3, pos := "mat.go:58", after := #[{ on := 21, ground := Ground.data }], guard := none }) (v := ?_) rfl (by kernel_rfl) (fun _ _ _ h => h) (by rfl) HS ?_ ?_
              rotate_left 1
              · (intro w hSw; (try dsimp only at hSw); (try go_split_ands); go_simp; (try with_reducible rfl))
              try simp only [Act.put, List.setIfInBounds_toArray, List.set_cons_zero, List.set_cons_succ]
              refine Rg.oneR (i := 23) (oi := { dst := some 69, op := Op.call { callee := Callee.value (Operand.func 72), args := #[Operand.tmp 58, Operand.tmp 68], argTypes := #[3, 3] }, type := 43, pos := "mat.go:58", after := #[{ on := 12, ground := Ground.data }, { on := 22, ground := Ground.data }], guard := none }) rfl (by kernel_rfl) ?_
              refine Rg.stepS ?_
              intro K hK
              rw [if_pos (by rfl)]
              go_simp
              go_at_call 72
              refine (fixMul_any a x _ r_a.out r_x.out).mono ?_
              rintro e w1 ⟨rfl, hb⟩
              rw [P_.out]
              have hg := grown_of_below (row := some gk) hb
              have HK := Lib.hid (Blk.below HK.out hb (Blk.lt HK.out))
              have HWK := Lib.hid (HWK.out.grown hg (neq_of (by omega)))
              have HM := Lib.hid (HM.out.grown hg (neq_of (by omega)))
              have HM2 := Lib.hid (HM2.out.grown hg (neq_of (by omega)))
              have HRS := Lib.hid (HRS.out.grown hg (neq_of (by omega)))
              have HROW := Lib.hid (HROW.out.grown hg (neq_of (by omega)))
              have HCA := Lib.hid ((grown_at hg HBA.out (by have := HBR.out.1; omega) _).trans HCA.out)
              have HCB := Lib.hid ((grown_at hg HBB.out (by have := HBR.out.2; omega) _).trans HCB.out)
              have HBA := Lib.hid (Nat.lt_of_lt_of_le HBA.out hg.size)
              have HBB := Lib.hid (Nat.lt_of_lt_of_le HBB.out hg.size)
              have HB := Lib.hid (below_grown HB.out (Nat.le_refl _) hg (fun g e => by injection e with e; omega))
              clear hb hg
              clear HS
              have HS := And.intro HWK.out (And.intro ((HM.out.cell 0).trans rfl) (And.intro ((HM.out.cell 1).trans rfl) (And.intro ((HM2.out.cell 1).trans rfl) (And.intro HCA.out HCB.out))))
              go_wp2_with fail
              refine hK.out _ _ HS ?_
              clear hK K
              try simp only [Act.put, List.setIfInBounds_toArray, List.set_cons_zero, List.set_cons_succ]
              refine Rg.takeP (i := 24) (oi := { dst := some 70, op := Op.extract (Operand.tmp 69) 0, type := 3, pos := "mat.go:58", after := #[{ on := 23, ground := Ground.data }], guard := none }) (v := ?_) rfl (by kernel_rfl) (fun _ _ _ h => h) (by rfl) ?_ ?_
              rotate_left 1
              · (intro w; go_simp; (try with_reducible rfl))
              try simp only [Act.put, List.setIfInBounds_toArray, List.set_cons_zero, List.set_cons_succ]
              refine Rg.takeP (i := 25) (oi := { dst := some 71, op := Op.extract (Operand.tmp 69) 1, type := 4, pos := "mat.go:58", after := #[{ on := 23, ground := Ground.data }], guard := none }) (v := ?_) rfl (by kernel_rfl) (fun _ _ _ h => h) (by rfl) ?_ ?_
              rotate_left 1
              · (intro w; go_simp; (try with_reducible rfl))
              try simp only [Act.put, List.setIfInBounds_toArray, List.set_cons_zero, List.set_cons_succ]
              refine Rg.oneR (i := 26) (oi := { dst := some 72, op := Op.call { callee := Callee.value (Operand.func 70), args := #[Operand.tmp 48, Operand.tmp 70, Operand.tmp 71], argTypes := #[97, 3, 4] }, type := 3, pos := "mat.go:58", after := #[{ on := 2, ground := Ground.data }, { on := 24, ground := Ground.data }, { on := 25, ground := Ground.data }, { on := 23, ground := Ground.chain }], guard := none }) rfl (by kernel_rfl) ?_
              refine Rg.stepS ?_
              intro K hK
              rw [if_pos (by rfl)]
              go_simp
              go_at_call 70
              refine (see_any (N : Int) (some ⟨ga, 0, none⟩) m m gk _ p pb _ HK.out).mono ?_
              rintro e w1 ⟨rfl, hst, hg⟩
              have HK := Lib.hid hst
              have HWK := Lib.hid (HWK.out.grown hg (neq_of (by omega)))
              have HM := Lib.hid (HM.out.grown hg (neq_of (by omega)))
              have HM2 := Lib.hid (HM2.out.grown hg (neq_of (by omega)))
              have HRS := Lib.hid (HRS.out.grown hg (neq_of (by omega)))
              have HROW := Lib.hid (HROW.out.grown hg (neq_of (by omega)))
              have HCA := Lib.hid ((grown_at hg HBA.out (by have := HBR.out.1; omega) _).trans HCA.out)
              have HCB := Lib.hid ((grown_at hg HBB.out (by have := HBR.out.2; omega) _).trans HCB.out)
              have HBA := Lib.hid (Nat.lt_of_lt_of_le HBA.out hg.size)
              have HBB := Lib.hid (Nat.lt_of_lt_of_le HBB.out hg.size)
              have HB := Lib.hid (below_grown HB.out (Nat.le_refl _) hg (fun g e => by injection e with e; omega))
              clear hst hg
              clear HS
              have HS := And.intro HWK.out (And.intro ((HM.out.cell 0).trans rfl) (And.intro ((HM.out.cell 1).trans rfl) (And.intro ((HM2.out.cell 1).trans rfl) (And.intro HCA.out HCB.out))))
              go_wp2_with fail
              refine hK.out _ _ HS ?_
              clear hK K
              try simp only [Act.put, List.setIfInBounds_toArray, List.set_cons_zero, List.set_cons_succ]
              refine Rg.oneR (i := 27) (oi := { dst := some 73, op := Op.call { callee := Callee.value (Operand.func 71), args := #[Operand.tmp 47, Operand.tmp 72], argTypes := #[3, 3] }, type := 43, pos := "mat.go:58", after := #[{ on := 1, ground := Ground.data }, { on := 26, ground := Ground.data }, { on := 26, ground := Ground.chain }], guard := none }) rfl (by kernel_rfl) ?_
              refine Rg.stepS ?_
              intro K hK
              rw [if_pos (by rfl)]
              go_simp
              go_at_call 71
              refine (fixAdd_any s p _ r_s.out r_p.out).mono ?_
              rintro e w1 ⟨rfl, rfl⟩
              rw [show stop (s + p) = fadd s p from rfl, Q_.out]
              go_wp2_with fail
              refine hK.out _ _ HS ?_
              clear hK K
              try simp only [Act.put, List.setIfInBounds_toArray, List.set_cons_zero, List.set_cons_succ]
              refine Rg.takeP (i := 28) (oi := { dst := some 74, op := Op.extract (Operand.tmp 73) 0, type := 3, pos := "mat.go:58", after := #[{ on := 27, ground := Ground.data }], guard := none }) (v := ?_) rfl (by kernel_rfl) (fun _ _ _ h => h) (by rfl) ?_ ?_
              rotate_left 1
              · (intro w; go_simp; (try with_reducible rfl))
              try simp only [Act.put, List.setIfInBounds_toArray, List.set_cons_zero, List.set_cons_succ]
              refine Rg.takeP (i := 29) (oi := { dst := some 75, op := Op.extract (Operand.tmp 73) 1, type := 4, pos := "mat.go:58", after := #[{ on := 27, ground := Ground.data }], guard := none }) (v := ?_) rfl (by kernel_rfl) (fun _ _ _ h => h) (by rfl) ?_ ?_
              rotate_left 1
              · (intro w; go_simp; (try with_reducible rfl))
              try simp only [Act.put, List.setIfInBounds_toArray, List.set_cons_zero, List.set_cons_succ]
              refine Rg.oneR (i := 30) (oi := { dst := some 76, op := Op.call { callee := Callee.value (Operand.func 70), args := #[Operand.tmp 46, Operand.tmp 74, Operand.tmp 75], argTypes := #[97, 3, 4] }, type := 3, pos := "mat.go:58", after := #[{ on := 0, ground := Ground.data }, { on := 28, ground := Ground.data }, { on := 29, ground := Ground.data }, { on := 27, ground := Ground.chain }], guard := none }) rfl (by kernel_rfl) ?_
              refine Rg.stepF ?_ ?_
              · kernel_rfl
              intro K hK
              rw [if_pos (by rfl)]
              go_simp
              go_at_call 70
              refine (see_any (N : Int) (some ⟨ga, 0, none⟩) m m gk _ q qb _ HK.out).mono ?_
              rintro e w1 ⟨rfl, hst, hg⟩
              have HK := Lib.hid hst
              have HWK := Lib.hid (HWK.out.grown hg (neq_of (by omega)))
              have HM := Lib.hid (HM.out.grown hg (neq_of (by omega)))
              have HM2 := Lib.hid (HM2.out.grown hg (neq_of (by omega)))
              have HRS := Lib.hid (HRS.out.grown hg (neq_of (by omega)))
              have HROW := Lib.hid (HROW.out.grown hg (neq_of (by omega)))
              have HCA := Lib.hid ((grown_at hg HBA.out (by have := HBR.out.1; omega) _).trans HCA.out)
              have HCB := Lib.hid ((grown_at hg HBB.out (by have := HBR.out.2; omega) _).trans HCB.out)
              have HBA := Lib.hid (Nat.lt_of_lt_of_le HBA.out hg.size)
              have HBB := Lib.hid (Nat.lt_of_lt_of_le HBB.out hg.size)
              have HB := Lib.hid (below_grown HB.out (Nat.le_refl _) hg (fun g e => by injection e with e; omega))
              clear hst hg
              clear HS
              have HS := And.intro HWK.out (And.intro ((HM.out.cell 0).trans rfl) (And.intro ((HM.out.cell 1).trans rfl) (And.intro ((HM2.out.cell 1).trans rfl) (And.intro HCA.out HCB.out))))
              go_wp2_with fail
              refine hK.out _ _ ?_
              clear hK K
              try simp only [Act.put, List.setIfInBounds_toArray, List.set_cons_zero, List.set_cons_succ]
              refine Rg.takeP (i := 31) (oi := { dst := some 10, op := Op.assign (Operand.tmp 76), type := 3, pos := "mat.go:58", after := #[{ on := 30, ground := Ground.data }, { on := 30, ground := Ground.chain }, { on := 0, ground := Ground.phase }, { on := 1, ground := Ground.phase }, { on := 2, ground := Ground.phase }, { on := 3, ground := Ground.phase }, { on := 4, ground := Ground.phase }, { on := 5, ground := Ground.phase }, { on := 6, ground := Ground.phase }, { on := 7, ground := Ground.phase }, { on := 8, ground := Ground.phase }, { on := 9, ground := Ground.phase }, { on := 10, ground := Ground.phase }, { on := 11, ground := Ground.phase }, { on := 12, ground := Ground.phase }, { on := 13, ground := Ground.phase }, { on := 14, ground := Ground.phase }, { on := 15, ground := Ground.phase }, { on := 16, ground := Ground.phase }, { on := 17, ground := Ground.phase }, { on := 18, ground := Ground.phase }, { on := 19, ground := Ground.phase }, { on := 20, ground := Ground.phase }, { on := 21, ground := Ground.phase }, { on := 22, ground := Ground.phase }, { on := 23, ground := Ground.phase }, { on := 24, ground := Ground.phase }, { on := 25, ground := Ground.phase }, { on := 26, ground := Ground.phase }, { on := 27, ground := Ground.phase }, { on := 28, ground := Ground.phase }, { on := 29, ground := Ground.phase }, { on := 30, ground := Ground.phase }], guard := none }) (v := ?_) rfl (by kernel_rfl) (fun _ _ _ h => h) (by rfl) ?_ ?_
              rotate_left 1
              · (intro w; go_simp; (try with_reducible rfl))
              try simp only [Act.put, List.setIfInBounds_toArray, List.set_cons_zero, List.set_cons_succ]
              refine Rg.doneR (by kernel_rfl) ?_ _
              refine NoPanic.normal ?_
              clear HS
              go_wp2_with fail
              refine ⟨⟨J + 1, by omega, by go_num, by rw [HCH.out], ?_⟩, by simp [intOf]; omega⟩
              rw [HCH.out]
              refine ⟨HROW.out, ?_, HWK.out, HM.out, HM2.out, HRS.out, HB.out⟩
              have h := HK.out
              simp only [Bool.or_assoc] at h ⊢
              exact h
            · obtain rfl : J = N := by omega
              clear hJt
              obtain ⟨⟨s, cb⟩, hch⟩ : ∃ ch, chainF (fun t => zs.getD (I * J + t) 0) (fun t => vs.getD (t * J + C) 0) J = ch := ⟨_, rfl⟩
              rw [hch] at HTS HK ⊢
              clear hch r_s
              simp only at HTS HK ⊢
              go_wp2_with (refine wpList_whole rfl 97 _ rfl gt rfl HWK.out _ Try.underlying97 rfl (by kernel_rfl) ?_)
              obtain ⟨qi, hqi⟩ : ∃ q, I * J = q := ⟨_, rfl⟩
              refine (put_any J m ga gk I C qi s (fun j => tl.getD j 0) hqi (by rw [← hqi, ← HMM.out]; exact sq_idx hlt hCt) h36.out wr HROW.out).mono ?_
              rintro e w6 ⟨rfl, hrow, hg⟩
              have HROW := Lib.hid hrow
              have HK := Lib.hid (Blk.grown HK.out hg (neq_of (by omega)))
              have HWK := Lib.hid (HWK.out.grown hg (neq_of (by omega)))
              have HM := Lib.hid (HM.out.grown hg (neq_of (by omega)))
              have HM2 := Lib.hid (HM2.out.grown hg (neq_of (by omega)))
              have HRS := Lib.hid (HRS.out.grown hg (neq_of (by omega)))
              have HB := Lib.hid (below_grown HB.out (Nat.le_refl _) hg (fun g e => by injection e with e; omega))
              clear hrow hg
              go_wp2_with fail
              refine ⟨⟨C + 1, by omega, by go_num, ?_⟩, by simp [intOf]; omega⟩
              rw [show I * J + (C + 1) = I * J + C + 1 from rfl, HTS.out]
              refine ⟨?_, HK.out, HWK.out, HM.out, HM2.out, HRS.out, HB.out⟩
              rw [rowF_congr (g := fun j => if j = qi + C then s else tl.getD j 0) (fun j _ => by rw [getD_snoc, show tl.length = I * J + C from HTL.out, hqi])]
              exact HROW.out
        · obtain rfl : C = N := by omega
          clear hCt
          go_wp2_with fail
          exact ⟨⟨I + 1, by omega, by go_num, by rw [show (I + 1) * C = I * C + C by rw [Nat.add_mul, Nat.one_mul]]; exact HAT.out⟩, by simp [intOf]; omega⟩
    · obtain rfl : I = N := by omega
      clear hlt
      have HTL := Lib.hid (mulF_length I zs vs (I * I))
      obtain ⟨⟨tl, tb⟩, htt⟩ : ∃ tt, mulF I zs vs (I * I) = tt := ⟨_, rfl⟩
      have HTT := Lib.hid htt
      rw [htt] at HTL HAT
      simp only at HTL HAT
      rw [HMM.out] at HTL
      clear htt
      have HK := Lib.hid HAT.out.bent
      have HROW := Lib.hid HAT.out.row
      have HWK := Lib.hid HAT.out.work
      have HRS := Lib.hid HAT.out.res
      have HB := Lib.hid HAT.out.bel
      clear HAT
      go_upto_region 19 with fail
      have HK := Lib.hid (Blk.drew HK.out)
      have HWK := Lib.hid HWK.out.drew
      have HRS := Lib.hid HRS.out.drew
      have HROW := Lib.hid HROW.out.drew
      have HB := Lib.hid HB.out.drew
      have HS := And.intro ((HWK.out.cell 0).trans rfl) (And.intro ((HWK.out.cell 1).trans rfl) (And.intro ((HWK.out.cell 2).trans rfl) ((Blk.cell HK.out 0).trans rfl)))
      refine wp_region_noPanic ?_
      refine Rg.beginR [1, 3, 5] (fun w' => w'.cell? ⟨gt, 0, none⟩ = some (.int .i64 (I : Int)) ∧ w'.cell? ⟨gt, 1, none⟩ = some (.slice (some ⟨ga, 0, none⟩) m m) ∧ w'.cell? ⟨gt, 2, none⟩ = some (.pointer (some ⟨gk, 0, none⟩)) ∧ w'.cell? ⟨gk, 0, none⟩ = some (.bool tb)) (by kernel_rfl) ?_
      generalize wr.drew = w1 at *
      refine Rg.takeP (i := 0) (oi := { dst := some 85, op := Op.fieldAddr 97 (Operand.tmp 7) 0, type := 0, pos := "mat.go:63", after := #[], guard := none }) (v := ?_) rfl (by kernel_rfl) (fun _ _ _ h => h) (by rfl) ?_ ?_
      rotate_left 1
      · (intro w; go_simp; (try with_reducible rfl))
      try simp only [Act.put, List.setIfInBounds_toArray, List.set_cons_zero, List.set_cons_succ]
      refine Rg.takeS (i := 1) (oi := { dst := some 86, op := Op.load 49 (Operand.tmp 85), type := 49, pos := "mat.go:63", after := #[{ on := 0, ground := Ground.data }], guard := none }) (v := ?_) rfl (by kernel_rfl) (fun _ _ _ h => h) (by rfl) HS ?_ ?_
      rotate_left 1
      · (intro w hSw; (try dsimp only at hSw); (try go_split_ands); go_simp; (try with_reducible rfl))
      try simp only [Act.put, List.setIfInBounds_toArray, List.set_cons_zero, List.set_cons_succ]
      refine Rg.takeP (i := 2) (oi := { dst := some 87, op := Op.fieldAddr 97 (Operand.tmp 7) 1, type := 0, pos := "mat.go:63", after := #[{ on := 6, ground := Ground.gcOnly Departure.lateStores }], guard := none }) (v := ?_) rfl (by kernel_rfl) (fun _ _ _ h => h) (by rfl) ?_ ?_
      rotate_left 1
      · (intro w; go_simp; (try with_reducible rfl))
      try simp only [Act.put, List.setIfInBounds_toArray, List.set_cons_zero, List.set_cons_succ]
      refine Rg.takeS (i := 3) (oi := { dst := some 88, op := Op.load 95 (Operand.tmp 87), type := 95, pos := "mat.go:63", after := #[{ on := 2, ground := Ground.data }, { on := 6, ground := Ground.gcOnly Departure.lateStores }], guard := none }) (v := ?_) rfl (by kernel_rfl) (fun _ _ _ h => h) (by rfl) HS ?_ ?_
      rotate_left 1
      · (intro w hSw; (try dsimp only at hSw); (try go_split_ands); go_simp; (try with_reducible rfl))
      try simp only [Act.put, List.setIfInBounds_toArray, List.set_cons_zero, List.set_cons_succ]
      refine Rg.takeP (i := 4) (oi := { dst := some 89, op := Op.nilCheck (Operand.tmp 88), type := 0, pos := "mat.go:63", after := #[{ on := 3, ground := Ground.data }, { on := 6, ground := Ground.gcOnly Departure.lateStores }], guard := none }) (v := ?_) rfl (by kernel_rfl) (fun _ _ _ h => h) (by rfl) ?_ ?_
      rotate_left 1
      · (intro w; go_simp; (try with_reducible rfl))
      try simp only [Act.put, List.setIfInBounds_toArray, List.set_cons_zero, List.set_cons_succ]
      refine Rg.takeS (i := 5) (oi := { dst := some 90, op := Op.load 4 (Operand.tmp 89), type := 4, pos := "mat.go:63", after := #[{ on := 4, ground := Ground.data }, { on := 6, ground := Ground.gcOnly Departure.lateStores }], guard := none }) (v := ?_) rfl (by kernel_rfl) (fun _ _ _ h => h) (by rfl) HS ?_ ?_
      rotate_left 1
      · (intro w hSw; (try dsimp only at hSw); (try go_split_ands); go_simp; (try with_reducible rfl))
      try simp only [Act.put, List.setIfInBounds_toArray, List.set_cons_zero, List.set_cons_succ]
      refine Rg.oneR (i := 6) (oi := { dst := none, op := Op.store 49 (Operand.tmp 4) (Operand.tmp 86), type := 0, pos := "mat.go:63", after := #[{ on := 1, ground := Ground.data }, { on := 0, ground := Ground.phase }, { on := 1, ground := Ground.phase }, { on := 2, ground := Ground.textOnly Departure.lateStores }, { on := 3, ground := Ground.textOnly Departure.lateStores }, { on := 4, ground := Ground.textOnly Departure.lateStores }, { on := 5, ground := Ground.textOnly Departure.lateStores }], guard := none }) rfl (by kernel_rfl) ?_
      refine Rg.stepS ?_
      intro K hK
      rw [if_pos (by rfl)]
      refine wp_store_row 49 _ _ rfl gr #[.int .i64 (I : Int), .slice (some ⟨ga, 0, none⟩) m m] rfl rfl 49 _ HRS.out (by kernel_rfl) rfl (by simp [Value.oneCell']) ?_
      have HRS := Lib.hid (HRS.out.setRow #[.int .i64 (I : Int), .slice (some ⟨ga, 0, none⟩) m m])
      have HWK := Lib.hid (HWK.out.setRow_other (g' := gr) (by omega) #[.int .i64 (I : Int), .slice (some ⟨ga, 0, none⟩) m m])
      have HROW := Lib.hid (HROW.out.setRow_other (g' := gr) (by omega) #[.int .i64 (I : Int), .slice (some ⟨ga, 0, none⟩) m m])
      have HK := Lib.hid (Blk.setRow_other HK.out (g' := gr) (by omega) #[.int .i64 (I : Int), .slice (some ⟨ga, 0, none⟩) m m])
      have HB := Lib.hid (below_setRow HB.out (show w.heap.size ≤ gr by omega) #[.int .i64 (I : Int), .slice (some ⟨ga, 0, none⟩) m m])
      generalize (w1.setRow gr #[.int .i64 (I : Int), .slice (some ⟨ga, 0, none⟩) m m]) = w1 at *
      clear HS
      have HS := And.intro ((HWK.out.cell 0).trans rfl) (And.intro ((HWK.out.cell 1).trans rfl) (And.intro ((HWK.out.cell 2).trans rfl) ((Blk.cell HK.out 0).trans rfl)))
      refine hK.out _ _ HS ?_
      clear hK K
      try simp only [Act.put, List.setIfInBounds_toArray, List.set_cons_zero, List.set_cons_succ]
      refine Rg.takeP (i := 7) (oi := { dst := some 5, op := Op.assign (Operand.tmp 90), type := 4, pos := "mat.go:63", after := #[{ on := 5, ground := Ground.data }, { on := 6, ground := Ground.chain }, { on := 0, ground := Ground.phase }, { on := 1, ground := Ground.phase }, { on := 2, ground := Ground.phase }, { on := 3, ground := Ground.phase }, { on := 4, ground := Ground.phase }, { on := 5, ground := Ground.phase }, { on := 6, ground := Ground.phase }], guard := none }) (v := ?_) rfl (by kernel_rfl) (fun _ _ _ h => h) (by rfl) ?_ ?_
      rotate_left 1
      · (intro w; go_simp; (try with_reducible rfl))
      try simp only [Act.put, List.setIfInBounds_toArray, List.set_cons_zero, List.set_cons_succ]
      refine Rg.takeP (i := 8) (oi := { dst := some 6, op := Op.assign (Operand.const (Value.int IntKind.i64 0)), type := 50, pos := "mat.go:63", after := #[{ on := 7, ground := Ground.chain }, { on := 0, ground := Ground.phase }, { on := 1, ground := Ground.phase }, { on := 2, ground := Ground.phase }, { on := 3, ground := Ground.phase }, { on := 4, ground := Ground.phase }, { on := 5, ground := Ground.phase }, { on := 6, ground := Ground.phase }, { on := 7, ground := Ground.phase }], guard := none }) (v := ?_) rfl (by kernel_rfl) (fun _ _ _ h => h) (by rfl) ?_ ?_
      rotate_left 1
      · (intro w; go_simp; (try with_reducible rfl))
      try simp only [Act.put, List.setIfInBounds_toArray, List.set_cons_zero, List.set_cons_succ]
      refine Rg.doneR (by kernel_rfl) ?_ _
      refine NoPanic.normal ?_
      clear HS
      go_wp2_with fail
      refine ret_row3 (x := .bool tb) (y := .int .i64 0) rfl rfl rfl rfl HRS.out ⟨by rw [Try.underlying49], by kernel_rfl⟩ rfl ?_
      refine ⟨some ⟨ga, 0, none⟩, m, ?_, ?_, fun a e => by (injection e with e; subst e; show w.heap.size ≤ ga; omega), HB.out⟩
      · rw [HTT.out]
        show _ = Ending.returned (.tuple #[.agg #[.int .i64 (I : Int), .slice (some ⟨ga, 0, none⟩) tl.length m], .bool tb, .int .i64 0])
        rw [show tl.length = m from HTL.out]
      · rw [HTT.out]
        show Rd _ _ 1 _ tl.length (intsV tl)
        have h := rd_of_blk HROW.out
        rw [rowF_size, ← show tl.length = m from HTL.out, rowF_list] at h
        exact h.more HROW.out.lt
end Go.Proofs.Ytajhkbdaoakogaa.BigW
