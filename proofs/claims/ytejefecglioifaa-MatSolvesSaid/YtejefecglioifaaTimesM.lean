/- Contract: mat.Times. -/
import Derived.Test.YtejefecglioifaaWork
import Derived.Test.YtejefecglioifaaRes
import Derived.Test.YtejefecglioifaaRegR
import Derived.Test.YtejefecglioifaaLoadRow
namespace Go.Proofs.Ytejefecglioifaa.BigW
open Go.RowKit Go.Proofs.Ytejefecglioifaa.Mem Go.Proofs.Ytejefecglioifaa.BigLaw Go.Proofs.Ytejefecglioifaa.Rws Go.Proofs.Ytejefecglioifaa.Ints Go.Proofs.Ytejefecglioifaa.Mats
set_option linter.unusedVariables false
set_option linter.unusedSimpArgs false

theorem own_keep {w w' : World} {base g : Nat} {e : TypeId} {size n : Nat} {v : Value} {xs : List Value} (h : w.ownsRow base e size v n xs) (hg : w.grownBy w' (some g)) (hlt : g < base) : w'.ownsRow base e size v n xs :=
  h.kept hg (.inr fun e => by have := (h.lt g e).1; omega)
theorem own_apart {w : World} {base : Nat} {e : TypeId} {size n : Nat} {v : Value} {xs : List Value} (h : w.ownsRow base e size v n xs) {g : Nat} (hg : g < base) : some g ≠ v.ownBlock := fun e => by
  have := (h.lt g e.symm).1
  omega
theorem rd_single (w : World) (v : Value) (e : TypeId) : Rd (w.alloc (.cells #[v] e)) (w.heap.size + 1) 1 (some ⟨w.heap.size, 0, none⟩) 1 [v] := by
  refine ⟨rfl, fun _ => ⟨w.heap.size, 0, rfl, by omega, fun j u hu => ?_⟩⟩
  have h := (Blk.fresh w e #[v]).cell j
  rw [Nat.zero_add, h]
  simpa using hu
theorem getD_of {l : List Int} {k : Nat} (h : k < l.length) : l.getD k 0 = l[k] := by rw [List.getD_eq_getElem?_getD, List.getElem?_eq_getElem h]; rfl
theorem sq_idx {N i k : Nat} (hi : i < N) (hk : k < N) : i * N + k < N * N := by
  have h1 : (i + 1) * N ≤ N * N := Nat.mul_le_mul_right _ hi
  rw [Nat.add_mul, Nat.one_mul] at h1
  omega
theorem sq_36 {N : Nat} (h : N ≤ 6) : N * N ≤ 36 := Nat.mul_le_mul h h
theorem intsV_snoc (l : List Int) (z : Int) : intsV l ++ [.int .i64 z] = intsV (l ++ [z]) := by simp [intsV]
/-- P3.4: the rows of a matrix times a column, and whether anything bent -/
def timesF (N : Nat) (zs vs : List Int) : Nat → List Int × Bool
  | 0 => ([], false)
  | i + 1 => ((timesF N zs vs i).1 ++ [(chainF (fun k => zs.getD (i * N + k) 0) (fun k => vs.getD k 0) N).1], (timesF N zs vs i).2 || (chainF (fun k => zs.getD (i * N + k) 0) (fun k => vs.getD k 0) N).2)
theorem timesF_length (N : Nat) (zs vs : List Int) : ∀ i, (timesF N zs vs i).1.length = i
  | 0 => rfl
  | i + 1 => by simp [timesF, timesF_length N zs vs i]
/-- a list, a Bool and an error handed back -/
def GaveInts (w w' : World) (l : List Int) (b : Bool) (x : Int) (e : Ending) : Prop :=
  ∃ A c, e = .returned (.tuple #[.slice A l.length c, .bool b, .int .i64 x]) ∧ Rd w' w'.heap.size 1 A l.length (intsV l) ∧ Below w.heap.size w w'

set_option maxRecDepth 100000 in
set_option maxHeartbeats 2000000 in
theorem times_yes (N : Nat) (A A' : Option Addr) (c c' : Nat) (zs vs : List Int) (w : World) (hN : 1 ≤ N) (h6 : N ≤ 6) (hl : zs.length = N * N) (hv : vs.length = N) (hr : Rd w w.heap.size 1 A zs.length (intsV zs)) (hr' : Rd w w.heap.size 1 A' vs.length (intsV vs)) (hz : ∀ k, In64 (zs.getD k 0)) (hzv : ∀ k, In64 (vs.getD k 0)) :
    Calls Try.prog 16 #[matV (N : Int) A zs.length c, .slice A' vs.length c'] w fun e w' => GaveInts w w' (timesF N zs vs N).1 (timesF N zs vs N).2 0 e := by
  rw [hv] at hr' ⊢
  have HVL := Lib.hid hv
  have HR := Lib.hid hr
  have HR' := Lib.hid hr'
  have HZ := Lib.hid hz
  have HZV := Lib.hid hzv
  have HL := Lib.hid hl
  have HN := Lib.hid hN
  have HGD := Lib.hid (show good (N : Int) zs.length = true from by
    unfold good
    rw [decide_eq_true (show (1 : Int) ≤ N by omega), decide_eq_true (show (N : Int) ≤ 6 by omega), decide_eq_true (by rw [hl]; push_cast; rfl)]
    rfl)
  have h36 := Lib.hid (show zs.length ≤ 36 from by rw [hl]; exact sq_36 h6)
  clear hr hr' hz hzv hl hv
  unfold matV
  have HM := Lib.hid (show Blk (w.alloc (.cells #[.int .i64 (N : Int), .slice A zs.length c] 24)) w.heap.size 24 #[.int .i64 (N : Int), .slice A zs.length c] from Blk.new rfl)
  have HB := Lib.hid (show Below w.heap.size w (w.alloc (.cells #[.int .i64 (N : Int), .slice A zs.length c] 24)) from (Below.refl _ _).alloc (Nat.le_refl _) _)
  go_enter Try.func16, Try.ntmps16
  go_upto_region 1 with fail
  generalize (w.alloc (.cells #[.int .i64 (N : Int), .slice A zs.length c] 24)) = w1 at *
  go_wp2_with (refine wpList_whole rfl 24 _ rfl w.heap.size rfl HM.out _ Try.underlying24 rfl (by kernel_rfl) ?_)
  refine (good_any (N : Int) A zs.length c w1).mono ?_
  rintro e w2 ⟨rfl, hb⟩
  rw [HGD.out]
  have HM := Lib.hid (HM.out.below hb HM.out.lt)
  have HB := Lib.hid (onward HB.out (Nat.le_refl _) hb)
  have k0 : w2.cell? ⟨w.heap.size, 0, none⟩ = some (.int .i64 (N : Int)) := (HM.out.cell 0).trans rfl
  clear hb
  go_upto_region 3 with fail
  go_upto_region 5 with (refine wpList_whole rfl 24 _ rfl w.heap.size rfl HM.out _ Try.underlying24 rfl (by kernel_rfl) ?_)
  clear k0
  have hm2 : w.heap.size < w2.heap.size := HM.out.lt
  have HK := Lib.hid (show Bn ((w2.alloc (.cells #[.bool false] 4)).alloc (.cells #[.int .i64 (N : Int), .slice A zs.length c, .pointer (some ⟨w2.heap.size, 0, none⟩)] 47)) w2.heap.size false from Blk.alloc (Blk.new rfl) _)
  have HWK := Lib.hid (show Blk ((w2.alloc (.cells #[.bool false] 4)).alloc (.cells #[.int .i64 (N : Int), .slice A zs.length c, .pointer (some ⟨w2.heap.size, 0, none⟩)] 47)) (w2.heap.size + 1) 47 #[.int .i64 (N : Int), .slice A zs.length c, .pointer (some ⟨w2.heap.size, 0, none⟩)] from Blk.new (by simp))
  have HM := Lib.hid (show Blk ((w2.alloc (.cells #[.bool false] 4)).alloc (.cells #[.int .i64 (N : Int), .slice A zs.length c, .pointer (some ⟨w2.heap.size, 0, none⟩)] 47)) w.heap.size 24 #[.int .i64 (N : Int), .slice A zs.length c] from (HM.out.alloc _).alloc _)
  have HB := Lib.hid (show Below w.heap.size w ((w2.alloc (.cells #[.bool false] 4)).alloc (.cells #[.int .i64 (N : Int), .slice A zs.length c, .pointer (some ⟨w2.heap.size, 0, none⟩)] 47)) from (HB.out.alloc HB.out.size _).alloc (by simp; omega) _)
  generalize ((w2.alloc (.cells #[.bool false] 4)).alloc (.cells #[.int .i64 (N : Int), .slice A zs.length c, .pointer (some ⟨w2.heap.size, 0, none⟩)] 47)) = w3 at *
  obtain ⟨gw, hgw⟩ : ∃ g, w2.heap.size + 1 = g := ⟨_, rfl⟩
  rw [hgw] at HWK ⊢
  obtain ⟨gk, hgk⟩ : ∃ g, w2.heap.size = g := ⟨_, rfl⟩
  rw [hgk] at HK HWK hm2 hgw ⊢
  clear hgk
  have k0 : w3.cell? ⟨w.heap.size, 0, none⟩ = some (.int .i64 (N : Int)) := (HM.out.cell 0).trans rfl
  go_wp2_with fail
  clear k0 HM
  go_loopw [8, 28] (fun out i wr => ∃ (I : Nat) (A8 : Option Addr) (c8 : Nat), I ≤ N ∧ i = .int .i64 I ∧ out = .slice A8 I c8 ∧ wr.ownsRow (gw + 1) 3 1 (.slice A8 I c8) I (intsV (timesF N zs vs I).1) ∧ Bn wr gk (timesF N zs vs I).2 ∧ Blk wr gw 47 #[.int .i64 (N : Int), .slice A zs.length c, .pointer (some ⟨gk, 0, none⟩)] ∧ Below w.heap.size w wr ∧ gw < wr.heap.size) (fun _ i _ => N - (intOf i).toNat)
  case atStart => exact ⟨0, none, 0, by omega, rfl, rfl, World.ownsRow_nil _ _ _ _, HK.out, HWK.out, HB.out, HWK.out.lt⟩
  case round =>
    clear HK HWK HB
    obtain ⟨I, A8, c8, hI, rfl, rfl, ho, hk, hw, hb, hgs⟩ := hrel
    have HO := Lib.hid ho
    have HK := Lib.hid hk
    have HWK := Lib.hid hw
    have HB := Lib.hid hb
    clear ho hk hw hb
    have HTL := Lib.hid (timesF_length N zs vs I)
    by_cases hlt : I < N
    · have HTS := Lib.hid (show timesF N zs vs (I + 1) = ((timesF N zs vs I).1 ++ [(chainF (fun k => zs.getD (I * N + k) 0) (fun k => vs.getD k 0) N).1], (timesF N zs vs I).2 || (chainF (fun k => zs.getD (I * N + k) 0) (fun k => vs.getD k 0) N).2) from rfl)
      generalize timesF N zs vs I = tt at *
      obtain ⟨tl, tb⟩ := tt
      simp only at HO HK HTS HTL
      have hlt1 : (I : Int) < (N : Int) := by omega
      go_wp2_with fail
      go_loopw [10, 33] (fun s k wr => ∃ J : Nat, J ≤ N ∧ k = .int .i64 J ∧ s = .int .i64 (chainF (fun k => zs.getD (I * N + k) 0) (fun k => vs.getD k 0) J).1 ∧ wr.ownsRow (gw + 1) 3 1 (.slice A8 I c8) I (intsV tl) ∧ Bn wr gk (tb || (chainF (fun k => zs.getD (I * N + k) 0) (fun k => vs.getD k 0) J).2) ∧ Blk wr gw 47 #[.int .i64 (N : Int), .slice A zs.length c, .pointer (some ⟨gk, 0, none⟩)] ∧ Below w.heap.size w wr ∧ gw < wr.heap.size) (fun _ k _ => N - (intOf k).toNat)
      case atStart => exact ⟨0, by omega, rfl, rfl, HO.out, by have h := HK.out; simpa [chainF] using h, HWK.out, HB.out, hgs⟩
      case round =>
        clear HO HK HWK HB hgs
        obtain ⟨J, hJ, rfl, rfl, ho, hk, hw, hb, hgs⟩ := hrel
        have HO := Lib.hid ho
        have HK := Lib.hid hk
        have HWK := Lib.hid hw
        have HB := Lib.hid hb
        clear ho hk hw hb
        have r_s := Lib.hid (chainF_range (fun k => zs.getD (I * N + k) 0) (fun k => vs.getD k 0) J)
        by_cases hJt : J < N
        · have HCH := Lib.hid (show chainF (fun k => zs.getD (I * N + k) 0) (fun k => vs.getD k 0) (J + 1) = ((fadd (chainF (fun k => zs.getD (I * N + k) 0) (fun k => vs.getD k 0) J).1 (fmul (zs.getD (I * N + J) 0) (vs.getD J 0)).1).1, (chainF (fun k => zs.getD (I * N + k) 0) (fun k => vs.getD k 0) J).2 || (fmul (zs.getD (I * N + J) 0) (vs.getD J 0)).2 || (fadd (chainF (fun k => zs.getD (I * N + k) 0) (fun k => vs.getD k 0) J).1 (fmul (zs.getD (I * N + J) 0) (vs.getD J 0)).1).2) from rfl)
          have HIJ := Lib.hid (show I * N + J < zs.length from by rw [HL.out]; exact sq_idx hlt hJt)
          obtain ⟨b, o, u, rfl, hbB, hu, hcell⟩ := (HR'.out.below HB.out).at hJt
          rw [intsV_at vs J (by rw [HVL.out]; exact hJt)] at hu
          injection hu with hu
          subst hu
          rw [← getD_of (by rw [HVL.out]; exact hJt)] at hcell
          have r_a := Lib.hid (HZ.out (I * N + J))
          have r_x := Lib.hid (HZV.out J)
          generalize chainF (fun k => zs.getD (I * N + k) 0) (fun k => vs.getD k 0) J = ch at *
          obtain ⟨s, cb⟩ := ch
          simp only at HCH r_s HK ⊢
          obtain ⟨a, ha⟩ : ∃ a, zs.getD (I * N + J) 0 = a := ⟨_, rfl⟩
          have HAV := Lib.hid ha
          obtain ⟨x, hx⟩ : ∃ x, vs.getD J 0 = x := ⟨_, rfl⟩
          rw [ha] at HCH r_a
          rw [hx] at HCH r_x hcell
          clear ha hx
          obtain ⟨⟨p, pb⟩, hp⟩ : ∃ r, fmul a x = r := ⟨_, rfl⟩
          have r_p := Lib.hid (show In64 p from by have h := fmul_range a x; rw [hp] at h; exact h)
          have P_ := Lib.hid hp
          rw [hp] at HCH
          simp only at HCH
          obtain ⟨⟨q, qb⟩, hq⟩ : ∃ r, fadd s p = r := ⟨_, rfl⟩
          have Q_ := Lib.hid hq
          rw [hq] at HCH
          clear hp hq
          have hJt1 : (J : Int) < (N : Int) := by omega
          go_upto_region 12 with fail
          clear hcell
          have HK := Lib.hid (Blk.drew HK.out)
          have HWK := Lib.hid HWK.out.drew
          have HO := Lib.hid HO.out.drew
          have HB := Lib.hid HB.out.drew
          have HS := HWK.out
          refine wp_region_noPanic ?_
          refine Rg.beginR [0, 2, 3] (fun w' => Blk w' gw 47 #[.int .i64 (N : Int), .slice A zs.length c, .pointer (some ⟨gk, 0, none⟩)]) (by kernel_rfl) ?_
          generalize wr.drew = w1 at *
          refine Rg.takeS (i := 0) (oi := { dst := some 38, op := Op.load 47 (Operand.tmp 7), type := 47, pos := "mat.go:76", after := #[], guard := none }) (v := .agg #[.int .i64 (N : Int), .slice A zs.length c, .pointer (some ⟨gk, 0, none⟩)]) rfl (by kernel_rfl) (fun _ _ _ h => h) (by rfl) HS ?_ ?_
          · (intro w' hSw; exact exec_load_st 47 (.tmp 7) rfl gw rfl hSw Try.underlying47 rfl (by kernel_rfl))
          try simp only [Act.put, List.setIfInBounds_toArray, List.set_cons_zero, List.set_cons_succ]
          refine Rg.takeP (i := 1) (oi := { dst := some 39, op := Op.move (Operand.tmp 10), type := 3, pos := "mat.go:76", after := #[], guard := none }) (v := ?_) rfl (by kernel_rfl) (fun _ _ _ h => h) (by rfl) ?_ ?_
          rotate_left 1
          · (intro w; go_simp; (try with_reducible rfl))
          try simp only [Act.put, List.setIfInBounds_toArray, List.set_cons_zero, List.set_cons_succ]
          refine Rg.takeS (i := 2) (oi := { dst := some 40, op := Op.load 47 (Operand.tmp 7), type := 47, pos := "mat.go:76", after := #[], guard := none }) (v := .agg #[.int .i64 (N : Int), .slice A zs.length c, .pointer (some ⟨gk, 0, none⟩)]) rfl (by kernel_rfl) (fun _ _ _ h => h) (by rfl) HS ?_ ?_
          · (intro w' hSw; exact exec_load_st 47 (.tmp 7) rfl gw rfl hSw Try.underlying47 rfl (by kernel_rfl))
          try simp only [Act.put, List.setIfInBounds_toArray, List.set_cons_zero, List.set_cons_succ]
          refine Rg.takeS (i := 3) (oi := { dst := some 41, op := Op.load 47 (Operand.tmp 7), type := 47, pos := "mat.go:76", after := #[], guard := none }) (v := .agg #[.int .i64 (N : Int), .slice A zs.length c, .pointer (some ⟨gk, 0, none⟩)]) rfl (by kernel_rfl) (fun _ _ _ h => h) (by rfl) HS ?_ ?_
          · (intro w' hSw; exact exec_load_st 47 (.tmp 7) rfl gw rfl hSw Try.underlying47 rfl (by kernel_rfl))
          try simp only [Act.put, List.setIfInBounds_toArray, List.set_cons_zero, List.set_cons_succ]
          refine Rg.takeP (i := 4) (oi := { dst := some 42, op := Op.move (Operand.tmp 9), type := 3, pos := "mat.go:76", after := #[], guard := none }) (v := ?_) rfl (by kernel_rfl) (fun _ _ _ h => h) (by rfl) ?_ ?_
          rotate_left 1
          · (intro w; go_simp; (try with_reducible rfl))
          try simp only [Act.put, List.setIfInBounds_toArray, List.set_cons_zero, List.set_cons_succ]
          refine Rg.takeP (i := 5) (oi := { dst := some 43, op := Op.move (Operand.tmp 11), type := 3, pos := "mat.go:76", after := #[], guard := none }) (v := ?_) rfl (by kernel_rfl) (fun _ _ _ h => h) (by rfl) ?_ ?_
          rotate_left 1
          · (intro w; go_simp; (try with_reducible rfl))
          try simp only [Act.put, List.setIfInBounds_toArray, List.set_cons_zero, List.set_cons_succ]
          refine Rg.takeP (i := 7) (oi := { dst := some 45, op := Op.move (Operand.tmp 12), type := 3, pos := "mat.go:76", after := #[], guard := none }) (v := ?_) rfl (by kernel_rfl) (fun _ _ _ h => h) (by rfl) ?_ ?_
          rotate_left 1
          · (intro w; go_simp; (try with_reducible rfl))
          try simp only [Act.put, List.setIfInBounds_toArray, List.set_cons_zero, List.set_cons_succ]
          refine Rg.oneR (i := 6) (oi := { dst := some 44, op := Op.call { callee := Callee.value (Operand.func 36), args := #[Operand.tmp 41, Operand.tmp 42, Operand.tmp 43], argTypes := #[47, 3, 3] }, type := 3, pos := "mat.go:76", after := #[{ on := 3, ground := Ground.data }, { on := 4, ground := Ground.data }, { on := 5, ground := Ground.data }], guard := none }) rfl (by kernel_rfl) ?_
          refine Rg.stepS ?_
          intro K hK
          rw [if_pos (by rfl)]
          go_simp
          go_at_call 36
          refine (at_any N I J A c zs gk _ ((HR.out.below HB.out).more HB.out.size) HIJ.out h36.out).mono ?_
          rintro e w1 ⟨rfl, hb⟩
          rw [HAV.out]
          have hg := grown_of_below (row := some gk) hb
          have HK := Lib.hid (Blk.below HK.out hb (Blk.lt HK.out))
          have HWK := Lib.hid (HWK.out.grown hg (neq_of (by omega)))
          have HO := Lib.hid (own_keep HO.out hg (by omega))
          have HB := Lib.hid (below_grown HB.out (Nat.le_refl _) hg (fun g e => by injection e with e; omega))
          clear hb hg
          clear HS
          have HS := HWK.out
          go_wp2_with fail
          refine hK.out _ _ HS ?_
          clear hK K
          try simp only [Act.put, List.setIfInBounds_toArray, List.set_cons_zero, List.set_cons_succ]
          refine Rg.oneR (i := 8) (oi := { dst := some 46, op := Op.call { callee := Callee.value (Operand.func 35), args := #[Operand.tmp 44, Operand.tmp 45], argTypes := #[3, 3] }, type := 42, pos := "mat.go:76", after := #[{ on := 6, ground := Ground.data }, { on := 7, ground := Ground.data }, { on := 6, ground := Ground.chain }], guard := none }) rfl (by kernel_rfl) ?_
          refine Rg.stepS ?_
          intro K hK
          rw [if_pos (by rfl)]
          go_simp
          go_at_call 35
          refine (fixMul_any a x _ r_a.out r_x.out).mono ?_
          rintro e w1 ⟨rfl, hb⟩
          rw [P_.out]
          have hg := grown_of_below (row := some gk) hb
          have HK := Lib.hid (Blk.below HK.out hb (Blk.lt HK.out))
          have HWK := Lib.hid (HWK.out.grown hg (neq_of (by omega)))
          have HO := Lib.hid (own_keep HO.out hg (by omega))
          have HB := Lib.hid (below_grown HB.out (Nat.le_refl _) hg (fun g e => by injection e with e; omega))
          clear hb hg
          clear HS
          have HS := HWK.out
          go_wp2_with fail
          refine hK.out _ _ HS ?_
          clear hK K
          try simp only [Act.put, List.setIfInBounds_toArray, List.set_cons_zero, List.set_cons_succ]
          refine Rg.takeP (i := 9) (oi := { dst := some 47, op := Op.extract (Operand.tmp 46) 0, type := 3, pos := "mat.go:76", after := #[{ on := 8, ground := Ground.data }], guard := none }) (v := ?_) rfl (by kernel_rfl) (fun _ _ _ h => h) (by rfl) ?_ ?_
          rotate_left 1
          · (intro w; go_simp; (try with_reducible rfl))
          try simp only [Act.put, List.setIfInBounds_toArray, List.set_cons_zero, List.set_cons_succ]
          refine Rg.takeP (i := 10) (oi := { dst := some 48, op := Op.extract (Operand.tmp 46) 1, type := 4, pos := "mat.go:76", after := #[{ on := 8, ground := Ground.data }], guard := none }) (v := ?_) rfl (by kernel_rfl) (fun _ _ _ h => h) (by rfl) ?_ ?_
          rotate_left 1
          · (intro w; go_simp; (try with_reducible rfl))
          try simp only [Act.put, List.setIfInBounds_toArray, List.set_cons_zero, List.set_cons_succ]
          refine Rg.oneR (i := 11) (oi := { dst := some 49, op := Op.call { callee := Callee.value (Operand.func 26), args := #[Operand.tmp 40, Operand.tmp 47, Operand.tmp 48], argTypes := #[47, 3, 4] }, type := 3, pos := "mat.go:76", after := #[{ on := 2, ground := Ground.data }, { on := 9, ground := Ground.data }, { on := 10, ground := Ground.data }, { on := 8, ground := Ground.chain }], guard := none }) rfl (by kernel_rfl) ?_
          refine Rg.stepS ?_
          intro K hK
          rw [if_pos (by rfl)]
          go_simp
          go_at_call 26
          refine (see_any (N : Int) A zs.length c gk _ p pb _ HK.out).mono ?_
          rintro e w1 ⟨rfl, hst, hg⟩
          have HK := Lib.hid hst
          have HWK := Lib.hid (HWK.out.grown hg (neq_of (by omega)))
          have HO := Lib.hid (own_keep HO.out hg (by omega))
          have HB := Lib.hid (below_grown HB.out (Nat.le_refl _) hg (fun g e => by injection e with e; omega))
          clear hst hg
          clear HS
          have HS := HWK.out
          go_wp2_with fail
          refine hK.out _ _ HS ?_
          clear hK K
          try simp only [Act.put, List.setIfInBounds_toArray, List.set_cons_zero, List.set_cons_succ]
          refine Rg.oneR (i := 12) (oi := { dst := some 50, op := Op.call { callee := Callee.value (Operand.func 38), args := #[Operand.tmp 39, Operand.tmp 49], argTypes := #[3, 3] }, type := 42, pos := "mat.go:76", after := #[{ on := 1, ground := Ground.data }, { on := 11, ground := Ground.data }, { on := 11, ground := Ground.chain }], guard := none }) rfl (by kernel_rfl) ?_
          refine Rg.stepS ?_
          intro K hK
          rw [if_pos (by rfl)]
          go_simp
          go_at_call 38
          refine (fixAdd_any s p _ r_s.out r_p.out).mono ?_
          rintro e w1 ⟨rfl, rfl⟩
          rw [show stop (s + p) = fadd s p from rfl, Q_.out]
          go_wp2_with fail
          refine hK.out _ _ HS ?_
          clear hK K
          try simp only [Act.put, List.setIfInBounds_toArray, List.set_cons_zero, List.set_cons_succ]
          refine Rg.takeP (i := 13) (oi := { dst := some 51, op := Op.extract (Operand.tmp 50) 0, type := 3, pos := "mat.go:76", after := #[{ on := 12, ground := Ground.data }], guard := none }) (v := ?_) rfl (by kernel_rfl) (fun _ _ _ h => h) (by rfl) ?_ ?_
          rotate_left 1
          · (intro w; go_simp; (try with_reducible rfl))
          try simp only [Act.put, List.setIfInBounds_toArray, List.set_cons_zero, List.set_cons_succ]
          refine Rg.takeP (i := 14) (oi := { dst := some 52, op := Op.extract (Operand.tmp 50) 1, type := 4, pos := "mat.go:76", after := #[{ on := 12, ground := Ground.data }], guard := none }) (v := ?_) rfl (by kernel_rfl) (fun _ _ _ h => h) (by rfl) ?_ ?_
          rotate_left 1
          · (intro w; go_simp; (try with_reducible rfl))
          try simp only [Act.put, List.setIfInBounds_toArray, List.set_cons_zero, List.set_cons_succ]
          refine Rg.oneR (i := 15) (oi := { dst := some 53, op := Op.call { callee := Callee.value (Operand.func 26), args := #[Operand.tmp 38, Operand.tmp 51, Operand.tmp 52], argTypes := #[47, 3, 4] }, type := 3, pos := "mat.go:76", after := #[{ on := 0, ground := Ground.data }, { on := 13, ground := Ground.data }, { on := 14, ground := Ground.data }, { on := 12, ground := Ground.chain }], guard := none }) rfl (by kernel_rfl) ?_
          refine Rg.stepF ?_ ?_
          · kernel_rfl
          intro K hK
          rw [if_pos (by rfl)]
          go_simp
          go_at_call 26
          refine (see_any (N : Int) A zs.length c gk _ q qb _ HK.out).mono ?_
          rintro e w1 ⟨rfl, hst, hg⟩
          have HK := Lib.hid hst
          have HWK := Lib.hid (HWK.out.grown hg (neq_of (by omega)))
          have HO := Lib.hid (own_keep HO.out hg (by omega))
          have HB := Lib.hid (below_grown HB.out (Nat.le_refl _) hg (fun g e => by injection e with e; omega))
          clear hst hg
          clear HS
          have HS := HWK.out
          go_wp2_with fail
          refine hK.out _ _ ?_
          clear hK K
          try simp only [Act.put, List.setIfInBounds_toArray, List.set_cons_zero, List.set_cons_succ]
          refine Rg.takeP (i := 16) (oi := { dst := some 10, op := Op.assign (Operand.tmp 53), type := 3, pos := "mat.go:76", after := #[{ on := 15, ground := Ground.data }, { on := 15, ground := Ground.chain }, { on := 0, ground := Ground.phase }, { on := 1, ground := Ground.phase }, { on := 2, ground := Ground.phase }, { on := 3, ground := Ground.phase }, { on := 4, ground := Ground.phase }, { on := 5, ground := Ground.phase }, { on := 6, ground := Ground.phase }, { on := 7, ground := Ground.phase }, { on := 8, ground := Ground.phase }, { on := 9, ground := Ground.phase }, { on := 10, ground := Ground.phase }, { on := 11, ground := Ground.phase }, { on := 12, ground := Ground.phase }, { on := 13, ground := Ground.phase }, { on := 14, ground := Ground.phase }, { on := 15, ground := Ground.phase }], guard := none }) (v := ?_) rfl (by kernel_rfl) (fun _ _ _ h => h) (by rfl) ?_ ?_
          rotate_left 1
          · (intro w; go_simp; (try with_reducible rfl))
          try simp only [Act.put, List.setIfInBounds_toArray, List.set_cons_zero, List.set_cons_succ]
          refine Rg.doneR (by kernel_rfl) ?_ _
          refine NoPanic.normal ?_
          clear HS
          go_wp2_with fail
          refine ⟨⟨J + 1, by omega, by go_num, by rw [HCH.out], HO.out, ?_, HWK.out, HB.out, HWK.out.lt⟩, by simp [intOf]; omega⟩
          rw [HCH.out]
          have h := HK.out
          simp only [Bool.or_assoc] at h ⊢
          exact h
        · obtain rfl : J = N := by omega
          clear hJt
          generalize chainF (fun k => zs.getD (I * J + k) 0) (fun k => vs.getD k 0) J = ch at *
          obtain ⟨s, cb⟩ := ch
          simp only at HTS r_s HK ⊢
          have HRS := Lib.hid (rd_single wr (.int .i64 s) 3)
          have hsz2 : I + 1 ≤ 7 := by omega
          go_wp2_with (at_builtin; go_loud (refine wpList_append_rd _ rfl (.tmp 55) (.tmp 57) 22 rfl Go.Proofs.Ytejefecglioifaa.Ints.elemInts rfl (HO.out.alloc _) rfl (by simp) HRS.out (by simp [Value.oneCell']) (by unfold maxLen; omega) (by omega) (by simp; omega) ?_); intro A2 c2 w4 hA2 hown2 hg2; have HO2 := Lib.hid hown2; have HG2 := Lib.hid hg2; clear hA2 hown2 hg2)
          rw [intsV_snoc] at HO2
          refine ⟨⟨I + 1, A2, c2, by omega, by go_num, rfl, by rw [HTS.out]; exact HO2.out, ?_, ?_, ?_, ?_⟩, by simp [intOf]; omega⟩
          · rw [HTS.out]; exact Blk.grown (Blk.alloc HK.out _) HG2.out (own_apart HO.out (by omega))
          · exact (HWK.out.alloc _).grown HG2.out (own_apart HO.out (by omega))
          · exact below_grown (HB.out.alloc HB.out.size _) (by have := HB.out.size; simp) HG2.out (fun g e => by have := (HO.out.lt g e).1; have := HB.out.size; omega)
          · have := HG2.out.size; simp at this; omega
    · obtain rfl : I = N := by omega
      clear hlt
      have HRO := Lib.hid (Rd.of_own HO.out)
      obtain ⟨⟨tl, tb⟩, htt⟩ : ∃ tt, timesF I zs vs I = tt := ⟨_, rfl⟩
      have HTT := Lib.hid htt
      rw [htt] at HRO HK HTL
      clear htt
      simp only at HRO HK HTL
      go_upto_region 16 with fail
      have HS := And.intro ((HWK.out.drew.cell 2).trans rfl) ((Blk.cell (Blk.drew HK.out) 0).trans rfl)
      refine wp_region_noPanic ?_
      refine Rg.beginR [2, 4] (fun w' => w'.cell? ⟨gw, 2, none⟩ = some (.pointer (some ⟨gk, 0, none⟩)) ∧ w'.cell? ⟨gk, 0, none⟩ = some (.bool tb)) (by kernel_rfl) ?_
      refine Rg.takeP (i := 0) (oi := { dst := some 60, op := Op.move (Operand.tmp 8), type := 22, pos := "mat.go:80", after := #[], guard := none }) (v := ?_) rfl (by kernel_rfl) (fun _ _ _ h => h) (by rfl) ?_ ?_
      rotate_left 1
      · (intro w; go_simp; (try with_reducible rfl))
      try simp only [Act.put, List.setIfInBounds_toArray, List.set_cons_zero, List.set_cons_succ]
      refine Rg.takeP (i := 1) (oi := { dst := some 61, op := Op.fieldAddr 47 (Operand.tmp 7) 1, type := 0, pos := "mat.go:80", after := #[{ on := 5, ground := Ground.gcOnly Departure.lateStores }], guard := none }) (v := ?_) rfl (by kernel_rfl) (fun _ _ _ h => h) (by rfl) ?_ ?_
      rotate_left 1
      · (intro w; go_simp; (try with_reducible rfl))
      try simp only [Act.put, List.setIfInBounds_toArray, List.set_cons_zero, List.set_cons_succ]
      refine Rg.takeS (i := 2) (oi := { dst := some 62, op := Op.load 45 (Operand.tmp 61), type := 45, pos := "mat.go:80", after := #[{ on := 1, ground := Ground.data }, { on := 5, ground := Ground.gcOnly Departure.lateStores }], guard := none }) (v := ?_) rfl (by kernel_rfl) (fun _ _ _ h => h) (by rfl) HS ?_ ?_
      rotate_left 1
      · (intro w hSw; (try dsimp only at hSw); (try go_split_ands); go_simp; (try with_reducible rfl))
      try simp only [Act.put, List.setIfInBounds_toArray, List.set_cons_zero, List.set_cons_succ]
      refine Rg.takeP (i := 3) (oi := { dst := some 63, op := Op.nilCheck (Operand.tmp 62), type := 0, pos := "mat.go:80", after := #[{ on := 2, ground := Ground.data }, { on := 5, ground := Ground.gcOnly Departure.lateStores }], guard := none }) (v := ?_) rfl (by kernel_rfl) (fun _ _ _ h => h) (by rfl) ?_ ?_
      rotate_left 1
      · (intro w; go_simp; (try with_reducible rfl))
      try simp only [Act.put, List.setIfInBounds_toArray, List.set_cons_zero, List.set_cons_succ]
      refine Rg.takeS (i := 4) (oi := { dst := some 64, op := Op.load 4 (Operand.tmp 63), type := 4, pos := "mat.go:80", after := #[{ on := 3, ground := Ground.data }, { on := 5, ground := Ground.gcOnly Departure.lateStores }], guard := none }) (v := ?_) rfl (by kernel_rfl) (fun _ _ _ h => h) (by rfl) HS ?_ ?_
      rotate_left 1
      · (intro w hSw; (try dsimp only at hSw); (try go_split_ands); go_simp; (try with_reducible rfl))
      try simp only [Act.put, List.setIfInBounds_toArray, List.set_cons_zero, List.set_cons_succ]
      refine Rg.takeP (i := 5) (oi := { dst := some 4, op := Op.assign (Operand.tmp 60), type := 22, pos := "mat.go:80", after := #[{ on := 0, ground := Ground.data }, { on := 0, ground := Ground.phase }, { on := 1, ground := Ground.textOnly Departure.lateStores }, { on := 2, ground := Ground.textOnly Departure.lateStores }, { on := 3, ground := Ground.textOnly Departure.lateStores }, { on := 4, ground := Ground.textOnly Departure.lateStores }], guard := none }) (v := ?_) rfl (by kernel_rfl) (fun _ _ _ h => h) (by rfl) ?_ ?_
      rotate_left 1
      · (intro w; go_simp; (try with_reducible rfl))
      try simp only [Act.put, List.setIfInBounds_toArray, List.set_cons_zero, List.set_cons_succ]
      refine Rg.takeP (i := 6) (oi := { dst := some 5, op := Op.assign (Operand.tmp 64), type := 4, pos := "mat.go:80", after := #[{ on := 4, ground := Ground.data }, { on := 5, ground := Ground.chain }, { on := 0, ground := Ground.phase }, { on := 1, ground := Ground.phase }, { on := 2, ground := Ground.phase }, { on := 3, ground := Ground.phase }, { on := 4, ground := Ground.phase }, { on := 5, ground := Ground.phase }], guard := none }) (v := ?_) rfl (by kernel_rfl) (fun _ _ _ h => h) (by rfl) ?_ ?_
      rotate_left 1
      · (intro w; go_simp; (try with_reducible rfl))
      try simp only [Act.put, List.setIfInBounds_toArray, List.set_cons_zero, List.set_cons_succ]
      refine Rg.takeP (i := 7) (oi := { dst := some 6, op := Op.assign (Operand.const (Value.int IntKind.i64 0)), type := 25, pos := "mat.go:80", after := #[{ on := 6, ground := Ground.chain }, { on := 0, ground := Ground.phase }, { on := 1, ground := Ground.phase }, { on := 2, ground := Ground.phase }, { on := 3, ground := Ground.phase }, { on := 4, ground := Ground.phase }, { on := 5, ground := Ground.phase }, { on := 6, ground := Ground.phase }], guard := none }) (v := ?_) rfl (by kernel_rfl) (fun _ _ _ h => h) (by rfl) ?_ ?_
      rotate_left 1
      · (intro w; go_simp; (try with_reducible rfl))
      try simp only [Act.put, List.setIfInBounds_toArray, List.set_cons_zero, List.set_cons_succ]
      refine Rg.doneR (by kernel_rfl) ?_ _
      refine NoPanic.normal ?_
      clear HS
      go_wp2_with fail
      go_ret3
      refine ⟨A8, c8, ?_, ?_, HB.out.drew⟩
      · rw [HTT.out]
        show _ = Ending.returned (.tuple #[.slice A8 tl.length c8, .bool tb, .int .i64 0])
        rw [show tl.length = I from HTL.out]; rfl
      · rw [HTT.out]
        show Rd _ _ 1 _ tl.length (intsV tl)
        rw [show tl.length = I from HTL.out]; exact HRO.out.drew
end Go.Proofs.Ytejefecglioifaa.BigW
