/- Contract: the reference's Packed. -/
import Derived.Test.YtjfllpmiajkenaaPack
namespace Go.Proofs.Ytjfllpmiajkenaa.Nd
open Go.RowKit Go.Proofs.Ytjfllpmiajkenaa.Mem Go.Proofs.Ytjfllpmiajkenaa.Rws Go.Proofs.Ytjfllpmiajkenaa.Flat
set_option linter.unusedVariables false
set_option linter.unusedSimpArgs false

/-- who is in, from the last on -/
def inHi (f : Nat → Value) : Nat → Nat
  | 0 => 0
  | d + 1 => inHi f d * 2 + if bv (f (27 + (3 - d))) then 1 else 0
theorem inHi_lt (f : Nat → Value) : ∀ k, inHi f k < 2 ^ k
  | 0 => Nat.zero_lt_one
  | k + 1 => by
    have h := inHi_lt f k
    unfold inHi
    rw [Nat.pow_succ]
    split <;> omega
theorem inHi_all (f : Nat → Value) : inHi f 4 = inZ f 4 := by
  simp only [inHi, inZ]
  cases bv (f 27) <;> cases bv (f (27 + 1)) <;> cases bv (f (27 + 2)) <;> cases bv (f (27 + 3)) <;> rfl
theorem axis_load {f : Nat → Value} {S : Value} {L : Array Value} (k : Nat) (hk : k < 3) (h : (row 7 fun j => f (6 + (k * 7 + j))) = L) : (row 7 fun j => nodeW f S (6 + k * 7 + j)) = L := by
  rw [← h]
  refine row_congr fun j hj => ?_
  unfold nodeW
  rw [if_neg (by omega), Nat.add_assoc]

set_option maxRecDepth 100000 in
set_option maxHeartbeats 2000000 in
theorem packed_any (f : Nat → Value) (hf : ∀ i, i < 73 → okT (nodeT i) (f i)) (S : Value) (w : World) :
    Calls Try.prog 54 #[.agg (row 74 (nodeW f S))] w fun e w' => PackAs w w' f e := by
  have hcl : ∀ i, i < 73 → (row 74 (nodeW f S))[i]? = some (f i) := fun i hi => by rw [row_at (by omega)]; unfold nodeW; rw [if_neg (by omega)]
  have HC := Lib.hid hcl
  have HF := Lib.hid hf
  clear hcl hf
  go_enter Try.func54, Try.ntmps54
  go_upto_region 2 with fail
  have HN := Lib.hid (show Blk (w.alloc (.cells (row 74 (nodeW f S)) 37)) w.heap.size 37 (row 74 (nodeW f S)) from Blk.fresh _ _ _)
  have HB := Lib.hid ((Below.refl w.heap.size w).alloc (Nat.le_refl _) (.cells (row 74 (nodeW f S)) 37))
  generalize (w.alloc (.cells (row 74 (nodeW f S)) 37)) = w1 at *
  obtain ⟨gn, hgn⟩ : ∃ g, w.heap.size = g := ⟨_, rfl⟩
  have HGN := Lib.hid hgn
  rw [hgn] at HN ⊢
  have HB := Lib.hid (show Below gn w w1 from by have h := HB.out; rw [HGN.out] at h; exact h)
  clear hgn
  go_wp2_with fail
  obtain ⟨R, hR⟩ : ∃ R, row 74 (nodeW f S) = R := ⟨_, rfl⟩
  rw [hR] at HN
  have HC := Lib.hid (fun i hi => show R[i]? = some (f i) by rw [← hR]; exact HC.out i hi)
  have HRE := Lib.hid hR
  clear hR
  go_loopw [3, 4] (fun lv iv wr => ∃ (k n : Nat) (A : Option Addr) (c : Nat), k ≤ 3 ∧ n = k * 7 ∧ iv = .int .i64 (k : Int) ∧ lv = .slice A n c ∧ wr.ownsRow (gn + 1) 3 1 (.slice A n c) n (Ms.intsV (axesZ f k)) ∧ Blk wr gn 37 R ∧ Below gn w wr) (fun _ iv _ => 3 - (intOf iv).toNat)
  case atStart => exact ⟨0, 0, none, 0, by omega, rfl, rfl, rfl, World.ownsRow_nil _ _ _ _, HN.out, HB.out⟩
  case round =>
    clear HN HB
    obtain ⟨k, n, A, c, hk, hn, rfl, rfl, ho, hnd, hb⟩ := hrel
    have HO := Lib.hid ho
    have HN := Lib.hid hnd
    have HB := Lib.hid hb
    have HNK := Lib.hid hn
    clear ho hnd hb hn
    by_cases hlt : k < 3
    · obtain ⟨a, b, c0, d, e, m, t, hlit, hax⟩ := axis_cells HF.out k hlt
      have HAX := Lib.hid (show axesZ f (k + 1) = axesZ f k ++ [a, b, c0, d, e, bentZ t, m] by show axesZ f k ++ axZ f k = _; rw [hax])
      have HLM := Lib.hid (axis_load (S := S) k hlt hlit)
      have HNr := Lib.hid (show Blk wr gn 37 (row 74 (nodeW f S)) from by rw [HRE.out]; exact HN.out)
      have hlg := HN.out.lt
      have hn3 : n ≤ 14 := by have := HNK.out; omega
      clear hlit hax
      go_upto_region 6 with (refine wpList_mid rfl 25 _ rfl gn (6 + k * 7) 7 rfl HNr.out (by omega) _ Try.underlying25 rfl (by kernel_rfl) ?_; rw [HLM.out])
      go_upto_region 7 with fail
      have HT7 := Lib.hid (Blk.fresh wr 25 #[.int .i64 a, .int .i64 b, .int .i64 c0, .int .i64 d, .int .i64 e, .bool t, .int .i64 m])
      have HBw := Lib.hid ((Below.refl wr.heap.size wr).alloc (Nat.le_refl _) (.cells #[.int .i64 a, .int .i64 b, .int .i64 c0, .int .i64 d, .int .i64 e, .bool t, .int .i64 m] 25))
      have HO := Lib.hid (ownsRow_below HO.out HBw.out)
      have HN := Lib.hid (HN.out.below HBw.out HN.out.lt)
      have HB := Lib.hid (HB.out.alloc (by omega) (.cells #[.int .i64 a, .int .i64 b, .int .i64 c0, .int .i64 d, .int .i64 e, .bool t, .int .i64 m] 25))
      generalize (wr.alloc (.cells #[.int .i64 a, .int .i64 b, .int .i64 c0, .int .i64 d, .int .i64 e, .bool t, .int .i64 m] 25)) = w2 at *
      obtain ⟨gs, hgs⟩ : ∃ g, wr.heap.size = g := ⟨_, rfl⟩
      rw [hgs] at HT7 hlg ⊢
      have hgt := HT7.out.lt
      have y0 := HT7.out.cell 0
      have y1 := HT7.out.cell 1
      have y2 := HT7.out.cell 2
      have y3 := HT7.out.cell 3
      have y4 := HT7.out.cell 4
      have y5 := HT7.out.cell 5
      have y6 := HT7.out.cell 6
      simp only [List.getElem?_toArray, List.getElem?_cons_zero, List.getElem?_cons_succ] at y0 y1 y2 y3 y4 y5 y6
      clear hgs HBw HT7
      obtain ⟨be, hbe⟩ : ∃ be, bentZ t = be := ⟨_, rfl⟩
      rw [hbe] at HAX
      have HSG := Lib.hid (rd_of_blk (Blk.fresh w2 3 #[.int .i64 a, .int .i64 b, .int .i64 c0, .int .i64 d, .int .i64 e, .int .i64 be, .int .i64 m]))
      have HOW := Lib.hid (ownsRow_below HO.out ((Below.refl w2.heap.size w2).alloc (Nat.le_refl _) (.cells #[.int .i64 a, .int .i64 b, .int .i64 c0, .int .i64 d, .int .i64 e, .int .i64 be, .int .i64 m] 3)))
      have HBX := Lib.hid (HB.out.alloc (by omega) (.cells #[.int .i64 a, .int .i64 b, .int .i64 c0, .int .i64 d, .int .i64 e, .int .i64 be, .int .i64 m] 3))
      have HNX := Lib.hid (HN.out.alloc (.cells #[.int .i64 a, .int .i64 b, .int .i64 c0, .int .i64 d, .int .i64 e, .int .i64 be, .int .i64 m] 3))
      have hgn := HN.out.lt
      have HN7 := Lib.hid (show (n + 7 : Nat) = (k + 1) * 7 by have := HNK.out; omega)
      have HI7 := Lib.hid (show Ms.intsV (axesZ f (k + 1)) = Ms.intsV (axesZ f k) ++ [.int .i64 a, .int .i64 b, .int .i64 c0, .int .i64 d, .int .i64 e, .int .i64 be, .int .i64 m] by rw [HAX.out]; simp [Ms.intsV])
      rcases t with _ | _
      · have hbe : (0 : Int) = be := hbe
        subst hbe
        go_wp2_with (at_builtin; go_loud (refine wpList_append_rd _ rfl (.tmp 24) (.tmp 38) 39 rfl (base := gn + 1) Ms.elemInts rfl HOW.out rfl (fun h => by cases h) HSG.out (by simp [Value.oneCell']) (by unfold maxLen; omega) (by omega) (by simp; omega) ?_); intro A9 c9 w5 hA9 hown2 hg2; have HO5 := Lib.hid hown2; have HN5 := Lib.hid (HNX.out.grown hg2 (fun e => by have := (HOW.out.lt _ e.symm).1; omega)); have HB5 := Lib.hid (HBX.out.grown hg2 (by simp; omega) (fun g e => by have := (HOW.out.lt g e).1; omega)); clear hA9 hown2 hg2)
        refine ⟨⟨k + 1, n + 7, A9, c9, by omega, HN7.out, by go_num, rfl, by rw [HI7.out]; exact HO5.out, HN5.out, HB5.out⟩, by simp [intOf]; omega⟩
      · have hbe : (1 : Int) = be := hbe
        subst hbe
        go_wp2_with (at_builtin; go_loud (refine wpList_append_rd _ rfl (.tmp 24) (.tmp 38) 39 rfl (base := gn + 1) Ms.elemInts rfl HOW.out rfl (fun h => by cases h) HSG.out (by simp [Value.oneCell']) (by unfold maxLen; omega) (by omega) (by simp; omega) ?_); intro A9 c9 w5 hA9 hown2 hg2; have HO5 := Lib.hid hown2; have HN5 := Lib.hid (HNX.out.grown hg2 (fun e => by have := (HOW.out.lt _ e.symm).1; omega)); have HB5 := Lib.hid (HBX.out.grown hg2 (by simp; omega) (fun g e => by have := (HOW.out.lt g e).1; omega)); clear hA9 hown2 hg2)
        refine ⟨⟨k + 1, n + 7, A9, c9, by omega, HN7.out, by go_num, rfl, by rw [HI7.out]; exact HO5.out, HN5.out, HB5.out⟩, by simp [intOf]; omega⟩
    · obtain rfl : k = 3 := by omega
      clear hlt
      rw [show ((3 : Nat) : Int) = 3 from rfl]
      obtain rfl : n = 21 := HNK.out
      go_wp2_with fail
      go_loop [7, 10] (fun iv_ xv => ∃ d n : Nat, d + n = 4 ∧ xv = .int .i64 ((n : Int) - 1) ∧ iv_ = .int .i64 ((inHi f d : Nat) : Int)) (fun _ xv => (intOf xv + 1).toNat)
      case atStart => exact ⟨0, 4, rfl, rfl, rfl⟩
      case round =>
        obtain ⟨d, n, hdn, rfl, rfl⟩ := hrel
        rcases n with _ | n
        · obtain rfl : d = 4 := by omega
          rw [inHi_all]
          go_wp2_with fail
          go_loop [8, 9, 11] (fun mv jv xv => ∃ k : Nat, k ≤ 4 ∧ xv = .int .i64 (k : Int) ∧ mv = .int .i64 (octZ 31 f k) ∧ jv = .int .i64 (octZ 35 f k)) (fun _ _ xv => 4 - (intOf xv).toNat)
          case atStart => exact ⟨0, by omega, rfl, rfl, rfl⟩
          case round =>
            obtain ⟨k, hk4, rfl, rfl, rfl⟩ := hrel
            by_cases hlk : k < 4
            · have c2 : wr.cell? ⟨gn, 31 + k, none⟩ = some (.int .i64 (iv (f (31 + k)))) := by rw [HN.out.cell, HC.out _ (by omega), ← node_int HF.out (31 + k) (by omega) (by omega)]
              have c3 : wr.cell? ⟨gn, 35 + k, none⟩ = some (.int .i64 (iv (f (35 + k)))) := by rw [HN.out.cell, HC.out _ (by omega), ← node_int HF.out (35 + k) (by omega) (by omega)]
              have HM1 := Lib.hid (show octZ 31 f (k + 1) = IntKind.i64.wrap (IntKind.i64.wrap (8 * octZ 31 f k) + iv (f (31 + k))) by rw [Int.mul_comm]; rfl)
              have HJ1 := Lib.hid (show octZ 35 f (k + 1) = IntKind.i64.wrap (IntKind.i64.wrap (8 * octZ 35 f k) + iv (f (35 + k))) by rw [Int.mul_comm]; rfl)
              generalize octZ 31 f k = M at *
              generalize octZ 35 f k = J at *
              generalize iv (f (31 + k)) = x1 at *
              generalize iv (f (35 + k)) = x2 at *
              obtain ⟨p1, hp1⟩ : ∃ p, IntKind.i64.wrap (8 * M) = p := ⟨_, rfl⟩
              rw [hp1] at HM1
              obtain ⟨p2, hp2⟩ : ∃ p, IntKind.i64.wrap (p1 + x1) = p := ⟨_, rfl⟩
              rw [hp2] at HM1
              obtain ⟨p3, hp3⟩ : ∃ p, IntKind.i64.wrap (8 * J) = p := ⟨_, rfl⟩
              rw [hp3] at HJ1
              obtain ⟨p4, hp4⟩ : ∃ p, IntKind.i64.wrap (p3 + x2) = p := ⟨_, rfl⟩
              rw [hp4] at HJ1
              go_wp2_with fail
              exact ⟨⟨k + 1, by omega, by go_num, by rw [HM1.out], by rw [HJ1.out]⟩, by simp [intOf]; omega⟩
            · obtain rfl : k = 4 := by omega
              clear hlk
              rw [show ((4 : Nat) : Int) = 4 from rfl]
              have HPZ := Lib.hid (show Ms.intsV (packZ f) = Ms.intsV (axesZ f 3) ++ [.int .i64 ((inZ f 4 : Nat) : Int), .int .i64 (octZ 31 f 4), .int .i64 (octZ 35 f 4)] by unfold packZ; simp [Ms.intsV])
              obtain ⟨I, hI⟩ : ∃ I : Int, ((inZ f 4 : Nat) : Int) = I := ⟨_, rfl⟩
              obtain ⟨M, hM⟩ : ∃ I : Int, octZ 31 f 4 = I := ⟨_, rfl⟩
              obtain ⟨J, hJ⟩ : ∃ I : Int, octZ 35 f 4 = I := ⟨_, rfl⟩
              rw [hI, hM, hJ] at HPZ
              rw [hI, hM, hJ]
              clear hI hM hJ HNK
              have hgn := HN.out.lt
              have HSG := Lib.hid (rd_of_blk (Blk.fresh wr 3 #[.int .i64 I, .int .i64 M, .int .i64 J]))
              have HOW := Lib.hid (ownsRow_below HO.out ((Below.refl wr.heap.size wr).alloc (Nat.le_refl _) (.cells #[.int .i64 I, .int .i64 M, .int .i64 J] 3)))
              have HBX := Lib.hid (HB.out.alloc (by omega) (.cells #[.int .i64 I, .int .i64 M, .int .i64 J] 3))
              go_wp2_with (at_builtin; go_loud (refine wpList_append_rd _ rfl (.tmp 73) (.tmp 77) 39 rfl (base := gn + 1) Ms.elemInts rfl HOW.out rfl (fun h => by cases h) HSG.out (by simp [Value.oneCell']) (by unfold maxLen; omega) (by omega) (by simp; omega) ?_); intro A9 c9 w5 hA9 hown2 hg2; have HO5 := Lib.hid hown2; have HB5 := Lib.hid (HBX.out.grown hg2 (by simp; omega) (fun g e => by have := (HOW.out.lt g e).1; omega)); clear hA9 hown2 hg2)
              go_ret
              refine ⟨A9, c9, rfl, ?_, by rw [HGN.out]; exact HB5.out⟩
              rw [HPZ.out, HGN.out]
              exact own_weaken HO5.out (by omega)
        · have c1 : wr.cell? ⟨gn, 27 + n, none⟩ = some (.bool (bv (f (27 + n)))) := by rw [HN.out.cell, HC.out _ (by omega), ← node_bool HF.out (27 + n) (by omega) (by omega)]
          have HLT := Lib.hid (inHi_lt f d)
          have HIN := Lib.hid (show inHi f (d + 1) = inHi f d * 2 + if bv (f (27 + n)) then 1 else 0 by show inHi f d * 2 + (if bv (f (27 + (3 - d))) then 1 else 0) = _; rw [show 3 - d = n by omega])
          generalize inHi f d = I at *
          have hI8 : I < 8 := Nat.lt_of_lt_of_le HLT.out (Nat.pow_le_pow_right (by omega) (show d ≤ 3 by omega))
          have hIi : (I : Int) < 8 := by omega
          rw [show (((n + 1 : Nat) : Int) - 1) = (n : Int) by omega]
          have hn4 : (n : Int) < 4 := by omega
          have hn0 : (0 : Int) ≤ (n : Int) := by omega
          cases hbv : bv (f (27 + n)) with
          | false =>
            rw [hbv] at c1 HIN
            have HIN := Lib.hid (show inHi f (d + 1) = I * 2 by rw [HIN.out]; rfl)
            clear hbv
            go_wp2_with fail
            exact ⟨⟨d + 1, n, by omega, by go_num, by rw [HIN.out]; go_num⟩, by simp [intOf]⟩
          | true =>
            rw [hbv] at c1 HIN
            have HIN := Lib.hid (show inHi f (d + 1) = I * 2 + 1 by rw [HIN.out]; rfl)
            clear hbv
            go_wp2_with fail
            exact ⟨⟨d + 1, n, by omega, by go_num, by rw [HIN.out]; go_num⟩, by simp [intOf]⟩
end Go.Proofs.Ytjfllpmiajkenaa.Nd
