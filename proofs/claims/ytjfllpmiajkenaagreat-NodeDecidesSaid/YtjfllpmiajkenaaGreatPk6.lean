import Derived.Test.YtjfllpmiajkenaaGreatPk5
import Derived.IntWalk
import Derived.Test.YtjfllpmiajkenaaGreatPk3
import Derived.WalkSpells
import Derived.WalkLawsBesides
namespace Go.Proofs.YtjfllpmiajkenaaGreat.Nd
open Go.RowKit Go.Proofs.YtjfllpmiajkenaaGreat.Mem Go.Proofs.YtjfllpmiajkenaaGreat.Rws Go.Proofs.YtjfllpmiajkenaaGreat.Flat
set_option linter.unusedVariables false
set_option linter.unusedSimpArgs false
def inHi (f : Nat → Value) : Nat → Nat
  | 0 => 0
  | d + 1 => inHi f d * 2 + if bv (f (27 + (3 - d))) then 1 else 0
theorem inHi_lt (f : Nat → Value) : ∀ k, inHi f k < 2 ^ k
  | 0 => Nat.zero_lt_one
  | k + 1 => by
    have h := inHi_lt f k
    unfold inHi
    rw [Nat.pow_succ]
    split <;> omega
theorem inHi_all (f : Nat → Value) : inHi f 4 = inZ f 4 := by
  simp only [inHi, inZ]
  cases bv (f 27) <;> cases bv (f (27 + 1)) <;> cases bv (f (27 + 2)) <;> cases bv (f (27 + 3)) <;> rfl
theorem axis_load {f : Nat → Value} {S : Value} {L : Array Value} (k : Nat) (hk : k < 3) (h : (row 7 fun j => f (6 + (k * 7 + j))) = L) : (row 7 fun j => nodeW f S (6 + k * 7 + j)) = L := by
  rw [← h]
  refine row_congr fun j hj => ?_
  unfold nodeW
  rw [if_neg (by omega), Nat.add_assoc]
set_option maxRecDepth 100000 in
set_option maxHeartbeats 2000000 in
theorem packed_any (f : Nat → Value) (hf : ∀ i, i < 73 → okT (nodeT i) (f i)) (S : Value) (w : World) :
    Calls Tryz.prog 70 #[.agg (row 74 (nodeW f S))] w fun e w' => PackAs w w' f e := by
  have hcl : ∀ i, i < 73 → (row 74 (nodeW f S))[i]? = some (f i) := fun i hi => by rw [row_at (by omega)]; unfold nodeW; rw [if_neg (by omega)]
  have HC := Lib.hid hcl
  have HF := Lib.hid hf
  clear hcl hf
  go_enter Tryz.func70, Tryz.ntmps70
  go_upto_region 2 with fail
  have HN := Lib.hid (show Blk (w.alloc (.cells (row 74 (nodeW f S)) 37)) w.heap.size 37 (row 74 (nodeW f S)) from Blk.fresh _ _ _)
  have HB := Lib.hid ((Below.refl w.heap.size w).alloc (Nat.le_refl _) (.cells (row 74 (nodeW f S)) 37))
  generalize (w.alloc (.cells (row 74 (nodeW f S)) 37)) = w1 at *
  obtain ⟨gn, hgn⟩ : ∃ g, w.heap.size = g := ⟨_, rfl⟩
  have HGN := Lib.hid hgn
  rw [hgn] at HN ⊢
  have HB := Lib.hid (show Below gn w w1 from by have h := HB.out; rw [HGN.out] at h; exact h)
  clear hgn
  go_wp2_with fail
  obtain ⟨R, hR⟩ : ∃ R, row 74 (nodeW f S) = R := ⟨_, rfl⟩
  rw [hR] at HN
  have HC := Lib.hid (fun i hi => show R[i]? = some (f i) by rw [← hR]; exact HC.out i hi)
  have HRE := Lib.hid hR
  clear hR
  go_loopw [3, 4] (fun lv iv wr => ∃ (k n : Nat) (A : Option Addr) (c : Nat), k ≤ 3 ∧ n = k * 7 ∧ iv = .int .i64 (k : Int) ∧ lv = .slice A n c ∧ wr.ownsRow (gn + 1) 3 1 (.slice A n c) n (Ms.intsV (axesZ f k)) ∧ Blk wr gn 37 R ∧ Below gn w wr) (fun _ iv _ => 3 - (intOf iv).toNat)
  case atStart => exact ⟨0, 0, none, 0, by omega, rfl, rfl, rfl, World.ownsRow_nil _ _ _ _, HN.out, HB.out⟩
  case round =>
    clear HN HB
    obtain ⟨k, n, A, c, hk, hn, rfl, rfl, ho, hnd, hb⟩ := hrel
    have HO := Lib.hid ho
    have HN := Lib.hid hnd
    have HB := Lib.hid hb
    have HNK := Lib.hid hn
    clear ho hnd hb hn
    by_cases hlt : k < 3
    · obtain ⟨a, b, c0, d, e, m, t, hlit, hax⟩ := axis_cells HF.out k hlt
      have HAX := Lib.hid (show axesZ f (k + 1) = axesZ f k ++ [a, b, c0, d, e, bentZ t, m] by show axesZ f k ++ axZ f k = _; rw [hax])
      have HLM := Lib.hid (axis_load (S := S) k hlt hlit)
      have HNr := Lib.hid (show Blk wr gn 37 (row 74 (nodeW f S)) from by rw [HRE.out]; exact HN.out)
      have hlg := HN.out.lt
      have hn3 : n ≤ 14 := by have := HNK.out; omega
      clear hlit hax
      go_upto_region 6 with (refine wpList_mid rfl 25 _ rfl gn (6 + k * 7) 7 rfl HNr.out (by omega) _ Tryz.underlying25 rfl (by kernel_rfl) ?_; rw [HLM.out])
      go_upto_region 7 with fail
      have HT7 := Lib.hid (Blk.fresh wr 25 #[.int .i64 a, .int .i64 b, .int .i64 c0, .int .i64 d, .int .i64 e, .bool t, .int .i64 m])
      have HBw := Lib.hid ((Below.refl wr.heap.size wr).alloc (Nat.le_refl _) (.cells #[.int .i64 a, .int .i64 b, .int .i64 c0, .int .i64 d, .int .i64 e, .bool t, .int .i64 m] 25))
      have HO := Lib.hid (ownsRow_below HO.out HBw.out)
      have HN := Lib.hid (HN.out.below HBw.out HN.out.lt)
      have HB := Lib.hid (HB.out.alloc (by omega) (.cells #[.int .i64 a, .int .i64 b, .int .i64 c0, .int .i64 d, .int .i64 e, .bool t, .int .i64 m] 25))
      generalize (wr.alloc (.cells #[.int .i64 a, .int .i64 b, .int .i64 c0, .int .i64 d, .int .i64 e, .bool t, .int .i64 m] 25)) = w2 at *
      obtain ⟨gs, hgs⟩ : ∃ g, wr.heap.size = g := ⟨_, rfl⟩
      rw [hgs] at HT7 hlg ⊢
      have hgt := HT7.out.lt
      have y0 := HT7.out.cell 0
      have y1 := HT7.out.cell 1
      have y2 := HT7.out.cell 2
      have y3 := HT7.out.cell 3
      have y4 := HT7.out.cell 4
      have y5 := HT7.out.cell 5
      have y6 := HT7.out.cell 6
      simp only [List.getElem?_toArray, List.getElem?_cons_zero, List.getElem?_cons_succ] at y0 y1 y2 y3 y4 y5 y6
      clear hgs HBw HT7
      obtain ⟨be, hbe⟩ : ∃ be, bentZ t = be := ⟨_, rfl⟩
      rw [hbe] at HAX
      have HSG := Lib.hid (rd_of_blk (Blk.fresh w2 3 #[.int .i64 a, .int .i64 b, .int .i64 c0, .int .i64 d, .int .i64 e, .int .i64 be, .int .i64 m]))
      have HOW := Lib.hid (ownsRow_below HO.out ((Below.refl w2.heap.size w2).alloc (Nat.le_refl _) (.cells #[.int .i64 a, .int .i64 b, .int .i64 c0, .int .i64 d, .int .i64 e, .int .i64 be, .int .i64 m] 3)))
      have HBX := Lib.hid (HB.out.alloc (by omega) (.cells #[.int .i64 a, .int .i64 b, .int .i64 c0, .int .i64 d, .int .i64 e, .int .i64 be, .int .i64 m] 3))
      have HNX := Lib.hid (HN.out.alloc (.cells #[.int .i64 a, .int .i64 b, .int .i64 c0, .int .i64 d, .int .i64 e, .int .i64 be, .int .i64 m] 3))
      have hgn := HN.out.lt
      have HN7 := Lib.hid (show (n + 7 : Nat) = (k + 1) * 7 by have := HNK.out; omega)
      have HI7 := Lib.hid (show Ms.intsV (axesZ f (k + 1)) = Ms.intsV (axesZ f k) ++ [.int .i64 a, .int .i64 b, .int .i64 c0, .int .i64 d, .int .i64 e, .int .i64 be, .int .i64 m] by rw [HAX.out]; simp [Ms.intsV])
      rcases t with _ | _
      · have hbe : (0 : Int) = be := hbe
        subst hbe
        go_wp2_with (at_builtin; go_loud (refine wpList_append_rd _ rfl (.tmp 24) (.tmp 38) 39 rfl (base := gn + 1) Ms.elemInts rfl HOW.out rfl (fun h => by cases h) HSG.out (by simp [Value.oneCell']) (by unfold maxLen; omega) (by omega) (by simp; omega) ?_); intro A9 c9 w5 hA9 hown2 hg2; have HO5 := Lib.hid hown2; have HN5 := Lib.hid (HNX.out.grown hg2 (fun e => by have := (HOW.out.lt _ e.symm).1; omega)); have HB5 := Lib.hid (HBX.out.grown hg2 (by simp; omega) (fun g e => by have := (HOW.out.lt g e).1; omega)); clear hA9 hown2 hg2)
        refine ⟨⟨k + 1, n + 7, A9, c9, by omega, HN7.out, by go_num, rfl, by rw [HI7.out]; exact HO5.out, HN5.out, HB5.out⟩, by simp [intOf]; omega⟩
      · have hbe : (1 : Int) = be := hbe
        subst hbe
        go_wp2_with (at_builtin; go_loud (refine wpList_append_rd _ rfl (.tmp 24) (.tmp 38) 39 rfl (base := gn + 1) Ms.elemInts rfl HOW.out rfl (fun h => by cases h) HSG.out (by simp [Value.oneCell']) (by unfold maxLen; omega) (by omega) (by simp; omega) ?_); intro A9 c9 w5 hA9 hown2 hg2; have HO5 := Lib.hid hown2; have HN5 := Lib.hid (HNX.out.grown hg2 (fun e => by have := (HOW.out.lt _ e.symm).1; omega)); have HB5 := Lib.hid (HBX.out.grown hg2 (by simp; omega) (fun g e => by have := (HOW.out.lt g e).1; omega)); clear hA9 hown2 hg2)
        refine ⟨⟨k + 1, n + 7, A9, c9, by omega, HN7.out, by go_num, rfl, by rw [HI7.out]; exact HO5.out, HN5.out, HB5.out⟩, by simp [intOf]; omega⟩
    · obtain rfl : k = 3 := by omega
      clear hlt
      rw [show ((3 : Nat) : Int) = 3 from rfl]
      obtain rfl : n = 21 := HNK.out
      go_wp2_with fail
      go_loop [7, 10] (fun iv_ xv => ∃ d n : Nat, d + n = 4 ∧ xv = .int .i64 ((n : Int) - 1) ∧ iv_ = .int .i64 ((inHi f d : Nat) : Int)) (fun _ xv => (intOf xv + 1).toNat)
      case atStart => exact ⟨0, 4, rfl, rfl, rfl⟩
      case round =>
        obtain ⟨d, n, hdn, rfl, rfl⟩ := hrel
        rcases n with _ | n
        · obtain rfl : d = 4 := by omega
          rw [inHi_all]
          go_wp2_with fail
          go_loop [8, 9, 11] (fun mv jv xv => ∃ k : Nat, k ≤ 4 ∧ xv = .int .i64 (k : Int) ∧ mv = .int .i64 (octZ 31 f k) ∧ jv = .int .i64 (octZ 35 f k)) (fun _ _ xv => 4 - (intOf xv).toNat)
          case atStart => exact ⟨0, by omega, rfl, rfl, rfl⟩
          case round =>
            obtain ⟨k, hk4, rfl, rfl, rfl⟩ := hrel
            by_cases hlk : k < 4
            · have c2 : wr.cell? ⟨gn, 31 + k, none⟩ = some (.int .i64 (iv (f (31 + k)))) := by rw [HN.out.cell, HC.out _ (by omega), ← node_int HF.out (31 + k) (by omega) (by omega)]
              have c3 : wr.cell? ⟨gn, 35 + k, none⟩ = some (.int .i64 (iv (f (35 + k)))) := by rw [HN.out.cell, HC.out _ (by omega), ← node_int HF.out (35 + k) (by omega) (by omega)]
              have HM1 := Lib.hid (show octZ 31 f (k + 1) = IntKind.i64.wrap (IntKind.i64.wrap (8 * octZ 31 f k) + iv (f (31 + k))) by rw [Int.mul_comm]; rfl)
              have HJ1 := Lib.hid (show octZ 35 f (k + 1) = IntKind.i64.wrap (IntKind.i64.wrap (8 * octZ 35 f k) + iv (f (35 + k))) by rw [Int.mul_comm]; rfl)
              generalize octZ 31 f k = M at *
              generalize octZ 35 f k = J at *
              generalize iv (f (31 + k)) = x1 at *
              generalize iv (f (35 + k)) = x2 at *
              obtain ⟨p1, hp1⟩ : ∃ p, IntKind.i64.wrap (8 * M) = p := ⟨_, rfl⟩
              rw [hp1] at HM1
              obtain ⟨p2, hp2⟩ : ∃ p, IntKind.i64.wrap (p1 + x1) = p := ⟨_, rfl⟩
              rw [hp2] at HM1
              obtain ⟨p3, hp3⟩ : ∃ p, IntKind.i64.wrap (8 * J) = p := ⟨_, rfl⟩
              rw [hp3] at HJ1
              obtain ⟨p4, hp4⟩ : ∃ p, IntKind.i64.wrap (p3 + x2) = p := ⟨_, rfl⟩
              rw [hp4] at HJ1
              go_wp2_with fail
              exact ⟨⟨k + 1, by omega, by go_num, by rw [HM1.out], by rw [HJ1.out]⟩, by simp [intOf]; omega⟩
            · obtain rfl : k = 4 := by omega
              clear hlk
              rw [show ((4 : Nat) : Int) = 4 from rfl]
              have HPZ := Lib.hid (show Ms.intsV (packZ f) = Ms.intsV (axesZ f 3) ++ [.int .i64 ((inZ f 4 : Nat) : Int), .int .i64 (octZ 31 f 4), .int .i64 (octZ 35 f 4)] by unfold packZ; simp [Ms.intsV])
              obtain ⟨I, hI⟩ : ∃ I : Int, ((inZ f 4 : Nat) : Int) = I := ⟨_, rfl⟩
              obtain ⟨M, hM⟩ : ∃ I : Int, octZ 31 f 4 = I := ⟨_, rfl⟩
              obtain ⟨J, hJ⟩ : ∃ I : Int, octZ 35 f 4 = I := ⟨_, rfl⟩
              rw [hI, hM, hJ] at HPZ
              rw [hI, hM, hJ]
              clear hI hM hJ HNK
              have hgn := HN.out.lt
              have HSG := Lib.hid (rd_of_blk (Blk.fresh wr 3 #[.int .i64 I, .int .i64 M, .int .i64 J]))
              have HOW := Lib.hid (ownsRow_below HO.out ((Below.refl wr.heap.size wr).alloc (Nat.le_refl _) (.cells #[.int .i64 I, .int .i64 M, .int .i64 J] 3)))
              have HBX := Lib.hid (HB.out.alloc (by omega) (.cells #[.int .i64 I, .int .i64 M, .int .i64 J] 3))
              go_wp2_with (at_builtin; go_loud (refine wpList_append_rd _ rfl (.tmp 73) (.tmp 77) 39 rfl (base := gn + 1) Ms.elemInts rfl HOW.out rfl (fun h => by cases h) HSG.out (by simp [Value.oneCell']) (by unfold maxLen; omega) (by omega) (by simp; omega) ?_); intro A9 c9 w5 hA9 hown2 hg2; have HO5 := Lib.hid hown2; have HB5 := Lib.hid (HBX.out.grown hg2 (by simp; omega) (fun g e => by have := (HOW.out.lt g e).1; omega)); clear hA9 hown2 hg2)
              go_ret
              refine ⟨A9, c9, rfl, ?_, by rw [HGN.out]; exact HB5.out⟩
              rw [HPZ.out, HGN.out]
              exact own_weaken HO5.out (by omega)
        · have c1 : wr.cell? ⟨gn, 27 + n, none⟩ = some (.bool (bv (f (27 + n)))) := by rw [HN.out.cell, HC.out _ (by omega), ← node_bool HF.out (27 + n) (by omega) (by omega)]
          have HLT := Lib.hid (inHi_lt f d)
          have HIN := Lib.hid (show inHi f (d + 1) = inHi f d * 2 + if bv (f (27 + n)) then 1 else 0 by show inHi f d * 2 + (if bv (f (27 + (3 - d))) then 1 else 0) = _; rw [show 3 - d = n by omega])
          generalize inHi f d = I at *
          have hI8 : I < 8 := Nat.lt_of_lt_of_le HLT.out (Nat.pow_le_pow_right (by omega) (show d ≤ 3 by omega))
          have hIi : (I : Int) < 8 := by omega
          rw [show (((n + 1 : Nat) : Int) - 1) = (n : Int) by omega]
          have hn4 : (n : Int) < 4 := by omega
          have hn0 : (0 : Int) ≤ (n : Int) := by omega
          cases hbv : bv (f (27 + n)) with
          | false =>
            rw [hbv] at c1 HIN
            have HIN := Lib.hid (show inHi f (d + 1) = I * 2 by rw [HIN.out]; rfl)
            clear hbv
            go_wp2_with fail
            exact ⟨⟨d + 1, n, by omega, by go_num, by rw [HIN.out]; go_num⟩, by simp [intOf]⟩
          | true =>
            rw [hbv] at c1 HIN
            have HIN := Lib.hid (show inHi f (d + 1) = I * 2 + 1 by rw [HIN.out]; rfl)
            clear hbv
            go_wp2_with fail
            exact ⟨⟨d + 1, n, by omega, by go_num, by rw [HIN.out]; go_num⟩, by simp [intOf]⟩
end Go.Proofs.YtjfllpmiajkenaaGreat.Nd
namespace Go.Proofs.YtjfllpmiajkenaaGreat.SumLaw
def step1 (c : Nat) : Nat := if c % 2 = 1 then (c / 2) ^^^ 3988292384 else c / 2
def steps : Nat → Nat → Nat
  | 0, c => c
  | n + 1, c => step1 (steps n c)
def tab (i : Nat) : Nat := steps 8 i
def byteT (c x : Nat) : Nat := tab ((c % 256) ^^^ x) ^^^ (c / 256)
def bitR (c x k : Nat) : Nat := if (c % 2 + x / 2 ^ k) % 2 = 1 then (c / 2) ^^^ 3988292384 else c / 2
def bitsR (c x : Nat) : Nat → Nat
  | 0 => c
  | k + 1 => bitR (bitsR c x k) x k
def over (f : Nat → Nat → Nat) (c : Nat) (l : List Nat) : Nat := l.foldl f c
def more (s : Int) (l : List Nat) : Int := 4294967295 - (over byteT (4294967295 - (s % 4294967296).toNat) l : Nat)
theorem xor_mod2 (a b : Nat) : (a ^^^ b) % 2 = (a + b) % 2 := by
  have h := @Nat.xor_mod_two_pow a b 1
  simp only [Nat.pow_one] at h
  rw [h]
  rcases Nat.mod_two_eq_zero_or_one a with ha | ha <;> rcases Nat.mod_two_eq_zero_or_one b with hb | hb <;> rw [ha, hb]
  · rw [show (0 ^^^ 0 : Nat) = 0 from rfl]; omega
  · rw [show (0 ^^^ 1 : Nat) = 1 from rfl]; omega
  · rw [show (1 ^^^ 0 : Nat) = 1 from rfl]; omega
  · rw [show (1 ^^^ 1 : Nat) = 0 from rfl]; omega
theorem xor_div2 (a b : Nat) : (a ^^^ b) / 2 = (a / 2) ^^^ (b / 2) := by
  have h := @Nat.xor_div_two_pow a b 1
  simpa using h
theorem step1_xor (a b : Nat) : step1 (a ^^^ b) = step1 a ^^^ step1 b := by
  unfold step1
  rw [xor_mod2, xor_div2]
  rcases Nat.mod_two_eq_zero_or_one a with ha | ha <;> rcases Nat.mod_two_eq_zero_or_one b with hb | hb
  · rw [if_neg (by omega), if_neg (by omega), if_neg (by omega)]
  · rw [if_pos (by omega), if_neg (by omega), if_pos (by omega), Nat.xor_assoc]
  · rw [if_pos (by omega), if_pos (by omega), if_neg (by omega), Nat.xor_assoc, Nat.xor_assoc, Nat.xor_comm (b / 2)]
  · rw [if_neg (by omega), if_pos (by omega), if_pos (by omega), Nat.xor_assoc (a / 2), Nat.xor_comm (b / 2), ← Nat.xor_assoc 3988292384, Nat.xor_self, Nat.zero_xor]
theorem steps_xor (n a b : Nat) : steps n (a ^^^ b) = steps n a ^^^ steps n b := by
  induction n with
  | zero => rfl
  | succ n ih => unfold steps; rw [ih, step1_xor]
theorem steps_comm (n c : Nat) : steps n (step1 c) = step1 (steps n c) := by
  induction n with
  | zero => rfl
  | succ n ih => unfold steps; rw [ih]
theorem steps_shift (n h : Nat) : steps n (2 ^ n * h) = h := by
  induction n generalizing h with
  | zero => simp [steps]
  | succ n ih =>
    have e : steps (n + 1) (2 ^ (n + 1) * h) = steps n (step1 (2 ^ (n + 1) * h)) := by rw [steps_comm]; rfl
    rw [e, Nat.pow_succ]
    have e2 : step1 (2 ^ n * 2 * h) = 2 ^ n * h := by
      unfold step1
      have : 2 ^ n * 2 * h = 2 * (2 ^ n * h) := by rw [Nat.mul_comm (2 ^ n) 2, Nat.mul_assoc]
      rw [this, if_neg (by omega)]
      omega
    rw [e2, ih]
theorem split8 (a : Nat) : (a % 256) ^^^ (256 * (a / 256)) = a := by
  have h : (a % 2 ^ 8) ^^^ (2 ^ 8 * (a / 2 ^ 8)) = a := by
    apply Nat.eq_of_testBit_eq
    intro i
    rw [Nat.testBit_xor, Nat.testBit_mod_two_pow, Nat.testBit_two_pow_mul, Nat.testBit_div_two_pow]
    by_cases hi : i < 8
    · have h8 : ¬ 8 ≤ i := by omega
      simp [hi, h8]
    · have e : i - 8 + 8 = i := by omega
      have h8 : 8 ≤ i := by omega
      simp [hi, e, h8]
  simpa using h
theorem xor_mod256 (a x : Nat) (hx : x < 256) : (a ^^^ x) % 256 = (a % 256) ^^^ x := by
  have h := @Nat.xor_mod_two_pow a x 8
  rw [show (2 : Nat) ^ 8 = 256 from rfl] at h
  rw [h, Nat.mod_eq_of_lt hx]
theorem xor_div256 (a x : Nat) (hx : x < 256) : (a ^^^ x) / 256 = a / 256 := by
  have h := @Nat.xor_div_two_pow a x 8
  rw [show (2 : Nat) ^ 8 = 256 from rfl] at h
  rw [h, Nat.div_eq_of_lt hx, Nat.xor_zero]
theorem byteT_steps (c x : Nat) (hx : x < 256) : byteT c x = steps 8 (c ^^^ x) := by
  have h := split8 (c ^^^ x)
  rw [xor_mod256 c x hx, xor_div256 c x hx] at h
  rw [← h, steps_xor]
  have e := steps_shift 8 (c / 256)
  rw [show (2 : Nat) ^ 8 = 256 from rfl] at e
  rw [e]
  rfl
theorem bitsR_steps (c x : Nat) : ∀ k, bitsR c x k ^^^ (x / 2 ^ k) = steps k (c ^^^ x)
  | 0 => by simp [bitsR, steps]
  | k + 1 => by
    have ih := bitsR_steps c x k
    unfold steps
    rw [← ih, step1_xor]
    have eb : bitsR c x (k + 1) = bitR (bitsR c x k) x k := rfl
    rw [eb]
    unfold bitR
    generalize bitsR c x k = d
    have hx2 : x / 2 ^ (k + 1) = x / 2 ^ k / 2 := by rw [Nat.pow_succ, Nat.div_div_eq_div_mul]
    rw [hx2]
    generalize x / 2 ^ k = y
    unfold step1
    rcases Nat.mod_two_eq_zero_or_one d with ha | ha <;> rcases Nat.mod_two_eq_zero_or_one y with hb | hb
    · rw [if_neg (by omega), if_neg (by omega), if_neg (by omega)]
    · rw [if_pos (by omega), if_neg (by omega), if_pos (by omega), Nat.xor_assoc, Nat.xor_comm 3988292384]
    · rw [if_pos (by omega), if_pos (by omega), if_neg (by omega)]
    · rw [if_neg (by omega), if_pos (by omega), if_pos (by omega), Nat.xor_assoc (d / 2), ← Nat.xor_assoc 3988292384, Nat.xor_comm 3988292384 (y / 2), Nat.xor_assoc (y / 2), Nat.xor_self, Nat.xor_zero]
theorem bitsR_byte (c x : Nat) (hx : x < 256) : bitsR c x 8 = byteT c x := by
  have h := bitsR_steps c x 8
  rw [show (2 : Nat) ^ 8 = 256 from rfl, Nat.div_eq_of_lt hx, Nat.xor_zero] at h
  rw [h, byteT_steps c x hx]
theorem step1_lt (c : Nat) (h : c < 4294967296) : step1 c < 4294967296 := by
  unfold step1
  split
  · exact Nat.xor_lt_two_pow (n := 32) (by omega) (by omega)
  · omega
theorem steps_lt (n c : Nat) (h : c < 4294967296) : steps n c < 4294967296 := by
  induction n with
  | zero => exact h
  | succ n ih => exact step1_lt _ ih
theorem byteT_lt (c x : Nat) (hc : c < 4294967296) (hx : x < 256) : byteT c x < 4294967296 := by
  rw [byteT_steps c x hx]
  exact steps_lt 8 _ (Nat.xor_lt_two_pow (n := 32) (by omega) (by omega))
theorem bitR_lt (c x k : Nat) (hc : c < 4294967296) : bitR c x k < 4294967296 := by
  unfold bitR
  split
  · exact Nat.xor_lt_two_pow (n := 32) (by omega) (by omega)
  · omega
theorem bitsR_lt (c x k : Nat) (hc : c < 4294967296) : bitsR c x k < 4294967296 := by
  induction k with
  | zero => exact hc
  | succ k ih => exact bitR_lt _ _ _ ih
theorem over_lt (l : List Nat) (c : Nat) (hc : c < 4294967296) (hl : ∀ x ∈ l, x < 256) : over byteT c l < 4294967296 := by
  induction l generalizing c with
  | nil => exact hc
  | cons x l ih => exact ih _ (byteT_lt c x hc (hl x List.mem_cons_self)) (fun y hy => hl y (List.mem_cons_of_mem _ hy))
theorem over_snoc (f : Nat → Nat → Nat) (c : Nat) (l : List Nat) (x : Nat) : over f c (l ++ [x]) = f (over f c l) x := by simp [over]
theorem over_take (f : Nat → Nat → Nat) (c : Nat) (l : List Nat) (k : Nat) (hk : k < l.length) : over f c (l.take (k + 1)) = f (over f c (l.take k)) l[k] := by
  rw [List.take_succ_eq_append_getElem hk, over_snoc]
def bit (c k : Nat) : Nat := c / 2 ^ k % 2
theorem bit_le (c k : Nat) : bit c k ≤ 1 := by unfold bit; omega
def back (c : Nat) : Nat → Int
  | 0 => 0
  | k + 1 => 2 * back c k + 1 - bit c (31 - k)
theorem bit_out (c x k : Nat) : (bit c 0 + x / 2 ^ k % 2) % 2 = (c % 2 + x / 2 ^ k) % 2 := by unfold bit; simp
theorem bit_shift (c i : Nat) : bit (c / 2) i = bit c (i + 1) := by
  unfold bit; rw [Nat.div_div_eq_div_mul, Nat.pow_succ, Nat.mul_comm 2]
theorem bit_xor (a b i : Nat) : bit (a ^^^ b) i = (bit a i + bit b i) % 2 := by
  unfold bit
  rw [Nat.xor_div_two_pow, xor_mod2]; omega
theorem bit_high (c i : Nat) (h : c < 2 ^ i) : bit c i = 0 := by unfold bit; rw [Nat.div_eq_of_lt h]
theorem back_eq (c : Nat) (hc : c < 4294967296) : back c 32 = 4294967295 - (c : Int) := by
  have key : ∀ k, k ≤ 32 → back c k = (2 ^ k - 1 : Nat) - (c / 2 ^ (32 - k) : Nat) := by
    intro k
    induction k with
    | zero => intro _; simp [back, Nat.div_eq_of_lt hc]
    | succ k ih =>
      intro hk
      unfold back
      rw [ih (by omega)]
      unfold bit
      have e1 : 32 - k = (31 - k) + 1 := by omega
      have e2 : 32 - (k + 1) = 31 - k := by omega
      rw [e1, e2]
      have e3 : c / 2 ^ (31 - k + 1) = c / 2 ^ (31 - k) / 2 := by rw [Nat.pow_succ, Nat.div_div_eq_div_mul]
      rw [e3]
      have e4 : 2 ^ (k + 1) = 2 * 2 ^ k := by rw [Nat.pow_succ, Nat.mul_comm]
      rw [e4]
      have hp : 0 < 2 ^ k := Nat.two_pow_pos k
      generalize 2 ^ k = p at hp
      generalize c / 2 ^ (31 - k) = y
      omega
  have := key 32 (Nat.le_refl _)
  simp at this
  rw [this]
theorem bit_not (m k : Nat) (hm : m < 4294967296) (hk : k < 32) : (bit (4294967295 - m) k : Int) = 1 - bit m k := by
  unfold bit
  have h1 : (4294967295 - m) / 2 ^ k % 2 = ((4294967295 - m) / 2 ^ k) % 2 := rfl
  have hp : 2 ^ 32 = 2 ^ k * 2 ^ (32 - k) := by rw [← Nat.pow_add]; congr 1; omega
  have he : 2 ^ (32 - k) = 2 * 2 ^ (31 - k) := by rw [← Nat.pow_succ']; congr 1; omega
  have hpos : 0 < 2 ^ k := Nat.two_pow_pos k
  have h2 : (2 : Nat) ^ 32 = 4294967296 := rfl
  rw [h2, he] at hp
  generalize 2 ^ k = p at hp hpos
  generalize 2 ^ (31 - k) = q at hp
  have hdm := Nat.div_add_mod m p
  have hr := Nat.mod_lt m hpos
  generalize hd : m / p = d at hdm
  generalize m % p = r at hdm hr
  have hcomm : p * (2 * q) = 4294967296 := hp.symm
  have hdlt : d < 2 * q := by
    have : p * d < p * (2 * q) := by omega
    exact Nat.lt_of_mul_lt_mul_left this
  have e : 4294967295 - m = p * (2 * q - 1 - d) + (p - 1 - r) := by
    have e1 : p * (2 * q - 1 - d) = p * (2 * q) - p - p * d := by rw [Nat.mul_sub, Nat.mul_sub, Nat.mul_one]
    have hle : p + p * d ≤ p * (2 * q) := by
      have : p * (d + 1) ≤ p * (2 * q) := Nat.mul_le_mul_left _ hdlt
      rw [Nat.mul_add, Nat.mul_one] at this; omega
    omega
  rw [e, Nat.mul_add_div hpos, Nat.div_eq_of_lt (by omega : p - 1 - r < p)]
  omega
theorem bit_of_int (s : Int) (k : Nat) (hk : k < 32) : ((bit (s % 4294967296).toNat k : Nat) : Int) = s / 2 ^ k % 2 := by
  unfold bit
  have h0 : 0 ≤ s % 4294967296 := by omega
  rw [Int.natCast_emod, Int.natCast_ediv, Int.toNat_of_nonneg h0]
  have hq := Int.mul_ediv_add_emod s 4294967296
  generalize s % 4294967296 = m at hq
  generalize s / 4294967296 = q at hq
  have he : (4294967296 : Int) = 2 ^ k * (2 * 2 ^ (31 - k)) := by
    have h1 : (2 : Nat) ^ 32 = 2 ^ k * (2 * 2 ^ (31 - k)) := by rw [← Nat.pow_succ', ← Nat.pow_add]; congr 1; omega
    have h2 : ((2 ^ 32 : Nat) : Int) = ((2 ^ k * (2 * 2 ^ (31 - k)) : Nat) : Int) := by rw [h1]
    simpa using h2
  have hp : (2 : Int) ^ k ≠ 0 := Int.pow_ne_zero (by omega)
  rw [← hq, he, Int.mul_assoc, Int.mul_comm, Int.mul_assoc]
  have e3 : ((2 * 2 ^ (31 - k) * q * 2 ^ k + m : Int)) = m + 2 * (2 ^ (31 - k) * q) * 2 ^ k := by
    rw [Int.add_comm, Int.mul_assoc 2]
  have e4 : (2 * 2 ^ (31 - k) * (q * 2 ^ k) + m : Int) = m + 2 * (2 ^ (31 - k) * q) * 2 ^ k := by
    rw [← Int.mul_assoc]; exact e3
  first
    | rw [e3, Int.add_mul_ediv_right _ _ hp]; push_cast; omega
    | rw [e4, Int.add_mul_ediv_right _ _ hp]; push_cast; omega
theorem reg_begin (s : Int) (k : Nat) (hk : k < 32) : ((bit (4294967295 - (s % 4294967296).toNat) k : Nat) : Int) = 1 - s / 2 ^ k % 2 := by
  rw [bit_not _ _ (by omega) hk, bit_of_int s k hk]
theorem back_bound (c : Nat) : ∀ k, k ≤ 32 → 0 ≤ back c k ∧ back c k < 4294967296 := by
  have h : ∀ k, k ≤ 32 → 0 ≤ back c k ∧ back c k < 2 ^ k := by
    intro k
    induction k with
    | zero => intro _; simp [back]
    | succ k ih =>
      intro hk
      have := ih (by omega)
      have hb := bit_le c (31 - k)
      have e : (2 : Int) ^ (k + 1) = 2 * 2 ^ k := by rw [Int.pow_succ, Int.mul_comm]
      unfold back
      rw [e]
      omega
  intro k hk
  have h1 := h k hk
  have h2 : (2 : Int) ^ k ≤ 2 ^ 32 := by
    have : (2 : Nat) ^ k ≤ 2 ^ 32 := Nat.pow_le_pow_right (by omega) hk
    exact_mod_cast this
  have h3 : (2 : Int) ^ 32 = 4294967296 := rfl
  omega
end Go.Proofs.YtjfllpmiajkenaaGreat.SumLaw
namespace Go.Proofs.YtjfllpmiajkenaaGreat.Sm
open Go.ChangeShapes Go.WideShapes Go.ChangeAt Go.RowKit Go.Proofs.YtjfllpmiajkenaaGreat.Mem Go.Proofs.YtjfllpmiajkenaaGreat.SumLaw
set_option linter.unusedVariables false
def bytesV (bs : List Nat) : List Value := bs.map fun (x : Nat) => Value.int .u8 (x : Int)
theorem bytesV_at (bs : List Nat) (k : Nat) (hk : k < bs.length) : (bytesV bs)[k]? = some (.int .u8 (bs[k] : Int)) := by
  simp [bytesV, hk]
def tabArr (k : Nat) : Array Value := ((List.range 256).map fun i => Value.int .u32 (if i < k then (tab i : Int) else 0)).toArray
theorem tabArr_zero : tabArr 0 = Tryz.zeroCells174 := by kernel_rfl
theorem tabArr_size (k : Nat) : (tabArr k).size = 256 := by simp [tabArr]
theorem tabArr_at (k i : Nat) (hi : i < 256) : (tabArr k)[i]? = some (.int .u32 (if i < k then (tab i : Int) else 0)) := by
  simp [tabArr, hi]
theorem tabArr_set (k : Nat) (hk : k < 256) : (tabArr k).setIfInBounds k (.int .u32 (tab k : Int)) = tabArr (k + 1) := by
  apply Array.ext_getElem?
  intro i
  rw [Array.getElem?_setIfInBounds, tabArr_size]
  by_cases hi : i < 256
  · rw [tabArr_at _ i hi, tabArr_at _ i hi]
    by_cases e : k = i
    · subst e
      simp [hi]
    · rw [if_neg e]
      by_cases h1 : i < k
      · rw [if_pos h1, if_pos (by omega)]
      · rw [if_neg h1, if_neg (by omega)]
  · rw [if_neg (by omega), Array.getElem?_eq_none (by rw [tabArr_size]; omega), Array.getElem?_eq_none (by rw [tabArr_size]; omega)]
theorem tabArr_one {k : Nat} : (tabArr k).all (·.oneCell') = true := by
  rw [Array.all_eq_true_iff_forall_mem]
  intro v hv
  simp only [tabArr, List.mem_toArray, List.mem_map] at hv
  obtain ⟨i, _, rfl⟩ := hv
  rfl
theorem and1 (c : Nat) (h : c < 4294967296) : bits .and .u32 (c : Int) 1 = (c : Int) % 2 := by
  have := u32_and_nat c 1 h (by omega)
  rw [nat_mask1] at this
  simpa using this
theorem xorp (c : Nat) (h : c < 4294967296) : bits .xor .u32 ((c : Int) / 2) 3988292384 = ((c / 2 ^^^ 3988292384 : Nat) : Int) := by
  have := u32_xor_nat (c / 2) 3988292384 (by omega) (by omega)
  simpa using this
def Table (w w' : World) (e : Ending) : Prop := e = .returned (.agg (tabArr 256)) ∧ Below w.heap.size w w'
set_option maxRecDepth 100000 in
theorem table_any (w : World) :
    Calls Tryz.prog 127 #[] w fun e w' => Table w w' e := by
  have b0 : Blk ((w.alloc (.cells Tryz.zeroCells174 174)).alloc (.cells Tryz.zeroCells174 174)) w.heap.size 174 (tabArr 0) := by rw [tabArr_zero]; exact (Blk.new rfl).alloc _
  have b1 : Blk ((w.alloc (.cells Tryz.zeroCells174 174)).alloc (.cells Tryz.zeroCells174 174)) (w.heap.size + 1) 174 (tabArr 0) := by rw [tabArr_zero]; exact Blk.new (by simp)
  have hb : Below w.heap.size w ((w.alloc (.cells Tryz.zeroCells174 174)).alloc (.cells Tryz.zeroCells174 174)) := ((Below.refl _ _).alloc (Nat.le_refl _) _).alloc (by simp) _
  go_enter Tryz.func127, Tryz.ntmps127
  go_wp2_with fail
  go_loopw [4] (fun i wr => ∃ k : Nat, k ≤ 256 ∧ i = .int .i64 k ∧ Blk wr w.heap.size 174 (tabArr 0) ∧ Blk wr (w.heap.size + 1) 174 (tabArr k) ∧ Below w.heap.size w wr) (fun i _ => 256 - (intOf i).toNat)
  case atStart => exact ⟨0, by omega, rfl, b0, b1, hb⟩
  case round =>
    clear b0 b1 hb
    obtain ⟨k, hk, rfl, b0, b1, hb⟩ := hrel
    by_cases hlt : k < 256
    · go_wp2_with fail
      go_loop [3, 9] (fun c j => ∃ n : Nat, n ≤ 8 ∧ j = .int .i64 n ∧ c = .int .u32 (steps n k : Nat)) (fun _ j => 8 - (intOf j).toNat)
      case atStart => exact ⟨0, by omega, rfl, rfl⟩
      case round =>
        obtain ⟨n, hn, rfl, rfl⟩ := hrel
        have hc := steps_lt n k (by omega)
        by_cases hln : n < 8
        · have HS := Lib.hid (show steps (n + 1) k = step1 (steps n k) from rfl)
          generalize steps n k = c at hc HS ⊢
          have h1 := and1 c hc
          have h2 := xorp c hc
          by_cases hodd : (c : Int) % 2 = 1
          · have HT := Lib.hid (show step1 c = (c / 2) ^^^ 3988292384 from by unfold step1; rw [if_pos (by omega)])
            have hodd' : ((c : Int) % 2 == 1) = true := by simpa using hodd
            clear hodd
            go_wp2_with fail
            exact ⟨⟨n + 1, by omega, by go_num, by rw [HS.out, HT.out]⟩, by simp [intOf]; omega⟩
          · have HT := Lib.hid (show step1 c = c / 2 from by unfold step1; rw [if_neg (by omega)])
            have hodd' : ((c : Int) % 2 == 1) = false := by simpa using hodd
            clear hodd
            go_wp2_with fail
            exact ⟨⟨n + 1, by omega, by go_num, by rw [HS.out, HT.out]; go_num⟩, by simp [intOf]; omega⟩
        · obtain rfl : n = 8 := by omega
          have c1 := b1.cell k
          have f1 := b1.thaw k
          rw [tabArr_at _ _ hlt] at c1
          go_wp2_with fail
          exact ⟨⟨k + 1, by omega, by go_num, b0.other (by simp) _, by have := b1.set k (.int .u32 (steps 8 k : Nat)); rwa [show steps 8 k = tab k from rfl, tabArr_set k hlt] at this, hb.setCell (by simp) _⟩, by simp [intOf]; omega⟩
    · obtain rfl : k = 256 := by omega
      clear hlt
      go_wp2_with (first
        | (refine wpList_load_row rfl 174 _ rfl (w.heap.size + 1) rfl 174 (tabArr 256) (0, 0) _ b1 Tryz.underlying174 rfl (by rw [tabArr_size]; kernel_rfl) ?_)
        | (refine wpList_store_row rfl 174 _ _ rfl w.heap.size (tabArr 256) rfl rfl 174 (tabArr 0) b0 (by rw [tabArr_size]; kernel_rfl) (by simp [tabArr_size]) tabArr_one ?_))
      refine ret_row rfl rfl (b0.setRow _) Tryz.underlying174 rfl (by rw [tabArr_size]; kernel_rfl) rfl ⟨rfl, below_setRow hb (Nat.le_refl _) _⟩
theorem not32 (a : Int) (h0 : 0 ≤ a) (h1 : a < 4294967296) : bits .xor .u32 IntKind.u32.max a = 4294967295 - a := by
  obtain ⟨n, rfl⟩ := Int.eq_ofNat_of_zero_le h0
  have e : IntKind.u32.max = ((4294967295 : Nat) : Int) := by decide
  rw [e, u32_xor_nat 4294967295 n (by omega) (by omega)]
  have e2 : 4294967295 ^^^ n = 2 ^ 32 - (n + 1) := by
    apply Nat.eq_of_testBit_eq
    intro i
    rw [Nat.testBit_two_pow_sub_succ (by omega), Nat.testBit_xor, show (4294967295 : Nat) = 2 ^ 32 - (0 + 1) from rfl, Nat.testBit_two_pow_sub_succ (by omega)]
    by_cases hi : i < 32
    · simp [hi]
    · have : n.testBit i = false := Nat.testBit_lt_two_pow (Nat.lt_of_lt_of_le (by omega : n < 2 ^ 32) (Nat.pow_le_pow_right (by omega) (by omega)))
      simp [hi, this]
  rw [e2]
  omega
theorem idx8 (c x : Nat) (hx : x < 256) : bits .xor .u8 ((c : Int) % 256) (x : Int) = ((c % 256 ^^^ x : Nat) : Int) := by
  have := u8_xor_nat (c % 256) x (by omega) hx
  simpa using this
theorem xor32 (t c : Nat) (ht : t < 4294967296) (hc : c < 4294967296) : bits .xor .u32 (t : Int) ((c : Int) / 256) = ((t ^^^ c / 256 : Nat) : Int) := by
  have := u32_xor_nat t (c / 256) ht (by omega)
  simpa using this
set_option maxRecDepth 100000 in
theorem more_any (s : Int) (A : Option Addr) (c : Nat) (bs : List Nat) (B : Nat) (w : World) (hB : B ≤ w.heap.size) (hs : -9223372036854775808 ≤ s ∧ s ≤ 9223372036854775807) (hl : bs.length ≤ 9223372036854775807) (hbs : ∀ x ∈ bs, x < 256) (hr : Rd w B 1 A bs.length (bytesV bs)) :
    Calls Tryz.prog 93 #[.int .i64 s, .slice A bs.length c] w fun e w' => e = .returned (.int .i64 (more s bs)) ∧ Below w.heap.size w w' := by
  have Hbs := Lib.hid hbs
  clear hbs
  go_enter Tryz.func93, Tryz.ntmps93
  go_wp2_with fail
  refine (table_any _).mono ?_
  rintro e w1 ⟨rfl, hb1⟩
  have hs1 := hb1.size
  have bz : Blk (w1.alloc (.cells Tryz.zeroCells174 174)) w1.heap.size 174 (tabArr 0) := by rw [tabArr_zero]; exact Blk.new rfl
  have bT := bz.setRow (tabArr 256)
  have hr1 := (hr.below (hb1.mono hB)).alloc (by omega) (.cells Tryz.zeroCells174 174)
  have hbz : Below w.heap.size w (w1.alloc (.cells Tryz.zeroCells174 174)) := hb1.alloc hb1.size _
  have hbT := below_setRow (g := w1.heap.size) hbz hb1.size (tabArr 256)
  have hrT := hr1.keep (w' := (w1.alloc (.cells Tryz.zeroCells174 174)).setRow w1.heap.size (tabArr 256)) (fun b o hb => World.cell?_of_block (Go.setRow_other _ _ _ _ (by show b ≠ w1.heap.size; omega)))
  go_wp2_with (refine wpList_store_row rfl 174 _ _ rfl w1.heap.size (tabArr 256) rfl rfl 174 (tabArr 0) bz (by rw [tabArr_size]; kernel_rfl) (by simp [tabArr_size]) tabArr_one ?_)
  clear bz hr1 hbz
  generalize (w1.alloc (.cells Tryz.zeroCells174 174)).setRow w1.heap.size (tabArr 256) = wT at bT hbT hrT ⊢
  have Hend := Lib.hid (show more s bs = 4294967295 - (over byteT (4294967295 - (s % 4294967296).toNat) (bs.take bs.length) : Nat) by rw [List.take_of_length_le (Nat.le_refl _)]; rfl)
  have hc0 : 4294967295 - (s % 4294967296).toNat < 4294967296 := by omega
  have hs0 : 0 ≤ s % 4294967296 ∧ s % 4294967296 < 4294967296 := by omega
  generalize hcc : 4294967295 - (s % 4294967296).toNat = c0 at Hend hc0
  have Hc0 := Lib.hid (show (c0 : Int) = 4294967295 - s % 4294967296 by omega)
  clear hcc
  have hn0 := not32 (s % 4294967296) hs0.1 hs0.2
  go_loop [6, 15] (fun cc i => ∃ k : Nat, k ≤ bs.length ∧ i = .int .i64 k ∧ cc = .int .u32 (over byteT c0 (bs.take k) : Nat)) (fun _ i => bs.length - (intOf i).toNat)
  case atStart => exact ⟨0, by omega, rfl, by rw [hn0, ← Hc0.out]; rfl⟩
  case round =>
    clear hn0
    obtain ⟨k, hk, rfl, rfl⟩ := hrel
    have hclt := over_lt (bs.take k) c0 hc0 (fun x hx => Hbs.out x (List.mem_of_mem_take hx))
    by_cases hlt : k < bs.length
    · have HS := Lib.hid (over_take byteT c0 bs k hlt)
      have hx := Hbs.out _ (List.getElem_mem hlt)
      obtain ⟨b, o, u, rfl, hbB, hu, hcell⟩ := hrT.at hlt
      rw [bytesV_at bs k hlt] at hu
      injection hu with hu
      subst hu
      generalize over byteT c0 (bs.take k) = d at hclt HS ⊢
      generalize bs[k] = x at hx HS hcell
      have h1 := idx8 d x hx
      have hi : d % 256 ^^^ x < 256 := Nat.xor_lt_two_pow (n := 8) (by omega) (by omega)
      have HT := Lib.hid (show byteT d x = tab (d % 256 ^^^ x) ^^^ (d / 256) from rfl)
      generalize d % 256 ^^^ x = i at h1 hi HT
      have hcT := bT.cell i
      rw [tabArr_at 256 i hi, if_pos hi] at hcT
      have htl := steps_lt 8 i (by omega)
      have h2 := xor32 (tab i) d htl hclt
      change tab i < 4294967296 at htl
      generalize tab i = t at hcT h2 htl HT
      go_wp2_with fail
      exact ⟨⟨k + 1, by omega, by go_num, by rw [HS.out, HT.out]⟩, by simp [intOf]; omega⟩
    · obtain rfl : k = bs.length := by omega
      generalize over byteT c0 (bs.take bs.length) = d at hclt Hend ⊢
      have hn1 := not32 (d : Int) (by omega) (by omega)
      go_wp2_with fail
      go_ret
      exact ⟨ret_int (by rw [Hend.out]), hbT⟩
theorem elemBytes : Elem Tryz.prog 98 5 (.int .u8 0) 1 1 := ⟨Tryz.underlying98, by kernel_rfl, rfl, by omega⟩
theorem bytesV_one (bs : List Nat) : ∀ u ∈ bytesV bs, u.oneCell' = true := fun u hu => by
  obtain ⟨z, _, rfl⟩ := List.mem_map.1 hu
  rfl
end Go.Proofs.YtjfllpmiajkenaaGreat.Sm
