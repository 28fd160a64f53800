/- A computer's state in numbers, plainly; contract: node.pack. -/
import Derived.Test.YtjfllpmiajkenaaPassF
import Derived.Test.YtjfllpmiajkenaaOwnMore
import Derived.Test.YtjfllpmiajkenaaVote
namespace Go.Proofs.Ytjfllpmiajkenaa.Nd
open Go.RowKit Go.Proofs.Ytjfllpmiajkenaa.Mem Go.Proofs.Ytjfllpmiajkenaa.Rws Go.Proofs.Ytjfllpmiajkenaa.Flat
set_option linter.unusedVariables false
set_option linter.unusedSimpArgs false

def bv : Value → Bool
  | .bool b => b
  | _ => false
theorem bv_of {v : Value} (h : okT false v) : v = .bool (bv v) := by obtain ⟨n, rfl⟩ := h; rfl
def bentZ (b : Bool) : Int := if b then 1 else 0
/-- an axis' seven numbers -/
def axZ (f : Nat → Value) (a : Nat) : List Int := [iv (f (6 + (a * 7 + 0))), iv (f (6 + (a * 7 + 1))), iv (f (6 + (a * 7 + 2))), iv (f (6 + (a * 7 + 3))), iv (f (6 + (a * 7 + 4))), bentZ (bv (f (6 + (a * 7 + 5)))), iv (f (6 + (a * 7 + 6)))]
def axesZ (f : Nat → Value) : Nat → List Int
  | 0 => []
  | a + 1 => axesZ f a ++ axZ f a
theorem axesZ_len (f : Nat → Value) : ∀ k, (axesZ f k).length = k * 7
  | 0 => rfl
  | k + 1 => by
    show (axesZ f k ++ axZ f k).length = _
    rw [List.length_append, axesZ_len f k]
    show k * 7 + 7 = _
    omega
/-- who is in, as bits -/
def inZ (f : Nat → Value) : Nat → Nat
  | 0 => 0
  | k + 1 => inZ f k + if bv (f (27 + k)) then 2 ^ k else 0
theorem inZ_lt (f : Nat → Value) : ∀ k, inZ f k < 2 ^ k
  | 0 => Nat.zero_lt_one
  | k + 1 => by
    have h := inZ_lt f k
    unfold inZ
    rw [Nat.pow_succ]
    split <;> omega
set_option maxRecDepth 100000 in
theorem or_in : ∀ k, k < 4 → ∀ I : Nat, I < 2 ^ k → bits .or .i64 (I : Int) ((2 ^ k : Nat) : Int) = ((I + 2 ^ k : Nat) : Int) := of_decide_eq_true (by kernel_rfl)
/-- four numbers in eights -/
def octZ (o : Nat) (f : Nat → Value) : Nat → Int
  | 0 => 0
  | k + 1 => IntKind.i64.wrap (IntKind.i64.wrap (octZ o f k * 8) + iv (f (o + k)))
/-- P12.5 -/
def packZ (f : Nat → Value) : List Int := axesZ f 3 ++ [((inZ f 4 : Nat) : Int), octZ 31 f 4, octZ 35 f 4]
theorem packZ_len (f : Nat → Value) : (packZ f).length = 24 := by
  unfold packZ
  rw [List.length_append, axesZ_len]
  rfl

theorem row7 (F : Nat → Value) : row 7 F = #[F 0, F 1, F 2, F 3, F 4, F 5, F 6] := rfl
theorem run_index_axes (F : Nat → Value) (k : Nat) (hk : k < 3) (w : World) : (Instr.index 26 (.agg (row 21 F)) (.int .i64 (k : Int))).run Try.prog w = .ok (.agg (row 7 fun j => F (k * 7 + j))) w := by
  obtain rfl | rfl | rfl : k = 0 ∨ k = 1 ∨ k = 2 := by omega
  all_goals kernel_rfl
theorem axis_cells {f : Nat → Value} (hf : ∀ i, i < 73 → okT (nodeT i) (f i)) (k : Nat) (hk : k < 3) : ∃ a b c d e m : Int, ∃ t : Bool, (row 7 fun j => f (6 + (k * 7 + j))) = #[.int .i64 a, .int .i64 b, .int .i64 c, .int .i64 d, .int .i64 e, .bool t, .int .i64 m] ∧ axZ f k = [a, b, c, d, e, bentZ t, m] := by
  have hi : ∀ j, j < 7 → j ≠ 5 → f (6 + (k * 7 + j)) = .int .i64 (iv (f (6 + (k * 7 + j)))) := fun j hj h5 => iv_of (by
    have h := hf (6 + (k * 7 + j)) (by omega)
    have e : nodeT (6 + (k * 7 + j)) = true := by
      obtain rfl | rfl | rfl : k = 0 ∨ k = 1 ∨ k = 2 := by omega
      all_goals (unfold nodeT; simp; omega)
    rw [e] at h; exact h)
  have hb : f (6 + (k * 7 + 5)) = .bool (bv (f (6 + (k * 7 + 5)))) := bv_of (by
    have h := hf (6 + (k * 7 + 5)) (by omega)
    have e : nodeT (6 + (k * 7 + 5)) = false := by
      obtain rfl | rfl | rfl : k = 0 ∨ k = 1 ∨ k = 2 := by omega
      all_goals rfl
    rw [e] at h; exact h)
  refine ⟨_, _, _, _, _, _, _, ?_, rfl⟩
  rw [row7, ← hi 0 (by omega) (by omega), ← hi 1 (by omega) (by omega), ← hi 2 (by omega) (by omega), ← hi 3 (by omega) (by omega), ← hi 4 (by omega) (by omega), ← hi 6 (by omega) (by omega), ← hb]
theorem node_int {f : Nat → Value} (hf : ∀ i, i < 73 → okT (nodeT i) (f i)) (i : Nat) (h31 : 31 ≤ i) (h39 : i < 39) : f i = .int .i64 (iv (f i)) := iv_of (by
    have h := hf i (by omega)
    have e : nodeT i = true := by unfold nodeT; simp; omega
    rw [e] at h; exact h)
theorem node_bool {f : Nat → Value} (hf : ∀ i, i < 73 → okT (nodeT i) (f i)) (i : Nat) (h31 : 27 ≤ i) (h39 : i < 31) : f i = .bool (bv (f i)) := bv_of (by
    have h := hf i (by omega)
    have e : nodeT i = false := by
      obtain rfl | rfl | rfl | rfl : i = 27 ∨ i = 28 ∨ i = 29 ∨ i = 30 := by omega
      all_goals rfl
    rw [e] at h; exact h)

/-- what pack answers -/
def PackAs (w w' : World) (f : Nat → Value) (e : Ending) : Prop := ∃ A c, e = .returned (.slice A 24 c) ∧ w'.ownsRow w.heap.size 3 1 (.slice A 24 c) 24 (Ms.intsV (packZ f)) ∧ Below w.heap.size w w'

set_option maxRecDepth 100000 in
set_option maxHeartbeats 2000000 in
theorem pack_any (f : Nat → Value) (hf : ∀ i, i < 73 → okT (nodeT i) (f i)) (S : Value) (w : World) :
    Calls Try.prog 48 #[.agg (row 74 (nodeW f S))] w fun e w' => PackAs w w' f e := by
  have hcl : ∀ i, i < 73 → (row 74 (nodeW f S))[i]? = some (f i) := fun i hi => by rw [row_at (by omega)]; unfold nodeW; rw [if_neg (by omega)]
  have hmid : (row 21 fun j => nodeW f S (6 + j)) = row 21 fun j => f (6 + j) := row_congr fun j hj => by unfold nodeW; rw [if_neg (by omega)]
  have HC := Lib.hid hcl
  have HM := Lib.hid hmid
  have HF := Lib.hid hf
  clear hcl hmid hf
  go_enter Try.func48, Try.ntmps48
  go_upto_region 2 with fail
  have HN := Lib.hid (show Blk (w.alloc (.cells (row 74 (nodeW f S)) 37)) w.heap.size 37 (row 74 (nodeW f S)) from Blk.fresh _ _ _)
  have HB := Lib.hid ((Below.refl w.heap.size w).alloc (Nat.le_refl _) (.cells (row 74 (nodeW f S)) 37))
  generalize (w.alloc (.cells (row 74 (nodeW f S)) 37)) = w1 at *
  obtain ⟨gn, hgn⟩ : ∃ g, w.heap.size = g := ⟨_, rfl⟩
  have HGN := Lib.hid hgn
  rw [hgn] at HN ⊢
  have HB := Lib.hid (show Below gn w w1 from by have h := HB.out; rw [HGN.out] at h; exact h)
  clear hgn
  go_wp2_with (refine wpList_mid rfl 26 _ rfl gn 6 21 rfl HN.out (by omega) _ Try.underlying26 rfl (by kernel_rfl) ?_)
  rw [HM.out]
  have HIX := Lib.hid (fun (k : Nat) (hk : k < 3) (w : World) => run_index_axes (fun j => f (6 + j)) k hk w)
  generalize (row 21 fun j => f (6 + j)) = R21 at *
  obtain ⟨R, hR⟩ : ∃ R, row 74 (nodeW f S) = R := ⟨_, rfl⟩
  rw [hR] at HN
  have HC := Lib.hid (fun i hi => show R[i]? = some (f i) by rw [← hR]; exact HC.out i hi)
  clear hR HM
  go_loopw [3, 13] (fun lv iv wr => ∃ (k n : Nat) (A : Option Addr) (c : Nat), k ≤ 3 ∧ n = k * 7 ∧ iv = .int .i64 (k : Int) ∧ lv = .slice A n c ∧ wr.ownsRow (gn + 1) 3 1 (.slice A n c) n (Ms.intsV (axesZ f k)) ∧ Blk wr gn 37 R ∧ Below gn w wr) (fun _ iv _ => 3 - (intOf iv).toNat)
  case atStart => exact ⟨0, 0, none, 0, by omega, rfl, rfl, rfl, World.ownsRow_nil _ _ _ _, HN.out, HB.out⟩
  case round =>
    clear HN HB
    obtain ⟨k, n, A, c, hk, hn, rfl, rfl, ho, hnd, hb⟩ := hrel
    have HO := Lib.hid ho
    have HN := Lib.hid hnd
    have HB := Lib.hid hb
    have HNK := Lib.hid hn
    clear ho hnd hb hn
    by_cases hlt : k < 3
    · obtain ⟨a, b, c0, d, e, m, t, hlit, hax⟩ := axis_cells HF.out k hlt
      have HAX := Lib.hid (show axesZ f (k + 1) = axesZ f k ++ [a, b, c0, d, e, bentZ t, m] by show axesZ f k ++ axZ f k = _; rw [hax])
      have hix := fun w => HIX.out k hlt w
      rw [hlit] at hix
      have hlg := HN.out.lt
      have hn3 : n ≤ 14 := by have := HNK.out; omega
      clear hlit hax
      go_upto_region 6 with fail
      have HT7 := Lib.hid (Blk.fresh wr 25 #[.int .i64 a, .int .i64 b, .int .i64 c0, .int .i64 d, .int .i64 e, .bool t, .int .i64 m])
      have HBw := Lib.hid ((Below.refl wr.heap.size wr).alloc (Nat.le_refl _) (.cells #[.int .i64 a, .int .i64 b, .int .i64 c0, .int .i64 d, .int .i64 e, .bool t, .int .i64 m] 25))
      have HO := Lib.hid (ownsRow_below HO.out HBw.out)
      have HN := Lib.hid (HN.out.below HBw.out HN.out.lt)
      have HB := Lib.hid (HB.out.alloc (by omega) (.cells #[.int .i64 a, .int .i64 b, .int .i64 c0, .int .i64 d, .int .i64 e, .bool t, .int .i64 m] 25))
      generalize (wr.alloc (.cells #[.int .i64 a, .int .i64 b, .int .i64 c0, .int .i64 d, .int .i64 e, .bool t, .int .i64 m] 25)) = w2 at *
      obtain ⟨gs, hgs⟩ : ∃ g, wr.heap.size = g := ⟨_, rfl⟩
      rw [hgs] at HT7 hlg ⊢
      have hgt := HT7.out.lt
      have y0 := HT7.out.cell 0
      have y1 := HT7.out.cell 1
      have y2 := HT7.out.cell 2
      have y3 := HT7.out.cell 3
      have y4 := HT7.out.cell 4
      have y5 := HT7.out.cell 5
      have y6 := HT7.out.cell 6
      simp only [List.getElem?_toArray, List.getElem?_cons_zero, List.getElem?_cons_succ] at y0 y1 y2 y3 y4 y5 y6
      clear hgs HBw HT7 hix
      obtain ⟨be, hbe⟩ : ∃ be, bentZ t = be := ⟨_, rfl⟩
      rw [hbe] at HAX
      have HSG := Lib.hid (rd_of_blk (Blk.fresh w2 3 #[.int .i64 a, .int .i64 b, .int .i64 c0, .int .i64 d, .int .i64 e, .int .i64 be, .int .i64 m]))
      have HOW := Lib.hid (ownsRow_below HO.out ((Below.refl w2.heap.size w2).alloc (Nat.le_refl _) (.cells #[.int .i64 a, .int .i64 b, .int .i64 c0, .int .i64 d, .int .i64 e, .int .i64 be, .int .i64 m] 3)))
      have HBX := Lib.hid (HB.out.alloc (by omega) (.cells #[.int .i64 a, .int .i64 b, .int .i64 c0, .int .i64 d, .int .i64 e, .int .i64 be, .int .i64 m] 3))
      have HNX := Lib.hid (HN.out.alloc (.cells #[.int .i64 a, .int .i64 b, .int .i64 c0, .int .i64 d, .int .i64 e, .int .i64 be, .int .i64 m] 3))
      have hgn := HN.out.lt
      have HN7 := Lib.hid (show (n + 7 : Nat) = (k + 1) * 7 by have := HNK.out; omega)
      have HI7 := Lib.hid (show Ms.intsV (axesZ f (k + 1)) = Ms.intsV (axesZ f k) ++ [.int .i64 a, .int .i64 b, .int .i64 c0, .int .i64 d, .int .i64 e, .int .i64 be, .int .i64 m] by rw [HAX.out]; simp [Ms.intsV])
      rcases t with _ | _
      · have hbe : (0 : Int) = be := hbe
        subst hbe
        go_wp2_with (at_builtin; go_loud (refine wpList_append_rd _ rfl (.tmp 18) (.tmp 32) 39 rfl (base := gn + 1) Ms.elemInts rfl HOW.out rfl (fun h => by cases h) HSG.out (by simp [Value.oneCell']) (by unfold maxLen; omega) (by omega) (by simp; omega) ?_); intro A9 c9 w5 hA9 hown2 hg2; have HO5 := Lib.hid hown2; have HN5 := Lib.hid (HNX.out.grown hg2 (fun e => by have := (HOW.out.lt _ e.symm).1; omega)); have HB5 := Lib.hid (HBX.out.grown hg2 (by simp; omega) (fun g e => by have := (HOW.out.lt g e).1; omega)); clear hA9 hown2 hg2)
        refine ⟨⟨k + 1, n + 7, A9, c9, by omega, HN7.out, by go_num, rfl, by rw [HI7.out]; exact HO5.out, HN5.out, HB5.out⟩, by simp [intOf]; omega⟩
      · have hbe : (1 : Int) = be := hbe
        subst hbe
        go_wp2_with (at_builtin; go_loud (refine wpList_append_rd _ rfl (.tmp 18) (.tmp 32) 39 rfl (base := gn + 1) Ms.elemInts rfl HOW.out rfl (fun h => by cases h) HSG.out (by simp [Value.oneCell']) (by unfold maxLen; omega) (by omega) (by simp; omega) ?_); intro A9 c9 w5 hA9 hown2 hg2; have HO5 := Lib.hid hown2; have HN5 := Lib.hid (HNX.out.grown hg2 (fun e => by have := (HOW.out.lt _ e.symm).1; omega)); have HB5 := Lib.hid (HBX.out.grown hg2 (by simp; omega) (fun g e => by have := (HOW.out.lt g e).1; omega)); clear hA9 hown2 hg2)
        refine ⟨⟨k + 1, n + 7, A9, c9, by omega, HN7.out, by go_num, rfl, by rw [HI7.out]; exact HO5.out, HN5.out, HB5.out⟩, by simp [intOf]; omega⟩
    · obtain rfl : k = 3 := by omega
      clear hlt
      rw [show ((3 : Nat) : Int) = 3 from rfl]
      obtain rfl : n = 21 := HNK.out
      go_wp2_with fail
      go_loop [7, 8, 9, 35] (fun iv_ mv jv xv => ∃ k : Nat, k ≤ 4 ∧ xv = .int .i64 (k : Int) ∧ iv_ = .int .i64 ((inZ f k : Nat) : Int) ∧ mv = .int .i64 (octZ 31 f k) ∧ jv = .int .i64 (octZ 35 f k)) (fun _ _ _ xv => 4 - (intOf xv).toNat)
      case atStart => exact ⟨0, by omega, rfl, rfl, rfl, rfl⟩
      case round =>
        obtain ⟨k, hk4, rfl, rfl, rfl, rfl⟩ := hrel
        by_cases hlk : k < 4
        · have c1 : wr.cell? ⟨gn, 27 + k, none⟩ = some (.bool (bv (f (27 + k)))) := by rw [HN.out.cell, HC.out _ (by omega), ← node_bool HF.out (27 + k) (by omega) (by omega)]
          have c2 : wr.cell? ⟨gn, 31 + k, none⟩ = some (.int .i64 (iv (f (31 + k)))) := by rw [HN.out.cell, HC.out _ (by omega), ← node_int HF.out (31 + k) (by omega) (by omega)]
          have c3 : wr.cell? ⟨gn, 35 + k, none⟩ = some (.int .i64 (iv (f (35 + k)))) := by rw [HN.out.cell, HC.out _ (by omega), ← node_int HF.out (35 + k) (by omega) (by omega)]
          have HLT := Lib.hid (inZ_lt f k)
          have HIN := Lib.hid (show inZ f (k + 1) = inZ f k + if bv (f (27 + k)) then 2 ^ k else 0 from rfl)
          have HM1 := Lib.hid (show octZ 31 f (k + 1) = IntKind.i64.wrap (IntKind.i64.wrap (octZ 31 f k * 8) + iv (f (31 + k))) from rfl)
          have HJ1 := Lib.hid (show octZ 35 f (k + 1) = IntKind.i64.wrap (IntKind.i64.wrap (octZ 35 f k * 8) + iv (f (35 + k))) from rfl)
          generalize inZ f k = I at *
          generalize octZ 31 f k = M at *
          generalize octZ 35 f k = J at *
          generalize iv (f (31 + k)) = x1 at *
          generalize iv (f (35 + k)) = x2 at *
          have HOR := Lib.hid (or_in k hlk I HLT.out)
          obtain ⟨p1, hp1⟩ : ∃ p, IntKind.i64.wrap (M * 8) = p := ⟨_, rfl⟩
          rw [hp1] at HM1
          obtain ⟨p2, hp2⟩ : ∃ p, IntKind.i64.wrap (p1 + x1) = p := ⟨_, rfl⟩
          rw [hp2] at HM1
          obtain ⟨p3, hp3⟩ : ∃ p, IntKind.i64.wrap (J * 8) = p := ⟨_, rfl⟩
          rw [hp3] at HJ1
          obtain ⟨p4, hp4⟩ : ∃ p, IntKind.i64.wrap (p3 + x2) = p := ⟨_, rfl⟩
          rw [hp4] at HJ1
          cases hbv : bv (f (27 + k)) with
          | false =>
            rw [hbv] at c1 HIN
            have HIN := Lib.hid (show inZ f (k + 1) = I by rw [HIN.out]; rfl)
            clear hbv
            go_wp2_with fail
            exact ⟨⟨k + 1, by omega, by go_num, by rw [HIN.out], by rw [HM1.out], by rw [HJ1.out]⟩, by simp [intOf]; omega⟩
          | true =>
            rw [hbv] at c1 HIN
            have HIN := Lib.hid (show inZ f (k + 1) = I + 2 ^ k by rw [HIN.out]; rfl)
            clear hbv
            obtain rfl | rfl | rfl | rfl : k = 0 ∨ k = 1 ∨ k = 2 ∨ k = 3 := by omega
            · have hor := HOR.out
              simp at hor
              go_wp2_with fail
              exact ⟨⟨1, by omega, rfl, by rw [show inZ f 1 = I + 1 from HIN.out]; go_num, by rw [show octZ 31 f 1 = p2 from HM1.out], by rw [show octZ 35 f 1 = p4 from HJ1.out]⟩, by simp [intOf]⟩
            · have hor := HOR.out
              simp at hor
              go_wp2_with fail
              exact ⟨⟨2, by omega, rfl, by rw [show inZ f 2 = I + 2 from HIN.out]; go_num, by rw [show octZ 31 f 2 = p2 from HM1.out], by rw [show octZ 35 f 2 = p4 from HJ1.out]⟩, by simp [intOf]⟩
            · have hor := HOR.out
              simp at hor
              go_wp2_with fail
              exact ⟨⟨3, by omega, rfl, by rw [show inZ f 3 = I + 4 from HIN.out]; go_num, by rw [show octZ 31 f 3 = p2 from HM1.out], by rw [show octZ 35 f 3 = p4 from HJ1.out]⟩, by simp [intOf]⟩
            · have hor := HOR.out
              simp at hor
              go_wp2_with fail
              exact ⟨⟨4, by omega, rfl, by rw [show inZ f 4 = I + 8 from HIN.out]; go_num, by rw [show octZ 31 f 4 = p2 from HM1.out], by rw [show octZ 35 f 4 = p4 from HJ1.out]⟩, by simp [intOf]⟩
        · obtain rfl : k = 4 := by omega
          clear hlk
          rw [show ((4 : Nat) : Int) = 4 from rfl]
          have HPZ := Lib.hid (show Ms.intsV (packZ f) = Ms.intsV (axesZ f 3) ++ [.int .i64 ((inZ f 4 : Nat) : Int), .int .i64 (octZ 31 f 4), .int .i64 (octZ 35 f 4)] by unfold packZ; simp [Ms.intsV])
          obtain ⟨I, hI⟩ : ∃ I : Int, ((inZ f 4 : Nat) : Int) = I := ⟨_, rfl⟩
          obtain ⟨M, hM⟩ : ∃ I : Int, octZ 31 f 4 = I := ⟨_, rfl⟩
          obtain ⟨J, hJ⟩ : ∃ I : Int, octZ 35 f 4 = I := ⟨_, rfl⟩
          rw [hI, hM, hJ] at HPZ
          rw [hI, hM, hJ]
          clear hI hM hJ HNK
          have hgn := HN.out.lt
          have HSG := Lib.hid (rd_of_blk (Blk.fresh wr 3 #[.int .i64 I, .int .i64 M, .int .i64 J]))
          have HOW := Lib.hid (ownsRow_below HO.out ((Below.refl wr.heap.size wr).alloc (Nat.le_refl _) (.cells #[.int .i64 I, .int .i64 M, .int .i64 J] 3)))
          have HBX := Lib.hid (HB.out.alloc (by omega) (.cells #[.int .i64 I, .int .i64 M, .int .i64 J] 3))
          go_wp2_with (at_builtin; go_loud (refine wpList_append_rd _ rfl (.tmp 65) (.tmp 69) 39 rfl (base := gn + 1) Ms.elemInts rfl HOW.out rfl (fun h => by cases h) HSG.out (by simp [Value.oneCell']) (by unfold maxLen; omega) (by omega) (by simp; omega) ?_); intro A9 c9 w5 hA9 hown2 hg2; have HO5 := Lib.hid hown2; have HB5 := Lib.hid (HBX.out.grown hg2 (by simp; omega) (fun g e => by have := (HOW.out.lt g e).1; omega)); clear hA9 hown2 hg2)
          go_ret
          refine ⟨A9, c9, rfl, ?_, by rw [HGN.out]; exact HB5.out⟩
          rw [HPZ.out, HGN.out]
          exact own_weaken HO5.out (by omega)
end Go.Proofs.Ytjfllpmiajkenaa.Nd
