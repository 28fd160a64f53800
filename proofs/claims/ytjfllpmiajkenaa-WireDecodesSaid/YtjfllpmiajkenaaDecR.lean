/- Contract: the reference's Decode. -/
import Derived.Test.YtjfllpmiajkenaaDecF
import Derived.Test.YtjfllpmiajkenaaRes
import Derived.Test.YtjfllpmiajkenaaRegR
import Derived.Test.YtjfllpmiajkenaaOwnMore
import Derived.Test.YtjfllpmiajkenaaRws
import Derived.Deep.CutBlock
import Derived.Deep.DeepCutAuto
namespace Go.Proofs.Ytjfllpmiajkenaa.Ms
open Go.ChangeShapes Go.WideShapes Go.ChangeAt Go.RowKit Go.Proofs.Ytjfllpmiajkenaa.Mem Go.Proofs.Ytjfllpmiajkenaa.Rws
set_option linter.unusedVariables false
set_option linter.unusedSimpArgs false

theorem rd_cell1 (w : World) (v : Value) (e : TypeId) : Rd (w.alloc (.cells #[v] e)) (w.heap.size + 1) 1 (some ⟨w.heap.size, 0, none⟩) 1 [v] := by
  refine ⟨rfl, fun _ => ⟨w.heap.size, 0, rfl, by omega, fun j u hu => ?_⟩⟩
  have h := (Blk.fresh w e #[v]).cell j
  rw [Nat.zero_add, h]
  simpa using hu
theorem bytes_cells {w : World} {B : Nat} {A : Option Addr} {bs : List Nat} (h : Rd w B 1 A bs.length (Sm.bytesV bs)) (h0 : 0 < bs.length) : ∃ b o, A = some ⟨b, o, none⟩ ∧ b < B ∧ ∀ j, j < bs.length → w.cell? ⟨b, o + j, none⟩ = some (.int .u8 (bAt bs j : Nat)) := by
  obtain ⟨b, o, e, hb, hc⟩ := h.2 h0
  refine ⟨b, o, e, hb, fun j hj => hc j _ ?_⟩
  unfold Sm.bytesV bAt
  rw [List.getElem?_map, List.getD_eq_getElem?_getD, List.getElem?_eq_getElem hj]
  rfl

set_option maxRecDepth 100000 in
set_option maxHeartbeats 4000000 in
theorem refdecode_any (A : Option Addr) (c : Nat) (bs : List Nat) (B : Nat) (w : World) (hB : B ≤ w.heap.size) (hA : A = none → c = 0) (hnc : bs.length ≤ c) (hcm : c ≤ maxLen) (hc : bs.length ≤ 140737488351232) (hbs : ∀ x ∈ bs, x < 256) (hr : Rd w B 1 A bs.length (Sm.bytesV bs)) :
    Calls Try.prog 24 #[.slice A bs.length c] w fun e w' => DecAs w w' bs e := by
  have HR := Lib.hid hr
  have HS := Lib.hid hbs
  have iZ : (Try.prog.info? 41).map (·.size) = some (#[.int .i64 0, .int .i64 0, .int .i64 0, .slice none 0 0] : Array Value).size := by kernel_rfl
  have oZ : (#[.int .i64 0, .int .i64 0, .int .i64 0, .slice none 0 0] : Array Value).all (·.oneCell') = true := by simp [Value.oneCell']
  clear hr hbs
  go_enter Try.func24, Try.ntmps24
  go_upto_region 2 with fail
  have H2 := Lib.hid (show Blk ((w.alloc (.cells #[.int .i64 0, .int .i64 0, .int .i64 0, .slice none 0 0] 41)).alloc (.cells #[.int .i64 0, .int .i64 0, .int .i64 0, .slice none 0 0] 41)) w.heap.size 41 #[.int .i64 0, .int .i64 0, .int .i64 0, .slice none 0 0] from (Blk.new rfl).alloc _)
  have H4 := Lib.hid (show Blk ((w.alloc (.cells #[.int .i64 0, .int .i64 0, .int .i64 0, .slice none 0 0] 41)).alloc (.cells #[.int .i64 0, .int .i64 0, .int .i64 0, .slice none 0 0] 41)) (w.heap.size + 1) 41 #[.int .i64 0, .int .i64 0, .int .i64 0, .slice none 0 0] from Blk.new (by simp))
  have HB := Lib.hid (show Below w.heap.size w ((w.alloc (.cells #[.int .i64 0, .int .i64 0, .int .i64 0, .slice none 0 0] 41)).alloc (.cells #[.int .i64 0, .int .i64 0, .int .i64 0, .slice none 0 0] 41)) from ((Below.refl _ _).alloc (Nat.le_refl _) _).alloc (by simp) _)
  generalize ((w.alloc (.cells #[.int .i64 0, .int .i64 0, .int .i64 0, .slice none 0 0] 41)).alloc (.cells #[.int .i64 0, .int .i64 0, .int .i64 0, .slice none 0 0] 41)) = w1 at *
  have HR0 := HR
  have HR := Lib.hid (HR.out.below (HB.out.mono hB))
  obtain ⟨g2, hg2⟩ : ∃ g, w.heap.size = g := ⟨_, rfl⟩
  have HGW := Lib.hid hg2
  rw [hg2] at H2 H4 hB ⊢
  clear hg2
  obtain ⟨g4, hg4⟩ : ∃ g, g2 + 1 = g := ⟨_, rfl⟩
  rw [hg4] at H4 ⊢
  have HG := Lib.hid (show w.heap.size ≤ g2 ∧ g2 < g4 by have := HGW.out; omega)
  clear hg4
  by_cases q1 : 220 < bs.length
  · have HE := Lib.hid (show decE bs = 1 from if_pos q1)
    have q1' : (220 : Int) < (bs.length : Int) := by omega
    clear q1
    go_wp2_with (first | (refine wpList_whole rfl 41 _ rfl g4 rfl H4.out _ Try.underlying41 rfl iZ ?_) | (refine wpList_store_row rfl 41 _ _ rfl g2 #[.int .i64 0, .int .i64 0, .int .i64 0, .slice none 0 0] rfl rfl 41 _ H2.out iZ rfl oZ ?_))
    refine ret_row2 (x := .int .i64 1) rfl rfl rfl (H2.out.setRow #[.int .i64 0, .int .i64 0, .int .i64 0, .slice none 0 0]) ⟨by rw [Try.underlying41], iZ⟩ rfl ?_
    unfold DecAs
    rw [if_neg (by rw [HE.out]; decide)]
    exact ⟨by rw [HE.out]; rfl, below_setRow HB.out HG.out.1 _⟩
  have HD1 := Lib.hid (show decE bs = if bs.length < 12 ∨ bAt bs 0 ≠ 87 then 2 else if Sm.okB bs = false then 5 else if 24 < decN bs then 6 else if bs.length ≠ 12 + 8 * decN bs then 2 else wrong (bAt bs 1) (bAt bs 2) (valB bs 3 4) (decN bs) from if_neg q1)
  by_cases q2 : bs.length < 12
  · have HE := Lib.hid (show decE bs = 2 by rw [HD1.out, if_pos (.inl q2)])
    have q2' : (bs.length : Int) < 12 := by omega
    have q1' : (bs.length : Int) ≤ 220 := by omega
    clear q1 q2
    go_wp2_with (first | (refine wpList_whole rfl 41 _ rfl g4 rfl H4.out _ Try.underlying41 rfl iZ ?_) | (refine wpList_store_row rfl 41 _ _ rfl g2 #[.int .i64 0, .int .i64 0, .int .i64 0, .slice none 0 0] rfl rfl 41 _ H2.out iZ rfl oZ ?_))
    refine ret_row2 (x := .int .i64 2) rfl rfl rfl (H2.out.setRow #[.int .i64 0, .int .i64 0, .int .i64 0, .slice none 0 0]) ⟨by rw [Try.underlying41], iZ⟩ rfl ?_
    unfold DecAs
    rw [if_neg (by rw [HE.out]; decide)]
    exact ⟨by rw [HE.out]; rfl, below_setRow HB.out HG.out.1 _⟩
  obtain ⟨b, o, rfl, hb, hcl⟩ := bytes_cells HR0.out (by omega)
  have HCW := Lib.hid (fun v (hv : Below w.heap.size w v) j (hj : j < bs.length) => (hv.cell (p := ⟨b, o + j, none⟩) (show b < w.heap.size by rw [HGW.out]; omega)).trans (hcl j hj))
  have x0 := HCW.out w1 HB.out 0 (by omega)
  rw [Nat.add_zero] at x0
  clear hcl
  by_cases q3 : bAt bs 0 = 87
  case neg =>
    have HE := Lib.hid (show decE bs = 2 by rw [HD1.out, if_pos (.inr q3)])
    have q3' : (((bAt bs 0 : Nat) : Int) != 87) = true := bne_iff_ne.2 (by omega)
    have q2' : ¬ (bs.length : Int) < 12 := by omega
    have q1' : (bs.length : Int) ≤ 220 := by omega
    generalize bAt bs 0 = y0 at *
    clear q3 q2 q1
    go_wp2_with (first | (refine wpList_whole rfl 41 _ rfl g4 rfl H4.out _ Try.underlying41 rfl iZ ?_) | (refine wpList_store_row rfl 41 _ _ rfl g2 #[.int .i64 0, .int .i64 0, .int .i64 0, .slice none 0 0] rfl rfl 41 _ H2.out iZ rfl oZ ?_))
    refine ret_row2 (x := .int .i64 2) rfl rfl rfl (H2.out.setRow #[.int .i64 0, .int .i64 0, .int .i64 0, .slice none 0 0]) ⟨by rw [Try.underlying41], iZ⟩ rfl ?_
    unfold DecAs
    rw [if_neg (by rw [HE.out]; decide)]
    exact ⟨by rw [HE.out]; rfl, below_setRow HB.out HG.out.1 _⟩
  have HD2 := Lib.hid (HD1.out.trans (if_neg (show ¬ (bs.length < 12 ∨ bAt bs 0 ≠ 87) by omega)))
  have q3' : (((bAt bs 0 : Nat) : Int) != 87) = false := bne_eq_false_iff_eq.2 (by omega)
  have q2' : ¬ (bs.length : Int) < 12 := by omega
  have q1' : (bs.length : Int) ≤ 220 := by omega
  generalize bAt bs 0 = y0 at *
  clear q3
  go_wp2_with fail
  have hOp := Sm.refopen_any (some ⟨b, o, none⟩) c bs B w1 (Nat.le_trans hB (by rw [← HGW.out]; exact HB.out.size)) hA hnc hcm hc HS.out HR.out
  refine hOp.mono ?_
  intro e w2 hop
  clear hOp x0
  rcases hop with ⟨hk, A2, c2, rfl, ho, hb2⟩ | ⟨hk, rfl, hb2⟩
  case inr =>
    have HE := Lib.hid (show decE bs = 5 by rw [HD2.out, if_pos hk])
    have H2 := Lib.hid (H2.out.below hb2 H2.out.lt)
    have H4 := Lib.hid (H4.out.below hb2 H4.out.lt)
    have HB := Lib.hid (onward HB.out (Nat.le_refl _) hb2)
    clear hk hb2 HD2 HD1
    go_wp2_with (first | (refine wpList_whole rfl 41 _ rfl g4 rfl H4.out _ Try.underlying41 rfl iZ ?_) | (refine wpList_store_row rfl 41 _ _ rfl g2 #[.int .i64 0, .int .i64 0, .int .i64 0, .slice none 0 0] rfl rfl 41 _ H2.out iZ rfl oZ ?_))
    refine ret_row2 (x := .int .i64 5) rfl rfl rfl (H2.out.setRow #[.int .i64 0, .int .i64 0, .int .i64 0, .slice none 0 0]) ⟨by rw [Try.underlying41], iZ⟩ rfl ?_
    unfold DecAs
    rw [if_neg (by rw [HE.out]; decide)]
    exact ⟨by rw [HE.out]; rfl, below_setRow HB.out HG.out.1 _⟩
  have HD3 := Lib.hid (HD2.out.trans (if_neg (by rw [hk]; simp)))
  have H2 := Lib.hid (H2.out.below hb2 H2.out.lt)
  have H4 := Lib.hid (H4.out.below hb2 H4.out.lt)
  have HB := Lib.hid (onward HB.out (Nat.le_refl _) hb2)
  clear hk hb2 HD2 HD1 ho
  have x7 := HCW.out w2 HB.out 7 (by omega)
  have HNB := Lib.hid (bAt_lt HS.out 7)
  have HDN := Lib.hid (show decN bs = bAt bs 7 from rfl)
  generalize bAt bs 7 = N at *
  rw [HDN.out] at HD3
  have hN0 : (0 : Int) ≤ (N : Int) := by omega
  have hN1 : (N : Int) < 256 := by have := HNB.out; omega
  by_cases q4 : 24 < N
  · have HE := Lib.hid (show decE bs = 6 by rw [HD3.out, if_pos q4])
    have q4' : (24 : Int) < (N : Int) := by omega
    clear q4 HD3
    go_wp2_with (first | (refine wpList_whole rfl 41 _ rfl g4 rfl H4.out _ Try.underlying41 rfl iZ ?_) | (refine wpList_store_row rfl 41 _ _ rfl g2 #[.int .i64 0, .int .i64 0, .int .i64 0, .slice none 0 0] rfl rfl 41 _ H2.out iZ rfl oZ ?_))
    refine ret_row2 (x := .int .i64 6) rfl rfl rfl (H2.out.setRow #[.int .i64 0, .int .i64 0, .int .i64 0, .slice none 0 0]) ⟨by rw [Try.underlying41], iZ⟩ rfl ?_
    unfold DecAs
    rw [if_neg (by rw [HE.out]; decide)]
    exact ⟨by rw [HE.out]; rfl, below_setRow HB.out HG.out.1 _⟩
  have HD4 := Lib.hid (HD3.out.trans (if_neg q4))
  have q4' : (N : Int) ≤ 24 := by omega
  have hL : (12 : Int) + 8 * (N : Int) = ((12 + 8 * N : Nat) : Int) := by omega
  by_cases q5 : bs.length = 12 + 8 * N
  case neg =>
    have HE := Lib.hid (show decE bs = 2 by rw [HD4.out, if_pos q5])
    have q5' : ((bs.length : Int) != ((12 + 8 * N : Nat) : Int)) = true := bne_iff_ne.2 (by omega)
    generalize 12 + 8 * N = L at *
    clear q5 q4 HD4 HD3
    go_wp2_with (first | (refine wpList_whole rfl 41 _ rfl g4 rfl H4.out _ Try.underlying41 rfl iZ ?_) | (refine wpList_store_row rfl 41 _ _ rfl g2 #[.int .i64 0, .int .i64 0, .int .i64 0, .slice none 0 0] rfl rfl 41 _ H2.out iZ rfl oZ ?_))
    refine ret_row2 (x := .int .i64 2) rfl rfl rfl (H2.out.setRow #[.int .i64 0, .int .i64 0, .int .i64 0, .slice none 0 0]) ⟨by rw [Try.underlying41], iZ⟩ rfl ?_
    unfold DecAs
    rw [if_neg (by rw [HE.out]; decide)]
    exact ⟨by rw [HE.out]; rfl, below_setRow HB.out HG.out.1 _⟩
  have HDE := Lib.hid (HD4.out.trans (if_neg (by omega)))
  have q5' : ((bs.length : Int) != ((12 + 8 * N : Nat) : Int)) = false := bne_eq_false_iff_eq.2 (by omega)
  have HLN := Lib.hid q5
  have HN24 := Lib.hid (show N ≤ 24 by omega)
  generalize hLL : 12 + 8 * N = L at *
  have HLL := Lib.hid hLL
  clear q5 q4 HD4 HD3 hLL
  go_upto_region 14 with fail
  have x1 := HCW.out w2 HB.out 1 (by omega)
  have x2 := HCW.out w2 HB.out 2 (by omega)
  have HY1 := Lib.hid (bAt_lt HS.out 1)
  have HY2 := Lib.hid (bAt_lt HS.out 2)
  have HK := Lib.hid (show bAt bs 1 = bAt bs 1 ∧ bAt bs 2 = bAt bs 2 from ⟨rfl, rfl⟩)
  obtain ⟨y1, hy1⟩ : ∃ y, bAt bs 1 = y := ⟨_, rfl⟩
  obtain ⟨y2, hy2⟩ : ∃ y, bAt bs 2 = y := ⟨_, rfl⟩
  have HQ1 := Lib.hid hy1
  have HQ2 := Lib.hid hy2
  rw [hy1] at x1 HY1
  rw [hy2] at x2 HY2
  have h10 : (0 : Int) ≤ (y1 : Int) := by omega
  have h11 : (y1 : Int) < 256 := by have := HY1.out; omega
  have h20 : (0 : Int) ≤ (y2 : Int) := by omega
  have h21 : (y2 : Int) < 256 := by have := HY2.out; omega
  have b1 : (1 : Int) < (bs.length : Int) := by omega
  have hw1 : IntKind.i64.wrap (y1 : Int) = (y1 : Int) := by rw [IntKind.wrap_i64]; omega
  have hw2 : IntKind.i64.wrap (y2 : Int) = (y2 : Int) := by rw [IntKind.wrap_i64]; omega
  have b2 : (2 : Int) < (bs.length : Int) := by omega
  clear hy1 hy2 x7
  have hg48 : g4 < w2.drew.heap.size := H4.out.lt
  have HS_ := And.intro x1 x2
  have H2 := Lib.hid H2.out.drew
  have H4 := Lib.hid H4.out.drew
  have HB := Lib.hid HB.out.drew
  clear x1 x2
  refine wp_region_noPanic ?_
  refine Rg.beginR [2, 6] (fun w' => w'.cell? ⟨b, o + 1, none⟩ = some (.int .u8 y1) ∧ w'.cell? ⟨b, o + 2, none⟩ = some (.int .u8 y2)) (by kernel_rfl) ?_
  have HS_ := (show w2.drew.cell? ⟨b, o + 1, none⟩ = some (.int .u8 y1) ∧ w2.drew.cell? ⟨b, o + 2, none⟩ = some (.int .u8 y2) from HS_)
  generalize w2.drew = V0 at *
  refine Rg.takeP (i := 0) (oi := { dst := some 51, op := Op.move (Operand.tmp 0), type := 54, pos := "links.go:107", after := #[], guard := none }) (v := ?_) rfl (by kernel_rfl) (fun _ _ _ h => h) (by rfl) ?_ ?_
  rotate_left 1
  · (intro w; go_simp; (try with_reducible rfl))
  try simp only [Act.put, List.setIfInBounds_toArray, List.set_cons_zero, List.set_cons_succ]
  refine Rg.takeP (i := 1) (oi := { dst := some 52, op := Op.indexAddr 54 (Operand.tmp 51) (Operand.const (Value.int IntKind.i64 1)), type := 0, pos := "links.go:107", after := #[{ on := 0, ground := Ground.data }], guard := none }) (v := ?_) rfl (by kernel_rfl) (fun _ _ _ h => h) (by rfl) ?_ ?_
  rotate_left 1
  · (intro w; go_simp; (try with_reducible rfl))
  try simp only [Act.put, List.setIfInBounds_toArray, List.set_cons_zero, List.set_cons_succ]
  refine Rg.takeS (i := 2) (oi := { dst := some 53, op := Op.load 5 (Operand.tmp 52), type := 5, pos := "links.go:107", after := #[{ on := 1, ground := Ground.data }], guard := none }) (v := ?_) rfl (by kernel_rfl) (fun _ _ _ h => h) (by rfl) HS_ ?_ ?_
  rotate_left 1
  · (intro w hSw; (try dsimp only at hSw); (try go_split_ands); go_simp; (try with_reducible rfl))
  try simp only [Act.put, List.setIfInBounds_toArray, List.set_cons_zero, List.set_cons_succ]
  refine Rg.takeP (i := 3) (oi := { dst := some 54, op := Op.convert 5 3 (Operand.tmp 53), type := 3, pos := "links.go:107", after := #[{ on := 2, ground := Ground.data }], guard := none }) (v := .int .i64 (y1 : Nat)) rfl (by kernel_rfl) (fun _ _ _ h => h) (by rfl) ?_ ?_
  · (intro w; go_simp; (try with_reducible rfl))
  try simp only [Act.put, List.setIfInBounds_toArray, List.set_cons_zero, List.set_cons_succ]
  refine Rg.takeP (i := 4) (oi := { dst := some 55, op := Op.move (Operand.tmp 0), type := 54, pos := "links.go:107", after := #[], guard := none }) (v := ?_) rfl (by kernel_rfl) (fun _ _ _ h => h) (by rfl) ?_ ?_
  rotate_left 1
  · (intro w; go_simp; (try with_reducible rfl))
  try simp only [Act.put, List.setIfInBounds_toArray, List.set_cons_zero, List.set_cons_succ]
  refine Rg.takeP (i := 5) (oi := { dst := some 56, op := Op.indexAddr 54 (Operand.tmp 55) (Operand.const (Value.int IntKind.i64 2)), type := 0, pos := "links.go:107", after := #[{ on := 4, ground := Ground.data }], guard := none }) (v := ?_) rfl (by kernel_rfl) (fun _ _ _ h => h) (by rfl) ?_ ?_
  rotate_left 1
  · (intro w; go_simp; (try with_reducible rfl))
  try simp only [Act.put, List.setIfInBounds_toArray, List.set_cons_zero, List.set_cons_succ]
  refine Rg.takeS (i := 6) (oi := { dst := some 57, op := Op.load 5 (Operand.tmp 56), type := 5, pos := "links.go:107", after := #[{ on := 5, ground := Ground.data }], guard := none }) (v := ?_) rfl (by kernel_rfl) (fun _ _ _ h => h) (by rfl) HS_ ?_ ?_
  rotate_left 1
  · (intro w hSw; (try dsimp only at hSw); (try go_split_ands); go_simp; (try with_reducible rfl))
  try simp only [Act.put, List.setIfInBounds_toArray, List.set_cons_zero, List.set_cons_succ]
  refine Rg.takeP (i := 7) (oi := { dst := some 58, op := Op.convert 5 3 (Operand.tmp 57), type := 3, pos := "links.go:107", after := #[{ on := 6, ground := Ground.data }], guard := none }) (v := .int .i64 (y2 : Nat)) rfl (by kernel_rfl) (fun _ _ _ h => h) (by rfl) ?_ ?_
  · (intro w; go_simp; (try with_reducible rfl))
  try simp only [Act.put, List.setIfInBounds_toArray, List.set_cons_zero, List.set_cons_succ]
  refine Rg.takeP (i := 8) (oi := { dst := some 59, op := Op.build 41 #[(0, Operand.tmp 54), (1, Operand.tmp 58)], type := 41, pos := "links.go:107", after := #[{ on := 3, ground := Ground.data }, { on := 7, ground := Ground.data }], guard := none }) (v := .agg #[.int .i64 y1, .int .i64 y2, .int .i64 0, .slice none 0 0]) rfl (by kernel_rfl) (fun _ _ _ h => h) (by rfl) ?_ ?_
  · (intro w; go_simp; (try with_reducible rfl))
  try simp only [Act.put, List.setIfInBounds_toArray, List.set_cons_zero, List.set_cons_succ]
  refine Rg.oneR (i := 9) (oi := { dst := some 8, op := Op.alloc 41, type := 0, pos := "links.go:107", after := #[], guard := none }) rfl (by kernel_rfl) ?_
  refine Rg.stepS ?_
  intro K hK
  go_simp
  have H2 := Lib.hid (H2.out.alloc (.cells #[.int .i64 0, .int .i64 0, .int .i64 0, .slice none 0 0] 41))
  have H4 := Lib.hid (H4.out.alloc (.cells #[.int .i64 0, .int .i64 0, .int .i64 0, .slice none 0 0] 41))
  have H8 := Lib.hid (Blk.fresh V0 41 #[.int .i64 0, .int .i64 0, .int .i64 0, .slice none 0 0])
  have HB := Lib.hid (HB.out.alloc HB.out.size (.cells #[.int .i64 0, .int .i64 0, .int .i64 0, .slice none 0 0] 41))
  generalize (V0.alloc (.cells #[.int .i64 0, .int .i64 0, .int .i64 0, .slice none 0 0] 41)) = V1 at *
  obtain ⟨g8, hg8⟩ : ∃ g, V0.heap.size = g := ⟨_, rfl⟩
  rw [hg8] at H8 hg48 ⊢
  clear hg8 HS_
  have HS_ : V1.cell? ⟨b, o + 1, none⟩ = some (.int .u8 y1) ∧ V1.cell? ⟨b, o + 2, none⟩ = some (.int .u8 y2) := ⟨by rw [← HQ1.out]; exact HCW.out V1 HB.out 1 (by omega), by rw [← HQ2.out]; exact HCW.out V1 HB.out 2 (by omega)⟩
  refine hK.out _ _ HS_ ?_
  clear hK K
  try simp only [Act.put, List.setIfInBounds_toArray, List.set_cons_zero, List.set_cons_succ]
  refine Rg.oneR (i := 10) (oi := { dst := none, op := Op.store 41 (Operand.tmp 8) (Operand.tmp 59), type := 0, pos := "links.go:107", after := #[{ on := 9, ground := Ground.data }, { on := 8, ground := Ground.data }, { on := 0, ground := Ground.phase }, { on := 1, ground := Ground.phase }, { on := 2, ground := Ground.phase }, { on := 3, ground := Ground.phase }, { on := 4, ground := Ground.phase }, { on := 5, ground := Ground.phase }, { on := 6, ground := Ground.phase }, { on := 7, ground := Ground.phase }, { on := 8, ground := Ground.phase }, { on := 9, ground := Ground.phase }], guard := none }) rfl (by kernel_rfl) ?_
  refine Rg.stepF ?_ ?_
  · kernel_rfl
  intro K hK
  rw [if_pos (by rfl)]
  refine wp_store_row 41 _ _ rfl g8 #[.int .i64 y1, .int .i64 y2, .int .i64 0, .slice none 0 0] rfl rfl 41 _ H8.out (by kernel_rfl) rfl (by simp [Value.oneCell']) ?_
  have H2 := Lib.hid (H2.out.setRow_other (g' := g8) (by have := HG.out; omega) #[.int .i64 y1, .int .i64 y2, .int .i64 0, .slice none 0 0])
  have H4 := Lib.hid (H4.out.setRow_other (g' := g8) (by have := HG.out; omega) #[.int .i64 y1, .int .i64 y2, .int .i64 0, .slice none 0 0])
  have H8 := Lib.hid (H8.out.setRow #[.int .i64 y1, .int .i64 y2, .int .i64 0, .slice none 0 0])
  have HB := Lib.hid (below_setRow HB.out (show w.heap.size ≤ g8 by have := HG.out; omega) #[.int .i64 y1, .int .i64 y2, .int .i64 0, .slice none 0 0])
  generalize (V1.setRow g8 #[.int .i64 y1, .int .i64 y2, .int .i64 0, .slice none 0 0]) = V2 at *
  refine hK.out _ _ ?_
  clear hK K
  try simp only [Act.put, List.setIfInBounds_toArray, List.set_cons_zero, List.set_cons_succ]
  refine Rg.doneR (by kernel_rfl) ?_ _
  refine NoPanic.normal ?_
  clear HS_
  go_wp2_with fail
  have hg8 := H8.out.lt
  have HG8 := Lib.hid (show g4 < g8 ∧ w.heap.size ≤ g8 by have := HG.out; omega)
  clear b1 b2 hw1 hw2 q5' hL q1 q2 q3'
  go_loopw [9] (fun iv wr => ∃ n : Nat, 3 ≤ n ∧ n ≤ 7 ∧ iv = .int .i64 (n : Int) ∧ Blk wr g8 41 #[.int .i64 y1, .int .i64 y2, .int .i64 (valB bs 3 (n - 3) : Nat), .slice none 0 0] ∧ Below g8 V2 wr) (fun iv _ => 7 - (intOf iv).toNat)
  case atStart => exact ⟨3, by omega, by omega, rfl, H8.out, Below.refl _ _⟩
  case round =>
    clear H8
    obtain ⟨n, hn3, hn7, rfl, h8, hbg⟩ := hrel
    have H8 := Lib.hid h8
    have HBG := Lib.hid hbg
    clear h8 hbg
    have HBW := Lib.hid (HB.out.trans (HBG.out.mono HG8.out.2))
    by_cases hlt : n < 7
    · have xn := HCW.out _ HBW.out n (by omega)
      have c2 := H8.out.cell 2
      simp only [List.getElem?_toArray, List.getElem?_cons_zero, List.getElem?_cons_succ] at c2
      have HV := Lib.hid (show valB bs 3 (n + 1 - 3) = valB bs 3 (n - 3) * 256 + bAt bs n from by rw [show n + 1 - 3 = (n - 3) + 1 by omega]; show valB bs 3 (n - 3) * 256 + bAt bs (3 + (n - 3)) = _; rw [show 3 + (n - 3) = n by omega])
      have HVL := Lib.hid (Nat.lt_of_lt_of_le (valB_lt HS.out 3 (n - 3)) (Nat.pow_le_pow_right (show 0 < 256 by omega) (show n - 3 ≤ 3 by omega)))
      have HYL := Lib.hid (bAt_lt HS.out n)
      generalize valB bs 3 (n - 3) = V at *
      generalize bAt bs n = y at *
      go_upto_region 18 with fail
      have hv0 : (0 : Int) ≤ (V : Int) := by omega
      have hv1 : (V : Int) < 16777216 := by have h : V < 256 ^ 3 := HVL.out; have : V < 16777216 := h; omega
      have hy0 : (0 : Int) ≤ (y : Int) := by omega
      have hy1 : (y : Int) < 256 := by have := HYL.out; omega
      have hn0 : (0 : Int) ≤ (n : Int) := by omega
      have hnl : (n : Int) < (bs.length : Int) := by omega
      have hw3 : IntKind.i64.wrap (y : Int) = (y : Int) := wrap_small hy0 (by omega)
      obtain ⟨P, hP⟩ : ∃ P, IntKind.i64.wrap ((V : Int) * 256) = P := ⟨_, rfl⟩
      obtain ⟨U, hU⟩ : ∃ U, IntKind.i64.wrap (P + (y : Int)) = U := ⟨_, rfl⟩
      have hPe : P = (V : Int) * 256 := by rw [← hP]; exact wrap_small (by omega) (by omega)
      have HU := Lib.hid (show U = ((V * 256 + y : Nat) : Int) from by
        have h := wrap_small (x := P + (y : Int)) (by omega) (by omega)
        rw [hU] at h
        rw [h, hPe]
        omega)
      clear hPe
      have HS_ := And.intro c2 xn
      have H8 := Lib.hid H8.out.drew
      have HBG := Lib.hid HBG.out.drew
      have f2 := H8.out.thaw 2
      clear c2 xn
      refine wp_region_noPanic ?_
      refine Rg.beginR [1, 6] (fun w' => w'.cell? ⟨g8, 2, none⟩ = some (.int .i64 V) ∧ w'.cell? ⟨b, o + n, none⟩ = some (.int .u8 y)) (by kernel_rfl) ?_
      have HS_ := (show wr.drew.cell? ⟨g8, 2, none⟩ = some (.int .i64 V) ∧ wr.drew.cell? ⟨b, o + n, none⟩ = some (.int .u8 y) from HS_)
      have c2 := HS_.1
      generalize wr.drew = V0 at *
      refine Rg.takeP (i := 0) (oi := { dst := some 64, op := Op.fieldAddr 41 (Operand.tmp 8) 2, type := 0, pos := "links.go:109", after := #[], guard := none }) (v := ?_) rfl (by kernel_rfl) (fun _ _ _ h => h) (by rfl) ?_ ?_
      rotate_left 1
      · (intro w; go_simp; (try with_reducible rfl))
      try simp only [Act.put, List.setIfInBounds_toArray, List.set_cons_zero, List.set_cons_succ]
      refine Rg.takeS (i := 1) (oi := { dst := some 65, op := Op.load 3 (Operand.tmp 64), type := 3, pos := "links.go:109", after := #[{ on := 0, ground := Ground.data }], guard := none }) (v := ?_) rfl (by kernel_rfl) (fun _ _ _ h => h) (by rfl) HS_ ?_ ?_
      rotate_left 1
      · (intro w hSw; (try dsimp only at hSw); (try go_split_ands); go_simp; (try with_reducible rfl))
      try simp only [Act.put, List.setIfInBounds_toArray, List.set_cons_zero, List.set_cons_succ]
      refine Rg.takeP (i := 2) (oi := { dst := some 66, op := Op.binOp BinOp.mul 3 (Operand.tmp 65) (Operand.const (Value.int IntKind.i64 256)) 3, type := 3, pos := "links.go:109", after := #[{ on := 1, ground := Ground.data }], guard := none }) (v := ?_) rfl (by kernel_rfl) (fun _ _ _ h => h) (by rfl) ?_ ?_
      rotate_left 1
      · (intro w; go_simp; (try with_reducible rfl))
      try simp only [Act.put, List.setIfInBounds_toArray, List.set_cons_zero, List.set_cons_succ]
      refine Rg.takeP (i := 3) (oi := { dst := some 67, op := Op.move (Operand.tmp 0), type := 54, pos := "links.go:109", after := #[], guard := none }) (v := ?_) rfl (by kernel_rfl) (fun _ _ _ h => h) (by rfl) ?_ ?_
      rotate_left 1
      · (intro w; go_simp; (try with_reducible rfl))
      try simp only [Act.put, List.setIfInBounds_toArray, List.set_cons_zero, List.set_cons_succ]
      refine Rg.takeP (i := 4) (oi := { dst := some 68, op := Op.move (Operand.tmp 9), type := 3, pos := "links.go:109", after := #[], guard := none }) (v := ?_) rfl (by kernel_rfl) (fun _ _ _ h => h) (by rfl) ?_ ?_
      rotate_left 1
      · (intro w; go_simp; (try with_reducible rfl))
      try simp only [Act.put, List.setIfInBounds_toArray, List.set_cons_zero, List.set_cons_succ]
      refine Rg.takeP (i := 5) (oi := { dst := some 69, op := Op.indexAddr 54 (Operand.tmp 67) (Operand.tmp 68), type := 0, pos := "links.go:109", after := #[{ on := 3, ground := Ground.data }, { on := 4, ground := Ground.data }], guard := none }) (v := ?_) rfl (by kernel_rfl) (fun _ _ _ h => h) (by rfl) ?_ ?_
      rotate_left 1
      · (intro w; go_simp; (try with_reducible rfl))
      try simp only [Act.put, List.setIfInBounds_toArray, List.set_cons_zero, List.set_cons_succ]
      refine Rg.takeS (i := 6) (oi := { dst := some 70, op := Op.load 5 (Operand.tmp 69), type := 5, pos := "links.go:109", after := #[{ on := 5, ground := Ground.data }], guard := none }) (v := ?_) rfl (by kernel_rfl) (fun _ _ _ h => h) (by rfl) HS_ ?_ ?_
      rotate_left 1
      · (intro w hSw; (try dsimp only at hSw); (try go_split_ands); go_simp; (try with_reducible rfl))
      try simp only [Act.put, List.setIfInBounds_toArray, List.set_cons_zero, List.set_cons_succ]
      refine Rg.takeP (i := 7) (oi := { dst := some 71, op := Op.convert 5 3 (Operand.tmp 70), type := 3, pos := "links.go:109", after := #[{ on := 6, ground := Ground.data }], guard := none }) (v := ?_) rfl (by kernel_rfl) (fun _ _ _ h => h) (by rfl) ?_ ?_
      rotate_left 1
      · (intro w; go_simp; (try with_reducible rfl))
      try simp only [Act.put, List.setIfInBounds_toArray, List.set_cons_zero, List.set_cons_succ]
      refine Rg.takeP (i := 8) (oi := { dst := some 72, op := Op.binOp BinOp.add 3 (Operand.tmp 66) (Operand.tmp 71) 3, type := 3, pos := "links.go:109", after := #[{ on := 2, ground := Ground.data }, { on := 7, ground := Ground.data }], guard := none }) (v := ?_) rfl (by kernel_rfl) (fun _ _ _ h => h) (by rfl) ?_ ?_
      rotate_left 1
      · (intro w; go_simp; (try with_reducible rfl))
      try simp only [Act.put, List.setIfInBounds_toArray, List.set_cons_zero, List.set_cons_succ]
      refine Rg.takeP (i := 9) (oi := { dst := some 73, op := Op.fieldAddr 41 (Operand.tmp 8) 2, type := 0, pos := "links.go:109", after := #[{ on := 0, ground := Ground.phase }, { on := 1, ground := Ground.phase }, { on := 2, ground := Ground.phase }, { on := 3, ground := Ground.phase }, { on := 4, ground := Ground.phase }, { on := 5, ground := Ground.phase }, { on := 6, ground := Ground.phase }, { on := 7, ground := Ground.phase }, { on := 8, ground := Ground.phase }], guard := none }) (v := ?_) rfl (by kernel_rfl) (fun _ _ _ h => h) (by rfl) ?_ ?_
      rotate_left 1
      · (intro w; go_simp; (try with_reducible rfl))
      try simp only [Act.put, List.setIfInBounds_toArray, List.set_cons_zero, List.set_cons_succ]
      refine Rg.oneR (i := 10) (oi := { dst := none, op := Op.store 3 (Operand.tmp 73) (Operand.tmp 72), type := 0, pos := "links.go:109", after := #[{ on := 9, ground := Ground.data }, { on := 8, ground := Ground.data }, { on := 0, ground := Ground.phase }, { on := 1, ground := Ground.phase }, { on := 2, ground := Ground.phase }, { on := 3, ground := Ground.phase }, { on := 4, ground := Ground.phase }, { on := 5, ground := Ground.phase }, { on := 6, ground := Ground.phase }, { on := 7, ground := Ground.phase }, { on := 8, ground := Ground.phase }], guard := none }) rfl (by kernel_rfl) ?_
      refine Rg.stepF ?_ ?_
      · kernel_rfl
      intro K hK
      go_simp
      refine hK.out _ _ ?_
      clear hK K
      try simp only [Act.put, List.setIfInBounds_toArray, List.set_cons_zero, List.set_cons_succ]
      refine Rg.doneR (by kernel_rfl) ?_ _
      refine NoPanic.normal ?_
      clear HS_
      go_wp2_with fail
      exact ⟨⟨n + 1, by omega, by omega, by go_num, by rw [HV.out, ← HU.out]; exact H8.out.set 2 _, HBG.out.setCell (p := ⟨g8, 2, none⟩) (Nat.le_refl _) _⟩, by simp [intOf]; omega⟩
    · obtain rfl : n = 7 := by omega
      clear hlt
      have HFR := Lib.hid (valB_lt HS.out 3 4)
      have H8 := Lib.hid (show Blk wr g8 41 #[.int .i64 y1, .int .i64 y2, .int .i64 (valB bs 3 4 : Nat), .slice none 0 0] from H8.out)
      obtain ⟨FR, hFR⟩ : ∃ n, valB bs 3 4 = n := ⟨_, rfl⟩
      rw [hFR] at H8 HDE
      have HFE := Lib.hid hFR
      have H2 := Lib.hid (H2.out.below HBG.out (by have := HG.out; have := HG8.out; omega))
      have H4 := Lib.hid (H4.out.below HBG.out HG8.out.1)
      have HB := HBW
      have hgr := H8.out.lt
      clear hFR HBG HBW
      generalize wr = w7 at *
      go_wp2_with fail
      go_loopw [10] (fun iv wr => ∃ (i : Nat) (AV : Option Addr) (cv : Nat), i ≤ N ∧ iv = .int .i64 (i : Int) ∧ Blk wr g8 41 #[.int .i64 y1, .int .i64 y2, .int .i64 (FR : Nat), .slice AV i cv] ∧ wr.ownsRow (g8 + 1) 3 1 (.slice AV i cv) i (intsV (decZ bs i)) ∧ Below g8 w7 wr) (fun iv _ => N - (intOf iv).toNat)
      case atStart => exact ⟨0, none, 0, by omega, rfl, H8.out, World.ownsRow_nil _ _ _ _, Below.refl _ _⟩
      case round =>
        clear H8
        obtain ⟨i, AV, cv, hiN, rfl, h8, hov, hbg⟩ := hrel
        have H8 := Lib.hid h8
        have HV := Lib.hid hov
        have HBG := Lib.hid hbg
        clear h8 hov hbg
        have HBW := Lib.hid (HB.out.trans (HBG.out.mono HG8.out.2))
        have hg8r := H8.out.lt
        by_cases hlt : i < N
        · have hi1 : (i : Int) < (N : Int) := by omega
          have HI24 := Lib.hid (show i < 24 by omega)
          go_wp2_with fail
          go_loop [11, 12] (fun v k => ∃ m : Nat, m ≤ 8 ∧ k = .int .i64 (m : Int) ∧ v = .int .u64 (valB bs (8 + 8 * i) m : Nat)) (fun _ k => 8 - (intOf k).toNat)
          case atStart => exact ⟨0, by omega, rfl, rfl⟩
          case round =>
            obtain ⟨m, hm8, rfl, rfl⟩ := hrel
            by_cases hlm : m < 8
            · have xp := HCW.out _ HBW.out (8 + 8 * i + m) (by have := HLN.out; have := HLL.out; omega)
              have HVS := Lib.hid (show valB bs (8 + 8 * i) (m + 1) = valB bs (8 + 8 * i) m * 256 + bAt bs (8 + 8 * i + m) from rfl)
              have HVL := Lib.hid (Nat.lt_of_lt_of_le (valB_lt HS.out (8 + 8 * i) m) (Nat.pow_le_pow_right (show 0 < 256 by omega) (show m ≤ 7 by omega)))
              have HYL := Lib.hid (bAt_lt HS.out (8 + 8 * i + m))
              have hpl := Lib.hid (show 8 + 8 * i + m < bs.length by have := HLN.out; have := HLL.out; omega)
              obtain ⟨q1, hq1⟩ : ∃ q, 8 * i = q := ⟨_, rfl⟩
              have e1 : (8 : Int) * (i : Int) = (q1 : Int) := by omega
              rw [hq1] at xp HVS HVL HYL hpl
              obtain ⟨q2, hq2⟩ : ∃ q, 8 + q1 = q := ⟨_, rfl⟩
              have e2 : (8 : Int) + (q1 : Int) = (q2 : Int) := by omega
              rw [hq2] at xp HVS HVL HYL hpl
              obtain ⟨p, hp⟩ : ∃ q, q2 + m = q := ⟨_, rfl⟩
              have e3 : (q2 : Int) + (m : Int) = (p : Int) := by omega
              rw [hp] at xp HVS HYL hpl
              have HQ := Lib.hid (show 8 + 8 * i = q2 by omega)
              clear hq1 hq2 hp
              rw [HQ.out]
              generalize valB bs q2 m = V at *
              generalize bAt bs p = y at *
              have hp0 : (0 : Int) ≤ (p : Int) := by omega
              have hpl' : (p : Int) < (bs.length : Int) := by have := hpl.out; omega
              obtain ⟨P, hP⟩ : ∃ P, IntKind.u64.wrap ((V : Int) * 256) = P := ⟨_, rfl⟩
              obtain ⟨U, hU⟩ : ∃ U, IntKind.u64.wrap (P + (y : Int)) = U := ⟨_, rfl⟩
              have HU := Lib.hid (u64_step V y (by have h : V < 256 ^ 7 := HVL.out; exact h) HYL.out hP hU)
              have hw3 : IntKind.u64.wrap (y : Int) = (y : Int) := u64_small (by have := HYL.out; omega)
              go_wp2_with fail
              exact ⟨⟨m + 1, by omega, by go_num, by rw [HVS.out, HU.out]⟩, by simp [intOf]; omega⟩
            · obtain rfl : m = 8 := by omega
              clear hlm
              rw [show ((8 : Nat) : Int) = 8 from rfl]
              have HD := Lib.hid (decZ_succ bs i)
              have HZE := Lib.hid (show i64N (valB bs (8 + 8 * i) 8) = IntKind.i64.wrap ((valB bs (8 + 8 * i) 8 : Nat) : Int) from rfl)
              generalize valB bs (8 + 8 * i) 8 = V at *
              obtain ⟨Zv, hZ⟩ : ∃ z, IntKind.i64.wrap (V : Int) = z := ⟨_, rfl⟩
              rw [HZE.out, hZ] at HD
              have HSG := Lib.hid (rd_cell1 wr (.int .i64 Zv) 3)
              have HOW := Lib.hid (Nd.ownsRow_below HV.out ((Below.refl wr.heap.size wr).alloc (Nat.le_refl _) (.cells #[.int .i64 Zv] 3)))
              have HBX := Lib.hid (HBG.out.alloc (Nat.le_of_lt hg8r) (.cells #[.int .i64 Zv] 3))
              have H8X := Lib.hid (H8.out.alloc (.cells #[.int .i64 Zv] 3))
              have c3 := H8.out.cell 3
              simp only [List.getElem?_toArray, List.getElem?_cons_zero, List.getElem?_cons_succ] at c3
              have hi24 : i < 24 := HI24.out
              go_wp2_with (at_builtin; go_loud (refine wpList_append_rd _ rfl (.tmp 96) (.tmp 99) 39 rfl (base := g8 + 1) elemInts rfl HOW.out rfl (fun h => by cases h) HSG.out (by simp [Value.oneCell']) (by unfold maxLen; omega) (by omega) (by simp; omega) ?_); intro A9 c9 w5 hA9 hown2 hg2; have HO5 := Lib.hid hown2; have H85 := Lib.hid (H8X.out.grown hg2 (fun e => by have := (HOW.out.lt _ e.symm).1; omega)); have HB5 := Lib.hid (HBX.out.grown hg2 (by simp; omega) (fun g e => by have := (HOW.out.lt g e).1; omega)); have f3 := H85.out.thaw 3; have c35 := H85.out.cell 3; simp only [List.getElem?_toArray, List.getElem?_cons_zero, List.getElem?_cons_succ] at c35; clear hA9 hown2 hg2)
              refine ⟨⟨i + 1, by omega, by omega, A9, c9, H85.out.set 3 _, ?_, HB5.out.setCell (p := ⟨g8, 3, none⟩) (Nat.le_refl _) _⟩, by simp [intOf]; omega⟩
              rw [HD.out, show intsV (decZ bs i ++ [Zv]) = intsV (decZ bs i) ++ [.int .i64 Zv] by simp [intsV]]
              exact ownsRow_setCell_below HO5.out (by show g8 < g8 + 1; omega) _
        · obtain rfl : i = N := by omega
          clear hlt
          have HCE := Lib.hid (show decE bs = wrong (y1 : Int) (y2 : Int) (FR : Int) i from by rw [HDE.out, HQ1.out, HQ2.out])
          have H2 := Lib.hid (H2.out.below HBG.out (by have := HG.out; have := HG8.out; omega))
          have H4 := Lib.hid (H4.out.below HBG.out HG8.out.1)
          have HB := HBW
          have iC : (Try.prog.info? 41).map (·.size) = some (#[.int .i64 y1, .int .i64 y2, .int .i64 (FR : Nat), .slice AV i cv] : Array Value).size := by kernel_rfl
          have CW := Lib.hid (fun v => refwrong_any (y1 : Int) (y2 : Int) (FR : Int) AV i cv v (by omega))
          obtain ⟨Ev, hEv⟩ : ∃ E, wrong (y1 : Int) (y2 : Int) (FR : Int) i = E := ⟨_, rfl⟩
          rw [hEv] at HCE CW
          clear hEv HBG HBW HDE
          unfold msgV at CW
          go_wp2_with (refine wpList_whole rfl 41 _ rfl g8 rfl H8.out _ Try.underlying41 rfl iC ?_)
          refine (CW.out _).mono ?_
          rintro e w9 ⟨rfl, hb⟩
          have H2 := Lib.hid (H2.out.below hb H2.out.lt)
          have H4 := Lib.hid (H4.out.below hb H4.out.lt)
          have H8 := Lib.hid (H8.out.below hb H8.out.lt)
          have HV := Lib.hid (Nd.ownsRow_below HV.out hb)
          have HB := Lib.hid (onward HB.out (Nat.le_refl _) hb)
          clear hb CW
          by_cases hE : Ev = 0
          · subst hE
            go_wp2_with (first | (refine wpList_whole rfl 41 _ rfl g8 rfl H8.out _ Try.underlying41 rfl iC ?_) | (refine wpList_store_row rfl 41 _ _ rfl g2 #[.int .i64 y1, .int .i64 y2, .int .i64 (FR : Nat), .slice AV i cv] rfl rfl 41 _ H2.out iC rfl (by simp [Value.oneCell']) ?_))
            refine ret_row2 (x := .int .i64 0) rfl rfl rfl (H2.out.setRow _) ⟨by rw [Try.underlying41], iC⟩ rfl ?_
            unfold DecAs
            rw [if_pos HCE.out, HDN.out]
            exact ⟨AV, cv, by rw [HQ1.out, HQ2.out, HFE.out]; rfl, own_weaken (Nd.own_setRow HV.out (show g2 < g8 + 1 by have := HG.out; have := HG8.out; omega) _) (by have := HG8.out; omega), below_setRow HB.out HG.out.1 _⟩
          · have hE' : (Ev != 0) = true := bne_iff_ne.2 hE
            have HE2 := Lib.hid hE
            clear hE
            go_wp2_with (first | (refine wpList_whole rfl 41 _ rfl g4 rfl H4.out _ Try.underlying41 rfl iZ ?_) | (refine wpList_store_row rfl 41 _ _ rfl g2 #[.int .i64 0, .int .i64 0, .int .i64 0, .slice none 0 0] rfl rfl 41 _ H2.out iZ rfl oZ ?_))
            refine ret_row2 (x := .int .i64 Ev) rfl rfl rfl (H2.out.setRow #[.int .i64 0, .int .i64 0, .int .i64 0, .slice none 0 0]) ⟨by rw [Try.underlying41], iZ⟩ rfl ?_
            unfold DecAs
            rw [if_neg (by rw [HCE.out]; exact HE2.out)]
            exact ⟨by rw [HCE.out]; rfl, below_setRow HB.out HG.out.1 _⟩
end Go.Proofs.Ytjfllpmiajkenaa.Ms
