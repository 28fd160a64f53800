/- Contracts: mat.fresh, put, mat.Turn and the reference's Turn. -/
import Derived.Test.YtfaielkkecphbaaMats
import Derived.Test.YtfaielkkecphbaaSame
import Derived.Test.YtfaielkkecphbaaRegR
import Derived.Test.YtfaielkkecphbaaRes
import Derived.IntWalk
namespace Go.Proofs.Ytfaielkkecphbaa.Mats
open Go.ChangeShapes Go.WideShapes Go.ChangeAt Go.RowKit Go.Proofs.Ytfaielkkecphbaa.Mem
set_option linter.unusedVariables false

/-- a matrix at work: N, its numbers in block s, whether a step was bent in block p -/
def workC (N m s p : Nat) : Array Value := #[.int .i64 (N : Int), .slice (some ⟨s, 0, none⟩) m m, .pointer (some ⟨p, 0, none⟩)]
def Fresh (w w' : World) (N m : Nat) (e : Ending) : Prop :=
  ∃ s p, e = .returned (.agg (workC N m s p)) ∧ w.heap.size ≤ s ∧ w.heap.size ≤ p ∧ Blk w' s 3 (rowF .i64 m fun _ => 0) ∧ Blk w' p 4 #[.bool false] ∧ Below w.heap.size w w'

theorem fresh_any (N m : Nat) (hm : N * N = m) (h6 : m ≤ 36) (w : World) :
    Calls Try.prog 122 #[.int .i64 (N : Int)] w fun e w' => Fresh w w' N m e := by
  have e1 : IntKind.i64.wrap ((N : Int) * (N : Int)) = (m : Int) := by rw [← Int.natCast_mul, hm]; exact IntWalk.i64_in _ (by omega)
  clear hm
  go_enter Try.func122, Try.ntmps122
  go_wp2_with (refine wpList_make_row rfl (.tmp 6) (.tmp 6) 35 rfl elemInts m rfl rfl rfl rfl (by omega) (by omega) ?_)
  refine ret_row rfl rfl (((Blk.new rfl).alloc _).alloc _) Try.underlying165 rfl (by kernel_rfl) rfl ⟨w.heap.size + 1, w.heap.size + 1 + 1, rfl, by omega, by omega, (Blk.new (by simp)).alloc _, Blk.new (by simp), ?_⟩
  exact (((Below.refl _ _).alloc (Nat.le_refl _) _).alloc (by simp) _).alloc (by simp; omega) _

theorem put_any (N m s p r c q : Nat) (v : Int) (f : Nat → Int) (hq : r * N = q) (hi : q + c < m) (hm : m ≤ 36) (w : World) (hs : Blk w s 3 (rowF .i64 m f)) :
    Calls Try.prog 123 #[.agg (workC N m s p), .int .i64 (r : Int), .int .i64 (c : Int), .int .i64 v] w fun e w' => e = .returned (.tuple #[]) ∧ Blk w' s 3 (rowF .i64 m fun j => if j = q + c then v else f j) ∧ w.grownBy w' (some s) := by
  have e1 : IntKind.i64.wrap ((r : Int) * (N : Int)) = (q : Int) := by rw [← Int.natCast_mul, hq]; exact IntWalk.i64_in _ (by omega)
  have hs1 := hs.alloc (.cells #[.int .i64 (N : Int), .slice (some ⟨s, 0, none⟩) m m, .pointer (some ⟨p, 0, none⟩)] 165)
  have HS := Lib.hid hs
  have hlt := hs.lt
  have hx := hs1.cell (q + c)
  have hf := hs1.thaw (q + c)
  rw [rowF_at _ _ _ _ hi] at hx
  unfold workC
  clear hq hs hs1
  go_enter Try.func123, Try.ntmps123
  go_wp2_with fail
  go_end0
  refine ⟨rfl, ?_, ?_⟩
  · rw [← rowF_set (f := f) (j := q + c) (v := v) (fun j _ => rfl)]
    exact (HS.out.set _ _).alloc _
  · exact ⟨rfl, rfl, rfl, by simp, fun g hg hne => (Below.heap_alloc (w.setCell ⟨s, q + c, none⟩ (.int .i64 v)) _ g (by simpa using hg)).trans (Below.heap_setCell w ⟨s, q + c, none⟩ _ g (fun e => hne (by rw [e])))⟩

/-- P3.2 -/
def turnF (zs : List Int) (N j : Nat) : Int := zs.getD (j % N * N + j / N) 0
/-- what is turned when i columns are, and k numbers of the next -/
def turnK (zs : List Int) (N i k j : Nat) : Int := if j % N < i ∨ (j % N = i ∧ j / N < k) then turnF zs N j else 0
theorem turnK_step (zs : List Int) (N i k : Nat) (hi : i < N) (j : Nat) : (if j = k * N + i then zs.getD (i * N + k) 0 else turnK zs N i k j) = turnK zs N i (k + 1) j := by
  have hd := Nat.div_add_mod j N
  rw [Nat.mul_comm] at hd
  by_cases e : j = k * N + i
  · have h1 : j % N = i := by rw [e, Nat.mul_comm, Nat.mul_add_mod, Nat.mod_eq_of_lt hi]
    have h2 : j / N = k := by
      rw [e, Nat.mul_comm, Nat.mul_add_div (by omega), Nat.div_eq_of_lt hi, Nat.add_zero]
    rw [if_pos e]
    unfold turnK turnF
    rw [h1, h2, if_pos (by omega)]
  · rw [if_neg e]
    unfold turnK
    by_cases h : j % N < i ∨ (j % N = i ∧ j / N < k)
    · rw [if_pos h, if_pos (by omega)]
    · rw [if_neg h, if_neg]
      intro h'
      rcases h' with h' | ⟨h1, h2⟩
      · exact h (.inl h')
      · refine h (.inr ⟨h1, ?_⟩)
        rcases Nat.lt_or_ge (j / N) k with h3 | h3
        · exact h3
        · exact absurd (by rw [← hd, h1, show j / N = k by omega]) e
theorem turnK_on (zs : List Int) (N i j : Nat) (hj : j < N * N) : turnK zs N i N j = turnK zs N (i + 1) 0 j := by
  have : j / N < N := Nat.div_lt_of_lt_mul hj
  unfold turnK
  generalize turnF zs N j = v
  generalize j / N = d at *
  generalize j % N = r at *
  by_cases h : r < i ∨ (r = i ∧ d < N)
  · rw [if_pos h, if_pos (by omega)]
  · rw [if_neg h, if_neg (by omega)]
theorem turnK_end (zs : List Int) (N j : Nat) (hN : 0 < N) : turnK zs N N 0 j = turnF zs N j := by
  unfold turnK; rw [if_pos (.inl (Nat.mod_lt _ hN))]
theorem turnK_begin (zs : List Int) (N j : Nat) : turnK zs N 0 0 j = 0 := by
  unfold turnK; generalize j / N = d; generalize j % N = r; rw [if_neg (by omega)]
theorem sq_in {N i k : Nat} (hi : i < N) (hk : k < N) : i * N + k < N * N := by
  have : (i + 1) * N ≤ N * N := Nat.mul_le_mul_right _ hi
  rw [Nat.succ_mul] at this
  omega

def TurnAt (w w' : World) (N : Nat) (f : Nat → Int) (n : Nat) (e : Ending) : Prop :=
  ∃ A c, e = .returned (.tuple #[matV N A n c, .int .i64 0]) ∧ w'.ownsRow w.heap.size 3 1 (.slice A n c) n ((List.range n).map fun j => Value.int .i64 (f j)) ∧ Below w.heap.size w w'
def NoTurn (w w' : World) (e : Ending) : Prop := e = .returned (.tuple #[matV 0 none 0 0, .int .i64 8]) ∧ Below w.heap.size w w'

set_option maxRecDepth 100000 in
set_option maxHeartbeats 2000000 in
theorem turn_no (N : Int) (A : Option Addr) (n c : Nat) (w : World) (hg : good N n = false) :
    Calls Try.prog 73 #[matV N A n c] w fun e w' => NoTurn w w' e := by
  have HB0 := Lib.hid ((((Below.refl w.heap.size w).alloc (Nat.le_refl _) (.cells #[.int .i64 N, .slice A n c] 105)).alloc (by simp) (.cells #[.int .i64 0, .slice none 0 0] 105)))
  have HK : Hid (Blk ((w.alloc (.cells #[.int .i64 N, .slice A n c] 105)).alloc (.cells #[.int .i64 0, .slice none 0 0] 105)) (w.heap.size + 1) 105 #[.int .i64 0, .slice none 0 0]) := Lib.hid (Blk.new (by simp))
  have cG := good_any N A n c
  rw [hg] at cG
  clear hg
  unfold matV at *
  go_enter Try.func73, Try.ntmps73
  go_wp2_with (go_at_call 121; refine (cG _).mono ?_; rintro e w1 ⟨rfl, hb1⟩; have HK1 := Lib.hid (HK.out.below hb1 HK.out.lt); have x0 := HK1.out.cell 0; have x1 := HK1.out.cell 1; have f0 := HK1.out.thaw 0; have f1 := HK1.out.thaw 1; simp only [List.getElem?_toArray, List.getElem?_cons_zero, List.getElem?_cons_succ] at x0 x1)
  refine ret_row2 rfl rfl rfl ((HK1.out.set 0 (.int .i64 0)).set 1 (.slice none 0 0)) ⟨by rw [Try.underlying105], by kernel_rfl⟩ rfl ⟨rfl, ?_⟩
  exact ((onward HB0.out (Nat.le_refl _) hb1).setCell (by simp) _).setCell (by simp) _

theorem Rd.one (w : World) (v : Value) (e : TypeId) : Rd (w.alloc (.cells #[v] e)) (w.heap.size + 1) 1 (some ⟨w.heap.size, 0, none⟩) 1 [v] := by
  refine ⟨rfl, fun _ => ⟨w.heap.size, 0, rfl, by omega, fun j u hu => ?_⟩⟩
  have h := (Blk.fresh w e #[v]).cell j
  rw [Nat.zero_add, h]
  simpa using hu
theorem own_of_row {w : World} {s base m : Nat} {f : Nat → Int} (h : Blk w s 3 (rowF .i64 m f)) (hb : base ≤ s) (hm : m ≤ maxLen) : w.ownsRow base 3 1 (.slice (some ⟨s, 0, none⟩) m m) m ((List.range m).map fun j => Value.int .i64 (f j)) :=
  ⟨by simp, .inr ⟨s, m, rowF .i64 m f, rfl, hb, h, Nat.le_refl _, hm, by rw [rowF_size, Nat.mul_one], by rw [rowF_toList]; exact List.take_of_length_le (by simp)⟩⟩
/-- the loops of Turn: what the block s holds, and that nothing else has turned since w3 -/
def TurnL (w3 wr : World) (N s : Nat) (zs : List Int) (i k : Nat) : Prop := Blk wr s 3 (rowF .i64 (N * N) (turnK zs N i k)) ∧ w3.grownBy wr (some s)

set_option maxRecDepth 100000 in
set_option maxHeartbeats 4000000 in
theorem turn_yes (N : Nat) (A : Option Addr) (c : Nat) (zs : List Int) (B : Nat) (w : World) (hB : B ≤ w.heap.size) (hN : 1 ≤ N) (h6 : N ≤ 6) (hl : zs.length = N * N) (hr : Rd w B 1 A zs.length (Ms.intsV zs)) :
    Calls Try.prog 73 #[matV (N : Int) A zs.length c] w fun e w' => TurnAt w w' N (turnF zs N) (N * N) e := by
  have hsq : N * N ≤ 36 := by have := Nat.mul_le_mul h6 h6; omega
  have HB0 := Lib.hid ((((Below.refl w.heap.size w).alloc (Nat.le_refl _) (.cells #[.int .i64 (N : Int), .slice A zs.length c] 105)).alloc (by simp) (.cells #[.int .i64 0, .slice none 0 0] 105)))
  have HK : Hid (Blk ((w.alloc (.cells #[.int .i64 (N : Int), .slice A zs.length c] 105)).alloc (.cells #[.int .i64 0, .slice none 0 0] 105)) (w.heap.size + 1) 105 #[.int .i64 0, .slice none 0 0]) := Lib.hid (Blk.new (by simp))
  have HJ : Hid (Blk ((w.alloc (.cells #[.int .i64 (N : Int), .slice A zs.length c] 105)).alloc (.cells #[.int .i64 0, .slice none 0 0] 105)) w.heap.size 105 #[.int .i64 (N : Int), .slice A zs.length c]) := Lib.hid ((Blk.new rfl).alloc _)
  have HR := Lib.hid hr
  have cG := good_any (N : Int) A zs.length c
  rw [show good (N : Int) zs.length = true by simp [good, hl]; omega] at cG
  have HL := Lib.hid hl
  clear hl hr
  unfold matV at *
  go_enter Try.func73, Try.ntmps73
  go_wp2_with (first
    | (go_at_call 121; refine (cG _).mono ?_; rintro e w1 ⟨rfl, hb1⟩; have HK1 := Lib.hid (HK.out.below hb1 HK.out.lt); have HJ1 := Lib.hid (HJ.out.below hb1 HJ.out.lt); have HB1 := Lib.hid (onward HB0.out (Nat.le_refl _) hb1); have x0 := HJ1.out.cell 0; simp only [List.getElem?_toArray, List.getElem?_cons_zero] at x0; clear hb1)
    | (go_at_call 122; refine (fresh_any N (N * N) rfl hsq _).mono ?_; rintro e w2 ⟨s, p, rfl, hs, hp, bs, bp, hb2⟩; have HB2 := Lib.hid (onward HB1.out (Nat.le_refl _) hb2); have HK2 := Lib.hid (HK1.out.below hb2 HK1.out.lt); have HJ2 := Lib.hid (HJ1.out.below hb2 HJ1.out.lt); have HS2 := Lib.hid bs; have hlt1 := HK1.out.lt; have hlt2 := bs.lt; have x0 := (HJ2.out.alloc (.cells (workC N (N * N) s p) 165)).cell 0; simp only [List.getElem?_toArray, List.getElem?_cons_zero] at x0; unfold workC at x0 ⊢; clear hb2 bs bp))
  have T1 : Hid (Blk (w2.alloc (.cells #[.int .i64 (N : Int), .slice (some ⟨s, 0, none⟩) (N * N) (N * N), .pointer (some ⟨p, 0, none⟩)] 165)) w.heap.size 105 #[.int .i64 (N : Int), .slice A zs.length c]) := Lib.hid (HJ2.out.alloc _)
  have T2 : Hid (Blk (w2.alloc (.cells #[.int .i64 (N : Int), .slice (some ⟨s, 0, none⟩) (N * N) (N * N), .pointer (some ⟨p, 0, none⟩)] 165)) (w.heap.size + 1) 105 #[.int .i64 0, .slice none 0 0]) := Lib.hid (HK2.out.alloc _)
  have T4 : Hid (Blk (w2.alloc (.cells #[.int .i64 (N : Int), .slice (some ⟨s, 0, none⟩) (N * N) (N * N), .pointer (some ⟨p, 0, none⟩)] 165)) w2.heap.size 165 #[.int .i64 (N : Int), .slice (some ⟨s, 0, none⟩) (N * N) (N * N), .pointer (some ⟨p, 0, none⟩)]) := Lib.hid (Blk.new rfl)
  have T5 : Hid (Blk (w2.alloc (.cells #[.int .i64 (N : Int), .slice (some ⟨s, 0, none⟩) (N * N) (N * N), .pointer (some ⟨p, 0, none⟩)] 165)) s 3 (rowF .i64 (N * N) fun _ => 0)) := Lib.hid (HS2.out.alloc _)
  have T6 : Hid (Below w.heap.size w (w2.alloc (.cells #[.int .i64 (N : Int), .slice (some ⟨s, 0, none⟩) (N * N) (N * N), .pointer (some ⟨p, 0, none⟩)] 165))) := Lib.hid (HB2.out.alloc HB2.out.size _)
  have n1 : w.heap.size ≠ s := by omega
  have n2 : w.heap.size + 1 ≠ s := by omega
  have n4 : w2.heap.size ≠ s := by omega
  have hsB : w.heap.size ≤ s := by omega
  have TR := Lib.hid (HR.out.below (T6.out.mono hB))
  have hg4 : w.heap.size ≤ w2.heap.size := HB2.out.size
  generalize (w2.alloc (.cells #[.int .i64 (N : Int), .slice (some ⟨s, 0, none⟩) (N * N) (N * N), .pointer (some ⟨p, 0, none⟩)] 165)) = w3 at *
  generalize w2.heap.size = g4 at *
  clear x0 HS2 HJ2 HK2 HB2 HB1 HJ1 HK1 cG HJ HK HB0 hs hp hlt1 hlt2 HR
  obtain ⟨m, hm⟩ : ∃ m, N * N = m := ⟨_, rfl⟩
  rw [hm] at hsq T4 T5 ⊢
  have HM := Lib.hid hm
  go_loopw [16] (fun si wr => ∃ i : Nat, i ≤ N ∧ si = .int .i64 (i : Int) ∧ Blk wr s 3 (rowF .i64 m (turnK zs N i 0)) ∧ w3.grownBy wr (some s)) (fun si _ => N - (intOf si).toNat)
  case atStart => exact ⟨0, by omega, rfl, by rw [rowF_congr (g := fun _ => 0) (fun j _ => turnK_begin zs N j)]; exact T5.out, grown_same _ _⟩
  case round =>
    clear T5
    obtain ⟨i, hi, rfl, hblk, hgr⟩ := hrel
    have HW := Lib.hid hblk
    have HG := Lib.hid hgr
    have y0 := (T1.out.grown hgr (by simpa using n1)).cell 0
    simp only [List.getElem?_toArray, List.getElem?_cons_zero] at y0
    clear hblk hgr
    by_cases hlt : i < N
    · go_wp2_with fail
      go_loopw [21] (fun sk wq => ∃ k : Nat, k ≤ N ∧ sk = .int .i64 (k : Int) ∧ Blk wq s 3 (rowF .i64 m (turnK zs N i k)) ∧ w3.grownBy wq (some s)) (fun sk _ => N - (intOf sk).toNat)
      case atStart => exact ⟨0, by omega, rfl, HW.out, HG.out⟩
      case round =>
        clear HW HG
        obtain ⟨k, hk, rfl, hblk, hgr⟩ := hrel
        have HW := Lib.hid hblk
        have HG := Lib.hid hgr
        by_cases hkt : k < N
        · go_wp2_with fail
          obtain ⟨q, hq⟩ : ∃ q, i * N = q := ⟨_, rfl⟩
          obtain ⟨q2, hq2⟩ : ∃ q, k * N = q := ⟨_, rfl⟩
          have hqk : q + k < m := by have := sq_in hlt hkt; omega
          have hqi : q2 + i < m := by have := sq_in hkt hlt; omega
          obtain ⟨b, o, u, rfl, hbB, hu, hcell⟩ := (TR.out.grown HG.out (Nat.le_trans hB T6.out.size) (fun g e => by injection e with e; omega)).at (show q + k < zs.length by have := HL.out; omega)
          rw [Ms.intsV_at zs (q + k) (by have := HL.out; omega)] at hu
          obtain rfl := Option.some.inj hu
          have HZ := Lib.hid (show zs[q + k]'(by have := HL.out; omega) = zs.getD (i * N + k) 0 by rw [hq]; simp [List.getD, show q + k < zs.length by have := HL.out; omega])
          generalize zs[q + k]'_ = z at *
          clear hu
          have e1 : IntKind.i64.wrap ((i : Int) * (N : Int)) = (q : Int) := by rw [← Int.natCast_mul, hq]; exact IntWalk.i64_in (q : Int) (by omega)
          have hzl : (q : Int) + (k : Int) < (zs.length : Int) := by have := HL.out; omega
          have hz0 : (0 : Int) ≤ (q : Int) + (k : Int) := by omega
          have hzt : ((q : Int) + (k : Int)).toNat = q + k := by omega
          have e2 : IntKind.i64.wrap ((q : Int) + (k : Int)) = (q : Int) + (k : Int) := IntWalk.i64_in ((q : Int) + (k : Int)) (by omega)
          have HQ2 := Lib.hid hq2
          have HQK := Lib.hid (turnK_step zs N i k hlt)
          have t1 := (T1.out.grown HG.out (by simpa using n1)).drew
          have t4 := (T4.out.grown HG.out (by simpa using n4)).drew
          have HS : wr.drew.cell? ⟨g4, 0, none⟩ = some (.int .i64 (N : Int)) ∧ wr.drew.cell? ⟨g4, 1, none⟩ = some (.slice (some ⟨s, 0, none⟩) m m) ∧ wr.drew.cell? ⟨g4, 2, none⟩ = some (.pointer (some ⟨p, 0, none⟩)) ∧ wr.drew.cell? ⟨w.heap.size, 0, none⟩ = some (.int .i64 (N : Int)) ∧ wr.drew.cell? ⟨w.heap.size, 1, none⟩ = some (.slice (some ⟨b, o, none⟩) zs.length c) ∧ wr.drew.cell? ⟨b, o + (q + k), none⟩ = some (.int .i64 z) := ⟨t4.cell 0, t4.cell 1, t4.cell 2, t1.cell 0, t1.cell 1, hcell⟩
          clear t1 t4 hcell hq hm y0
          refine wp_region_noPanic ?_
          refine Rg.beginR [0, 4, 7, 12] (fun w' => w'.cell? ⟨g4, 0, none⟩ = some (.int .i64 (N : Int)) ∧ w'.cell? ⟨g4, 1, none⟩ = some (.slice (some ⟨s, 0, none⟩) m m) ∧ w'.cell? ⟨g4, 2, none⟩ = some (.pointer (some ⟨p, 0, none⟩)) ∧ w'.cell? ⟨w.heap.size, 0, none⟩ = some (.int .i64 (N : Int)) ∧ w'.cell? ⟨w.heap.size, 1, none⟩ = some (.slice (some ⟨b, o, none⟩) zs.length c) ∧ w'.cell? ⟨b, o + (q + k), none⟩ = some (.int .i64 z)) (by kernel_rfl) ?_
          refine Rg.takeS (i := 0) (oi := { dst := some 24, op := Op.load 165 (Operand.tmp 4), type := 165, pos := "mat.go:42", after := #[], guard := none }) (v := ?_) rfl (by kernel_rfl) (fun _ _ _ h => h) (by rfl) HS ?_ ?_
          rotate_left 1
          · (intro w hSw; (try dsimp only at hSw); (try go_split_ands); go_simp; (try with_reducible rfl))
          try simp only [Act.put, List.setIfInBounds_toArray, List.set_cons_zero, List.set_cons_succ]
          refine Rg.takeP (i := 1) (oi := { dst := some 25, op := Op.move (Operand.tmp 6), type := 3, pos := "mat.go:42", after := #[], guard := none }) (v := ?_) rfl (by kernel_rfl) (fun _ _ _ h => h) (by rfl) ?_ ?_
          rotate_left 1
          · (intro w; go_simp; (try with_reducible rfl))
          try simp only [Act.put, List.setIfInBounds_toArray, List.set_cons_zero, List.set_cons_succ]
          refine Rg.takeP (i := 2) (oi := { dst := some 26, op := Op.move (Operand.tmp 5), type := 3, pos := "mat.go:42", after := #[], guard := none }) (v := ?_) rfl (by kernel_rfl) (fun _ _ _ h => h) (by rfl) ?_ ?_
          rotate_left 1
          · (intro w; go_simp; (try with_reducible rfl))
          try simp only [Act.put, List.setIfInBounds_toArray, List.set_cons_zero, List.set_cons_succ]
          refine Rg.takeP (i := 3) (oi := { dst := some 27, op := Op.fieldAddr 105 (Operand.tmp 1) 1, type := 0, pos := "mat.go:42", after := #[], guard := none }) (v := ?_) rfl (by kernel_rfl) (fun _ _ _ h => h) (by rfl) ?_ ?_
          rotate_left 1
          · (intro w; go_simp; (try with_reducible rfl))
          try simp only [Act.put, List.setIfInBounds_toArray, List.set_cons_zero, List.set_cons_succ]
          refine Rg.takeS (i := 4) (oi := { dst := some 28, op := Op.load 35 (Operand.tmp 27), type := 35, pos := "mat.go:42", after := #[{ on := 3, ground := Ground.data }], guard := none }) (v := ?_) rfl (by kernel_rfl) (fun _ _ _ h => h) (by rfl) HS ?_ ?_
          rotate_left 1
          · (intro w hSw; (try dsimp only at hSw); (try go_split_ands); go_simp; (try with_reducible rfl))
          try simp only [Act.put, List.setIfInBounds_toArray, List.set_cons_zero, List.set_cons_succ]
          refine Rg.takeP (i := 5) (oi := { dst := some 29, op := Op.move (Operand.tmp 5), type := 3, pos := "mat.go:42", after := #[], guard := none }) (v := ?_) rfl (by kernel_rfl) (fun _ _ _ h => h) (by rfl) ?_ ?_
          rotate_left 1
          · (intro w; go_simp; (try with_reducible rfl))
          try simp only [Act.put, List.setIfInBounds_toArray, List.set_cons_zero, List.set_cons_succ]
          refine Rg.takeP (i := 6) (oi := { dst := some 30, op := Op.fieldAddr 105 (Operand.tmp 1) 0, type := 0, pos := "mat.go:42", after := #[], guard := none }) (v := ?_) rfl (by kernel_rfl) (fun _ _ _ h => h) (by rfl) ?_ ?_
          rotate_left 1
          · (intro w; go_simp; (try with_reducible rfl))
          try simp only [Act.put, List.setIfInBounds_toArray, List.set_cons_zero, List.set_cons_succ]
          refine Rg.takeS (i := 7) (oi := { dst := some 31, op := Op.load 3 (Operand.tmp 30), type := 3, pos := "mat.go:42", after := #[{ on := 6, ground := Ground.data }], guard := none }) (v := ?_) rfl (by kernel_rfl) (fun _ _ _ h => h) (by rfl) HS ?_ ?_
          rotate_left 1
          · (intro w hSw; (try dsimp only at hSw); (try go_split_ands); go_simp; (try with_reducible rfl))
          try simp only [Act.put, List.setIfInBounds_toArray, List.set_cons_zero, List.set_cons_succ]
          refine Rg.takeP (i := 8) (oi := { dst := some 32, op := Op.binOp BinOp.mul 3 (Operand.tmp 29) (Operand.tmp 31) 3, type := 3, pos := "mat.go:42", after := #[{ on := 5, ground := Ground.data }, { on := 7, ground := Ground.data }], guard := none }) (v := ?_) rfl (by kernel_rfl) (fun _ _ _ h => h) (by rfl) ?_ ?_
          rotate_left 1
          · (intro w; go_simp; (try with_reducible rfl))
          try simp only [Act.put, List.setIfInBounds_toArray, List.set_cons_zero, List.set_cons_succ]
          refine Rg.takeP (i := 9) (oi := { dst := some 33, op := Op.move (Operand.tmp 6), type := 3, pos := "mat.go:42", after := #[], guard := none }) (v := ?_) rfl (by kernel_rfl) (fun _ _ _ h => h) (by rfl) ?_ ?_
          rotate_left 1
          · (intro w; go_simp; (try with_reducible rfl))
          try simp only [Act.put, List.setIfInBounds_toArray, List.set_cons_zero, List.set_cons_succ]
          refine Rg.takeP (i := 10) (oi := { dst := some 34, op := Op.binOp BinOp.add 3 (Operand.tmp 32) (Operand.tmp 33) 3, type := 3, pos := "mat.go:42", after := #[{ on := 8, ground := Ground.data }, { on := 9, ground := Ground.data }], guard := none }) (v := ?_) rfl (by kernel_rfl) (fun _ _ _ h => h) (by rfl) ?_ ?_
          rotate_left 1
          · (intro w; go_simp; (try with_reducible rfl))
          try simp only [Act.put, List.setIfInBounds_toArray, List.set_cons_zero, List.set_cons_succ]
          refine Rg.takeP (i := 11) (oi := { dst := some 35, op := Op.indexAddr 35 (Operand.tmp 28) (Operand.tmp 34), type := 0, pos := "mat.go:42", after := #[{ on := 4, ground := Ground.data }, { on := 10, ground := Ground.data }], guard := none }) (v := ?_) rfl (by kernel_rfl) (fun _ _ _ h => h) (by rfl) ?_ ?_
          rotate_left 1
          · (intro w; go_simp; (try with_reducible rfl))
          try simp only [Act.put, List.setIfInBounds_toArray, List.set_cons_zero, List.set_cons_succ]
          refine Rg.takeS (i := 12) (oi := { dst := some 36, op := Op.load 3 (Operand.tmp 35), type := 3, pos := "mat.go:42", after := #[{ on := 11, ground := Ground.data }], guard := none }) (v := ?_) rfl (by kernel_rfl) (fun _ _ _ h => h) (by rfl) HS ?_ ?_
          rotate_left 1
          · (intro w hSw; (try dsimp only at hSw); (try go_split_ands); go_simp; (try with_reducible rfl))
          try simp only [Act.put, List.setIfInBounds_toArray, List.set_cons_zero, List.set_cons_succ]
          refine Rg.oneR (i := 13) (oi := { dst := some 37, op := Op.call { callee := Callee.value (Operand.func 123), args := #[Operand.tmp 24, Operand.tmp 25, Operand.tmp 26, Operand.tmp 36], argTypes := #[165, 3, 3, 3] }, type := 0, pos := "mat.go:42", after := #[{ on := 0, ground := Ground.data }, { on := 1, ground := Ground.data }, { on := 2, ground := Ground.data }, { on := 12, ground := Ground.data }], guard := none }) rfl (by kernel_rfl) ?_
          refine Rg.stepF ?_ ?_
          · kernel_rfl
          intro K hK
          go_simp
          go_at_call 123
          refine (put_any N m s p k i q2 z (turnK zs N i k) hq2 hqi hsq _ HW.out.drew).mono ?_
          rintro e w4 ⟨rfl, hb4, hg4'⟩
          go_wp2_with fail
          refine hK.out _ _ ?_
          clear hK K
          try simp only [Act.put, List.setIfInBounds_toArray, List.set_cons_zero, List.set_cons_succ]
          refine Rg.doneR (by kernel_rfl) ?_ _
          refine NoPanic.normal ?_
          have HB4 := Lib.hid hb4
          have HG4 := Lib.hid hg4'
          clear hb4 hg4' HS e1 e2
          go_wp2_with fail
          refine ⟨⟨k + 1, by omega, by go_num, ?_, HG.out.trans ⟨HG4.out.os, HG4.out.tape, HG4.out.output, HG4.out.size, HG4.out.block⟩⟩, by simp [intOf]; omega⟩
          rw [← rowF_congr (fun j _ => HQK.out j), HQ2.out, ← HZ.out]
          exact HB4.out
        · obtain rfl : N = k := by omega
          clear hkt
          go_wp2_with fail
          refine ⟨⟨i + 1, by omega, by go_num, ?_, HG.out⟩, by simp [intOf]; omega⟩
          rw [← rowF_congr (fun j hj => turnK_on zs N i j (by omega))]
          exact HW.out
    · obtain rfl : N = i := by omega
      clear hlt
      have t4 := T4.out.grown HG.out (by simpa using n4)
      have t2 := T2.out.grown HG.out (by simpa using n2)
      have z0 := t4.cell 0
      have z1 := t4.cell 1
      have v0 := t2.cell 0
      have v1 := t2.cell 1
      have f0 := t2.thaw 0
      have f1 := t2.thaw 1
      simp only [List.getElem?_toArray, List.getElem?_cons_zero, List.getElem?_cons_succ] at z0 z1 v0 v1
      have H2 := Lib.hid t2
      clear t4 t2
      go_wp2_with fail
      refine ret_row2 rfl rfl rfl ((H2.out.set 0 (.int .i64 (N : Int))).set 1 (.slice (some ⟨s, 0, none⟩) m m)) ⟨by rw [Try.underlying105], by kernel_rfl⟩ rfl ⟨some ⟨s, 0, none⟩, m, by rw [HM.out]; rfl, ?_, ?_⟩
      · rw [HM.out]
        rw [rowF_congr (fun j _ => turnK_end zs N j (by omega))] at HW
        exact own_of_row ((HW.out.other (fun e => n2 e.symm) _).other (fun e => n2 e.symm) _) hsB (by unfold maxLen; omega)
      · exact ((T6.out.grown HG.out T6.out.size (fun g e => by injection e with e; omega)).setCell (by show _ ≤ w.heap.size + 1; omega) _).setCell (by show _ ≤ w.heap.size + 1; omega) _

set_option maxRecDepth 100000 in
set_option maxHeartbeats 2000000 in
theorem refturn_no (N : Int) (A : Option Addr) (n c : Nat) (w : World) (hg : good N n = false) :
    Calls Try.prog 75 #[matV N A n c] w fun e w' => NoTurn w w' e := by
  have HB0 := Lib.hid ((((Below.refl w.heap.size w).alloc (Nat.le_refl _) (.cells #[.int .i64 N, .slice A n c] 105)).alloc (by simp) (.cells #[.int .i64 0, .slice none 0 0] 105)))
  have HK : Hid (Blk ((w.alloc (.cells #[.int .i64 N, .slice A n c] 105)).alloc (.cells #[.int .i64 0, .slice none 0 0] 105)) (w.heap.size + 1) 105 #[.int .i64 0, .slice none 0 0]) := Lib.hid (Blk.new (by simp))
  have cG := goodref_any N A n c
  rw [hg] at cG
  clear hg
  unfold matV at *
  go_enter Try.func75, Try.ntmps75
  go_wp2_with (go_at_call 124; refine (cG _).mono ?_; rintro e w1 ⟨rfl, hb1⟩; have HK1 := Lib.hid (HK.out.below hb1 HK.out.lt); have x0 := HK1.out.cell 0; have x1 := HK1.out.cell 1; have f0 := HK1.out.thaw 0; have f1 := HK1.out.thaw 1; simp only [List.getElem?_toArray, List.getElem?_cons_zero, List.getElem?_cons_succ] at x0 x1)
  refine ret_row2 rfl rfl rfl ((HK1.out.set 0 (.int .i64 0)).set 1 (.slice none 0 0)) ⟨by rw [Try.underlying105], by kernel_rfl⟩ rfl ⟨rfl, ?_⟩
  exact ((onward HB0.out (Nat.le_refl _) hb1).setCell (by simp) _).setCell (by simp) _


def TurnR (w wr : World) (N m c g4 : Nat) (A : Option Addr) (zs : List Int) (k : Nat) : Prop :=
  ∃ A' c', Blk wr w.heap.size 105 #[.int .i64 (N : Int), .slice A zs.length c] ∧ Blk wr (w.heap.size + 1) 105 #[.int .i64 0, .slice none 0 0] ∧ Blk wr g4 105 #[.int .i64 (N : Int), .slice A' k c'] ∧
    wr.ownsRow (g4 + 1) 3 1 (.slice A' k c') k ((List.range k).map fun j => Value.int .i64 (turnF zs N j)) ∧ Below w.heap.size w wr ∧ g4 + 1 ≤ wr.heap.size

set_option maxRecDepth 100000 in
set_option maxHeartbeats 4000000 in
theorem refturn_yes (N : Nat) (A : Option Addr) (c : Nat) (zs : List Int) (B : Nat) (w : World) (hB : B ≤ w.heap.size) (hN : 1 ≤ N) (h6 : N ≤ 6) (hl : zs.length = N * N) (hr : Rd w B 1 A zs.length (Ms.intsV zs)) :
    Calls Try.prog 75 #[matV (N : Int) A zs.length c] w fun e w' => TurnAt w w' N (turnF zs N) (N * N) e := by
  have hsq : N * N ≤ 36 := by have := Nat.mul_le_mul h6 h6; omega
  have HB0 := Lib.hid ((((Below.refl w.heap.size w).alloc (Nat.le_refl _) (.cells #[.int .i64 (N : Int), .slice A zs.length c] 105)).alloc (by simp) (.cells #[.int .i64 0, .slice none 0 0] 105)))
  have HK : Hid (Blk ((w.alloc (.cells #[.int .i64 (N : Int), .slice A zs.length c] 105)).alloc (.cells #[.int .i64 0, .slice none 0 0] 105)) (w.heap.size + 1) 105 #[.int .i64 0, .slice none 0 0]) := Lib.hid (Blk.new (by simp))
  have HJ : Hid (Blk ((w.alloc (.cells #[.int .i64 (N : Int), .slice A zs.length c] 105)).alloc (.cells #[.int .i64 0, .slice none 0 0] 105)) w.heap.size 105 #[.int .i64 (N : Int), .slice A zs.length c]) := Lib.hid ((Blk.new rfl).alloc _)
  have HR := Lib.hid hr
  have cG := goodref_any (N : Int) A zs.length c
  rw [show good (N : Int) zs.length = true by simp [good, hl]; omega] at cG
  have HL := Lib.hid hl
  clear hl hr
  unfold matV at *
  go_enter Try.func75, Try.ntmps75
  go_wp2_with (first
    | (go_at_call 124; refine (cG _).mono ?_; rintro e w1 ⟨rfl, hb1⟩; have HK1 := Lib.hid (HK.out.below hb1 HK.out.lt); have HJ1 := Lib.hid (HJ.out.below hb1 HJ.out.lt); have HB1 := Lib.hid (onward HB0.out (Nat.le_refl _) hb1); have x0 := HJ1.out.cell 0; simp only [List.getElem?_toArray, List.getElem?_cons_zero] at x0; clear hb1))
  have T1 : Hid (Blk (w1.alloc (.cells #[.int .i64 (N : Int), .slice none 0 0] 105)) w.heap.size 105 #[.int .i64 (N : Int), .slice A zs.length c]) := Lib.hid (HJ1.out.alloc _)
  have T2 : Hid (Blk (w1.alloc (.cells #[.int .i64 (N : Int), .slice none 0 0] 105)) (w.heap.size + 1) 105 #[.int .i64 0, .slice none 0 0]) := Lib.hid (HK1.out.alloc _)
  have T4 : Hid (Blk (w1.alloc (.cells #[.int .i64 (N : Int), .slice none 0 0] 105)) w1.heap.size 105 #[.int .i64 (N : Int), .slice none 0 0]) := Lib.hid (Blk.new rfl)
  have T6 : Hid (Below w.heap.size w (w1.alloc (.cells #[.int .i64 (N : Int), .slice none 0 0] 105))) := Lib.hid (HB1.out.alloc HB1.out.size _)
  have n4 : w.heap.size + 1 < w1.heap.size := HK1.out.lt
  have n5 : w1.heap.size + 1 ≤ (w1.alloc (.cells #[.int .i64 (N : Int), .slice none 0 0] 105)).heap.size := by simp
  generalize (w1.alloc (.cells #[.int .i64 (N : Int), .slice none 0 0] 105)) = w3 at *
  generalize w1.heap.size = g4 at *
  clear x0 HB1 HJ1 HK1 cG HJ HK HB0
  obtain ⟨m, hm⟩ : ∃ m, N * N = m := ⟨_, rfl⟩
  have HM := Lib.hid hm
  rw [hm] at hsq
  have em : IntKind.i64.wrap ((N : Int) * (N : Int)) = (m : Int) := by rw [← Int.natCast_mul, hm]; exact IntWalk.i64_in (m : Int) (by omega)
  clear hm
  go_loopw [5] (fun si wr => ∃ k : Nat, k ≤ m ∧ si = .int .i64 (k : Int) ∧ TurnR w wr N m c g4 A zs k) (fun si _ => m - (intOf si).toNat)
  case atStart => exact ⟨0, by omega, rfl, none, 0, T1.out, T2.out, T4.out, World.ownsRow_nil _ _ _ _, T6.out, n5⟩
  case round =>
    clear T1 T2 T4 T6
    obtain ⟨k, hk, rfl, A', c', t1, t2, t4, own, hb, n5⟩ := hrel
    have H1 := Lib.hid t1
    have H2 := Lib.hid t2
    have H4 := Lib.hid t4
    have HO := Lib.hid own
    have HB := Lib.hid hb
    have y0 := t1.cell 0
    simp only [List.getElem?_toArray, List.getElem?_cons_zero] at y0
    clear t1 t2 t4 own hb
    by_cases hlt : k < m
    · go_wp2_with fail
      obtain ⟨r, hr⟩ : ∃ r, k % N = r := ⟨_, rfl⟩
      obtain ⟨d, hd⟩ : ∃ d, k / N = d := ⟨_, rfl⟩
      have hrN : r < N := by rw [← hr]; exact Nat.mod_lt _ hN
      have hdN : d < N := by rw [← hd]; exact Nat.div_lt_of_lt_mul (by have := HM.out; omega)
      obtain ⟨q, hq⟩ : ∃ q, r * N = q := ⟨_, rfl⟩
      have hqd : q + d < m := by have h1 := sq_in hrN hdN; have h2 := HM.out; omega
      obtain ⟨b, o, u, rfl, hbB, hu, hcell⟩ := (HR.out.below (HB.out.mono hB)).at (show q + d < zs.length by have h1 := HL.out; have h2 := HM.out; omega)
      rw [Ms.intsV_at zs (q + d) (by have h1 := HL.out; have h2 := HM.out; omega)] at hu
      obtain rfl := Option.some.inj hu
      have HZ := Lib.hid (show zs[q + d]'(by have h1 := HL.out; have h2 := HM.out; omega) = turnF zs N k by unfold turnF; rw [hr, hd, hq]; simp [List.getD, show q + d < zs.length by have h1 := HL.out; have h2 := HM.out; omega])
      generalize zs[q + d]'_ = z at *
      clear hu
      have HLM := Lib.hid (HL.out.trans HM.out)
      have d1 : (k : Int).tmod (N : Int) = (r : Int) := by rw [← hr]; rfl
      have d2 : IntKind.i64.wrap ((k : Int).tdiv (N : Int)) = (d : Int) := by rw [← hd]; exact IntWalk.i64_in ((k / N : Nat) : Int) (by rw [hd]; omega)
      have d3 : (k : Int) % (N : Int) = (r : Int) := by rw [← hr]; rfl
      have d4 : (k : Int) / (N : Int) = (d : Int) := by rw [← hd]; rfl
      have d5 : IntKind.i64.wrap (d : Int) = (d : Int) := IntWalk.i64_in (d : Int) (by omega)
      have d6 : IntKind.i64.wrap (r : Int) = (r : Int) := IntWalk.i64_in (r : Int) (by omega)
      have d7 : ¬ (N = 0) := by omega
      have e1 : IntKind.i64.wrap ((r : Int) * (N : Int)) = (q : Int) := by rw [← Int.natCast_mul, hq]; exact IntWalk.i64_in (q : Int) (by omega)
      have hzl : (q : Int) + (d : Int) < (zs.length : Int) := by have := HLM.out; omega
      have hz0 : (0 : Int) ≤ (q : Int) + (d : Int) := by omega
      have hzt : ((q : Int) + (d : Int)).toNat = q + d := by omega
      have e2 : IntKind.i64.wrap ((q : Int) + (d : Int)) = (q : Int) + (d : Int) := IntWalk.i64_in ((q : Int) + (d : Int)) (by omega)
      have HS : wr.drew.cell? ⟨g4, 1, none⟩ = some (.slice A' k c') ∧ wr.drew.cell? ⟨w.heap.size, 0, none⟩ = some (.int .i64 (N : Int)) ∧ wr.drew.cell? ⟨w.heap.size, 1, none⟩ = some (.slice (some ⟨b, o, none⟩) zs.length c) ∧ wr.drew.cell? ⟨b, o + (q + d), none⟩ = some (.int .i64 z) := ⟨H4.out.cell 1, H1.out.cell 0, H1.out.cell 1, hcell⟩
      have HC := Lib.hid hcell
      have hbw : b < wr.heap.size := by have := HB.out.size; omega
      clear hcell hq hr hd y0
      refine wp_region_noPanic ?_
      refine Rg.beginR [1, 3, 6, 9, 13, 17] (fun w' => w'.cell? ⟨g4, 1, none⟩ = some (.slice A' k c') ∧ w'.cell? ⟨w.heap.size, 0, none⟩ = some (.int .i64 (N : Int)) ∧ w'.cell? ⟨w.heap.size, 1, none⟩ = some (.slice (some ⟨b, o, none⟩) zs.length c) ∧ w'.cell? ⟨b, o + (q + d), none⟩ = some (.int .i64 z)) (by kernel_rfl) ?_
      refine Rg.takeP (i := 0) (oi := { dst := some 22, op := Op.fieldAddr 105 (Operand.tmp 4) 1, type := 0, pos := "number.go:243", after := #[], guard := none }) (v := ?_) rfl (by kernel_rfl) (fun _ _ _ h => h) (by rfl) ?_ ?_
      rotate_left 1
      · (intro w; go_simp; (try with_reducible rfl))
      try simp only [Act.put, List.setIfInBounds_toArray, List.set_cons_zero, List.set_cons_succ]
      refine Rg.takeS (i := 1) (oi := { dst := some 23, op := Op.load 35 (Operand.tmp 22), type := 35, pos := "number.go:243", after := #[{ on := 0, ground := Ground.data }], guard := none }) (v := ?_) rfl (by kernel_rfl) (fun _ _ _ h => h) (by rfl) HS ?_ ?_
      rotate_left 1
      · (intro w hSw; (try dsimp only at hSw); (try go_split_ands); go_simp; (try with_reducible rfl))
      try simp only [Act.put, List.setIfInBounds_toArray, List.set_cons_zero, List.set_cons_succ]
      refine Rg.takeP (i := 2) (oi := { dst := some 24, op := Op.fieldAddr 105 (Operand.tmp 1) 1, type := 0, pos := "number.go:243", after := #[], guard := none }) (v := ?_) rfl (by kernel_rfl) (fun _ _ _ h => h) (by rfl) ?_ ?_
      rotate_left 1
      · (intro w; go_simp; (try with_reducible rfl))
      try simp only [Act.put, List.setIfInBounds_toArray, List.set_cons_zero, List.set_cons_succ]
      refine Rg.takeS (i := 3) (oi := { dst := some 25, op := Op.load 35 (Operand.tmp 24), type := 35, pos := "number.go:243", after := #[{ on := 2, ground := Ground.data }], guard := none }) (v := ?_) rfl (by kernel_rfl) (fun _ _ _ h => h) (by rfl) HS ?_ ?_
      rotate_left 1
      · (intro w hSw; (try dsimp only at hSw); (try go_split_ands); go_simp; (try with_reducible rfl))
      try simp only [Act.put, List.setIfInBounds_toArray, List.set_cons_zero, List.set_cons_succ]
      refine Rg.takeP (i := 4) (oi := { dst := some 26, op := Op.move (Operand.tmp 5), type := 3, pos := "number.go:243", after := #[], guard := none }) (v := ?_) rfl (by kernel_rfl) (fun _ _ _ h => h) (by rfl) ?_ ?_
      rotate_left 1
      · (intro w; go_simp; (try with_reducible rfl))
      try simp only [Act.put, List.setIfInBounds_toArray, List.set_cons_zero, List.set_cons_succ]
      refine Rg.takeP (i := 5) (oi := { dst := some 27, op := Op.fieldAddr 105 (Operand.tmp 1) 0, type := 0, pos := "number.go:243", after := #[], guard := none }) (v := ?_) rfl (by kernel_rfl) (fun _ _ _ h => h) (by rfl) ?_ ?_
      rotate_left 1
      · (intro w; go_simp; (try with_reducible rfl))
      try simp only [Act.put, List.setIfInBounds_toArray, List.set_cons_zero, List.set_cons_succ]
      refine Rg.takeS (i := 6) (oi := { dst := some 28, op := Op.load 3 (Operand.tmp 27), type := 3, pos := "number.go:243", after := #[{ on := 5, ground := Ground.data }], guard := none }) (v := ?_) rfl (by kernel_rfl) (fun _ _ _ h => h) (by rfl) HS ?_ ?_
      rotate_left 1
      · (intro w hSw; (try dsimp only at hSw); (try go_split_ands); go_simp; (try with_reducible rfl))
      try simp only [Act.put, List.setIfInBounds_toArray, List.set_cons_zero, List.set_cons_succ]
      refine Rg.takeP (i := 7) (oi := { dst := some 29, op := Op.binOp BinOp.rem 3 (Operand.tmp 26) (Operand.tmp 28) 3, type := 3, pos := "number.go:243", after := #[{ on := 4, ground := Ground.data }, { on := 6, ground := Ground.data }], guard := none }) (v := ?_) rfl (by kernel_rfl) (fun _ _ _ h => h) (by rfl) ?_ ?_
      rotate_left 1
      · (intro w; go_simp; (try with_reducible rfl))
      try simp only [Act.put, List.setIfInBounds_toArray, List.set_cons_zero, List.set_cons_succ]
      refine Rg.takeP (i := 8) (oi := { dst := some 30, op := Op.fieldAddr 105 (Operand.tmp 1) 0, type := 0, pos := "number.go:243", after := #[], guard := none }) (v := ?_) rfl (by kernel_rfl) (fun _ _ _ h => h) (by rfl) ?_ ?_
      rotate_left 1
      · (intro w; go_simp; (try with_reducible rfl))
      try simp only [Act.put, List.setIfInBounds_toArray, List.set_cons_zero, List.set_cons_succ]
      refine Rg.takeS (i := 9) (oi := { dst := some 31, op := Op.load 3 (Operand.tmp 30), type := 3, pos := "number.go:243", after := #[{ on := 8, ground := Ground.data }], guard := none }) (v := ?_) rfl (by kernel_rfl) (fun _ _ _ h => h) (by rfl) HS ?_ ?_
      rotate_left 1
      · (intro w hSw; (try dsimp only at hSw); (try go_split_ands); go_simp; (try with_reducible rfl))
      try simp only [Act.put, List.setIfInBounds_toArray, List.set_cons_zero, List.set_cons_succ]
      refine Rg.takeP (i := 10) (oi := { dst := some 32, op := Op.binOp BinOp.mul 3 (Operand.tmp 29) (Operand.tmp 31) 3, type := 3, pos := "number.go:243", after := #[{ on := 7, ground := Ground.data }, { on := 9, ground := Ground.data }], guard := none }) (v := ?_) rfl (by kernel_rfl) (fun _ _ _ h => h) (by rfl) ?_ ?_
      rotate_left 1
      · (intro w; go_simp; (try with_reducible rfl))
      try simp only [Act.put, List.setIfInBounds_toArray, List.set_cons_zero, List.set_cons_succ]
      refine Rg.takeP (i := 11) (oi := { dst := some 33, op := Op.move (Operand.tmp 5), type := 3, pos := "number.go:243", after := #[], guard := none }) (v := ?_) rfl (by kernel_rfl) (fun _ _ _ h => h) (by rfl) ?_ ?_
      rotate_left 1
      · (intro w; go_simp; (try with_reducible rfl))
      try simp only [Act.put, List.setIfInBounds_toArray, List.set_cons_zero, List.set_cons_succ]
      refine Rg.takeP (i := 12) (oi := { dst := some 34, op := Op.fieldAddr 105 (Operand.tmp 1) 0, type := 0, pos := "number.go:243", after := #[], guard := none }) (v := ?_) rfl (by kernel_rfl) (fun _ _ _ h => h) (by rfl) ?_ ?_
      rotate_left 1
      · (intro w; go_simp; (try with_reducible rfl))
      try simp only [Act.put, List.setIfInBounds_toArray, List.set_cons_zero, List.set_cons_succ]
      refine Rg.takeS (i := 13) (oi := { dst := some 35, op := Op.load 3 (Operand.tmp 34), type := 3, pos := "number.go:243", after := #[{ on := 12, ground := Ground.data }], guard := none }) (v := ?_) rfl (by kernel_rfl) (fun _ _ _ h => h) (by rfl) HS ?_ ?_
      rotate_left 1
      · (intro w hSw; (try dsimp only at hSw); (try go_split_ands); go_simp; (try with_reducible rfl))
      try simp only [Act.put, List.setIfInBounds_toArray, List.set_cons_zero, List.set_cons_succ]
      refine Rg.takeP (i := 14) (oi := { dst := some 36, op := Op.binOp BinOp.quo 3 (Operand.tmp 33) (Operand.tmp 35) 3, type := 3, pos := "number.go:243", after := #[{ on := 11, ground := Ground.data }, { on := 13, ground := Ground.data }], guard := none }) (v := ?_) rfl (by kernel_rfl) (fun _ _ _ h => h) (by rfl) ?_ ?_
      rotate_left 1
      · (intro w; go_simp; (try with_reducible rfl))
      try simp only [Act.put, List.setIfInBounds_toArray, List.set_cons_zero, List.set_cons_succ]
      refine Rg.takeP (i := 15) (oi := { dst := some 37, op := Op.binOp BinOp.add 3 (Operand.tmp 32) (Operand.tmp 36) 3, type := 3, pos := "number.go:243", after := #[{ on := 10, ground := Ground.data }, { on := 14, ground := Ground.data }], guard := none }) (v := ?_) rfl (by kernel_rfl) (fun _ _ _ h => h) (by rfl) ?_ ?_
      rotate_left 1
      · (intro w; go_simp; (try with_reducible rfl))
      try simp only [Act.put, List.setIfInBounds_toArray, List.set_cons_zero, List.set_cons_succ]
      refine Rg.takeP (i := 16) (oi := { dst := some 38, op := Op.indexAddr 35 (Operand.tmp 25) (Operand.tmp 37), type := 0, pos := "number.go:243", after := #[{ on := 3, ground := Ground.data }, { on := 15, ground := Ground.data }], guard := none }) (v := ?_) rfl (by kernel_rfl) (fun _ _ _ h => h) (by rfl) ?_ ?_
      rotate_left 1
      · (intro w; go_simp; (try with_reducible rfl))
      try simp only [Act.put, List.setIfInBounds_toArray, List.set_cons_zero, List.set_cons_succ]
      refine Rg.takeS (i := 17) (oi := { dst := some 39, op := Op.load 3 (Operand.tmp 38), type := 3, pos := "number.go:243", after := #[{ on := 16, ground := Ground.data }], guard := none }) (v := ?_) rfl (by kernel_rfl) (fun _ _ _ h => h) (by rfl) HS ?_ ?_
      rotate_left 1
      · (intro w hSw; (try dsimp only at hSw); (try go_split_ands); go_simp; (try with_reducible rfl))
      try simp only [Act.put, List.setIfInBounds_toArray, List.set_cons_zero, List.set_cons_succ]
      refine Rg.oneR (i := 18) (oi := { dst := some 40, op := Op.buildSlice 35 1 #[(0, Operand.tmp 39)], type := 35, pos := "number.go:243", after := #[{ on := 17, ground := Ground.data }], guard := none }) rfl (by kernel_rfl) ?_
      refine Rg.stepS ?_
      intro K hK
      go_simp
      have HS : (wr.alloc (.cells #[.int .i64 z] 3)).drew.cell? ⟨g4, 1, none⟩ = some (.slice A' k c') ∧ (wr.alloc (.cells #[.int .i64 z] 3)).drew.cell? ⟨w.heap.size, 0, none⟩ = some (.int .i64 (N : Int)) ∧ (wr.alloc (.cells #[.int .i64 z] 3)).drew.cell? ⟨w.heap.size, 1, none⟩ = some (.slice (some ⟨b, o, none⟩) zs.length c) ∧ (wr.alloc (.cells #[.int .i64 z] 3)).drew.cell? ⟨b, o + (q + d), none⟩ = some (.int .i64 z) := ⟨(H4.out.alloc _).cell 1, (H1.out.alloc _).cell 0, (H1.out.alloc _).cell 1, (World.cell?_alloc_lt wr _ ⟨b, o + (q + d), none⟩ hbw).trans HC.out⟩
      refine hK.out _ _ HS ?_
      clear hK K
      try simp only [Act.put, List.setIfInBounds_toArray, List.set_cons_zero, List.set_cons_succ]
      refine Rg.oneR (i := 19) (oi := { dst := some 41, op := Op.call { callee := Callee.builtin Builtin.append, args := #[Operand.tmp 23, Operand.tmp 40], argTypes := #[35, 35] }, type := 35, pos := "number.go:243", after := #[{ on := 1, ground := Ground.data }, { on := 18, ground := Ground.data }], guard := none }) rfl (by kernel_rfl) ?_
      refine Rg.stepF ?_ ?_
      · kernel_rfl
      intro K hK
      rw [if_pos (by rfl)]
      refine wp_append_rd _ (.tmp 23) (.tmp 40) 35 rfl elemInts rfl (HO.out.drew.alloc _) rfl (by simp) (Mats.Rd.one _ _ _) (by simp [Value.oneCell']) (by unfold maxLen; omega) (by omega) (by simp; omega) ?_
      intro A2 c2 w4 hA2 hown2 hg2
      have H44 := Lib.hid (((H4.out.alloc _).drew).grown hg2 (fun e => by have := (HO.out.lt _ e.symm).1; omega))
      have H14 := Lib.hid (((H1.out.alloc _).drew).grown hg2 (fun e => by have := (HO.out.lt _ e.symm).1; omega))
      have H24 := Lib.hid (((H2.out.alloc _).drew).grown hg2 (fun e => by have := (HO.out.lt _ e.symm).1; omega))
      have HB4 := Lib.hid (Below.grown ((HB.out.alloc HB.out.size (.cells #[.int .i64 z] 3)).drew) hg2 (by have := HB.out.size; simp; omega) (fun g e => by have := (HO.out.lt g e).1; omega))
      have v4 := H44.out.cell 1
      have f4 := H44.out.thaw 1
      have n6 : g4 + 1 ≤ w4.heap.size := H44.out.lt
      simp only [List.getElem?_toArray, List.getElem?_cons_zero, List.getElem?_cons_succ] at v4
      have HO4 := Lib.hid hown2
      clear hown2 hg2
      refine hK.out _ _ ?_
      clear hK K
      try simp only [Act.put, List.setIfInBounds_toArray, List.set_cons_zero, List.set_cons_succ]
      refine Rg.takeP (i := 20) (oi := { dst := some 42, op := Op.fieldAddr 105 (Operand.tmp 4) 1, type := 0, pos := "number.go:243", after := #[{ on := 0, ground := Ground.phase }, { on := 1, ground := Ground.phase }, { on := 2, ground := Ground.phase }, { on := 3, ground := Ground.phase }, { on := 4, ground := Ground.phase }, { on := 5, ground := Ground.phase }, { on := 6, ground := Ground.phase }, { on := 7, ground := Ground.phase }, { on := 8, ground := Ground.phase }, { on := 9, ground := Ground.phase }, { on := 10, ground := Ground.phase }, { on := 11, ground := Ground.phase }, { on := 12, ground := Ground.phase }, { on := 13, ground := Ground.phase }, { on := 14, ground := Ground.phase }, { on := 15, ground := Ground.phase }, { on := 16, ground := Ground.phase }, { on := 17, ground := Ground.phase }, { on := 18, ground := Ground.phase }, { on := 19, ground := Ground.phase }], guard := none }) (v := ?_) rfl (by kernel_rfl) (fun _ _ _ h => h) (by rfl) ?_ ?_
      rotate_left 1
      · (intro w; go_simp; (try with_reducible rfl))
      try simp only [Act.put, List.setIfInBounds_toArray, List.set_cons_zero, List.set_cons_succ]
      refine Rg.oneR (i := 21) (oi := { dst := none, op := Op.store 35 (Operand.tmp 42) (Operand.tmp 41), type := 0, pos := "number.go:243", after := #[{ on := 20, ground := Ground.data }, { on := 19, ground := Ground.data }, { on := 19, ground := Ground.chain }, { on := 0, ground := Ground.phase }, { on := 1, ground := Ground.phase }, { on := 2, ground := Ground.phase }, { on := 3, ground := Ground.phase }, { on := 4, ground := Ground.phase }, { on := 5, ground := Ground.phase }, { on := 6, ground := Ground.phase }, { on := 7, ground := Ground.phase }, { on := 8, ground := Ground.phase }, { on := 9, ground := Ground.phase }, { on := 10, ground := Ground.phase }, { on := 11, ground := Ground.phase }, { on := 12, ground := Ground.phase }, { on := 13, ground := Ground.phase }, { on := 14, ground := Ground.phase }, { on := 15, ground := Ground.phase }, { on := 16, ground := Ground.phase }, { on := 17, ground := Ground.phase }, { on := 18, ground := Ground.phase }, { on := 19, ground := Ground.phase }], guard := none }) rfl (by kernel_rfl) ?_
      refine Rg.stepF ?_ ?_
      · kernel_rfl
      intro K hK
      go_simp
      refine hK.out _ _ ?_
      clear hK K
      try simp only [Act.put, List.setIfInBounds_toArray, List.set_cons_zero, List.set_cons_succ]
      refine Rg.doneR (by kernel_rfl) ?_ _
      refine NoPanic.normal ?_
      go_wp2_with fail
      have hrs : (List.range k).map (fun j => Value.int .i64 (turnF zs N j)) ++ [Value.int .i64 z] = (List.range (k + 1)).map (fun j => Value.int .i64 (turnF zs N j)) := by
        rw [List.range_succ, List.map_append, HZ.out]; rfl
      rw [hrs] at HO4
      refine ⟨⟨k + 1, by omega, by go_num, A2, c2, H14.out.other (by show w.heap.size ≠ g4; omega) _, H24.out.other (by show w.heap.size + 1 ≠ g4; omega) _, H44.out.set 1 _, ownsRow_setCell_below HO4.out (by show g4 < g4 + 1; omega) _, HB4.out.setCell (by show w.heap.size ≤ g4; omega) _, by simpa using n6⟩, by simp [intOf]; omega⟩
    · obtain rfl : m = k := by omega
      clear hlt
      have z0 := H4.out.cell 0
      have z1 := H4.out.cell 1
      have v0 := H2.out.cell 0
      have v1 := H2.out.cell 1
      have f0 := H2.out.thaw 0
      have f1 := H2.out.thaw 1
      simp only [List.getElem?_toArray, List.getElem?_cons_zero, List.getElem?_cons_succ] at z0 z1 v0 v1
      go_wp2_with fail
      refine ret_row2 rfl rfl rfl ((H2.out.set 0 (.int .i64 (N : Int))).set 1 (.slice A' m c')) ⟨by rw [Try.underlying105], by kernel_rfl⟩ rfl ⟨A', c', by rw [HM.out]; rfl, ?_, ?_⟩
      · rw [HM.out]
        exact own_weaken (ownsRow_setCell_below (ownsRow_setCell_below HO.out (by show w.heap.size + 1 < _; omega) _) (by show w.heap.size + 1 < _; omega) _) (by omega)
      · exact (HB.out.setCell (by show _ ≤ w.heap.size + 1; omega) _).setCell (by show _ ≤ w.heap.size + 1; omega) _
end Go.Proofs.Ytfaielkkecphbaa.Mats
