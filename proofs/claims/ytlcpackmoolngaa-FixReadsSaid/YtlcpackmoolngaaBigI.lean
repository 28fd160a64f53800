/- fourwatchbig.Int: where a number lies, give, SetInt64, NewInt. -/
import Derived.Test.YtlcpackmoolngaaBigB
namespace Go.Proofs.Ytlcpackmoolngaa.BigW
open Go.RowKit Go.Proofs.Ytlcpackmoolngaa.Mem Go.Proofs.Ytlcpackmoolngaa.BigLaw
set_option linter.unusedVariables false

/-- an Int's block, whatever it holds -/
def IsInt (w : World) (p : Nat) : Prop := ∃ s A n c, Blk w p 63 #[.bool s, .slice A n c]
/-- an Int's block that holds the number z -/
def BigAt (w : World) (p : Nat) (z : Int) : Prop := ∃ A c l, Blk w p 63 #[.bool (decide (z < 0)), .slice A l.length c] ∧ Wd w w.heap.size A c l ∧ trimd l ∧ val l = z.natAbs

theorem BigAt.isInt {w : World} {p : Nat} {z : Int} (h : BigAt w p z) : IsInt w p := by
  obtain ⟨A, c, l, h, _⟩ := h
  exact ⟨_, _, _, _, h⟩
theorem IsInt.lt {w : World} {p : Nat} (h : IsInt w p) : p < w.heap.size := by obtain ⟨_, _, _, _, h⟩ := h; exact h.lt
theorem BigAt.lt {w : World} {p : Nat} {z : Int} (h : BigAt w p z) : p < w.heap.size := h.isInt.lt
theorem IsInt.grown {w w' : World} {p : Nat} {row : Option Nat} (h : IsInt w p) (hg : w.grownBy w' row) (hp : some p ≠ row) : IsInt w' p := by
  obtain ⟨s, A, n, c, h⟩ := h
  exact ⟨s, A, n, c, h.grown hg hp⟩
theorem IsInt.below {w w' : World} {p : Nat} {B : Nat} (h : IsInt w p) (hb : Below B w w') (hp : p < B) : IsInt w' p := by
  obtain ⟨s, A, n, c, h⟩ := h
  exact ⟨s, A, n, c, h.below hb hp⟩
theorem IsInt.cell {w : World} {p : Nat} (h : IsInt w p) (i : Nat) (z : Int) : w.cell? ⟨p, i, none⟩ ≠ some (.int .u32 z) := by
  obtain ⟨s, A, n, c, h⟩ := h
  rw [h.cell]
  match i with
  | 0 => simp
  | 1 => simp
  | i + 2 => simp

/-- words and an Int's block don't touch -/
theorem Wd.grown {w w' : World} {B : Nat} {A : Option Addr} {c : Nat} {l : List Nat} {p : Nat} (h : Wd w B A c l) (hB : B ≤ w.heap.size) (hi : IsInt w p) (hg : w.grownBy w' (some p)) : Wd w' B A c l := by
  refine ⟨h.len, h.cap, h.none_, ⟨h.rd.1, fun hp => ?_⟩, h.small⟩
  obtain ⟨b, o, e, hb, hc⟩ := h.rd.2 hp
  refine ⟨b, o, e, hb, fun j u hu => ?_⟩
  rw [← hc j u hu]
  refine World.cell?_of_block (hg.block b (by omega) ?_)
  intro e2
  injection e2 with e2
  subst e2
  have h0 := hc 0 _ (wordsV_at hp)
  exact hi.cell _ _ h0

theorem BigAt.grown {w w' : World} {p q : Nat} {z : Int} (h : BigAt w p z) (hi : IsInt w q) (hg : w.grownBy w' (some q)) (hp : p ≠ q) : BigAt w' p z := by
  obtain ⟨A, c, l, h1, h2, h3⟩ := h
  exact ⟨A, c, l, h1.grown hg (fun e => hp (by injection e)), (h2.grown (Nat.le_refl _) hi hg).more hg.size, h3⟩
theorem BigAt.below {w w' : World} {p : Nat} {z : Int} (h : BigAt w p z) (hb : Below w.heap.size w w') : BigAt w' p z := by
  obtain ⟨A, c, l, h1, h2, h3⟩ := h
  exact ⟨A, c, l, h1.below hb h1.lt, (h2.below hb).more hb.size, h3⟩
theorem BigAt.alloc {w : World} {p : Nat} {z : Int} (h : BigAt w p z) (o : Obj) : BigAt (w.alloc o) p z := h.below ((Below.refl _ _).alloc (Nat.le_refl _) _)
theorem grown_setCell (w : World) (p i : Nat) (u : Value) : w.grownBy (w.setCell ⟨p, i, none⟩ u) (some p) :=
  have hb : Below p w (w.setCell ⟨p, i, none⟩ u) := (Below.refl p w).setCell (Nat.le_refl _) u
  ⟨hb.os, hb.tape, hb.output, hb.size, fun k hk hne => Below.heap_setCell w ⟨p, i, none⟩ u k (fun e => hne (by rw [e]))⟩

theorem below_grown {B : Nat} {a w w' : World} {row : Option Nat} (h : Below B a w) (hB : B ≤ a.heap.size) (hg : w.grownBy w' row) (hr : ∀ g, row = some g → B ≤ g) : Below B a w' := by
  refine ⟨hg.os.trans h.os, hg.tape.trans h.tape, hg.output.trans h.output, Nat.le_trans h.size hg.size, fun g hgB => ?_⟩
  rw [hg.block g (by have := h.size; omega) (fun e => by have := hr g e.symm; omega)]
  exact h.block g hgB
theorem grown_below {a w w' : World} {row : Option Nat} (h : a.grownBy w row) (hb : Below w.heap.size w w') : a.grownBy w' row := by
  refine ⟨hb.os.trans h.os, hb.tape.trans h.tape, hb.output.trans h.output, Nat.le_trans h.size hb.size, fun g hgB hne => ?_⟩
  rw [hb.block g (by have := h.size; omega)]
  exact h.block g hgB hne
theorem grown_of_below {w w' : World} {row : Option Nat} (hb : Below w.heap.size w w') : w.grownBy w' row := ⟨hb.os, hb.tape, hb.output, hb.size, fun g hg _ => hb.block g hg⟩

theorem give_any (p : Nat) (s : Bool) (A : Option Addr) (n c : Nat) (w : World) (h : IsInt w p) :
    Calls Try.prog 56 #[.pointer (some ⟨p, 0, none⟩), .bool s, .slice A n c] w fun e w' => e = .returned (.pointer (some ⟨p, 0, none⟩)) ∧ Blk w' p 63 #[.bool (s && decide (0 < n)), .slice A n c] ∧ w.grownBy w' (some p) := by
  obtain ⟨s0, A0, n0, c0, h⟩ := h
  have c0 := h.cell 0
  have c1 := h.cell 1
  have f0 := h.thaw 0
  have f1 := h.thaw 1
  simp only [List.getElem?_toArray, List.getElem?_cons_zero, List.getElem?_cons_succ] at c0 c1
  have HB := Lib.hid h
  clear h
  by_cases hs : s = true
  · subst hs
    by_cases hn : 0 < n
    · have hn' : (0 : Int) < (n : Int) := by omega
      have HN := Lib.hid hn
      clear hn
      go_enter Try.func56, Try.ntmps56
      go_wp2_with fail
      go_ret
      refine ⟨rfl, ?_, (grown_setCell _ _ _ _).trans (grown_setCell _ _ _ _)⟩
      have := (HB.out.set 1 (.slice A n c)).set 0 (.bool true)
      simpa [HN.out] using this
    · obtain rfl : n = 0 := by omega
      clear hn
      go_enter Try.func56, Try.ntmps56
      go_wp2_with fail
      go_ret
      refine ⟨rfl, ?_, (grown_setCell _ _ _ _).trans (grown_setCell _ _ _ _)⟩
      have := (HB.out.set 1 (.slice A 0 c)).set 0 (.bool false)
      simpa using this
  · obtain rfl : s = false := by simpa using hs
    clear hs
    go_enter Try.func56, Try.ntmps56
    go_wp2_with fail
    go_ret
    refine ⟨rfl, ?_, (grown_setCell _ _ _ _).trans (grown_setCell _ _ _ _)⟩
    have := (HB.out.set 1 (.slice A n c)).set 0 (.bool false)
    simpa using this

/-- give, of words that are a number's -/
theorem give_big (p : Nat) (s : Bool) (A : Option Addr) (l : List Nat) (c : Nat) (w : World) (z : Int) (h : IsInt w p) (hw : Wd w w.heap.size A c l) (ht : trimd l) (hv : val l = z.natAbs) (hs : (s && decide (0 < l.length)) = decide (z < 0)) :
    Calls Try.prog 56 #[.pointer (some ⟨p, 0, none⟩), .bool s, .slice A l.length c] w fun e w' => e = .returned (.pointer (some ⟨p, 0, none⟩)) ∧ BigAt w' p z ∧ w.grownBy w' (some p) := by
  refine (give_any p s A l.length c w h).mono ?_
  rintro e w' ⟨rfl, hb, hg⟩
  rw [hs] at hb
  exact ⟨rfl, ⟨A, c, l, hb, (hw.grown (Nat.le_refl _) h hg).more hg.size, ht, hv⟩, hg⟩

theorem sign_of {l : List Nat} {z : Int} (ht : trimd l) (hv : val l = z.natAbs) (s : Bool) (hs : z ≠ 0 → s = decide (z < 0)) : (s && decide (0 < l.length)) = decide (z < 0) := by
  by_cases h0 : z = 0
  · subst h0
    rw [(val_zero ht).1 (by simpa using hv)]
    simp
  · rw [← hs h0]
    have : 0 < l.length := by
      rcases Nat.eq_zero_or_pos l.length with h | h
      · rw [List.eq_nil_of_length_eq_zero h, val_nil] at hv; omega
      · exact h
    simp [this]

theorem set64_any (p : Nat) (x : Int) (w : World) (hx : -9223372036854775808 ≤ x ∧ x ≤ 9223372036854775807) (h : IsInt w p) :
    Calls Try.prog 59 #[.pointer (some ⟨p, 0, none⟩), .int .i64 x] w fun e w' => e = .returned (.pointer (some ⟨p, 0, none⟩)) ∧ BigAt w' p x ∧ w.grownBy w' (some p) := by
  obtain ⟨hx0, hx1⟩ := hx
  have HI := Lib.hid h
  clear h
  by_cases hn : x < 0
  · obtain ⟨m, hm⟩ : ∃ m : Nat, -x = (m : Int) := ⟨(-x).toNat, by omega⟩
    have e2 : IntKind.u64.wrap (-IntKind.u64.wrap x) = (m : Int) := by rw [u64wrap, u64wrap]; omega
    go_enter Try.func59, Try.ntmps59
    go_wp2_with fail
    refine (words_any m (by omega) w).mono ?_
    rintro e w1 ⟨A, c, l, rfl, hw, ht, hv, hb⟩
    have HW := Lib.hid hw
    have HT := Lib.hid ht
    have HV := Lib.hid (show val l = x.natAbs by omega)
    clear hw ht hv
    go_wp2_with fail
    refine (give_big p true A l c w1 x (HI.out.below hb HI.out.lt) HW.out HT.out HV.out (sign_of HT.out HV.out true (fun _ => by simp [hn]))).mono ?_
    rintro e w2 ⟨rfl, hz, hg⟩
    have HZ := Lib.hid hz
    clear hz
    go_wp2_with fail
    go_ret
    exact ⟨rfl, HZ.out, (grown_of_below hb).trans hg⟩
  · obtain ⟨m, rfl⟩ := Int.eq_ofNat_of_zero_le (show 0 ≤ x by omega)
    go_enter Try.func59, Try.ntmps59
    go_wp2_with fail
    refine (words_any m (by omega) w).mono ?_
    rintro e w1 ⟨A, c, l, rfl, hw, ht, hv, hb⟩
    have HW := Lib.hid hw
    have HT := Lib.hid ht
    have HV := Lib.hid (show val l = ((m : Nat) : Int).natAbs by omega)
    clear hw ht hv
    go_wp2_with fail
    refine (give_big p false A l c w1 (m : Int) (HI.out.below hb HI.out.lt) HW.out HT.out HV.out (sign_of HT.out HV.out false (fun _ => by simp))).mono ?_
    rintro e w2 ⟨rfl, hz, hg⟩
    have HZ := Lib.hid hz
    clear hz
    go_wp2_with fail
    go_ret
    exact ⟨rfl, HZ.out, (grown_of_below hb).trans hg⟩

theorem isInt_new (w : World) : IsInt (w.alloc (.cells #[.bool false, .slice none 0 0] 63)) w.heap.size := ⟨false, none, 0, 0, Blk.new rfl⟩
theorem bigAt_new (w : World) : BigAt (w.alloc (.cells #[.bool false, .slice none 0 0] 63)) w.heap.size 0 := ⟨none, 0, [], Blk.new rfl, Wd.nil _ _, fun h => by simp at h, rfl⟩

/-- a fresh number -/
def NewBig (w w' : World) (x : Int) (e : Ending) : Prop := ∃ p, e = .returned (.pointer (some ⟨p, 0, none⟩)) ∧ w.heap.size ≤ p ∧ BigAt w' p x ∧ Below w.heap.size w w'

theorem newInt_any (x : Int) (w : World) (hx : -9223372036854775808 ≤ x ∧ x ≤ 9223372036854775807) :
    Calls Try.prog 38 #[.int .i64 x] w fun e w' => NewBig w w' x e := by
  have HI := Lib.hid (isInt_new w)
  have HX := Lib.hid hx
  clear hx
  go_enter Try.func38, Try.ntmps38
  go_wp2_with fail
  refine (set64_any w.heap.size x _ HX.out HI.out).mono ?_
  rintro e w1 ⟨rfl, hz, hg⟩
  have HZ := Lib.hid hz
  have HG := Lib.hid hg
  clear hz hg
  go_wp2_with fail
  go_ret
  exact ⟨w.heap.size, rfl, Nat.le_refl _, HZ.out, below_grown ((Below.refl _ _).alloc (Nat.le_refl _) _) (Nat.le_refl _) HG.out (fun g e => by injection e with e; omega)⟩

theorem whole_any (x : Int) (w : World) (hx : -9223372036854775808 ≤ x ∧ x ≤ 9223372036854775807) :
    Calls Try.prog 36 #[.int .i64 x] w fun e w' => NewBig w w' x e := by
  have HX := Lib.hid hx
  obtain ⟨hx0, hx1⟩ := hx
  go_enter Try.func36, Try.ntmps36
  go_wp2_with fail
  refine (newInt_any x w HX.out).mono ?_
  rintro e w1 ⟨p, rfl, hp, hz, hb⟩
  have HZ := Lib.hid hz
  clear hz
  go_wp2_with fail
  go_ret
  exact ⟨p, rfl, hp, HZ.out, hb⟩
end Go.Proofs.Ytlcpackmoolngaa.BigW
