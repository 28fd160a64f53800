import Derived.Test.YtjfllpmiajkenaaGreatPk10
import Derived.Deep.RegionLaw
import Derived.Deep.RegionHeld3
namespace Go.Proofs.YtjfllpmiajkenaaGreat.BigW
open Go.RowKit Go.Proofs.YtjfllpmiajkenaaGreat.Mem Go.Proofs.YtjfllpmiajkenaaGreat.BigLaw
set_option linter.unusedVariables false
def IsInt (w : World) (p : Nat) : Prop := ∃ s A n c, Blk w p 149 #[.bool s, .slice A n c]
def BigAt (w : World) (p : Nat) (z : Int) : Prop := ∃ A c l, Blk w p 149 #[.bool (decide (z < 0)), .slice A l.length c] ∧ Wd w w.heap.size A c l ∧ trimd l ∧ val l = z.natAbs
theorem BigAt.isInt {w : World} {p : Nat} {z : Int} (h : BigAt w p z) : IsInt w p := by
  obtain ⟨A, c, l, h, _⟩ := h
  exact ⟨_, _, _, _, h⟩
theorem IsInt.lt {w : World} {p : Nat} (h : IsInt w p) : p < w.heap.size := by obtain ⟨_, _, _, _, h⟩ := h; exact h.lt
theorem BigAt.lt {w : World} {p : Nat} {z : Int} (h : BigAt w p z) : p < w.heap.size := h.isInt.lt
theorem IsInt.grown {w w' : World} {p : Nat} {row : Option Nat} (h : IsInt w p) (hg : w.grownBy w' row) (hp : some p ≠ row) : IsInt w' p := by
  obtain ⟨s, A, n, c, h⟩ := h
  exact ⟨s, A, n, c, h.grown hg hp⟩
theorem IsInt.below {w w' : World} {p : Nat} {B : Nat} (h : IsInt w p) (hb : Below B w w') (hp : p < B) : IsInt w' p := by
  obtain ⟨s, A, n, c, h⟩ := h
  exact ⟨s, A, n, c, h.below hb hp⟩
theorem IsInt.cell {w : World} {p : Nat} (h : IsInt w p) (i : Nat) (z : Int) : w.cell? ⟨p, i, none⟩ ≠ some (.int .u32 z) := by
  obtain ⟨s, A, n, c, h⟩ := h
  rw [h.cell]
  match i with
  | 0 => simp
  | 1 => simp
  | i + 2 => simp
theorem Wd.grown {w w' : World} {B : Nat} {A : Option Addr} {c : Nat} {l : List Nat} {p : Nat} (h : Wd w B A c l) (hB : B ≤ w.heap.size) (hi : IsInt w p) (hg : w.grownBy w' (some p)) : Wd w' B A c l := by
  refine ⟨h.len, h.cap, h.none_, ⟨h.rd.1, fun hp => ?_⟩, h.small⟩
  obtain ⟨b, o, e, hb, hc⟩ := h.rd.2 hp
  refine ⟨b, o, e, hb, fun j u hu => ?_⟩
  rw [← hc j u hu]
  refine World.cell?_of_block (hg.block b (by omega) ?_)
  intro e2
  injection e2 with e2
  subst e2
  have h0 := hc 0 _ (wordsV_at hp)
  exact hi.cell _ _ h0
theorem BigAt.grown {w w' : World} {p q : Nat} {z : Int} (h : BigAt w p z) (hi : IsInt w q) (hg : w.grownBy w' (some q)) (hp : p ≠ q) : BigAt w' p z := by
  obtain ⟨A, c, l, h1, h2, h3⟩ := h
  exact ⟨A, c, l, h1.grown hg (fun e => hp (by injection e)), (h2.grown (Nat.le_refl _) hi hg).more hg.size, h3⟩
theorem BigAt.below {w w' : World} {p : Nat} {z : Int} (h : BigAt w p z) (hb : Below w.heap.size w w') : BigAt w' p z := by
  obtain ⟨A, c, l, h1, h2, h3⟩ := h
  exact ⟨A, c, l, h1.below hb h1.lt, (h2.below hb).more hb.size, h3⟩
theorem BigAt.alloc {w : World} {p : Nat} {z : Int} (h : BigAt w p z) (o : Obj) : BigAt (w.alloc o) p z := h.below ((Below.refl _ _).alloc (Nat.le_refl _) _)
theorem grown_setCell (w : World) (p i : Nat) (u : Value) : w.grownBy (w.setCell ⟨p, i, none⟩ u) (some p) :=
  have hb : Below p w (w.setCell ⟨p, i, none⟩ u) := (Below.refl p w).setCell (Nat.le_refl _) u
  ⟨hb.os, hb.tape, hb.output, hb.size, fun k hk hne => Below.heap_setCell w ⟨p, i, none⟩ u k (fun e => hne (by rw [e]))⟩
theorem below_grown {B : Nat} {a w w' : World} {row : Option Nat} (h : Below B a w) (hB : B ≤ a.heap.size) (hg : w.grownBy w' row) (hr : ∀ g, row = some g → B ≤ g) : Below B a w' := by
  refine ⟨hg.os.trans h.os, hg.tape.trans h.tape, hg.output.trans h.output, Nat.le_trans h.size hg.size, fun g hgB => ?_⟩
  rw [hg.block g (by have := h.size; omega) (fun e => by have := hr g e.symm; omega)]
  exact h.block g hgB
theorem grown_of_below {w w' : World} {row : Option Nat} (hb : Below w.heap.size w w') : w.grownBy w' row := ⟨hb.os, hb.tape, hb.output, hb.size, fun g hg _ => hb.block g hg⟩
theorem give_any (p : Nat) (s : Bool) (A : Option Addr) (n c : Nat) (w : World) (h : IsInt w p) :
    Calls Tryz.prog 95 #[.pointer (some ⟨p, 0, none⟩), .bool s, .slice A n c] w fun e w' => e = .returned (.pointer (some ⟨p, 0, none⟩)) ∧ Blk w' p 149 #[.bool (s && decide (0 < n)), .slice A n c] ∧ w.grownBy w' (some p) := by
  obtain ⟨s0, A0, n0, c0, h⟩ := h
  have c0 := h.cell 0
  have c1 := h.cell 1
  have f0 := h.thaw 0
  have f1 := h.thaw 1
  simp only [List.getElem?_toArray, List.getElem?_cons_zero, List.getElem?_cons_succ] at c0 c1
  have HB := Lib.hid h
  clear h
  by_cases hs : s = true
  · subst hs
    by_cases hn : 0 < n
    · have hn' : (0 : Int) < (n : Int) := by omega
      have HN := Lib.hid hn
      clear hn
      go_enter Tryz.func95, Tryz.ntmps95
      go_wp2_with fail
      go_ret
      refine ⟨rfl, ?_, (grown_setCell _ _ _ _).trans (grown_setCell _ _ _ _)⟩
      have := (HB.out.set 1 (.slice A n c)).set 0 (.bool true)
      simpa [HN.out] using this
    · obtain rfl : n = 0 := by omega
      clear hn
      go_enter Tryz.func95, Tryz.ntmps95
      go_wp2_with fail
      go_ret
      refine ⟨rfl, ?_, (grown_setCell _ _ _ _).trans (grown_setCell _ _ _ _)⟩
      have := (HB.out.set 1 (.slice A 0 c)).set 0 (.bool false)
      simpa using this
  · obtain rfl : s = false := by simpa using hs
    clear hs
    go_enter Tryz.func95, Tryz.ntmps95
    go_wp2_with fail
    go_ret
    refine ⟨rfl, ?_, (grown_setCell _ _ _ _).trans (grown_setCell _ _ _ _)⟩
    have := (HB.out.set 1 (.slice A n c)).set 0 (.bool false)
    simpa using this
theorem give_big (p : Nat) (s : Bool) (A : Option Addr) (l : List Nat) (c : Nat) (w : World) (z : Int) (h : IsInt w p) (hw : Wd w w.heap.size A c l) (ht : trimd l) (hv : val l = z.natAbs) (hs : (s && decide (0 < l.length)) = decide (z < 0)) :
    Calls Tryz.prog 95 #[.pointer (some ⟨p, 0, none⟩), .bool s, .slice A l.length c] w fun e w' => e = .returned (.pointer (some ⟨p, 0, none⟩)) ∧ BigAt w' p z ∧ w.grownBy w' (some p) := by
  refine (give_any p s A l.length c w h).mono ?_
  rintro e w' ⟨rfl, hb, hg⟩
  rw [hs] at hb
  exact ⟨rfl, ⟨A, c, l, hb, (hw.grown (Nat.le_refl _) h hg).more hg.size, ht, hv⟩, hg⟩
theorem sign_of {l : List Nat} {z : Int} (ht : trimd l) (hv : val l = z.natAbs) (s : Bool) (hs : z ≠ 0 → s = decide (z < 0)) : (s && decide (0 < l.length)) = decide (z < 0) := by
  by_cases h0 : z = 0
  · subst h0
    rw [(val_zero ht).1 (by simpa using hv)]
    simp
  · rw [← hs h0]
    have : 0 < l.length := by
      rcases Nat.eq_zero_or_pos l.length with h | h
      · rw [List.eq_nil_of_length_eq_zero h, val_nil] at hv; omega
      · exact h
    simp [this]
theorem set64_any (p : Nat) (x : Int) (w : World) (hx : -9223372036854775808 ≤ x ∧ x ≤ 9223372036854775807) (h : IsInt w p) :
    Calls Tryz.prog 128 #[.pointer (some ⟨p, 0, none⟩), .int .i64 x] w fun e w' => e = .returned (.pointer (some ⟨p, 0, none⟩)) ∧ BigAt w' p x ∧ w.grownBy w' (some p) := by
  obtain ⟨hx0, hx1⟩ := hx
  have HI := Lib.hid h
  clear h
  by_cases hn : x < 0
  · obtain ⟨m, hm⟩ : ∃ m : Nat, -x = (m : Int) := ⟨(-x).toNat, by omega⟩
    have e2 : IntKind.u64.wrap (-IntKind.u64.wrap x) = (m : Int) := by rw [u64wrap, u64wrap]; omega
    go_enter Tryz.func128, Tryz.ntmps128
    go_wp2_with fail
    refine (words_any m (by omega) w).mono ?_
    rintro e w1 ⟨A, c, l, rfl, hw, ht, hv, hb⟩
    have HW := Lib.hid hw
    have HT := Lib.hid ht
    have HV := Lib.hid (show val l = x.natAbs by omega)
    clear hw ht hv
    go_wp2_with fail
    refine (give_big p true A l c w1 x (HI.out.below hb HI.out.lt) HW.out HT.out HV.out (sign_of HT.out HV.out true (fun _ => by simp [hn]))).mono ?_
    rintro e w2 ⟨rfl, hz, hg⟩
    have HZ := Lib.hid hz
    clear hz
    go_wp2_with fail
    go_ret
    exact ⟨rfl, HZ.out, (grown_of_below hb).trans hg⟩
  · obtain ⟨m, rfl⟩ := Int.eq_ofNat_of_zero_le (show 0 ≤ x by omega)
    go_enter Tryz.func128, Tryz.ntmps128
    go_wp2_with fail
    refine (words_any m (by omega) w).mono ?_
    rintro e w1 ⟨A, c, l, rfl, hw, ht, hv, hb⟩
    have HW := Lib.hid hw
    have HT := Lib.hid ht
    have HV := Lib.hid (show val l = ((m : Nat) : Int).natAbs by omega)
    clear hw ht hv
    go_wp2_with fail
    refine (give_big p false A l c w1 (m : Int) (HI.out.below hb HI.out.lt) HW.out HT.out HV.out (sign_of HT.out HV.out false (fun _ => by simp))).mono ?_
    rintro e w2 ⟨rfl, hz, hg⟩
    have HZ := Lib.hid hz
    clear hz
    go_wp2_with fail
    go_ret
    exact ⟨rfl, HZ.out, (grown_of_below hb).trans hg⟩
theorem isInt_new (w : World) : IsInt (w.alloc (.cells #[.bool false, .slice none 0 0] 149)) w.heap.size := ⟨false, none, 0, 0, Blk.new rfl⟩
def NewBig (w w' : World) (x : Int) (e : Ending) : Prop := ∃ p, e = .returned (.pointer (some ⟨p, 0, none⟩)) ∧ w.heap.size ≤ p ∧ BigAt w' p x ∧ Below w.heap.size w w'
theorem newInt_any (x : Int) (w : World) (hx : -9223372036854775808 ≤ x ∧ x ≤ 9223372036854775807) :
    Calls Tryz.prog 94 #[.int .i64 x] w fun e w' => NewBig w w' x e := by
  have HI := Lib.hid (isInt_new w)
  have HX := Lib.hid hx
  clear hx
  go_enter Tryz.func94, Tryz.ntmps94
  go_wp2_with fail
  refine (set64_any w.heap.size x _ HX.out HI.out).mono ?_
  rintro e w1 ⟨rfl, hz, hg⟩
  have HZ := Lib.hid hz
  have HG := Lib.hid hg
  clear hz hg
  go_wp2_with fail
  go_ret
  exact ⟨w.heap.size, rfl, Nat.le_refl _, HZ.out, below_grown ((Below.refl _ _).alloc (Nat.le_refl _) _) (Nat.le_refl _) HG.out (fun g e => by injection e with e; omega)⟩
theorem whole_any (x : Int) (w : World) (hx : -9223372036854775808 ≤ x ∧ x ≤ 9223372036854775807) :
    Calls Tryz.prog 63 #[.int .i64 x] w fun e w' => NewBig w w' x e := by
  have HX := Lib.hid hx
  obtain ⟨hx0, hx1⟩ := hx
  go_enter Tryz.func63, Tryz.ntmps63
  go_wp2_with fail
  refine (newInt_any x w HX.out).mono ?_
  rintro e w1 ⟨p, rfl, hp, hz, hb⟩
  have HZ := Lib.hid hz
  clear hz
  go_wp2_with fail
  go_ret
  exact ⟨p, rfl, hp, HZ.out, hb⟩
end Go.Proofs.YtjfllpmiajkenaaGreat.BigW
namespace Go.Proofs.YtjfllpmiajkenaaGreat.BigW
open Go.RowKit Go.Proofs.YtjfllpmiajkenaaGreat.Mem Go.Proofs.YtjfllpmiajkenaaGreat.BigLaw
set_option linter.unusedVariables false
def Sg (s : Bool) (X : Int) : Prop := X ≠ 0 → s = decide (X < 0)
theorem Sg.neg {s : Bool} {X : Int} (h : Sg s X) : Sg (!s) (-X) := fun h0 => by
  rw [h (by omega)]
  by_cases h1 : X < 0
  · simp [h1]; omega
  · simp [h1]; omega
theorem sg_self (X : Int) : Sg (decide (X < 0)) X := fun _ => rfl
theorem sg_cases {s : Bool} {X : Int} (h : Sg s X) : X = 0 ∨ (s = true ∧ X < 0) ∨ (s = false ∧ 0 < X) := by
  by_cases h0 : X = 0
  · exact .inl h0
  · have := h h0
    by_cases h1 : X < 0
    · exact .inr (.inl ⟨by simpa [h1] using this, h1⟩)
    · exact .inr (.inr ⟨by simpa [h1] using this, by omega⟩)
theorem sg_mk {s : Bool} {X : Int} (h : X = 0 ∨ (s = true ∧ X < 0) ∨ (s = false ∧ 0 < X)) : Sg s X := fun h0 => by
  rcases h with h | ⟨rfl, h⟩ | ⟨rfl, h⟩
  · exact absurd h h0
  · simp [h]
  · have : ¬ X < 0 := by omega
    simp [this]
theorem sum_same {xn yn : Bool} {X Y : Int} (hx : Sg xn X) (hy : Sg yn Y) (h : xn = yn) : X.natAbs + Y.natAbs = (X + Y).natAbs ∧ Sg xn (X + Y) := by
  subst h
  rcases sg_cases hx with h1 | ⟨h1, h2⟩ | ⟨h1, h2⟩ <;> rcases sg_cases hy with h3 | ⟨h3, h4⟩ | ⟨h3, h4⟩
  all_goals first
    | (exfalso; rw [h1] at h3; cases h3; done)
    | (refine ⟨by omega, sg_mk ?_⟩; first | (left; omega) | (right; left; exact ⟨by assumption, by omega⟩) | (right; right; exact ⟨by assumption, by omega⟩))
theorem sum_diff {xn yn : Bool} {X Y : Int} (hx : Sg xn X) (hy : Sg yn Y) (h : xn ≠ yn) (hl : Y.natAbs ≤ X.natAbs) : X.natAbs - Y.natAbs = (X + Y).natAbs ∧ Sg xn (X + Y) := by
  rcases sg_cases hx with h1 | ⟨h1, h2⟩ | ⟨h1, h2⟩ <;> rcases sg_cases hy with h3 | ⟨h3, h4⟩ | ⟨h3, h4⟩
  all_goals first
    | (exfalso; exact h (h1.trans h3.symm); done)
    | (refine ⟨by omega, sg_mk ?_⟩; by_cases h0 : X + Y = 0; (exact .inl h0); first | (right; left; exact ⟨by assumption, by omega⟩) | (right; right; exact ⟨by assumption, by omega⟩) | (exfalso; omega))
def SumW (w w' : World) (Z : Int) (e : Ending) : Prop := ∃ s A c l, e = .returned (.tuple #[.bool s, .slice A l.length c]) ∧ Wd w' w'.heap.size A c l ∧ trimd l ∧ val l = Z.natAbs ∧ Sg s Z ∧ Below w.heap.size w w'
theorem sum_any (xn yn : Bool) (A A' : Option Addr) (c c' : Nat) (l l' : List Nat) (X Y : Int) (w : World) (h : Wd w w.heap.size A c l) (h' : Wd w w.heap.size A' c' l') (t : trimd l) (t' : trimd l') (hv : val l = X.natAbs) (hv' : val l' = Y.natAbs) (hx : Sg xn X) (hy : Sg yn Y) (hsz : l.length ≤ 1000000) (hsz' : l'.length ≤ 1000000) :
    Calls Tryz.prog 96 #[.bool xn, .slice A l.length c, .bool yn, .slice A' l'.length c'] w fun e w' => SumW w w' (X + Y) e := by
  have H := Lib.hid h
  have H' := Lib.hid h'
  have T := Lib.hid t
  have T' := Lib.hid t'
  have HV := Lib.hid hv
  have HV' := Lib.hid hv'
  have HX := Lib.hid hx
  have HY := Lib.hid hy
  clear h h' t t' hv hv' hx hy
  by_cases hs : xn = yn
  · have hs2 : (xn == yn) = true := by simp [hs]
    obtain ⟨e1, e2⟩ := sum_same HX.out HY.out hs
    rw [← HV.out, ← HV'.out] at e1
    have E1 := Lib.hid e1
    have E2 := Lib.hid e2
    clear e1 e2 hs
    go_enter Tryz.func96, Tryz.ntmps96
    go_wp2_with fail
    refine (add_any A A' c c' l l' _ w (Nat.le_refl _) H.out H'.out hsz hsz').mono ?_
    rintro e w1 ⟨A1, c1, l1, rfl, hw, ht, hv, hb⟩
    have HW := Lib.hid hw
    have HT := Lib.hid ht
    have HV1 := Lib.hid (hv.trans E1.out)
    clear hw ht hv
    go_wp2_with fail
    go_ret2
    exact ⟨xn, A1, c1, l1, rfl, HW.out, HT.out, HV1.out, E2.out, hb⟩
  · have hs2 : (xn == yn) = false := by simp [hs]
    have HS := Lib.hid hs
    clear hs
    go_enter Tryz.func96, Tryz.ntmps96
    go_wp2_with fail
    refine (cmp_any A A' c c' l l' _ w (Nat.le_refl _) H.out H'.out T.out T'.out).mono ?_
    rintro e w0 ⟨rfl, hb0⟩
    have H0 := Lib.hid ((H.out.below hb0).more hb0.size)
    have H0' := Lib.hid ((H'.out.below hb0).more hb0.size)
    have hs0 := hb0.size
    by_cases hle : val l' ≤ val l
    · have hsg : 0 ≤ sgn (val l) (val l') := by unfold sgn; rw [if_neg (by omega)]; split <;> omega
      have HL := Lib.hid (length_le T'.out (Nat.lt_of_le_of_lt hle (val_lt H.out.small)))
      have HLE := Lib.hid hle
      rw [HV.out, HV'.out] at hle
      obtain ⟨e1, e2⟩ := sum_diff HX.out HY.out HS.out hle
      rw [← HV.out, ← HV'.out] at e1
      have E1 := Lib.hid e1
      have E2 := Lib.hid e2
      clear e1 e2 hle
      generalize sgn (val l) (val l') = sg at hsg
      go_wp2_with fail
      refine (sub_any A A' c c' l l' _ w0 (Nat.le_refl _) H0.out H0'.out hsz HL.out HLE.out).mono ?_
      rintro e w1 ⟨A1, c1, l1, rfl, hw, ht, hv, hb⟩
      have HW := Lib.hid hw
      have HT := Lib.hid ht
      have HV1 := Lib.hid (hv.trans E1.out)
      clear hw ht hv
      go_wp2_with fail
      go_ret2
      exact ⟨xn, A1, c1, l1, rfl, HW.out, HT.out, HV1.out, E2.out, onward hb0 (Nat.le_refl _) hb⟩
    · have hsg : ¬ 0 ≤ sgn (val l) (val l') := by unfold sgn; rw [if_pos (by omega)]; omega
      have HL := Lib.hid (length_le T.out (Nat.lt_of_le_of_lt (show val l ≤ val l' by omega) (val_lt H'.out.small)))
      have HLE := Lib.hid (show val l ≤ val l' by omega)
      obtain ⟨e1, e2⟩ := sum_diff HY.out HX.out (fun e => HS.out e.symm) (by rw [← HV.out, ← HV'.out]; exact HLE.out)
      rw [← HV.out, ← HV'.out, Int.add_comm] at e1
      rw [Int.add_comm] at e2
      have E1 := Lib.hid e1
      have E2 := Lib.hid e2
      clear e1 e2 hle
      generalize sgn (val l) (val l') = sg at hsg
      go_wp2_with fail
      refine (sub_any A' A c' c l' l _ w0 (Nat.le_refl _) H0'.out H0.out hsz' HL.out HLE.out).mono ?_
      rintro e w1 ⟨A1, c1, l1, rfl, hw, ht, hv, hb⟩
      have HW := Lib.hid hw
      have HT := Lib.hid ht
      have HV1 := Lib.hid (hv.trans E1.out)
      clear hw ht hv
      go_wp2_with fail
      go_ret2
      exact ⟨yn, A1, c1, l1, rfl, HW.out, HT.out, HV1.out, E2.out, onward hb0 (Nat.le_refl _) hb⟩
theorem BigAt.parts {w : World} {p : Nat} {z : Int} (h : BigAt w p z) : ∃ A c l, w.cell? ⟨p, 0, none⟩ = some (.bool (decide (z < 0))) ∧ w.cell? ⟨p, 1, none⟩ = some (.slice A l.length c) ∧ Wd w w.heap.size A c l ∧ trimd l ∧ val l = z.natAbs := by
  obtain ⟨A, c, l, h1, h2⟩ := h
  refine ⟨A, c, l, ?_, ?_, h2⟩
  · rw [h1.cell]; rfl
  · rw [h1.cell]; rfl
theorem len_of {l : List Nat} {z : Int} (ht : trimd l) (hv : val l = z.natAbs) (hz : z.natAbs < pw 100) : l.length ≤ 1000000 := by
  have := length_le ht (k := 100) (by rw [hv]; exact hz)
  omega
theorem Wd.drew {w : World} {B : Nat} {A : Option Addr} {c : Nat} {l : List Nat} (h : Wd w B A c l) : Wd w.drew B A c l := ⟨h.len, h.cap, h.none_, h.rd.drew, h.small⟩
theorem IsInt.drew {w : World} {p : Nat} (h : IsInt w p) : IsInt w.drew p := by
  obtain ⟨s, A, n, c, h⟩ := h
  exact ⟨s, A, n, c, h.drew⟩
end Go.Proofs.YtjfllpmiajkenaaGreat.BigW
namespace Go.Proofs.YtjfllpmiajkenaaGreat.BigW
open Go.RowKit Go.Proofs.YtjfllpmiajkenaaGreat.Mem Go.Proofs.YtjfllpmiajkenaaGreat.BigLaw
set_option linter.unusedVariables false
theorem bigUint64_any (p : Nat) (X : Int) (w : World) (hx : BigAt w p X) (hl : X.natAbs < 18446744073709551616) :
    Calls Tryz.prog 98 #[.pointer (some ⟨p, 0, none⟩)] w fun e w' => e = .returned (.int .u64 (X.natAbs : Nat)) ∧ w' = w := by
  obtain ⟨A, c, l, x0, x1, xw, xt, xv⟩ := hx.parts
  have h2 : l.length ≤ 2 := length_le xt (by rw [xv]; exact hl)
  have HV := Lib.hid (xv.symm.trans (val_le2 h2))
  clear hx
  by_cases h0 : 0 < l.length
  · obtain ⟨b, o, rfl, hbB, hcx⟩ := xw.at_ h0
    rw [Nat.add_zero] at hcx
    have hx := getD_lt xw.small 0
    have h0' : (0 : Int) < (l.length : Int) := by omega
    by_cases h1 : 1 < l.length
    · obtain ⟨b', o', e, _, hcy⟩ := xw.at_ h1
      injection e with e
      injection e with e1 e2
      subst e1 e2
      have hy := getD_lt xw.small 1
      have h1' : (1 : Int) < (l.length : Int) := by omega
      generalize l.getD 0 0 = x at hcx hx HV
      generalize l.getD 1 0 = y at hcy hy HV
      have hor := or64 x y hx hy
      clear xw xt xv
      go_enter Tryz.func98, Tryz.ntmps98
      go_wp2_with fail
      go_ret
      exact ⟨by rw [HV.out]; go_num, rfl⟩
    · have h1' : ¬ (1 : Int) < (l.length : Int) := by omega
      have HY := Lib.hid (getD_out (l := l) (i := 1) (by omega))
      generalize l.getD 0 0 = x at hcx hx HV
      rw [HY.out] at HV
      clear xw xt xv h1
      go_enter Tryz.func98, Tryz.ntmps98
      go_wp2_with fail
      go_ret
      exact ⟨by rw [HV.out]; go_num, rfl⟩
  · have h0' : ¬ (0 : Int) < (l.length : Int) := by omega
    have h1' : ¬ (1 : Int) < (l.length : Int) := by omega
    have HX := Lib.hid (getD_out (l := l) (i := 0) (by omega))
    have HY := Lib.hid (getD_out (l := l) (i := 1) (by omega))
    rw [HX.out, HY.out] at HV
    clear xw xt xv h0
    go_enter Tryz.func98, Tryz.ntmps98
    go_wp2_with fail
    go_ret
    exact ⟨by rw [HV.out]; go_num, rfl⟩
theorem bigInt64_any (p : Nat) (X : Int) (w : World) (hx : BigAt w p X) (hl : -9223372036854775808 ≤ X ∧ X ≤ 9223372036854775807) :
    Calls Tryz.prog 67 #[.pointer (some ⟨p, 0, none⟩)] w fun e w' => e = .returned (.int .i64 X) ∧ w' = w := by
  obtain ⟨hl0, hl1⟩ := hl
  obtain ⟨A, c, l, x0, x1, xw, xt, xv⟩ := hx.parts
  clear xw xt xv
  have HX := Lib.hid hx
  clear hx
  go_enter Tryz.func67, Tryz.ntmps67
  go_wp2_with fail
  refine (bigUint64_any p X w HX.out (by omega)).mono ?_
  rintro e w' ⟨rfl, rfl⟩
  by_cases h : X < 0
  · rw [decide_eq_true h] at x0
    have e1 := Lib.hid (show wrap64 (-wrap64 (X.natAbs : Int)) = X by unfold wrap64; omega)
    generalize (X.natAbs : Int) = m at e1 ⊢
    go_wp2_with fail
    go_ret
    exact ⟨ret_int e1.out, rfl⟩
  · rw [decide_eq_false h] at x0
    obtain ⟨m, rfl⟩ := Int.eq_ofNat_of_zero_le (show 0 ≤ X by omega)
    have e1 : ((m : Int)).natAbs = m := by omega
    rw [e1]
    go_wp2_with fail
    go_ret
    exact ⟨rfl, rfl⟩
end Go.Proofs.YtjfllpmiajkenaaGreat.BigW
namespace Go.Proofs.YtjfllpmiajkenaaGreat.BigW
open Go.RowKit Go.Proofs.YtjfllpmiajkenaaGreat.Mem Go.Proofs.YtjfllpmiajkenaaGreat.BigLaw
set_option linter.unusedVariables false
theorem below_undrew {B : Nat} {w w' : World} (h : Below B w.drew w') : Below B w w' := ⟨h.os, h.tape, h.output, h.size, h.block⟩
def GaveQR (w w' : World) (q r : Nat) (e : Ending) : Prop := ∃ A1 c1 l1 A2 c2 l2, e = .returned (.tuple #[.slice A1 l1.length c1, .slice A2 l2.length c2]) ∧ Wd w' w'.heap.size A1 c1 l1 ∧ trimd l1 ∧ val l1 = q ∧ Wd w' w'.heap.size A2 c2 l2 ∧ trimd l2 ∧ val l2 = r ∧ Below w.heap.size w w'
set_option maxRecDepth 100000 in
set_option maxHeartbeats 4000000 in
theorem divSmall_any (A A' : Option Addr) (c c' : Nat) (l l' : List Nat) (w : World) (h : Wd w w.heap.size A c l) (h' : Wd w w.heap.size A' c' l') (t : trimd l) (t' : trimd l') (hp : 0 < val l') (hsm : l.length ≤ 2) :
    Calls Tryz.prog 177 #[.slice A l.length c, .slice A' l'.length c'] w fun e w' => GaveQR w w' (val l / val l') (val l % val l') e := by
  have H := Lib.hid h
  have H' := Lib.hid h'
  have T := Lib.hid t
  have T' := Lib.hid t'
  have hl0 : ((l'.length : Int) == 0) = false := by
    rw [beq_eq_false_iff_ne]
    intro e
    rw [List.eq_nil_of_length_eq_zero (show l'.length = 0 by omega), val_nil] at hp
    omega
  have hlt := Lib.hid (val_lt h.small)
  clear h h' t t'
  go_enter Tryz.func177, Tryz.ntmps177
  go_wp2_with fail
  refine (cmp_any A A' c c' l l' _ w (Nat.le_refl _) H.out H'.out T.out T'.out).mono ?_
  rintro e w0 ⟨rfl, hb0⟩
  have H0 := Lib.hid ((H.out.below hb0).more hb0.size)
  have H0' := Lib.hid ((H'.out.below hb0).more hb0.size)
  by_cases hle : val l < val l'
  · have hsg : sgn (val l) (val l') < 0 := by unfold sgn; rw [if_pos hle]; omega
    have HQ := Lib.hid (Nat.div_eq_of_lt hle)
    have HR := Lib.hid (Nat.mod_eq_of_lt hle)
    have HV := Lib.hid hp
    clear hle hp
    generalize sgn (val l) (val l') = sg at hsg
    go_wp2_with fail
    refine (twin_any A c l _ w0 (Nat.le_refl _) H0.out (by omega)).mono ?_
    rintro e w1 ⟨A1, c1, rfl, hw, hb⟩
    have HW := Lib.hid hw
    clear hw
    go_wp2_with fail
    go_ret2
    exact ⟨none, 0, [], A1, c1, l, rfl, Wd.nil _ _, fun h => by simp at h, by rw [HQ.out]; rfl, HW.out, T.out, HR.out.symm, onward hb0 (Nat.le_refl _) hb⟩
  · have hsg : ¬ sgn (val l) (val l') < 0 := by unfold sgn; rw [if_neg hle]; split <;> omega
    have HL := Lib.hid (show l'.length ≤ 2 from length_le T'.out (show val l' < pw 2 from Nat.lt_of_le_of_lt (Nat.le_of_not_lt hle) (Nat.lt_of_lt_of_le hlt.out (pw_le hsm))))
    have hx : val l < 18446744073709551616 := Nat.lt_of_lt_of_le hlt.out (pw_le hsm)
    have hy : val l' < 18446744073709551616 := by have := val_lt H'.out.small; exact Nat.lt_of_lt_of_le this (pw_le HL.out)
    generalize sgn (val l) (val l') = sg at hsg
    clear hle
    go_wp2_with fail
    refine (plain_any A c l _ w0 H0.out (by omega)).mono ?_
    rintro e w1 ⟨rfl, rfl⟩
    go_wp2_with fail
    refine (plain_any A' c' l' _ _ H0'.out HL.out).mono ?_
    rintro e w1 ⟨rfl, rfl⟩
    obtain ⟨x, hxe⟩ : ∃ x, val l = x := ⟨_, rfl⟩
    obtain ⟨y, hye⟩ : ∃ y, val l' = y := ⟨_, rfl⟩
    obtain ⟨q, hqe⟩ : ∃ q, x / y = q := ⟨_, rfl⟩
    obtain ⟨r, hre⟩ : ∃ r, x % y = r := ⟨_, rfl⟩
    rw [hxe] at hx ⊢
    rw [hye] at hy hp ⊢
    have hql : q < 18446744073709551616 := by rw [← hqe]; exact Nat.lt_of_le_of_lt (Nat.div_le_self _ _) hx
    have hrl : r < 18446744073709551616 := by rw [← hre]; exact Nat.lt_of_le_of_lt (Nat.mod_le _ _) hx
    have hy0 : ¬ (y : Int) = 0 := by omega
    have hq : (x : Int) / (y : Int) = ((x / y : Nat) : Int) := rfl
    have hr : (x : Int).tmod (y : Int) = ((x % y : Nat) : Int) := rfl
    rw [hqe] at hq
    rw [hre] at hr
    have hq2 : IntKind.u64.wrap ((x : Int) / (y : Int)) = (q : Int) := by rw [hq, u64wrap]; omega
    have hy1 : ¬ y = 0 := by omega
    have HQE := Lib.hid (show val l / val l' = q by rw [hxe, hye]; exact hqe)
    have HRE := Lib.hid (show val l % val l' = r by rw [hxe, hye]; exact hre)
    clear hq hxe hye hqe hre
    go_wp2_with fail
    have hS : w1.heap.size ≤ w1.drew.heap.size := Nat.le_refl _
    go_region_held3 (fun w' => w1.heap.size ≤ w'.heap.size) (first | assumption | omega) (first
      | (go_at_call_of 151 (Value.int .u64 (q : Int)); refine (words_any q hql _).mono ?_; rintro e w2 ⟨A1, c1, l1, rfl, hw1, ht1, hv1, hb1⟩; have hs1 := hb1.size)
      | (go_at_call_of 151 (Value.int .u64 (r : Int)); refine (words_any r hrl _).mono ?_; rintro e w3 ⟨A2, c2, l2, rfl, hw2, ht2, hv2, hb2⟩; have hs2 := hb2.size))
    all_goals
      go_wp2_with fail
      go_ret2
      exact ⟨A1, c1, l1, A2, c2, l2, rfl, (hw1.below hb2).more hb2.size, ht1, hv1.trans HQE.out.symm, hw2, ht2, hv2.trans HRE.out.symm, onward (onward hb0 (Nat.le_refl _) (below_undrew hb1)) (Nat.le_refl _) hb2⟩
end Go.Proofs.YtjfllpmiajkenaaGreat.BigW
