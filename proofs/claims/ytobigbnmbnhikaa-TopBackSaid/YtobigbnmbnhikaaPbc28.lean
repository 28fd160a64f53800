import Derived.Test.YtobigbnmbnhikaaPb0
import Derived.Test.YtobigbnmbnhikaaPbc27
import Derived.Test.YtobigbnmbnhikaaPb1
import Derived.Great.BuildSlice
import Derived.Test.YtobigbnmbnhikaaPb2
set_option linter.unusedVariables false
set_option linter.unusedSimpArgs false
namespace Go.Proofs.Ytobigbnmbnhikaa
namespace Cf
open Go.ChangeShapes Go.WideShapes Go.ChangeAt Go.RowKit Mem Go.Proofs.Ytobigbnmbnhikaa.Op Rws Nd Cl
instance : Inhabited InS := ⟨⟨fun _ => 0, 0, []⟩⟩
def inL (x : InS) (LA : Option Addr) (LC : Nat) : List Value := (row 14 (inCell x.rd x.bad (.slice LA x.ls.length LC))).toList
def InsAt (w : World) (B : Nat) (A : Option Addr) (xs : List InS) : Prop :=
 ∃ cs, Rd w B 14 A xs.length cs ∧ ∀ i x, xs[i]? = some x → ∃ LA LC, (cs.drop (i * 14)).take 14 = inL x LA LC ∧ (LA = none → LC = 0) ∧ x.ls.length ≤ LC ∧ LC ≤ 9223372036854775807 ∧ LiesAt w B LA x.ls
theorem InsAt.keep {w w' : World} {B : Nat} {A : Option Addr} {xs : List InS} (h : InsAt w B A xs) (hk : ∀ b o, b < B → w'.cell? ⟨b, o, none⟩ = w.cell? ⟨b, o, none⟩) : InsAt w' B A xs := by
 obtain ⟨cs, hr, hx⟩ := h; refine ⟨cs, hr.keep hk, fun i x hi => ?_⟩; obtain ⟨LA, LC, h1, h2, h3, h4, h5⟩ := hx i x hi; exact ⟨LA, LC, h1, h2, h3, h4, h5.keep hk⟩
theorem lies_more {w : World} {B B' : Nat} {A : Option Addr} {ls : List Lie} (h : LiesAt w B A ls) (hB : B ≤ B') : LiesAt w B' A ls := by
 obtain ⟨xs, hr, hx⟩ := h; refine ⟨xs, hr.more hB, fun i l hl => ?_⟩; obtain ⟨a, c, h1, h2, h3, h4, h5, h6⟩ := hx i l hl; exact ⟨a, c, h1, h2, h3, h4, h5, h6.more hB⟩
theorem InsAt.more {w : World} {B B' : Nat} {A : Option Addr} {xs : List InS} (h : InsAt w B A xs) (hB : B ≤ B') : InsAt w B' A xs := by
 obtain ⟨cs, hr, hx⟩ := h; refine ⟨cs, hr.more hB, fun i x hi => ?_⟩; obtain ⟨LA, LC, h1, h2, h3, h4, h5⟩ := hx i x hi; exact ⟨LA, LC, h1, h2, h3, h4, lies_more h5 hB⟩
theorem InsAt.below {w w' : World} {B : Nat} {A : Option Addr} {xs : List InS} (h : InsAt w B A xs) (hb : Below B w w') : InsAt w' B A xs := h.keep fun b o hp => hb.cell (p := ⟨b, o, none⟩) hp
theorem InsAt.nil (w : World) (B : Nat) (A : Option Addr) : InsAt w B A [] := ⟨[], Rd.nil _ _ _ _, fun i l h => by simp at h⟩
theorem InsAt.at {w : World} {B : Nat} {A : Option Addr} {xs : List InS} (h : InsAt w B A xs) {i : Nat} {x : InS} (hi : xs[i]? = some x) : ∃ b o LA LC, A = some ⟨b, o, none⟩ ∧ b < B ∧ w.rangeAt b (o + i * 14) ((List.range 14).map (inCell x.rd x.bad (.slice LA x.ls.length LC))) ∧ (LA = none → LC = 0) ∧ x.ls.length ≤ LC ∧ LC ≤ 9223372036854775807 ∧ LiesAt w B LA x.ls := by
 obtain ⟨cs, hr, hx⟩ := h; obtain ⟨LA, LC, h1, h2, h3, h4, h5⟩ := hx i x hi; have hl : i < xs.length := (List.getElem?_eq_some_iff.1 hi).1; obtain ⟨b, o, e, hb, hc⟩ := hr.2 (by omega); refine ⟨b, o, LA, LC, e, hb, fun j v hv => ?_, h2, h3, h4, h5⟩
 have hj : j < 14 := by have := (List.getElem?_eq_some_iff.1 hv).1; simpa using this
 have hv2 : (inL x LA LC)[j]? = some v := by unfold inL; rw [row_toList]; exact hv
 rw [← h1, List.getElem?_take, if_pos hj, List.getElem?_drop] at hv2; have := hc _ _ hv2
 rwa [← Nat.add_assoc] at this
section
variable {H : Type} {enc : TypeId × Value → H} {W : World} {base : Nat} {spare : Nat → Bool} {held : Bool}
theorem lie_of_cells (hsp : ∀ b, spare b = true) {vs : List Value} (k : Cells enc Try.prog W base spare held [3, 3, 58] vs) :
  ∃ l a c, vs = lieL l a c ∧ (a = none → c = 0) ∧ l.bs.length ≤ c ∧ c ≤ 140737488351232 ∧ (∀ x ∈ l.bs, x < 256) ∧ Rd W W.heap.size 1 a l.bs.length (Sm.bytesV l.bs) ∧ Wf l.p ∧ Wf l.t := by
 obtain ⟨x0, l, rfl, f0, k⟩ := k.cons; obtain ⟨x1, l, rfl, f1, k⟩ := k.cons; obtain ⟨x2, l, rfl, f2, k⟩ := k.cons; obtain rfl := k.nil_; obtain ⟨m0, rfl, w0⟩ := f0.int Try.underlying3; obtain ⟨m1, rfl, w1⟩ := f1.int Try.underlying3; obtain ⟨A, c, zs, rfl, h1, h2, h3, h4, h5, h6⟩ := f2.ints Try.underlying58 Try.underlying5 (by kernel_rfl) hsp
 rw [show Try.prog.bytesOf 5 = 1 from by kernel_rfl] at h3
 obtain ⟨bs, g1, g2, g3⟩ := Sm.bytes_of zs h6; rw [g1, ← g2] at h5; rw [← g2] at h1 ⊢
 have hr : reachBytes = 140737488351232 := by decide
 exact ⟨⟨m0, m1, bs⟩, A, c, rfl, h4, h1, by omega, g3, h5, w0, w1⟩
set_option maxRecDepth 100000 in
theorem in_of_cells (hsp : ∀ b, spare b = true) {vs : List Value} (k : Cells enc Try.prog W base spare held [3, 3, 3, 3, 3, 3, 3, 3, 3, 3, 3, 3, 3, 54] vs) :
  ∃ x LA LC, vs = inL x LA LC ∧ (LA = none → LC = 0) ∧ x.ls.length ≤ LC ∧ LC ≤ 140737488351232 ∧ LiesAt W W.heap.size LA x.ls ∧ (∀ i, i < 12 → Wf (x.rd i)) ∧ Wf x.bad ∧ ∀ l ∈ x.ls, Wf l.p ∧ Wf l.t := by
 obtain ⟨x0, l, rfl, f0, k⟩ := k.cons; obtain ⟨x1, l, rfl, f1, k⟩ := k.cons; obtain ⟨x2, l, rfl, f2, k⟩ := k.cons; obtain ⟨x3, l, rfl, f3, k⟩ := k.cons; obtain ⟨x4, l, rfl, f4, k⟩ := k.cons; obtain ⟨x5, l, rfl, f5, k⟩ := k.cons; obtain ⟨x6, l, rfl, f6, k⟩ := k.cons; obtain ⟨x7, l, rfl, f7, k⟩ := k.cons; obtain ⟨x8, l, rfl, f8, k⟩ := k.cons; obtain ⟨x9, l, rfl, f9, k⟩ := k.cons; obtain ⟨x10, l, rfl, f10, k⟩ := k.cons; obtain ⟨x11, l, rfl, f11, k⟩ := k.cons; obtain ⟨x12, l, rfl, f12, k⟩ := k.cons; obtain ⟨y, l, rfl, f13, k⟩ := k.cons; obtain rfl := k.nil_; obtain ⟨m0, rfl, w0⟩ := f0.int Try.underlying3; obtain ⟨m1, rfl, w1⟩ := f1.int Try.underlying3; obtain ⟨m2, rfl, w2⟩ := f2.int Try.underlying3; obtain ⟨m3, rfl, w3⟩ := f3.int Try.underlying3; obtain ⟨m4, rfl, w4⟩ := f4.int Try.underlying3; obtain ⟨m5, rfl, w5⟩ := f5.int Try.underlying3; obtain ⟨m6, rfl, w6⟩ := f6.int Try.underlying3; obtain ⟨m7, rfl, w7⟩ := f7.int Try.underlying3; obtain ⟨m8, rfl, w8⟩ := f8.int Try.underlying3; obtain ⟨m9, rfl, w9⟩ := f9.int Try.underlying3; obtain ⟨m10, rfl, w10⟩ := f10.int Try.underlying3; obtain ⟨m11, rfl, w11⟩ := f11.int Try.underlying3; obtain ⟨m12, rfl, w12⟩ := f12.int Try.underlying3; obtain ⟨A, n, c, xs, rfl, h1, h2, h3, h4, h5, h6⟩ := Op.Leaf.slice (le := [3, 3, 58]) Try.underlying54 (by kernel_rfl) (by kernel_rfl) (by simp) hsp f13
 rw [show Try.prog.bytesOf 60 = 40 from by kernel_rfl] at h3
 obtain ⟨f, hf⟩ := Deep.choose_lt (n := n) (fun i hi => lie_of_cells hsp (h6 i hi))
 have hlen : ((List.range n).map f).length = n := by simp
 have hr : reachBytes = 140737488351232 := by decide
 refine ⟨⟨fun i => [m0, m1, m2, m3, m4, m5, m6, m7, m8, m9, m10, m11].getD i 0, m12, (List.range n).map f⟩, A, c, by unfold inL; dsimp only; rw [hlen]; rfl, h4, by rw [hlen]; exact h1, by omega, ⟨xs, by rw [hlen]; exact h5, fun i l hl => ?_⟩, fun i hi => ?_, w12, fun l hl => ?_⟩
 ·
  have hi : i < n := by have := (List.getElem?_eq_some_iff.1 hl).1; simpa using this
  simp [hi] at hl
  subst hl; obtain ⟨a, c', q1, q2, q3, q4, q5, q6, _⟩ := hf i hi; exact ⟨a, c', q1, q2, q3, q4, q5, q6⟩
 ·
  obtain rfl | rfl | rfl | rfl | rfl | rfl | rfl | rfl | rfl | rfl | rfl | rfl : i = 0 ∨ i = 1 ∨ i = 2 ∨ i = 3 ∨ i = 4 ∨ i = 5 ∨ i = 6 ∨ i = 7 ∨ i = 8 ∨ i = 9 ∨ i = 10 ∨ i = 11 := by omega
  all_goals assumption
 ·
  obtain ⟨i, hi, rfl⟩ := List.mem_map.1 hl; obtain ⟨a, c', q1, q2, q3, q4, q5, q6, q7⟩ := hf i (List.mem_range.1 hi); exact q7
end
set_option maxRecDepth 100000 in
theorem openInputs {H : Type} {enc : TypeId × Value → H} {W : World} {base : Nat} {v : Value} {d : DataW H} {ps : List MemPlace} (hv : Value.okWide Try.prog W .any base 24 v)
  (h : DataW.Trod enc Try.prog W 0 (fun _ => true) true 24 v d ps) (hl : Op.Light Try.prog 24 d) :
  ∃ (A : Option Addr) (c : Nat) (xs : List InS), v = .slice A xs.length c ∧ xs.length ≤ c ∧ c * 128 ≤ 140737488351232 ∧ (A = none → c = 0) ∧ InsAt W W.heap.size A xs ∧ ∀ x ∈ xs, ((∀ i, i < 12 → Wf (x.rd i)) ∧ Wf x.bad) ∧ ∀ l ∈ x.ls, Wf l.p ∧ Wf l.t := by
 obtain ⟨a0, len, cap, rfl⟩ := okWide_slice Try.underlying24 hv; obtain ⟨n0, hn⟩ := h; obtain ⟨A, n, c, xs, e, h1, h2, h3, h4, h5, h6⟩ := Op.Leaf.slice (enc := enc) (held := true) (base := 0) (spare := fun _ => true) (w := W) (v := .slice a0 len cap) (le := [3, 3, 3, 3, 3, 3, 3, 3, 3, 3, 3, 3, 3, 54]) Try.underlying24 (by kernel_rfl) (by kernel_rfl) (by simp) (fun _ => rfl) ⟨n0, _, hn, hl⟩
 rw [show Try.prog.bytesOf 56 = 128 from by kernel_rfl] at h3
 obtain ⟨f, hf⟩ := Deep.choose_lt (n := n) (fun i hi => in_of_cells (fun _ => rfl) (h6 i hi)); rw [e]
 have hlen : ((List.range n).map f).length = n := by simp
 have hr : reachBytes = 140737488351232 := by decide
 refine ⟨A, c, (List.range n).map f, by rw [hlen], by rw [hlen]; exact h1, by omega, h4, ⟨xs, by rw [hlen]; exact h5, fun i x hx => ?_⟩, fun x hx => ?_⟩
 ·
  have hi : i < n := by have := (List.getElem?_eq_some_iff.1 hx).1; simpa using this
  simp [hi] at hx
  subst hx; obtain ⟨LA, LC, q1, q2, q3, q4, q5, _⟩ := hf i hi; exact ⟨LA, LC, q1, q2, q3, by omega, q5⟩
 ·
  obtain ⟨i, hi, rfl⟩ := List.mem_map.1 hx; obtain ⟨LA, LC, q1, q2, q3, q4, q5, q6, q7, q8⟩ := hf i (List.mem_range.1 hi); exact ⟨⟨q6, q7⟩, q8⟩
end Cf
namespace Rws
open Go.RowKit Mem
section
variable {P : Program} {ops : Array Oper} {rest : List Oper} {o : Oper} {a : Act} {w : World} {Q : Exit → Act → World → Prop}
theorem wpList_slice1 (hg : o.guard = none) (t e : TypeId) (x : Operand) (ho : o.op = .buildSlice t 1 #[(0, x)]) (v : Value) (hx : a.eval x = v) (n : Nat)
  (hu : P.underlying t = some (.slice e)) (hs : (P.info? e).map (·.size) = some n) (hz : ((P.info? e).bind (·.zero)).map (·.cells.size) = some n) (hpos : 0 < n) (hsm : n ≤ 16777216) (hv : v.cells.size = n)
  (h : wpList P ops Q rest (a.put o.dst (.slice (some ⟨w.heap.size, 0, none⟩) 1 1)) (w.alloc (.cells v.cells e))) : wpList P ops Q (o :: rest) a w := by
 cases hie : P.info? e with
 | none => simp [hie] at hs
 | some ie =>
  simp only [hie, Option.map_some, Option.some.injEq, Option.bind_some] at hs hz
  cases hzz : ie.zero with
  | none => simp [hzz] at hz
  | some z =>
   refine wpList_buildSlice hg t e 1 #[(0, x)] ho v.cells ie z hu hie hzz (by rw [hs]; omega) (by rw [hs]; omega) ?_ h; have h2 := Great.fill_whole (s := n) hpos [v] ((Array.range (1 * ie.size)).map (z.cells[· % z.cells.size]!)) (fun u hu => by simp at hu; subst hu; exact hv) (by simp [hs]); simp only [List.flatMap_cons, List.flatMap_nil, List.append_nil, Array.toArray_toList] at h2; rw [hs] at h2 ⊢; simp only [List.map_toArray, List.map_cons, List.map_nil, hx]; exact h2
theorem wpList_rng (hw : Region.wanted o (yielded ops a.tmps) = true) (ty : TypeId) (x : Operand) (ho : o.op = .load ty x)
  (b off m : Nat) (hx : a.eval x = .pointer (some ⟨b, off, none⟩)) (g : Nat → Value) (hb : w.rangeAt b off ((List.range m).map g)) (d : TypeDesc)
  (hu : P.underlying ty = some d) (hd : d.isRow = true) (hi : (P.info? ty).map (·.size) = some m)
  (h : wpList P ops Q rest (a.put o.dst (.agg (row m g))) w) : wpList P ops Q (o :: rest) a w :=
 wpList_wanted hw fun _ hK => wp_load_mid ty x ho b off hx _ d hb hu hd (by rw [hi]; simp) (hK _ _ h)
end
theorem chunk_snoc {n i : Nat} {cs new : List Value} (hl : cs.length = i * n) (j : Nat) (hj : j < i) : ((cs ++ new).drop (j * n)).take n = (cs.drop (j * n)).take n := by
 have h1 : j * n + n ≤ i * n := by
  have := Nat.mul_le_mul_right n hj; rw [Nat.succ_mul] at this; exact this
 rw [List.drop_append_of_le_length (by omega), List.take_append_of_le_length (by rw [List.length_drop]; omega)]
theorem chunk_last {n i : Nat} {cs new : List Value} (hl : cs.length = i * n) (hn : new.length = n) : ((cs ++ new).drop (i * n)).take n = new := by
 rw [← hl, List.drop_left]; exact List.take_of_length_le (Nat.le_of_eq hn)
end Rws
namespace Cf
open Go.ChangeShapes Go.WideShapes Go.ChangeAt Go.RowKit Mem Rws Nd Cl
theorem spot_any (v n : Int) (hv : -9223372036854775808 ≤ v ∧ v ≤ 9223372036854775807) (hn : n = 4 ∨ n = 5) (w : World) : Calls Try.prog 9 #[.int .i64 v, .int .i64 n] w fun e w' => ∃ r, 0 ≤ r ∧ r < n ∧ e = .returned (.int .i64 r) ∧ w' = w := by
 have hn0 : (n == 0) = false := by rcases hn with rfl | rfl <;> rfl
 have hb := Int.tmod_lt_of_pos v (show 0 < n by omega)
 have hb2 := Int.lt_tmod_of_pos v (show 0 < n by omega)
 obtain ⟨q, hq⟩ : ∃ q, v.tmod n = q := ⟨_, rfl⟩; rw [hq] at hb hb2
 have hw : IntKind.i64.wrap q = q := by rw [IntKind.wrap_i64]; omega
 by_cases h0 : q < 0
 ·
  have hd : decide (q < 0) = true := decide_eq_true h0
  have hw2 : IntKind.i64.wrap (q + n) = q + n := by rw [IntKind.wrap_i64]; omega
  have HE := zz (show 0 ≤ q + n ∧ q + n < n by omega)
  go_enter Try.func9, Try.ntmps9
  go_wp2_with fail
  go_ret
  exact ⟨q + n, HE.out.1, HE.out.2, rfl, rfl⟩
 ·
  have hd : decide (q < 0) = false := decide_eq_false h0
  have HE := zz (show 0 ≤ q ∧ q < n by omega)
  go_enter Try.func9, Try.ntmps9
  go_wp2_with fail
  go_ret
  exact ⟨q, HE.out.1, HE.out.2, rfl, rfl⟩
def capIn (bad : Int) (x : InS) : InS := ⟨x.rd, bad, x.ls.take 400⟩
def ones (bad : Int) (xs : List InS) : List InS := (xs.take 200).map (capIn bad)
theorem inCell_one (rd : Nat → Int) (bad : Int) (A : Option Addr) (n c j : Nat) : (inCell rd bad (.slice A n c) j).oneCell' = true := by unfold inCell; split; rfl; split <;> rfl
theorem inCell_bad (rd : Nat → Int) (b b' : Int) (L : Value) : (row 14 (inCell rd b L)).setIfInBounds 12 (.int .i64 b') = row 14 (inCell rd b' L) := by
 rw [row_set]; refine row_congr fun j hj => ?_
 unfold inCell
 by_cases e : j = 12
 · rw [if_pos e, if_neg (by omega), if_pos e]
 ·
  rw [if_neg e]
  by_cases h : j < 12
  · rw [if_pos h, if_pos h]
  · rw [if_neg h, if_neg h, if_neg e, if_neg e]
theorem inCell_lies (rd : Nat → Int) (b : Int) (L L' : Value) : (row 14 (inCell rd b L)).setIfInBounds 13 L' = row 14 (inCell rd b L') := by
 rw [row_set]; refine row_congr fun j hj => ?_
 unfold inCell
 by_cases e : j = 13
 · rw [if_pos e, if_neg (by omega), if_neg (by omega)]
 ·
  rw [if_neg e]
  by_cases h : j < 12
  · rw [if_pos h, if_pos h]
  · rw [if_neg h, if_neg h, if_pos (by omega), if_pos (by omega)]
theorem lies_take {w : World} {B : Nat} {A : Option Addr} {ls : List Lie} (h : LiesAt w B A ls) (n : Nat) : LiesAt w B A (ls.take n) := by
 obtain ⟨xs, hr, hx⟩ := h; refine ⟨xs.take ((ls.take n).length * 3), ?_, fun i l hl => ?_⟩
 ·
  have hle : (ls.take n).length ≤ ls.length := by rw [List.length_take]; omega
  refine ⟨by rw [List.length_take, hr.1]; omega, fun hn => ?_⟩; obtain ⟨b, o, e, hb, hc⟩ := hr.2 (by omega); refine ⟨b, o, e, hb, fun j u hu => hc j u ?_⟩; rw [List.getElem?_take] at hu
  split at hu
  · exact hu
  · cases hu
 ·
  have hi : i < (ls.take n).length := (List.getElem?_eq_some_iff.1 hl).1
  have hl2 : ls[i]? = some l := by
   rw [List.getElem?_take] at hl
   split at hl
   · exact hl
   · cases hl
  obtain ⟨a, c, h1, h2⟩ := hx i l hl2; refine ⟨a, c, ?_, h2⟩; rw [← h1, List.drop_take, List.take_take, Nat.min_eq_left (by omega)]
theorem elemIns : Elem Try.prog 24 56 (.agg #[.int .i64 0, .int .i64 0, .int .i64 0, .int .i64 0, .int .i64 0, .int .i64 0, .int .i64 0, .int .i64 0, .int .i64 0, .int .i64 0, .int .i64 0, .int .i64 0, .int .i64 0, .slice none 0 0]) 14 128 := ⟨Try.underlying24, by kernel_rfl, rfl, by omega⟩
set_option maxRecDepth 100000 in
set_option maxHeartbeats 4000000 in
theorem one_any (A : Option Addr) (c : Nat) (xs : List InS) (bad : Int) (w : World) (hl : xs.length ≤ 1099511627776) (h : InsAt w w.heap.size A xs) :
  Calls Try.prog 11 #[.slice A xs.length c, .int .i64 bad] w fun e w' => ∃ A' c', e = .returned (.slice A' (ones bad xs).length c') ∧ (A' = none → c' = 0) ∧ (ones bad xs).length ≤ c' ∧ InsAt w' w'.heap.size A' (ones bad xs) ∧ Below w.heap.size w w' := by
 have HIN := zz h; clear h
 go_enter Try.func11, Try.ntmps11
 go_wp2_with fail
 go_loopw [6, 5] (fun v u wr => ∃ (i : Nat) (A' : Option Addr) (c' : Nat) (cs : List Value), i ≤ xs.length ∧ i ≤ 200 ∧ v = .int .i64 (i : Int) ∧ u = .slice A' i c' ∧ wr.ownsRow w.heap.size 56 14 (.slice A' i c') i cs ∧ (∀ j, j < i → ∃ LA LC, (cs.drop (j * 14)).take 14 = inL (capIn bad (xs.getD j default)) LA LC ∧ (LA = none → LC = 0) ∧ (capIn bad (xs.getD j default)).ls.length ≤ LC ∧ LC ≤ 9223372036854775807 ∧ LiesAt w w.heap.size LA (capIn bad (xs.getD j default)).ls) ∧ Below w.heap.size w wr) (fun v _ _ => xs.length - (intOf v).toNat)
 case atStart => exact ⟨0, none, 0, [], by omega, by omega, rfl, rfl, World.ownsRow_nil _ _ _ _, fun j hj => by omega, Below.refl _ _⟩
 case round =>
  obtain ⟨i, A', c', cs, hi, hi2, rfl, rfl, ho, hcs, hb⟩ := hrel; have HO := zz ho; have HCS := zz hcs; have HB := zz hb; clear ho hcs hb
  by_cases hlt : i < xs.length ∧ i < 200
  ·
   obtain ⟨hlt, hl2⟩ := hlt
   have hx : xs[i]? = some (xs.getD i default) := by rw [List.getD_eq_getElem?_getD, List.getElem?_eq_getElem hlt]; rfl
   obtain ⟨x, hxe⟩ : ∃ x, xs.getD i default = x := ⟨_, rfl⟩; rw [hxe] at hx; have HXJ := zz hxe; clear hxe; obtain ⟨b, o, LA, LC, rfl, hbl, hrg, hLA, hLn, hLc, hlies⟩ := HIN.out.at hx; have HLA := zz hLA; have HLI := zz hlies
   have HRG := zz (show wr.rangeAt b (o + i * 14) ((List.range 14).map (inCell x.rd x.bad (.slice LA x.ls.length LC))) from fun j v hv => (HB.out.cell (p := ⟨b, o + i * 14 + j, none⟩) hbl).trans (hrg j v hv))
   have hi0 : (0 : Int) ≤ (i : Int) := by omega
   have hi3 : (i : Int) < (xs.length : Int) := by omega
   have hd2 : decide ((i : Int) < 200) = true := decide_eq_true (by omega); clear hx hbl hrg hLA hlies; have F1 : Hid (Blk (wr.alloc (.cells #[.int .i64 0, .int .i64 0, .int .i64 0, .int .i64 0, .int .i64 0, .int .i64 0, .int .i64 0, .int .i64 0, .int .i64 0, .int .i64 0, .int .i64 0, .int .i64 0, .int .i64 0, .slice none 0 0] 56)) wr.heap.size 56 #[.int .i64 0, .int .i64 0, .int .i64 0, .int .i64 0, .int .i64 0, .int .i64 0, .int .i64 0, .int .i64 0, .int .i64 0, .int .i64 0, .int .i64 0, .int .i64 0, .int .i64 0, .slice none 0 0]) := zz (Blk.fresh _ _ _); have hbA : Below wr.heap.size wr (wr.alloc (.cells #[.int .i64 0, .int .i64 0, .int .i64 0, .int .i64 0, .int .i64 0, .int .i64 0, .int .i64 0, .int .i64 0, .int .i64 0, .int .i64 0, .int .i64 0, .int .i64 0, .int .i64 0, .slice none 0 0] 56)) := (Below.refl _ _).alloc (Nat.le_refl _) _; obtain ⟨R1, hR1⟩ : ∃ R, row 14 (inCell x.rd x.bad (.slice LA x.ls.length LC)) = R := ⟨_, rfl⟩
   have i1 : (Try.prog.info? 56).map (·.size) = some R1.size := by rw [← hR1, row_size]; kernel_rfl
   have z1 : (#[.int .i64 0, .int .i64 0, .int .i64 0, .int .i64 0, .int .i64 0, .int .i64 0, .int .i64 0, .int .i64 0, .int .i64 0, .int .i64 0, .int .i64 0, .int .i64 0, .int .i64 0, .slice none 0 0] : Array Value).size = R1.size := by rw [← hR1, row_size]; rfl
   have o1 : R1.all (·.oneCell') = true := by rw [← hR1]; exact row_one fun j _ => inCell_one _ _ _ _ _ j
   have HR1 := zz hR1
   go_upto_region 6 with (first
    | (refine wpList_rng rfl 56 _ rfl b (o + i * 14) 14 rfl (inCell x.rd x.bad (.slice LA x.ls.length LC)) HRG.out _ Try.underlying56 rfl (by kernel_rfl) ?_; rw [hR1])
    | (refine wpList_store_row rfl 56 _ _ rfl wr.heap.size R1 rfl rfl 56 _ F1.out i1 z1 o1 ?_))
   have BV := zz (F1.out.setRow R1); have HBV := zz (below_setRow (onward HB.out (Nat.le_refl _) hbA) HB.out.size R1)
   have HOG := zz (show (Value.slice A' i c').ownBlock ≠ some wr.heap.size from fun e => Nat.lt_irrefl _ (HO.out.lt _ e).2)
   have HO := zz ((ownsRow_below HO.out hbA).kept (gr_setRowR _ wr.heap.size R1) (.inr fun e => Nat.lt_irrefl _ (HO.out.lt _ e).2)); clear F1 hbA hR1 i1 z1 o1 HRG
   generalize ((wr.alloc (.cells #[.int .i64 0, .int .i64 0, .int .i64 0, .int .i64 0, .int .i64 0, .int .i64 0, .int .i64 0, .int .i64 0, .int .i64 0, .int .i64 0, .int .i64 0, .int .i64 0, .int .i64 0, .slice none 0 0] 56)).setRow wr.heap.size R1) = wu at *
   rw [← HR1.out] at BV; obtain ⟨gv, hgv⟩ : ∃ g, wr.heap.size = g := ⟨_, rfl⟩; rw [hgv] at BV HOG ⊢
   have HGV := zz (show w.heap.size ≤ gv by rw [← hgv]; exact HB.out.size)
   clear hgv HB; have y12 := BV.out.cell 12; rw [row_at (by omega)] at y12; have f12 := BV.out.thaw 12
   go_upto_region 7 with fail
   have hs := BV.out.set 12 (.int .i64 bad); rw [inCell_bad] at hs; have BV := zz hs
   have HBV := zz (HBV.out.setCell (p := ⟨gv, 12, none⟩) (show w.heap.size ≤ gv from HGV.out) (.int .i64 bad))
   have HO := zz (HO.out.kept (gr_setCell wu gv 12 (.int .i64 bad)) (.inr HOG.out)); clear hs y12 f12
   generalize (wu.setCell ⟨gv, 12, none⟩ (.int .i64 bad)) = wt at *
   have y13 := BV.out.cell 13
   rw [row_at (by omega), show inCell x.rd bad (.slice LA x.ls.length LC) 13 = .slice LA x.ls.length LC from rfl] at y13
   have f13 := BV.out.thaw 13
   by_cases h4 : 400 < x.ls.length
   ·
    have hd4 : decide ((400 : Int) < (x.ls.length : Int)) = true := decide_eq_true (by omega)
    obtain ⟨b2, o2, rfl⟩ : ∃ b2 o2, LA = some ⟨b2, o2, none⟩ := by
     obtain ⟨_, hr, _⟩ := HLI.out; obtain ⟨b2, o2, e, _⟩ := hr.2 (by omega); exact ⟨b2, o2, e⟩
    have h5 : (400 : Int) ≤ (LC : Int) := by omega
    go_upto_region 9 with fail
    have hs := BV.out.set 13 (.slice (some ⟨b2, o2, none⟩) 400 LC); rw [inCell_lies] at hs; have BV := zz hs
    have HBV := zz (HBV.out.setCell (p := ⟨gv, 13, none⟩) (show w.heap.size ≤ gv from HGV.out) (.slice (some ⟨b2, o2, none⟩) 400 LC))
    have HO := zz (HO.out.kept (gr_setCell wt gv 13 (.slice (some ⟨b2, o2, none⟩) 400 LC)) (.inr HOG.out)); clear hs y13 f13
    generalize (wt.setCell ⟨gv, 13, none⟩ (.slice (some ⟨b2, o2, none⟩) 400 LC)) = wv at *
    have BV := zz (show Blk wv gv 56 (row 14 (inCell (capIn bad x).rd (capIn bad x).bad (.slice (some ⟨b2, o2, none⟩) (capIn bad x).ls.length LC))) from by rw [show (capIn bad x).ls.length = 400 from by show (x.ls.take 400).length = _; rw [List.length_take]; omega]; exact BV.out)
    obtain ⟨RV, hRV⟩ : ∃ R, row 14 (inCell (capIn bad x).rd (capIn bad x).bad (.slice (some ⟨b2, o2, none⟩) (capIn bad x).ls.length LC)) = R := ⟨_, rfl⟩
    have oV : RV.all (·.oneCell') = true := by rw [← hRV]; exact row_one fun j _ => inCell_one _ _ _ _ _ j
    have iV : (Try.prog.info? 56).map (·.size) = some RV.size := by rw [← hRV, row_size]; kernel_rfl
    have sV : RV.size = 14 := by rw [← hRV, row_size]
    rw [hRV] at BV; have HRV := zz hRV; clear hRV; have hbA : Below wv.heap.size wv (wv.alloc (.cells RV 56)) := (Below.refl _ _).alloc (Nat.le_refl _) _; have HO := zz (ownsRow_below HO.out hbA); have HBV := zz (onward HBV.out (Nat.le_refl _) hbA)
    have HCF := zz (show ∀ j u, RV.toList[j]? = some u → (wv.alloc (.cells RV 56)).cell? (Addr.add ⟨wv.heap.size, 0, none⟩ j) = some u from fun j u hu => by
     have := cells_fresh wv RV.toList 56 j u hu
     rwa [Array.toArray_toList] at this)
    have HO1 := zz (show ∀ u ∈ RV.toList, u.oneCell' = true from fun u hu => by rw [Array.all_eq_true'] at oV; exact oV u (by simpa using hu))
    have HBS := zz (show w.heap.size ≤ (wv.alloc (.cells RV 56)).heap.size from HBV.out.size)
    clear hbA oV
    go_upto_region 9 with fail
    refine wp_region_list ?_; refine wpList_wanted (by rfl) (fun K hK => ?_); go_simp; refine hK _ _ ?_; clear hK K; (try simp only [Rg.lp]); refine wpList_whole (by rfl) 56 _ rfl gv rfl BV.out _ Try.underlying56 rfl iV ?_; (try simp only [Rg.lp]); refine wpList_slice1 rfl 24 56 _ rfl (.agg RV) rfl 14 Try.underlying24 (by kernel_rfl) (by kernel_rfl) (by omega) (by omega) sV ?_; (try simp only [Rg.lp]); refine wpList_append_at _ rfl (.tmp 32) (.tmp 34) 24 rfl (base := w.heap.size) elemIns rfl HO.out rfl (news := RV.toList) (by rw [Array.length_toList, sV]) HCF.out HO1.out (by unfold maxLen; omega) (by omega) HBS.out ?_; intro A4 c4 w9 hown4 hg4 _; (try simp only [Rg.lp])
    have HB9 := zz (show Below w.heap.size w w9 from HBV.out.grown hg4 HBV.out.size (fun g e => (HO.out.lt g e).1))
    have HO4 := zz hown4; clear hown4 hg4; refine wpList_wanted (by rfl) (fun K hK => ?_); go_simp; refine hK _ _ ?_; clear hK K; (try simp only [Rg.lp]); go_wp2_with fail; have hl : cs.length = i * 14 := HO.out.1; refine ⟨⟨i + 1, A4, c4, cs ++ RV.toList, by omega, by omega, by go_num, rfl, HO4.out, fun j hj => ?_, HB9.out⟩, by simp [intOf]; omega⟩
    by_cases ej : j = i
    ·
     subst ej; rw [chunk_last hl (by rw [Array.length_toList, sV]), HXJ.out]
     refine ⟨some ⟨b2, o2, none⟩, LC, by rw [← HRV.out]; rfl, HLA.out, by show (x.ls.take 400).length ≤ LC; rw [List.length_take]; omega, hLc, lies_take HLI.out 400⟩
    ·
     rw [chunk_snoc hl j (by omega)]; exact HCS.out j (by omega)
   ·
    have hd4 : decide ((400 : Int) < (x.ls.length : Int)) = false := decide_eq_false (by omega)
    generalize wt = wv at *
    have BV := zz (show Blk wv gv 56 (row 14 (inCell (capIn bad x).rd (capIn bad x).bad (.slice LA (capIn bad x).ls.length LC))) from by rw [show (capIn bad x).ls.length = x.ls.length from by show (x.ls.take 400).length = _; rw [List.length_take]; omega]; exact BV.out)
    obtain ⟨RV, hRV⟩ : ∃ R, row 14 (inCell (capIn bad x).rd (capIn bad x).bad (.slice LA (capIn bad x).ls.length LC)) = R := ⟨_, rfl⟩
    have oV : RV.all (·.oneCell') = true := by rw [← hRV]; exact row_one fun j _ => inCell_one _ _ _ _ _ j
    have iV : (Try.prog.info? 56).map (·.size) = some RV.size := by rw [← hRV, row_size]; kernel_rfl
    have sV : RV.size = 14 := by rw [← hRV, row_size]
    rw [hRV] at BV; have HRV := zz hRV; clear hRV; have hbA : Below wv.heap.size wv (wv.alloc (.cells RV 56)) := (Below.refl _ _).alloc (Nat.le_refl _) _; have HO := zz (ownsRow_below HO.out hbA); have HBV := zz (onward HBV.out (Nat.le_refl _) hbA)
    have HCF := zz (show ∀ j u, RV.toList[j]? = some u → (wv.alloc (.cells RV 56)).cell? (Addr.add ⟨wv.heap.size, 0, none⟩ j) = some u from fun j u hu => by
     have := cells_fresh wv RV.toList 56 j u hu
     rwa [Array.toArray_toList] at this)
    have HO1 := zz (show ∀ u ∈ RV.toList, u.oneCell' = true from fun u hu => by rw [Array.all_eq_true'] at oV; exact oV u (by simpa using hu))
    have HBS := zz (show w.heap.size ≤ (wv.alloc (.cells RV 56)).heap.size from HBV.out.size)
    clear hbA oV
    go_upto_region 9 with fail
    refine wp_region_list ?_; refine wpList_wanted (by rfl) (fun K hK => ?_); go_simp; refine hK _ _ ?_; clear hK K; (try simp only [Rg.lp]); refine wpList_whole (by rfl) 56 _ rfl gv rfl BV.out _ Try.underlying56 rfl iV ?_; (try simp only [Rg.lp]); refine wpList_slice1 rfl 24 56 _ rfl (.agg RV) rfl 14 Try.underlying24 (by kernel_rfl) (by kernel_rfl) (by omega) (by omega) sV ?_; (try simp only [Rg.lp]); refine wpList_append_at _ rfl (.tmp 32) (.tmp 34) 24 rfl (base := w.heap.size) elemIns rfl HO.out rfl (news := RV.toList) (by rw [Array.length_toList, sV]) HCF.out HO1.out (by unfold maxLen; omega) (by omega) HBS.out ?_; intro A4 c4 w9 hown4 hg4 _; (try simp only [Rg.lp])
    have HB9 := zz (show Below w.heap.size w w9 from HBV.out.grown hg4 HBV.out.size (fun g e => (HO.out.lt g e).1))
    have HO4 := zz hown4; clear hown4 hg4; refine wpList_wanted (by rfl) (fun K hK => ?_); go_simp; refine hK _ _ ?_; clear hK K; (try simp only [Rg.lp]); go_wp2_with fail; have hl : cs.length = i * 14 := HO.out.1; refine ⟨⟨i + 1, A4, c4, cs ++ RV.toList, by omega, by omega, by go_num, rfl, HO4.out, fun j hj => ?_, HB9.out⟩, by simp [intOf]; omega⟩
    by_cases ej : j = i
    ·
     subst ej; rw [chunk_last hl (by rw [Array.length_toList, sV]), HXJ.out]
     refine ⟨LA, LC, by rw [← HRV.out]; rfl, HLA.out, by show (x.ls.take 400).length ≤ LC; rw [List.length_take]; omega, hLc, lies_take HLI.out 400⟩
    ·
     rw [chunk_snoc hl j (by omega)]; exact HCS.out j (by omega)
  ·
   by_cases hA1 : i < xs.length
   ·
    have hi3 : (i : Int) < (xs.length : Int) := by omega
    have hd2 : decide ((i : Int) < 200) = false := decide_eq_false (by omega)
    have HE := zz (show i = (ones bad xs).length from by unfold ones; rw [List.length_map, List.length_take]; omega)
    go_wp2_with fail
    go_ret
    obtain ⟨hca, hcb⟩ := own_cap HO.out; refine ⟨A', c', by rw [← HE.out]; rfl, hca, by rw [← HE.out]; exact hcb, ⟨cs, by rw [← HE.out]; exact Rd.of_own HO.out, fun j y hy => ?_⟩, HB.out⟩; have hj : j < (ones bad xs).length := (List.getElem?_eq_some_iff.1 hy).1; rw [← HE.out] at hj; obtain ⟨LA, LC, h1, h2, h3, h4, h5⟩ := HCS.out j hj
    have hy2 : y = capIn bad (xs.getD j default) := by
     unfold ones at hy
     rw [List.getElem?_map, List.getElem?_take, if_pos (by omega), List.getElem?_eq_getElem (show j < xs.length by omega)] at hy
     rw [List.getD_eq_getElem?_getD, List.getElem?_eq_getElem (show j < xs.length by omega)]
     exact (Option.some.inj hy).symm
    rw [hy2]; exact ⟨LA, LC, h1, h2, h3, h4, lies_more (h5.below HB.out) HB.out.size⟩
   ·
    have hd1 : decide ((i : Int) < (xs.length : Int)) = false := decide_eq_false (by omega)
    have HE := zz (show i = (ones bad xs).length from by unfold ones; rw [List.length_map, List.length_take]; omega)
    go_wp2_with fail
    go_ret
    obtain ⟨hca, hcb⟩ := own_cap HO.out; refine ⟨A', c', by rw [← HE.out]; rfl, hca, by rw [← HE.out]; exact hcb, ⟨cs, by rw [← HE.out]; exact Rd.of_own HO.out, fun j y hy => ?_⟩, HB.out⟩; have hj : j < (ones bad xs).length := (List.getElem?_eq_some_iff.1 hy).1; rw [← HE.out] at hj; obtain ⟨LA, LC, h1, h2, h3, h4, h5⟩ := HCS.out j hj
    have hy2 : y = capIn bad (xs.getD j default) := by
     unfold ones at hy
     rw [List.getElem?_map, List.getElem?_take, if_pos (by omega), List.getElem?_eq_getElem (show j < xs.length by omega)] at hy
     rw [List.getD_eq_getElem?_getD, List.getElem?_eq_getElem (show j < xs.length by omega)]
     exact (Option.some.inj hy).symm
    rw [hy2]; exact ⟨LA, LC, h1, h2, h3, h4, lies_more (h5.below HB.out) HB.out.size⟩
end Cf
namespace Nd
open Go.RowKit Mem Rws Flat
def cluK (t0 t1 t2 t3 : Int) (k i : Nat) : Value := if i = 0 then .int .i64 0 else if (i - 1) / 74 < k then nodeK ((i - 1) / 74 : Nat) t0 t1 t2 t3 3 ((i - 1) % 74) else node0 ((i - 1) % 74)
theorem cluK_succ (t0 t1 t2 t3 : Int) (k : Nat) (i : Nat) : over (1 + k * 74) 74 (nodeK (k : Int) t0 t1 t2 t3 3) (cluK t0 t1 t2 t3 k) i = cluK t0 t1 t2 t3 (k + 1) i := by
 by_cases h : 1 + k * 74 ≤ i ∧ i < 1 + k * 74 + 74
 ·
  rw [over_in h.1 h.2]
  have e1 : (i - 1) / 74 = k := by omega
  have e2 : (i - 1) % 74 = i - (1 + k * 74) := by omega
  unfold cluK
  rw [if_neg (by omega), e1, e2, if_pos (by omega)]
 ·
  rw [over_out (by omega)]
  unfold cluK
  by_cases h0 : i = 0
  · rw [if_pos h0, if_pos h0]
  ·
   rw [if_neg h0, if_neg h0]
   by_cases h1 : (i - 1) / 74 < k
   · rw [if_pos h1, if_pos (by omega)]
   · rw [if_neg h1, if_neg (show ¬ (i - 1) / 74 < k + 1 by omega)]
theorem node0_one (i : Nat) : (node0 i).oneCell' = true := by unfold node0; (repeat' split) <;> rfl
theorem cluK_one (t0 t1 t2 t3 : Int) (k i : Nat) : (cluK t0 t1 t2 t3 k i).oneCell' = true := by
 unfold cluK
 split
 · rfl
 ·
  split
  · exact nodeK_one _ _ _ _ _ _ _
  · exact node0_one _
set_option maxRecDepth 100000 in
theorem zero_cluster (t0 t1 t2 t3 : Int) : Try.zeroCells48 = row 297 (cluK t0 t1 t2 t3 0) := by
 have h : Try.zeroCells48 = row 297 fun i => if i = 0 then .int .i64 0 else node0 ((i - 1) % 74) := by kernel_rfl
 rw [h]; refine row_congr fun i _ => ?_
 unfold cluK
 by_cases h0 : i = 0
 · rw [if_pos h0, if_pos h0]
 · rw [if_neg h0, if_neg h0, if_neg (by omega)]
set_option maxRecDepth 100000 in
set_option maxHeartbeats 1000000 in
theorem cluster_any (t0 t1 t2 t3 : Int) (w : World) :
  Calls Try.prog 16 #[.agg #[.int .i64 t0, .int .i64 t1, .int .i64 t2, .int .i64 t3]] w fun e w' => e = .returned (.agg (row 297 (cluK t0 t1 t2 t3 4))) ∧ Below w.heap.size w w' := by
 go_enter Try.func16, Try.ntmps16
 go_wp2_with fail; have D1 : Hid (Blk (((w.alloc (.cells #[.int .i64 t0, .int .i64 t1, .int .i64 t2, .int .i64 t3] 23)).alloc (.cells Try.zeroCells48 48)).alloc (.cells Try.zeroCells48 48)) w.heap.size 23 #[.int .i64 t0, .int .i64 t1, .int .i64 t2, .int .i64 t3]) := zz (((Blk.new rfl).alloc _).alloc _); have D2 : Hid (Blk (((w.alloc (.cells #[.int .i64 t0, .int .i64 t1, .int .i64 t2, .int .i64 t3] 23)).alloc (.cells Try.zeroCells48 48)).alloc (.cells Try.zeroCells48 48)) (w.heap.size + 1) 48 (row 297 (cluK t0 t1 t2 t3 0))) := zz (by rw [zero_cluster t0 t1 t2 t3]; exact (Blk.new (by simp)).alloc _); have D3 : Hid (Blk (((w.alloc (.cells #[.int .i64 t0, .int .i64 t1, .int .i64 t2, .int .i64 t3] 23)).alloc (.cells Try.zeroCells48 48)).alloc (.cells Try.zeroCells48 48)) (w.heap.size + 1 + 1) 48 (row 297 (cluK t0 t1 t2 t3 0))) := zz (by rw [zero_cluster t0 t1 t2 t3]; exact Blk.new (by simp)); have HB := zz (((((Below.refl w.heap.size w).alloc (Nat.le_refl _) (.cells #[.int .i64 t0, .int .i64 t1, .int .i64 t2, .int .i64 t3] 23)).alloc (by simp) (.cells Try.zeroCells48 48)).alloc (by simp; omega) (.cells Try.zeroCells48 48)))
 generalize (((w.alloc (.cells #[.int .i64 t0, .int .i64 t1, .int .i64 t2, .int .i64 t3] 23)).alloc (.cells Try.zeroCells48 48)).alloc (.cells Try.zeroCells48 48)) = W at *
 go_loopw [5] (fun i wr => ∃ k : Nat, k ≤ 4 ∧ i = .int .i64 k ∧ Blk wr w.heap.size 23 #[.int .i64 t0, .int .i64 t1, .int .i64 t2, .int .i64 t3] ∧ Blk wr (w.heap.size + 1) 48 (row 297 (cluK t0 t1 t2 t3 0)) ∧ Blk wr (w.heap.size + 1 + 1) 48 (row 297 (cluK t0 t1 t2 t3 k)) ∧ Below w.heap.size w wr) (fun i _ => 4 - (intOf i).toNat)
 case atStart => exact ⟨0, by omega, rfl, D1.out, D2.out, D3.out, HB.out⟩
 case round =>
  clear D1 D2 D3 HB; obtain ⟨k, hk, rfl, d1, d2, d3, hb⟩ := hrel; have D1 := zz d1; have D2 := zz d2; have D3 := zz d3; have HB := zz hb; have x0 := d1.cell 0; have x1 := d1.cell 1; have x2 := d1.cell 2; have x3 := d1.cell 3; simp only [List.getElem?_toArray, List.getElem?_cons_zero, List.getElem?_cons_succ] at x0 x1 x2 x3; clear d1 d2 d3 hb
  by_cases hlt : k < 4
  ·
   go_wp2_with fail; refine (nodeBegin_yes (k : Int) t0 t1 t2 t3 _ (by omega) (by omega)).mono ?_; rintro e w1 ⟨rfl, hb1⟩; have E1 := zz (D1.out.below hb1 D1.out.lt); have E2 := zz (D2.out.below hb1 D2.out.lt); have E3 := zz (D3.out.below hb1 D3.out.lt); have HB1 := zz (onward HB.out (Nat.le_refl _) hb1)
   have hi74 : (Try.prog.info? 45).map (·.size) = some (row 74 (nodeK (k : Int) t0 t1 t2 t3 3)).size := by rw [row_size]; kernel_rfl
   have hth : w1.there (w.heap.size + 1 + 1) (1 + k * 74) (row 74 (nodeK (k : Int) t0 t1 t2 t3 3)).size := by rw [row_size]; exact row_there E3.out (1 + k * 74) 74 (by omega)
   have h174 : (row 74 (nodeK (k : Int) t0 t1 t2 t3 3)).all (·.oneCell') = true := row_one fun i _ => nodeK_one _ _ _ _ _ _ i; obtain ⟨R, hRR⟩ : ∃ R, row 74 (nodeK (k : Int) t0 t1 t2 t3 3) = R := ⟨_, rfl⟩; have HRR := zz hRR; rw [hRR] at hi74 hth h174 ⊢; clear hRR hb1 x0 x1 x2 x3
   go_wp2_with (refine wpList_wanted rfl (fun K hK => ?_); refine wp_store_mid 45 _ _ rfl (w.heap.size + 1 + 1) (1 + k * 74) R rfl rfl hth hi74 h174 (hK _ _ ?_))
   rw [← HRR.out]; refine ⟨⟨k + 1, by omega, by go_num, blk_mid_other (w := w1) (by omega) _ _ _ E1.out, blk_mid_other (w := w1) (by omega) _ _ _ E2.out, ?_, below_setCells (by omega) _ _ HB1.out⟩, by simp [intOf]; omega⟩; have := blk_mid E3.out (1 + k * 74) 74 (nodeK (k : Int) t0 t1 t2 t3 3); rw [row_congr (fun i _ => cluK_succ t0 t1 t2 t3 k i)] at this; exact this
  ·
   obtain rfl : k = 4 := by omega
   clear hlt x0 x1 x2 x3
   have hi : (Try.prog.info? 48).map (·.size) = some (row 297 (cluK t0 t1 t2 t3 4)).size := by rw [row_size]; kernel_rfl
   have h1 : (row 297 (cluK t0 t1 t2 t3 4)).all (·.oneCell') = true := row_one fun i _ => cluK_one _ _ _ _ _ i
   have hs : (row 297 (cluK t0 t1 t2 t3 0)).size = (row 297 (cluK t0 t1 t2 t3 4)).size := by rw [row_size, row_size]
   obtain ⟨R, hRR⟩ : ∃ R, row 297 (cluK t0 t1 t2 t3 4) = R := ⟨_, rfl⟩; have HRR := zz hRR; rw [hRR] at D3 hi h1 hs; clear hRR
   go_wp2_with (first
    | (refine wpList_whole rfl 48 _ rfl (w.heap.size + 1 + 1) rfl D3.out _ Try.underlying48 rfl hi ?_)
    | (refine wpList_store_row rfl 48 _ _ rfl (w.heap.size + 1) R rfl rfl 48 _ D2.out hi hs h1 ?_))
   exact ret_row rfl rfl (D2.out.setRow R) Try.underlying48 rfl hi rfl ⟨by rw [HRR.out], below_setRow HB.out (by omega) _⟩
end Nd
end Go.Proofs.Ytobigbnmbnhikaa
