/- Contracts: slices.Values, slices.Collect of it: a slice in memory of its own that holds the same numbers. -/
import Derived.Test.YtjfllpmiajkenaaFence2
import Derived.Test.YtjfllpmiajkenaaMsg
import Derived.Test.YtjfllpmiajkenaaOwnMore
namespace Go.Proofs.Ytjfllpmiajkenaa.So
open Go.RowKit Go.Shelf Go.Proofs.Ytjfllpmiajkenaa.Mem Go.Proofs.Ytjfllpmiajkenaa.Ms
set_option linter.unusedVariables false
set_option linter.unusedSimpArgs false
attribute [local go_sem] Oper.semAt_some

set_option maxRecDepth 100000 in
set_option maxHeartbeats 2000000 in
theorem values1_in (n : Nat) (hn : 1 ≤ n) (l Bs B cap : Nat) (A : Option Addr) (zs : List Int) (hreach : zs.length * 8 ≤ 140737488351232) (hBs : Bs < B) (J Jx : List Int → World → Prop)
    (hY : ∀ (pre : List Int) (x : Int) (W : World), J pre W → pre.length < zs.length → YieldAt Fence.wide (n - 1) Try.prog l #[.int .i64 x] W fun e W' =>
      (e = .returned (.bool true) ∧ J (pre ++ [x]) W' ∧ Below B W W') ∨ (e = .returned (.bool false) ∧ Jx (pre ++ [x]) W'))
    (W : World) (cs : W.cell? ⟨Bs, 0, none⟩ = some (.slice A zs.length cap)) (hr : Rd W B 1 A zs.length (intsV zs)) (h0 : J [] W) :
    CallsIn Fence.wide n Try.prog 94 #[.func (.yield l) #[] #[], .pointer (some ⟨Bs, 0, none⟩)] W fun e W' => (∃ v, e = .returned v) ∧
      ((∃ ys, ys = zs ∧ J ys W') ∨ (∃ pre, (∃ i, pre = zs.take i) ∧ Jx pre W')) := by
  have HR := Lib.hid hr
  clear hr
  refine callsIn_of_wp Try.func94 rfl trivial ?_ rfl
  simp only [Try.ntmps94, List.size_toArray, List.length_cons, List.length_nil, Nat.reduceAdd, Nat.reduceSub, Array.replicate_succ, Array.replicate_zero, List.push_toArray, List.append_toArray, List.nil_append, List.cons_append]
  gi_wp2
  gi_loopw [7] (fun iv wr => ∃ i : Nat, i ≤ zs.length ∧ iv = .int .i64 (i : Nat) ∧ J (zs.take i) wr ∧ Below B W wr)
    (fun iv _ => zs.length - (intOf iv).toNat)
  case atStart => exact ⟨0, Nat.zero_le _, rfl, h0, Below.refl _ _⟩
  case round =>
    obtain ⟨i, hi, rfl, hJs, hnx⟩ := hrel
    by_cases hlt : i < zs.length
    · obtain ⟨b, o, u, rfl, hbB, hu, hcell⟩ := (HR.out.below hnx).at hlt
      rw [intsV_at zs i hlt] at hu
      obtain rfl := Option.some.inj hu
      obtain ⟨fn, tmps, assign, body, hy, hR⟩ := hY _ zs[i] wr hJs (by rw [List.length_take]; omega)
      have HT := Lib.hid (show zs.take (i + 1) = zs.take i ++ [zs[i]] by rw [List.take_add_one, List.getElem?_eq_getElem hlt]; rfl)
      clear hu
      generalize zs[i] = z at *
      have hl0 : (0 : Int) ≤ (i : Int) := by omega
      have hl1 : (i : Int) < (zs.length : Int) := by omega
      gi_wp2
      refine hR.mono ?_
      rintro e W3 (⟨rfl, hJ3, hk3⟩ | ⟨rfl, hJx3⟩)
      · gi_wp2
        go_roundw
        case rel => exact ⟨i + 1, by omega, by go_num, by rw [HT.out]; exact hJ3, hnx.trans hk3⟩
        case measure => simp [intOf]; omega
      · gi_wp2
        refine bodyPost_ret (results_none rfl _ _ _) rfl ?_
        exact ⟨⟨_, rfl⟩, .inr ⟨_, ⟨i + 1, HT.out.symm⟩, hJx3⟩⟩
    · obtain rfl : i = zs.length := by omega
      gi_wp2
      go_end0
      exact ⟨⟨_, rfl⟩, .inl ⟨_, rfl, by rw [List.take_length] at hJs; exact hJs⟩⟩

set_option maxHeartbeats 1000000 in
theorem values_any (A : Option Addr) (len cap : Nat) (w : World) :
    Calls Try.prog 67 #[.slice A len cap] w fun e w' => e = .returned (.func (.func 94) #[] #[.pointer (some ⟨w.heap.size, 0, none⟩)]) ∧ w' = w.alloc (.cells #[.slice A len cap] 39) := by
  go_enter Try.func67, Try.ntmps67
  go_wp2_with fail
  go_ret
  exact ⟨rfl, rfl⟩

theorem values_stops (n : Nat) (hn : 1 ≤ n) (Bs B cap : Nat) (A : Option Addr) (zs : List Int) (hreach : zs.length * 8 ≤ 140737488351232) (hBs : Bs < B) (w : World) (hB : B ≤ w.heap.size)
    (cs : w.cell? ⟨Bs, 0, none⟩ = some (.slice A zs.length cap)) (hr : Rd w B 1 A zs.length (intsV zs)) :
    SeqStopsK Fence.wide n Try.prog 94 #[.pointer (some ⟨Bs, 0, none⟩)] (fun x : Int => #[.int .i64 x]) (Below B) (fun ys => ys = zs) (fun pre => ∃ i, pre = zs.take i) zs.length w := fun l J Jx W hW _ _ hY h0 =>
  values1_in n hn l Bs B cap A zs hreach hBs J Jx hY W ((hW.cell (p := ⟨Bs, 0, none⟩) (Nat.lt_of_lt_of_le hBs hB)).trans cs) (hr.below (hW.mono hB)) h0

/-- between two rounds: what has come lies in a slice that is the call's own -/
def AppI (w W0 : World) (bx : Nat) (pre : List Int) (W : World) : Prop :=
  ∃ A c, Blk W bx 39 #[.slice A pre.length c] ∧ W.ownsRow W0.heap.size 3 1 (.slice A pre.length c) pre.length (intsV pre) ∧ Below w.heap.size w W ∧ W0.heap.size ≤ W.heap.size
theorem appI_own (w W0 : World) (bx : Nat) (h1 : w.heap.size ≤ W0.heap.size) : OwnFrom W0.heap.size (AppI w W0 bx) := by
  intro s X Y r ⟨A, c, a1, a2, a3, a4⟩ hg hr
  exact ⟨A, c, Fc.grown_blk a1 hg hr, Fc.grown_own a2 hg hr, ownFrom_below (β := Unit) (Nat.le_refl _) h1 () X Y r a3 hg hr, Nat.le_trans a4 hg.size⟩

set_option maxRecDepth 100000 in
set_option maxHeartbeats 4000000 in
theorem appendSeq_in (gf : Nat) (lb : Array Value) (eg : ∀ args w, (callFunc gf args).run Try.prog w = .ok (.enter gf args) w) (zs : List Int) (hl : zs.length ≤ 1000) (Sp : List Int → Prop) (w : World)
    (hseq : ∀ w', Below w.heap.size w w' → SeqStopsK Fence.wide 2 Try.prog gf lb (fun x : Int => #[.int .i64 x]) (Below w.heap.size) (fun ys => ys = zs) Sp zs.length w') :
    Calls Try.prog 103 #[.slice none 0 0, .func (.func gf) #[] lb] w fun e w' => ∃ A c, e = .returned (.slice A zs.length c) ∧ w'.ownsRow w.heap.size 3 1 (.slice A zs.length c) zs.length (intsV zs) ∧ Below w.heap.size w w' := by
  refine (callsIn_wide (n := 3)).1 ?_
  refine callsIn_of_wp_marks Try.func103 rfl trivial ?_ rfl
  simp only [Try.ntmps103, List.size_toArray, List.length_cons, List.length_nil, Nat.reduceAdd, Nat.reduceSub, Array.replicate_succ, Array.replicate_zero, List.push_toArray, List.append_toArray, List.nil_append, List.cons_append]
  refine wpIn_wide.2 ?_
  go_wp2_with fail
  have H2 := Lib.hid (Blk.fresh w 39 #[.slice none 0 0])
  have HB := Lib.hid ((Below.refl w.heap.size w).alloc (Nat.le_refl _) (.cells #[.slice none 0 0] 39))
  have HSZ := Lib.hid (show (w.alloc (.cells #[.slice none 0 0] 39)).heap.size = w.heap.size + 1 by simp)
  generalize (w.alloc (.cells #[.slice none 0 0] 39)) = W0 at *
  refine (wpIn_wide (n := 3)).1 ?_
  refine Fc.rangeF (F := Fence.wide) (n := 3) (t := 7) (d := 5) rfl (by omega) (gf := gf) (lb := lb) rfl trivial eg (fun x : Int => .int .i64 x) (hseq W0 HB.out)
    (fun h k => h.trans k) (belowK_b (by rw [HSZ.out]; omega)) (AppI w W0 w.heap.size) (appI_own w W0 w.heap.size HB.out.size) ?start ?assign ?body ?done
  case start => exact ⟨none, 0, H2.out, World.ownsRow_nil _ _ _ _, HB.out, Nat.le_refl _⟩
  case assign =>
    intro l x W K hK
    simp only [List.setIfInBounds_toArray, List.set_cons_zero, List.set_cons_succ] at hK ⊢
    gi_wp2
    exact hK
  case body =>
    rintro l pre x W ⟨A, c, J2, JV, JB, JS⟩ hlen
    have H2 := Lib.hid (J2.alloc (.cells #[.int .i64 x] 3))
    have HV := Lib.hid (Nd.ownsRow_below JV ((Below.refl W.heap.size W).alloc (Nat.le_refl _) (.cells #[.int .i64 x] 3)))
    have HX := Lib.hid (JB.alloc JB.size (.cells #[.int .i64 x] 3))
    have HW := Lib.hid ((Below.refl w.heap.size W).alloc JB.size (.cells #[.int .i64 x] 3))
    have HK := Lib.hid (KeepsOthers.alloc W (.cells #[.int .i64 x] 3))
    have HS := Lib.hid (Fc.rd_one W (.int .i64 x) 3)
    have HSL := Lib.hid (show w.heap.size + 1 ≤ W.heap.size by have := HSZ.out; omega)
    have x2 := J2.cell 0
    simp only [List.getElem?_toArray, List.getElem?_cons_zero] at x2
    clear J2 JV JB JS
    refine wpIn_block ?_
    refine Fc.regionIn (by rfl) ?_
    simp only [List.setIfInBounds_toArray, List.set_cons_zero, List.set_cons_succ]
    go_wp2_with (at_builtin; go_loud (refine wpList_append_rd _ rfl (.tmp 8) (.tmp 10) 39 rfl (base := W0.heap.size) elemInts rfl HV.out rfl (fun h => by cases h) HS.out (by simp [Value.oneCell']) (by unfold maxLen; omega) (by omega) (by have := HSZ.out; have := HSL.out; simp; omega) ?_); intro A9 c9 w5 hA9 hown2 hg2; have HO5 := Lib.hid hown2; have H25 := Lib.hid (H2.out.grown hg2 (fun e => by have := (HV.out.lt _ e.symm).1; have := HSZ.out; omega)); have HB5 := Lib.hid (HX.out.grown hg2 (by have := HX.out.size; omega) (fun g e => by have := (HV.out.lt g e).1; have := HSZ.out; omega)); have HW5 := Lib.hid (HW.out.grown hg2 (by have := HX.out.size; omega) (fun g e => by have := (HV.out.lt g e).1; have := HSZ.out; omega)); have HK5 := Lib.hid (HK.out.trans (KeepsOthers.of_grownBy hg2 (fun j o e ho => by obtain ⟨cur, t, h, _⟩ := own_is HV.out (t' := 0) (by decide) j e; rw [h] at ho; cases ho; rfl))); have HZ5 := Lib.hid (Nat.le_trans (show W.heap.size + 1 ≤ _ by simp) hg2.size); clear hown2 hg2; have v5 := H25.out.cell 0; have f5 := H25.out.thaw 0; simp only [List.getElem?_toArray, List.getElem?_cons_zero] at v5)
    exact ⟨HK5.out.trans (KeepsOthers.setCell _ _ _), HW5.out.setCell (p := ⟨w.heap.size, 0, none⟩) (Nat.le_refl _) _, A9, c9, by rw [List.length_append]; exact H25.out.set 0 _, by rw [List.length_append, show intsV (pre ++ [x]) = intsV pre ++ [.int .i64 x] by simp [intsV]]; exact ownsRow_setCell_below HO5.out (by show w.heap.size < W0.heap.size; have := HSZ.out; omega) _, HB5.out.setCell (p := ⟨w.heap.size, 0, none⟩) (Nat.le_refl _) _, by rw [World.size_setCell]; have := HZ5.out; have := HSZ.out; have := HSL.out; omega⟩
  case done =>
    rintro D xs W hD rfl ⟨A, c, J2, JV, JB, JS⟩ hK
    have x2 := J2.cell 0
    simp only [List.getElem?_toArray, List.getElem?_cons_zero] at x2
    have HB := Lib.hid JB
    have HV := Lib.hid JV
    have HK := Lib.hid hK
    have HD := Lib.hid (show w.heap.size ≤ D by have := HSZ.out; omega)
    clear J2 JV JB JS hK hD
    go_wp2_with fail
    refine Fc.out_one HK.out ?_
    go_ret
    exact ⟨A, c, rfl, own_weaken (Fc.put_own HV.out HK.out _) (by have := HSZ.out; omega), HB.out.grown (grownBy_putObj' _ D _) HB.out.size (fun k e => by cases e; exact HD.out)⟩

set_option maxRecDepth 100000 in
set_option maxHeartbeats 1000000 in
theorem collect_any (A : Option Addr) (cap : Nat) (zs : List Int) (hl : zs.length ≤ 1000) (Bs : Nat) (w : World) (hBs : Bs < w.heap.size) (cs : w.cell? ⟨Bs, 0, none⟩ = some (.slice A zs.length cap)) (hr : Rd w w.heap.size 1 A zs.length (intsV zs)) :
    Calls Try.prog 92 #[.func (.func 94) #[] #[.pointer (some ⟨Bs, 0, none⟩)]] w fun e w' => ∃ A c, e = .returned (.slice A zs.length c) ∧ w'.ownsRow w.heap.size 3 1 (.slice A zs.length c) zs.length (intsV zs) ∧ Below w.heap.size w w' := by
  have C := Lib.hid (appendSeq_in 94 #[.pointer (some ⟨Bs, 0, none⟩)] (enters_of Try.func94 (by kernel_rfl) rfl) zs hl (fun pre => ∃ i, pre = zs.take i) w
    (fun w' hw' => values_stops 2 (by omega) Bs w.heap.size cap A zs (by omega) hBs w' hw'.size ((hw'.cell (p := ⟨Bs, 0, none⟩) hBs).trans cs) (hr.below hw')))
  clear cs hr
  go_enter Try.func92, Try.ntmps92
  go_wp2_with fail
  refine C.out.mono ?_
  rintro e w1 ⟨A1, c1, rfl, hown, hb⟩
  have HO := Lib.hid hown
  clear hown C
  go_wp2_with fail
  go_ret
  exact ⟨A1, c1, rfl, HO.out, hb⟩
end Go.Proofs.Ytjfllpmiajkenaa.So
