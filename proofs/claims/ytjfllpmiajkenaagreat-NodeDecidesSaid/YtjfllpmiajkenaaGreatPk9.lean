import Derived.Test.YtjfllpmiajkenaaGreatPk1
import Derived.RangeFuncNested
import Derived.RangeFuncBound
import Derived.RangeFuncCalls
import Derived.RangeFuncLeaves
import Derived.Shelf.Abstract
import Derived.Shelf.RegionOpen
import Derived.WalkKit
import Derived.OwnWalkIn
import Derived.TacticsInMore
import Derived.LoopNIn
import Derived.LoopIn
import Derived.Test.YtjfllpmiajkenaaGreatPk0
import Derived.Test.YtjfllpmiajkenaaGreatPk3
import Derived.Laws.BitsAllLaws
import Derived.IntWalk
namespace Go.Proofs.YtjfllpmiajkenaaGreat.Fc
open Go.RowKit
set_option linter.unusedVariables false
section
variable {n l : Nat} {P : Program} {ops : Array Oper} {Q : Exit → Act → World → Prop} {md : Region.Mode}
theorem wpIn_of_wp {o : Oper} {a : Act} {w : World} {K : Act → World → Prop} (hd : ∀ c, o.op ≠ .defer c) (h : o.wp P a w K Q) : o.wpIn (Fence.wide.inRound l) n P a w K Q := by
  unfold Oper.wp at h
  unfold Oper.wpIn
  refine ⟨fun _ _ => trivial, ?_⟩
  rw [Oper.semAt_eq _ _ _ hd]
  generalize (execOp a.eval o).run P w = r at *
  cases r with
  | ok x w' =>
    cases x <;> simp only [Oper.upon, Oper.uponIn] at h ⊢ <;>
      first
        | exact h
        | exact h.elim
        | exact ⟨fun e => (by cases e), CallsIn.inRound l (callsIn_wide.2 h)⟩
        | exact ⟨fun e => (by cases e), fun c cs _ => let ⟨v, w', r, s⟩ := h c cs; ⟨v, w', r, stepsIn_wide.2 s⟩⟩
  | halt x w' => cases x <;> simp only [Oper.upon, Oper.uponIn] at h ⊢ <;> exact h
def Norm (K : Act → World → Prop) : Exit → Act → World → Prop
  | .normal, a, w => K a w
  | _, _, _ => False
theorem norm_no (K : Act → World → Prop) : ¬ LetsOut (Norm K) := fun ⟨_, _, h⟩ => h
theorem norm_imp {Q : Exit → Act → World → Prop} : ∀ (e : Exit) (a : Act) (w : World), Norm (Q .normal) e a w → Q e a w := fun e a w h => by
  cases e <;> first | exact h | exact (h : False).elim
end
theorem rangeF {α : Type} {n : Nat} {P : Program} {F : Fence} {g : Operand} {t d : Tmp} {assign body : Code} {Q : Exit → Act → World → Prop} {a : Act} {w : World}
    (hro : F.round = none) (h1 : 1 ≤ n) {gf : Nat} {lb : Array Value} (hg : a.eval g = .func (.func gf) #[] lb) (hFg : F.fn gf) (eg : ∀ args w, (callFunc gf args).run P w = .ok (.enter gf args) w)
    (enc : α → Value) {Kp : World → World → Prop} {S Sp : List α → Prop} {N : Nat} (hseq : SeqStopsK F (n - 1) P gf lb (fun x => #[enc x]) Kp S Sp N w)
    (hKt : ∀ {A B C : World}, Kp A B → Kp B C → Kp A C) (hKb : ∀ (W : World) (l : Nat) (o o' : Obj), w.heap.size ≤ l → W.heap[l]? = some o → o.isCells = false → o.isWalk = false → Kp W (W.putObj l o'))
    (I : List α → World → Prop) (hI : OwnFrom w.heap.size I) (h0 : I [] w)
    (hassign : ∀ (l : Nat) (x : α) (W : World) (K : Act → World → Prop), K { tmps := (a.tmps.setIfInBounds t (enc x)).setIfInBounds d (enc x), defers := [] } W →
      assign.wpIn (F.inRound l) (n - 1 - 1) P (Exit.then K (fun _ _ _ => False)) { tmps := a.tmps.setIfInBounds t (enc x), defers := [] } W)
    (hbody : ∀ (l : Nat) (pre : List α) (x : α) (W : World), I pre W → pre.length < N → body.wpIn (F.inRound l) (n - 1 - 1) P (ownPostK Kp I (fun _ _ _ => False) (pre ++ [x]) W) { tmps := (a.tmps.setIfInBounds t (enc x)).setIfInBounds d (enc x), defers := [] } W)
    (hdone : ∀ (D : Nat) (xs : List α) (W : World), w.heap.size ≤ D → S xs → I xs W → W.heap[D]? = some (.deferred (some [])) → Q .normal { a with defers := { target := .collected D, args := #[] } :: a.defers } W) :
    (Code.rangeFunc g #[t] assign body).wpIn F n P Q a w :=
  wpIn_rangeFunc_ownF hro h1 hg hFg eg hseq hKt hKb (Below.refl _ _) (fun _ => rfl) I (fun _ _ _ => False) hI (fun _ _ _ _ _ h _ _ => h) h0 (fun x => { tmps := (a.tmps.setIfInBounds t (enc x)).setIfInBounds d (enc x), defers := [] })
    (fun l x W K hK => by have h := hassign l x W K hK; have e : (#[t].zip #[enc x]) = #[(t, enc x)] := (by simp); rw [e]; simpa using h) hbody hdone (fun _ _ _ _ _ _ h _ => h.elim)
theorem out_one {P : Program} {fn : Func} {R : Ending → World → Prop} {n D : Nat} {tmps : Array Value} {w : World} (hK : w.heap[D]? = some (.deferred (some []))) (h : bodyPost P fn R .ret { tmps := tmps, defers := [] } (w.putObj D (.deferred none))) :
    bodyPostM Fence.wide n P fn R .ret { tmps := tmps, defers := [{ target := .collected D, args := #[] }] } w := by
  obtain ⟨_, hv⟩ := h
  exact ⟨by simp, .inl ⟨_, _, rfl, run_takeDeferred hK, hv⟩⟩
end Go.Proofs.YtjfllpmiajkenaaGreat.Fc
namespace Go.Proofs.YtjfllpmiajkenaaGreat.Fc
open Go.RowKit Go.Proofs.YtjfllpmiajkenaaGreat.Mem
set_option linter.unusedVariables false
section
variable {n l : Nat} {P : Program} {ops : Array Oper} {Q : Exit → Act → World → Prop}
theorem wpListIn_of (hlo : ¬ LetsOut Q) : ∀ (rest : List Oper), (∀ o ∈ rest, ∀ c, o.op ≠ .defer c) → ∀ (a : Act) (w : World), wpList P ops Q rest a w → wpListIn (Fence.wide.inRound l) n P ops Q rest a w
  | [], _, _, _, h => h
  | o :: rest, hd, a, w, h => by
    unfold wpList at h
    unfold wpListIn
    split
    · rename_i hw
      rw [if_pos hw] at h
      have h1 := h.resolve_right fun x => hlo x.2
      have h2 := wpIn_of_wp (n := n) (l := l) (fun c => hd o (List.mem_cons_self) c) h1
      exact Oper.wpIn_mono (fun a' w' h' => wpListIn_of hlo rest (fun o' ho' => hd o' (List.mem_cons_of_mem _ ho')) a' w' h') h2
    · rename_i hw
      rw [if_neg hw] at h
      exact ⟨fun _ _ => trivial, wpListIn_of hlo rest (fun o' ho' => hd o' (List.mem_cons_of_mem _ ho')) _ _ h⟩
theorem regionIn {id : Nat} {a : Act} {w : World} (hd : ops.toList.all (fun o => match o.op with | .defer _ => false | _ => true) = true) (h : wpList P ops (Norm (Q .normal)) ops.toList a w) : (Code.region id ops false).wpIn (Fence.wide.inRound l) n P Q a w :=
  wpIn_mono (wpIn_region_list (wpListIn_of (norm_no _) _ (fun o ho c e => by
    have h1 := List.all_eq_true.1 hd o ho
    rw [e] at h1
    cases h1) _ _ h)) norm_imp
end
theorem rd_one (w : World) (v : Value) (e : TypeId) : Rd (w.alloc (.cells #[v] e)) (w.heap.size + 1) 1 (some ⟨w.heap.size, 0, none⟩) 1 [v] := by
  refine ⟨rfl, fun _ => ⟨w.heap.size, 0, rfl, by omega, fun j u hu => ?_⟩⟩
  have h := (Blk.fresh w e #[v]).cell j
  rw [Nat.zero_add, h]
  simpa using hu
theorem grown_blk {W W' : World} {row : Option Nat} {B g : Nat} {t : TypeId} {cs : Array Value} (h : Blk W g t cs) (hg : W.grownBy W' row) (hr : ∀ r, row = some r → B ≤ r ∧ ∃ o : Obj, W.heap[r]? = some o ∧ o.isCells = false) : Blk W' g t cs :=
  h.grown hg fun e => by
    obtain ⟨_, o, ho, hc⟩ := hr g e.symm
    unfold Blk at h
    rw [h] at ho
    cases ho
    cases hc
theorem grown_own {W W' : World} {row : Option Nat} {B base : Nat} {e : TypeId} {size : Nat} {v : Value} {n : Nat} {xs : List Value} (h : W.ownsRow base e size v n xs) (hg : W.grownBy W' row) (hr : ∀ r, row = some r → B ≤ r ∧ ∃ o : Obj, W.heap[r]? = some o ∧ o.isCells = false) : W'.ownsRow base e size v n xs := by
  have h' := h
  obtain ⟨_, ⟨hv, _⟩ | ⟨g, cap, cur, hv, _, hh, _⟩⟩ := h
  · exact h'.kept hg (.inl (by rw [hv]; rfl))
  · refine h'.kept hg (.inr fun e => ?_)
    rw [hv] at e
    obtain ⟨_, o, ho, hc⟩ := hr g (by rw [← e]; rfl)
    rw [hh] at ho
    cases ho
    cases hc
theorem put_own {W : World} {base D : Nat} {e : TypeId} {size : Nat} {v : Value} {n : Nat} {xs : List Value} (h : W.ownsRow base e size v n xs) (hD : W.heap[D]? = some (.deferred (some []))) (o : Obj) : (W.putObj D o).ownsRow base e size v n xs := by
  have h' := h
  obtain ⟨_, ⟨hv, _⟩ | ⟨g, cap, cur, hv, _, hh, _⟩⟩ := h
  · exact h'.kept (grownBy_putObj' W D o) (.inl (by rw [hv]; rfl))
  · refine h'.kept (grownBy_putObj' W D o) (.inr fun e => ?_)
    rw [hv] at e
    cases e
    rw [hh] at hD
    cases hD
end Go.Proofs.YtjfllpmiajkenaaGreat.Fc
namespace Go.Proofs.YtjfllpmiajkenaaGreat.So
open Go.RowKit Go.Shelf Go.Proofs.YtjfllpmiajkenaaGreat.Mem Go.Proofs.YtjfllpmiajkenaaGreat.Ms
set_option linter.unusedVariables false
set_option linter.unusedSimpArgs false
attribute [local go_sem] Oper.semAt_some
set_option maxRecDepth 100000 in
set_option maxHeartbeats 2000000 in
theorem values1_in (n : Nat) (hn : 1 ≤ n) (l Bs B cap : Nat) (A : Option Addr) (zs : List Int) (hreach : zs.length * 8 ≤ 140737488351232) (hBs : Bs < B) (J Jx : List Int → World → Prop)
    (hY : ∀ (pre : List Int) (x : Int) (W : World), J pre W → pre.length < zs.length → YieldAt Fence.wide (n - 1) Tryz.prog l #[.int .i64 x] W fun e W' =>
      (e = .returned (.bool true) ∧ J (pre ++ [x]) W' ∧ Below B W W') ∨ (e = .returned (.bool false) ∧ Jx (pre ++ [x]) W'))
    (W : World) (cs : W.cell? ⟨Bs, 0, none⟩ = some (.slice A zs.length cap)) (hr : Rd W B 1 A zs.length (intsV zs)) (h0 : J [] W) :
    CallsIn Fence.wide n Tryz.prog 121 #[.func (.yield l) #[] #[], .pointer (some ⟨Bs, 0, none⟩)] W fun e W' => (∃ v, e = .returned v) ∧
      ((∃ ys, ys = zs ∧ J ys W') ∨ (∃ pre, (∃ i, pre = zs.take i) ∧ Jx pre W')) := by
  have HR := Lib.hid hr
  clear hr
  refine callsIn_of_wp Tryz.func121 rfl trivial ?_ rfl
  simp only [Tryz.ntmps121, List.size_toArray, List.length_cons, List.length_nil, Nat.reduceAdd, Nat.reduceSub, Array.replicate_succ, Array.replicate_zero, List.push_toArray, List.append_toArray, List.nil_append, List.cons_append]
  gi_wp2
  gi_loopw [7] (fun iv wr => ∃ i : Nat, i ≤ zs.length ∧ iv = .int .i64 (i : Nat) ∧ J (zs.take i) wr ∧ Below B W wr)
    (fun iv _ => zs.length - (intOf iv).toNat)
  case atStart => exact ⟨0, Nat.zero_le _, rfl, h0, Below.refl _ _⟩
  case round =>
    obtain ⟨i, hi, rfl, hJs, hnx⟩ := hrel
    by_cases hlt : i < zs.length
    · obtain ⟨b, o, u, rfl, hbB, hu, hcell⟩ := (HR.out.below hnx).at hlt
      rw [intsV_at zs i hlt] at hu
      obtain rfl := Option.some.inj hu
      obtain ⟨fn, tmps, assign, body, hy, hR⟩ := hY _ zs[i] wr hJs (by rw [List.length_take]; omega)
      have HT := Lib.hid (show zs.take (i + 1) = zs.take i ++ [zs[i]] by rw [List.take_add_one, List.getElem?_eq_getElem hlt]; rfl)
      clear hu
      generalize zs[i] = z at *
      have hl0 : (0 : Int) ≤ (i : Int) := by omega
      have hl1 : (i : Int) < (zs.length : Int) := by omega
      gi_wp2
      refine hR.mono ?_
      rintro e W3 (⟨rfl, hJ3, hk3⟩ | ⟨rfl, hJx3⟩)
      · gi_wp2
        go_roundw
        case rel => exact ⟨i + 1, by omega, by go_num, by rw [HT.out]; exact hJ3, hnx.trans hk3⟩
        case measure => simp [intOf]; omega
      · gi_wp2
        refine bodyPost_ret (results_none rfl _ _ _) rfl ?_
        exact ⟨⟨_, rfl⟩, .inr ⟨_, ⟨i + 1, HT.out.symm⟩, hJx3⟩⟩
    · obtain rfl : i = zs.length := by omega
      gi_wp2
      go_end0
      exact ⟨⟨_, rfl⟩, .inl ⟨_, rfl, by rw [List.take_length] at hJs; exact hJs⟩⟩
set_option maxHeartbeats 1000000 in
theorem values_any (A : Option Addr) (len cap : Nat) (w : World) :
    Calls Tryz.prog 87 #[.slice A len cap] w fun e w' => e = .returned (.func (.func 121) #[] #[.pointer (some ⟨w.heap.size, 0, none⟩)]) ∧ w' = w.alloc (.cells #[.slice A len cap] 39) := by
  go_enter Tryz.func87, Tryz.ntmps87
  go_wp2_with fail
  go_ret
  exact ⟨rfl, rfl⟩
theorem values_stops (n : Nat) (hn : 1 ≤ n) (Bs B cap : Nat) (A : Option Addr) (zs : List Int) (hreach : zs.length * 8 ≤ 140737488351232) (hBs : Bs < B) (w : World) (hB : B ≤ w.heap.size)
    (cs : w.cell? ⟨Bs, 0, none⟩ = some (.slice A zs.length cap)) (hr : Rd w B 1 A zs.length (intsV zs)) :
    SeqStopsK Fence.wide n Tryz.prog 121 #[.pointer (some ⟨Bs, 0, none⟩)] (fun x : Int => #[.int .i64 x]) (Below B) (fun ys => ys = zs) (fun pre => ∃ i, pre = zs.take i) zs.length w := fun l J Jx W hW _ _ hY h0 =>
  values1_in n hn l Bs B cap A zs hreach hBs J Jx hY W ((hW.cell (p := ⟨Bs, 0, none⟩) (Nat.lt_of_lt_of_le hBs hB)).trans cs) (hr.below (hW.mono hB)) h0
def AppI (w W0 : World) (bx : Nat) (pre : List Int) (W : World) : Prop :=
  ∃ A c, Blk W bx 39 #[.slice A pre.length c] ∧ W.ownsRow W0.heap.size 3 1 (.slice A pre.length c) pre.length (intsV pre) ∧ Below w.heap.size w W ∧ W0.heap.size ≤ W.heap.size
theorem appI_own (w W0 : World) (bx : Nat) (h1 : w.heap.size ≤ W0.heap.size) : OwnFrom W0.heap.size (AppI w W0 bx) := by
  intro s X Y r ⟨A, c, a1, a2, a3, a4⟩ hg hr
  exact ⟨A, c, Fc.grown_blk a1 hg hr, Fc.grown_own a2 hg hr, ownFrom_below (β := Unit) (Nat.le_refl _) h1 () X Y r a3 hg hr, Nat.le_trans a4 hg.size⟩
set_option maxRecDepth 100000 in
set_option maxHeartbeats 4000000 in
theorem appendSeq_in (gf : Nat) (lb : Array Value) (eg : ∀ args w, (callFunc gf args).run Tryz.prog w = .ok (.enter gf args) w) (zs : List Int) (hl : zs.length ≤ 1000) (Sp : List Int → Prop) (w : World)
    (hseq : ∀ w', Below w.heap.size w w' → SeqStopsK Fence.wide 2 Tryz.prog gf lb (fun x : Int => #[.int .i64 x]) (Below w.heap.size) (fun ys => ys = zs) Sp zs.length w') :
    Calls Tryz.prog 143 #[.slice none 0 0, .func (.func gf) #[] lb] w fun e w' => ∃ A c, e = .returned (.slice A zs.length c) ∧ w'.ownsRow w.heap.size 3 1 (.slice A zs.length c) zs.length (intsV zs) ∧ Below w.heap.size w w' := by
  refine (callsIn_wide (n := 3)).1 ?_
  refine callsIn_of_wp_marks Tryz.func143 rfl trivial ?_ rfl
  simp only [Tryz.ntmps143, List.size_toArray, List.length_cons, List.length_nil, Nat.reduceAdd, Nat.reduceSub, Array.replicate_succ, Array.replicate_zero, List.push_toArray, List.append_toArray, List.nil_append, List.cons_append]
  refine wpIn_wide.2 ?_
  go_wp2_with fail
  have H2 := Lib.hid (Blk.fresh w 39 #[.slice none 0 0])
  have HB := Lib.hid ((Below.refl w.heap.size w).alloc (Nat.le_refl _) (.cells #[.slice none 0 0] 39))
  have HSZ := Lib.hid (show (w.alloc (.cells #[.slice none 0 0] 39)).heap.size = w.heap.size + 1 by simp)
  generalize (w.alloc (.cells #[.slice none 0 0] 39)) = W0 at *
  refine (wpIn_wide (n := 3)).1 ?_
  refine Fc.rangeF (F := Fence.wide) (n := 3) (t := 7) (d := 5) rfl (by omega) (gf := gf) (lb := lb) rfl trivial eg (fun x : Int => .int .i64 x) (hseq W0 HB.out)
    (fun h k => h.trans k) (belowK_b (by rw [HSZ.out]; omega)) (AppI w W0 w.heap.size) (appI_own w W0 w.heap.size HB.out.size) ?start ?assign ?body ?done
  case start => exact ⟨none, 0, H2.out, World.ownsRow_nil _ _ _ _, HB.out, Nat.le_refl _⟩
  case assign =>
    intro l x W K hK
    simp only [List.setIfInBounds_toArray, List.set_cons_zero, List.set_cons_succ] at hK ⊢
    gi_wp2
    exact hK
  case body =>
    rintro l pre x W ⟨A, c, J2, JV, JB, JS⟩ hlen
    have H2 := Lib.hid (J2.alloc (.cells #[.int .i64 x] 3))
    have HV := Lib.hid (Nd.ownsRow_below JV ((Below.refl W.heap.size W).alloc (Nat.le_refl _) (.cells #[.int .i64 x] 3)))
    have HX := Lib.hid (JB.alloc JB.size (.cells #[.int .i64 x] 3))
    have HW := Lib.hid ((Below.refl w.heap.size W).alloc JB.size (.cells #[.int .i64 x] 3))
    have HK := Lib.hid (KeepsOthers.alloc W (.cells #[.int .i64 x] 3))
    have HS := Lib.hid (Fc.rd_one W (.int .i64 x) 3)
    have HSL := Lib.hid (show w.heap.size + 1 ≤ W.heap.size by have := HSZ.out; omega)
    have x2 := J2.cell 0
    simp only [List.getElem?_toArray, List.getElem?_cons_zero] at x2
    clear J2 JV JB JS
    refine wpIn_block ?_
    refine Fc.regionIn (by rfl) ?_
    simp only [List.setIfInBounds_toArray, List.set_cons_zero, List.set_cons_succ]
    go_wp2_with (at_builtin; go_loud (refine wpList_append_rd _ rfl (.tmp 8) (.tmp 10) 39 rfl (base := W0.heap.size) elemInts rfl HV.out rfl (fun h => by cases h) HS.out (by simp [Value.oneCell']) (by unfold maxLen; omega) (by omega) (by have := HSZ.out; have := HSL.out; simp; omega) ?_); intro A9 c9 w5 hA9 hown2 hg2; have HO5 := Lib.hid hown2; have H25 := Lib.hid (H2.out.grown hg2 (fun e => by have := (HV.out.lt _ e.symm).1; have := HSZ.out; omega)); have HB5 := Lib.hid (HX.out.grown hg2 (by have := HX.out.size; omega) (fun g e => by have := (HV.out.lt g e).1; have := HSZ.out; omega)); have HW5 := Lib.hid (HW.out.grown hg2 (by have := HX.out.size; omega) (fun g e => by have := (HV.out.lt g e).1; have := HSZ.out; omega)); have HK5 := Lib.hid (HK.out.trans (KeepsOthers.of_grownBy hg2 (fun j o e ho => by obtain ⟨cur, t, h, _⟩ := own_is HV.out (t' := 0) (by decide) j e; rw [h] at ho; cases ho; rfl))); have HZ5 := Lib.hid (Nat.le_trans (show W.heap.size + 1 ≤ _ by simp) hg2.size); clear hown2 hg2; have v5 := H25.out.cell 0; have f5 := H25.out.thaw 0; simp only [List.getElem?_toArray, List.getElem?_cons_zero] at v5)
    exact ⟨HK5.out.trans (KeepsOthers.setCell _ _ _), HW5.out.setCell (p := ⟨w.heap.size, 0, none⟩) (Nat.le_refl _) _, A9, c9, by rw [List.length_append]; exact H25.out.set 0 _, by rw [List.length_append, show intsV (pre ++ [x]) = intsV pre ++ [.int .i64 x] by simp [intsV]]; exact ownsRow_setCell_below HO5.out (by show w.heap.size < W0.heap.size; have := HSZ.out; omega) _, HB5.out.setCell (p := ⟨w.heap.size, 0, none⟩) (Nat.le_refl _) _, by rw [World.size_setCell]; have := HZ5.out; have := HSZ.out; have := HSL.out; omega⟩
  case done =>
    rintro D xs W hD rfl ⟨A, c, J2, JV, JB, JS⟩ hK
    have x2 := J2.cell 0
    simp only [List.getElem?_toArray, List.getElem?_cons_zero] at x2
    have HB := Lib.hid JB
    have HV := Lib.hid JV
    have HK := Lib.hid hK
    have HD := Lib.hid (show w.heap.size ≤ D by have := HSZ.out; omega)
    clear J2 JV JB JS hK hD
    go_wp2_with fail
    refine Fc.out_one HK.out ?_
    go_ret
    exact ⟨A, c, rfl, own_weaken (Fc.put_own HV.out HK.out _) (by have := HSZ.out; omega), HB.out.grown (grownBy_putObj' _ D _) HB.out.size (fun k e => by cases e; exact HD.out)⟩
set_option maxRecDepth 100000 in
set_option maxHeartbeats 1000000 in
theorem collect_any (A : Option Addr) (cap : Nat) (zs : List Int) (hl : zs.length ≤ 1000) (Bs : Nat) (w : World) (hBs : Bs < w.heap.size) (cs : w.cell? ⟨Bs, 0, none⟩ = some (.slice A zs.length cap)) (hr : Rd w w.heap.size 1 A zs.length (intsV zs)) :
    Calls Tryz.prog 119 #[.func (.func 121) #[] #[.pointer (some ⟨Bs, 0, none⟩)]] w fun e w' => ∃ A c, e = .returned (.slice A zs.length c) ∧ w'.ownsRow w.heap.size 3 1 (.slice A zs.length c) zs.length (intsV zs) ∧ Below w.heap.size w w' := by
  have C := Lib.hid (appendSeq_in 121 #[.pointer (some ⟨Bs, 0, none⟩)] (enters_of Tryz.func121 (by kernel_rfl) rfl) zs hl (fun pre => ∃ i, pre = zs.take i) w
    (fun w' hw' => values_stops 2 (by omega) Bs w.heap.size cap A zs (by omega) hBs w' hw'.size ((hw'.cell (p := ⟨Bs, 0, none⟩) hBs).trans cs) (hr.below hw')))
  clear cs hr
  go_enter Tryz.func119, Tryz.ntmps119
  go_wp2_with fail
  refine C.out.mono ?_
  rintro e w1 ⟨A1, c1, rfl, hown, hb⟩
  have HO := Lib.hid hown
  clear hown C
  go_wp2_with fail
  go_ret
  exact ⟨A1, c1, rfl, HO.out, hb⟩
end Go.Proofs.YtjfllpmiajkenaaGreat.So
namespace Go.Proofs.YtjfllpmiajkenaaGreat.Md
set_option linter.unusedVariables false
set_option linter.unusedSimpArgs false
def srt (l : List Int) : List Int := l.mergeSort (fun x y => decide (x ≤ y))
def lessN (l : List Int) (v : Int) : Nat := l.countP (fun w => decide (w < v))
def sameN (l : List Int) (v : Int) : Nat := l.countP (fun w => decide (w = v))
def isRank (l : List Int) (k : Nat) (v : Int) : Bool := decide (lessN l v ≤ k ∧ k < lessN l v + sameN l v)
def rankOf (l : List Int) (k : Nat) : Int := (l.find? (isRank l k)).getD 0
theorem srt_perm (l : List Int) : (srt l).Perm l := List.mergeSort_perm l _
theorem srt_len (l : List Int) : (srt l).length = l.length := (srt_perm l).length_eq
theorem srt_sorted (l : List Int) : (srt l).Pairwise (fun x y => x ≤ y) := by
  have h := List.pairwise_mergeSort (le := fun x y : Int => decide (x ≤ y)) (fun a b c h1 h2 => by simp at *; omega) (fun a b => by simp; omega) l
  exact h.imp (fun h => by simpa using h)
theorem less_srt (l : List Int) (v : Int) : lessN l v = lessN (srt l) v := ((srt_perm l).countP_eq _).symm
theorem same_srt (l : List Int) (v : Int) : sameN l v = sameN (srt l) v := ((srt_perm l).countP_eq _).symm
theorem sorted_at {s : List Int} (h : s.Pairwise (fun x y => x ≤ y)) {i j : Nat} (hij : i ≤ j) (hj : j < s.length) : s[i]'(by omega) ≤ s[j] := by
  rcases Nat.lt_or_eq_of_le hij with hlt | rfl
  · exact List.pairwise_iff_getElem.1 h i j (by omega) hj hlt
  · exact Int.le_refl _
theorem count_split (s : List Int) (p : Int → Bool) (k : Nat) : s.countP p = (s.take k).countP p + (s.drop k).countP p := by
  conv => lhs; rw [← List.take_append_drop k s]
  exact List.countP_append
theorem drop_none {s : List Int} {p : Int → Bool} {k : Nat} (h : ∀ i (hi : i < s.length), k ≤ i → p s[i] = false) : (s.drop k).countP p = 0 := by
  rw [List.countP_eq_zero]
  intro a ha
  obtain ⟨i, hi, rfl⟩ := List.mem_iff_getElem.1 ha
  rw [List.getElem_drop]
  rw [h (k + i) (by rw [List.length_drop] at hi; omega) (by omega)]
  simp
theorem take_whole {s : List Int} {p : Int → Bool} {k : Nat} (hk : k ≤ s.length) (h : ∀ i (hi : i < s.length), i < k → p s[i] = true) : (s.take k).countP p = k := by
  have e : (s.take k).countP p = (s.take k).length := by
    rw [List.countP_eq_length]
    intro a ha
    obtain ⟨i, hi, rfl⟩ := List.mem_iff_getElem.1 ha
    rw [List.getElem_take]
    rw [List.length_take] at hi
    exact h i (by omega) (by omega)
  rw [e, List.length_take]; omega
theorem count_le_take {s : List Int} {p : Int → Bool} {k : Nat} (h : ∀ i (hi : i < s.length), k ≤ i → p s[i] = false) : s.countP p ≤ k := by
  rw [count_split s p k, drop_none h]
  have := List.countP_le_length (p := p) (l := s.take k)
  rw [List.length_take] at this
  omega
theorem count_ge_take {s : List Int} {p : Int → Bool} {k : Nat} (hk : k ≤ s.length) (h : ∀ i (hi : i < s.length), i < k → p s[i] = true) : k ≤ s.countP p := by
  rw [count_split s p k, take_whole hk h]; omega
theorem both (s : List Int) (v : Int) : lessN s v + sameN s v = s.countP (fun w => decide (w ≤ v)) := by
  unfold lessN sameN
  induction s with
  | nil => rfl
  | cons x s ih =>
    simp only [List.countP_cons]
    have e : (if decide (x ≤ v) = true then 1 else 0) = (if decide (x < v) = true then 1 else 0) + (if decide (x = v) = true then 1 else 0) := by
      simp only [decide_eq_true_eq]
      split <;> split <;> split <;> omega
    omega
theorem sorted_rank {s : List Int} (h : s.Pairwise (fun x y => x ≤ y)) {k : Nat} (hk : k < s.length) (v : Int) : (lessN s v ≤ k ∧ k < lessN s v + sameN s v) ↔ v = s[k] := by
  rw [both]
  constructor
  · rintro ⟨h1, h2⟩
    have a : ¬ s[k] < v := fun hlt => by
      have : k + 1 ≤ lessN s v := count_ge_take (by omega) (fun i hi hik => by
        have := sorted_at h (show i ≤ k by omega) hk
        exact decide_eq_true (by omega))
      omega
    have b : ¬ v < s[k] := fun hlt => by
      have : s.countP (fun w => decide (w ≤ v)) ≤ k := count_le_take (fun i hi hik => by
        have := sorted_at h hik hi
        exact decide_eq_false (by omega))
      omega
    omega
  · rintro rfl
    refine ⟨count_le_take (fun i hi hik => decide_eq_false (by have := sorted_at h hik hi; omega)), ?_⟩
    have : k + 1 ≤ s.countP (fun w => decide (w ≤ s[k])) := count_ge_take (by omega) (fun i hi hik => decide_eq_true (by have := sorted_at h (show i ≤ k by omega) hk; omega))
    omega
theorem isRank_iff (l : List Int) {k : Nat} (hk : k < l.length) (v : Int) : isRank l k v = true ↔ v = (srt l)[k]'(by rw [srt_len]; exact hk) := by
  unfold isRank
  rw [decide_eq_true_eq, less_srt, same_srt]
  exact sorted_rank (srt_sorted l) (by rw [srt_len]; exact hk) v
theorem rankOf_eq (l : List Int) {k : Nat} (hk : k < l.length) : rankOf l k = (srt l).getD k 0 := by
  have hs : k < (srt l).length := by rw [srt_len]; exact hk
  have hm : (srt l)[k] ∈ l := (srt_perm l).mem_iff.1 (List.getElem_mem hs)
  unfold rankOf
  rw [List.getD_eq_getElem?_getD, List.getElem?_eq_getElem hs]
  cases hf : l.find? (isRank l k) with
  | none => exact absurd ((isRank_iff l hk _).2 rfl) (by simpa using List.find?_eq_none.1 hf _ hm)
  | some v => exact (isRank_iff l hk v).1 (List.find?_some hf)
theorem nat_and_xor (a b : Nat) : 2 * (a &&& b) + (a ^^^ b) = a + b := by
  induction a using Nat.strongRecOn generalizing b with
  | _ a ih =>
    by_cases h0 : a = 0
    · subst h0; simp
    · have h := ih (a / 2) (by omega) (b / 2)
      have e1 : (a &&& b) = 2 * (a / 2 &&& b / 2) + (a % 2 &&& b % 2) := by
        have d : (a &&& b) / 2 = a / 2 &&& b / 2 := Nat.and_div_two
        have m : (a &&& b) % 2 = a % 2 &&& b % 2 := by
          have := Nat.and_mod_two_pow (a := a) (b := b) (n := 1); simpa using this
        omega
      have e2 : (a ^^^ b) = 2 * (a / 2 ^^^ b / 2) + (a % 2 ^^^ b % 2) := by
        have d : (a ^^^ b) / 2 = a / 2 ^^^ b / 2 := Nat.xor_div_two
        have m : (a ^^^ b) % 2 = a % 2 ^^^ b % 2 := by
          have := Nat.xor_mod_two_pow (a := a) (b := b) (n := 1); simpa using this
        omega
      have e3 : 2 * (a % 2 &&& b % 2) + (a % 2 ^^^ b % 2) = a % 2 + b % 2 := by
        rcases Nat.mod_two_eq_zero_or_one a with x | x <;> rcases Nat.mod_two_eq_zero_or_one b with y | y <;> rw [x, y] <;> rfl
      omega
theorem top_and (a b : Nat) : (a &&& b) / 2 ^ 63 = a / 2 ^ 63 &&& b / 2 ^ 63 := Nat.and_div_two_pow
theorem top_xor (a b : Nat) : (a ^^^ b) / 2 ^ 63 = a / 2 ^ 63 ^^^ b / 2 ^ 63 := Nat.xor_div_two_pow
theorem ofInt_nat {a : Int} {u : Nat} (h : a % 18446744073709551616 = (u : Int)) : (BitVec.ofInt 64 a).toNat = u := by
  rw [BitVec.toNat_ofInt]
  have : ((2 : Int) ^ 64) = 18446744073709551616 := by decide
  omega
theorem and_xor (a b : Int) (ha : -9223372036854775808 ≤ a ∧ a ≤ 9223372036854775807) (hb : -9223372036854775808 ≤ b ∧ b ≤ 9223372036854775807) :
    2 * bits .and .i64 a b + bits .xor .i64 a b = a + b ∧ (-9223372036854775808 ≤ bits .and .i64 a b ∧ bits .and .i64 a b ≤ 9223372036854775807) ∧ (-9223372036854775808 ≤ bits .xor .i64 a b ∧ bits .xor .i64 a b ≤ 9223372036854775807) := by
  obtain ⟨u, hu⟩ : ∃ u : Nat, a % 18446744073709551616 = (u : Int) := ⟨(a % 18446744073709551616).toNat, by omega⟩
  obtain ⟨v, hv⟩ : ∃ v : Nat, b % 18446744073709551616 = (v : Int) := ⟨(b % 18446744073709551616).toNat, by omega⟩
  have e1 : bits .and .i64 a b = IntKind.i64.wrap ((u &&& v : Nat) : Int) := by
    show IntKind.i64.wrap (((BitVec.ofInt 64 a &&& BitVec.ofInt 64 b).toNat : Nat) : Int) = _
    rw [BitVec.toNat_and, ofInt_nat hu, ofInt_nat hv]
  have e2 : bits .xor .i64 a b = IntKind.i64.wrap ((u ^^^ v : Nat) : Int) := by
    show IntKind.i64.wrap (((BitVec.ofInt 64 a ^^^ BitVec.ofInt 64 b).toNat : Nat) : Int) = _
    rw [BitVec.toNat_xor, ofInt_nat hu, ofInt_nat hv]
  have hs := nat_and_xor u v
  have ta := top_and u v
  have tx := top_xor u v
  have p63 : (2 : Nat) ^ 63 = 9223372036854775808 := by decide
  rw [p63] at ta tx
  rw [e1, e2, IntKind.wrap_i64, IntKind.wrap_i64]
  have hu2 : u / 9223372036854775808 = 0 ∨ u / 9223372036854775808 = 1 := by omega
  have hv2 : v / 9223372036854775808 = 0 ∨ v / 9223372036854775808 = 1 := by omega
  generalize (u &&& v) = A at *
  generalize (u ^^^ v) = X at *
  have hA : A ≤ u + v := by omega
  rcases hu2 with p | p <;> rcases hv2 with q | q <;> rw [p, q] at ta tx <;> simp at ta tx <;> omega
theorem half_eq (a b : Int) (ha : -9223372036854775808 ≤ a ∧ a ≤ 9223372036854775807) (hb : -9223372036854775808 ≤ b ∧ b ≤ 9223372036854775807) :
    bits .and .i64 a b + bits .xor .i64 a b / 2 = (a + b) / 2 := by
  have h := (and_xor a b ha hb).1
  omega
def midOf (l : List Int) : Int := ((srt l).getD ((l.length - 1) / 3) 0 + (srt l).getD (l.length - 1 - (l.length - 1) / 3) 0) / 2
def midZ (l : List Int) : Int × Int := if l.length = 0 ∨ 64 < l.length then (0, 8) else (midOf l, 0)
theorem srt_mem {l : List Int} {k : Nat} (hk : k < l.length) : (srt l).getD k 0 ∈ l := by
  have hs : k < (srt l).length := by rw [srt_len]; exact hk
  rw [List.getD_eq_getElem?_getD, List.getElem?_eq_getElem hs]
  exact (srt_perm l).mem_iff.1 (List.getElem_mem hs)
end Go.Proofs.YtjfllpmiajkenaaGreat.Md
namespace Go.Proofs.YtjfllpmiajkenaaGreat.BigLaw
def pw (k : Nat) : Nat := 4294967296 ^ k
theorem pw_zero : pw 0 = 1 := rfl
theorem pw_succ (k : Nat) : pw (k + 1) = 4294967296 * pw k := by unfold pw; rw [Nat.pow_succ, Nat.mul_comm]
theorem pw_pos (k : Nat) : 0 < pw k := Nat.pow_pos (by omega)
theorem pw_add (a b : Nat) : pw (a + b) = pw a * pw b := by unfold pw; exact Nat.pow_add _ _ _
theorem pw_le {a b : Nat} (h : a ≤ b) : pw a ≤ pw b := Nat.pow_le_pow_right (by omega) h
theorem pw_two (k : Nat) : pw k = 2 ^ (32 * k) := by unfold pw; rw [Nat.pow_mul]
def valF (f : Nat → Nat) : Nat → Nat
  | 0 => 0
  | n + 1 => valF f n + f n * pw n
theorem valF_succ (f : Nat → Nat) (n : Nat) : valF f (n + 1) = valF f n + f n * pw n := rfl
def val (l : List Nat) : Nat := valF (fun i => l.getD i 0) l.length
def small (l : List Nat) : Prop := ∀ x ∈ l, x < 4294967296
def trimd (l : List Nat) : Prop := 0 < l.length → l.getD (l.length - 1) 0 ≠ 0
theorem valF_congr {f g : Nat → Nat} {n : Nat} (h : ∀ i, i < n → f i = g i) : valF f n = valF g n := by
  induction n with
  | zero => rfl
  | succ n ih => unfold valF; rw [ih (fun i hi => h i (by omega)), h n (by omega)]
theorem valF_lt {f : Nat → Nat} {n : Nat} (h : ∀ i, i < n → f i < 4294967296) : valF f n < pw n := by
  induction n with
  | zero => simp [valF, pw]
  | succ n ih =>
    have h1 := ih (fun i hi => h i (by omega))
    have h2 := h n (by omega)
    unfold valF
    rw [pw_succ]
    have h3 : f n * pw n + pw n ≤ 4294967296 * pw n := by
      have : (f n + 1) * pw n ≤ 4294967296 * pw n := Nat.mul_le_mul_right _ h2
      rwa [Nat.add_mul, Nat.one_mul] at this
    omega
theorem valF_mono {f : Nat → Nat} {a b : Nat} (h : a ≤ b) : valF f a ≤ valF f b := by
  induction b with
  | zero => have : a = 0 := by omega
            subst this; exact Nat.le_refl _
  | succ b ih =>
    by_cases e : a = b + 1
    · subst e; exact Nat.le_refl _
    · have := ih (by omega)
      rw [valF_succ]; omega
theorem valF_zeros {f : Nat → Nat} {a b : Nat} (h : a ≤ b) (hz : ∀ i, a ≤ i → i < b → f i = 0) : valF f b = valF f a := by
  induction b with
  | zero => have : a = 0 := by omega
            subst this; rfl
  | succ b ih =>
    by_cases e : a = b + 1
    · subst e; rfl
    · rw [valF_succ, hz b (by omega) (by omega), Nat.zero_mul, Nat.add_zero]
      exact ih (by omega) (fun i h1 h2 => hz i h1 (by omega))
theorem valF_ge {f : Nat → Nat} {n i : Nat} (hi : i < n) : f i * pw i ≤ valF f n := by
  have h1 : valF f (i + 1) ≤ valF f n := valF_mono hi
  rw [valF_succ] at h1
  omega
theorem getD_lt {l : List Nat} (h : small l) (i : Nat) : l.getD i 0 < 4294967296 := by
  rw [List.getD_eq_getElem?_getD]
  cases hx : l[i]? with
  | none => simp
  | some x => simpa using h x (List.mem_of_getElem? hx)
theorem val_lt {l : List Nat} (h : small l) : val l < pw l.length := valF_lt fun i _ => getD_lt h i
theorem val_nil : val [] = 0 := rfl
theorem val_ge {l : List Nat} (ht : trimd l) (h : 0 < l.length) : pw (l.length - 1) ≤ val l := by
  have h1 := ht h
  have h2 : l.getD (l.length - 1) 0 * pw (l.length - 1) ≤ val l := valF_ge (f := fun i => l.getD i 0) (i := l.length - 1) (by omega)
  have h3 : 1 * pw (l.length - 1) ≤ l.getD (l.length - 1) 0 * pw (l.length - 1) := Nat.mul_le_mul_right _ (by omega)
  omega
theorem val_zero {l : List Nat} (ht : trimd l) : val l = 0 ↔ l = [] := by
  constructor
  · intro h
    rcases Nat.eq_zero_or_pos l.length with h0 | h0
    · exact List.eq_nil_of_length_eq_zero h0
    · have := val_ge ht h0
      have := pw_pos (l.length - 1)
      omega
  · intro h; subst h; rfl
theorem length_le {l : List Nat} (ht : trimd l) {k : Nat} (h : val l < pw k) : l.length ≤ k := by
  rcases Nat.eq_zero_or_pos l.length with h0 | h0
  · omega
  · have h1 := val_ge ht h0
    by_cases hk : l.length ≤ k
    · exact hk
    · have := pw_le (show k ≤ l.length - 1 by omega)
      omega
theorem val_take {l : List Nat} {n : Nat} (hn : n ≤ l.length) : val (l.take n) = valF (fun i => l.getD i 0) n := by
  unfold val
  rw [List.length_take, Nat.min_eq_left hn]
  refine valF_congr fun i hi => ?_
  rw [List.getD_eq_getElem?_getD, List.getD_eq_getElem?_getD, List.getElem?_take, if_pos hi]
theorem small_take {l : List Nat} (h : small l) (n : Nat) : small (l.take n) := fun x hx => h x (List.mem_of_mem_take hx)
def sgn (a b : Nat) : Int := if a < b then -1 else if b < a then 1 else 0
theorem cmp_len {a b : List Nat} (ha : small a) (hb : trimd b) (h : a.length < b.length) : val a < val b := by
  have h1 := val_lt ha
  have h2 := val_ge hb (by omega)
  have := pw_le (show a.length ≤ b.length - 1 by omega)
  omega
theorem cmp_top {f g : Nat → Nat} {n i : Nat} (hi : i < n) (hf : ∀ j, j < n → f j < 4294967296) (h : f i < g i) (he : ∀ j, i < j → j < n → f j = g j) : valF f n < valF g n := by
  induction n with
  | zero => omega
  | succ n ih =>
    by_cases e : i = n
    · subst e
      unfold valF
      have h1 := valF_lt (f := f) (n := i) (fun j hj => hf j (by omega))
      have h2 : f i * pw i + pw i ≤ g i * pw i := by
        have : (f i + 1) * pw i ≤ g i * pw i := Nat.mul_le_mul_right _ h
        rwa [Nat.add_mul, Nat.one_mul] at this
      omega
    · have := ih (by omega) (fun j hj => hf j (by omega)) (fun j h1 h2 => he j h1 (by omega))
      unfold valF
      rw [he n (by omega) (by omega)]
      omega
def cAdd (f g : Nat → Nat) : Nat → Nat
  | 0 => 0
  | i + 1 => (f i + g i + cAdd f g i) / 4294967296
def dAdd (f g : Nat → Nat) (i : Nat) : Nat := (f i + g i + cAdd f g i) % 4294967296
theorem cAdd_le {f g : Nat → Nat} (hf : ∀ i, f i < 4294967296) (hg : ∀ i, g i < 4294967296) : ∀ i, cAdd f g i ≤ 1
  | 0 => by simp [cAdd]
  | i + 1 => by
    have := cAdd_le hf hg i
    have := hf i
    have := hg i
    unfold cAdd; omega
theorem add_law (f g : Nat → Nat) : ∀ k, valF (dAdd f g) k + cAdd f g k * pw k = valF f k + valF g k
  | 0 => by simp [valF, cAdd]
  | k + 1 => by
    have ih := add_law f g k
    unfold valF
    have e1 : cAdd f g (k + 1) * pw (k + 1) + dAdd f g k * pw k = (f k + g k + cAdd f g k) * pw k := by
      unfold dAdd
      have e : cAdd f g (k + 1) = (f k + g k + cAdd f g k) / 4294967296 := rfl
      rw [e, pw_succ, ← Nat.mul_assoc, ← Nat.add_mul]
      congr 1
      omega
    rw [Nat.add_mul, Nat.add_mul] at e1
    omega
def cSub (f g : Nat → Nat) : Nat → Nat
  | 0 => 0
  | i + 1 => if f i < g i + cSub f g i then 1 else 0
def dSub (f g : Nat → Nat) (i : Nat) : Nat := if f i < g i + cSub f g i then f i + 4294967296 - (g i + cSub f g i) else f i - (g i + cSub f g i)
theorem cSub_le (f g : Nat → Nat) : ∀ i, cSub f g i ≤ 1
  | 0 => by simp [cSub]
  | i + 1 => by unfold cSub; split <;> omega
theorem dSub_lt {f g : Nat → Nat} (hf : ∀ i, f i < 4294967296) (i : Nat) : dSub f g i < 4294967296 := by
  unfold dSub; have := hf i; split <;> omega
theorem sub_law {f g : Nat → Nat} (hg : ∀ i, g i < 4294967296) : ∀ k, valF (dSub f g) k + valF g k = valF f k + cSub f g k * pw k
  | 0 => by simp [valF, cSub]
  | k + 1 => by
    have ih := sub_law (f := f) hg k
    have hc := cSub_le f g k
    have hgk := hg k
    unfold valF
    have e1 : dSub f g k + g k + cSub f g k = f k + cSub f g (k + 1) * 4294967296 := by
      unfold dSub
      have e : cSub f g (k + 1) = if f k < g k + cSub f g k then 1 else 0 := rfl
      rw [e]
      split <;> omega
    have e2 : (dSub f g k + g k + cSub f g k) * pw k = (f k + cSub f g (k + 1) * 4294967296) * pw k := by rw [e1]
    rw [Nat.add_mul, Nat.add_mul, Nat.add_mul, Nat.mul_assoc, ← pw_succ] at e2
    omega
def dLeft (f : Nat → Nat) (s : Nat) : Nat → Nat
  | 0 => f 0 * 2 ^ s % 4294967296
  | i + 1 => f (i + 1) * 2 ^ s % 4294967296 + f i * 2 ^ s / 4294967296
def hiLeft (f : Nat → Nat) (s : Nat) : Nat → Nat
  | 0 => 0
  | i + 1 => f i * 2 ^ s / 4294967296
theorem dLeft_eq (f : Nat → Nat) (s i : Nat) : dLeft f s i = f i * 2 ^ s % 4294967296 + hiLeft f s i := by cases i <;> rfl
theorem left_law (f : Nat → Nat) (s : Nat) : ∀ k, valF (dLeft f s) k + hiLeft f s k * pw k = valF f k * 2 ^ s
  | 0 => by simp [valF, hiLeft]
  | k + 1 => by
    have ih := left_law f s k
    unfold valF
    rw [dLeft_eq, Nat.add_mul, Nat.add_mul]
    have e1 : hiLeft f s (k + 1) * pw (k + 1) + f k * 2 ^ s % 4294967296 * pw k = f k * 2 ^ s * pw k := by
      show f k * 2 ^ s / 4294967296 * pw (k + 1) + _ = _
      rw [pw_succ, ← Nat.mul_assoc, ← Nat.add_mul]
      congr 1
      omega
    have e2 : f k * pw k * 2 ^ s = f k * 2 ^ s * pw k := by rw [Nat.mul_assoc, Nat.mul_comm (pw k), ← Nat.mul_assoc]
    omega
theorem hiLeft_lt {f : Nat → Nat} {s : Nat} (_hs : s < 32) (hf : ∀ i, f i < 4294967296) : ∀ i, hiLeft f s i < 2 ^ s
  | 0 => Nat.two_pow_pos s
  | i + 1 => by
    show f i * 2 ^ s / 4294967296 < 2 ^ s
    rw [Nat.div_lt_iff_lt_mul (by omega)]
    have := Nat.mul_lt_mul_of_pos_right (hf i) (Nat.two_pow_pos s)
    rwa [Nat.mul_comm 4294967296] at this
theorem low_mult (x s : Nat) (_hs : s < 32) : x * 2 ^ s % 4294967296 % 2 ^ s = 0 := by
  have e : (4294967296 : Nat) = 2 ^ s * 2 ^ (32 - s) := by rw [← Nat.pow_add, show s + (32 - s) = 32 by omega]
  rw [e, Nat.mul_comm x, Nat.mul_mod_mul_left, Nat.mul_mod_right]
theorem low_room (x s : Nat) (hs : s < 32) : x * 2 ^ s % 4294967296 + 2 ^ s ≤ 4294967296 := by
  have h1 := low_mult x s hs
  have h2 : x * 2 ^ s % 4294967296 < 4294967296 := Nat.mod_lt _ (by omega)
  have e : (4294967296 : Nat) = 2 ^ s * 2 ^ (32 - s) := by rw [← Nat.pow_add, show s + (32 - s) = 32 by omega]
  generalize x * 2 ^ s % 4294967296 = y at h1 h2
  have hd := Nat.div_add_mod y (2 ^ s)
  rw [h1, Nat.add_zero] at hd
  rw [e, ← hd] at h2
  have h3 := Nat.lt_of_mul_lt_mul_left h2
  have h4 : 2 ^ s * (y / 2 ^ s + 1) ≤ 2 ^ s * 2 ^ (32 - s) := Nat.mul_le_mul_left _ h3
  rw [Nat.mul_add, Nat.mul_one, hd, ← e] at h4
  exact h4
theorem dLeft_lt {f : Nat → Nat} {s : Nat} (hs : s < 32) (hf : ∀ i, f i < 4294967296) (i : Nat) : dLeft f s i < 4294967296 := by
  rw [dLeft_eq]
  have := low_room (f i) s hs
  have := hiLeft_lt hs hf i
  omega
theorem valF_shift (f : Nat → Nat) (w : Nat) : ∀ n, valF (fun j => if j < w then 0 else f (j - w)) (w + n) = valF f n * pw w
  | 0 => by
    rw [Nat.add_zero, valF_zeros (a := 0) (Nat.zero_le _) (fun i _ hi => by rw [if_pos hi])]
    simp [valF]
  | n + 1 => by
    have ih := valF_shift f w n
    rw [← Nat.add_assoc]
    unfold valF
    rw [ih, if_neg (by omega), show w + n - w = n by omega, Nat.add_mul, Nat.mul_assoc, ← pw_add, Nat.add_comm w n]
def IsLen (x n : Nat) : Prop := (x = 0 → n = 0) ∧ (0 < x → 0 < n ∧ 2 ^ (n - 1) ≤ x ∧ x < 2 ^ n)
theorem isLen_half {t n : Nat} (h : IsLen (t / 2) n) (ht : t ≠ 0) : IsLen t (n + 1) := by
  refine ⟨fun h0 => absurd h0 ht, fun _ => ⟨by omega, ?_⟩⟩
  rcases Nat.eq_zero_or_pos (t / 2) with h0 | h0
  · have := h.1 h0
    subst this
    have : t = 1 := by omega
    subst this
    decide
  · obtain ⟨h1, h2, h3⟩ := h.2 h0
    have e : n + 1 - 1 = (n - 1) + 1 := by omega
    rw [e, Nat.pow_succ, Nat.pow_succ]
    omega
theorem isLen_val {f : Nat → Nat} {n b : Nat} (hf : ∀ i, f i < 4294967296) (h0 : f n ≠ 0) (hb : IsLen (f n) b) : IsLen (valF f (n + 1)) (n * 32 + b) := by
  obtain ⟨h1, h2, h3⟩ := hb.2 (by omega)
  have hl := valF_lt (f := f) (n := n) (fun i _ => hf i)
  have e1 : valF f (n + 1) = valF f n + f n * pw n := rfl
  have hp := pw_pos n
  have hge : 2 ^ (n * 32 + b - 1) ≤ f n * pw n := by
    rw [show n * 32 + b - 1 = (b - 1) + 32 * n by omega, Nat.pow_add, ← pw_two]
    exact Nat.mul_le_mul_right _ h2
  have hlt : f n * pw n + pw n ≤ 2 ^ (n * 32 + b) := by
    rw [show n * 32 + b = b + 32 * n by omega, Nat.pow_add, ← pw_two]
    have : (f n + 1) * pw n ≤ 2 ^ b * pw n := Nat.mul_le_mul_right _ h3
    rwa [Nat.add_mul, Nat.one_mul] at this
  have hpos : 0 < f n * pw n := Nat.mul_pos (by omega) hp
  exact ⟨fun h => by omega, fun _ => ⟨by omega, by omega, by omega⟩⟩
theorem isLen_lt {x n k : Nat} (h : IsLen x n) : n ≤ k ↔ x < 2 ^ k := by
  rcases Nat.eq_zero_or_pos x with h0 | h0
  · subst h0
    have := h.1 rfl
    have := Nat.two_pow_pos k
    omega
  · obtain ⟨h1, h2, h3⟩ := h.2 h0
    constructor
    · intro hk
      have : 2 ^ n ≤ 2 ^ k := Nat.pow_le_pow_right (by omega) hk
      omega
    · intro hx
      have : 2 ^ (n - 1) < 2 ^ k := by omega
      have := (Nat.pow_lt_pow_iff_right (by omega : 1 < 2)).1 this
      omega
end Go.Proofs.YtjfllpmiajkenaaGreat.BigLaw
