/- Contract: vote.Vote. -/
import Derived.Test.YtjfllpmiajkenaaVoteLaw
import Derived.Test.YtjfllpmiajkenaaMember
import Derived.Test.YtjfllpmiajkenaaSameN
import Derived.Test.YtjfllpmiajkenaaRes
import Derived.Test.YtjfllpmiajkenaaSense
import Derived.Test.YtjfllpmiajkenaaOwnCap
import Derived.Maps.OwnSet
import Derived.Maps.OwnOps
namespace Go.Proofs.Ytjfllpmiajkenaa.Vt
open Go.RowKit Go.Maps Go.WideShapes Go.Proofs.Ytjfllpmiajkenaa.Mem Go.Proofs.Ytjfllpmiajkenaa.Rws Go.Proofs.Ytjfllpmiajkenaa.Nd
set_option linter.unusedVariables false
set_option linter.unusedSimpArgs false

theorem lawInt : Keyed Try.prog 3 := int_keyed Try.underlying3
theorem zeroInt (w : World) : (zeroValue 3).run Try.prog w = .ok (.int .i64 0) w := by kernel_rfl

def lit0 : DataW Unit := .lit (.int .i64 0)
/-- what stands behind k rounds of counting -/
def Counted (L : Nat → Int) (I : Nat → Bool) (w wr : World) (RL RI : Array Value) (k : Nat) : Prop :=
  (∃ D : DataW Unit, wr.ownsMap Try.prog 3 (plainElem Try.prog 3) (w.heap.size + 1 + 1 + 1) k D ∧ (∀ v : Int, D.atKey (.int .i64 v) (.lit (.int .i64 0)) = .lit (.int .i64 (cnt L I v k)))) ∧
    Blk wr w.heap.size 28 RL ∧ Blk wr (w.heap.size + 1) 27 RI ∧ Blk wr (w.heap.size + 1 + 1) 35 #[.int .i64 0, .bool false, .slice none 0 0] ∧ Below w.heap.size w wr

theorem counted_start (L : Nat → Int) (I : Nat → Bool) (w : World) (RL RI : Array Value) :
    Counted L I w ((((w.alloc (.cells RL 28)).alloc (.cells RI 27)).alloc (.cells #[.int .i64 0, .bool false, .slice none 0 0] 35)).alloc (.map #[] 0)) RL RI 0 := by
  refine ⟨⟨.map [], ?_, fun v => rfl⟩, ((Blk.new rfl).alloc _).alloc _ |>.alloc _, ((Blk.new (by simp)).alloc _).alloc _, (Blk.new (by simp)).alloc _, ?_⟩
  · have h := World.ownsMap_made (H := Unit) ((((w.alloc (.cells RL 28)).alloc (.cells RI 27)).alloc (.cells #[.int .i64 0, .bool false, .slice none 0 0] 35))) Try.prog 3 (plainElem Try.prog 3)
    rw [show ((((w.alloc (.cells RL 28)).alloc (.cells RI 27)).alloc (.cells #[.int .i64 0, .bool false, .slice none 0 0] 35))).heap.size = w.heap.size + 1 + 1 + 1 from by simp] at h
    exact h
  · exact (((Below.refl w.heap.size w).alloc (Nat.le_refl _) _).alloc (by simp) _).alloc (by simp; omega) _ |>.alloc (by simp; omega) _

theorem counted_off {L : Nat → Int} {I : Nat → Bool} {w wr : World} {RL RI : Array Value} {k : Nat} (h : Counted L I w wr RL RI k) (hI : I k = false) : Counted L I w wr RL RI (k + 1) := by
  obtain ⟨⟨D, ho, hd⟩, r⟩ := h
  exact ⟨⟨D, ho.mono (Nat.le_succ _), fun v => by rw [hd v]; simp [cnt, hI]⟩, r⟩

theorem counted_on {L : Nat → Int} {I : Nat → Bool} {w wr w' : World} {RL RI : Array Value} {k : Nat} {D : DataW Unit} (hi : IsMap D) (hd : ∀ v : Int, D.atKey (.int .i64 v) (.lit (.int .i64 0)) = .lit (.int .i64 (cnt L I v k)))
    (h1 : Blk wr w.heap.size 28 RL) (h2 : Blk wr (w.heap.size + 1) 27 RI) (h3 : Blk wr (w.heap.size + 1 + 1) 35 #[.int .i64 0, .bool false, .slice none 0 0]) (h4 : Below w.heap.size w wr)
    (hw : (Lit.int .i64 (L k)).wf = true) (hI : I k = true) (ho : w'.ownsMap Try.prog 3 (plainElem Try.prog 3) (w.heap.size + 1 + 1 + 1) (k + 1) (D.put (.int .i64 (L k)) (.lit (.int .i64 ((cnt L I (L k) k : Int) + 1)))))
    (hg : wr.grownBy w' (some (w.heap.size + 1 + 1 + 1))) : Counted L I w w' RL RI (k + 1) := by
  refine ⟨⟨_, ho, fun v => ?_⟩, h1.grown hg (by intro h; injection h; omega), h2.grown hg (by intro h; injection h; omega), h3.grown hg (by intro h; injection h; omega), ?_⟩
  · by_cases e : v = L k
    · subst e
      rw [atKey_put_same hi (by trivial)]
      simp [cnt, hI]
    · rw [atKey_put_other (fun h => e (by injection h)), hd v]
      have e' : ¬ (I k = true ∧ L k = v) := fun h => e h.2.symm
      rw [show cnt L I v (k + 1) = cnt L I v k + (if I k = true ∧ L k = v then 1 else 0) from rfl, if_neg e', Nat.add_zero]
  · exact h4.grown hg h4.size (fun j hj => by cases hj; omega)

theorem owns_below {w w' : World} {k : TypeId} {R : Value → Option (DataW Unit × List MemPlace)} {b n : Nat} {D : DataW Unit} (h : w.ownsMap Try.prog k R b n D) (hb : Below w.heap.size w w') : w'.ownsMap Try.prog k R b n D :=
  h.kept (row := none) ⟨hb.os, hb.tape, hb.output, hb.size, fun g hg _ => hb.block g hg⟩ (by simp)

theorem rd_one (w : World) (v : Value) (e : TypeId) : Rd (w.alloc (.cells #[v] e)) (w.heap.size + 1) 1 (some ⟨w.heap.size, 0, none⟩) 1 [v] := by
  refine ⟨rfl, fun _ => ⟨w.heap.size, 0, rfl, by omega, fun j u hu => ?_⟩⟩
  have h := (Blk.fresh w e #[v]).cell j
  rw [Nat.zero_add, h]
  simpa using hu
theorem own_not {w : World} {g : Nat} {e : TypeId} {size n : Nat} {v : Value} {xs : List Value} (h : w.ownsRow (g + 1) e size v n xs) : some g ≠ v.ownBlock := fun hh => by
  have := (h.lt g hh.symm).1
  omega
theorem own_setCell {w : World} {base g : Nat} {e : TypeId} {size n : Nat} {v : Value} {xs : List Value} (h : w.ownsRow base e size v n xs) (hg : g < base) {i : Nat} (u : Value) : (w.setCell ⟨g, i, none⟩ u).ownsRow base e size v n xs := by
  obtain ⟨hl, h | ⟨b, cap, cur, hv, hb, hh, hr⟩⟩ := h
  · exact ⟨hl, .inl h⟩
  · exact ⟨hl, .inr ⟨b, cap, cur, hv, hb, (Below.heap_setCell w ⟨g, i, none⟩ u b (by show b ≠ g; omega)).trans hh, hr⟩⟩

set_option maxRecDepth 100000 in
set_option maxHeartbeats 2000000 in
theorem vote_any (L : Nat → Int) (I : Nat → Bool) (hL : ∀ i, i < 4 → (Lit.int .i64 (L i)).wf = true) (w : World) :
    Calls Try.prog 45 #[.agg (row 4 fun i => .int .i64 (L i)), .agg (row 4 fun i => .bool (I i))] w fun e w' => ∃ A c, e = .returned (.agg (verC (val L I) (strong L I) A 4 c)) ∧
      Rd w' w'.heap.size 1 A 4 ((List.range 4).map fun i => .bool (agrees L I i)) ∧ Below w.heap.size w w' ∧ (∀ a, A = some a → w.heap.size ≤ a.block) ∧ (A = none → c = 0) ∧ 4 ≤ c := by
  have hmm := @run_makeMap Try.prog
  have HL := Lib.hid hL
  have hix : ∀ k : Nat, k < 4 → ∀ w, (Instr.index 28 (.agg (row 4 fun i => .int .i64 (L i))) (.int .i64 (k : Int))).run Try.prog w = .ok (.int .i64 (L k)) w := fun k hk w => run_index_row Try.underlying28 Try.underlying3 rfl (by kernel_rfl) _ k hk w
  have hrl : ∀ k : Nat, k < 4 → (row 4 fun i => Value.int .i64 (L i))[k]? = some (.int .i64 (L k)) := fun k hk => row_at hk
  have hri : ∀ k : Nat, k < 4 → (row 4 fun i => Value.bool (I i))[k]? = some (.bool (I k)) := fun k hk => row_at hk
  have iL : (Try.prog.info? 28).map (·.size) = some (row 4 fun i => Value.int .i64 (L i)).size := by rw [row_size]; kernel_rfl
  generalize (row 4 fun i => Value.int .i64 (L i)) = RL at *
  generalize (row 4 fun i => Value.bool (I i)) = RI at *
  have HIX := Lib.hid hix
  have HRL := Lib.hid hrl
  have HRI := Lib.hid hri
  clear hix hrl hri hL
  go_enter Try.func45, Try.ntmps45
  have HC := Lib.hid (counted_start L I w RL RI)
  go_wp2_with (refine wpList_whole rfl 28 _ rfl w.heap.size rfl HC.out.2.1 _ Try.underlying28 rfl iL ?_)
  go_loopw [6, 17] (fun t i wr => ∃ k : Nat, k ≤ 4 ∧ i = .int .i64 k ∧ t = .int .i64 (tot I k) ∧ Counted L I w wr RL RI k) (fun _ i _ => 4 - (intOf i).toNat)
  case atStart => exact ⟨0, by omega, rfl, rfl, HC.out⟩
  case round =>
    clear HC
    obtain ⟨k, hk, rfl, rfl, hC⟩ := hrel
    by_cases hlt : k < 4
    · obtain ⟨⟨D, hown, hd⟩, h1, h2, h3, h4⟩ := id hC
      have hcell : wr.cell? ⟨w.heap.size + 1, k, none⟩ = some (.bool (I k)) := (h2.cell k).trans (HRI.out k hlt)
      have hix := fun w => HIX.out k hlt w
      have hkey : keyOf Try.prog 3 (.int .i64 (L k)) = some (.int .i64 (L k)) := keyOf_int_mk Try.underlying3 (HL.out k hlt)
      have ht := tot_le I k
      have hn := cnt_le L I (L k) k
      have ew : IntKind.i64.wrap ((cnt L I (L k) k : Int) + 1) = (cnt L I (L k) k : Int) + 1 := IntWalk.i64_in _ (by omega)
      have et : IntKind.i64.wrap ((tot I k : Int) + 1) = (tot I k : Int) + 1 := IntWalk.i64_in _ (by omega)
      have HD := Lib.hid hd
      have hownD := hown.isMap
      have HO := Lib.hid hown
      have H1 := Lib.hid h1
      have H2 := Lib.hid h2
      have H3 := Lib.hid h3
      have H4 := Lib.hid h4
      have HCC := Lib.hid hC
      clear hd hown h1 h2 h3 h4 hC
      cases hI : I k with
      | false =>
        rw [hI] at hcell
        have HT := Lib.hid (show tot I (k + 1) = tot I k by simp [tot, hI])
        have HIK := Lib.hid hI
        clear hI
        go_wp2_with fail
        exact ⟨⟨k + 1, by omega, by go_num, by rw [HT.out], counted_off HCC.out HIK.out⟩, by simp [intOf]; omega⟩
      | true =>
        rw [hI] at hcell
        have HT := Lib.hid (show (tot I (k + 1) : Int) = (tot I k : Int) + 1 by simp [tot, hI])
        have HIK := Lib.hid hI
        clear hI
        go_wp2_with (first
          | (at_lookup; refine wpList_lookup_own_int _ rfl _ _ 120 rfl 3 3 .i64 lawInt Try.underlying120 Try.underlying3 (zeroInt _) (w.heap.size + 1 + 1 + 1) k _ rfl HO.out _ _ rfl hkey ?_; intro c hat hwc; obtain rfl : c = (cnt L I (L k) k : Int) := by { have := hat.symm.trans (HD.out (L k)); simpa using this })
          | (at_mapUpdate; refine wpList_mapUpdate_own _ rfl _ _ _ 120 rfl 3 3 lawInt Try.underlying120 _ (w.heap.size + 1 + 1 + 1) k _ rfl HO.out (by unfold maxLen; omega) _ _ _ rfl rfl hkey _ [] (plainElem_int Try.underlying3 (WalkArith.wf_i64 (by omega))) ?_; intro w1 hown1 hgrow1))
        exact ⟨⟨k + 1, by omega, by go_num, by rw [HT.out], counted_on hownD HD.out H1.out H2.out H3.out H4.out (HL.out k hlt) HIK.out hown1 hgrow1⟩, by simp [intOf]; omega⟩
    · obtain rfl : k = 4 := by omega
      clear hlt
      obtain ⟨⟨D, hown, hd⟩, h1, h2, h3, h4⟩ := hC
      have HD := Lib.hid hd
      have HO := Lib.hid hown
      have H1 := Lib.hid h1
      have H2 := Lib.hid h2
      have H3 := Lib.hid h3
      have H4 := Lib.hid h4
      generalize wr = w1 at *
      have hG : Hid (Blk (w1.alloc (.cells #[.int .i64 0, .bool false, .slice none 0 0] 35)) w1.heap.size 35 #[.int .i64 0, .bool false, .slice none 0 0]) := Lib.hid (Blk.fresh _ _ _)
      have hJ := Lib.hid (H1.out.alloc (.cells #[.int .i64 0, .bool false, .slice none 0 0] 35))
      clear hown hd h1 h2 h3 h4 hmm
      go_wp2_with (refine wpList_whole rfl 28 _ rfl w.heap.size rfl hJ.out _ Try.underlying28 rfl iL ?_)
      clear hJ
      go_loopw [9, 32] (fun b i wq => ∃ j : Nat, j ≤ 4 ∧ i = .int .i64 j ∧ b = .int .i64 (vt L I j).1 ∧ Blk wq w1.heap.size 35 #[.int .i64 (vt L I j).2, .bool false, .slice none 0 0] ∧ Below w1.heap.size w1 wq) (fun _ i _ => 4 - (intOf i).toNat)
      case atStart => exact ⟨0, by omega, rfl, rfl, hG.out, (Below.refl _ _).alloc (Nat.le_refl _) _⟩
      case round =>
        clear hG
        obtain ⟨j, hj, rfl, rfl, hg, hb⟩ := hrel
        have HG := Lib.hid hg
        have HB := Lib.hid hb
        by_cases hlt : j < 4
        · have hcell : wr.cell? ⟨w.heap.size + 1, j, none⟩ = some (.bool (I j)) := ((H2.out.below hb H2.out.lt).cell j).trans (HRI.out j hlt)
          have hix := fun w => HIX.out j hlt w
          have hkey : keyOf Try.prog 3 (.int .i64 (L j)) = some (.int .i64 (L j)) := keyOf_int_mk Try.underlying3 (HL.out j hlt)
          have hlk : (Instr.lookup 120 (.map (some (w.heap.size + 1 + 1 + 1))) (.int .i64 (L j)) false).run Try.prog wr = .ok (.int .i64 (cnt L I (L j) 4)) wr := by
            obtain ⟨c, hr, hat, _⟩ := (owns_below HO.out hb).lookup_int lawInt Try.underlying120 Try.underlying3 (zeroInt _) hkey
            obtain rfl : c = (cnt L I (L j) 4 : Int) := by have := hat.symm.trans (HD.out (L j)); simpa using this
            exact hr
          have g0 := hg.cell 0
          have g1 := hg.thaw 0
          clear hg hb hkey
          have HV0 := Lib.hid (show vt L I (j + 1) = if I j = true ∧ (vt L I j).1 < cnt L I (L j) 4 then (cnt L I (L j) 4, L j) else vt L I j from rfl)
          cases hI : I j with
          | false =>
            rw [hI] at hcell
            have HV := Lib.hid (HV0.out.trans (if_neg (by simp [hI])))
            clear hI HV0
            go_wp2_with fail
            exact ⟨⟨j + 1, by omega, by go_num, by rw [HV.out], by rw [HV.out]; exact HG.out, HB.out⟩, by simp [intOf]; omega⟩
          | true =>
            rw [hI] at hcell
            by_cases hc : (vt L I j).1 < cnt L I (L j) 4
            · have HV := Lib.hid (HV0.out.trans (if_pos ⟨hI, hc⟩))
              have hci : ((vt L I j).1 : Int) < (cnt L I (L j) 4 : Int) := by omega
              clear hI hc HV0
              generalize cnt L I (L j) 4 = n at *
              generalize (vt L I j).1 = m at *
              go_wp2_with fail
              exact ⟨⟨j + 1, by omega, by go_num, by rw [HV.out], by rw [HV.out]; exact HG.out.set 0 _, HB.out.setCell (Nat.le_refl _) _⟩, by simp [intOf]; omega⟩
            · have HV := Lib.hid (HV0.out.trans (if_neg (fun h => hc h.2)))
              have hci : (cnt L I (L j) 4 : Int) ≤ ((vt L I j).1 : Int) := by omega
              clear hI hc HV0
              generalize cnt L I (L j) 4 = n at *
              obtain ⟨m, hm⟩ : ∃ m, (vt L I j).1 = m := ⟨_, rfl⟩
              rw [hm] at hci ⊢
              have HM := Lib.hid hm
              clear hm
              go_wp2_with fail
              exact ⟨⟨j + 1, by omega, by go_num, by rw [HV.out, HM.out], by rw [HV.out]; exact HG.out, HB.out⟩, by simp [intOf]; omega⟩
        · obtain rfl : j = 4 := by omega
          clear hlt
          have J1 := Lib.hid (H1.out.below hb H1.out.lt)
          have J3 := Lib.hid (H3.out.below hb H3.out.lt)
          have hsG := hg.lt
          have g0 := hg.cell 1
          have g1 := hg.thaw 1
          have hv := vt_val L I
          rw [hv] at HG
          have htl := tot_le I 4
          have hml := vt_le L I 4
          have em : IntKind.i64.wrap (2 * ((vt L I 4).1 : Int)) = 2 * ((vt L I 4).1 : Int) := IntWalk.i64_in _ (by omega)
          have HSt := Lib.hid (show decide ((tot I 4 : Int) < 2 * ((vt L I 4).1 : Int)) = strong L I by unfold strong; exact decide_eq_decide.2 (by omega))
          clear hg hb hv
          generalize (vt L I 4).1 = m at *
          go_upto_region 19 with fail
          rw [HSt.out]
          have G2 := Lib.hid (HG.out.set 1 (.bool (strong L I)))
          have J1 := Lib.hid (J1.out.other (p := ⟨w1.heap.size, 1, none⟩) (by have := H1.out.lt; show w.heap.size ≠ w1.heap.size; omega) (.bool (strong L I)))
          have J3 := Lib.hid (J3.out.other (p := ⟨w1.heap.size, 1, none⟩) (by have := H3.out.lt; show w.heap.size + 1 + 1 ≠ w1.heap.size; omega) (.bool (strong L I)))
          have HB := Lib.hid (HB.out.setCell (p := ⟨w1.heap.size, 1, none⟩) (Nat.le_refl _) (.bool (strong L I)))
          have hsG : w1.heap.size < (wr.setCell ⟨w1.heap.size, 1, none⟩ (.bool (strong L I))).heap.size := by simpa using hsG
          clear g0 g1 HG HSt em
          generalize (wr.setCell ⟨w1.heap.size, 1, none⟩ (.bool (strong L I))) = w2 at *
          obtain ⟨T, hT⟩ : ∃ T : Int, (tot I 4 : Int) = T := ⟨_, rfl⟩
          rw [hT]
          have HT := Lib.hid hT
          clear hT htl
          go_wp2_with (refine wpList_whole rfl 28 _ rfl w.heap.size rfl J1.out _ Try.underlying28 rfl iL ?_)
          go_loopw [58] (fun i wq => ∃ (j : Nat) (A : Option Addr) (c : Nat), j ≤ 4 ∧ i = .int .i64 j ∧ Blk wq w1.heap.size 35 #[.int .i64 (val L I), .bool (strong L I), .slice A j c] ∧ wq.ownsRow (w1.heap.size + 1) 4 1 (.slice A j c) j ((List.range j).map fun i => .bool (agrees L I i)) ∧ Below w1.heap.size w1 wq) (fun i _ => 4 - (intOf i).toNat)
          case atStart => exact ⟨0, none, 0, by omega, rfl, G2.out, World.ownsRow_nil _ _ _ _, HB.out⟩
          case round =>
            clear G2 HB hsG
            obtain ⟨j, A, c, hj, rfl, hg, hown, hb⟩ := hrel
            have HG := Lib.hid hg
            have HB := Lib.hid hb
            have HW := Lib.hid hown
            have x0 := hg.cell 0
            have x2 := hg.cell 2
            simp only [List.getElem?_toArray, List.getElem?_cons_zero, List.getElem?_cons_succ] at x0 x2
            clear hg hb hown
            by_cases hlt : j < 4
            · have hix := fun w => HIX.out j hlt w
              rcases Nat.eq_zero_or_pos (tot I 4) with ht | ht
              · have hti : decide ((0 : Int) < T) = false := decide_eq_false (by have := HT.out; omega)
                have HA := Lib.hid (show agrees L I j = false by unfold agrees; rw [ht]; rfl)
                clear ht
                have HN : Hid (Rd (wr.alloc (.cells #[.bool false] 4)) (wr.heap.size + 1) 1 (some ⟨wr.heap.size, 0, none⟩) 1 [.bool false]) := Lib.hid (rd_one _ _ _)
                have HQ := Lib.hid (own_weaken (ownsRow_below HW.out ((Below.refl wr.heap.size wr).alloc (Nat.le_refl _) (.cells #[.bool false] 4))) (Nat.le_refl (w1.heap.size + 1)))
                have HX := Lib.hid (HG.out.alloc (.cells #[.bool false] 4))
                have HY := Lib.hid (HB.out.alloc HB.out.size (.cells #[.bool false] 4))
                have hbs : w1.heap.size + 1 ≤ (wr.alloc (.cells #[.bool false] 4)).heap.size := by have := HX.out.lt; omega
                have HBS := Lib.hid hbs
                clear hbs
                go_wp2_with (at_builtin; refine wpList_append_rd _ rfl (.tmp 62) (.tmp 71) 33 rfl (base := w1.heap.size + 1) elemBools rfl HQ.out rfl (fun h => by cases h) HN.out (by simp [Value.oneCell']) (by unfold maxLen; omega) (by omega) HBS.out ?_; intro A' c' w3 hA' hown' hgr; have HG3 := Lib.hid (HX.out.grown hgr (own_not HQ.out)); have y2 := HG3.out.thaw 2; have y3 := HG3.out.cell 2; have HO3 := Lib.hid hown'; have HGR := Lib.hid hgr; clear hown' hgr hA')
                refine ⟨⟨j + 1, A', c', by omega, by go_num, HG3.out.set 2 _, ?_, (HY.out.grown HGR.out HY.out.size (fun g e => Nat.le_trans (Nat.le_succ _) (HQ.out.lt g e).1)).setCell (Nat.le_refl _) _⟩, by simp [intOf]; omega⟩
                rw [List.range_succ, List.map_append, List.map_singleton, HA.out]
                exact own_setCell (g := w1.heap.size) HO3.out (by omega) _
              · have hti : decide ((0 : Int) < T) = true := decide_eq_true (by have := HT.out; omega)
                have HA := Lib.hid (show agrees L I j = (L j == val L I) by unfold agrees; rw [decide_eq_true ht, Bool.true_and]; by_cases e : L j = val L I <;> simp [e])
                clear ht
                have HN : Hid (Rd (wr.alloc (.cells #[.bool (L j == val L I)] 4)) (wr.heap.size + 1) 1 (some ⟨wr.heap.size, 0, none⟩) 1 [.bool (L j == val L I)]) := Lib.hid (rd_one _ _ _)
                have HQ := Lib.hid (own_weaken (ownsRow_below HW.out ((Below.refl wr.heap.size wr).alloc (Nat.le_refl _) (.cells #[.bool (L j == val L I)] 4))) (Nat.le_refl (w1.heap.size + 1)))
                have HX := Lib.hid (HG.out.alloc (.cells #[.bool (L j == val L I)] 4))
                have HY := Lib.hid (HB.out.alloc HB.out.size (.cells #[.bool (L j == val L I)] 4))
                have hbs : w1.heap.size + 1 ≤ (wr.alloc (.cells #[.bool (L j == val L I)] 4)).heap.size := by have := HX.out.lt; omega
                have HBS := Lib.hid hbs
                clear hbs
                go_wp2_with (at_builtin; refine wpList_append_rd _ rfl (.tmp 62) (.tmp 71) 33 rfl (base := w1.heap.size + 1) elemBools rfl HQ.out rfl (fun h => by cases h) HN.out (by simp [Value.oneCell']) (by unfold maxLen; omega) (by omega) HBS.out ?_; intro A' c' w3 hA' hown' hgr; have HG3 := Lib.hid (HX.out.grown hgr (own_not HQ.out)); have y2 := HG3.out.thaw 2; have y3 := HG3.out.cell 2; have HO3 := Lib.hid hown'; have HGR := Lib.hid hgr; clear hown' hgr hA')
                refine ⟨⟨j + 1, A', c', by omega, by go_num, HG3.out.set 2 _, ?_, (HY.out.grown HGR.out HY.out.size (fun g e => Nat.le_trans (Nat.le_succ _) (HQ.out.lt g e).1)).setCell (Nat.le_refl _) _⟩, by simp [intOf]; omega⟩
                rw [List.range_succ, List.map_append, List.map_singleton, HA.out]
                exact own_setCell (g := w1.heap.size) HO3.out (by omega) _
            · obtain rfl : j = 4 := by omega
              clear hlt
              have K3 := Lib.hid (H3.out.below HB.out H3.out.lt)
              have hlt3 := H3.out.lt
              go_wp2_with (first
                | (refine wpList_whole rfl 35 _ rfl w1.heap.size rfl HG.out _ Try.underlying35 rfl (by kernel_rfl) ?_)
                | (refine wpList_store_row rfl 35 _ _ rfl (w.heap.size + 1 + 1) #[.int .i64 (val L I), .bool (strong L I), .slice A 4 c] rfl rfl 35 _ K3.out (by kernel_rfl) rfl (by simp [Value.oneCell']) ?_))
              have hw := own_setRow HW.out (show w.heap.size + 1 + 1 < w1.heap.size + 1 by omega) #[.int .i64 (val L I), .bool (strong L I), .slice A 4 c]
              exact ret_row rfl rfl (K3.out.setRow _) Try.underlying35 rfl (by kernel_rfl) rfl ⟨A, c, rfl, Rd.of_own hw, below_setRow (onward H4.out (Nat.le_refl _) HB.out) (by omega) _, fun a h => Nat.le_trans (by omega) (own_lo HW.out a h), own_cap HW.out⟩
end Go.Proofs.Ytjfllpmiajkenaa.Vt
