/- Contracts: the reference's CopyBus and bus.copied. -/
import Derived.Test.YtlcpackmoolngaaParcD
import Derived.Test.YtlcpackmoolngaaRws
import Derived.Test.YtlcpackmoolngaaRegR
import Derived.Deep.CutBlock
import Derived.Deep.DeepCutAuto
namespace Go.Proofs.Ytlcpackmoolngaa.Bu
open Go.ChangeShapes Go.WideShapes Go.ChangeAt Go.RowKit Go.Proofs.Ytlcpackmoolngaa.Mem Go.Proofs.Ytlcpackmoolngaa.Op Go.Proofs.Ytlcpackmoolngaa.Sm Go.Proofs.Ytlcpackmoolngaa.Nd Go.Proofs.Ytlcpackmoolngaa.Rws
set_option linter.unusedVariables false
set_option linter.unusedSimpArgs false

def OwnBus (w w' : World) (now ser : Int) (qs : List Parc) (e : Ending) : Prop :=
  ∃ A c, e = .returned (.agg #[.int .i64 now, .int .i64 ser, .slice A qs.length c]) ∧ OwnParcs w' w.heap.size A c qs ∧ Below w.heap.size w w'
/-- a bus handed on, each parcel's bytes apart -/
def OwnBusD (w w' : World) (now ser : Int) (qs : List Parc) (e : Ending) : Prop :=
  ∃ A c, e = .returned (.agg #[.int .i64 now, .int .i64 ser, .slice A qs.length c]) ∧ OwnD w' w.heap.size A c qs ∧ Below w.heap.size w w'
theorem OwnBusD.own {w w' : World} {now ser : Int} {qs : List Parc} {e : Ending} (h : OwnBusD w w' now ser qs e) : OwnBus w w' now ser qs e := by
  obtain ⟨A, c, h1, h2, h3⟩ := h
  exact ⟨A, c, h1, h2.own, h3⟩
theorem own_set_typed {w : World} {base : Nat} {e : TypeId} {size n : Nat} {v : Value} {xs : List Value} (h : w.ownsRow base e size v n xs) {g : Nat} {cs : Array Value} {t : TypeId} (hg : w.heap[g]? = some (.cells cs t (0, 0))) (hne : t ≠ e) (i : Nat) (u : Value) : (w.setCell ⟨g, i, none⟩ u).ownsRow base e size v n xs := by
  obtain ⟨hl, h | ⟨b, cap, cur, hv, hb, hh, hr⟩⟩ := h
  · exact ⟨hl, .inl h⟩
  · refine ⟨hl, .inr ⟨b, cap, cur, hv, hb, (Below.heap_setCell w ⟨g, i, none⟩ u b (fun e1 => ?_)).trans hh, hr⟩⟩
    have e1 : b = g := e1
    rw [e1, hg] at hh
    injection hh with hh
    injection hh with _ h4 _
    exact hne h4
theorem own_ge {w : World} {base : Nat} {e : TypeId} {size n : Nat} {v : Value} {xs : List Value} (h : w.ownsRow base e size v n xs) {g : Nat} (hg : g < base) : some g ≠ v.ownBlock := fun e => by
  have := (h.lt g e.symm).1
  omega

set_option maxRecDepth 100000 in
set_option maxHeartbeats 4000000 in
theorem copybusD_any (now ser : Int) (A : Option Addr) (c : Nat) (qs : List Parc) (B : Nat) (w : World) (hB : B ≤ w.heap.size) (hl : qs.length * 56 ≤ 140737488351232) (hr : ParcsAt w B A qs) :
    Calls Try.prog 10 #[.agg #[.int .i64 now, .int .i64 ser, .slice A qs.length c]] w fun e w' => OwnBusD w w' now ser qs e := by
  have HR := Lib.hid hr
  clear hr
  have D1 := Lib.hid (show Blk (((w.alloc (.cells #[.int .i64 now, .int .i64 ser, .slice A qs.length c] 24)).alloc (.cells #[.int .i64 0, .int .i64 0, .slice none 0 0] 24)).alloc (.cells #[.int .i64 now, .int .i64 ser, .slice none 0 0] 24)) w.heap.size 24 #[.int .i64 now, .int .i64 ser, .slice A qs.length c] from ((Blk.new rfl).alloc _).alloc _)
  have D2 := Lib.hid (show Blk (((w.alloc (.cells #[.int .i64 now, .int .i64 ser, .slice A qs.length c] 24)).alloc (.cells #[.int .i64 0, .int .i64 0, .slice none 0 0] 24)).alloc (.cells #[.int .i64 now, .int .i64 ser, .slice none 0 0] 24)) (w.heap.size + 1) 24 #[.int .i64 0, .int .i64 0, .slice none 0 0] from (Blk.new (by simp)).alloc _)
  have D3 := Lib.hid (show Blk (((w.alloc (.cells #[.int .i64 now, .int .i64 ser, .slice A qs.length c] 24)).alloc (.cells #[.int .i64 0, .int .i64 0, .slice none 0 0] 24)).alloc (.cells #[.int .i64 now, .int .i64 ser, .slice none 0 0] 24)) (w.heap.size + 1 + 1) 24 #[.int .i64 now, .int .i64 ser, .slice none 0 0] from Blk.new (by simp))
  have HB := Lib.hid ((((Below.refl w.heap.size w).alloc (Nat.le_refl _) (.cells #[.int .i64 now, .int .i64 ser, .slice A qs.length c] 24)).alloc (by simp) (.cells #[.int .i64 0, .int .i64 0, .slice none 0 0] 24)).alloc (by simp; omega) (.cells #[.int .i64 now, .int .i64 ser, .slice none 0 0] 24))
  go_enter Try.func10, Try.ntmps10
  go_upto_region 2 with fail
  generalize (((w.alloc (.cells #[.int .i64 now, .int .i64 ser, .slice A qs.length c] 24)).alloc (.cells #[.int .i64 0, .int .i64 0, .slice none 0 0] 24)).alloc (.cells #[.int .i64 now, .int .i64 ser, .slice none 0 0] 24)) = W at *
  have d2 := D1.out.cell 2
  simp only [List.getElem?_toArray, List.getElem?_cons_zero, List.getElem?_cons_succ] at d2
  go_wp2_with fail
  clear d2
  go_loopw [14] (fun i wr => ∃ (k : Nat) (A' : Option Addr) (c' : Nat), k ≤ qs.length ∧ i = .int .i64 k ∧ Blk wr w.heap.size 24 #[.int .i64 now, .int .i64 ser, .slice A qs.length c] ∧ Blk wr (w.heap.size + 1) 24 #[.int .i64 0, .int .i64 0, .slice none 0 0] ∧ Blk wr (w.heap.size + 1 + 1) 24 #[.int .i64 now, .int .i64 ser, .slice A' k c'] ∧ OwnD wr (w.heap.size + 1 + 1 + 1) A' c' (qs.take k) ∧ Below w.heap.size w wr) (fun i _ => qs.length - (intOf i).toNat)
  case atStart => exact ⟨0, none, 0, by omega, rfl, D1.out, D2.out, D3.out, OwnD.nil (World.ownsRow_nil _ _ _ _) D3.out.lt, HB.out⟩
  case round =>
    clear D1 D2 D3 HB
    obtain ⟨k, A', c', hk, rfl, b1, b2, b3, ho, hb⟩ := hrel
    have R3 := Lib.hid b3
    have R1 := Lib.hid b1
    have R2 := Lib.hid b2
    have HB := Lib.hid hb
    have HOP := Lib.hid ho
    by_cases hlt : k < qs.length
    · have hm : qs[k]? = some qs[k] := List.getElem?_eq_getElem hlt
      have HTK := Lib.hid (show qs.take (k + 1) = qs.take k ++ [qs[k]] from by rw [List.take_add_one, hm]; rfl)
      generalize qs[k] = p at *
      obtain ⟨b, o, a, ca, rfl, hbB, x0, x1, x2, x3, x4, h2, h3, h4, h5⟩ := (HR.out.below (hb.mono hB)).at hm
      obtain ⟨xs, cut, hrow, ⟨hc0, hcm, hcs⟩, hxs⟩ := ho
      have htk : (qs.take k).length = k := by rw [List.length_take]; omega
      rw [htk] at hrow hcs
      have HCT := Lib.hid (show w.heap.size + 1 + 1 ≤ cut 0 from by omega)
      have HCUT := Lib.hid (And.intro hc0 hcm)
      have HCS := Lib.hid hcs
      have HRow := Lib.hid hrow
      have HX := Lib.hid hxs
      have HTL := Lib.hid htk
      have H4 := Lib.hid h4
      have H5 := Lib.hid h5
      have hk0 : (0 : Int) ≤ (k : Int) := by omega
      have hk1 : (k : Int) < (qs.length : Int) := by omega
      have hb0 := hb.size
      have hbs : (w.heap.size + 1 + 1 + 1) ≤ wr.heap.size := b3.lt
      clear hrow hxs h5 hm htk hc0 hcm hcs HCT hb b1 b2 b3 HOP
      go_upto_region 5 with fail
      have PB := Lib.hid (show Blk (wr.alloc (.cells #[.int .i64 p.f, .int .i64 p.t, .int .i64 p.d, .int .i64 p.s, .slice a p.bs.length ca] 52)) wr.heap.size 52 #[.int .i64 p.f, .int .i64 p.t, .int .i64 p.d, .int .i64 p.s, .slice a p.bs.length ca] from Blk.fresh _ _ _)
      have hbl : Below wr.heap.size wr (wr.alloc (.cells #[.int .i64 p.f, .int .i64 p.t, .int .i64 p.d, .int .i64 p.s, .slice a p.bs.length ca] 52)) := (Below.refl _ _).alloc (Nat.le_refl _) _
      have HBL := Lib.hid hbl
      have H5 := Lib.hid (H5.out.below (hbl.mono (Nat.le_trans hB hb0)))
      have hgl := PB.out.lt
      clear x0 x1 x2 x3 x4 hbl
      generalize (wr.alloc (.cells #[.int .i64 p.f, .int .i64 p.t, .int .i64 p.d, .int .i64 p.s, .slice a p.bs.length ca] 52)) = w2 at *
      obtain ⟨g, hg⟩ : ∃ g, wr.heap.size = g := ⟨_, rfl⟩
      rw [hg] at PB hgl hbs ⊢
      have HGG := Lib.hid hg
      clear hg
      have y4 := PB.out.cell 4
      simp only [List.getElem?_toArray, List.getElem?_cons_zero, List.getElem?_cons_succ] at y4
      go_upto_region 6 with (at_builtin; refine wpList_append_rd _ rfl (.const (.slice none 0 0)) (.tmp 19) 38 rfl (base := wr.heap.size) elemBytes rfl (World.ownsRow_nil _ _ _ _) rfl (fun h => ⟨by have := h2 h; omega, h2 h⟩) H5.out (bytesV_one p.bs) (by unfold maxLen; omega) (by omega) HBL.out.size ?_; intro A2 c2 w3 hA2 hown hgr; (try simp only [List.nil_append, Nat.zero_add] at hown); (try simp only [Nat.zero_add]); have HI := Lib.hid hown; have HBL := Lib.hid (HBL.out.grown hgr HBL.out.size (by intro g e; cases e)); have PB := Lib.hid (PB.out.grown hgr (by simp [Value.ownBlock, Act.eval])); have y4 := PB.out.cell 4; have f4 := PB.out.thaw 4; clear hown hgr hA2)
      have PB0 := PB
      have PB : Hid (Blk (w3.setCell ⟨g, 4, none⟩ (.slice A2 p.bs.length c2)) g 52 #[.int .i64 p.f, .int .i64 p.t, .int .i64 p.d, .int .i64 p.s, .slice A2 p.bs.length c2]) := Lib.hid (PB.out.set 4 (.slice A2 p.bs.length c2))
      have HI := Lib.hid (own_set_typed HI.out (show w3.heap[g]? = some (.cells #[.int .i64 p.f, .int .i64 p.t, .int .i64 p.d, .int .i64 p.s, .slice a p.bs.length ca] 52 (0, 0)) from PB0.out) (by decide) 4 (.slice A2 p.bs.length c2))
      have HBL : Hid (Below wr.heap.size wr (w3.setCell ⟨g, 4, none⟩ (.slice A2 p.bs.length c2))) := Lib.hid (HBL.out.setCell (p := ⟨g, 4, none⟩) (by show wr.heap.size ≤ g; have := HGG.out; omega) (.slice A2 p.bs.length c2))
      clear PB0
      generalize (w3.setCell ⟨g, 4, none⟩ (.slice A2 p.bs.length c2)) = w4 at *
      have HRow := Lib.hid (Nd.ownsRow_below HRow.out HBL.out)
      have HXX : Hid (∀ i p', (qs.take k)[i]? = some p' → InD w4 (cut i) (cut (i + 1)) xs i p') := Lib.hid fun i p' hi => by
        obtain ⟨a, c', g1, g2, g3⟩ := HX.out i p' hi
        exact ⟨a, c', g1, Nd.ownsRow_below g2 HBL.out, g3⟩
      have R1 := Lib.hid (R1.out.below HBL.out R1.out.lt)
      have R2 := Lib.hid (R2.out.below HBL.out R2.out.lt)
      have R3 := Lib.hid (R3.out.below HBL.out R3.out.lt)
      have HB := Lib.hid (onward HB.out (Nat.le_refl _) HBL.out)
      have HZ4 := Lib.hid HBL.out.size
      clear HX y4 HBL H5
      have HN : Hid (Rd (w4.alloc (.cells #[.int .i64 p.f, .int .i64 p.t, .int .i64 p.d, .int .i64 p.s, .slice A2 p.bs.length c2] 52)) (w4.heap.size + 1) 5 (some ⟨w4.heap.size, 0, none⟩) 1 (parcL p A2 c2)) := Lib.hid (rd_five w4 (parcL p A2 c2) rfl _)
      have hb3 : Below w4.heap.size w4 (w4.alloc (.cells #[.int .i64 p.f, .int .i64 p.t, .int .i64 p.d, .int .i64 p.s, .slice A2 p.bs.length c2] 52)) := (Below.refl _ _).alloc (Nat.le_refl _) _
      have HQ := Lib.hid (Nd.ownsRow_below HRow.out hb3)
      have HI := Lib.hid (Nd.ownsRow_below HI.out hb3)
      have HLW := Lib.hid (Nat.le_trans HZ4.out hb3.size)
      have HXX : Hid (∀ i p', (qs.take k)[i]? = some p' → InD (w4.alloc (.cells #[.int .i64 p.f, .int .i64 p.t, .int .i64 p.d, .int .i64 p.s, .slice A2 p.bs.length c2] 52)) (cut i) (cut (i + 1)) xs i p') := Lib.hid fun i p' hi => by
        obtain ⟨a, c', g1, g2, g3⟩ := HXX.out i p' hi
        exact ⟨a, c', g1, Nd.ownsRow_below g2 hb3, g3⟩
      have QR1 := Lib.hid (R1.out.below hb3 R1.out.lt)
      have QR2 := Lib.hid (R2.out.below hb3 R2.out.lt)
      have QR3 := Lib.hid (R3.out.below hb3 R3.out.lt)
      have HY := Lib.hid (onward HB.out (Nat.le_refl _) hb3)
      have HBS : Hid ((w.heap.size + 1 + 1 + 1) ≤ (w4.alloc (.cells #[.int .i64 p.f, .int .i64 p.t, .int .i64 p.d, .int .i64 p.s, .slice A2 p.bs.length c2] 52)).heap.size) := Lib.hid (by have := PB.out.lt; simp; omega)
      have hkl : (k + 1) * 56 ≤ 140737488351232 := by omega
      have yy0 := PB.out.cell 0
      have yy1 := PB.out.cell 1
      have yy2 := PB.out.cell 2
      have yy3 := PB.out.cell 3
      have yy4 := PB.out.cell 4
      simp only [List.getElem?_toArray, List.getElem?_cons_zero, List.getElem?_cons_succ] at yy0 yy1 yy2 yy3 yy4
      have yq := R3.out.cell 2
      simp only [List.getElem?_toArray, List.getElem?_cons_zero, List.getElem?_cons_succ] at yq
      clear hb3
      go_wp2_with (at_builtin; refine wpList_append_rd _ rfl (.tmp 23) (.tmp 25) 22 rfl (base := (w.heap.size + 1 + 1 + 1)) elemParcs rfl HQ.out rfl (fun h => by cases h) HN.out (by simp [parcL, Value.oneCell']) (by unfold maxLen; omega) (by omega) HBS.out ?_; intro A4 c4 w5 hA4 hown4 hg4; have HO4 := Lib.hid hown4; have HG4 := Lib.hid hg4; clear hown4 hg4 hA4; have QR3 := Lib.hid (QR3.out.grown HG4.out (own_ge HQ.out (by omega))); have yq := QR3.out.cell 2; have fq := QR3.out.thaw 2)
      have hfin := OwnD.snoc (lo := wr.heap.size) (by rw [HTL.out]; exact HCS.out) HCUT.out HXX.out (by rw [HTL.out]; exact HQ.out) HI.out H4.out HLW.out (by rw [HTL.out]; exact HO4.out) (by rw [HTL.out]; exact HG4.out)
      rw [← HTK.out] at hfin
      exact ⟨⟨k + 1, A4, c4, by omega, by go_num, (QR1.out.grown HG4.out (own_ge HQ.out (by omega))).other (p := ⟨w.heap.size + 1 + 1, 2, none⟩) (by show w.heap.size ≠ w.heap.size + 1 + 1; omega) _, (QR2.out.grown HG4.out (own_ge HQ.out (by omega))).other (p := ⟨w.heap.size + 1 + 1, 2, none⟩) (by show w.heap.size + 1 ≠ w.heap.size + 1 + 1; omega) _, QR3.out.set 2 _, hfin.keep (Nat.le_refl _) (by simp) fun _ _ _ _ _ _ hle h => Vt.own_setCell h (by omega) _, (HY.out.grown HG4.out HY.out.size (fun g e => by have := (HQ.out.lt g e).1; omega)).setCell (p := ⟨w.heap.size + 1 + 1, 2, none⟩) (by show w.heap.size ≤ w.heap.size + 1 + 1; omega) _⟩, by simp [intOf]; omega⟩
    · obtain rfl : k = qs.length := by omega
      clear hlt b1 b2 b3 ho hb
      rw [List.take_length] at HOP
      go_wp2_with (first
        | (refine wpList_whole rfl 24 _ rfl (w.heap.size + 1 + 1) rfl R3.out _ Try.underlying24 rfl (by kernel_rfl) ?_)
        | (refine wpList_store_row rfl 24 _ _ rfl (w.heap.size + 1) #[.int .i64 now, .int .i64 ser, .slice A' qs.length c'] rfl rfl 24 _ R2.out (by kernel_rfl) rfl (by simp [Value.oneCell']) ?_))
      exact ret_row rfl rfl (R2.out.setRow _) Try.underlying24 rfl (by kernel_rfl) rfl ⟨A', c', rfl, HOP.out.keep (by omega) (below_setRow (Below.refl 0 _) (Nat.zero_le _) _).size fun _ _ _ _ _ _ hle h => own_setRow h (by omega) _, below_setRow HB.out (by omega) _⟩

set_option maxRecDepth 100000 in
set_option maxHeartbeats 4000000 in
theorem copiedD_any (now ser : Int) (A : Option Addr) (c : Nat) (qs : List Parc) (B : Nat) (w : World) (hB : B ≤ w.heap.size) (hl : qs.length * 56 ≤ 140737488351232) (hr : ParcsAt w B A qs) :
    Calls Try.prog 26 #[.agg #[.int .i64 now, .int .i64 ser, .slice A qs.length c]] w fun e w' => OwnBusD w w' now ser qs e := by
  have HR := Lib.hid hr
  clear hr
  have D1 := Lib.hid (show Blk ((w.alloc (.cells #[.int .i64 now, .int .i64 ser, .slice A qs.length c] 24)).alloc (.cells #[.int .i64 0, .int .i64 0, .slice none 0 0] 24)) w.heap.size 24 #[.int .i64 now, .int .i64 ser, .slice A qs.length c] from (Blk.new rfl).alloc _)
  have D2 := Lib.hid (show Blk ((w.alloc (.cells #[.int .i64 now, .int .i64 ser, .slice A qs.length c] 24)).alloc (.cells #[.int .i64 0, .int .i64 0, .slice none 0 0] 24)) (w.heap.size + 1) 24 #[.int .i64 0, .int .i64 0, .slice none 0 0] from Blk.new (by simp))
  have HB := Lib.hid (((Below.refl w.heap.size w).alloc (Nat.le_refl _) (.cells #[.int .i64 now, .int .i64 ser, .slice A qs.length c] 24)).alloc (by simp) (.cells #[.int .i64 0, .int .i64 0, .slice none 0 0] 24))
  go_enter Try.func26, Try.ntmps26
  go_upto_region 1 with fail
  generalize ((w.alloc (.cells #[.int .i64 now, .int .i64 ser, .slice A qs.length c] 24)).alloc (.cells #[.int .i64 0, .int .i64 0, .slice none 0 0] 24)) = W at *
  have d2 := D1.out.cell 2
  simp only [List.getElem?_toArray, List.getElem?_cons_zero, List.getElem?_cons_succ] at d2
  have hWs : w.heap.size + 1 + 1 ≤ W.heap.size := D2.out.lt
  have ew : IntKind.i64.wrap ((qs.length : Int) + 1) = (qs.length : Int) + 1 := IntWalk.i64_in _ (by omega)
  go_upto_region 2 with (refine wpList_make_cap rfl _ _ 22 rfl elemParcs (qs.length + 1) rfl rfl (by simp) (by simp) (by omega) (by unfold maxLen; omega) hWs ?_; intro W1 hown hg; have HQ0 := Lib.hid hown; have HG0 := Lib.hid hg; clear hown hg)
  have D1 := Lib.hid (D1.out.grown HG0.out (by simp))
  have D2 := Lib.hid (D2.out.grown HG0.out (by simp))
  have HB := Lib.hid (HB.out.grown HG0.out HB.out.size (fun g e => by cases e))
  have d2 := D1.out.cell 2
  simp only [List.getElem?_toArray, List.getElem?_cons_zero, List.getElem?_cons_succ] at d2
  go_wp2_with fail
  clear d2
  go_loopw [3, 14] (fun q i wr => ∃ (k : Nat) (A' : Option Addr) (c' : Nat), k ≤ qs.length ∧ i = .int .i64 k ∧ q = .slice A' k c' ∧ Blk wr w.heap.size 24 #[.int .i64 now, .int .i64 ser, .slice A qs.length c] ∧ Blk wr (w.heap.size + 1) 24 #[.int .i64 0, .int .i64 0, .slice none 0 0] ∧ OwnD wr (w.heap.size + 1 + 1) A' c' (qs.take k) ∧ Below w.heap.size w wr) (fun _ i _ => qs.length - (intOf i).toNat)
  case atStart => exact ⟨0, _, _, by omega, rfl, rfl, D1.out, D2.out, OwnD.nil HQ0.out D2.out.lt, HB.out⟩
  case round =>
    clear D1 D2 HB HQ0 HG0
    obtain ⟨k, A', c', hk, rfl, rfl, b1, b2, ho, hb⟩ := hrel
    have R1 := Lib.hid b1
    have R2 := Lib.hid b2
    have HB := Lib.hid hb
    have HOP := Lib.hid ho
    by_cases hlt : k < qs.length
    · have hm : qs[k]? = some qs[k] := List.getElem?_eq_getElem hlt
      have HTK := Lib.hid (show qs.take (k + 1) = qs.take k ++ [qs[k]] from by rw [List.take_add_one, hm]; rfl)
      generalize qs[k] = p at *
      obtain ⟨b, o, a, ca, rfl, hbB, x0, x1, x2, x3, x4, h2, h3, h4, h5⟩ := (HR.out.below (hb.mono hB)).at hm
      obtain ⟨xs, cut, hrow, ⟨hc0, hcm, hcs⟩, hxs⟩ := ho
      have htk : (qs.take k).length = k := by rw [List.length_take]; omega
      rw [htk] at hrow hcs
      have HCT := Lib.hid (show w.heap.size + 1 + 1 ≤ cut 0 from by omega)
      have HCUT := Lib.hid (And.intro hc0 hcm)
      have HCS := Lib.hid hcs
      have HRow := Lib.hid hrow
      have HX := Lib.hid hxs
      have HTL := Lib.hid htk
      have H4 := Lib.hid h4
      have H5 := Lib.hid h5
      have hk0 : (0 : Int) ≤ (k : Int) := by omega
      have hk1 : (k : Int) < (qs.length : Int) := by omega
      have hb0 := hb.size
      have hbs : (w.heap.size + 1 + 1) ≤ wr.heap.size := b2.lt
      clear hrow hxs h5 hm htk hc0 hcm hcs HCT hb b1 b2 HOP
      go_upto_region 5 with fail
      have PB := Lib.hid (show Blk (wr.alloc (.cells #[.int .i64 p.f, .int .i64 p.t, .int .i64 p.d, .int .i64 p.s, .slice a p.bs.length ca] 52)) wr.heap.size 52 #[.int .i64 p.f, .int .i64 p.t, .int .i64 p.d, .int .i64 p.s, .slice a p.bs.length ca] from Blk.fresh _ _ _)
      have hbl : Below wr.heap.size wr (wr.alloc (.cells #[.int .i64 p.f, .int .i64 p.t, .int .i64 p.d, .int .i64 p.s, .slice a p.bs.length ca] 52)) := (Below.refl _ _).alloc (Nat.le_refl _) _
      have HBL := Lib.hid hbl
      have H5 := Lib.hid (H5.out.below (hbl.mono (Nat.le_trans hB hb0)))
      have hgl := PB.out.lt
      clear x0 x1 x2 x3 x4 hbl
      generalize (wr.alloc (.cells #[.int .i64 p.f, .int .i64 p.t, .int .i64 p.d, .int .i64 p.s, .slice a p.bs.length ca] 52)) = w2 at *
      obtain ⟨g, hg⟩ : ∃ g, wr.heap.size = g := ⟨_, rfl⟩
      rw [hg] at PB hgl hbs ⊢
      have HGG := Lib.hid hg
      clear hg
      have y4 := PB.out.cell 4
      simp only [List.getElem?_toArray, List.getElem?_cons_zero, List.getElem?_cons_succ] at y4
      go_wp2_with fail
      refine (clone_any a ca p.bs w2.heap.size w2 (Nat.le_refl _) h2 h3 h4 (H5.out.more (by have := HBL.out.size; omega))).mono ?_
      rintro e w3 ⟨A2, c2, rfl, hown, hbc⟩
      have HI := Lib.hid (own_weaken hown (show wr.heap.size ≤ w2.heap.size from HBL.out.size))
      have HBL := Lib.hid (HBL.out.trans (hbc.mono (by have := HBL.out.size; omega)))
      have PB := Lib.hid (PB.out.below hbc PB.out.lt)
      have y4 := PB.out.cell 4
      have f4 := PB.out.thaw 4
      clear hown hbc
      go_upto_region 6 with fail
      have PB0 := PB
      have PB : Hid (Blk (w3.setCell ⟨g, 4, none⟩ (.slice A2 p.bs.length c2)) g 52 #[.int .i64 p.f, .int .i64 p.t, .int .i64 p.d, .int .i64 p.s, .slice A2 p.bs.length c2]) := Lib.hid (PB.out.set 4 (.slice A2 p.bs.length c2))
      have HI := Lib.hid (own_set_typed HI.out (show w3.heap[g]? = some (.cells #[.int .i64 p.f, .int .i64 p.t, .int .i64 p.d, .int .i64 p.s, .slice a p.bs.length ca] 52 (0, 0)) from PB0.out) (by decide) 4 (.slice A2 p.bs.length c2))
      have HBL : Hid (Below wr.heap.size wr (w3.setCell ⟨g, 4, none⟩ (.slice A2 p.bs.length c2))) := Lib.hid (HBL.out.setCell (p := ⟨g, 4, none⟩) (by show wr.heap.size ≤ g; have := HGG.out; omega) (.slice A2 p.bs.length c2))
      clear PB0
      generalize (w3.setCell ⟨g, 4, none⟩ (.slice A2 p.bs.length c2)) = w4 at *
      have HRow := Lib.hid (Nd.ownsRow_below HRow.out HBL.out)
      have HXX : Hid (∀ i p', (qs.take k)[i]? = some p' → InD w4 (cut i) (cut (i + 1)) xs i p') := Lib.hid fun i p' hi => by
        obtain ⟨a, c', g1, g2, g3⟩ := HX.out i p' hi
        exact ⟨a, c', g1, Nd.ownsRow_below g2 HBL.out, g3⟩
      have R1 := Lib.hid (R1.out.below HBL.out R1.out.lt)
      have R2 := Lib.hid (R2.out.below HBL.out R2.out.lt)
      have HB := Lib.hid (onward HB.out (Nat.le_refl _) HBL.out)
      have HZ4 := Lib.hid HBL.out.size
      clear HX y4 HBL H5
      have HN : Hid (Rd (w4.alloc (.cells #[.int .i64 p.f, .int .i64 p.t, .int .i64 p.d, .int .i64 p.s, .slice A2 p.bs.length c2] 52)) (w4.heap.size + 1) 5 (some ⟨w4.heap.size, 0, none⟩) 1 (parcL p A2 c2)) := Lib.hid (rd_five w4 (parcL p A2 c2) rfl _)
      have hb3 : Below w4.heap.size w4 (w4.alloc (.cells #[.int .i64 p.f, .int .i64 p.t, .int .i64 p.d, .int .i64 p.s, .slice A2 p.bs.length c2] 52)) := (Below.refl _ _).alloc (Nat.le_refl _) _
      have HQ := Lib.hid (Nd.ownsRow_below HRow.out hb3)
      have HI := Lib.hid (Nd.ownsRow_below HI.out hb3)
      have HLW := Lib.hid (Nat.le_trans HZ4.out hb3.size)
      have HXX : Hid (∀ i p', (qs.take k)[i]? = some p' → InD (w4.alloc (.cells #[.int .i64 p.f, .int .i64 p.t, .int .i64 p.d, .int .i64 p.s, .slice A2 p.bs.length c2] 52)) (cut i) (cut (i + 1)) xs i p') := Lib.hid fun i p' hi => by
        obtain ⟨a, c', g1, g2, g3⟩ := HXX.out i p' hi
        exact ⟨a, c', g1, Nd.ownsRow_below g2 hb3, g3⟩
      have QR1 := Lib.hid (R1.out.below hb3 R1.out.lt)
      have QR2 := Lib.hid (R2.out.below hb3 R2.out.lt)
      have HY := Lib.hid (onward HB.out (Nat.le_refl _) hb3)
      have HBS : Hid ((w.heap.size + 1 + 1) ≤ (w4.alloc (.cells #[.int .i64 p.f, .int .i64 p.t, .int .i64 p.d, .int .i64 p.s, .slice A2 p.bs.length c2] 52)).heap.size) := Lib.hid (by have := PB.out.lt; simp; omega)
      have hkl : (k + 1) * 56 ≤ 140737488351232 := by omega
      have yy0 := PB.out.cell 0
      have yy1 := PB.out.cell 1
      have yy2 := PB.out.cell 2
      have yy3 := PB.out.cell 3
      have yy4 := PB.out.cell 4
      simp only [List.getElem?_toArray, List.getElem?_cons_zero, List.getElem?_cons_succ] at yy0 yy1 yy2 yy3 yy4
      clear hb3
      go_wp2_with (at_builtin; refine wpList_append_rd _ rfl (.tmp 22) (.tmp 24) 22 rfl (base := (w.heap.size + 1 + 1)) elemParcs rfl HQ.out rfl (fun h => by cases h) HN.out (by simp [parcL, Value.oneCell']) (by unfold maxLen; omega) (by omega) HBS.out ?_; intro A4 c4 w5 hA4 hown4 hg4; have HO4 := Lib.hid hown4; have HG4 := Lib.hid hg4; clear hown4 hg4 hA4)
      have hfin := OwnD.snoc (lo := wr.heap.size) (by rw [HTL.out]; exact HCS.out) HCUT.out HXX.out (by rw [HTL.out]; exact HQ.out) HI.out H4.out HLW.out (by rw [HTL.out]; exact HO4.out) (by rw [HTL.out]; exact HG4.out)
      rw [← HTK.out] at hfin
      exact ⟨⟨k + 1, A4, c4, by omega, by go_num, rfl, QR1.out.grown HG4.out (own_ge HQ.out (by omega)), QR2.out.grown HG4.out (own_ge HQ.out (by omega)), hfin, HY.out.grown HG4.out HY.out.size (fun g e => by have := (HQ.out.lt g e).1; omega)⟩, by simp [intOf]; omega⟩
    · obtain rfl : k = qs.length := by omega
      clear hlt b1 b2 ho hb
      rw [List.take_length] at HOP
      have y2 := R1.out.cell 2
      have f2 := R1.out.thaw 2
      have R2 := Lib.hid (R2.out.other (p := ⟨w.heap.size, 2, none⟩) (by show w.heap.size + 1 ≠ w.heap.size; omega) (.slice A' qs.length c'))
      have R1 : Hid (Blk (wr.setCell ⟨w.heap.size, 2, none⟩ (.slice A' qs.length c')) w.heap.size 24 #[.int .i64 now, .int .i64 ser, .slice A' qs.length c']) := Lib.hid (R1.out.set 2 _)
      have HOP := Lib.hid (HOP.out.keep (base' := (w.heap.size + 1 + 1)) (w' := wr.setCell ⟨w.heap.size, 2, none⟩ (.slice A' qs.length c')) (Nat.le_refl _) (by simp) fun _ _ _ _ _ _ hle h => Vt.own_setCell (g := w.heap.size) (i := 2) h (by omega) (.slice A' qs.length c'))
      have HB := Lib.hid (HB.out.setCell (p := ⟨w.heap.size, 2, none⟩) (Nat.le_refl _) (.slice A' qs.length c'))
      go_wp2_with (first
        | (refine wpList_whole rfl 24 _ rfl w.heap.size rfl R1.out _ Try.underlying24 rfl (by kernel_rfl) ?_)
        | (refine wpList_store_row rfl 24 _ _ rfl (w.heap.size + 1) #[.int .i64 now, .int .i64 ser, .slice A' qs.length c'] rfl rfl 24 _ R2.out (by kernel_rfl) rfl (by simp [Value.oneCell']) ?_))
      exact ret_row rfl rfl (R2.out.setRow _) Try.underlying24 rfl (by kernel_rfl) rfl ⟨A', c', rfl, HOP.out.keep (by omega) (below_setRow (Below.refl 0 _) (Nat.zero_le _) _).size fun _ _ _ _ _ _ hle h => own_setRow h (by omega) _, below_setRow HB.out (by omega) _⟩
theorem copybus_any (now ser : Int) (A : Option Addr) (c : Nat) (qs : List Parc) (B : Nat) (w : World) (hB : B ≤ w.heap.size) (hl : qs.length * 56 ≤ 140737488351232) (hr : ParcsAt w B A qs) :
    Calls Try.prog 10 #[.agg #[.int .i64 now, .int .i64 ser, .slice A qs.length c]] w fun e w' => OwnBus w w' now ser qs e := (copybusD_any now ser A c qs B w hB hl hr).mono fun _ _ h => h.own
theorem copied_any (now ser : Int) (A : Option Addr) (c : Nat) (qs : List Parc) (B : Nat) (w : World) (hB : B ≤ w.heap.size) (hl : qs.length * 56 ≤ 140737488351232) (hr : ParcsAt w B A qs) :
    Calls Try.prog 26 #[.agg #[.int .i64 now, .int .i64 ser, .slice A qs.length c]] w fun e w' => OwnBus w w' now ser qs e := (copiedD_any now ser A c qs B w hB hl hr).mono fun _ _ h => h.own
end Go.Proofs.Ytlcpackmoolngaa.Bu
