/- Contract: messages: a list of messages handed on in memory of its own. -/
import Derived.Test.YtjfllpmiajkenaaMsgs
import Derived.Test.YtjfllpmiajkenaaOwnMore
import Derived.Test.YtjfllpmiajkenaaVote
namespace Go.Proofs.Ytjfllpmiajkenaa.Ms
open Go.ChangeShapes Go.WideShapes Go.ChangeAt Go.RowKit Go.Proofs.Ytjfllpmiajkenaa.Mem Go.Proofs.Ytjfllpmiajkenaa.Op
set_option linter.unusedVariables false
set_option linter.unusedSimpArgs false


/-- a list of messages in memory of its own -/
def OwnMsgs (w : World) (base : Nat) (A : Option Addr) (c : Nat) (ms : List Msg) : Prop :=
  ∃ xs, w.ownsRow base 41 4 (.slice A ms.length c) ms.length xs ∧ ∀ i m, ms[i]? = some m → ∃ a c', (xs.drop (i * 4)).take 4 = msgL m a c' ∧ w.ownsRow base 3 1 (.slice a m.zs.length c') m.zs.length (intsV m.zs) ∧ m.zs.length * 8 ≤ 140737488351232
theorem OwnMsgs.at {w : World} {base : Nat} {A : Option Addr} {c : Nat} {ms : List Msg} (h : OwnMsgs w base A c ms) : MsgsAt w w.heap.size A ms ∧ (A = none → c = 0) ∧ ms.length ≤ c ∧ ∀ a, A = some a → base ≤ a.block := by
  obtain ⟨xs, ho, hx⟩ := h
  refine ⟨⟨xs, Rd.of_own ho, fun i m hm => ?_⟩, (own_cap ho).1, (own_cap ho).2, own_lo ho⟩
  obtain ⟨a, c', h1, h2, h3⟩ := hx i m hm
  exact ⟨a, c', h1, (own_cap h2).1, (own_cap h2).2, h3, Rd.of_own h2⟩
theorem OwnMsgs.nil (w : World) (base : Nat) : OwnMsgs w base none 0 [] := ⟨[], World.ownsRow_nil _ _ _ _, fun i m h => by simp at h⟩
theorem OwnMsgs.below {w w' : World} {base : Nat} {A : Option Addr} {c : Nat} {ms : List Msg} (h : OwnMsgs w base A c ms) (hb : Below w.heap.size w w') : OwnMsgs w' base A c ms := by
  obtain ⟨xs, ho, hx⟩ := h
  refine ⟨xs, Nd.ownsRow_below ho hb, fun i m hm => ?_⟩
  obtain ⟨a, c', h1, h2, h3⟩ := hx i m hm
  exact ⟨a, c', h1, Nd.ownsRow_below h2 hb, h3⟩
/-- one more -/
theorem OwnMsgs.snoc {w w' : World} {base : Nat} {A A' : Option Addr} {c c' : Nat} {ms : List Msg} {m : Msg} {a : Option Addr} {ca : Nat} {xs : List Value} (hx : ∀ i m, ms[i]? = some m → ∃ a c', (xs.drop (i * 4)).take 4 = msgL m a c' ∧ w.ownsRow base 3 1 (.slice a m.zs.length c') m.zs.length (intsV m.zs) ∧ m.zs.length * 8 ≤ 140737488351232)
    (ho : w.ownsRow base 41 4 (.slice A ms.length c) ms.length xs) (hm : w.ownsRow base 3 1 (.slice a m.zs.length ca) m.zs.length (intsV m.zs)) (hl : m.zs.length * 8 ≤ 140737488351232)
    (ho' : w'.ownsRow base 41 4 (.slice A' (ms.length + 1) c') (ms.length + 1) (xs ++ msgL m a ca)) (hg : w.grownBy w' (Value.slice A ms.length c).ownBlock) : OwnMsgs w' base A' c' (ms ++ [m]) := by
  have hne : 41 ≠ 3 := by decide
  have hxl : xs.length = ms.length * 4 := ho.1
  refine ⟨xs ++ msgL m a ca, by rw [List.length_append]; exact ho', fun i m' hi => ?_⟩
  rcases Nat.lt_or_ge i ms.length with h | h
  · rw [List.getElem?_append_left h] at hi
    obtain ⟨a', c1, h1, h2, h3⟩ := hx i m' hi
    refine ⟨a', c1, ?_, own_kept h2 hg (own_is ho hne), h3⟩
    rw [List.drop_append_of_le_length (by omega), List.take_append_of_le_length (by rw [List.length_drop]; omega)]
    exact h1
  · rw [List.getElem?_append_right h] at hi
    have hi0 : i = ms.length := by
      have := (List.getElem?_eq_some_iff.1 hi).1
      simp at this; omega
    subst hi0
    simp at hi
    subst hi
    refine ⟨a, ca, ?_, own_kept hm hg (own_is ho hne), hl⟩
    rw [List.drop_append, List.drop_of_length_le (by omega), hxl, Nat.sub_self, List.drop_zero, List.nil_append]
    rfl

theorem message_len (k f n : Int) (A : Option Addr) (c : Nat) (zs : List Int) (B : Nat) (w : World) (hB : B ≤ w.heap.size) (hA : A = none → c = 0) (hnc : zs.length ≤ c) (hc : zs.length * 8 ≤ 140737488351232) (hr : Rd w B 1 A zs.length (intsV zs)) :
    Calls Try.prog 49 #[msgV k f n A zs.length c] w fun e w' => OwnMsg w w' k f n zs e := by
  have hr1 := hr.alloc hB (.cells #[.int .i64 k, .int .i64 f, .int .i64 n, .slice A zs.length c] 41)
  have HR1 := Lib.hid hr1
  clear hr1 hr
  unfold msgV
  go_enter Try.func49, Try.ntmps49
  go_wp2_with (at_builtin; go_loud (refine wpList_append_rd _ rfl _ _ _ rfl (base := w.heap.size + 2) elemInts rfl (World.ownsRow_nil _ _ _ _) rfl (fun h => ⟨by have := hA h; omega, hA h⟩) (HR1.out.alloc (by simp; omega) _) (intsV_one zs) (by unfold maxLen; omega) (by omega) (by simp) ?_))
  intro A' c' w1 hA' hown hg
  (try simp only [List.nil_append, Nat.zero_add] at hown)
  have b0 := ((Blk.new (t := 41) (cs := #[.int .i64 k, .int .i64 f, .int .i64 n, .slice A zs.length c]) (w := w) rfl).alloc (.cells #[.int .i64 0, .int .i64 0, .int .i64 0, .slice none 0 0] 41)).grown hg (by simp [Value.ownBlock])
  have b1 := (Blk.new (t := 41) (cs := #[.int .i64 0, .int .i64 0, .int .i64 0, .slice none 0 0]) (w := w.alloc (.cells #[.int .i64 k, .int .i64 f, .int .i64 n, .slice A zs.length c] 41)) (g := w.heap.size + 1) (by simp)).grown hg (by simp [Value.ownBlock])
  have hb : Below w.heap.size w w1 := (((Below.refl _ _).alloc (Nat.le_refl _) _).alloc (by simp) _).grown hg (by simp; omega) (by simp [Value.ownBlock])
  have c00 := b0.cell 0
  have c01 := b0.cell 1
  have c02 := b0.cell 2
  have c03 := b0.cell 3
  have f03 := b0.thaw 3
  have c10 := b1.cell 0
  have c11 := b1.cell 1
  have c12 := b1.cell 2
  have c13 := b1.cell 3
  have f10 := b1.thaw 0
  have f11 := b1.thaw 1
  have f12 := b1.thaw 2
  have f13 := b1.thaw 3
  simp only [List.getElem?_toArray, List.getElem?_cons_zero, List.getElem?_cons_succ] at c00 c01 c02 c03 c10 c11 c12 c13
  have HO := Lib.hid hown
  have HB1 := Lib.hid b1
  have HB := Lib.hid hb
  clear hown b1 b0 hb hg hA'
  go_wp2
  refine ret_row rfl rfl (((((HB1.out.other (by simp) _).set 0 _).set 1 _).set 2 _).set 3 _) Try.underlying41 rfl (by kernel_rfl) rfl ⟨A', c', rfl, ?_, ?_⟩
  · exact own_weaken (ownsRow_setCell_below (ownsRow_setCell_below (ownsRow_setCell_below (ownsRow_setCell_below (ownsRow_setCell_below HO.out (by simp) _) (by simp) _) (by simp) _) (by simp) _) (by simp) _) (by omega)
  · exact ((((HB.out.setCell (by simp) _).setCell (by simp) _).setCell (by simp) _).setCell (by simp) _).setCell (by simp) _

theorem elemMsgs : Elem Try.prog 38 41 (.agg #[.int .i64 0, .int .i64 0, .int .i64 0, .slice none 0 0]) 4 48 := ⟨Try.underlying38, by kernel_rfl, rfl, by omega⟩
theorem rd_four (w : World) (cs : List Value) (h4 : cs.length = 4) (e : TypeId) : Rd (w.alloc (.cells cs.toArray e)) (w.heap.size + 1) 4 (some ⟨w.heap.size, 0, none⟩) 1 cs := by
  refine ⟨by omega, fun _ => ⟨w.heap.size, 0, rfl, by omega, fun j u hu => ?_⟩⟩
  have h := (Blk.fresh w e cs.toArray).cell j
  rw [Nat.zero_add, h]
  simpa using hu

set_option maxRecDepth 100000 in
set_option maxHeartbeats 2000000 in
theorem messages_any (A : Option Addr) (c : Nat) (ms : List Msg) (B : Nat) (w : World) (hB : B ≤ w.heap.size) (hl : ms.length * 48 ≤ 140737488351232) (hr : MsgsAt w B A ms) :
    Calls Try.prog 15 #[.slice A ms.length c] w fun e w' => ∃ A' c', e = .returned (.slice A' ms.length c') ∧ OwnMsgs w' w.heap.size A' c' ms ∧ Below w.heap.size w w' := by
  have HR := Lib.hid hr
  clear hr
  go_enter Try.func15, Try.ntmps15
  go_wp2_with fail
  go_loopw [3, 4] (fun v i wr => ∃ (k : Nat) (A' : Option Addr) (c' : Nat), k ≤ ms.length ∧ i = .int .i64 k ∧ v = .slice A' k c' ∧ OwnMsgs wr w.heap.size A' c' (ms.take k) ∧ Below w.heap.size w wr) (fun _ i _ => ms.length - (intOf i).toNat)
  case atStart => exact ⟨0, none, 0, by omega, rfl, rfl, OwnMsgs.nil _ _, Below.refl _ _⟩
  case round =>
    obtain ⟨k, A', c', hk, rfl, rfl, ho, hb⟩ := hrel
    by_cases hlt : k < ms.length
    · have hm : ms[k]? = some ms[k] := List.getElem?_eq_getElem hlt
      have HTK := Lib.hid (show ms.take (k + 1) = ms.take k ++ [ms[k]] from by rw [List.take_add_one, hm]; rfl)
      generalize ms[k] = m at *
      obtain ⟨b, o, a, ca, rfl, hbB, x0, x1, x2, x3, h2, h3, h4, h5⟩ := (HR.out.below (hb.mono hB)).at hm
      obtain ⟨xs, hrow, hxs⟩ := ho
      have htk : (ms.take k).length = k := by rw [List.length_take]; omega
      rw [htk] at hrow
      have HB := Lib.hid hb
      have HRow := Lib.hid hrow
      have HX := Lib.hid hxs
      have HM := Lib.hid (message_len m.k m.f m.n a ca m.zs B wr (Nat.le_trans hB hb.size) h2 h3 h4 h5)
      have HTL := Lib.hid htk
      have H4 := Lib.hid h4
      unfold msgV at HM
      have hk0 : (0 : Int) ≤ (k : Int) := by omega
      have hk1 : (k : Int) < (ms.length : Int) := by omega
      clear hb hrow hxs h2 h3 h4 h5 hm htk
      go_wp2_with fail
      refine HM.out.mono ?_
      rintro e w2 ⟨A2, c2, rfl, hown2, hb2⟩
      unfold msgV
      have HN : Hid (Rd (w2.alloc (.cells #[.int .i64 m.k, .int .i64 m.f, .int .i64 m.n, .slice A2 m.zs.length c2] 41)) (w2.heap.size + 1) 4 (some ⟨w2.heap.size, 0, none⟩) 1 (msgL m A2 c2)) := Lib.hid (rd_four w2 (msgL m A2 c2) rfl _)
      have hb3 : Below w2.heap.size w2 (w2.alloc (.cells #[.int .i64 m.k, .int .i64 m.f, .int .i64 m.n, .slice A2 m.zs.length c2] 41)) := (Below.refl _ _).alloc (Nat.le_refl _) _
      have HQ := Lib.hid (Nd.ownsRow_below (Nd.ownsRow_below HRow.out hb2) hb3)
      have HI := Lib.hid (own_weaken (Nd.ownsRow_below hown2 hb3) (Nat.le_trans HB.out.size (Nat.le_refl _)))
      have HXX : Hid (∀ i m', (ms.take k)[i]? = some m' → ∃ a c', (xs.drop (i * 4)).take 4 = msgL m' a c' ∧ (w2.alloc (.cells #[.int .i64 m.k, .int .i64 m.f, .int .i64 m.n, .slice A2 m.zs.length c2] 41)).ownsRow w.heap.size 3 1 (.slice a m'.zs.length c') m'.zs.length (intsV m'.zs) ∧ m'.zs.length * 8 ≤ 140737488351232) := Lib.hid fun i m' hi => by
        obtain ⟨a, c', g1, g2, g3⟩ := HX.out i m' hi
        exact ⟨a, c', g1, Nd.ownsRow_below (Nd.ownsRow_below g2 hb2) hb3, g3⟩
      have HY := Lib.hid (onward (onward HB.out (Nat.le_refl _) hb2) (Nat.le_refl _) hb3)
      have HBS := Lib.hid HY.out.size
      have hkl : (k + 1) * 48 ≤ 140737488351232 := by omega
      clear hown2 hb2 hb3 x0 x1 x2 x3
      go_wp2_with (at_builtin; refine wpList_append_rd _ rfl (.tmp 11) (.tmp 17) 38 rfl (base := w.heap.size) elemMsgs rfl HQ.out rfl (fun h => by cases h) HN.out (by simp [msgL, Value.oneCell']) (by unfold maxLen; omega) (by omega) HBS.out ?_; intro A4 c4 w4 hA4 hown4 hg4; have HO4 := Lib.hid hown4; have HG4 := Lib.hid hg4; clear hown4 hg4 hA4)
      refine ⟨⟨k + 1, A4, c4, by omega, by go_num, by go_num, ?_, HY.out.grown HG4.out HBS.out (fun g e => (HQ.out.lt g e).1)⟩, by simp [intOf]; omega⟩
      rw [HTK.out]
      exact OwnMsgs.snoc HXX.out (by rw [HTL.out]; exact HQ.out) HI.out H4.out (by rw [HTL.out]; exact HO4.out) (by rw [HTL.out]; exact HG4.out)
    · obtain rfl : k = ms.length := by omega
      clear hlt
      have HO := Lib.hid ho
      have HB := Lib.hid hb
      clear ho hb
      go_wp2_with fail
      go_ret
      refine ⟨A', c', rfl, ?_, HB.out⟩
      have h := HO.out
      rwa [List.take_length] at h
end Go.Proofs.Ytjfllpmiajkenaa.Ms
