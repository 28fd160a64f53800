/- Contract: node.hear: of each other node the numbers of the first message that fits. -/
import Derived.Test.YtjfllpmiajkenaaFirst
import Derived.Test.YtjfllpmiajkenaaRegR
namespace Go.Proofs.Ytjfllpmiajkenaa.Ms
open Go.ChangeShapes Go.WideShapes Go.ChangeAt Go.RowKit Go.Proofs.Ytjfllpmiajkenaa.Mem Go.Proofs.Ytjfllpmiajkenaa.Op Go.Proofs.Ytjfllpmiajkenaa.Rws Go.Proofs.Ytjfllpmiajkenaa.Nd
set_option linter.unusedVariables false
set_option linter.unusedSimpArgs false

/-- what was heard of a node -/
def HeardAs (w : World) (base : Nat) (o : Option Msg) (v : Value) : Prop :=
  match o with
  | some m => ∃ a c, v = .slice (some a) m.zs.length c ∧ w.ownsRow base 3 1 v m.zs.length (intsV m.zs)
  | none => v = .slice none 0 0
theorem HeardAs.keep {w w' : World} {base base' : Nat} {o : Option Msg} {v : Value} (h : HeardAs w base o v) (hk : ∀ n xs, w.ownsRow base 3 1 v n xs → w'.ownsRow base' 3 1 v n xs) : HeardAs w' base' o v := by
  cases o with
  | none => exact h
  | some m => obtain ⟨a, c, h1, h2⟩ := h; exact ⟨a, c, h1, hk _ _ h2⟩
theorem HeardAs.below {w w' : World} {base : Nat} {o : Option Msg} {v : Value} (h : HeardAs w base o v) (hb : Below w.heap.size w w') : HeardAs w' base o v := h.keep fun n xs h => ownsRow_below h hb
theorem HeardAs.one {w : World} {base : Nat} {o : Option Msg} {v : Value} (h : HeardAs w base o v) : v.oneCell' = true := by
  cases o with
  | none => rw [show v = .slice none 0 0 from h]; rfl
  | some m => obtain ⟨a, c, rfl, h2⟩ := h; rfl

theorem first_snoc (id fr kind : Int) (many : Nat) (fm : Int) {ms : List Msg} {k : Nat} {m : Msg} (hm : ms[k]? = some m) : firstOf id fr kind many fm (ms.take (k + 1)) = (firstOf id fr kind many fm (ms.take k)).or (if fit id fr kind many fm m = true then some m else none) := by
  unfold firstOf
  rw [List.take_add_one, hm, List.find?_append]
  by_cases h : fit id fr kind many fm m = true
  · simp [h]
  · simp [h]

/-- hear, k messages on -/
def HearAt (w wr : World) (R : Array Value) (id fr kind : Int) (many : Nat) (ms : List Msg) (k : Nat) : Prop :=
  ∃ s : Nat → Value, (∀ i : Nat, i < 4 → HeardAs wr (w.heap.size + 1 + 1 + 1) (firstOf id fr kind many (i : Int) (ms.take k)) (s i)) ∧ Blk wr w.heap.size 37 R ∧ Blk wr (w.heap.size + 1) 78 (row 4 fun _ => .slice none 0 0) ∧ Blk wr (w.heap.size + 1 + 1) 78 (row 4 s) ∧ Below w.heap.size w wr

/-- a message that fits none -/
theorem hear_skip {w wr w2 : World} {R : Array Value} {id fr kind : Int} {many : Nat} {ms : List Msg} {k : Nat} {m : Msg} (h : HearAt w wr R id fr kind many ms k) (hm : ms[k]? = some m) (hb : Below wr.heap.size wr w2)
    (hf : ∀ i : Nat, i < 4 → fit id fr kind many (i : Int) m = false ∨ ∃ x, firstOf id fr kind many (i : Int) (ms.take k) = some x) : HearAt w w2 R id fr kind many ms (k + 1) := by
  obtain ⟨s, hs, h1, h2, h3, h4⟩ := h
  refine ⟨s, fun i hi => ?_, h1.below hb h1.lt, h2.below hb h2.lt, h3.below hb h3.lt, onward h4 (Nat.le_refl _) hb⟩
  rw [first_snoc _ _ _ _ _ hm]
  have hh := (hs i hi).below hb
  rcases hf i hi with e | ⟨x, e⟩
  · rw [e]
    cases ho : firstOf id fr kind many (i : Int) (ms.take k) with
    | none => rw [ho] at hh; exact hh
    | some x => rw [ho] at hh; exact hh
  · rw [e] at hh ⊢; exact hh

/-- a message that fits -/
theorem hear_take {w wr V : World} {R : Array Value} {id fr kind : Int} {many : Nat} {ms : List Msg} {k : Nat} {m : Msg} (h : HearAt w wr R id fr kind many ms k) (hm : ms[k]? = some m) (hb : Below wr.heap.size wr V) {j : Nat} (hj : j < 4)
    (hf : ∀ i : Nat, i < 4 → fit id fr kind many (i : Int) m = decide (i = j)) (hn : firstOf id fr kind many (j : Int) (ms.take k) = none) {a : Addr} {c : Nat} (ho : V.ownsRow (w.heap.size + 1 + 1 + 1) 3 1 (.slice (some a) m.zs.length c) m.zs.length (intsV m.zs)) :
    HearAt w (V.setCell ⟨w.heap.size + 1 + 1, j, none⟩ (.slice (some a) m.zs.length c)) R id fr kind many ms (k + 1) := by
  obtain ⟨s, hs, h1, h2, h3, h4⟩ := h
  have e3 := (h3.below hb h3.lt).set j (.slice (some a) m.zs.length c)
  rw [row_set] at e3
  refine ⟨fun i => if i = j then .slice (some a) m.zs.length c else s i, fun i hi => ?_, (h1.below hb h1.lt).other (by show w.heap.size ≠ w.heap.size + 1 + 1; omega) _, (h2.below hb h2.lt).other (by show w.heap.size + 1 ≠ w.heap.size + 1 + 1; omega) _, e3, (onward h4 (Nat.le_refl _) hb).setCell (by show w.heap.size ≤ w.heap.size + 1 + 1; omega) _⟩
  rw [first_snoc _ _ _ _ _ hm, hf i hi]
  have hk : ∀ {v n xs}, V.ownsRow (w.heap.size + 1 + 1 + 1) 3 1 v n xs → (V.setCell ⟨w.heap.size + 1 + 1, j, none⟩ (.slice (some a) m.zs.length c)).ownsRow (w.heap.size + 1 + 1 + 1) 3 1 v n xs := fun h => Vt.own_setCell h (by omega) _
  by_cases e : i = j
  · subst e
    rw [hn]
    simp only [decide_true, if_true, Option.none_or]
    exact ⟨a, c, rfl, hk ho⟩
  · rw [decide_eq_false e]
    show HeardAs _ _ _ (if i = j then _ else s i)
    rw [if_neg e]
    have := ((hs i hi).below hb).keep (base' := w.heap.size + 1 + 1 + 1) fun n xs h => hk h
    simpa using this

set_option maxRecDepth 100000 in
set_option maxHeartbeats 2000000 in
theorem hear_any (R : Array Value) (id fr : Int) (h0 : R[0]? = some (.int .i64 id)) (h1 : R[1]? = some (.int .i64 fr)) (A : Option Addr) (c : Nat) (ms : List Msg) (kind : Int) (many : Nat) (hmany : 0 < many) (B : Nat) (w : World) (hB : B ≤ w.heap.size) (hl : ms.length ≤ 140737488355328) (hr : MsgsAt w B A ms) :
    Calls Try.prog 42 #[.agg R, .slice A ms.length c, .int .i64 kind, .int .i64 (many : Int)] w fun e w' => ∃ s : Nat → Value, e = .returned (.agg (row 4 s)) ∧ (∀ i : Nat, i < 4 → HeardAs w' w.heap.size (firstOf id fr kind many (i : Int) ms) (s i)) ∧ Below w.heap.size w w' := by
  have HR := Lib.hid hr
  have H0 := Lib.hid h0
  have H1 := Lib.hid h1
  clear hr h0 h1
  go_enter Try.func42, Try.ntmps42
  go_wp2_with fail
  go_loopw [14] (fun i wr => ∃ (k : Nat), k ≤ ms.length ∧ i = .int .i64 k ∧ HearAt w wr R id fr kind many ms k) (fun i _ => ms.length - (intOf i).toNat)
  case atStart =>
    refine ⟨0, by omega, rfl, fun _ => .slice none 0 0, fun i hi => rfl, ((Blk.new rfl).alloc _).alloc _, (Blk.new (by simp)).alloc _, Blk.new (by simp), ?_⟩
    exact (((Below.refl _ _).alloc (Nat.le_refl _) _).alloc (by simp) _).alloc (by simp; omega) _
  case round =>
    obtain ⟨k, hk, rfl, hH⟩ := hrel
    by_cases hlt : k < ms.length
    · have hm : ms[k]? = some ms[k] := List.getElem?_eq_getElem hlt
      generalize ms[k] = m at *
      have HH := Lib.hid hH
      obtain ⟨s, hs, hn, hres, hout, hb⟩ := hH
      have HM := Lib.hid hm
      obtain ⟨b, o, a, ca, rfl, hbB, x0, x1, x2, x3, h2, h3, h4, h5⟩ := (HR.out.below (hb.mono hB)).at hm
      have hk0 : (0 : Int) ≤ (k : Int) := by omega
      have hk1 : (k : Int) < (ms.length : Int) := by omega
      have hb0 := hb.size
      have HS := Lib.hid hs
      have HN := Lib.hid hn
      have HE := Lib.hid hres
      have HO := Lib.hid hout
      have HO0 := Lib.hid hout
      have HB := Lib.hid hb
      have H5 := Lib.hid h5
      clear hs hn hres hout hb hm h5
      go_upto_region 5 with fail
      have M := Lib.hid (show Blk (wr.alloc (.cells #[.int .i64 m.k, .int .i64 m.f, .int .i64 m.n, .slice a m.zs.length ca] 41)) wr.heap.size 41 #[.int .i64 m.k, .int .i64 m.f, .int .i64 m.n, .slice a m.zs.length ca] from Blk.fresh _ _ _)
      have HBW := Lib.hid ((Below.refl wr.heap.size wr).alloc (Nat.le_refl _) (.cells #[.int .i64 m.k, .int .i64 m.f, .int .i64 m.n, .slice a m.zs.length ca] 41))
      have hg3 := HO.out.lt
      have HN := Lib.hid (HN.out.below HBW.out HN.out.lt)
      have HO := Lib.hid (HO.out.below HBW.out HO.out.lt)
      have y0 := M.out.cell 0
      have y1 := M.out.cell 1
      have y2 := M.out.cell 2
      have y3 := M.out.cell 3
      have z0 := (HN.out.cell 0).trans H0.out
      have z1 := (HN.out.cell 1).trans H1.out
      simp only [List.getElem?_toArray, List.getElem?_cons_zero, List.getElem?_cons_succ] at y0 y1 y2 y3
      have FD := Lib.hid (fun (i : Nat) => show fit id fr kind many (i : Int) m = (m.f == (i : Int) && m.f != id && m.k == kind && m.n == fr && (m.zs.length : Int) == (many : Int)) from rfl)
      clear x0 x1 x2 x3
      generalize (wr.alloc (.cells #[.int .i64 m.k, .int .i64 m.f, .int .i64 m.n, .slice a m.zs.length ca] 41)) = w2 at *
      obtain ⟨g, hg⟩ : ∃ g, wr.heap.size = g := ⟨_, rfl⟩
      rw [hg] at M y0 y1 y2 y3 hg3 ⊢
      have HGG := Lib.hid hg
      clear hg
      cases e1 : (m.k != kind) with
      | true =>
        have HF := Lib.hid (hear_skip HH.out HM.out HBW.out (fun i hi => .inl (by rw [FD.out, show (m.k == kind) = false by simpa [bne] using e1]; simp)))
        clear FD
        go_wp2_with fail
        exact ⟨⟨k + 1, by omega, by go_num, HF.out⟩, by simp [intOf]; omega⟩
      | false =>
        cases e2 : (m.n != fr) with
        | true =>
          have HF := Lib.hid (hear_skip HH.out HM.out HBW.out (fun i hi => .inl (by rw [FD.out, show (m.n == fr) = false by simpa [bne] using e2]; simp)))
          clear FD
          go_wp2_with fail
          exact ⟨⟨k + 1, by omega, by go_num, HF.out⟩, by simp [intOf]; omega⟩
        | false =>
          cases e3 : ((m.zs.length : Int) != (many : Int)) with
          | true =>
            have HF := Lib.hid (hear_skip HH.out HM.out HBW.out (fun i hi => .inl (by rw [FD.out, show ((m.zs.length : Int) == (many : Int)) = false by simpa [bne] using e3]; simp)))
            clear FD
            go_wp2_with fail
            exact ⟨⟨k + 1, by omega, by go_num, HF.out⟩, by simp [intOf]; omega⟩
          | false =>
            by_cases e4 : m.f < 0
            ·
              have HF := Lib.hid (hear_skip HH.out HM.out HBW.out (fun i hi => .inl (by rw [FD.out, show (m.f == (i : Int)) = false from beq_eq_false_iff_ne.2 (by omega)]; simp)))
              clear FD
              go_wp2_with fail
              exact ⟨⟨k + 1, by omega, by go_num, HF.out⟩, by simp [intOf]; omega⟩
            ·
              by_cases e5 : 4 ≤ m.f
              ·
                have HF := Lib.hid (hear_skip HH.out HM.out HBW.out (fun i hi => .inl (by rw [FD.out, show (m.f == (i : Int)) = false from beq_eq_false_iff_ne.2 (by omega)]; simp)))
                clear FD
                go_wp2_with fail
                exact ⟨⟨k + 1, by omega, by go_num, HF.out⟩, by simp [intOf]; omega⟩
              ·
                have e4' : 0 ≤ m.f := by omega
                have e5' : m.f < 4 := by omega
                cases e6 : (m.f == id) with
                | true =>
                  have HF := Lib.hid (hear_skip HH.out HM.out HBW.out (fun i hi => .inl (by rw [FD.out, show (m.f != id) = false by simp only [bne, e6]; rfl]; simp)))
                  clear FD
                  go_wp2_with fail
                  exact ⟨⟨k + 1, by omega, by go_num, HF.out⟩, by simp [intOf]; omega⟩
                | false =>
                  obtain ⟨j, hj⟩ : ∃ j : Nat, m.f = (j : Int) := ⟨m.f.toNat, by omega⟩
                  have hj4 : j < 4 := by omega
                  have hj0 : (0 : Int) ≤ (j : Int) := by omega
                  have hji : (j : Int) < 4 := by omega
                  have x7 : w2.cell? ⟨w.heap.size + 1 + 1, j, none⟩ = some (s j) := by rw [HO.out.cell, row_at hj4]
                  have f7 := HO.out.thaw j
                  have hsj := HS.out j hj4
                  rw [hj] at y1 e6
                  clear e4 e5 e4' e5'
                  cases e7 : firstOf id fr kind many (j : Int) (ms.take k) with
                  | some x =>
                    rw [e7] at hsj
                    obtain ⟨ax, cx, hsx, -⟩ := hsj
                    rw [hsx] at x7
                    have HF := Lib.hid (hear_skip HH.out HM.out HBW.out (fun i hi => by
                      by_cases hij : i = j
                      · subst hij; exact .inr ⟨_, e7⟩
                      · exact .inl (by rw [FD.out, hj, show ((j : Int) == (i : Int)) = false from beq_eq_false_iff_ne.2 (by omega)]; simp)))
                    clear FD
                    go_wp2_with fail
                    exact ⟨⟨k + 1, by omega, by go_num, HF.out⟩, by simp [intOf]; omega⟩
                  | none =>
                    rw [e7] at hsj
                    rw [show s j = .slice none 0 0 from hsj] at x7
                    go_upto_region 6 with fail
                    have HSJ := Lib.hid (show s j = .slice none 0 0 from hsj)
                    have HFT : Hid (∀ i : Nat, i < 4 → fit id fr kind many (i : Int) m = decide (i = j)) := Lib.hid fun i hi => by
                      have b1 : (m.k == kind) = true := by simpa [bne] using e1
                      have b2 : (m.n == fr) = true := by simpa [bne] using e2
                      have b3 : ((m.zs.length : Int) == (many : Int)) = true := by simpa [bne] using e3
                      have b6 : ((j : Int) != id) = true := by simp only [bne, e6]; rfl
                      rw [FD.out, hj, b1, b2, b3, b6, Bool.and_true, Bool.and_true, Bool.and_true, Bool.and_true]
                      by_cases hij : i = j
                      · subst hij; simp
                      · rw [decide_eq_false hij]; exact beq_eq_false_iff_ne.2 (by omega)
                    have hzl : 0 < m.zs.length := by
                      have b3 : ((m.zs.length : Int) == (many : Int)) = true := by simpa [bne] using e3
                      have := eq_of_beq b3
                      omega
                    have H5 := Lib.hid ((H5.out.below (HBW.out.mono (Nat.le_trans hB hb0))).drew)
                    have M := Lib.hid M.out.drew
                    have HBW := Lib.hid HBW.out.drew
                    have HG0 := HGG.out
                    rw [hj] at M
                    clear y0 y1 y2 y3 z0 z1 x7 f7 FD hsj e1 e2 e3 e6
                    have HS := M.out
                    refine wp_region_noPanic ?_
                    refine Rg.beginR [1, 4] (fun w' => Blk w' g 41 #[.int .i64 m.k, .int .i64 (j : Int), .int .i64 m.n, .slice a m.zs.length ca]) (by kernel_rfl) ?_
                    generalize w2.drew = V0 at *
                    refine Rg.takeP (i := 0) (oi := { dst := some 60, op := Op.fieldAddr 41 (Operand.tmp 11) 1, type := 0, pos := "node.go:47", after := #[], guard := none }) (v := ?_) rfl (by kernel_rfl) (fun _ _ _ h => h) (by rfl) ?_ ?_
                    rotate_left 1
                    · (intro w; go_simp; (try with_reducible rfl))
                    try simp only [Act.put, List.setIfInBounds_toArray, List.set_cons_zero, List.set_cons_succ]
                    refine Rg.takeS (i := 1) (oi := { dst := some 61, op := Op.load 3 (Operand.tmp 60), type := 3, pos := "node.go:47", after := #[{ on := 0, ground := Ground.data }], guard := none }) (v := ?_) rfl (by kernel_rfl) (fun _ _ _ h => h) (by rfl) HS ?_ ?_
                    rotate_left 1
                    · (intro w' hSw; have y := hSw.cell 1; simp only [List.getElem?_toArray, List.getElem?_cons_zero, List.getElem?_cons_succ] at y; go_simp; (try with_reducible rfl))
                    try simp only [Act.put, List.setIfInBounds_toArray, List.set_cons_zero, List.set_cons_succ]
                    refine Rg.takeP (i := 3) (oi := { dst := some 63, op := Op.fieldAddr 41 (Operand.tmp 11) 3, type := 0, pos := "node.go:47", after := #[], guard := none }) (v := ?_) rfl (by kernel_rfl) (fun _ _ _ h => h) (by rfl) ?_ ?_
                    rotate_left 1
                    · (intro w; go_simp; (try with_reducible rfl))
                    try simp only [Act.put, List.setIfInBounds_toArray, List.set_cons_zero, List.set_cons_succ]
                    refine Rg.takeS (i := 4) (oi := { dst := some 64, op := Op.load 39 (Operand.tmp 63), type := 39, pos := "node.go:47", after := #[{ on := 3, ground := Ground.data }], guard := none }) (v := ?_) rfl (by kernel_rfl) (fun _ _ _ h => h) (by rfl) HS ?_ ?_
                    rotate_left 1
                    · (intro w' hSw; have y := hSw.cell 3; simp only [List.getElem?_toArray, List.getElem?_cons_zero, List.getElem?_cons_succ] at y; go_simp; (try with_reducible rfl))
                    try simp only [Act.put, List.setIfInBounds_toArray, List.set_cons_zero, List.set_cons_succ]
                    refine Rg.oneR (i := 2) (oi := { dst := some 62, op := Op.buildSlice 39 0 #[], type := 39, pos := "node.go:47", after := #[], guard := none }) rfl (by kernel_rfl) ?_
                    refine Rg.stepS ?_
                    intro K hK
                    go_simp
                    have HZ : Hid ((V0.alloc (.cells #[] 3)).ownsRow (w.heap.size + 1 + 1 + 1) 3 1 (.slice (some ⟨V0.heap.size, 0, none⟩) 0 0) 0 []) := Lib.hid ⟨rfl, .inr ⟨V0.heap.size, 0, #[], rfl, by have := HBW.out.size; omega, Blk.fresh _ _ _, Nat.le_refl _, by unfold maxLen; omega, rfl, rfl⟩⟩
                    have hnb := HBW.out.size
                    have hgn := M.out.lt
                    have M := Lib.hid (M.out.alloc (.cells #[] 3))
                    have HBW := Lib.hid (HBW.out.alloc HBW.out.size (.cells #[] 3))
                    have H5 := Lib.hid (H5.out.alloc (by omega) (.cells #[] 3))
                    have hbs := HBW.out.size
                    clear HS
                    generalize (V0.alloc (.cells #[] 3)) = V1 at *
                    generalize V0.heap.size = nb at *
                    have HS := M.out
                    refine hK.out _ _ HS ?_
                    clear hK K
                    try simp only [Act.put, List.setIfInBounds_toArray, List.set_cons_zero, List.set_cons_succ]
                    refine Rg.oneR (i := 5) (oi := { dst := some 65, op := Op.call { callee := Callee.builtin Builtin.append, args := #[Operand.tmp 62, Operand.tmp 64], argTypes := #[39, 39] }, type := 39, pos := "node.go:47", after := #[{ on := 2, ground := Ground.data }, { on := 4, ground := Ground.data }], guard := none }) rfl (by kernel_rfl) ?_
                    refine Rg.stepS ?_
                    intro K hK
                    rw [if_pos (by rfl)]
                    refine wp_append_rd _ (.tmp 62) (.tmp 64) 39 rfl (base := w.heap.size + 1 + 1 + 1) elemInts rfl HZ.out rfl (fun h => ⟨by have := h2 h; omega, h2 h⟩) H5.out (intsV_one m.zs) (by unfold maxLen; omega) (by omega) (by omega) ?_
                    intro A' c' V2 hA' hown hgr
                    (try simp only [List.nil_append, Nat.zero_add] at hown hA')
                    obtain ⟨a', rfl⟩ : ∃ a', A' = some a' := by { cases A' with | none => exact absurd (hA' rfl).1 (by omega) | some a' => exact ⟨a', rfl⟩ }
                    have HBW := Lib.hid (HBW.out.grown hgr HBW.out.size (fun q e => by have e : some nb = some q := e; injection e with e; omega))
                    have M := Lib.hid (M.out.grown hgr (fun e => by have e : some g = some nb := e; injection e with e; omega))
                    clear HS
                    have HS := M.out
                    have HOW := Lib.hid hown
                    (try simp only [Nat.zero_add])
                    clear hown hgr hA'
                    have HO := Lib.hid (HO0.out.below HBW.out HO0.out.lt)
                    have x7 : V2.cell? ⟨w.heap.size + 1 + 1, j, none⟩ = some (.slice none 0 0) := by rw [HO.out.cell, row_at hj4]; exact congrArg some HSJ.out
                    have f7 := HO.out.thaw j
                    refine hK.out _ _ HS ?_
                    clear hK K
                    try simp only [Act.put, List.setIfInBounds_toArray, List.set_cons_zero, List.set_cons_succ]
                    refine Rg.takeP (i := 6) (oi := { dst := some 66, op := Op.indexAddr 78 (Operand.tmp 9) (Operand.tmp 61), type := 0, pos := "node.go:47", after := #[{ on := 1, ground := Ground.data }, { on := 0, ground := Ground.phase }, { on := 1, ground := Ground.phase }, { on := 2, ground := Ground.phase }, { on := 3, ground := Ground.phase }, { on := 4, ground := Ground.phase }, { on := 5, ground := Ground.phase }], guard := none }) (v := ?_) rfl (by kernel_rfl) (fun _ _ _ h => h) (by rfl) ?_ ?_
                    rotate_left 1
                    · (intro w; go_simp; (try with_reducible rfl))
                    try simp only [Act.put, List.setIfInBounds_toArray, List.set_cons_zero, List.set_cons_succ]
                    refine Rg.oneR (i := 7) (oi := { dst := none, op := Op.store 39 (Operand.tmp 66) (Operand.tmp 65), type := 0, pos := "node.go:47", after := #[{ on := 6, ground := Ground.data }, { on := 5, ground := Ground.data }, { on := 5, ground := Ground.chain }, { on := 0, ground := Ground.phase }, { on := 1, ground := Ground.phase }, { on := 2, ground := Ground.phase }, { on := 3, ground := Ground.phase }, { on := 4, ground := Ground.phase }, { on := 5, ground := Ground.phase }], guard := none }) rfl (by kernel_rfl) ?_
                    refine Rg.stepF ?_ ?_
                    · kernel_rfl
                    intro K hK
                    go_simp
                    refine hK.out _ _ ?_
                    clear hK K
                    try simp only [Act.put, List.setIfInBounds_toArray, List.set_cons_zero, List.set_cons_succ]
                    refine Rg.doneR (by kernel_rfl) ?_ _
                    refine NoPanic.normal ?_
                    clear HS
                    go_wp2_with fail
                    exact ⟨⟨k + 1, by omega, by go_num, hear_take HH.out HM.out HBW.out hj4 HFT.out e7 HOW.out⟩, by simp [intOf]; omega⟩
    · obtain rfl : k = ms.length := by omega
      clear hlt
      obtain ⟨s, hs, hn, hres, hout, hb⟩ := hH
      rw [List.take_length] at hs
      have HS := Lib.hid hs
      have HE := Lib.hid hres
      have HO := Lib.hid hout
      have HB := Lib.hid hb
      have is4 : (Try.prog.info? 78).map (·.size) = some (row 4 s).size := by rw [row_size]; kernel_rfl
      have zs4 : (row 4 fun _ : Nat => Value.slice none 0 0).size = (row 4 s).size := by rw [row_size, row_size]
      have os4 : (row 4 s).all (·.oneCell') = true := row_one fun i hi => (hs i hi).one
      clear hs hn hres hout hb
      obtain ⟨R4, hR4⟩ : ∃ R4, row 4 s = R4 := ⟨_, rfl⟩
      obtain ⟨Z4, hZ4⟩ : ∃ Z4, (row 4 fun _ : Nat => Value.slice none 0 0) = Z4 := ⟨_, rfl⟩
      rw [hR4] at HO is4 zs4 os4
      rw [hZ4] at HE zs4
      have HR4 := Lib.hid hR4
      clear hR4 hZ4
      go_wp2_with (first
        | (refine wpList_whole rfl 78 _ rfl (w.heap.size + 1 + 1) rfl HO.out _ Try.underlying78 rfl is4 ?_)
        | (refine wpList_store_row rfl 78 _ _ rfl (w.heap.size + 1) R4 rfl rfl 78 _ HE.out is4 zs4 os4 ?_))
      exact ret_row rfl rfl (HE.out.setRow R4) Try.underlying78 rfl is4 rfl ⟨s, by rw [HR4.out], fun i hi => (HS.out i hi).keep fun n xs h => own_weaken (own_setRow h (show w.heap.size + 1 < w.heap.size + 1 + 1 + 1 by omega) R4) (by omega), below_setRow HB.out (by omega) R4⟩
end Go.Proofs.Ytjfllpmiajkenaa.Ms
