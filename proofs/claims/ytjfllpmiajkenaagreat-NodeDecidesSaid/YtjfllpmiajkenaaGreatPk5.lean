import Derived.Test.YtjfllpmiajkenaaGreatPk4
import Derived.Test.YtjfllpmiajkenaaGreatPk1
import Derived.Test.YtjfllpmiajkenaaGreatPk3
namespace Go.Proofs.YtjfllpmiajkenaaGreat.Ms
open Go.ChangeShapes Go.WideShapes Go.ChangeAt Go.RowKit Go.Proofs.YtjfllpmiajkenaaGreat.Mem Go.Proofs.YtjfllpmiajkenaaGreat.Op Go.Proofs.YtjfllpmiajkenaaGreat.Rws Go.Proofs.YtjfllpmiajkenaaGreat.Nd
set_option linter.unusedVariables false
set_option linter.unusedSimpArgs false
def HeardAs (w : World) (base : Nat) (o : Option Msg) (v : Value) : Prop :=
  match o with
  | some m => ∃ a c, v = .slice (some a) m.zs.length c ∧ w.ownsRow base 3 1 v m.zs.length (intsV m.zs)
  | none => v = .slice none 0 0
theorem HeardAs.keep {w w' : World} {base base' : Nat} {o : Option Msg} {v : Value} (h : HeardAs w base o v) (hk : ∀ n xs, w.ownsRow base 3 1 v n xs → w'.ownsRow base' 3 1 v n xs) : HeardAs w' base' o v := by
  cases o with
  | none => exact h
  | some m => obtain ⟨a, c, h1, h2⟩ := h; exact ⟨a, c, h1, hk _ _ h2⟩
theorem HeardAs.below {w w' : World} {base : Nat} {o : Option Msg} {v : Value} (h : HeardAs w base o v) (hb : Below w.heap.size w w') : HeardAs w' base o v := h.keep fun n xs h => ownsRow_below h hb
theorem HeardAs.one {w : World} {base : Nat} {o : Option Msg} {v : Value} (h : HeardAs w base o v) : v.oneCell' = true := by
  cases o with
  | none => rw [show v = .slice none 0 0 from h]; rfl
  | some m => obtain ⟨a, c, rfl, h2⟩ := h; rfl
theorem first_snoc (id fr kind : Int) (many : Nat) (fm : Int) {ms : List Msg} {k : Nat} {m : Msg} (hm : ms[k]? = some m) : firstOf id fr kind many fm (ms.take (k + 1)) = (firstOf id fr kind many fm (ms.take k)).or (if fit id fr kind many fm m = true then some m else none) := by
  unfold firstOf
  rw [List.take_add_one, hm, List.find?_append]
  by_cases h : fit id fr kind many fm m = true
  · simp [h]
  · simp [h]
def HearAt (w wr : World) (R : Array Value) (id fr kind : Int) (many : Nat) (ms : List Msg) (k : Nat) : Prop :=
  ∃ s : Nat → Value, (∀ i : Nat, i < 4 → HeardAs wr (w.heap.size + 1 + 1 + 1) (firstOf id fr kind many (i : Int) (ms.take k)) (s i)) ∧ Blk wr w.heap.size 37 R ∧ Blk wr (w.heap.size + 1) 70 (row 4 fun _ => .slice none 0 0) ∧ Blk wr (w.heap.size + 1 + 1) 70 (row 4 s) ∧ Below w.heap.size w wr
theorem hear_skip {w wr w2 : World} {R : Array Value} {id fr kind : Int} {many : Nat} {ms : List Msg} {k : Nat} {m : Msg} (h : HearAt w wr R id fr kind many ms k) (hm : ms[k]? = some m) (hb : Below wr.heap.size wr w2)
    (hf : ∀ i : Nat, i < 4 → fit id fr kind many (i : Int) m = false ∨ ∃ x, firstOf id fr kind many (i : Int) (ms.take k) = some x) : HearAt w w2 R id fr kind many ms (k + 1) := by
  obtain ⟨s, hs, h1, h2, h3, h4⟩ := h
  refine ⟨s, fun i hi => ?_, h1.below hb h1.lt, h2.below hb h2.lt, h3.below hb h3.lt, onward h4 (Nat.le_refl _) hb⟩
  rw [first_snoc _ _ _ _ _ hm]
  have hh := (hs i hi).below hb
  rcases hf i hi with e | ⟨x, e⟩
  · rw [e]
    cases ho : firstOf id fr kind many (i : Int) (ms.take k) with
    | none => rw [ho] at hh; exact hh
    | some x => rw [ho] at hh; exact hh
  · rw [e] at hh ⊢; exact hh
theorem hear_take {w wr V : World} {R : Array Value} {id fr kind : Int} {many : Nat} {ms : List Msg} {k : Nat} {m : Msg} (h : HearAt w wr R id fr kind many ms k) (hm : ms[k]? = some m) (hb : Below wr.heap.size wr V) {j : Nat} (hj : j < 4)
    (hf : ∀ i : Nat, i < 4 → fit id fr kind many (i : Int) m = decide (i = j)) (hn : firstOf id fr kind many (j : Int) (ms.take k) = none) {a : Addr} {c : Nat} (ho : V.ownsRow (w.heap.size + 1 + 1 + 1) 3 1 (.slice (some a) m.zs.length c) m.zs.length (intsV m.zs)) :
    HearAt w (V.setCell ⟨w.heap.size + 1 + 1, j, none⟩ (.slice (some a) m.zs.length c)) R id fr kind many ms (k + 1) := by
  obtain ⟨s, hs, h1, h2, h3, h4⟩ := h
  have e3 := (h3.below hb h3.lt).set j (.slice (some a) m.zs.length c)
  rw [row_set] at e3
  refine ⟨fun i => if i = j then .slice (some a) m.zs.length c else s i, fun i hi => ?_, (h1.below hb h1.lt).other (by show w.heap.size ≠ w.heap.size + 1 + 1; omega) _, (h2.below hb h2.lt).other (by show w.heap.size + 1 ≠ w.heap.size + 1 + 1; omega) _, e3, (onward h4 (Nat.le_refl _) hb).setCell (by show w.heap.size ≤ w.heap.size + 1 + 1; omega) _⟩
  rw [first_snoc _ _ _ _ _ hm, hf i hi]
  have hk : ∀ {v n xs}, V.ownsRow (w.heap.size + 1 + 1 + 1) 3 1 v n xs → (V.setCell ⟨w.heap.size + 1 + 1, j, none⟩ (.slice (some a) m.zs.length c)).ownsRow (w.heap.size + 1 + 1 + 1) 3 1 v n xs := fun h => Vt.own_setCell h (by omega) _
  by_cases e : i = j
  · subst e
    rw [hn]
    simp only [decide_true, if_true, Option.none_or]
    exact ⟨a, c, rfl, hk ho⟩
  · rw [decide_eq_false e]
    show HeardAs _ _ _ (if i = j then _ else s i)
    rw [if_neg e]
    have := ((hs i hi).below hb).keep (base' := w.heap.size + 1 + 1 + 1) fun n xs h => hk h
    simpa using this
set_option maxRecDepth 100000 in
set_option maxHeartbeats 2000000 in
theorem hear_any (R : Array Value) (id fr : Int) (h0 : R[0]? = some (.int .i64 id)) (h1 : R[1]? = some (.int .i64 fr)) (A : Option Addr) (c : Nat) (ms : List Msg) (kind : Int) (many : Nat) (hmany : 0 < many) (B : Nat) (w : World) (hB : B ≤ w.heap.size) (hl : ms.length ≤ 140737488355328) (hr : MsgsAt w B A ms) :
    Calls Tryz.prog 24 #[.agg R, .slice A ms.length c, .int .i64 kind, .int .i64 (many : Int)] w fun e w' => ∃ s : Nat → Value, e = .returned (.agg (row 4 s)) ∧ (∀ i : Nat, i < 4 → HeardAs w' w.heap.size (firstOf id fr kind many (i : Int) ms) (s i)) ∧ Below w.heap.size w w' := by
  have HR := Lib.hid hr
  have H0 := Lib.hid h0
  have H1 := Lib.hid h1
  clear hr h0 h1
  go_enter Tryz.func24, Tryz.ntmps24
  go_wp2_with fail
  go_loopw [14] (fun i wr => ∃ (k : Nat), k ≤ ms.length ∧ i = .int .i64 k ∧ HearAt w wr R id fr kind many ms k) (fun i _ => ms.length - (intOf i).toNat)
  case atStart =>
    refine ⟨0, by omega, rfl, fun _ => .slice none 0 0, fun i hi => rfl, ((Blk.new rfl).alloc _).alloc _, (Blk.new (by simp)).alloc _, Blk.new (by simp), ?_⟩
    exact (((Below.refl _ _).alloc (Nat.le_refl _) _).alloc (by simp) _).alloc (by simp; omega) _
  case round =>
    obtain ⟨k, hk, rfl, hH⟩ := hrel
    by_cases hlt : k < ms.length
    · have hm : ms[k]? = some ms[k] := List.getElem?_eq_getElem hlt
      generalize ms[k] = m at *
      have HH := Lib.hid hH
      obtain ⟨s, hs, hn, hres, hout, hb⟩ := hH
      have HM := Lib.hid hm
      obtain ⟨b, o, a, ca, rfl, hbB, x0, x1, x2, x3, h2, h3, h4, h5⟩ := (HR.out.below (hb.mono hB)).at hm
      have hk0 : (0 : Int) ≤ (k : Int) := by omega
      have hk1 : (k : Int) < (ms.length : Int) := by omega
      have hb0 := hb.size
      have HS := Lib.hid hs
      have HN := Lib.hid hn
      have HE := Lib.hid hres
      have HO := Lib.hid hout
      have HO0 := Lib.hid hout
      have HB := Lib.hid hb
      have H5 := Lib.hid h5
      clear hs hn hres hout hb hm h5
      go_upto_region 5 with fail
      have M := Lib.hid (show Blk (wr.alloc (.cells #[.int .i64 m.k, .int .i64 m.f, .int .i64 m.n, .slice a m.zs.length ca] 41)) wr.heap.size 41 #[.int .i64 m.k, .int .i64 m.f, .int .i64 m.n, .slice a m.zs.length ca] from Blk.fresh _ _ _)
      have HBW := Lib.hid ((Below.refl wr.heap.size wr).alloc (Nat.le_refl _) (.cells #[.int .i64 m.k, .int .i64 m.f, .int .i64 m.n, .slice a m.zs.length ca] 41))
      have hg3 := HO.out.lt
      have HN := Lib.hid (HN.out.below HBW.out HN.out.lt)
      have HO := Lib.hid (HO.out.below HBW.out HO.out.lt)
      have y0 := M.out.cell 0
      have y1 := M.out.cell 1
      have y2 := M.out.cell 2
      have y3 := M.out.cell 3
      have z0 := (HN.out.cell 0).trans H0.out
      have z1 := (HN.out.cell 1).trans H1.out
      simp only [List.getElem?_toArray, List.getElem?_cons_zero, List.getElem?_cons_succ] at y0 y1 y2 y3
      have FD := Lib.hid (fun (i : Nat) => show fit id fr kind many (i : Int) m = (m.f == (i : Int) && m.f != id && m.k == kind && m.n == fr && (m.zs.length : Int) == (many : Int)) from rfl)
      clear x0 x1 x2 x3
      generalize (wr.alloc (.cells #[.int .i64 m.k, .int .i64 m.f, .int .i64 m.n, .slice a m.zs.length ca] 41)) = w2 at *
      obtain ⟨g, hg⟩ : ∃ g, wr.heap.size = g := ⟨_, rfl⟩
      rw [hg] at M y0 y1 y2 y3 hg3 ⊢
      have HGG := Lib.hid hg
      clear hg
      cases e1 : (m.k != kind) with
      | true =>
        have HF := Lib.hid (hear_skip HH.out HM.out HBW.out (fun i hi => .inl (by rw [FD.out, show (m.k == kind) = false by simpa [bne] using e1]; simp)))
        clear FD
        go_wp2_with fail
        exact ⟨⟨k + 1, by omega, by go_num, HF.out⟩, by simp [intOf]; omega⟩
      | false =>
        cases e2 : (m.n != fr) with
        | true =>
          have HF := Lib.hid (hear_skip HH.out HM.out HBW.out (fun i hi => .inl (by rw [FD.out, show (m.n == fr) = false by simpa [bne] using e2]; simp)))
          clear FD
          go_wp2_with fail
          exact ⟨⟨k + 1, by omega, by go_num, HF.out⟩, by simp [intOf]; omega⟩
        | false =>
          cases e3 : ((m.zs.length : Int) != (many : Int)) with
          | true =>
            have HF := Lib.hid (hear_skip HH.out HM.out HBW.out (fun i hi => .inl (by rw [FD.out, show ((m.zs.length : Int) == (many : Int)) = false by simpa [bne] using e3]; simp)))
            clear FD
            go_wp2_with fail
            exact ⟨⟨k + 1, by omega, by go_num, HF.out⟩, by simp [intOf]; omega⟩
          | false =>
            by_cases e4 : m.f < 0
            ·
              have HF := Lib.hid (hear_skip HH.out HM.out HBW.out (fun i hi => .inl (by rw [FD.out, show (m.f == (i : Int)) = false from beq_eq_false_iff_ne.2 (by omega)]; simp)))
              clear FD
              go_wp2_with fail
              exact ⟨⟨k + 1, by omega, by go_num, HF.out⟩, by simp [intOf]; omega⟩
            ·
              by_cases e5 : 4 ≤ m.f
              ·
                have HF := Lib.hid (hear_skip HH.out HM.out HBW.out (fun i hi => .inl (by rw [FD.out, show (m.f == (i : Int)) = false from beq_eq_false_iff_ne.2 (by omega)]; simp)))
                clear FD
                go_wp2_with fail
                exact ⟨⟨k + 1, by omega, by go_num, HF.out⟩, by simp [intOf]; omega⟩
              ·
                have e4' : 0 ≤ m.f := by omega
                have e5' : m.f < 4 := by omega
                cases e6 : (m.f == id) with
                | true =>
                  have HF := Lib.hid (hear_skip HH.out HM.out HBW.out (fun i hi => .inl (by rw [FD.out, show (m.f != id) = false by simp only [bne, e6]; rfl]; simp)))
                  clear FD
                  go_wp2_with fail
                  exact ⟨⟨k + 1, by omega, by go_num, HF.out⟩, by simp [intOf]; omega⟩
                | false =>
                  obtain ⟨j, hj⟩ : ∃ j : Nat, m.f = (j : Int) := ⟨m.f.toNat, by omega⟩
                  have hj4 : j < 4 := by omega
                  have hj0 : (0 : Int) ≤ (j : Int) := by omega
                  have hji : (j : Int) < 4 := by omega
                  have x7 : w2.cell? ⟨w.heap.size + 1 + 1, j, none⟩ = some (s j) := by rw [HO.out.cell, row_at hj4]
                  have f7 := HO.out.thaw j
                  have hsj := HS.out j hj4
                  rw [hj] at y1 e6
                  clear e4 e5 e4' e5'
                  cases e7 : firstOf id fr kind many (j : Int) (ms.take k) with
                  | some x =>
                    rw [e7] at hsj
                    obtain ⟨ax, cx, hsx, -⟩ := hsj
                    rw [hsx] at x7
                    have HF := Lib.hid (hear_skip HH.out HM.out HBW.out (fun i hi => by
                      by_cases hij : i = j
                      · subst hij; exact .inr ⟨_, e7⟩
                      · exact .inl (by rw [FD.out, hj, show ((j : Int) == (i : Int)) = false from beq_eq_false_iff_ne.2 (by omega)]; simp)))
                    clear FD
                    go_wp2_with fail
                    exact ⟨⟨k + 1, by omega, by go_num, HF.out⟩, by simp [intOf]; omega⟩
                  | none =>
                    rw [e7] at hsj
                    rw [show s j = .slice none 0 0 from hsj] at x7
                    go_upto_region 6 with fail
                    have HSJ := Lib.hid (show s j = .slice none 0 0 from hsj)
                    have HFT : Hid (∀ i : Nat, i < 4 → fit id fr kind many (i : Int) m = decide (i = j)) := Lib.hid fun i hi => by
                      have b1 : (m.k == kind) = true := by simpa [bne] using e1
                      have b2 : (m.n == fr) = true := by simpa [bne] using e2
                      have b3 : ((m.zs.length : Int) == (many : Int)) = true := by simpa [bne] using e3
                      have b6 : ((j : Int) != id) = true := by simp only [bne, e6]; rfl
                      rw [FD.out, hj, b1, b2, b3, b6, Bool.and_true, Bool.and_true, Bool.and_true, Bool.and_true]
                      by_cases hij : i = j
                      · subst hij; simp
                      · rw [decide_eq_false hij]; exact beq_eq_false_iff_ne.2 (by omega)
                    have hzl : 0 < m.zs.length := by
                      have b3 : ((m.zs.length : Int) == (many : Int)) = true := by simpa [bne] using e3
                      have := eq_of_beq b3
                      omega
                    have H5 := Lib.hid ((H5.out.below (HBW.out.mono (Nat.le_trans hB hb0))).drew)
                    have M := Lib.hid M.out.drew
                    have HBW := Lib.hid HBW.out.drew
                    have HG0 := HGG.out
                    rw [hj] at M
                    clear y0 y1 y2 y3 z0 z1 x7 f7 FD hsj e1 e2 e3 e6
                    have HS := M.out
                    refine wp_region_noPanic ?_
                    refine Rg.beginR [1, 4] (fun w' => Blk w' g 41 #[.int .i64 m.k, .int .i64 (j : Int), .int .i64 m.n, .slice a m.zs.length ca]) (by kernel_rfl) ?_
                    generalize w2.drew = V0 at *
                    refine Rg.takeP (i := 0) (oi := { dst := some 60, op := Op.fieldAddr 41 (Operand.tmp 11) 1, type := 0, pos := "node.go:47", after := #[], guard := none }) (v := ?_) rfl (by kernel_rfl) (fun _ _ _ h => h) (by rfl) ?_ ?_
                    rotate_left 1
                    · (intro w; go_simp; (try with_reducible rfl))
                    try simp only [Act.put, List.setIfInBounds_toArray, List.set_cons_zero, List.set_cons_succ]
                    refine Rg.takeS (i := 1) (oi := { dst := some 61, op := Op.load 3 (Operand.tmp 60), type := 3, pos := "node.go:47", after := #[{ on := 0, ground := Ground.data }], guard := none }) (v := ?_) rfl (by kernel_rfl) (fun _ _ _ h => h) (by rfl) HS ?_ ?_
                    rotate_left 1
                    · (intro w' hSw; have y := hSw.cell 1; simp only [List.getElem?_toArray, List.getElem?_cons_zero, List.getElem?_cons_succ] at y; go_simp; (try with_reducible rfl))
                    try simp only [Act.put, List.setIfInBounds_toArray, List.set_cons_zero, List.set_cons_succ]
                    refine Rg.takeP (i := 3) (oi := { dst := some 63, op := Op.fieldAddr 41 (Operand.tmp 11) 3, type := 0, pos := "node.go:47", after := #[], guard := none }) (v := ?_) rfl (by kernel_rfl) (fun _ _ _ h => h) (by rfl) ?_ ?_
                    rotate_left 1
                    · (intro w; go_simp; (try with_reducible rfl))
                    try simp only [Act.put, List.setIfInBounds_toArray, List.set_cons_zero, List.set_cons_succ]
                    refine Rg.takeS (i := 4) (oi := { dst := some 64, op := Op.load 39 (Operand.tmp 63), type := 39, pos := "node.go:47", after := #[{ on := 3, ground := Ground.data }], guard := none }) (v := ?_) rfl (by kernel_rfl) (fun _ _ _ h => h) (by rfl) HS ?_ ?_
                    rotate_left 1
                    · (intro w' hSw; have y := hSw.cell 3; simp only [List.getElem?_toArray, List.getElem?_cons_zero, List.getElem?_cons_succ] at y; go_simp; (try with_reducible rfl))
                    try simp only [Act.put, List.setIfInBounds_toArray, List.set_cons_zero, List.set_cons_succ]
                    refine Rg.oneR (i := 2) (oi := { dst := some 62, op := Op.buildSlice 39 0 #[], type := 39, pos := "node.go:47", after := #[], guard := none }) rfl (by kernel_rfl) ?_
                    refine Rg.stepS ?_
                    intro K hK
                    go_simp
                    have HZ : Hid ((V0.alloc (.cells #[] 3)).ownsRow (w.heap.size + 1 + 1 + 1) 3 1 (.slice (some ⟨V0.heap.size, 0, none⟩) 0 0) 0 []) := Lib.hid ⟨rfl, .inr ⟨V0.heap.size, 0, #[], rfl, by have := HBW.out.size; omega, Blk.fresh _ _ _, Nat.le_refl _, by unfold maxLen; omega, rfl, rfl⟩⟩
                    have hnb := HBW.out.size
                    have hgn := M.out.lt
                    have M := Lib.hid (M.out.alloc (.cells #[] 3))
                    have HBW := Lib.hid (HBW.out.alloc HBW.out.size (.cells #[] 3))
                    have H5 := Lib.hid (H5.out.alloc (by omega) (.cells #[] 3))
                    have hbs := HBW.out.size
                    clear HS
                    generalize (V0.alloc (.cells #[] 3)) = V1 at *
                    generalize V0.heap.size = nb at *
                    have HS := M.out
                    refine hK.out _ _ HS ?_
                    clear hK K
                    try simp only [Act.put, List.setIfInBounds_toArray, List.set_cons_zero, List.set_cons_succ]
                    refine Rg.oneR (i := 5) (oi := { dst := some 65, op := Op.call { callee := Callee.builtin Builtin.append, args := #[Operand.tmp 62, Operand.tmp 64], argTypes := #[39, 39] }, type := 39, pos := "node.go:47", after := #[{ on := 2, ground := Ground.data }, { on := 4, ground := Ground.data }], guard := none }) rfl (by kernel_rfl) ?_
                    refine Rg.stepS ?_
                    intro K hK
                    rw [if_pos (by rfl)]
                    refine wp_append_rd _ (.tmp 62) (.tmp 64) 39 rfl (base := w.heap.size + 1 + 1 + 1) elemInts rfl HZ.out rfl (fun h => ⟨by have := h2 h; omega, h2 h⟩) H5.out (intsV_one m.zs) (by unfold maxLen; omega) (by omega) (by omega) ?_
                    intro A' c' V2 hA' hown hgr
                    (try simp only [List.nil_append, Nat.zero_add] at hown hA')
                    obtain ⟨a', rfl⟩ : ∃ a', A' = some a' := by { cases A' with | none => exact absurd (hA' rfl).1 (by omega) | some a' => exact ⟨a', rfl⟩ }
                    have HBW := Lib.hid (HBW.out.grown hgr HBW.out.size (fun q e => by have e : some nb = some q := e; injection e with e; omega))
                    have M := Lib.hid (M.out.grown hgr (fun e => by have e : some g = some nb := e; injection e with e; omega))
                    clear HS
                    have HS := M.out
                    have HOW := Lib.hid hown
                    (try simp only [Nat.zero_add])
                    clear hown hgr hA'
                    have HO := Lib.hid (HO0.out.below HBW.out HO0.out.lt)
                    have x7 : V2.cell? ⟨w.heap.size + 1 + 1, j, none⟩ = some (.slice none 0 0) := by rw [HO.out.cell, row_at hj4]; exact congrArg some HSJ.out
                    have f7 := HO.out.thaw j
                    refine hK.out _ _ HS ?_
                    clear hK K
                    try simp only [Act.put, List.setIfInBounds_toArray, List.set_cons_zero, List.set_cons_succ]
                    refine Rg.takeP (i := 6) (oi := { dst := some 66, op := Op.indexAddr 70 (Operand.tmp 9) (Operand.tmp 61), type := 0, pos := "node.go:47", after := #[{ on := 1, ground := Ground.data }, { on := 0, ground := Ground.phase }, { on := 1, ground := Ground.phase }, { on := 2, ground := Ground.phase }, { on := 3, ground := Ground.phase }, { on := 4, ground := Ground.phase }, { on := 5, ground := Ground.phase }], guard := none }) (v := ?_) rfl (by kernel_rfl) (fun _ _ _ h => h) (by rfl) ?_ ?_
                    rotate_left 1
                    · (intro w; go_simp; (try with_reducible rfl))
                    try simp only [Act.put, List.setIfInBounds_toArray, List.set_cons_zero, List.set_cons_succ]
                    refine Rg.oneR (i := 7) (oi := { dst := none, op := Op.store 39 (Operand.tmp 66) (Operand.tmp 65), type := 0, pos := "node.go:47", after := #[{ on := 6, ground := Ground.data }, { on := 5, ground := Ground.data }, { on := 5, ground := Ground.chain }, { on := 0, ground := Ground.phase }, { on := 1, ground := Ground.phase }, { on := 2, ground := Ground.phase }, { on := 3, ground := Ground.phase }, { on := 4, ground := Ground.phase }, { on := 5, ground := Ground.phase }], guard := none }) rfl (by kernel_rfl) ?_
                    refine Rg.stepF ?_ ?_
                    · kernel_rfl
                    intro K hK
                    go_simp
                    refine hK.out _ _ ?_
                    clear hK K
                    try simp only [Act.put, List.setIfInBounds_toArray, List.set_cons_zero, List.set_cons_succ]
                    refine Rg.doneR (by kernel_rfl) ?_ _
                    refine NoPanic.normal ?_
                    clear HS
                    go_wp2_with fail
                    exact ⟨⟨k + 1, by omega, by go_num, hear_take HH.out HM.out HBW.out hj4 HFT.out e7 HOW.out⟩, by simp [intOf]; omega⟩
    · obtain rfl : k = ms.length := by omega
      clear hlt
      obtain ⟨s, hs, hn, hres, hout, hb⟩ := hH
      rw [List.take_length] at hs
      have HS := Lib.hid hs
      have HE := Lib.hid hres
      have HO := Lib.hid hout
      have HB := Lib.hid hb
      have is4 : (Tryz.prog.info? 70).map (·.size) = some (row 4 s).size := by rw [row_size]; kernel_rfl
      have zs4 : (row 4 fun _ : Nat => Value.slice none 0 0).size = (row 4 s).size := by rw [row_size, row_size]
      have os4 : (row 4 s).all (·.oneCell') = true := row_one fun i hi => (hs i hi).one
      clear hs hn hres hout hb
      obtain ⟨R4, hR4⟩ : ∃ R4, row 4 s = R4 := ⟨_, rfl⟩
      obtain ⟨Z4, hZ4⟩ : ∃ Z4, (row 4 fun _ : Nat => Value.slice none 0 0) = Z4 := ⟨_, rfl⟩
      rw [hR4] at HO is4 zs4 os4
      rw [hZ4] at HE zs4
      have HR4 := Lib.hid hR4
      clear hR4 hZ4
      go_wp2_with (first
        | (refine wpList_whole rfl 70 _ rfl (w.heap.size + 1 + 1) rfl HO.out _ Tryz.underlying70 rfl is4 ?_)
        | (refine wpList_store_row rfl 70 _ _ rfl (w.heap.size + 1) R4 rfl rfl 70 _ HE.out is4 zs4 os4 ?_))
      exact ret_row rfl rfl (HE.out.setRow R4) Tryz.underlying70 rfl is4 rfl ⟨s, by rw [HR4.out], fun i hi => (HS.out i hi).keep fun n xs h => own_weaken (own_setRow h (show w.heap.size + 1 < w.heap.size + 1 + 1 + 1 by omega) R4) (by omega), below_setRow HB.out (by omega) R4⟩
end Go.Proofs.YtjfllpmiajkenaaGreat.Ms
namespace Go.Proofs.YtjfllpmiajkenaaGreat.Nd
open Go.RowKit Go.Proofs.YtjfllpmiajkenaaGreat.Mem Go.Proofs.YtjfllpmiajkenaaGreat.Rws Go.Proofs.YtjfllpmiajkenaaGreat.Flat
set_option linter.unusedVariables false
def iv : Value → Int
  | .int _ n => n
  | _ => 0
theorem iv_of {v : Value} (h : okT true v) : v = .int .i64 (iv v) := by obtain ⟨n, rfl⟩ := h; rfl
theorem fit_len {id fr kind : Int} {many : Nat} {fm : Int} {ms : List Ms.Msg} {m : Ms.Msg} (h : Ms.firstOf id fr kind many fm ms = some m) : m.zs.length = many := by
  have := List.find?_some h
  unfold Ms.fit at this
  simp only [Bool.and_eq_true, beq_iff_eq] at this
  have := this.2
  omega
end Go.Proofs.YtjfllpmiajkenaaGreat.Nd
namespace Go.Proofs.YtjfllpmiajkenaaGreat.Nd
open Go.RowKit Go.Proofs.YtjfllpmiajkenaaGreat.Mem Go.Proofs.YtjfllpmiajkenaaGreat.Rws Go.Proofs.YtjfllpmiajkenaaGreat.Flat
set_option linter.unusedVariables false
set_option linter.unusedSimpArgs false
def bv : Value → Bool
  | .bool b => b
  | _ => false
theorem bv_of {v : Value} (h : okT false v) : v = .bool (bv v) := by obtain ⟨n, rfl⟩ := h; rfl
def bentZ (b : Bool) : Int := if b then 1 else 0
def axZ (f : Nat → Value) (a : Nat) : List Int := [iv (f (6 + (a * 7 + 0))), iv (f (6 + (a * 7 + 1))), iv (f (6 + (a * 7 + 2))), iv (f (6 + (a * 7 + 3))), iv (f (6 + (a * 7 + 4))), bentZ (bv (f (6 + (a * 7 + 5)))), iv (f (6 + (a * 7 + 6)))]
def axesZ (f : Nat → Value) : Nat → List Int
  | 0 => []
  | a + 1 => axesZ f a ++ axZ f a
theorem axesZ_len (f : Nat → Value) : ∀ k, (axesZ f k).length = k * 7
  | 0 => rfl
  | k + 1 => by
    show (axesZ f k ++ axZ f k).length = _
    rw [List.length_append, axesZ_len f k]
    show k * 7 + 7 = _
    omega
def inZ (f : Nat → Value) : Nat → Nat
  | 0 => 0
  | k + 1 => inZ f k + if bv (f (27 + k)) then 2 ^ k else 0
theorem inZ_lt (f : Nat → Value) : ∀ k, inZ f k < 2 ^ k
  | 0 => Nat.zero_lt_one
  | k + 1 => by
    have h := inZ_lt f k
    unfold inZ
    rw [Nat.pow_succ]
    split <;> omega
set_option maxRecDepth 100000 in
theorem or_in : ∀ k, k < 4 → ∀ I : Nat, I < 2 ^ k → bits .or .i64 (I : Int) ((2 ^ k : Nat) : Int) = ((I + 2 ^ k : Nat) : Int) := of_decide_eq_true (by kernel_rfl)
def octZ (o : Nat) (f : Nat → Value) : Nat → Int
  | 0 => 0
  | k + 1 => IntKind.i64.wrap (IntKind.i64.wrap (octZ o f k * 8) + iv (f (o + k)))
def packZ (f : Nat → Value) : List Int := axesZ f 3 ++ [((inZ f 4 : Nat) : Int), octZ 31 f 4, octZ 35 f 4]
theorem packZ_len (f : Nat → Value) : (packZ f).length = 24 := by
  unfold packZ
  rw [List.length_append, axesZ_len]
  rfl
theorem row7 (F : Nat → Value) : row 7 F = #[F 0, F 1, F 2, F 3, F 4, F 5, F 6] := rfl
theorem run_index_axes (F : Nat → Value) (k : Nat) (hk : k < 3) (w : World) : (Instr.index 26 (.agg (row 21 F)) (.int .i64 (k : Int))).run Tryz.prog w = .ok (.agg (row 7 fun j => F (k * 7 + j))) w := by
  obtain rfl | rfl | rfl : k = 0 ∨ k = 1 ∨ k = 2 := by omega
  all_goals kernel_rfl
theorem axis_cells {f : Nat → Value} (hf : ∀ i, i < 73 → okT (nodeT i) (f i)) (k : Nat) (hk : k < 3) : ∃ a b c d e m : Int, ∃ t : Bool, (row 7 fun j => f (6 + (k * 7 + j))) = #[.int .i64 a, .int .i64 b, .int .i64 c, .int .i64 d, .int .i64 e, .bool t, .int .i64 m] ∧ axZ f k = [a, b, c, d, e, bentZ t, m] := by
  have hi : ∀ j, j < 7 → j ≠ 5 → f (6 + (k * 7 + j)) = .int .i64 (iv (f (6 + (k * 7 + j)))) := fun j hj h5 => iv_of (by
    have h := hf (6 + (k * 7 + j)) (by omega)
    have e : nodeT (6 + (k * 7 + j)) = true := by
      obtain rfl | rfl | rfl : k = 0 ∨ k = 1 ∨ k = 2 := by omega
      all_goals (unfold nodeT; simp; omega)
    rw [e] at h; exact h)
  have hb : f (6 + (k * 7 + 5)) = .bool (bv (f (6 + (k * 7 + 5)))) := bv_of (by
    have h := hf (6 + (k * 7 + 5)) (by omega)
    have e : nodeT (6 + (k * 7 + 5)) = false := by
      obtain rfl | rfl | rfl : k = 0 ∨ k = 1 ∨ k = 2 := by omega
      all_goals rfl
    rw [e] at h; exact h)
  refine ⟨_, _, _, _, _, _, _, ?_, rfl⟩
  rw [row7, ← hi 0 (by omega) (by omega), ← hi 1 (by omega) (by omega), ← hi 2 (by omega) (by omega), ← hi 3 (by omega) (by omega), ← hi 4 (by omega) (by omega), ← hi 6 (by omega) (by omega), ← hb]
theorem node_int {f : Nat → Value} (hf : ∀ i, i < 73 → okT (nodeT i) (f i)) (i : Nat) (h31 : 31 ≤ i) (h39 : i < 39) : f i = .int .i64 (iv (f i)) := iv_of (by
    have h := hf i (by omega)
    have e : nodeT i = true := by unfold nodeT; simp; omega
    rw [e] at h; exact h)
theorem node_bool {f : Nat → Value} (hf : ∀ i, i < 73 → okT (nodeT i) (f i)) (i : Nat) (h31 : 27 ≤ i) (h39 : i < 31) : f i = .bool (bv (f i)) := bv_of (by
    have h := hf i (by omega)
    have e : nodeT i = false := by
      obtain rfl | rfl | rfl | rfl : i = 27 ∨ i = 28 ∨ i = 29 ∨ i = 30 := by omega
      all_goals rfl
    rw [e] at h; exact h)
def PackAs (w w' : World) (f : Nat → Value) (e : Ending) : Prop := ∃ A c, e = .returned (.slice A 24 c) ∧ w'.ownsRow w.heap.size 3 1 (.slice A 24 c) 24 (Ms.intsV (packZ f)) ∧ Below w.heap.size w w'
set_option maxRecDepth 100000 in
set_option maxHeartbeats 2000000 in
theorem pack_any (f : Nat → Value) (hf : ∀ i, i < 73 → okT (nodeT i) (f i)) (S : Value) (w : World) :
    Calls Tryz.prog 59 #[.agg (row 74 (nodeW f S))] w fun e w' => PackAs w w' f e := by
  have hcl : ∀ i, i < 73 → (row 74 (nodeW f S))[i]? = some (f i) := fun i hi => by rw [row_at (by omega)]; unfold nodeW; rw [if_neg (by omega)]
  have hmid : (row 21 fun j => nodeW f S (6 + j)) = row 21 fun j => f (6 + j) := row_congr fun j hj => by unfold nodeW; rw [if_neg (by omega)]
  have HC := Lib.hid hcl
  have HM := Lib.hid hmid
  have HF := Lib.hid hf
  clear hcl hmid hf
  go_enter Tryz.func59, Tryz.ntmps59
  go_upto_region 2 with fail
  have HN := Lib.hid (show Blk (w.alloc (.cells (row 74 (nodeW f S)) 37)) w.heap.size 37 (row 74 (nodeW f S)) from Blk.fresh _ _ _)
  have HB := Lib.hid ((Below.refl w.heap.size w).alloc (Nat.le_refl _) (.cells (row 74 (nodeW f S)) 37))
  generalize (w.alloc (.cells (row 74 (nodeW f S)) 37)) = w1 at *
  obtain ⟨gn, hgn⟩ : ∃ g, w.heap.size = g := ⟨_, rfl⟩
  have HGN := Lib.hid hgn
  rw [hgn] at HN ⊢
  have HB := Lib.hid (show Below gn w w1 from by have h := HB.out; rw [HGN.out] at h; exact h)
  clear hgn
  go_wp2_with (refine wpList_mid rfl 26 _ rfl gn 6 21 rfl HN.out (by omega) _ Tryz.underlying26 rfl (by kernel_rfl) ?_)
  rw [HM.out]
  have HIX := Lib.hid (fun (k : Nat) (hk : k < 3) (w : World) => run_index_axes (fun j => f (6 + j)) k hk w)
  generalize (row 21 fun j => f (6 + j)) = R21 at *
  obtain ⟨R, hR⟩ : ∃ R, row 74 (nodeW f S) = R := ⟨_, rfl⟩
  rw [hR] at HN
  have HC := Lib.hid (fun i hi => show R[i]? = some (f i) by rw [← hR]; exact HC.out i hi)
  clear hR HM
  go_loopw [3, 13] (fun lv iv wr => ∃ (k n : Nat) (A : Option Addr) (c : Nat), k ≤ 3 ∧ n = k * 7 ∧ iv = .int .i64 (k : Int) ∧ lv = .slice A n c ∧ wr.ownsRow (gn + 1) 3 1 (.slice A n c) n (Ms.intsV (axesZ f k)) ∧ Blk wr gn 37 R ∧ Below gn w wr) (fun _ iv _ => 3 - (intOf iv).toNat)
  case atStart => exact ⟨0, 0, none, 0, by omega, rfl, rfl, rfl, World.ownsRow_nil _ _ _ _, HN.out, HB.out⟩
  case round =>
    clear HN HB
    obtain ⟨k, n, A, c, hk, hn, rfl, rfl, ho, hnd, hb⟩ := hrel
    have HO := Lib.hid ho
    have HN := Lib.hid hnd
    have HB := Lib.hid hb
    have HNK := Lib.hid hn
    clear ho hnd hb hn
    by_cases hlt : k < 3
    · obtain ⟨a, b, c0, d, e, m, t, hlit, hax⟩ := axis_cells HF.out k hlt
      have HAX := Lib.hid (show axesZ f (k + 1) = axesZ f k ++ [a, b, c0, d, e, bentZ t, m] by show axesZ f k ++ axZ f k = _; rw [hax])
      have hix := fun w => HIX.out k hlt w
      rw [hlit] at hix
      have hlg := HN.out.lt
      have hn3 : n ≤ 14 := by have := HNK.out; omega
      clear hlit hax
      go_upto_region 6 with fail
      have HT7 := Lib.hid (Blk.fresh wr 25 #[.int .i64 a, .int .i64 b, .int .i64 c0, .int .i64 d, .int .i64 e, .bool t, .int .i64 m])
      have HBw := Lib.hid ((Below.refl wr.heap.size wr).alloc (Nat.le_refl _) (.cells #[.int .i64 a, .int .i64 b, .int .i64 c0, .int .i64 d, .int .i64 e, .bool t, .int .i64 m] 25))
      have HO := Lib.hid (ownsRow_below HO.out HBw.out)
      have HN := Lib.hid (HN.out.below HBw.out HN.out.lt)
      have HB := Lib.hid (HB.out.alloc (by omega) (.cells #[.int .i64 a, .int .i64 b, .int .i64 c0, .int .i64 d, .int .i64 e, .bool t, .int .i64 m] 25))
      generalize (wr.alloc (.cells #[.int .i64 a, .int .i64 b, .int .i64 c0, .int .i64 d, .int .i64 e, .bool t, .int .i64 m] 25)) = w2 at *
      obtain ⟨gs, hgs⟩ : ∃ g, wr.heap.size = g := ⟨_, rfl⟩
      rw [hgs] at HT7 hlg ⊢
      have hgt := HT7.out.lt
      have y0 := HT7.out.cell 0
      have y1 := HT7.out.cell 1
      have y2 := HT7.out.cell 2
      have y3 := HT7.out.cell 3
      have y4 := HT7.out.cell 4
      have y5 := HT7.out.cell 5
      have y6 := HT7.out.cell 6
      simp only [List.getElem?_toArray, List.getElem?_cons_zero, List.getElem?_cons_succ] at y0 y1 y2 y3 y4 y5 y6
      clear hgs HBw HT7 hix
      obtain ⟨be, hbe⟩ : ∃ be, bentZ t = be := ⟨_, rfl⟩
      rw [hbe] at HAX
      have HSG := Lib.hid (rd_of_blk (Blk.fresh w2 3 #[.int .i64 a, .int .i64 b, .int .i64 c0, .int .i64 d, .int .i64 e, .int .i64 be, .int .i64 m]))
      have HOW := Lib.hid (ownsRow_below HO.out ((Below.refl w2.heap.size w2).alloc (Nat.le_refl _) (.cells #[.int .i64 a, .int .i64 b, .int .i64 c0, .int .i64 d, .int .i64 e, .int .i64 be, .int .i64 m] 3)))
      have HBX := Lib.hid (HB.out.alloc (by omega) (.cells #[.int .i64 a, .int .i64 b, .int .i64 c0, .int .i64 d, .int .i64 e, .int .i64 be, .int .i64 m] 3))
      have HNX := Lib.hid (HN.out.alloc (.cells #[.int .i64 a, .int .i64 b, .int .i64 c0, .int .i64 d, .int .i64 e, .int .i64 be, .int .i64 m] 3))
      have hgn := HN.out.lt
      have HN7 := Lib.hid (show (n + 7 : Nat) = (k + 1) * 7 by have := HNK.out; omega)
      have HI7 := Lib.hid (show Ms.intsV (axesZ f (k + 1)) = Ms.intsV (axesZ f k) ++ [.int .i64 a, .int .i64 b, .int .i64 c0, .int .i64 d, .int .i64 e, .int .i64 be, .int .i64 m] by rw [HAX.out]; simp [Ms.intsV])
      rcases t with _ | _
      · have hbe : (0 : Int) = be := hbe
        subst hbe
        go_wp2_with (at_builtin; go_loud (refine wpList_append_rd _ rfl (.tmp 18) (.tmp 32) 39 rfl (base := gn + 1) Ms.elemInts rfl HOW.out rfl (fun h => by cases h) HSG.out (by simp [Value.oneCell']) (by unfold maxLen; omega) (by omega) (by simp; omega) ?_); intro A9 c9 w5 hA9 hown2 hg2; have HO5 := Lib.hid hown2; have HN5 := Lib.hid (HNX.out.grown hg2 (fun e => by have := (HOW.out.lt _ e.symm).1; omega)); have HB5 := Lib.hid (HBX.out.grown hg2 (by simp; omega) (fun g e => by have := (HOW.out.lt g e).1; omega)); clear hA9 hown2 hg2)
        refine ⟨⟨k + 1, n + 7, A9, c9, by omega, HN7.out, by go_num, rfl, by rw [HI7.out]; exact HO5.out, HN5.out, HB5.out⟩, by simp [intOf]; omega⟩
      · have hbe : (1 : Int) = be := hbe
        subst hbe
        go_wp2_with (at_builtin; go_loud (refine wpList_append_rd _ rfl (.tmp 18) (.tmp 32) 39 rfl (base := gn + 1) Ms.elemInts rfl HOW.out rfl (fun h => by cases h) HSG.out (by simp [Value.oneCell']) (by unfold maxLen; omega) (by omega) (by simp; omega) ?_); intro A9 c9 w5 hA9 hown2 hg2; have HO5 := Lib.hid hown2; have HN5 := Lib.hid (HNX.out.grown hg2 (fun e => by have := (HOW.out.lt _ e.symm).1; omega)); have HB5 := Lib.hid (HBX.out.grown hg2 (by simp; omega) (fun g e => by have := (HOW.out.lt g e).1; omega)); clear hA9 hown2 hg2)
        refine ⟨⟨k + 1, n + 7, A9, c9, by omega, HN7.out, by go_num, rfl, by rw [HI7.out]; exact HO5.out, HN5.out, HB5.out⟩, by simp [intOf]; omega⟩
    · obtain rfl : k = 3 := by omega
      clear hlt
      rw [show ((3 : Nat) : Int) = 3 from rfl]
      obtain rfl : n = 21 := HNK.out
      go_wp2_with fail
      go_loop [7, 8, 9, 35] (fun iv_ mv jv xv => ∃ k : Nat, k ≤ 4 ∧ xv = .int .i64 (k : Int) ∧ iv_ = .int .i64 ((inZ f k : Nat) : Int) ∧ mv = .int .i64 (octZ 31 f k) ∧ jv = .int .i64 (octZ 35 f k)) (fun _ _ _ xv => 4 - (intOf xv).toNat)
      case atStart => exact ⟨0, by omega, rfl, rfl, rfl, rfl⟩
      case round =>
        obtain ⟨k, hk4, rfl, rfl, rfl, rfl⟩ := hrel
        by_cases hlk : k < 4
        · have c1 : wr.cell? ⟨gn, 27 + k, none⟩ = some (.bool (bv (f (27 + k)))) := by rw [HN.out.cell, HC.out _ (by omega), ← node_bool HF.out (27 + k) (by omega) (by omega)]
          have c2 : wr.cell? ⟨gn, 31 + k, none⟩ = some (.int .i64 (iv (f (31 + k)))) := by rw [HN.out.cell, HC.out _ (by omega), ← node_int HF.out (31 + k) (by omega) (by omega)]
          have c3 : wr.cell? ⟨gn, 35 + k, none⟩ = some (.int .i64 (iv (f (35 + k)))) := by rw [HN.out.cell, HC.out _ (by omega), ← node_int HF.out (35 + k) (by omega) (by omega)]
          have HLT := Lib.hid (inZ_lt f k)
          have HIN := Lib.hid (show inZ f (k + 1) = inZ f k + if bv (f (27 + k)) then 2 ^ k else 0 from rfl)
          have HM1 := Lib.hid (show octZ 31 f (k + 1) = IntKind.i64.wrap (IntKind.i64.wrap (octZ 31 f k * 8) + iv (f (31 + k))) from rfl)
          have HJ1 := Lib.hid (show octZ 35 f (k + 1) = IntKind.i64.wrap (IntKind.i64.wrap (octZ 35 f k * 8) + iv (f (35 + k))) from rfl)
          generalize inZ f k = I at *
          generalize octZ 31 f k = M at *
          generalize octZ 35 f k = J at *
          generalize iv (f (31 + k)) = x1 at *
          generalize iv (f (35 + k)) = x2 at *
          have HOR := Lib.hid (or_in k hlk I HLT.out)
          obtain ⟨p1, hp1⟩ : ∃ p, IntKind.i64.wrap (M * 8) = p := ⟨_, rfl⟩
          rw [hp1] at HM1
          obtain ⟨p2, hp2⟩ : ∃ p, IntKind.i64.wrap (p1 + x1) = p := ⟨_, rfl⟩
          rw [hp2] at HM1
          obtain ⟨p3, hp3⟩ : ∃ p, IntKind.i64.wrap (J * 8) = p := ⟨_, rfl⟩
          rw [hp3] at HJ1
          obtain ⟨p4, hp4⟩ : ∃ p, IntKind.i64.wrap (p3 + x2) = p := ⟨_, rfl⟩
          rw [hp4] at HJ1
          cases hbv : bv (f (27 + k)) with
          | false =>
            rw [hbv] at c1 HIN
            have HIN := Lib.hid (show inZ f (k + 1) = I by rw [HIN.out]; rfl)
            clear hbv
            go_wp2_with fail
            exact ⟨⟨k + 1, by omega, by go_num, by rw [HIN.out], by rw [HM1.out], by rw [HJ1.out]⟩, by simp [intOf]; omega⟩
          | true =>
            rw [hbv] at c1 HIN
            have HIN := Lib.hid (show inZ f (k + 1) = I + 2 ^ k by rw [HIN.out]; rfl)
            clear hbv
            obtain rfl | rfl | rfl | rfl : k = 0 ∨ k = 1 ∨ k = 2 ∨ k = 3 := by omega
            · have hor := HOR.out
              simp at hor
              go_wp2_with fail
              exact ⟨⟨1, by omega, rfl, by rw [show inZ f 1 = I + 1 from HIN.out]; go_num, by rw [show octZ 31 f 1 = p2 from HM1.out], by rw [show octZ 35 f 1 = p4 from HJ1.out]⟩, by simp [intOf]⟩
            · have hor := HOR.out
              simp at hor
              go_wp2_with fail
              exact ⟨⟨2, by omega, rfl, by rw [show inZ f 2 = I + 2 from HIN.out]; go_num, by rw [show octZ 31 f 2 = p2 from HM1.out], by rw [show octZ 35 f 2 = p4 from HJ1.out]⟩, by simp [intOf]⟩
            · have hor := HOR.out
              simp at hor
              go_wp2_with fail
              exact ⟨⟨3, by omega, rfl, by rw [show inZ f 3 = I + 4 from HIN.out]; go_num, by rw [show octZ 31 f 3 = p2 from HM1.out], by rw [show octZ 35 f 3 = p4 from HJ1.out]⟩, by simp [intOf]⟩
            · have hor := HOR.out
              simp at hor
              go_wp2_with fail
              exact ⟨⟨4, by omega, rfl, by rw [show inZ f 4 = I + 8 from HIN.out]; go_num, by rw [show octZ 31 f 4 = p2 from HM1.out], by rw [show octZ 35 f 4 = p4 from HJ1.out]⟩, by simp [intOf]⟩
        · obtain rfl : k = 4 := by omega
          clear hlk
          rw [show ((4 : Nat) : Int) = 4 from rfl]
          have HPZ := Lib.hid (show Ms.intsV (packZ f) = Ms.intsV (axesZ f 3) ++ [.int .i64 ((inZ f 4 : Nat) : Int), .int .i64 (octZ 31 f 4), .int .i64 (octZ 35 f 4)] by unfold packZ; simp [Ms.intsV])
          obtain ⟨I, hI⟩ : ∃ I : Int, ((inZ f 4 : Nat) : Int) = I := ⟨_, rfl⟩
          obtain ⟨M, hM⟩ : ∃ I : Int, octZ 31 f 4 = I := ⟨_, rfl⟩
          obtain ⟨J, hJ⟩ : ∃ I : Int, octZ 35 f 4 = I := ⟨_, rfl⟩
          rw [hI, hM, hJ] at HPZ
          rw [hI, hM, hJ]
          clear hI hM hJ HNK
          have hgn := HN.out.lt
          have HSG := Lib.hid (rd_of_blk (Blk.fresh wr 3 #[.int .i64 I, .int .i64 M, .int .i64 J]))
          have HOW := Lib.hid (ownsRow_below HO.out ((Below.refl wr.heap.size wr).alloc (Nat.le_refl _) (.cells #[.int .i64 I, .int .i64 M, .int .i64 J] 3)))
          have HBX := Lib.hid (HB.out.alloc (by omega) (.cells #[.int .i64 I, .int .i64 M, .int .i64 J] 3))
          go_wp2_with (at_builtin; go_loud (refine wpList_append_rd _ rfl (.tmp 65) (.tmp 69) 39 rfl (base := gn + 1) Ms.elemInts rfl HOW.out rfl (fun h => by cases h) HSG.out (by simp [Value.oneCell']) (by unfold maxLen; omega) (by omega) (by simp; omega) ?_); intro A9 c9 w5 hA9 hown2 hg2; have HO5 := Lib.hid hown2; have HB5 := Lib.hid (HBX.out.grown hg2 (by simp; omega) (fun g e => by have := (HOW.out.lt g e).1; omega)); clear hA9 hown2 hg2)
          go_ret
          refine ⟨A9, c9, rfl, ?_, by rw [HGN.out]; exact HB5.out⟩
          rw [HPZ.out, HGN.out]
          exact own_weaken HO5.out (by omega)
end Go.Proofs.YtjfllpmiajkenaaGreat.Nd
