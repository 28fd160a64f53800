import Derived.Test.YtlcpackmoolngaaPk3
import Derived.Test.YtlcpackmoolngaaPk2
import Derived.Test.YtlcpackmoolngaaPk0
import Derived.Laws.Rows
namespace Go.Proofs.Ytlcpackmoolngaa.Bu
open Go.ChangeShapes Go.WideShapes Go.ChangeAt Go.RowKit Go.Proofs.Ytlcpackmoolngaa.Mem Go.Proofs.Ytlcpackmoolngaa.Op Go.Proofs.Ytlcpackmoolngaa.Sm Go.Proofs.Ytlcpackmoolngaa.Nd Go.Proofs.Ytlcpackmoolngaa.Rws
set_option linter.unusedVariables false
set_option linter.unusedSimpArgs false
def inb (n : Int) : Bool := decide (0 ≤ n ∧ n < 4)
theorem node_any (n : Int) (w : World) : Calls Try.prog 32 #[.int .i64 n] w fun e w' => e = .returned (.bool (inb n)) ∧ w = w' := by
  by_cases h0 : 0 ≤ n
  · by_cases h1 : n < 4
    · have HD := Lib.hid (show inb n = true from decide_eq_true ⟨h0, h1⟩)
      go_enter Try.func32, Try.ntmps32
      go_wp2_with fail
      go_ret
      exact ⟨by rw [HD.out]; rfl, rfl⟩
    · have HD := Lib.hid (show inb n = false from decide_eq_false fun h => h1 h.2)
      have h1 : 4 ≤ n := by omega
      go_enter Try.func32, Try.ntmps32
      go_wp2_with fail
      go_ret
      exact ⟨by rw [HD.out]; rfl, rfl⟩
  · have HD := Lib.hid (show inb n = false from decide_eq_false fun h => h0 h.1)
    have h0 : n < 0 := by omega
    go_enter Try.func32, Try.ntmps32
    go_wp2_with fail
    go_ret
    exact ⟨by rw [HD.out]; rfl, rfl⟩
def fitsB (now fm ot dl : Int) : Prop := (0 ≤ fm ∧ fm < 4) ∧ (0 ≤ ot ∧ ot < 4) ∧ fm ≠ ot ∧ 0 ≤ dl ∧ dl ≤ 1000 ∧ 0 ≤ now ∧ now ≤ 1099511627776
open Classical in
noncomputable def sendR (now ser : Int) (qs : List Parc) (fm ot dl : Int) (bs : List Nat) : Int × Int × List Parc × Int :=
  if ¬ fitsB now fm ot dl then (0, 0, [], 3)
  else if 220 < bs.length then (0, 0, [], 1)
  else if 400 ≤ qs.length then (0, 0, [], 6)
  else (now, IntKind.i64.wrap (ser + 1), qs ++ [⟨fm, ot, now + dl, ser, bs⟩], 0)
def SendAs (w w' : World) (r : Int × Int × List Parc × Int) (e : Ending) : Prop :=
  ∃ A c, e = .returned (.tuple #[.agg #[.int .i64 r.1, .int .i64 r.2.1, .slice A r.2.2.1.length c], .int .i64 r.2.2.2]) ∧ ParcsAt w' w'.heap.size A r.2.2.1 ∧ Below w.heap.size w w'
theorem own_parcs_set {w : World} {base : Nat} {A : Option Addr} {c : Nat} {ps : List Parc} (h : OwnParcs w base A c ps) {g : Nat} {cs : Array Value} (hg : Blk w g 24 cs) (i : Nat) (u : Value) : OwnParcs (w.setCell ⟨g, i, none⟩ u) base A c ps := by
  obtain ⟨xs, ho, hx⟩ := h
  refine ⟨xs, own_set_typed ho hg (by decide) i u, fun j p hp => ?_⟩
  obtain ⟨a, c', h1, h2, h3⟩ := hx j p hp
  exact ⟨a, c', h1, own_set_typed h2 hg (by decide) i u, h3⟩
end Go.Proofs.Ytlcpackmoolngaa.Bu
namespace Go.Proofs.Ytlcpackmoolngaa.Mem
open Go.RowKit
section
variable {P : Program}
def isRow (P : Program) (ty : TypeId) (cs : Array Value) : Prop := (match P.underlying ty with | some (.struct _) | some (.array _ _) => true | _ => false) = true ∧ (P.info? ty).map (·.size) = some cs.size
theorem load_cell {w : World} {ty : TypeId} {g : Nat} {t : TypeId} {cs : Array Value} (hg : Blk w g t cs) (hr : isRow P ty cs) : (loadVar ty ⟨g, 0, none⟩).run P w = .ok (.agg cs) w := by
  obtain ⟨h1, h2⟩ := hr
  cases hu : P.underlying ty with
  | none => rw [hu] at h1; cases h1
  | some d => exact run_loadVar_row w g t ty cs (0, 0) d hg hu (by rw [hu] at h1; cases d <;> first | rfl | cases h1) h2
theorem results_cell_tmp {fn : Func} {p u : Tmp} {ty : TypeId} (h : fn.results = #[.cell p ty, .tmp u]) (tmps : Array Value) (w : World) {g : Nat} {t : TypeId} {cs : Array Value}
    (hp : tmps.getD p undef = .pointer (some ⟨g, 0, none⟩)) (hg : Blk w g t cs) (hr : isRow P ty cs) :
    (results fn tmps).run P w = .ok (.tuple #[.agg cs, tmps.getD u undef]) w := by
  have hp' : tmps[p]?.getD undef = .pointer (some ⟨g, 0, none⟩) := by simpa using hp
  simp [results, h, hp', asAddr, load_cell hg hr]
theorem results_cell_tmp2 {fn : Func} {p u v : Tmp} {ty : TypeId} (h : fn.results = #[.cell p ty, .tmp u, .tmp v]) (tmps : Array Value) (w : World) {g : Nat} {t : TypeId} {cs : Array Value}
    (hp : tmps.getD p undef = .pointer (some ⟨g, 0, none⟩)) (hg : Blk w g t cs) (hr : isRow P ty cs) :
    (results fn tmps).run P w = .ok (.tuple #[.agg cs, tmps.getD u undef, tmps.getD v undef]) w := by
  have hp' : tmps[p]?.getD undef = .pointer (some ⟨g, 0, none⟩) := by simpa using hp
  simp [results, h, hp', asAddr, load_cell hg hr]
theorem ret_row2 {fn : Func} {R : Ending → World → Prop} {a : Act} {w : World} {p u : Tmp} {ty : TypeId} (h : fn.results = #[.cell p ty, .tmp u]) {g : Nat} {t : TypeId} {cs : Array Value} {x : Value}
    (hp : a.tmps.getD p undef = .pointer (some ⟨g, 0, none⟩)) (hx : a.tmps.getD u undef = x) (hg : Blk w g t cs) (hr : isRow P ty cs) (hdf : a.defers = []) (hR : R (.returned (.tuple #[.agg cs, x])) w) : bodyPost P fn R .ret a w :=
  bodyPost_ret (results_cell_tmp h a.tmps w hp hg hr) hdf (by rw [hx]; exact hR)
theorem ret_row3 {fn : Func} {R : Ending → World → Prop} {a : Act} {w : World} {p u v : Tmp} {ty : TypeId} (h : fn.results = #[.cell p ty, .tmp u, .tmp v]) {g : Nat} {t : TypeId} {cs : Array Value} {x y : Value}
    (hp : a.tmps.getD p undef = .pointer (some ⟨g, 0, none⟩)) (hx : a.tmps.getD u undef = x) (hy : a.tmps.getD v undef = y) (hg : Blk w g t cs) (hr : isRow P ty cs) (hdf : a.defers = []) (hR : R (.returned (.tuple #[.agg cs, x, y])) w) : bodyPost P fn R .ret a w :=
  bodyPost_ret (results_cell_tmp2 h a.tmps w hp hg hr) hdf (by rw [hx, hy]; exact hR)
end
end Go.Proofs.Ytlcpackmoolngaa.Mem
namespace Go.Proofs.Ytlcpackmoolngaa.Bu
open Go.ChangeShapes Go.WideShapes Go.ChangeAt Go.RowKit Go.Proofs.Ytlcpackmoolngaa.Mem Go.Proofs.Ytlcpackmoolngaa.Op Go.Proofs.Ytlcpackmoolngaa.Sm Go.Proofs.Ytlcpackmoolngaa.Nd Go.Proofs.Ytlcpackmoolngaa.Rws
set_option linter.unusedVariables false
set_option linter.unusedSimpArgs false
set_option maxRecDepth 100000 in
set_option maxHeartbeats 4000000 in
theorem send_any (now ser : Int) (A : Option Addr) (c : Nat) (qs : List Parc) (fm ot dl : Int) (AD : Option Addr) (cd : Nat) (bs : List Nat) (B : Nat) (w : World) (hB : B ≤ w.heap.size) (hql : qs.length * 56 ≤ 140737488351232) (hq : ParcsAt w B A qs) (hA : AD = none → cd = 0) (hnc : bs.length ≤ cd) (hbl : bs.length ≤ 140737488351232) (hd : Rd w B 1 AD bs.length (bytesV bs)) :
    Calls Try.prog 18 #[.agg #[.int .i64 now, .int .i64 ser, .slice A qs.length c], .int .i64 fm, .int .i64 ot, .slice AD bs.length cd, .int .i64 dl] w fun e w' => SendAs w w' (sendR now ser qs fm ot dl bs) e := by
  have HQ := Lib.hid hq
  have HD0 := Lib.hid hd
  have D1 := Lib.hid (show Blk ((w.alloc (.cells #[.int .i64 now, .int .i64 ser, .slice A qs.length c] 24)).alloc (.cells #[.int .i64 0, .int .i64 0, .slice none 0 0] 24)) w.heap.size 24 #[.int .i64 now, .int .i64 ser, .slice A qs.length c] from (Blk.new rfl).alloc _)
  have D2 := Lib.hid (show Blk ((w.alloc (.cells #[.int .i64 now, .int .i64 ser, .slice A qs.length c] 24)).alloc (.cells #[.int .i64 0, .int .i64 0, .slice none 0 0] 24)) (w.heap.size + 1) 24 #[.int .i64 0, .int .i64 0, .slice none 0 0] from Blk.new (by simp))
  have HB := Lib.hid (((Below.refl w.heap.size w).alloc (Nat.le_refl _) (.cells #[.int .i64 now, .int .i64 ser, .slice A qs.length c] 24)).alloc (by simp) (.cells #[.int .i64 0, .int .i64 0, .slice none 0 0] 24))
  clear hq hd
  go_enter Try.func18, Try.ntmps18
  go_upto_region 1 with fail
  generalize ((w.alloc (.cells #[.int .i64 now, .int .i64 ser, .slice A qs.length c] 24)).alloc (.cells #[.int .i64 0, .int .i64 0, .slice none 0 0] 24)) = W at *
  have HD := Lib.hid (HD0.out.below (HB.out.mono hB))
  have y0 := D1.out.cell 0
  have y2 := D1.out.cell 2
  simp only [List.getElem?_toArray, List.getElem?_cons_zero, List.getElem?_cons_succ] at y0 y2
  have hW2 : w.heap.size + 1 < W.heap.size := D2.out.lt
  clear HD0
  by_cases a1 : 0 ≤ fm
  rotate_left 1
  · have HSR := Lib.hid (show sendR now ser qs fm ot dl bs = (0, 0, [], 3) from if_pos (fun h => a1 h.1.1))
    have a1' : fm < 0 := by omega
    clear a1
    have hd1 : inb fm = false := decide_eq_false (by omega)
    go_wp2_with fail
    refine (node_any _ _).mono ?_
    rintro e w' ⟨rfl, rfl⟩
    rw [hd1]
    go_wp2_with (refine wpList_store_row rfl 24 _ _ rfl (w.heap.size + 1) #[.int .i64 0, .int .i64 0, .slice none 0 0] rfl rfl 24 _ D2.out (by kernel_rfl) rfl (by simp [Value.oneCell']) ?_)
    refine ret_row2 (x := .int .i64 3) rfl rfl rfl (D2.out.setRow #[.int .i64 0, .int .i64 0, .slice none 0 0]) ⟨by rw [Try.underlying24], by kernel_rfl⟩ rfl ?_
    rw [HSR.out]
    exact ⟨none, 0, rfl, ParcsAt.nil _ _ _, below_setRow HB.out (by omega) _⟩
  ·
    by_cases a2 : fm ≤ 3
    rotate_left 1
    · have HSR := Lib.hid (show sendR now ser qs fm ot dl bs = (0, 0, [], 3) from if_pos (fun h => a2 (show fm ≤ 3 by have := h.1.2; omega)))
      have a2' : 3 < fm := by omega
      clear a2
      have hd1 : inb fm = false := decide_eq_false (by omega)
      go_wp2_with fail
      refine (node_any _ _).mono ?_
      rintro e w' ⟨rfl, rfl⟩
      rw [hd1]
      go_wp2_with (refine wpList_store_row rfl 24 _ _ rfl (w.heap.size + 1) #[.int .i64 0, .int .i64 0, .slice none 0 0] rfl rfl 24 _ D2.out (by kernel_rfl) rfl (by simp [Value.oneCell']) ?_)
      refine ret_row2 (x := .int .i64 3) rfl rfl rfl (D2.out.setRow #[.int .i64 0, .int .i64 0, .slice none 0 0]) ⟨by rw [Try.underlying24], by kernel_rfl⟩ rfl ?_
      rw [HSR.out]
      exact ⟨none, 0, rfl, ParcsAt.nil _ _ _, below_setRow HB.out (by omega) _⟩
    ·
      have hd1 : inb fm = true := decide_eq_true ⟨a1, by omega⟩
      by_cases b1 : 0 ≤ ot
      rotate_left 1
      · have HSR := Lib.hid (show sendR now ser qs fm ot dl bs = (0, 0, [], 3) from if_pos (fun h => b1 h.2.1.1))
        have b1' : ot < 0 := by omega
        clear b1
        have hd2 : inb ot = false := decide_eq_false (by omega)
        go_wp2_with fail
        refine (node_any _ _).mono ?_
        rintro e w' ⟨rfl, rfl⟩
        rw [hd1]
        go_wp2_with fail
        refine (node_any _ _).mono ?_
        rintro e w' ⟨rfl, rfl⟩
        rw [hd2]
        go_wp2_with (refine wpList_store_row rfl 24 _ _ rfl (w.heap.size + 1) #[.int .i64 0, .int .i64 0, .slice none 0 0] rfl rfl 24 _ D2.out (by kernel_rfl) rfl (by simp [Value.oneCell']) ?_)
        refine ret_row2 (x := .int .i64 3) rfl rfl rfl (D2.out.setRow #[.int .i64 0, .int .i64 0, .slice none 0 0]) ⟨by rw [Try.underlying24], by kernel_rfl⟩ rfl ?_
        rw [HSR.out]
        exact ⟨none, 0, rfl, ParcsAt.nil _ _ _, below_setRow HB.out (by omega) _⟩
      ·
        by_cases b2 : ot ≤ 3
        rotate_left 1
        · have HSR := Lib.hid (show sendR now ser qs fm ot dl bs = (0, 0, [], 3) from if_pos (fun h => b2 (show ot ≤ 3 by have := h.2.1.2; omega)))
          have b2' : 3 < ot := by omega
          clear b2
          have hd2 : inb ot = false := decide_eq_false (by omega)
          go_wp2_with fail
          refine (node_any _ _).mono ?_
          rintro e w' ⟨rfl, rfl⟩
          rw [hd1]
          go_wp2_with fail
          refine (node_any _ _).mono ?_
          rintro e w' ⟨rfl, rfl⟩
          rw [hd2]
          go_wp2_with (refine wpList_store_row rfl 24 _ _ rfl (w.heap.size + 1) #[.int .i64 0, .int .i64 0, .slice none 0 0] rfl rfl 24 _ D2.out (by kernel_rfl) rfl (by simp [Value.oneCell']) ?_)
          refine ret_row2 (x := .int .i64 3) rfl rfl rfl (D2.out.setRow #[.int .i64 0, .int .i64 0, .slice none 0 0]) ⟨by rw [Try.underlying24], by kernel_rfl⟩ rfl ?_
          rw [HSR.out]
          exact ⟨none, 0, rfl, ParcsAt.nil _ _ _, below_setRow HB.out (by omega) _⟩
        ·
          have hd2 : inb ot = true := decide_eq_true ⟨b1, by omega⟩
          by_cases e : fm ≠ ot
          rotate_left 1
          · have HSR := Lib.hid (show sendR now ser qs fm ot dl bs = (0, 0, [], 3) from if_pos (fun h => e h.2.2.1))
            have e' : (fm == ot) = true := by simpa using e
            clear e
            go_wp2_with fail
            refine (node_any _ _).mono ?_
            rintro e w' ⟨rfl, rfl⟩
            rw [hd1]
            go_wp2_with fail
            refine (node_any _ _).mono ?_
            rintro e w' ⟨rfl, rfl⟩
            rw [hd2]
            go_wp2_with (refine wpList_store_row rfl 24 _ _ rfl (w.heap.size + 1) #[.int .i64 0, .int .i64 0, .slice none 0 0] rfl rfl 24 _ D2.out (by kernel_rfl) rfl (by simp [Value.oneCell']) ?_)
            refine ret_row2 (x := .int .i64 3) rfl rfl rfl (D2.out.setRow #[.int .i64 0, .int .i64 0, .slice none 0 0]) ⟨by rw [Try.underlying24], by kernel_rfl⟩ rfl ?_
            rw [HSR.out]
            exact ⟨none, 0, rfl, ParcsAt.nil _ _ _, below_setRow HB.out (by omega) _⟩
          ·
            have e' : (fm == ot) = false := by simpa using e
            have HE := Lib.hid e
            clear e
            by_cases d1 : 0 ≤ dl
            rotate_left 1
            · have HSR := Lib.hid (show sendR now ser qs fm ot dl bs = (0, 0, [], 3) from if_pos (fun h => d1 h.2.2.2.1))
              have d1' : dl < 0 := by omega
              clear d1
              go_wp2_with fail
              refine (node_any _ _).mono ?_
              rintro e w' ⟨rfl, rfl⟩
              rw [hd1]
              go_wp2_with fail
              refine (node_any _ _).mono ?_
              rintro e w' ⟨rfl, rfl⟩
              rw [hd2]
              go_wp2_with (refine wpList_store_row rfl 24 _ _ rfl (w.heap.size + 1) #[.int .i64 0, .int .i64 0, .slice none 0 0] rfl rfl 24 _ D2.out (by kernel_rfl) rfl (by simp [Value.oneCell']) ?_)
              refine ret_row2 (x := .int .i64 3) rfl rfl rfl (D2.out.setRow #[.int .i64 0, .int .i64 0, .slice none 0 0]) ⟨by rw [Try.underlying24], by kernel_rfl⟩ rfl ?_
              rw [HSR.out]
              exact ⟨none, 0, rfl, ParcsAt.nil _ _ _, below_setRow HB.out (by omega) _⟩
            ·
              by_cases d2 : dl ≤ 1000
              rotate_left 1
              · have HSR := Lib.hid (show sendR now ser qs fm ot dl bs = (0, 0, [], 3) from if_pos (fun h => d2 h.2.2.2.2.1))
                have d2' : 1000 < dl := by omega
                clear d2
                go_wp2_with fail
                refine (node_any _ _).mono ?_
                rintro e w' ⟨rfl, rfl⟩
                rw [hd1]
                go_wp2_with fail
                refine (node_any _ _).mono ?_
                rintro e w' ⟨rfl, rfl⟩
                rw [hd2]
                go_wp2_with (refine wpList_store_row rfl 24 _ _ rfl (w.heap.size + 1) #[.int .i64 0, .int .i64 0, .slice none 0 0] rfl rfl 24 _ D2.out (by kernel_rfl) rfl (by simp [Value.oneCell']) ?_)
                refine ret_row2 (x := .int .i64 3) rfl rfl rfl (D2.out.setRow #[.int .i64 0, .int .i64 0, .slice none 0 0]) ⟨by rw [Try.underlying24], by kernel_rfl⟩ rfl ?_
                rw [HSR.out]
                exact ⟨none, 0, rfl, ParcsAt.nil _ _ _, below_setRow HB.out (by omega) _⟩
              ·
                by_cases n1 : 0 ≤ now
                rotate_left 1
                · have HSR := Lib.hid (show sendR now ser qs fm ot dl bs = (0, 0, [], 3) from if_pos (fun h => n1 h.2.2.2.2.2.1))
                  have n1' : now < 0 := by omega
                  clear n1
                  go_wp2_with fail
                  refine (node_any _ _).mono ?_
                  rintro e w' ⟨rfl, rfl⟩
                  rw [hd1]
                  go_wp2_with fail
                  refine (node_any _ _).mono ?_
                  rintro e w' ⟨rfl, rfl⟩
                  rw [hd2]
                  go_wp2_with (refine wpList_store_row rfl 24 _ _ rfl (w.heap.size + 1) #[.int .i64 0, .int .i64 0, .slice none 0 0] rfl rfl 24 _ D2.out (by kernel_rfl) rfl (by simp [Value.oneCell']) ?_)
                  refine ret_row2 (x := .int .i64 3) rfl rfl rfl (D2.out.setRow #[.int .i64 0, .int .i64 0, .slice none 0 0]) ⟨by rw [Try.underlying24], by kernel_rfl⟩ rfl ?_
                  rw [HSR.out]
                  exact ⟨none, 0, rfl, ParcsAt.nil _ _ _, below_setRow HB.out (by omega) _⟩
                ·
                  by_cases n2 : now ≤ 1099511627776
                  rotate_left 1
                  · have HSR := Lib.hid (show sendR now ser qs fm ot dl bs = (0, 0, [], 3) from if_pos (fun h => n2 h.2.2.2.2.2.2))
                    have n2' : 1099511627776 < now := by omega
                    clear n2
                    go_wp2_with fail
                    refine (node_any _ _).mono ?_
                    rintro e w' ⟨rfl, rfl⟩
                    rw [hd1]
                    go_wp2_with fail
                    refine (node_any _ _).mono ?_
                    rintro e w' ⟨rfl, rfl⟩
                    rw [hd2]
                    go_wp2_with (refine wpList_store_row rfl 24 _ _ rfl (w.heap.size + 1) #[.int .i64 0, .int .i64 0, .slice none 0 0] rfl rfl 24 _ D2.out (by kernel_rfl) rfl (by simp [Value.oneCell']) ?_)
                    refine ret_row2 (x := .int .i64 3) rfl rfl rfl (D2.out.setRow #[.int .i64 0, .int .i64 0, .slice none 0 0]) ⟨by rw [Try.underlying24], by kernel_rfl⟩ rfl ?_
                    rw [HSR.out]
                    exact ⟨none, 0, rfl, ParcsAt.nil _ _ _, below_setRow HB.out (by omega) _⟩
                  ·
                    have HF := Lib.hid (show fitsB now fm ot dl from ⟨⟨a1, by omega⟩, ⟨b1, by omega⟩, HE.out, d1, d2, n1, n2⟩)
                    have ew : IntKind.i64.wrap (now + dl) = now + dl := IntWalk.i64_in _ (by omega)
                    obtain ⟨s1, hs1⟩ : ∃ s1, IntKind.i64.wrap (ser + 1) = s1 := ⟨_, rfl⟩
                    have HS1 := Lib.hid hs1
                    by_cases g1 : 220 < bs.length
                    · have HSR := Lib.hid (show sendR now ser qs fm ot dl bs = (0, 0, [], 1) from (if_neg (fun h => h HF.out)).trans (if_pos g1))
                      go_wp2_with fail
                      refine (node_any _ _).mono ?_
                      rintro e w' ⟨rfl, rfl⟩
                      rw [hd1]
                      go_wp2_with fail
                      refine (node_any _ _).mono ?_
                      rintro e w' ⟨rfl, rfl⟩
                      rw [hd2]
                      go_wp2_with (refine wpList_store_row rfl 24 _ _ rfl (w.heap.size + 1) #[.int .i64 0, .int .i64 0, .slice none 0 0] rfl rfl 24 _ D2.out (by kernel_rfl) rfl (by simp [Value.oneCell']) ?_)
                      refine ret_row2 (x := .int .i64 1) rfl rfl rfl (D2.out.setRow #[.int .i64 0, .int .i64 0, .slice none 0 0]) ⟨by rw [Try.underlying24], by kernel_rfl⟩ rfl ?_
                      rw [HSR.out]
                      exact ⟨none, 0, rfl, ParcsAt.nil _ _ _, below_setRow HB.out (by omega) _⟩
                    · by_cases g2 : 400 ≤ qs.length
                      · have HSR := Lib.hid (show sendR now ser qs fm ot dl bs = (0, 0, [], 6) from (if_neg (fun h => h HF.out)).trans ((if_neg g1).trans (if_pos g2)))
                        go_wp2_with fail
                        refine (node_any _ _).mono ?_
                        rintro e w' ⟨rfl, rfl⟩
                        rw [hd1]
                        go_wp2_with fail
                        refine (node_any _ _).mono ?_
                        rintro e w' ⟨rfl, rfl⟩
                        rw [hd2]
                        go_wp2_with (refine wpList_store_row rfl 24 _ _ rfl (w.heap.size + 1) #[.int .i64 0, .int .i64 0, .slice none 0 0] rfl rfl 24 _ D2.out (by kernel_rfl) rfl (by simp [Value.oneCell']) ?_)
                        refine ret_row2 (x := .int .i64 6) rfl rfl rfl (D2.out.setRow #[.int .i64 0, .int .i64 0, .slice none 0 0]) ⟨by rw [Try.underlying24], by kernel_rfl⟩ rfl ?_
                        rw [HSR.out]
                        exact ⟨none, 0, rfl, ParcsAt.nil _ _ _, below_setRow HB.out (by omega) _⟩
                      · have HSR := Lib.hid (show sendR now ser qs fm ot dl bs = (now, IntKind.i64.wrap (ser + 1), qs ++ [⟨fm, ot, now + dl, ser, bs⟩], 0) from (if_neg (fun h => h HF.out)).trans ((if_neg g1).trans (if_neg g2)))
                        go_wp2_with fail
                        refine (node_any _ _).mono ?_
                        rintro e w' ⟨rfl, rfl⟩
                        rw [hd1]
                        go_wp2_with fail
                        refine (node_any _ _).mono ?_
                        rintro e w' ⟨rfl, rfl⟩
                        rw [hd2]
                        go_wp2_with (refine wpList_whole rfl 24 _ rfl w.heap.size rfl D1.out _ Try.underlying24 rfl (by kernel_rfl) ?_)
                        refine (copied_any now ser A c qs B W (Nat.le_trans hB HB.out.size) (by omega) (HQ.out.below (HB.out.mono hB))).mono ?_
                        rintro e w1 ⟨A1, c1, rfl, hop, hb⟩
                        have HOP := Lib.hid hop
                        have HD := Lib.hid (HD.out.below (hb.mono (Nat.le_trans hB HB.out.size)))
                        have D1 := Lib.hid (D1.out.below hb D1.out.lt)
                        have RZ := Lib.hid (D2.out.below hb D2.out.lt)
                        have HB1 := Lib.hid (onward HB.out (Nat.le_refl _) hb)
                        have hW1 := hb.size
                        clear hop hb
                        go_upto_region 8 with (refine wpList_store_row rfl 24 _ _ rfl w.heap.size #[.int .i64 now, .int .i64 ser, .slice A1 qs.length c1] rfl rfl 24 _ D1.out (by kernel_rfl) rfl (by simp [Value.oneCell']) ?_)
                        have GB := Lib.hid (D1.out.setRow #[.int .i64 now, .int .i64 ser, .slice A1 qs.length c1])
                        have RZ := Lib.hid (RZ.out.setRow_other (g' := w.heap.size) (by omega) #[.int .i64 now, .int .i64 ser, .slice A1 qs.length c1])
                        have HB1 := Lib.hid (below_setRow HB1.out (Nat.le_refl w.heap.size) #[.int .i64 now, .int .i64 ser, .slice A1 qs.length c1])
                        have HOP := Lib.hid (HOP.out.keep (base' := W.heap.size) fun _ _ _ _ _ h => own_setRow (g := w.heap.size) h (by omega) #[.int .i64 now, .int .i64 ser, .slice A1 qs.length c1])
                        have HD := Lib.hid (HD.out.keep fun b o hb => cell_setRow w1 w.heap.size #[.int .i64 now, .int .i64 ser, .slice A1 qs.length c1] (p := ⟨b, o, none⟩) (by show b ≠ w.heap.size; omega))
                        have hW1 : W.heap.size ≤ (w1.setRow w.heap.size #[.int .i64 now, .int .i64 ser, .slice A1 qs.length c1]).heap.size := Nat.le_trans hW1 (below_setRow (Below.refl 0 w1) (Nat.zero_le _) #[.int .i64 now, .int .i64 ser, .slice A1 qs.length c1]).size
                        clear D1
                        generalize (w1.setRow w.heap.size #[.int .i64 now, .int .i64 ser, .slice A1 qs.length c1]) = w2 at *
                        have HB2 := Lib.hid HB1.out.drew
                        have GB := Lib.hid GB.out.drew
                        have RZ := Lib.hid RZ.out.drew
                        have HOP := Lib.hid (HOP.out.below ((Below.refl w2.heap.size w2).drew))
                        have HD : Hid (Rd w2.drew B 1 AD bs.length (bytesV bs)) := Lib.hid HD.out.drew
                        have hW1 : W.heap.size ≤ w2.drew.heap.size := hW1
                        have HS := GB.out
                        refine wp_region_noPanic ?_
                        refine Rg.beginR [1, 5, 9] (fun w' => Blk w' w.heap.size 24 #[.int .i64 now, .int .i64 ser, .slice A1 qs.length c1]) (by kernel_rfl) ?_
                        generalize w2.drew = V0 at *
                        refine Rg.takeP (i := 0) (oi := { dst := some 58, op := Op.fieldAddr 24 (Operand.tmp 5) 2, type := 0, pos := "bus.go:35", after := #[], guard := none }) (v := ?_) rfl (by kernel_rfl) (fun _ _ _ h => h) (by rfl) ?_ ?_
                        rotate_left 1
                        · (intro w; go_simp; (try with_reducible rfl))
                        try simp only [Act.put, List.setIfInBounds_toArray, List.set_cons_zero, List.set_cons_succ]
                        refine Rg.takeS (i := 1) (oi := { dst := some 59, op := Op.load 22 (Operand.tmp 58), type := 22, pos := "bus.go:35", after := #[{ on := 0, ground := Ground.data }], guard := none }) (v := ?_) rfl (by kernel_rfl) (fun _ _ _ h => h) (by rfl) HS ?_ ?_
                        rotate_left 1
                        · (intro w' hSw; have y := hSw.cell 2; simp only [List.getElem?_toArray, List.getElem?_cons_zero, List.getElem?_cons_succ] at y; go_simp; (try with_reducible rfl))
                        try simp only [Act.put, List.setIfInBounds_toArray, List.set_cons_zero, List.set_cons_succ]
                        refine Rg.takeP (i := 2) (oi := { dst := some 60, op := Op.move (Operand.tmp 1), type := 3, pos := "bus.go:35", after := #[], guard := none }) (v := ?_) rfl (by kernel_rfl) (fun _ _ _ h => h) (by rfl) ?_ ?_
                        rotate_left 1
                        · (intro w; go_simp; (try with_reducible rfl))
                        try simp only [Act.put, List.setIfInBounds_toArray, List.set_cons_zero, List.set_cons_succ]
                        refine Rg.takeP (i := 3) (oi := { dst := some 61, op := Op.move (Operand.tmp 2), type := 3, pos := "bus.go:35", after := #[], guard := none }) (v := ?_) rfl (by kernel_rfl) (fun _ _ _ h => h) (by rfl) ?_ ?_
                        rotate_left 1
                        · (intro w; go_simp; (try with_reducible rfl))
                        try simp only [Act.put, List.setIfInBounds_toArray, List.set_cons_zero, List.set_cons_succ]
                        refine Rg.takeP (i := 4) (oi := { dst := some 62, op := Op.fieldAddr 24 (Operand.tmp 5) 0, type := 0, pos := "bus.go:35", after := #[], guard := none }) (v := ?_) rfl (by kernel_rfl) (fun _ _ _ h => h) (by rfl) ?_ ?_
                        rotate_left 1
                        · (intro w; go_simp; (try with_reducible rfl))
                        try simp only [Act.put, List.setIfInBounds_toArray, List.set_cons_zero, List.set_cons_succ]
                        refine Rg.takeS (i := 5) (oi := { dst := some 63, op := Op.load 3 (Operand.tmp 62), type := 3, pos := "bus.go:35", after := #[{ on := 4, ground := Ground.data }], guard := none }) (v := ?_) rfl (by kernel_rfl) (fun _ _ _ h => h) (by rfl) HS ?_ ?_
                        rotate_left 1
                        · (intro w' hSw; have y := hSw.cell 0; simp only [List.getElem?_toArray, List.getElem?_cons_zero, List.getElem?_cons_succ] at y; go_simp; (try with_reducible rfl))
                        try simp only [Act.put, List.setIfInBounds_toArray, List.set_cons_zero, List.set_cons_succ]
                        refine Rg.takeP (i := 6) (oi := { dst := some 64, op := Op.move (Operand.tmp 4), type := 3, pos := "bus.go:35", after := #[], guard := none }) (v := ?_) rfl (by kernel_rfl) (fun _ _ _ h => h) (by rfl) ?_ ?_
                        rotate_left 1
                        · (intro w; go_simp; (try with_reducible rfl))
                        try simp only [Act.put, List.setIfInBounds_toArray, List.set_cons_zero, List.set_cons_succ]
                        refine Rg.takeP (i := 7) (oi := { dst := some 65, op := Op.binOp BinOp.add 3 (Operand.tmp 63) (Operand.tmp 64) 3, type := 3, pos := "bus.go:35", after := #[{ on := 5, ground := Ground.data }, { on := 6, ground := Ground.data }], guard := none }) (v := ?_) rfl (by kernel_rfl) (fun _ _ _ h => h) (by rfl) ?_ ?_
                        rotate_left 1
                        · (intro w; go_simp; (try with_reducible rfl))
                        try simp only [Act.put, List.setIfInBounds_toArray, List.set_cons_zero, List.set_cons_succ]
                        refine Rg.takeP (i := 8) (oi := { dst := some 66, op := Op.fieldAddr 24 (Operand.tmp 5) 1, type := 0, pos := "bus.go:35", after := #[], guard := none }) (v := ?_) rfl (by kernel_rfl) (fun _ _ _ h => h) (by rfl) ?_ ?_
                        rotate_left 1
                        · (intro w; go_simp; (try with_reducible rfl))
                        try simp only [Act.put, List.setIfInBounds_toArray, List.set_cons_zero, List.set_cons_succ]
                        refine Rg.takeS (i := 9) (oi := { dst := some 67, op := Op.load 3 (Operand.tmp 66), type := 3, pos := "bus.go:35", after := #[{ on := 8, ground := Ground.data }], guard := none }) (v := ?_) rfl (by kernel_rfl) (fun _ _ _ h => h) (by rfl) HS ?_ ?_
                        rotate_left 1
                        · (intro w' hSw; have y := hSw.cell 1; simp only [List.getElem?_toArray, List.getElem?_cons_zero, List.getElem?_cons_succ] at y; go_simp; (try with_reducible rfl))
                        try simp only [Act.put, List.setIfInBounds_toArray, List.set_cons_zero, List.set_cons_succ]
                        refine Rg.takeP (i := 10) (oi := { dst := some 68, op := Op.move (Operand.tmp 3), type := 38, pos := "bus.go:35", after := #[], guard := none }) (v := ?_) rfl (by kernel_rfl) (fun _ _ _ h => h) (by rfl) ?_ ?_
                        rotate_left 1
                        · (intro w; go_simp; (try with_reducible rfl))
                        try simp only [Act.put, List.setIfInBounds_toArray, List.set_cons_zero, List.set_cons_succ]
                        refine Rg.oneR (i := 11) (oi := { dst := some 69, op := Op.call { callee := Callee.value (Operand.func 33), args := #[Operand.tmp 68], argTypes := #[38] }, type := 38, pos := "bus.go:35", after := #[{ on := 10, ground := Ground.data }], guard := none }) rfl (by kernel_rfl) ?_
                        refine Rg.stepS ?_
                        intro K hK
                        rw [if_pos (by rfl)]
                        go_simp
                        go_at_call 33
                        refine (clone_any AD cd bs B V0 (by omega) hA hnc hbl HD.out).mono ?_
                        rintro e V1 ⟨A2, c2, rfl, hown, hb⟩
                        have HI := Lib.hid (own_weaken hown hW1)
                        have GB := Lib.hid (GB.out.below hb GB.out.lt)
                        have RZ := Lib.hid (RZ.out.below hb RZ.out.lt)
                        have HB2 := Lib.hid (onward HB2.out (Nat.le_refl _) hb)
                        have HOP := Lib.hid (HOP.out.below hb)
                        replace hW1 := Nat.le_trans hW1 hb.size
                        clear hb hown HS HD
                        have HS := GB.out
                        go_wp2_with fail
                        refine hK.out _ _ HS ?_
                        clear hK K
                        try simp only [Act.put, List.setIfInBounds_toArray, List.set_cons_zero, List.set_cons_succ]
                        refine Rg.takeP (i := 12) (oi := { dst := some 70, op := Op.build 52 #[(0, Operand.tmp 60), (1, Operand.tmp 61), (2, Operand.tmp 65), (3, Operand.tmp 67), (4, Operand.tmp 69)], type := 52, pos := "bus.go:35", after := #[{ on := 2, ground := Ground.data }, { on := 3, ground := Ground.data }, { on := 7, ground := Ground.data }, { on := 9, ground := Ground.data }, { on := 11, ground := Ground.data }], guard := none }) (v := ?_) rfl (by kernel_rfl) (fun _ _ _ h => h) (by rfl) ?_ ?_
                        rotate_left 1
                        · (intro w; go_simp; (try with_reducible rfl))
                        try simp only [Act.put, List.setIfInBounds_toArray, List.set_cons_zero, List.set_cons_succ]
                        refine Rg.oneR (i := 13) (oi := { dst := some 71, op := Op.buildSlice 22 1 #[(0, Operand.tmp 70)], type := 22, pos := "bus.go:35", after := #[{ on := 12, ground := Ground.data }], guard := none }) rfl (by kernel_rfl) ?_
                        refine Rg.stepS ?_
                        intro K hK
                        go_simp
                        have hb : Below V1.heap.size V1 (V1.alloc (.cells #[.int .i64 fm, .int .i64 ot, .int .i64 (now + dl), .int .i64 ser, .slice A2 bs.length c2] 52)) := (Below.refl _ _).alloc (Nat.le_refl _) _
                        have HN : Hid (Rd (V1.alloc (.cells #[.int .i64 fm, .int .i64 ot, .int .i64 (now + dl), .int .i64 ser, .slice A2 bs.length c2] 52)) (V1.heap.size + 1) 5 (some ⟨V1.heap.size, 0, none⟩) 1 (parcL ⟨fm, ot, now + dl, ser, bs⟩ A2 c2)) := Lib.hid (rd_five V1 (parcL ⟨fm, ot, now + dl, ser, bs⟩ A2 c2) rfl _)
                        have HI := Lib.hid (Nd.ownsRow_below HI.out hb)
                        have GB := Lib.hid (GB.out.below hb GB.out.lt)
                        have RZ := Lib.hid (RZ.out.below hb RZ.out.lt)
                        have HB2 := Lib.hid (onward HB2.out (Nat.le_refl _) hb)
                        have HOP := Lib.hid (HOP.out.below hb)
                        replace hW1 := Nat.le_trans hW1 hb.size
                        clear hb HS
                        have HS := GB.out
                        generalize (V1.alloc (.cells #[.int .i64 fm, .int .i64 ot, .int .i64 (now + dl), .int .i64 ser, .slice A2 bs.length c2] 52)) = V2 at *
                        generalize V1.heap.size = nb at *
                        refine hK.out _ _ HS ?_
                        clear hK K
                        try simp only [Act.put, List.setIfInBounds_toArray, List.set_cons_zero, List.set_cons_succ]
                        refine Rg.oneR (i := 14) (oi := { dst := some 72, op := Op.call { callee := Callee.builtin Builtin.append, args := #[Operand.tmp 59, Operand.tmp 71], argTypes := #[22, 22] }, type := 22, pos := "bus.go:35", after := #[{ on := 1, ground := Ground.data }, { on := 13, ground := Ground.data }, { on := 11, ground := Ground.chain }], guard := none }) rfl (by kernel_rfl) ?_
                        refine Rg.stepF ?_ ?_
                        · kernel_rfl
                        intro K hK
                        rw [if_pos (by rfl)]
                        obtain ⟨xs, hrow, hxs⟩ := HOP.out
                        refine wp_append_rd _ (.tmp 59) (.tmp 71) 22 rfl (base := W.heap.size) elemParcs rfl hrow rfl (fun h => by cases h) HN.out (by simp [parcL, Value.oneCell']) (by unfold maxLen; omega) (by omega) hW1 ?_
                        intro A4 c4 V3 hA4 hown hgr
                        have HOP := Lib.hid (OwnParcs.snoc (p := ⟨fm, ot, now + dl, ser, bs⟩) hxs hrow HI.out (show bs.length ≤ 140737488351232 by omega) hown hgr)
                        have GB := Lib.hid (GB.out.grown hgr (own_ge hrow (by omega)))
                        have RZ := Lib.hid (RZ.out.grown hgr (own_ge hrow (by omega)))
                        have HB2 := Lib.hid (HB2.out.grown hgr HB2.out.size (fun g e => by have := (hrow.lt g e).1; omega))
                        clear hown hgr hA4 hrow hxs HS
                        have HS := GB.out
                        have y2 := GB.out.cell 2
                        have f2 := GB.out.thaw 2
                        refine hK.out _ _ ?_
                        clear hK K
                        try simp only [Act.put, List.setIfInBounds_toArray, List.set_cons_zero, List.set_cons_succ]
                        refine Rg.takeP (i := 15) (oi := { dst := some 73, op := Op.fieldAddr 24 (Operand.tmp 5) 2, type := 0, pos := "bus.go:35", after := #[{ on := 0, ground := Ground.phase }, { on := 1, ground := Ground.phase }, { on := 2, ground := Ground.phase }, { on := 3, ground := Ground.phase }, { on := 4, ground := Ground.phase }, { on := 5, ground := Ground.phase }, { on := 6, ground := Ground.phase }, { on := 7, ground := Ground.phase }, { on := 8, ground := Ground.phase }, { on := 9, ground := Ground.phase }, { on := 10, ground := Ground.phase }, { on := 11, ground := Ground.phase }, { on := 12, ground := Ground.phase }, { on := 13, ground := Ground.phase }, { on := 14, ground := Ground.phase }], guard := none }) (v := ?_) rfl (by kernel_rfl) (fun _ _ _ h => h) (by rfl) ?_ ?_
                        rotate_left 1
                        · (intro w; go_simp; (try with_reducible rfl))
                        try simp only [Act.put, List.setIfInBounds_toArray, List.set_cons_zero, List.set_cons_succ]
                        refine Rg.oneR (i := 16) (oi := { dst := none, op := Op.store 22 (Operand.tmp 73) (Operand.tmp 72), type := 0, pos := "bus.go:35", after := #[{ on := 15, ground := Ground.data }, { on := 14, ground := Ground.data }, { on := 14, ground := Ground.chain }, { on := 0, ground := Ground.phase }, { on := 1, ground := Ground.phase }, { on := 2, ground := Ground.phase }, { on := 3, ground := Ground.phase }, { on := 4, ground := Ground.phase }, { on := 5, ground := Ground.phase }, { on := 6, ground := Ground.phase }, { on := 7, ground := Ground.phase }, { on := 8, ground := Ground.phase }, { on := 9, ground := Ground.phase }, { on := 10, ground := Ground.phase }, { on := 11, ground := Ground.phase }, { on := 12, ground := Ground.phase }, { on := 13, ground := Ground.phase }, { on := 14, ground := Ground.phase }], guard := none }) rfl (by kernel_rfl) ?_
                        refine Rg.stepF ?_ ?_
                        · kernel_rfl
                        intro K hK
                        go_simp
                        refine hK.out _ _ ?_
                        clear hK K
                        try simp only [Act.put, List.setIfInBounds_toArray, List.set_cons_zero, List.set_cons_succ]
                        refine Rg.doneR (by kernel_rfl) ?_ _
                        refine NoPanic.normal ?_
                        clear HS
                        have GBP := GB
                        have GB : Hid (Blk (V3.setCell ⟨w.heap.size, 2, none⟩ (.slice A4 (qs.length + 1) c4)) w.heap.size 24 #[.int .i64 now, .int .i64 ser, .slice A4 (qs.length + 1) c4]) := Lib.hid (GB.out.set 2 _)
                        have RZ := Lib.hid (RZ.out.other (p := ⟨w.heap.size, 2, none⟩) (by show w.heap.size + 1 ≠ w.heap.size; omega) (.slice A4 (qs.length + 1) c4))
                        have HB2 := Lib.hid (HB2.out.setCell (p := ⟨w.heap.size, 2, none⟩) (by show w.heap.size ≤ w.heap.size; omega) (.slice A4 (qs.length + 1) c4))
                        have HOP := Lib.hid (HOP.out.keep (base' := W.heap.size) fun _ _ _ _ _ h => Vt.own_setCell (g := w.heap.size) (i := 2) h (by omega) (.slice A4 (qs.length + 1) c4))
                        generalize (V3.setCell ⟨w.heap.size, 2, none⟩ (.slice A4 (qs.length + 1) c4)) = w5 at *
                        have y1 := GB.out.cell 1
                        have f1 := GB.out.thaw 1
                        simp only [List.getElem?_toArray, List.getElem?_cons_zero, List.getElem?_cons_succ] at y1
                        clear y2 f2 GBP
                        go_upto_region 10 with fail
                        have GBP := GB
                        have GB : Hid (Blk (w5.setCell ⟨w.heap.size, 1, none⟩ (.int .i64 s1)) w.heap.size 24 #[.int .i64 now, .int .i64 s1, .slice A4 (qs.length + 1) c4]) := Lib.hid (GB.out.set 1 _)
                        have RZ := Lib.hid (RZ.out.other (p := ⟨w.heap.size, 1, none⟩) (by show w.heap.size + 1 ≠ w.heap.size; omega) (.int .i64 s1))
                        have HB2 := Lib.hid (HB2.out.setCell (p := ⟨w.heap.size, 1, none⟩) (by show w.heap.size ≤ w.heap.size; omega) (.int .i64 s1))
                        have HOP := Lib.hid (HOP.out.keep (base' := W.heap.size) fun _ _ _ _ _ h => Vt.own_setCell (g := w.heap.size) (i := 1) h (by omega) (.int .i64 s1))
                        generalize (w5.setCell ⟨w.heap.size, 1, none⟩ (.int .i64 s1)) = w6 at *
                        go_wp2_with (first | (refine wpList_whole rfl 24 _ rfl w.heap.size rfl GB.out _ Try.underlying24 rfl (by kernel_rfl) ?_) | (refine wpList_store_row rfl 24 _ _ rfl (w.heap.size + 1) #[.int .i64 now, .int .i64 s1, .slice A4 (qs.length + 1) c4] rfl rfl 24 _ RZ.out (by kernel_rfl) rfl (by simp [Value.oneCell']) ?_))
                        refine ret_row2 (x := .int .i64 0) rfl rfl rfl (RZ.out.setRow #[.int .i64 now, .int .i64 s1, .slice A4 (qs.length + 1) c4]) ⟨by rw [Try.underlying24], by kernel_rfl⟩ rfl ?_
                        rw [HSR.out, HS1.out]
                        have hfin := (HOP.out.keep (base' := W.heap.size) fun _ _ _ _ _ h => own_setRow h (show w.heap.size + 1 < W.heap.size by omega) #[.int .i64 now, .int .i64 s1, .slice A4 (qs.length + 1) c4]).at
                        exact ⟨A4, c4, by simp, hfin.1, below_setRow HB2.out (by omega) _⟩
end Go.Proofs.Ytlcpackmoolngaa.Bu
