/- Contract: mat.Factor. -/
import Derived.Test.YtejefecglioifaaLess
import Derived.Test.YtejefecglioifaaOwnCap
namespace Go.Proofs.Ytejefecglioifaa.Mem
section
variable {P : Program}
theorem results_cell_tmp3 {fn : Func} {p u v x : Tmp} {ty : TypeId} (h : fn.results = #[.cell p ty, .tmp u, .tmp v, .tmp x]) (tmps : Array Value) (w : World) {g : Nat} {t : TypeId} {cs : Array Value}
    (hp : tmps.getD p undef = .pointer (some ⟨g, 0, none⟩)) (hg : Blk w g t cs) (hr : isRow P ty cs) :
    (results fn tmps).run P w = .ok (.tuple #[.agg cs, tmps.getD u undef, tmps.getD v undef, tmps.getD x undef]) w := by
  have hp' : tmps[p]?.getD undef = .pointer (some ⟨g, 0, none⟩) := by simpa using hp
  simp [results, h, hp', asAddr, load_cell hg hr]
theorem ret_row4 {fn : Func} {R : Ending → World → Prop} {a : Act} {w : World} {p u v q : Tmp} {ty : TypeId} (h : fn.results = #[.cell p ty, .tmp u, .tmp v, .tmp q]) {g : Nat} {t : TypeId} {cs : Array Value} {x y z : Value}
    (hp : a.tmps.getD p undef = .pointer (some ⟨g, 0, none⟩)) (hx : a.tmps.getD u undef = x) (hy : a.tmps.getD v undef = y) (hz : a.tmps.getD q undef = z) (hg : Blk w g t cs) (hr : isRow P ty cs) (hdf : a.defers = []) (hR : R (.returned (.tuple #[.agg cs, x, y, z])) w) : bodyPost P fn R .ret a w :=
  bodyPost_ret (results_cell_tmp3 h a.tmps w hp hg hr) hdf (by rw [hx, hy, hz]; exact hR)
end
end Go.Proofs.Ytejefecglioifaa.Mem
namespace Go.Proofs.Ytejefecglioifaa.BigW
open Go.RowKit Go.Proofs.Ytejefecglioifaa.Mem Go.Proofs.Ytejefecglioifaa.BigLaw Go.Proofs.Ytejefecglioifaa.Rws Go.Proofs.Ytejefecglioifaa.Ints Go.Proofs.Ytejefecglioifaa.Mats
set_option linter.unusedVariables false
set_option linter.unusedSimpArgs false

theorem own_row_below {w : World} {base : Nat} {e : TypeId} {size : Nat} {v : Value} {n : Nat} {xs : List Value} (h : w.ownsRow base e size v n xs) {g : Nat} (hg : g < base) (R : Array Value) : (w.setRow g R).ownsRow base e size v n xs := by
  obtain ⟨hl, h | ⟨b, cap, cur, hv, hb, hh, hr⟩⟩ := h
  · exact ⟨hl, .inl h⟩
  · exact ⟨hl, .inr ⟨b, cap, cur, hv, hb, (setRow_other w g b R (by omega)).trans hh, hr⟩⟩
theorem upd_range {L : Nat → Nat → Int} (h : ∀ a b, In64 (L a b)) (i j : Nat) {v : Int} (hv : In64 v) : ∀ a b, In64 (upd L i j v a b) := fun a b => by
  unfold upd
  split
  · exact hv
  · exact h a b
theorem rowsF_range (N j : Nat) (zs : List Int) (x : Int) (d : Nat → Int) {L : Nat → Nat → Int} (h : ∀ a b, In64 (L a b)) : ∀ t a b, In64 ((rowsF N j zs x d L t).1 a b)
  | 0 => h
  | t + 1 => upd_range (rowsF_range N j zs x d h t) _ _ (fdiv_range _ _)
theorem getD_snoc1 (l : List Int) (x : Int) (j : Nat) : (l ++ [x]).getD j 0 = if j = l.length then x else l.getD j 0 := by
  rw [List.getD_eq_getElem?_getD, List.getD_eq_getElem?_getD]
  by_cases h : j = l.length
  · subst h; rw [if_pos rfl]; simp
  · rw [if_neg h]
    rcases Nat.lt_or_ge j l.length with h1 | h1
    · rw [List.getElem?_append_left h1]
    · rw [List.getElem?_eq_none (by simp; omega), List.getElem?_eq_none h1]
theorem in_one : In64 4294967296 := by unfold In64; omega
theorem in_nought : In64 0 := by unfold In64; omega
/-- what holds of j columns -/
def FacOk (j : Nat) (L : Nat → Nat → Int) (D : List Int) : Prop := D.length = j ∧ (∀ a b, In64 (L a b)) ∧ ∀ k, In64 (D.getD k 0)
theorem facF_ok {N : Nat} {zs : List Int} (hz : ∀ k, In64 (zs.getD k 0)) : ∀ {j : Nat} {L : Nat → Nat → Int} {D : List Int} {b : Bool}, facF N zs j = some (L, D, b) → FacOk j L D
  | 0, L, D, b, h => by
    injection h with h
    injection h with h1 h2
    injection h2 with h2 h3
    subst h1 h2
    exact ⟨rfl, fun _ _ => in_nought, fun k => by simpa using in_nought⟩
  | j + 1, L, D, b, h => by
    cases h0 : facF N zs j with
    | none => have := facF_none h0 1; rw [this] at h; cases h
    | some v =>
      obtain ⟨L0, D0, b0⟩ := v
      obtain ⟨o1, o2, o3⟩ := facF_ok hz h0
      rw [facF_succ h0] at h
      split at h
      · cases h
      · injection h with h
        injection h with h1 h2
        injection h2 with h2 h3
        subst h1 h2
        refine ⟨by simp [o1], rowsF_range _ _ _ _ _ (upd_range o2 _ _ in_one) _, fun k => ?_⟩
        rw [getD_snoc1]
        split
        · exact lessF_range _ _ _ (hz _) _
        · exact o3 k
/-- a matrix, a list, a Bool and an error handed back -/
def GaveFac (w w' : World) (N : Int) (l d : List Int) (b : Bool) (x : Int) (e : Ending) : Prop :=
  ∃ A c A' c', e = .returned (.tuple #[.agg #[.int .i64 N, .slice A l.length c], .slice A' d.length c', .bool b, .int .i64 x]) ∧ Rd w' w'.heap.size 1 A l.length (intsV l) ∧ Rd w' w'.heap.size 1 A' d.length (intsV d) ∧ (∀ a, A = some a → w.heap.size ≤ a.block) ∧ Below w.heap.size w w'
/-- what Factor answers for a matrix that is one -/
def facA (N : Nat) (zs : List Int) : (Int × List Int) × (List Int × Bool) × Int :=
  match facF N zs N with
  | none => ((0, []), ([], false), 9)
  | some (L, D, b) => ((N, flatL N (N * N) L), (D, b), 0)

/-- mat.Factor's blocks -/
structure FacAt (w wr : World) (N m : Nat) (MA WM : Array Value) (gs ga gk gt : Nat) (L : Nat → Nat → Int) (b : Bool) : Prop where
  row : Blk wr ga 3 (rowF .i64 m fun q => L (q / N) (q % N))
  bent : Bn wr gk b
  work : Blk wr gt 47 WM
  left : Blk wr w.heap.size 24 MA
  res : Blk wr gs 24 #[.int .i64 0, .slice none 0 0]
  bel : Below w.heap.size w wr

set_option maxRecDepth 100000 in
set_option maxHeartbeats 4000000 in
theorem factor_yes (N : Nat) (A : Option Addr) (c : Nat) (zs : List Int) (w : World) (hN : 1 ≤ N) (h6 : N ≤ 6) (hl : zs.length = N * N) (hr : Rd w w.heap.size 1 A zs.length (intsV zs)) (hz : ∀ k, In64 (zs.getD k 0)) :
    Calls Try.prog 8 #[matV (N : Int) A zs.length c] w fun e w' => GaveFac w w' (facA N zs).1.1 (facA N zs).1.2 (facA N zs).2.1.1 (facA N zs).2.1.2 (facA N zs).2.2 e := by
  have HR := Lib.hid hr
  have HZ := Lib.hid hz
  have HN := Lib.hid hN
  have HL := Lib.hid hl
  have HGD := Lib.hid (show good (N : Int) zs.length = true from by
    unfold good
    rw [decide_eq_true (show (1 : Int) ≤ N by omega), decide_eq_true (show (N : Int) ≤ 6 by omega), decide_eq_true (by rw [hl]; push_cast; rfl)]
    rfl)
  have h36 := Lib.hid (sq_36 h6)
  clear hr hz hl
  unfold matV
  have HM := Lib.hid (show Blk ((w.alloc (.cells #[.int .i64 (N : Int), .slice A zs.length c] 24)).alloc (.cells #[.int .i64 0, .slice none 0 0] 24)) w.heap.size 24 #[.int .i64 (N : Int), .slice A zs.length c] from (Blk.new rfl).alloc _)
  have HRS := Lib.hid (show Blk ((w.alloc (.cells #[.int .i64 (N : Int), .slice A zs.length c] 24)).alloc (.cells #[.int .i64 0, .slice none 0 0] 24)) (w.heap.size + 1) 24 #[.int .i64 0, .slice none 0 0] from Blk.new (by simp))
  have HB := Lib.hid (show Below w.heap.size w ((w.alloc (.cells #[.int .i64 (N : Int), .slice A zs.length c] 24)).alloc (.cells #[.int .i64 0, .slice none 0 0] 24)) from ((Below.refl _ _).alloc (Nat.le_refl _) _).alloc (by simp) _)
  go_enter Try.func8, Try.ntmps8
  go_upto_region 1 with fail
  generalize ((w.alloc (.cells #[.int .i64 (N : Int), .slice A zs.length c] 24)).alloc (.cells #[.int .i64 0, .slice none 0 0] 24)) = w1 at *
  obtain ⟨gs, hgs⟩ : ∃ g, w.heap.size + 1 = g := ⟨_, rfl⟩
  rw [hgs] at HRS ⊢
  go_wp2_with (refine wpList_whole rfl 24 _ rfl w.heap.size rfl HM.out _ Try.underlying24 rfl (by kernel_rfl) ?_)
  refine (good_any (N : Int) A zs.length c w1).mono ?_
  rintro e w2 ⟨rfl, hb⟩
  rw [HGD.out]
  have HM := Lib.hid (HM.out.below hb HM.out.lt)
  have HRS := Lib.hid (HRS.out.below hb HRS.out.lt)
  have HB := Lib.hid (onward HB.out (Nat.le_refl _) hb)
  have k0 : w2.cell? ⟨w.heap.size, 0, none⟩ = some (.int .i64 (N : Int)) := (HM.out.cell 0).trans rfl
  clear hb
  go_wp2_with fail
  obtain ⟨m, hm⟩ : ∃ m, N * N = m := ⟨_, rfl⟩
  have HMM := Lib.hid hm
  rw [hm] at h36 HL
  clear hm
  refine (fresh_any N m HMM.out h36.out w2).mono ?_
  rintro e w4 ⟨ga, gk, rfl, hga, hgk, hgt0, hrow, hbent, hb⟩
  have hrl : gs < w2.heap.size := HRS.out.lt
  have HM := Lib.hid (HM.out.below hb HM.out.lt)
  have HRS := Lib.hid (HRS.out.below hb HRS.out.lt)
  have HB := Lib.hid (onward HB.out (Nat.le_refl _) hb)
  have HROW := Lib.hid hrow
  have HBE := Lib.hid (show Bn w4 gk false from hbent)
  clear hb hrow hbent k0
  unfold workC
  go_upto_region 4 with fail
  have HAT := Lib.hid (FacAt.mk (w := w) (wr := (w4.alloc (.cells #[.int .i64 (N : Int), .slice (some ⟨ga, 0, none⟩) m m, .pointer (some ⟨gk, 0, none⟩)] 47))) (N := N) (m := m) (L := fun _ _ => 0) (b := false) (by exact HROW.out.alloc _) (Blk.alloc HBE.out _) (Blk.fresh _ _ _) (HM.out.alloc _) (HRS.out.alloc _) (HB.out.alloc HB.out.size _))
  clear HROW HBE HM HRS HB
  generalize (w4.alloc (.cells #[.int .i64 (N : Int), .slice (some ⟨ga, 0, none⟩) m m, .pointer (some ⟨gk, 0, none⟩)] 47)) = w5 at *
  obtain ⟨gt, hgt⟩ : ∃ g, w4.heap.size = g := ⟨_, rfl⟩
  rw [hgt] at HAT hgt0 ⊢
  clear hgt
  have k0 : w5.cell? ⟨w.heap.size, 0, none⟩ = some (.int .i64 (N : Int)) := (HAT.out.left.cell 0).trans rfl
  go_wp2_with fail
  clear k0
  go_loopw [7, 21] (fun d jv wr => ∃ (J : Nat) (A7 : Option Addr) (c7 : Nat) (L : Nat → Nat → Int) (D : List Int) (b : Bool), J ≤ N ∧ jv = .int .i64 J ∧ d = .slice A7 D.length c7 ∧ Hid (facF N zs J = some (L, D, b)) ∧ wr.ownsRow (gt + 1) 3 1 (.slice A7 D.length c7) D.length (intsV D) ∧ FacAt w wr N m #[.int .i64 (N : Int), .slice A zs.length c] #[.int .i64 (N : Int), .slice (some ⟨ga, 0, none⟩) m m, .pointer (some ⟨gk, 0, none⟩)] gs ga gk gt L b) (fun _ jv _ => N - (intOf jv).toNat)
  case atStart => exact ⟨0, none, 0, fun _ _ => 0, [], false, by omega, rfl, rfl, Lib.hid rfl, World.ownsRow_nil _ _ _ _, HAT.out⟩
  case round =>
    clear HAT
    obtain ⟨J, A7, c7, L, D, b, hJ, rfl, rfl, HF, ho, hat⟩ := hrel
    have HO := Lib.hid ho
    have HK := Lib.hid hat.bent
    have HROW := Lib.hid hat.row
    have HWK := Lib.hid hat.work
    have HM := Lib.hid hat.left
    have HRS := Lib.hid hat.res
    have HB := Lib.hid hat.bel
    clear ho hat
    obtain ⟨hDl, hL, hDr⟩ := facF_ok HZ.out HF.out
    have HDL := Lib.hid hDl
    have HLR := Lib.hid hL
    have HDR := Lib.hid hDr
    clear hDl hL hDr
    have hD7 : D.length ≤ 6 := by have := HDL.out; omega
    by_cases hlt : J < N
    · have HFS := Lib.hid (facF_succ HF.out)
      have hJJ : J * N + J < zs.length := by rw [HL.out, ← HMM.out]; exact sq_idx hlt hlt
      obtain ⟨ba, oa, u, rfl, hbA, hu, hca⟩ := (HR.out.below HB.out).at hJJ
      rw [intsV_at zs _ hJJ] at hu
      injection hu with hu
      subst hu
      rw [← getD_of hJJ] at hca
      have r_a := Lib.hid (HZ.out (J * N + J))
      have HDG := Lib.hid (show diagF N J zs (fun k => D.getD k 0) L = lessF (L J) (L J) (fun k => D.getD k 0) (zs.getD (J * N + J) 0) J from rfl)
      obtain ⟨a, ha⟩ : ∃ a, zs.getD (J * N + J) 0 = a := ⟨_, rfl⟩
      rw [ha] at r_a hca HDG
      clear ha
      obtain ⟨⟨x, xb⟩, hx⟩ : ∃ r, diagF N J zs (fun k => D.getD k 0) L = r := ⟨_, rfl⟩
      rw [hx] at HDG HFS
      simp only at HFS
      have r_x := Lib.hid (show In64 x from by have h := lessF_range (L J) (L J) (fun k => D.getD k 0) r_a.out J; rw [← HDG.out] at h; exact h)
      clear hx
      obtain ⟨qi, hqi⟩ : ∃ q, J * N = q := ⟨_, rfl⟩
      have hqi1 : (J : Int) * (N : Int) = (qi : Int) := by rw [← hqi]; push_cast; rfl
      rw [hqi] at hJJ hca
      have HQI := Lib.hid hqi
      clear hqi
      have hz36 : (zs.length : Int) ≤ 36 := by have := HL.out; have := h36.out; omega
      have h1 : (qi : Int) + (J : Int) < (zs.length : Int) := by omega
      have t1 : ((qi : Int) + (J : Int)).toNat = qi + J := by omega
      have w1 : IntKind.i64.wrap (qi : Int) = (qi : Int) := IntWalk.i64_in _ (by omega)
      have w3 : IntKind.i64.wrap ((qi : Int) + (J : Int)) = (qi : Int) + (J : Int) := IntWalk.i64_in _ (by omega)
      have p1 : (0 : Int) ≤ (qi : Int) + (J : Int) := by omega
      have hlt1 : (J : Int) < (N : Int) := by omega
      have HCA := Lib.hid hca
      have HBA := Lib.hid hbA
      clear hca hbA
      go_upto_region 8 with fail
      have HK := Lib.hid (Blk.drew HK.out)
      have HWK := Lib.hid HWK.out.drew
      have HM := Lib.hid HM.out.drew
      have HRS := Lib.hid HRS.out.drew
      have HROW := Lib.hid HROW.out.drew
      have HO := Lib.hid HO.out.drew
      have HB := Lib.hid HB.out.drew
      have HCA : Hid (wr.drew.cell? ⟨ba, oa + (qi + J), none⟩ = some (.int .i64 a)) := Lib.hid HCA.out
      have HS := And.intro HWK.out (And.intro ((HM.out.cell 0).trans rfl) (And.intro ((HM.out.cell 1).trans rfl) HCA.out))
      refine wp_region_noPanic ?_
      refine Rg.beginR [0, 2, 5, 10] (fun w' => Blk w' gt 47 #[.int .i64 (N : Int), .slice (some ⟨ga, 0, none⟩) m m, .pointer (some ⟨gk, 0, none⟩)] ∧ w'.cell? ⟨w.heap.size, 0, none⟩ = some (.int .i64 (N : Int)) ∧ w'.cell? ⟨w.heap.size, 1, none⟩ = some (.slice (some ⟨ba, oa, none⟩) zs.length c) ∧ w'.cell? ⟨ba, oa + (qi + J), none⟩ = some (.int .i64 a)) (by kernel_rfl) ?_
      generalize wr.drew = w1' at *
      refine Rg.takeS (i := 0) (oi := { dst := some 24, op := Op.load 47 (Operand.tmp 6), type := 47, pos := "mat.go:100", after := #[], guard := none }) (v := .agg #[.int .i64 (N : Int), .slice (some ⟨ga, 0, none⟩) m m, .pointer (some ⟨gk, 0, none⟩)]) rfl (by kernel_rfl) (fun _ _ _ h => h) (by rfl) HS ?_ ?_
      · (intro w' hSw; exact exec_load_st 47 (.tmp 6) rfl gt rfl hSw.1 Try.underlying47 rfl (by kernel_rfl))
      try simp only [Act.put, List.setIfInBounds_toArray, List.set_cons_zero, List.set_cons_succ]
      refine Rg.takeP (i := 1) (oi := { dst := some 25, op := Op.fieldAddr 24 (Operand.tmp 1) 1, type := 0, pos := "mat.go:100", after := #[], guard := none }) (v := ?_) rfl (by kernel_rfl) (fun _ _ _ h => h) (by rfl) ?_ ?_
      rotate_left 1
      · (intro w; go_simp; (try with_reducible rfl))
      try simp only [Act.put, List.setIfInBounds_toArray, List.set_cons_zero, List.set_cons_succ]
      refine Rg.takeS (i := 2) (oi := { dst := some 26, op := Op.load 22 (Operand.tmp 25), type := 22, pos := "mat.go:100", after := #[{ on := 1, ground := Ground.data }], guard := none }) (v := ?_) rfl (by kernel_rfl) (fun _ _ _ h => h) (by rfl) HS ?_ ?_
      rotate_left 1
      · (intro w hSw; (try dsimp only at hSw); (try go_split_ands); go_simp; (try with_reducible rfl))
      try simp only [Act.put, List.setIfInBounds_toArray, List.set_cons_zero, List.set_cons_succ]
      refine Rg.takeP (i := 3) (oi := { dst := some 27, op := Op.move (Operand.tmp 8), type := 3, pos := "mat.go:100", after := #[], guard := none }) (v := ?_) rfl (by kernel_rfl) (fun _ _ _ h => h) (by rfl) ?_ ?_
      rotate_left 1
      · (intro w; go_simp; (try with_reducible rfl))
      try simp only [Act.put, List.setIfInBounds_toArray, List.set_cons_zero, List.set_cons_succ]
      refine Rg.takeP (i := 4) (oi := { dst := some 28, op := Op.fieldAddr 24 (Operand.tmp 1) 0, type := 0, pos := "mat.go:100", after := #[], guard := none }) (v := ?_) rfl (by kernel_rfl) (fun _ _ _ h => h) (by rfl) ?_ ?_
      rotate_left 1
      · (intro w; go_simp; (try with_reducible rfl))
      try simp only [Act.put, List.setIfInBounds_toArray, List.set_cons_zero, List.set_cons_succ]
      refine Rg.takeS (i := 5) (oi := { dst := some 29, op := Op.load 3 (Operand.tmp 28), type := 3, pos := "mat.go:100", after := #[{ on := 4, ground := Ground.data }], guard := none }) (v := ?_) rfl (by kernel_rfl) (fun _ _ _ h => h) (by rfl) HS ?_ ?_
      rotate_left 1
      · (intro w hSw; (try dsimp only at hSw); (try go_split_ands); go_simp; (try with_reducible rfl))
      try simp only [Act.put, List.setIfInBounds_toArray, List.set_cons_zero, List.set_cons_succ]
      refine Rg.takeP (i := 6) (oi := { dst := some 30, op := Op.binOp BinOp.mul 3 (Operand.tmp 27) (Operand.tmp 29) 3, type := 3, pos := "mat.go:100", after := #[{ on := 3, ground := Ground.data }, { on := 5, ground := Ground.data }], guard := none }) (v := ?_) rfl (by kernel_rfl) (fun _ _ _ h => h) (by rfl) ?_ ?_
      rotate_left 1
      · (intro w; go_simp; (try simp only [hqi1, w1, w3, t1, if_pos (And.intro p1 h1)]); (try with_reducible rfl))
      try simp only [Act.put, List.setIfInBounds_toArray, List.set_cons_zero, List.set_cons_succ]
      refine Rg.takeP (i := 7) (oi := { dst := some 31, op := Op.move (Operand.tmp 8), type := 3, pos := "mat.go:100", after := #[], guard := none }) (v := ?_) rfl (by kernel_rfl) (fun _ _ _ h => h) (by rfl) ?_ ?_
      rotate_left 1
      · (intro w; go_simp; (try with_reducible rfl))
      try simp only [Act.put, List.setIfInBounds_toArray, List.set_cons_zero, List.set_cons_succ]
      refine Rg.takeP (i := 8) (oi := { dst := some 32, op := Op.binOp BinOp.add 3 (Operand.tmp 30) (Operand.tmp 31) 3, type := 3, pos := "mat.go:100", after := #[{ on := 6, ground := Ground.data }, { on := 7, ground := Ground.data }], guard := none }) (v := ?_) rfl (by kernel_rfl) (fun _ _ _ h => h) (by rfl) ?_ ?_
      rotate_left 1
      · (intro w; go_simp; (try simp only [hqi1, w1, w3, t1, if_pos (And.intro p1 h1)]); (try with_reducible rfl))
      try simp only [Act.put, List.setIfInBounds_toArray, List.set_cons_zero, List.set_cons_succ]
      refine Rg.takeP (i := 9) (oi := { dst := some 33, op := Op.indexAddr 22 (Operand.tmp 26) (Operand.tmp 32), type := 0, pos := "mat.go:100", after := #[{ on := 2, ground := Ground.data }, { on := 8, ground := Ground.data }], guard := none }) (v := ?_) rfl (by kernel_rfl) (fun _ _ _ h => h) (by rfl) ?_ ?_
      rotate_left 1
      · (intro w; go_simp; (try simp only [hqi1, w1, w3, t1, if_pos (And.intro p1 h1)]); (try with_reducible rfl))
      try simp only [Act.put, List.setIfInBounds_toArray, List.set_cons_zero, List.set_cons_succ]
      refine Rg.takeS (i := 10) (oi := { dst := some 34, op := Op.load 3 (Operand.tmp 33), type := 3, pos := "mat.go:100", after := #[{ on := 9, ground := Ground.data }], guard := none }) (v := ?_) rfl (by kernel_rfl) (fun _ _ _ h => h) (by rfl) HS ?_ ?_
      rotate_left 1
      · (intro w hSw; (try dsimp only at hSw); (try go_split_ands); go_simp; (try with_reducible rfl))
      try simp only [Act.put, List.setIfInBounds_toArray, List.set_cons_zero, List.set_cons_succ]
      refine Rg.takeP (i := 11) (oi := { dst := some 35, op := Op.move (Operand.tmp 8), type := 3, pos := "mat.go:100", after := #[], guard := none }) (v := ?_) rfl (by kernel_rfl) (fun _ _ _ h => h) (by rfl) ?_ ?_
      rotate_left 1
      · (intro w; go_simp; (try with_reducible rfl))
      try simp only [Act.put, List.setIfInBounds_toArray, List.set_cons_zero, List.set_cons_succ]
      refine Rg.takeP (i := 12) (oi := { dst := some 36, op := Op.move (Operand.tmp 8), type := 3, pos := "mat.go:100", after := #[], guard := none }) (v := ?_) rfl (by kernel_rfl) (fun _ _ _ h => h) (by rfl) ?_ ?_
      rotate_left 1
      · (intro w; go_simp; (try with_reducible rfl))
      try simp only [Act.put, List.setIfInBounds_toArray, List.set_cons_zero, List.set_cons_succ]
      refine Rg.takeP (i := 13) (oi := { dst := some 37, op := Op.move (Operand.tmp 7), type := 22, pos := "mat.go:100", after := #[], guard := none }) (v := ?_) rfl (by kernel_rfl) (fun _ _ _ h => h) (by rfl) ?_ ?_
      rotate_left 1
      · (intro w; go_simp; (try with_reducible rfl))
      try simp only [Act.put, List.setIfInBounds_toArray, List.set_cons_zero, List.set_cons_succ]
      refine Rg.takeP (i := 14) (oi := { dst := some 38, op := Op.move (Operand.tmp 8), type := 3, pos := "mat.go:100", after := #[], guard := none }) (v := ?_) rfl (by kernel_rfl) (fun _ _ _ h => h) (by rfl) ?_ ?_
      rotate_left 1
      · (intro w; go_simp; (try with_reducible rfl))
      try simp only [Act.put, List.setIfInBounds_toArray, List.set_cons_zero, List.set_cons_succ]
      refine Rg.oneR (i := 15) (oi := { dst := some 39, op := Op.call { callee := Callee.value (Operand.func 24), args := #[Operand.tmp 24, Operand.tmp 34, Operand.tmp 35, Operand.tmp 36, Operand.tmp 37, Operand.tmp 38], argTypes := #[47, 3, 3, 3, 22, 3] }, type := 3, pos := "mat.go:100", after := #[{ on := 0, ground := Ground.data }, { on := 10, ground := Ground.data }, { on := 11, ground := Ground.data }, { on := 12, ground := Ground.data }, { on := 13, ground := Ground.data }, { on := 14, ground := Ground.data }], guard := none }) rfl (by kernel_rfl) ?_
      refine Rg.stepF ?_ ?_
      · kernel_rfl
      intro K hK
      rw [if_pos (by rfl)]
      go_simp
      go_at_call 24
      refine (less_any N m J J J a ga gk L A7 c7 D b _ HMM.out h36.out hlt hlt hJ (by have := HDL.out; omega) HROW.out HK.out (Rd.of_own HO.out) (fun _ b o e => by have h := own_lo HO.out _ e; simp only at h; omega) (by omega) r_a.out HLR.out HDR.out).mono ?_
      rw [← HDG.out]
      rintro e w2' ⟨rfl, hst, hg⟩
      dsimp only at hst ⊢
      have HK := Lib.hid hst
      have HWK := Lib.hid (HWK.out.grown hg (neq_of (by omega)))
      have HM := Lib.hid (HM.out.grown hg (neq_of (by omega)))
      have HRS := Lib.hid (HRS.out.grown hg (neq_of (by omega)))
      have HROW := Lib.hid (HROW.out.grown hg (neq_of (by omega)))
      have HO := Lib.hid (own_keep HO.out hg (by omega))
      have HB := Lib.hid (below_grown HB.out (Nat.le_refl _) hg (fun g e => by injection e with e; omega))
      clear hst hg HS
      go_wp2_with fail
      refine hK.out _ _ ?_
      clear hK K
      try simp only [Act.put, List.setIfInBounds_toArray, List.set_cons_zero, List.set_cons_succ]
      refine Rg.takeP (i := 16) (oi := { dst := some 9, op := Op.assign (Operand.tmp 39), type := 3, pos := "mat.go:100", after := #[{ on := 15, ground := Ground.data }, { on := 15, ground := Ground.chain }, { on := 0, ground := Ground.phase }, { on := 1, ground := Ground.phase }, { on := 2, ground := Ground.phase }, { on := 3, ground := Ground.phase }, { on := 4, ground := Ground.phase }, { on := 5, ground := Ground.phase }, { on := 6, ground := Ground.phase }, { on := 7, ground := Ground.phase }, { on := 8, ground := Ground.phase }, { on := 9, ground := Ground.phase }, { on := 10, ground := Ground.phase }, { on := 11, ground := Ground.phase }, { on := 12, ground := Ground.phase }, { on := 13, ground := Ground.phase }, { on := 14, ground := Ground.phase }, { on := 15, ground := Ground.phase }], guard := none }) (v := ?_) rfl (by kernel_rfl) (fun _ _ _ h => h) (by rfl) ?_ ?_
      rotate_left 1
      · (intro w; go_simp; (try with_reducible rfl))
      try simp only [Act.put, List.setIfInBounds_toArray, List.set_cons_zero, List.set_cons_succ]
      refine Rg.doneR (by kernel_rfl) ?_ _
      refine NoPanic.normal ?_
      clear hqi1 h1 t1 w1 w3 p1 hJJ
      by_cases hx0 : x ≤ 0
      · rw [if_pos hx0] at HFS
        have HFN := Lib.hid (show facF N zs N = none from by have h := facF_none HFS.out (N - (J + 1)); rw [show J + 1 + (N - (J + 1)) = N by omega] at h; exact h)
        go_wp2_with (refine wpList_store_row rfl 24 _ _ rfl gs #[.int .i64 0, .slice none 0 0] rfl rfl 24 _ HRS.out (by kernel_rfl) rfl (by simp [Value.oneCell']) ?_)
        refine ret_row4 (x := .slice none 0 0) (y := .bool false) (z := .int .i64 9) rfl rfl rfl rfl rfl (HRS.out.setRow #[.int .i64 0, .slice none 0 0]) ⟨by rw [Try.underlying24], by kernel_rfl⟩ rfl ?_
        unfold facA
        rw [HFN.out]
        exact ⟨none, 0, none, 0, rfl, Rd.nil _ _ _ _, Rd.nil _ _ _ _, (fun a e => by cases e), below_setRow HB.out (by omega) _⟩
      · rw [if_neg hx0] at HFS
        have hx1 : 0 < x := by omega
        have HRSG := Lib.hid (rd_single w2' (.int .i64 x) 3)
        have hgs2 : gt < w2'.heap.size := HWK.out.lt
        go_upto_region 12 with (at_builtin; go_loud (refine wpList_append_rd _ rfl (.tmp 43) (.tmp 45) 22 rfl Go.Proofs.Ytejefecglioifaa.Ints.elemInts rfl (HO.out.alloc _) rfl (by simp) HRSG.out (by simp [Value.oneCell']) (by unfold maxLen; omega) (by omega) (by simp; omega) ?_); intro A2 c2 w3' hA2 hown2 hg2; have HO2 := Lib.hid hown2; have HG2 := Lib.hid hg2; clear hA2 hown2 hg2)
        rw [intsV_snoc] at HO2
        have HK := Lib.hid (Blk.grown (Blk.alloc HK.out _) HG2.out (own_apart HO.out (by omega)))
        have HROW := Lib.hid ((HROW.out.alloc _).grown HG2.out (own_apart HO.out (by omega)))
        have HWK := Lib.hid ((HWK.out.alloc _).grown HG2.out (own_apart HO.out (by omega)))
        have HM := Lib.hid ((HM.out.alloc _).grown HG2.out (own_apart HO.out (by omega)))
        have HRS := Lib.hid ((HRS.out.alloc _).grown HG2.out (own_apart HO.out (by omega)))
        have HB := Lib.hid (below_grown (HB.out.alloc HB.out.size _) (by have := HB.out.size; simp) HG2.out (fun g e => by have := (HO.out.lt g e).1; omega))
        clear HRSG HO HG2
        have HDS := Lib.hid (show (D ++ [x]).length = D.length + 1 from by simp)
        rw [← HDS.out] at HO2
        have HDP := Lib.hid (show ∀ k, k < J → (D ++ [x]).getD k 0 = D.getD k 0 from fun k hk => by rw [getD_snoc1, if_neg (by have := HDL.out; omega)])
        have HDR2 := Lib.hid (show ∀ k, In64 ((D ++ [x]).getD k 0) from fun k => by rw [getD_snoc1]; split; exact r_x.out; exact HDR.out k)
        obtain ⟨D', hD'⟩ : ∃ D', D ++ [x] = D' := ⟨_, rfl⟩
        rw [hD'] at HDS HDP HDR2 HO2 HFS
        clear hD'
        (try rw [← HDS.out])
        go_wp2_with (refine wpList_whole rfl 47 _ rfl gt rfl HWK.out _ Try.underlying47 rfl (by kernel_rfl) ?_)
        refine (put_any N m ga gk J J qi 4294967296 (fun q => L (q / N) (q % N)) HQI.out (by rw [← HQI.out, ← HMM.out]; exact sq_idx hlt hlt) h36.out w3' HROW.out).mono ?_
        rintro e w4' ⟨rfl, hrow, hg⟩
        rw [rowF_congr (g := fun q => upd L J J 4294967296 (q / N) (q % N)) (fun q _ => by rw [← HQI.out]; exact flat_upd (m := m) L 4294967296 hlt q)] at hrow
        have HROW := Lib.hid hrow
        have HK := Lib.hid (Blk.grown HK.out hg (neq_of (by omega)))
        have HWK := Lib.hid (HWK.out.grown hg (neq_of (by omega)))
        have HM := Lib.hid (HM.out.grown hg (neq_of (by omega)))
        have HRS := Lib.hid (HRS.out.grown hg (neq_of (by omega)))
        have HO := Lib.hid (own_keep HO2.out hg (by omega))
        have HB := Lib.hid (below_grown HB.out (Nat.le_refl _) hg (fun g e => by injection e with e; omega))
        clear hrow hg HO2
        have HL1 := Lib.hid (upd_range HLR.out J J in_one)
        generalize upd L J J 4294967296 = L1 at *
        go_wp2_with fail
        go_loopw [10] (fun iv wr => ∃ t : Nat, t ≤ N - 1 - J ∧ iv = .int .i64 ((J + 1 + t : Nat) : Int) ∧ wr.ownsRow (gt + 1) 3 1 (.slice A2 D'.length c2) D'.length (intsV D') ∧ FacAt w wr N m #[.int .i64 (N : Int), .slice (some ⟨ba, oa, none⟩) zs.length c] #[.int .i64 (N : Int), .slice (some ⟨ga, 0, none⟩) m m, .pointer (some ⟨gk, 0, none⟩)] gs ga gk gt (rowsF N J zs x (fun k => D.getD k 0) L1 t).1 (b || xb || (rowsF N J zs x (fun k => D.getD k 0) L1 t).2)) (fun iv _ => N - (intOf iv).toNat)
        case atStart => exact ⟨0, by omega, by go_num, HO.out, HROW.out, by simp only [rowsF, Bool.or_false]; exact HK.out, HWK.out, HM.out, HRS.out, HB.out⟩
        case round =>
          clear HK HROW HWK HM HRS HB HO
          obtain ⟨t, ht, rfl, ho, hat⟩ := hrel
          have HO := Lib.hid ho
          have HK := Lib.hid hat.bent
          have HROW := Lib.hid hat.row
          have HWK := Lib.hid hat.work
          have HM := Lib.hid hat.left
          have HRS := Lib.hid hat.res
          have HB := Lib.hid hat.bel
          clear ho hat
          have k0 : wr.cell? ⟨w.heap.size, 0, none⟩ = some (.int .i64 (N : Int)) := (HM.out.cell 0).trans rfl
          by_cases htt : t < N - 1 - J
          · have HRW := Lib.hid (show rowsF N J zs x (fun k => D.getD k 0) L1 (t + 1) = (upd (rowsF N J zs x (fun k => D.getD k 0) L1 t).1 (J + 1 + t) J (fdiv (lessF ((rowsF N J zs x (fun k => D.getD k 0) L1 t).1 (J + 1 + t)) ((rowsF N J zs x (fun k => D.getD k 0) L1 t).1 J) (fun k => D.getD k 0) (zs.getD ((J + 1 + t) * N + J) 0) J).1 x).1, (rowsF N J zs x (fun k => D.getD k 0) L1 t).2 || (lessF ((rowsF N J zs x (fun k => D.getD k 0) L1 t).1 (J + 1 + t)) ((rowsF N J zs x (fun k => D.getD k 0) L1 t).1 J) (fun k => D.getD k 0) (zs.getD ((J + 1 + t) * N + J) 0) J).2 || (fdiv (lessF ((rowsF N J zs x (fun k => D.getD k 0) L1 t).1 (J + 1 + t)) ((rowsF N J zs x (fun k => D.getD k 0) L1 t).1 J) (fun k => D.getD k 0) (zs.getD ((J + 1 + t) * N + J) 0) J).1 x).2) from rfl)
            have HLt := Lib.hid (rowsF_range N J zs x (fun k => D.getD k 0) HL1.out t)
            generalize rowsF N J zs x (fun k => D.getD k 0) L1 t = rr at *
            obtain ⟨Lt, rb⟩ := rr
            simp only at HRW HLt HK HROW
            obtain ⟨i, hi⟩ : ∃ i, J + 1 + t = i := ⟨_, rfl⟩
            have hiN : i < N := by omega
            rw [hi] at HRW ⊢
            have HII := Lib.hid hi
            clear hi
            have hIJ : i * N + J < zs.length := by rw [HL.out, ← HMM.out]; exact sq_idx hiN hlt
            obtain ⟨ba1, oa1, u, hea, hbA, hu, hca⟩ := (HR.out.below HB.out).at hIJ
            injection hea with hea
            injection hea with hea1 hea2
            subst hea1 hea2
            rw [intsV_at zs _ hIJ] at hu
            injection hu with hu
            subst hu
            rw [← getD_of hIJ] at hca
            have r_a := Lib.hid (HZ.out (i * N + J))
            obtain ⟨a, ha⟩ : ∃ a, zs.getD (i * N + J) 0 = a := ⟨_, rfl⟩
            rw [ha] at r_a hca HRW
            clear ha
            obtain ⟨⟨y, yb⟩, hy⟩ : ∃ r, lessF (Lt i) (Lt J) (fun k => D.getD k 0) a J = r := ⟨_, rfl⟩
            rw [hy] at HRW
            simp only at HRW
            have r_y := Lib.hid (show In64 y from by have h := lessF_range (Lt i) (Lt J) (fun k => D.getD k 0) r_a.out J; rw [hy] at h; exact h)
            have HY := Lib.hid (show lessF (Lt i) (Lt J) (fun k => D'.getD k 0) a J = (y, yb) from by rw [← hy]; exact lessF_congr a J fun k hk => ⟨rfl, rfl, HDP.out k hk⟩)
            clear hy
            obtain ⟨⟨v, vb⟩, hv⟩ : ∃ r, fdiv y x = r := ⟨_, rfl⟩
            have V_ := Lib.hid hv
            rw [hv] at HRW
            clear hv
            obtain ⟨qj, hqi⟩ : ∃ q, i * N = q := ⟨_, rfl⟩
            have hqi1 : (i : Int) * (N : Int) = (qj : Int) := by rw [← hqi]; push_cast; rfl
            rw [hqi] at hIJ hca
            have HQJ := Lib.hid hqi
            clear hqi
            have hz36 : (zs.length : Int) ≤ 36 := by have := HL.out; have := h36.out; omega
            have h1 : (qj : Int) + (J : Int) < (zs.length : Int) := by omega
            have t1 : ((qj : Int) + (J : Int)).toNat = qj + J := by omega
            have w1 : IntKind.i64.wrap (qj : Int) = (qj : Int) := IntWalk.i64_in _ (by omega)
            have w3 : IntKind.i64.wrap ((qj : Int) + (J : Int)) = (qj : Int) + (J : Int) := IntWalk.i64_in _ (by omega)
            have p1 : (0 : Int) ≤ (qj : Int) + (J : Int) := by omega
            have hiN1 : (i : Int) < (N : Int) := by omega
            have HCA := Lib.hid hca
            clear hca hbA
            go_upto_region 16 with fail
            clear k0
            have HK := Lib.hid (Blk.drew HK.out)
            have HWK := Lib.hid HWK.out.drew
            have HM := Lib.hid HM.out.drew
            have HRS := Lib.hid HRS.out.drew
            have HROW := Lib.hid HROW.out.drew
            have HO := Lib.hid HO.out.drew
            have HB := Lib.hid HB.out.drew
            have HCA : Hid (wr.drew.cell? ⟨ba, oa + (qj + J), none⟩ = some (.int .i64 a)) := Lib.hid HCA.out
            have HS := And.intro HWK.out (And.intro ((HM.out.cell 0).trans rfl) (And.intro ((HM.out.cell 1).trans rfl) HCA.out))
            refine wp_region_noPanic ?_
            refine Rg.beginR [0, 2, 5, 10] (fun w' => Blk w' gt 47 #[.int .i64 (N : Int), .slice (some ⟨ga, 0, none⟩) m m, .pointer (some ⟨gk, 0, none⟩)] ∧ w'.cell? ⟨w.heap.size, 0, none⟩ = some (.int .i64 (N : Int)) ∧ w'.cell? ⟨w.heap.size, 1, none⟩ = some (.slice (some ⟨ba, oa, none⟩) zs.length c) ∧ w'.cell? ⟨ba, oa + (qj + J), none⟩ = some (.int .i64 a)) (by kernel_rfl) ?_
            generalize wr.drew = w1' at *
            refine Rg.takeS (i := 0) (oi := { dst := some 59, op := Op.load 47 (Operand.tmp 6), type := 47, pos := "mat.go:107", after := #[], guard := none }) (v := .agg #[.int .i64 (N : Int), .slice (some ⟨ga, 0, none⟩) m m, .pointer (some ⟨gk, 0, none⟩)]) rfl (by kernel_rfl) (fun _ _ _ h => h) (by rfl) HS ?_ ?_
            · (intro w' hSw; exact exec_load_st 47 (.tmp 6) rfl gt rfl hSw.1 Try.underlying47 rfl (by kernel_rfl))
            try simp only [Act.put, List.setIfInBounds_toArray, List.set_cons_zero, List.set_cons_succ]
            refine Rg.takeP (i := 1) (oi := { dst := some 60, op := Op.fieldAddr 24 (Operand.tmp 1) 1, type := 0, pos := "mat.go:107", after := #[], guard := none }) (v := ?_) rfl (by kernel_rfl) (fun _ _ _ h => h) (by rfl) ?_ ?_
            rotate_left 1
            · (intro w; go_simp; (try with_reducible rfl))
            try simp only [Act.put, List.setIfInBounds_toArray, List.set_cons_zero, List.set_cons_succ]
            refine Rg.takeS (i := 2) (oi := { dst := some 61, op := Op.load 22 (Operand.tmp 60), type := 22, pos := "mat.go:107", after := #[{ on := 1, ground := Ground.data }], guard := none }) (v := ?_) rfl (by kernel_rfl) (fun _ _ _ h => h) (by rfl) HS ?_ ?_
            rotate_left 1
            · (intro w hSw; (try dsimp only at hSw); (try go_split_ands); go_simp; (try with_reducible rfl))
            try simp only [Act.put, List.setIfInBounds_toArray, List.set_cons_zero, List.set_cons_succ]
            refine Rg.takeP (i := 3) (oi := { dst := some 62, op := Op.move (Operand.tmp 10), type := 3, pos := "mat.go:107", after := #[], guard := none }) (v := ?_) rfl (by kernel_rfl) (fun _ _ _ h => h) (by rfl) ?_ ?_
            rotate_left 1
            · (intro w; go_simp; (try with_reducible rfl))
            try simp only [Act.put, List.setIfInBounds_toArray, List.set_cons_zero, List.set_cons_succ]
            refine Rg.takeP (i := 4) (oi := { dst := some 63, op := Op.fieldAddr 24 (Operand.tmp 1) 0, type := 0, pos := "mat.go:107", after := #[], guard := none }) (v := ?_) rfl (by kernel_rfl) (fun _ _ _ h => h) (by rfl) ?_ ?_
            rotate_left 1
            · (intro w; go_simp; (try with_reducible rfl))
            try simp only [Act.put, List.setIfInBounds_toArray, List.set_cons_zero, List.set_cons_succ]
            refine Rg.takeS (i := 5) (oi := { dst := some 64, op := Op.load 3 (Operand.tmp 63), type := 3, pos := "mat.go:107", after := #[{ on := 4, ground := Ground.data }], guard := none }) (v := ?_) rfl (by kernel_rfl) (fun _ _ _ h => h) (by rfl) HS ?_ ?_
            rotate_left 1
            · (intro w hSw; (try dsimp only at hSw); (try go_split_ands); go_simp; (try with_reducible rfl))
            try simp only [Act.put, List.setIfInBounds_toArray, List.set_cons_zero, List.set_cons_succ]
            refine Rg.takeP (i := 6) (oi := { dst := some 65, op := Op.binOp BinOp.mul 3 (Operand.tmp 62) (Operand.tmp 64) 3, type := 3, pos := "mat.go:107", after := #[{ on := 3, ground := Ground.data }, { on := 5, ground := Ground.data }], guard := none }) (v := ?_) rfl (by kernel_rfl) (fun _ _ _ h => h) (by rfl) ?_ ?_
            rotate_left 1
            · (intro w; go_simp; (try simp only [hqi1, w1, w3, t1, if_pos (And.intro p1 h1)]); (try with_reducible rfl))
            try simp only [Act.put, List.setIfInBounds_toArray, List.set_cons_zero, List.set_cons_succ]
            refine Rg.takeP (i := 7) (oi := { dst := some 66, op := Op.move (Operand.tmp 8), type := 3, pos := "mat.go:107", after := #[], guard := none }) (v := ?_) rfl (by kernel_rfl) (fun _ _ _ h => h) (by rfl) ?_ ?_
            rotate_left 1
            · (intro w; go_simp; (try with_reducible rfl))
            try simp only [Act.put, List.setIfInBounds_toArray, List.set_cons_zero, List.set_cons_succ]
            refine Rg.takeP (i := 8) (oi := { dst := some 67, op := Op.binOp BinOp.add 3 (Operand.tmp 65) (Operand.tmp 66) 3, type := 3, pos := "mat.go:107", after := #[{ on := 6, ground := Ground.data }, { on := 7, ground := Ground.data }], guard := none }) (v := ?_) rfl (by kernel_rfl) (fun _ _ _ h => h) (by rfl) ?_ ?_
            rotate_left 1
            · (intro w; go_simp; (try simp only [hqi1, w1, w3, t1, if_pos (And.intro p1 h1)]); (try with_reducible rfl))
            try simp only [Act.put, List.setIfInBounds_toArray, List.set_cons_zero, List.set_cons_succ]
            refine Rg.takeP (i := 9) (oi := { dst := some 68, op := Op.indexAddr 22 (Operand.tmp 61) (Operand.tmp 67), type := 0, pos := "mat.go:107", after := #[{ on := 2, ground := Ground.data }, { on := 8, ground := Ground.data }], guard := none }) (v := ?_) rfl (by kernel_rfl) (fun _ _ _ h => h) (by rfl) ?_ ?_
            rotate_left 1
            · (intro w; go_simp; (try simp only [hqi1, w1, w3, t1, if_pos (And.intro p1 h1)]); (try with_reducible rfl))
            try simp only [Act.put, List.setIfInBounds_toArray, List.set_cons_zero, List.set_cons_succ]
            refine Rg.takeS (i := 10) (oi := { dst := some 69, op := Op.load 3 (Operand.tmp 68), type := 3, pos := "mat.go:107", after := #[{ on := 9, ground := Ground.data }], guard := none }) (v := ?_) rfl (by kernel_rfl) (fun _ _ _ h => h) (by rfl) HS ?_ ?_
            rotate_left 1
            · (intro w hSw; (try dsimp only at hSw); (try go_split_ands); go_simp; (try with_reducible rfl))
            try simp only [Act.put, List.setIfInBounds_toArray, List.set_cons_zero, List.set_cons_succ]
            refine Rg.takeP (i := 11) (oi := { dst := some 70, op := Op.move (Operand.tmp 10), type := 3, pos := "mat.go:107", after := #[], guard := none }) (v := ?_) rfl (by kernel_rfl) (fun _ _ _ h => h) (by rfl) ?_ ?_
            rotate_left 1
            · (intro w; go_simp; (try with_reducible rfl))
            try simp only [Act.put, List.setIfInBounds_toArray, List.set_cons_zero, List.set_cons_succ]
            refine Rg.takeP (i := 12) (oi := { dst := some 71, op := Op.move (Operand.tmp 8), type := 3, pos := "mat.go:107", after := #[], guard := none }) (v := ?_) rfl (by kernel_rfl) (fun _ _ _ h => h) (by rfl) ?_ ?_
            rotate_left 1
            · (intro w; go_simp; (try with_reducible rfl))
            try simp only [Act.put, List.setIfInBounds_toArray, List.set_cons_zero, List.set_cons_succ]
            refine Rg.takeP (i := 13) (oi := { dst := some 72, op := Op.move (Operand.tmp 7), type := 22, pos := "mat.go:107", after := #[], guard := none }) (v := ?_) rfl (by kernel_rfl) (fun _ _ _ h => h) (by rfl) ?_ ?_
            rotate_left 1
            · (intro w; go_simp; (try with_reducible rfl))
            try simp only [Act.put, List.setIfInBounds_toArray, List.set_cons_zero, List.set_cons_succ]
            refine Rg.takeP (i := 14) (oi := { dst := some 73, op := Op.move (Operand.tmp 8), type := 3, pos := "mat.go:107", after := #[], guard := none }) (v := ?_) rfl (by kernel_rfl) (fun _ _ _ h => h) (by rfl) ?_ ?_
            rotate_left 1
            · (intro w; go_simp; (try with_reducible rfl))
            try simp only [Act.put, List.setIfInBounds_toArray, List.set_cons_zero, List.set_cons_succ]
            refine Rg.oneR (i := 15) (oi := { dst := some 74, op := Op.call { callee := Callee.value (Operand.func 24), args := #[Operand.tmp 59, Operand.tmp 69, Operand.tmp 70, Operand.tmp 71, Operand.tmp 72, Operand.tmp 73], argTypes := #[47, 3, 3, 3, 22, 3] }, type := 3, pos := "mat.go:107", after := #[{ on := 0, ground := Ground.data }, { on := 10, ground := Ground.data }, { on := 11, ground := Ground.data }, { on := 12, ground := Ground.data }, { on := 13, ground := Ground.data }, { on := 14, ground := Ground.data }], guard := none }) rfl (by kernel_rfl) ?_
            refine Rg.stepF ?_ ?_
            · kernel_rfl
            intro K hK
            rw [if_pos (by rfl)]
            go_simp
            go_at_call 24
            refine (less_any N m i J J a ga gk Lt A2 c2 D' _ _ HMM.out h36.out hiN hlt hJ (by have := HDL.out; have := HDS.out; omega) HROW.out HK.out (Rd.of_own HO.out) (fun _ b o e => by have h := own_lo HO.out _ e; simp only at h; omega) (by omega) r_a.out HLt.out HDR2.out).mono ?_
            rw [HY.out]
            rintro e w2' ⟨rfl, hst, hg⟩
            dsimp only at hst ⊢
            have HK := Lib.hid hst
            have HWK := Lib.hid (HWK.out.grown hg (neq_of (by omega)))
            have HM := Lib.hid (HM.out.grown hg (neq_of (by omega)))
            have HRS := Lib.hid (HRS.out.grown hg (neq_of (by omega)))
            have HROW := Lib.hid (HROW.out.grown hg (neq_of (by omega)))
            have HO := Lib.hid (own_keep HO.out hg (by omega))
            have HB := Lib.hid (below_grown HB.out (Nat.le_refl _) hg (fun g e => by injection e with e; omega))
            clear hst hg HS
            go_wp2_with fail
            refine hK.out _ _ ?_
            clear hK K
            try simp only [Act.put, List.setIfInBounds_toArray, List.set_cons_zero, List.set_cons_succ]
            refine Rg.takeP (i := 16) (oi := { dst := some 11, op := Op.assign (Operand.tmp 74), type := 3, pos := "mat.go:107", after := #[{ on := 15, ground := Ground.data }, { on := 15, ground := Ground.chain }, { on := 0, ground := Ground.phase }, { on := 1, ground := Ground.phase }, { on := 2, ground := Ground.phase }, { on := 3, ground := Ground.phase }, { on := 4, ground := Ground.phase }, { on := 5, ground := Ground.phase }, { on := 6, ground := Ground.phase }, { on := 7, ground := Ground.phase }, { on := 8, ground := Ground.phase }, { on := 9, ground := Ground.phase }, { on := 10, ground := Ground.phase }, { on := 11, ground := Ground.phase }, { on := 12, ground := Ground.phase }, { on := 13, ground := Ground.phase }, { on := 14, ground := Ground.phase }, { on := 15, ground := Ground.phase }], guard := none }) (v := ?_) rfl (by kernel_rfl) (fun _ _ _ h => h) (by rfl) ?_ ?_
            rotate_left 1
            · (intro w; go_simp; (try with_reducible rfl))
            try simp only [Act.put, List.setIfInBounds_toArray, List.set_cons_zero, List.set_cons_succ]
            refine Rg.doneR (by kernel_rfl) ?_ _
            refine NoPanic.normal ?_
            clear hqi1 h1 t1 w1 w3 p1 hIJ
            go_upto_region 17 with fail
            have HK := Lib.hid (Blk.drew HK.out)
            have HWK := Lib.hid HWK.out.drew
            have HM := Lib.hid HM.out.drew
            have HRS := Lib.hid HRS.out.drew
            have HROW := Lib.hid HROW.out.drew
            have HO := Lib.hid HO.out.drew
            have HB := Lib.hid HB.out.drew
            have HS := HWK.out
            refine wp_region_noPanic ?_
            refine Rg.beginR [0, 3] (fun w' => Blk w' gt 47 #[.int .i64 (N : Int), .slice (some ⟨ga, 0, none⟩) m m, .pointer (some ⟨gk, 0, none⟩)]) (by kernel_rfl) ?_
            generalize w2'.drew = w1' at *
            refine Rg.takeS (i := 0) (oi := { dst := some 75, op := Op.load 47 (Operand.tmp 6), type := 47, pos := "mat.go:108", after := #[], guard := none }) (v := .agg #[.int .i64 (N : Int), .slice (some ⟨ga, 0, none⟩) m m, .pointer (some ⟨gk, 0, none⟩)]) rfl (by kernel_rfl) (fun _ _ _ h => h) (by rfl) HS ?_ ?_
            · (intro w' hSw; exact exec_load_st 47 (.tmp 6) rfl gt rfl hSw Try.underlying47 rfl (by kernel_rfl))
            try simp only [Act.put, List.setIfInBounds_toArray, List.set_cons_zero, List.set_cons_succ]
            refine Rg.takeP (i := 1) (oi := { dst := some 76, op := Op.move (Operand.tmp 10), type := 3, pos := "mat.go:108", after := #[], guard := none }) (v := ?_) rfl (by kernel_rfl) (fun _ _ _ h => h) (by rfl) ?_ ?_
            rotate_left 1
            · (intro w; go_simp; (try with_reducible rfl))
            try simp only [Act.put, List.setIfInBounds_toArray, List.set_cons_zero, List.set_cons_succ]
            refine Rg.takeP (i := 2) (oi := { dst := some 77, op := Op.move (Operand.tmp 8), type := 3, pos := "mat.go:108", after := #[], guard := none }) (v := ?_) rfl (by kernel_rfl) (fun _ _ _ h => h) (by rfl) ?_ ?_
            rotate_left 1
            · (intro w; go_simp; (try with_reducible rfl))
            try simp only [Act.put, List.setIfInBounds_toArray, List.set_cons_zero, List.set_cons_succ]
            refine Rg.takeS (i := 3) (oi := { dst := some 78, op := Op.load 47 (Operand.tmp 6), type := 47, pos := "mat.go:108", after := #[], guard := none }) (v := .agg #[.int .i64 (N : Int), .slice (some ⟨ga, 0, none⟩) m m, .pointer (some ⟨gk, 0, none⟩)]) rfl (by kernel_rfl) (fun _ _ _ h => h) (by rfl) HS ?_ ?_
            · (intro w' hSw; exact exec_load_st 47 (.tmp 6) rfl gt rfl hSw Try.underlying47 rfl (by kernel_rfl))
            try simp only [Act.put, List.setIfInBounds_toArray, List.set_cons_zero, List.set_cons_succ]
            refine Rg.takeP (i := 4) (oi := { dst := some 79, op := Op.move (Operand.tmp 11), type := 3, pos := "mat.go:108", after := #[], guard := none }) (v := ?_) rfl (by kernel_rfl) (fun _ _ _ h => h) (by rfl) ?_ ?_
            rotate_left 1
            · (intro w; go_simp; (try with_reducible rfl))
            try simp only [Act.put, List.setIfInBounds_toArray, List.set_cons_zero, List.set_cons_succ]
            refine Rg.takeP (i := 5) (oi := { dst := some 80, op := Op.move (Operand.tmp 9), type := 3, pos := "mat.go:108", after := #[], guard := none }) (v := ?_) rfl (by kernel_rfl) (fun _ _ _ h => h) (by rfl) ?_ ?_
            rotate_left 1
            · (intro w; go_simp; (try with_reducible rfl))
            try simp only [Act.put, List.setIfInBounds_toArray, List.set_cons_zero, List.set_cons_succ]
            refine Rg.oneR (i := 6) (oi := { dst := some 81, op := Op.call { callee := Callee.value (Operand.func 27), args := #[Operand.tmp 79, Operand.tmp 80], argTypes := #[3, 3] }, type := 42, pos := "mat.go:108", after := #[{ on := 4, ground := Ground.data }, { on := 5, ground := Ground.data }], guard := none }) rfl (by kernel_rfl) ?_
            refine Rg.stepS ?_
            intro K hK
            rw [if_pos (by rfl)]
            go_simp
            go_at_call 27
            refine (fixDiv_any y x _ r_y.out r_x.out).mono ?_
            rintro e w2' ⟨rfl, hb⟩
            rw [V_.out]
            have hg := grown_of_below (row := some gk) hb
            have HK := Lib.hid (Blk.below HK.out hb (Blk.lt HK.out))
            have HWK := Lib.hid (HWK.out.grown hg (neq_of (by omega)))
            have HM := Lib.hid (HM.out.grown hg (neq_of (by omega)))
            have HRS := Lib.hid (HRS.out.grown hg (neq_of (by omega)))
            have HROW := Lib.hid (HROW.out.grown hg (neq_of (by omega)))
            have HO := Lib.hid (own_keep HO.out hg (by omega))
            have HB := Lib.hid (below_grown HB.out (Nat.le_refl _) hg (fun g e => by injection e with e; omega))
            clear hb hg
            (try clear HS)
            have HS := HWK.out
            go_wp2_with fail
            refine hK.out _ _ HS ?_
            clear hK K
            try simp only [Act.put, List.setIfInBounds_toArray, List.set_cons_zero, List.set_cons_succ]
            refine Rg.takeP (i := 7) (oi := { dst := some 82, op := Op.extract (Operand.tmp 81) 0, type := 3, pos := "mat.go:108", after := #[{ on := 6, ground := Ground.data }], guard := none }) (v := ?_) rfl (by kernel_rfl) (fun _ _ _ h => h) (by rfl) ?_ ?_
            rotate_left 1
            · (intro w; go_simp; (try with_reducible rfl))
            try simp only [Act.put, List.setIfInBounds_toArray, List.set_cons_zero, List.set_cons_succ]
            refine Rg.takeP (i := 8) (oi := { dst := some 83, op := Op.extract (Operand.tmp 81) 1, type := 4, pos := "mat.go:108", after := #[{ on := 6, ground := Ground.data }], guard := none }) (v := ?_) rfl (by kernel_rfl) (fun _ _ _ h => h) (by rfl) ?_ ?_
            rotate_left 1
            · (intro w; go_simp; (try with_reducible rfl))
            try simp only [Act.put, List.setIfInBounds_toArray, List.set_cons_zero, List.set_cons_succ]
            refine Rg.oneR (i := 9) (oi := { dst := some 84, op := Op.call { callee := Callee.value (Operand.func 26), args := #[Operand.tmp 78, Operand.tmp 82, Operand.tmp 83], argTypes := #[47, 3, 4] }, type := 3, pos := "mat.go:108", after := #[{ on := 3, ground := Ground.data }, { on := 7, ground := Ground.data }, { on := 8, ground := Ground.data }, { on := 6, ground := Ground.chain }], guard := none }) rfl (by kernel_rfl) ?_
            refine Rg.stepS ?_
            intro K hK
            rw [if_pos (by rfl)]
            go_simp
            go_at_call 26
            refine (see_any (N : Int) (some ⟨ga, 0, none⟩) m m gk _ v vb _ HK.out).mono ?_
            rintro e w2' ⟨rfl, hst, hg⟩
            have HK := Lib.hid hst
            have HWK := Lib.hid (HWK.out.grown hg (neq_of (by omega)))
            have HM := Lib.hid (HM.out.grown hg (neq_of (by omega)))
            have HRS := Lib.hid (HRS.out.grown hg (neq_of (by omega)))
            have HROW := Lib.hid (HROW.out.grown hg (neq_of (by omega)))
            have HO := Lib.hid (own_keep HO.out hg (by omega))
            have HB := Lib.hid (below_grown HB.out (Nat.le_refl _) hg (fun g e => by injection e with e; omega))
            clear hst hg
            (try clear HS)
            have HS := HWK.out
            go_wp2_with fail
            refine hK.out _ _ HS ?_
            clear hK K
            try simp only [Act.put, List.setIfInBounds_toArray, List.set_cons_zero, List.set_cons_succ]
            refine Rg.oneR (i := 10) (oi := { dst := some 85, op := Op.call { callee := Callee.value (Operand.func 25), args := #[Operand.tmp 75, Operand.tmp 76, Operand.tmp 77, Operand.tmp 84], argTypes := #[47, 3, 3, 3] }, type := 0, pos := "mat.go:108", after := #[{ on := 0, ground := Ground.data }, { on := 1, ground := Ground.data }, { on := 2, ground := Ground.data }, { on := 9, ground := Ground.data }, { on := 9, ground := Ground.chain }], guard := none }) rfl (by kernel_rfl) ?_
            refine Rg.stepF ?_ ?_
            · kernel_rfl
            intro K hK
            rw [if_pos (by rfl)]
            go_simp
            go_at_call 25
            refine (put_any N m ga gk i J qj v (fun q => Lt (q / N) (q % N)) HQJ.out (by rw [← HQJ.out, ← HMM.out]; exact sq_idx hiN hlt) h36.out w2' HROW.out).mono ?_
            rintro e w2' ⟨rfl, hrow, hg⟩
            rw [rowF_congr (g := fun q => upd Lt i J v (q / N) (q % N)) (fun q _ => by rw [← HQJ.out]; exact flat_upd (m := m) Lt v hlt q)] at hrow
            have HK := Lib.hid (Blk.grown HK.out hg (neq_of (by omega)))
            have HROW := Lib.hid hrow
            have HWK := Lib.hid (HWK.out.grown hg (neq_of (by omega)))
            have HM := Lib.hid (HM.out.grown hg (neq_of (by omega)))
            have HRS := Lib.hid (HRS.out.grown hg (neq_of (by omega)))
            have HO := Lib.hid (own_keep HO.out hg (by omega))
            have HB := Lib.hid (below_grown HB.out (Nat.le_refl _) hg (fun g e => by injection e with e; omega))
            clear hrow hg
            (try clear HS)
            go_wp2_with fail
            refine hK.out _ _ ?_
            clear hK K
            try simp only [Act.put, List.setIfInBounds_toArray, List.set_cons_zero, List.set_cons_succ]
            refine Rg.doneR (by kernel_rfl) ?_ _
            refine NoPanic.normal ?_
            go_wp2_with fail
            refine ⟨⟨t + 1, by omega, by rw [show J + 1 + (t + 1) = i + 1 by have := HII.out; omega]; go_num, HO.out, ?_⟩, by simp [intOf]; omega⟩
            rw [HRW.out]
            refine ⟨HROW.out, ?_, HWK.out, HM.out, HRS.out, HB.out⟩
            have h := HK.out
            simp only [Bool.or_assoc] at h ⊢
            exact h
          · obtain rfl : t = N - 1 - J := by omega
            clear htt
            have hge : ¬ ((J + 1 + (N - 1 - J) : Nat) : Int) < (N : Int) := by omega
            go_wp2_with fail
            exact ⟨⟨J + 1, A2, c2, _, D', _, by omega, by go_num, rfl, HFS, HO.out, HROW.out, HK.out, HWK.out, HM.out, HRS.out, HB.out⟩, by simp [intOf]; omega⟩
    · obtain rfl : J = N := by omega
      clear hlt
      have HFA := Lib.hid (show facA J zs = (((J : Int), flatL J (J * J) L), (D, b), 0) from by unfold facA; rw [HF.out])
      rw [HMM.out] at HFA
      go_upto_region 19 with fail
      have HK := Lib.hid (Blk.drew HK.out)
      have HWK := Lib.hid HWK.out.drew
      have HRS := Lib.hid HRS.out.drew
      have HROW := Lib.hid HROW.out.drew
      have HB := Lib.hid HB.out.drew
      have HO := Lib.hid HO.out.drew
      have HS := And.intro ((HWK.out.cell 0).trans rfl) (And.intro ((HWK.out.cell 1).trans rfl) (And.intro ((HWK.out.cell 2).trans rfl) ((Blk.cell HK.out 0).trans rfl)))
      refine wp_region_noPanic ?_
      refine Rg.beginR [1, 4, 6] (fun w' => w'.cell? ⟨gt, 0, none⟩ = some (.int .i64 (J : Int)) ∧ w'.cell? ⟨gt, 1, none⟩ = some (.slice (some ⟨ga, 0, none⟩) m m) ∧ w'.cell? ⟨gt, 2, none⟩ = some (.pointer (some ⟨gk, 0, none⟩)) ∧ w'.cell? ⟨gk, 0, none⟩ = some (.bool b)) (by kernel_rfl) ?_
      generalize wr.drew = w1' at *
      refine Rg.takeP (i := 0) (oi := { dst := some 87, op := Op.fieldAddr 47 (Operand.tmp 6) 0, type := 0, pos := "mat.go:111", after := #[], guard := none }) (v := ?_) rfl (by kernel_rfl) (fun _ _ _ h => h) (by rfl) ?_ ?_
      rotate_left 1
      · (intro w; go_simp; (try with_reducible rfl))
      try simp only [Act.put, List.setIfInBounds_toArray, List.set_cons_zero, List.set_cons_succ]
      refine Rg.takeS (i := 1) (oi := { dst := some 88, op := Op.load 24 (Operand.tmp 87), type := 24, pos := "mat.go:111", after := #[{ on := 0, ground := Ground.data }], guard := none }) (v := ?_) rfl (by kernel_rfl) (fun _ _ _ h => h) (by rfl) HS ?_ ?_
      rotate_left 1
      · (intro w hSw; (try dsimp only at hSw); (try go_split_ands); go_simp; (try with_reducible rfl))
      try simp only [Act.put, List.setIfInBounds_toArray, List.set_cons_zero, List.set_cons_succ]
      refine Rg.takeP (i := 2) (oi := { dst := some 89, op := Op.move (Operand.tmp 7), type := 22, pos := "mat.go:111", after := #[{ on := 7, ground := Ground.gcOnly Departure.lateStores }], guard := none }) (v := ?_) rfl (by kernel_rfl) (fun _ _ _ h => h) (by rfl) ?_ ?_
      rotate_left 1
      · (intro w; go_simp; (try with_reducible rfl))
      try simp only [Act.put, List.setIfInBounds_toArray, List.set_cons_zero, List.set_cons_succ]
      refine Rg.takeP (i := 3) (oi := { dst := some 90, op := Op.fieldAddr 47 (Operand.tmp 6) 1, type := 0, pos := "mat.go:111", after := #[{ on := 8, ground := Ground.gcOnly Departure.lateStores }], guard := none }) (v := ?_) rfl (by kernel_rfl) (fun _ _ _ h => h) (by rfl) ?_ ?_
      rotate_left 1
      · (intro w; go_simp; (try with_reducible rfl))
      try simp only [Act.put, List.setIfInBounds_toArray, List.set_cons_zero, List.set_cons_succ]
      refine Rg.takeS (i := 4) (oi := { dst := some 91, op := Op.load 45 (Operand.tmp 90), type := 45, pos := "mat.go:111", after := #[{ on := 3, ground := Ground.data }, { on := 8, ground := Ground.gcOnly Departure.lateStores }], guard := none }) (v := ?_) rfl (by kernel_rfl) (fun _ _ _ h => h) (by rfl) HS ?_ ?_
      rotate_left 1
      · (intro w hSw; (try dsimp only at hSw); (try go_split_ands); go_simp; (try with_reducible rfl))
      try simp only [Act.put, List.setIfInBounds_toArray, List.set_cons_zero, List.set_cons_succ]
      refine Rg.takeP (i := 5) (oi := { dst := some 92, op := Op.nilCheck (Operand.tmp 91), type := 0, pos := "mat.go:111", after := #[{ on := 4, ground := Ground.data }, { on := 8, ground := Ground.gcOnly Departure.lateStores }], guard := none }) (v := ?_) rfl (by kernel_rfl) (fun _ _ _ h => h) (by rfl) ?_ ?_
      rotate_left 1
      · (intro w; go_simp; (try with_reducible rfl))
      try simp only [Act.put, List.setIfInBounds_toArray, List.set_cons_zero, List.set_cons_succ]
      refine Rg.takeS (i := 6) (oi := { dst := some 93, op := Op.load 4 (Operand.tmp 92), type := 4, pos := "mat.go:111", after := #[{ on := 5, ground := Ground.data }, { on := 8, ground := Ground.gcOnly Departure.lateStores }], guard := none }) (v := ?_) rfl (by kernel_rfl) (fun _ _ _ h => h) (by rfl) HS ?_ ?_
      rotate_left 1
      · (intro w hSw; (try dsimp only at hSw); (try go_split_ands); go_simp; (try with_reducible rfl))
      try simp only [Act.put, List.setIfInBounds_toArray, List.set_cons_zero, List.set_cons_succ]
      refine Rg.oneR (i := 7) (oi := { dst := none, op := Op.store 24 (Operand.tmp 2) (Operand.tmp 88), type := 0, pos := "mat.go:111", after := #[{ on := 1, ground := Ground.data }, { on := 0, ground := Ground.phase }, { on := 1, ground := Ground.phase }, { on := 2, ground := Ground.textOnly Departure.lateStores }, { on := 3, ground := Ground.textOnly Departure.lateStores }, { on := 4, ground := Ground.textOnly Departure.lateStores }, { on := 5, ground := Ground.textOnly Departure.lateStores }, { on := 6, ground := Ground.textOnly Departure.lateStores }], guard := none }) rfl (by kernel_rfl) ?_
      refine Rg.stepS ?_
      intro K hK
      rw [if_pos (by rfl)]
      refine wp_store_row 24 _ _ rfl gs #[.int .i64 (J : Int), .slice (some ⟨ga, 0, none⟩) m m] rfl rfl 24 _ HRS.out (by kernel_rfl) rfl (by simp [Value.oneCell']) ?_
      have HRS := Lib.hid (HRS.out.setRow #[.int .i64 (J : Int), .slice (some ⟨ga, 0, none⟩) m m])
      have HWK := Lib.hid (HWK.out.setRow_other (g' := gs) (by omega) #[.int .i64 (J : Int), .slice (some ⟨ga, 0, none⟩) m m])
      have HROW := Lib.hid (HROW.out.setRow_other (g' := gs) (by omega) #[.int .i64 (J : Int), .slice (some ⟨ga, 0, none⟩) m m])
      have HK := Lib.hid (Blk.setRow_other HK.out (g' := gs) (by omega) #[.int .i64 (J : Int), .slice (some ⟨ga, 0, none⟩) m m])
      have HO := Lib.hid (own_row_below HO.out (g := gs) (by omega) #[.int .i64 (J : Int), .slice (some ⟨ga, 0, none⟩) m m])
      have HB := Lib.hid (below_setRow HB.out (show w.heap.size ≤ gs by omega) #[.int .i64 (J : Int), .slice (some ⟨ga, 0, none⟩) m m])
      generalize (w1'.setRow gs #[.int .i64 (J : Int), .slice (some ⟨ga, 0, none⟩) m m]) = w2' at *
      clear HS
      have HS := And.intro ((HWK.out.cell 0).trans rfl) (And.intro ((HWK.out.cell 1).trans rfl) (And.intro ((HWK.out.cell 2).trans rfl) ((Blk.cell HK.out 0).trans rfl)))
      refine hK.out _ _ HS ?_
      clear hK K
      try simp only [Act.put, List.setIfInBounds_toArray, List.set_cons_zero, List.set_cons_succ]
      refine Rg.takeP (i := 8) (oi := { dst := some 3, op := Op.assign (Operand.tmp 89), type := 22, pos := "mat.go:111", after := #[{ on := 2, ground := Ground.data }, { on := 7, ground := Ground.chain }, { on := 0, ground := Ground.phase }, { on := 1, ground := Ground.phase }, { on := 2, ground := Ground.phase }, { on := 3, ground := Ground.textOnly Departure.lateStores }, { on := 4, ground := Ground.textOnly Departure.lateStores }, { on := 5, ground := Ground.textOnly Departure.lateStores }, { on := 6, ground := Ground.textOnly Departure.lateStores }, { on := 7, ground := Ground.phase }], guard := none }) (v := ?_) rfl (by kernel_rfl) (fun _ _ _ h => h) (by rfl) ?_ ?_
      rotate_left 1
      · (intro w; go_simp; (try with_reducible rfl))
      try simp only [Act.put, List.setIfInBounds_toArray, List.set_cons_zero, List.set_cons_succ]
      refine Rg.takeP (i := 9) (oi := { dst := some 4, op := Op.assign (Operand.tmp 93), type := 4, pos := "mat.go:111", after := #[{ on := 6, ground := Ground.data }, { on := 8, ground := Ground.chain }, { on := 0, ground := Ground.phase }, { on := 1, ground := Ground.phase }, { on := 2, ground := Ground.phase }, { on := 3, ground := Ground.phase }, { on := 4, ground := Ground.phase }, { on := 5, ground := Ground.phase }, { on := 6, ground := Ground.phase }, { on := 7, ground := Ground.phase }, { on := 8, ground := Ground.phase }], guard := none }) (v := ?_) rfl (by kernel_rfl) (fun _ _ _ h => h) (by rfl) ?_ ?_
      rotate_left 1
      · (intro w; go_simp; (try with_reducible rfl))
      try simp only [Act.put, List.setIfInBounds_toArray, List.set_cons_zero, List.set_cons_succ]
      refine Rg.takeP (i := 10) (oi := { dst := some 5, op := Op.assign (Operand.const (Value.int IntKind.i64 0)), type := 25, pos := "mat.go:111", after := #[{ on := 9, ground := Ground.chain }, { on := 0, ground := Ground.phase }, { on := 1, ground := Ground.phase }, { on := 2, ground := Ground.phase }, { on := 3, ground := Ground.phase }, { on := 4, ground := Ground.phase }, { on := 5, ground := Ground.phase }, { on := 6, ground := Ground.phase }, { on := 7, ground := Ground.phase }, { on := 8, ground := Ground.phase }, { on := 9, ground := Ground.phase }], guard := none }) (v := ?_) rfl (by kernel_rfl) (fun _ _ _ h => h) (by rfl) ?_ ?_
      rotate_left 1
      · (intro w; go_simp; (try with_reducible rfl))
      try simp only [Act.put, List.setIfInBounds_toArray, List.set_cons_zero, List.set_cons_succ]
      refine Rg.doneR (by kernel_rfl) ?_ _
      refine NoPanic.normal ?_
      clear HS
      go_wp2_with fail
      refine ret_row4 (x := .slice A7 D.length c7) (y := .bool b) (z := .int .i64 0) rfl rfl rfl rfl rfl HRS.out ⟨by rw [Try.underlying24], by kernel_rfl⟩ rfl ?_
      rw [HFA.out]
      refine ⟨some ⟨ga, 0, none⟩, m, A7, c7, ?_, rd_flat HROW.out, Rd.of_own HO.out, fun a e => by (injection e with e; subst e; show w.heap.size ≤ ga; omega), HB.out⟩
      show _ = Ending.returned (.tuple #[.agg #[.int .i64 (J : Int), .slice (some ⟨ga, 0, none⟩) (flatL J m L).length m], .slice A7 D.length c7, .bool b, .int .i64 0])
      rw [flatL_length]
end Go.Proofs.Ytejefecglioifaa.BigW
