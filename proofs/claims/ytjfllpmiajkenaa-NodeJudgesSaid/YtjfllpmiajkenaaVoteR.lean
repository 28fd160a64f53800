/- Contract: the reference's Vote and its count. -/
import Derived.Test.YtjfllpmiajkenaaVote
import Derived.Test.YtjfllpmiajkenaaRegR
import Derived.Deep.DeepCutAuto
namespace Go.Proofs.Ytjfllpmiajkenaa.Vt
open Go.RowKit Go.Maps Go.WideShapes Go.Proofs.Ytjfllpmiajkenaa.Mem Go.Proofs.Ytjfllpmiajkenaa.Rws Go.Proofs.Ytjfllpmiajkenaa.Nd
set_option linter.unusedVariables false
set_option linter.unusedSimpArgs false

set_option maxRecDepth 100000 in
theorem count_of (L : Nat → Int) (I : Nat → Bool) (RL RI : Array Value) (hl : ∀ k, k < 4 → RL[k]? = some (.int .i64 (L k))) (hi : ∀ k, k < 4 → RI[k]? = some (.bool (I k))) (gl gi : Nat) (v : Int) (w : World) (bl : Blk w gl 28 RL) (bi : Blk w gi 27 RI) :
    Calls Try.prog 84 #[.int .i64 v, .pointer (some ⟨gi, 0, none⟩), .pointer (some ⟨gl, 0, none⟩)] w fun e w' => e = .returned (.int .i64 (cnt L I v 4)) ∧ w = w' := by
  have BL := Lib.hid bl
  have BI := Lib.hid bi
  have HL := Lib.hid hl
  have HI := Lib.hid hi
  clear bl bi hl hi
  go_enter Try.func84, Try.ntmps84
  go_wp2_with fail
  go_loop [5, 7] (fun n i => ∃ k : Nat, k ≤ 4 ∧ i = .int .i64 k ∧ n = .int .i64 (cnt L I v k)) (fun _ i => 4 - (intOf i).toNat)
  case atStart => exact ⟨0, by omega, rfl, rfl⟩
  case round =>
    obtain ⟨k, hk, rfl, rfl⟩ := hrel
    by_cases hlt : k < 4
    · have ci : w.cell? ⟨gi, k, none⟩ = some (.bool (I k)) := (BI.out.cell k).trans (HI.out k hlt)
      have cl : w.cell? ⟨gl, k, none⟩ = some (.int .i64 (L k)) := (BL.out.cell k).trans (HL.out k hlt)
      have hn := cnt_le L I v k
      have ew : IntKind.i64.wrap ((cnt L I v k : Int) + 1) = (cnt L I v k : Int) + 1 := IntWalk.i64_in _ (by omega)
      have HT := Lib.hid (show cnt L I v (k + 1) = cnt L I v k + (if I k = true ∧ L k = v then 1 else 0) from rfl)
      cases hI : I k with
      | false =>
        rw [hI] at ci
        have HC := Lib.hid (HT.out.trans (by rw [if_neg (by simp [hI])]))
        clear HT hI
        go_wp2_with fail
        exact ⟨⟨k + 1, by omega, by go_num, by rw [HC.out]; rfl⟩, by simp [intOf]; omega⟩
      | true =>
        rw [hI] at ci
        by_cases e : L k = v
        · have HC := Lib.hid (HT.out.trans (by rw [if_pos ⟨hI, e⟩]))
          have eb : (L k == v) = true := by simp [e]
          clear HT hI e
          go_wp2_with fail
          exact ⟨⟨k + 1, by omega, by go_num, by rw [HC.out]; rfl⟩, by simp [intOf]; omega⟩
        · have HC := Lib.hid (HT.out.trans (by rw [if_neg (fun h => e h.2)]))
          have eb : (L k == v) = false := by simp [e]
          clear HT hI e
          go_wp2_with fail
          exact ⟨⟨k + 1, by omega, by go_num, by rw [HC.out]; rfl⟩, by simp [intOf]; omega⟩
    · obtain rfl : k = 4 := by omega
      clear hlt
      go_wp2_with fail
      go_ret
      exact ⟨rfl, rfl⟩

theorem quiet1 {P : Program} {F : FuncId} {args : Array Value} {v : Value} {w : World} (h : ∀ n, Calls P F args (w.drewN n) fun e w' => e = .returned v ∧ w.drewN n = w') (n : Nat) : Calls P F args (w.drewN n) fun e w'' => e = .returned v ∧ ∃ n, w'' = w.drewN n :=
  (h n).mono fun e w' hh => ⟨hh.1, n, hh.2.symm⟩

set_option maxRecDepth 100000 in
set_option maxHeartbeats 2000000 in
theorem refvote_any (L : Nat → Int) (I : Nat → Bool) (w : World) :
    Calls Try.prog 52 #[.agg (row 4 fun i => .int .i64 (L i)), .agg (row 4 fun i => .bool (I i))] w fun e w' => ∃ A c, e = .returned (.agg (verC (val L I) (strong L I) A 4 c)) ∧
      Rd w' w'.heap.size 1 A 4 ((List.range 4).map fun i => .bool (agrees L I i)) ∧ Below w.heap.size w w' ∧ (∀ a, A = some a → w.heap.size ≤ a.block) ∧ (A = none → c = 0) ∧ 4 ≤ c := by
  have hrl : ∀ k : Nat, k < 4 → (row 4 fun i => Value.int .i64 (L i))[k]? = some (.int .i64 (L k)) := fun k hk => row_at hk
  have hri : ∀ k : Nat, k < 4 → (row 4 fun i => Value.bool (I i))[k]? = some (.bool (I k)) := fun k hk => row_at hk
  generalize (row 4 fun i => Value.int .i64 (L i)) = RL at *
  generalize (row 4 fun i => Value.bool (I i)) = RI at *
  have HRL := Lib.hid hrl
  have HRI := Lib.hid hri
  clear hrl hri
  go_enter Try.func52, Try.ntmps52
  go_wp2_with fail
  go_loopw [7, 11] (fun t i wr => ∃ k : Nat, k ≤ 4 ∧ i = .int .i64 k ∧ t = .int .i64 (tot I k) ∧ Blk wr w.heap.size 28 RL ∧ Blk wr (w.heap.size + 1) 27 RI ∧ Blk wr (w.heap.size + 1 + 1) 35 #[.int .i64 0, .bool false, .slice none 0 0] ∧ Blk wr (w.heap.size + 1 + 1 + 1) 35 #[.int .i64 (rv L I k), .bool false, .slice none 0 0] ∧ Below w.heap.size w wr) (fun _ i _ => 4 - (intOf i).toNat)
  case atStart =>
    exact ⟨0, by omega, rfl, rfl, ((Blk.new rfl).alloc _).alloc _ |>.alloc _, ((Blk.new (by simp)).alloc _).alloc _, (Blk.new (by simp)).alloc _, Blk.new (by simp), (((Below.refl w.heap.size w).alloc (Nat.le_refl _) _).alloc (by simp) _).alloc (by simp; omega) _ |>.alloc (by simp; omega) _⟩
  case round =>
    obtain ⟨k, hk, rfl, rfl, h1, h2, h3, h4, hb⟩ := hrel
    have H1 := Lib.hid h1
    have H2 := Lib.hid h2
    have H3 := Lib.hid h3
    have H4 := Lib.hid h4
    have HB := Lib.hid hb
    clear h1 h2 h3 h4 hb
    have ht := tot_le I k
    by_cases hlt : k < 4
    · have ci : wr.cell? ⟨w.heap.size + 1, k, none⟩ = some (.bool (I k)) := (H2.out.cell k).trans (HRI.out k hlt)
      have et : IntKind.i64.wrap ((tot I k : Int) + 1) = (tot I k : Int) + 1 := IntWalk.i64_in _ (by omega)
      have HV0 := Lib.hid (show rv L I (k + 1) = if I k = true ∧ (cnt L I (rv L I k) 4 < cnt L I (L k) 4 ∨ tot I k = 0) then L k else rv L I k from rfl)
      cases hI : I k with
      | false =>
        rw [hI] at ci
        have HT := Lib.hid (show tot I (k + 1) = tot I k by simp [tot, hI])
        have HV := Lib.hid (HV0.out.trans (if_neg (by simp [hI])))
        clear hI HV0
        go_wp2_with fail
        exact ⟨⟨k + 1, by omega, by go_num, by rw [HT.out], H1.out, H2.out, H3.out, by rw [HV.out]; exact H4.out, HB.out⟩, by simp [intOf]; omega⟩
      | true =>
        rw [hI] at ci
        have HT := Lib.hid (show (tot I (k + 1) : Int) = (tot I k : Int) + 1 by simp [tot, hI])
        have HIK := Lib.hid hI
        clear hI
        have y0 : wr.cell? ⟨w.heap.size + 1 + 1 + 1, 0, none⟩ = some (.int .i64 (rv L I k)) := H4.out.cell 0
        have yk : wr.cell? ⟨w.heap.size, k, none⟩ = some (.int .i64 (L k)) := (H1.out.cell k).trans (HRL.out k hlt)
        have g0 := H4.out.thaw 0
        obtain ⟨T, hT⟩ : ∃ T : Int, (tot I k : Int) = T := ⟨_, rfl⟩
        obtain ⟨N1, hN1⟩ : ∃ N : Int, (cnt L I (L k) 4 : Int) = N := ⟨_, rfl⟩
        obtain ⟨N2, hN2⟩ : ∃ N : Int, (cnt L I (rv L I k) 4 : Int) = N := ⟨_, rfl⟩
        have c1 := fun n => count_of L I RL RI HRL.out HRI.out w.heap.size (w.heap.size + 1) (L k) (wr.drewN n) (H1.out.drewN n) (H2.out.drewN n)
        have c2 := fun n => count_of L I RL RI HRL.out HRI.out w.heap.size (w.heap.size + 1) (rv L I k) (wr.drewN n) (H1.out.drewN n) (H2.out.drewN n)
        rw [hN1] at c1
        rw [hN2] at c2
        obtain ⟨X, hX⟩ : ∃ X, L k = X := ⟨_, rfl⟩
        obtain ⟨V, hV⟩ : ∃ V, rv L I k = V := ⟨_, rfl⟩
        rw [hX] at c1 yk
        rw [hV] at c2 y0
        have HX := Lib.hid hX
        have HVV := Lib.hid hV
        clear hX hV
        rw [hT] at et ⊢
        have C1 := Lib.hid c1
        have C2 := Lib.hid c2
        have HTT := Lib.hid hT
        clear c1 c2
        go_upto_region 9 with fail
        by_cases hc : cnt L I (rv L I k) 4 < cnt L I (L k) 4
        · have hd : decide (N2 < N1) = true := decide_eq_true (by omega)
          have HV := Lib.hid (HV0.out.trans (if_pos ⟨HIK.out, .inl hc⟩))
          clear hc HV0 hT hN1 hN2 ht
          go_quiet (first | with_reducible exact quiet1 C1.out _ | with_reducible exact quiet1 C2.out _)
          go_wp2_with fail
          refine ⟨⟨k + 1, by omega, by go_num, by rw [HT.out, HTT.out], (H1.out.drewN _).other (by show w.heap.size ≠ w.heap.size + 1 + 1 + 1; omega) _, (H2.out.drewN _).other (by show w.heap.size + 1 ≠ w.heap.size + 1 + 1 + 1; omega) _, (H3.out.drewN _).other (by show w.heap.size + 1 + 1 ≠ w.heap.size + 1 + 1 + 1; omega) _, ?_, (below_drewN HB.out _).setCell (by show w.heap.size ≤ w.heap.size + 1 + 1 + 1; omega) _⟩, by simp [intOf]; omega⟩
          rw [HV.out, HX.out]
          exact (H4.out.drewN _).set 0 _
        · have hd : decide (N2 < N1) = false := decide_eq_false (by omega)
          by_cases hz : tot I k = 0
          · have he : (T + 1 == 1) = true := by simp; omega
            have HV := Lib.hid (HV0.out.trans (if_pos ⟨HIK.out, .inr hz⟩))
            clear hc HV0 hT hN1 hN2 ht hz
            go_quiet (first | with_reducible exact quiet1 C1.out _ | with_reducible exact quiet1 C2.out _)
            go_wp2_with fail
            refine ⟨⟨k + 1, by omega, by go_num, by rw [HT.out, HTT.out], (H1.out.drewN _).other (by show w.heap.size ≠ w.heap.size + 1 + 1 + 1; omega) _, (H2.out.drewN _).other (by show w.heap.size + 1 ≠ w.heap.size + 1 + 1 + 1; omega) _, (H3.out.drewN _).other (by show w.heap.size + 1 + 1 ≠ w.heap.size + 1 + 1 + 1; omega) _, ?_, (below_drewN HB.out _).setCell (by show w.heap.size ≤ w.heap.size + 1 + 1 + 1; omega) _⟩, by simp [intOf]; omega⟩
            rw [HV.out, HX.out]
            exact (H4.out.drewN _).set 0 _
          · have he : (T + 1 == 1) = false := by simp; omega
            have HV := Lib.hid (HV0.out.trans (if_neg (fun h => h.2.elim hc hz)))
            clear hc HV0 hT hN1 hN2 ht hz
            go_quiet (first | with_reducible exact quiet1 C1.out _ | with_reducible exact quiet1 C2.out _)
            go_wp2_with fail
            refine ⟨⟨k + 1, by omega, by go_num, by rw [HT.out, HTT.out], H1.out.drewN _, H2.out.drewN _, H3.out.drewN _, ?_, below_drewN HB.out _⟩, by simp [intOf]; omega⟩
            rw [HV.out]
            exact H4.out.drewN _
    · obtain rfl : k = 4 := by omega
      clear hlt
      rw [show ((4 : Nat) : Int) = 4 from rfl]
      have HST := Lib.hid (ref_strong L I)
      have hn := cnt_le L I (rv L I 4) 4
      have hvv : val L I = rv L I 4 := rfl
      obtain ⟨V, hV⟩ : ∃ V, rv L I 4 = V := ⟨_, rfl⟩
      rw [hV] at H4 hvv
      have H4 : Hid (Blk wr (w.heap.size + 1 + 1 + 1) 35 #[.int .i64 V, .bool false, .slice none 0 0]) := H4
      obtain ⟨T, hT⟩ : ∃ T : Int, (tot I 4 : Int) = T := ⟨_, rfl⟩
      obtain ⟨N2, hN2⟩ : ∃ N : Int, (cnt L I (rv L I 4) 4 : Int) = N := ⟨_, rfl⟩
      have c2 := count_of L I RL RI HRL.out HRI.out w.heap.size (w.heap.size + 1) (rv L I 4) wr H1.out H2.out
      rw [hN2, hV] at c2
      have C2 := Lib.hid c2
      rw [hT]
      have HTT := Lib.hid hT
      have hwm : IntKind.i64.wrap (2 * N2) = 2 * N2 := IntWalk.i64_in _ (by omega)
      have hS2 : strong L I = (decide (0 < T) && decide (T < 2 * N2)) := by
        rw [← ref_strong L I]
        congr 1
        · exact decide_eq_decide.2 (by omega)
        · exact decide_eq_decide.2 (by omega)
      have HS2 := Lib.hid hS2
      clear c2 hS2 HST hT hN2 hn
      have HVV := Lib.hid hvv
      clear hV hvv
      go_upto_region 12 with fail
      go_cut [49] (fun s49 wx => wx = wr.setCell ⟨w.heap.size + 1 + 1 + 1, 1, none⟩ (.bool (strong L I)))
      case first =>
        have y0 : wr.cell? ⟨w.heap.size + 1 + 1 + 1, 0, none⟩ = some (.int .i64 V) := H4.out.cell 0
        have y1 : wr.cell? ⟨w.heap.size + 1 + 1 + 1, 1, none⟩ = some (.bool false) := H4.out.cell 1
        have g1 := H4.out.thaw 1
        by_cases hp : 0 < T
        · have hd : decide (0 < T) = true := decide_eq_true hp
          rw [hd, Bool.true_and] at HS2
          clear hp
          refine wp_region_list ?_
          iterate 3
            refine wpList_wanted (by rfl) (fun K hK => ?_)
            go_simp
            try simp only [hd]
            refine hK _ _ ?_
            clear hK K
            try simp only [Act.put, List.setIfInBounds_toArray, List.set_cons_zero, List.set_cons_succ]
          iterate 3
            refine wpList_wanted (by rfl) (fun K hK => ?_)
            go_simp
            refine hK _ _ ?_
            clear hK K
            try simp only [Act.put, List.setIfInBounds_toArray, List.set_cons_zero, List.set_cons_succ]
          refine wpList_wanted (by rfl) (fun K hK => ?_)
          go_simp
          refine C2.out.mono ?_
          rintro e w' ⟨rfl, rfl⟩
          go_wp2_with fail
          go_meet
          rw [HS2.out]
        · have hd : decide (0 < T) = false := decide_eq_false hp
          rw [hd, Bool.false_and] at HS2
          clear hp
          go_wp2_with fail
          go_meet
          rw [HS2.out]
      case rest =>
        obtain rfl := hcut
        have G4 := Lib.hid (H4.out.set 1 (.bool (strong L I)))
        have G1 := Lib.hid (H1.out.other (p := ⟨w.heap.size + 1 + 1 + 1, 1, none⟩) (by show w.heap.size ≠ w.heap.size + 1 + 1 + 1; omega) (.bool (strong L I)))
        have G3 := Lib.hid (H3.out.other (p := ⟨w.heap.size + 1 + 1 + 1, 1, none⟩) (by show w.heap.size + 1 + 1 ≠ w.heap.size + 1 + 1 + 1; omega) (.bool (strong L I)))
        have GB := Lib.hid (HB.out.setCell (p := ⟨w.heap.size + 1 + 1 + 1, 1, none⟩) (by show w.heap.size ≤ w.heap.size + 1 + 1 + 1; omega) (.bool (strong L I)))
        clear H1 H2 H3 H4 HB C2 hwm HS2
        generalize (wr.setCell ⟨w.heap.size + 1 + 1 + 1, 1, none⟩ (.bool (strong L I))) = w2 at *
        go_wp2_with fail
        go_loopw [51] (fun i wq => ∃ (j : Nat) (A : Option Addr) (c : Nat), j ≤ 4 ∧ i = .int .i64 j ∧ Blk wq w.heap.size 28 RL ∧ Blk wq (w.heap.size + 1 + 1) 35 #[.int .i64 0, .bool false, .slice none 0 0] ∧ Blk wq (w.heap.size + 1 + 1 + 1) 35 #[.int .i64 V, .bool (strong L I), .slice A j c] ∧ wq.ownsRow (w.heap.size + 1 + 1 + 1 + 1) 4 1 (.slice A j c) j ((List.range j).map fun i => .bool (agrees L I i)) ∧ Below w.heap.size w wq) (fun i _ => 4 - (intOf i).toNat)
        case atStart => exact ⟨0, none, 0, by omega, rfl, G1.out, G3.out, G4.out, World.ownsRow_nil _ _ _ _, GB.out⟩
        case round =>
          clear G1 G3 G4 GB
          obtain ⟨j, A, c, hj, rfl, h1, h3, hg, hown, hb⟩ := hrel
          have H1 := Lib.hid h1
          have H3 := Lib.hid h3
          have HG := Lib.hid hg
          have HW := Lib.hid hown
          have HB := Lib.hid hb
          clear h1 h3 hg hown hb
          by_cases hlt : j < 4
          · go_upto_region 16 with fail
            have H1 := Lib.hid H1.out.drew
            have H3 := Lib.hid H3.out.drew
            have HG := Lib.hid HG.out.drew
            have HW := Lib.hid (ownsRow_below HW.out ((Below.refl wr.heap.size wr).drew))
            have HB := Lib.hid HB.out.drew
            have HS := And.intro H1.out HG.out
            refine wp_region_noPanic ?_
            by_cases ht : 0 < T
            · have hd : decide (0 < T) = true := decide_eq_true ht
              have HA := Lib.hid (show agrees L I j = (L j == V) by unfold agrees; rw [HVV.out, decide_eq_true (show 0 < tot I 4 by have := HTT.out; omega), Bool.true_and]; by_cases e : L j = V <;> simp [e])
              clear ht
              refine Rg.beginR [1, 7, 9] (fun w' => Blk w' w.heap.size 28 RL ∧ Blk w' (w.heap.size + 1 + 1 + 1) 35 #[.int .i64 V, .bool (strong L I), .slice A j c]) (by kernel_rfl) ?_
              generalize wr.drew = V0 at *
              refine Rg.takeP (i := 0) (oi := { dst := some 54, op := Op.fieldAddr 35 (Operand.tmp 6) 2, type := 0, pos := "links.go:311", after := #[], guard := none }) (v := ?_) rfl (by kernel_rfl) (fun _ _ _ h => h) (by rfl) ?_ ?_
              rotate_left 1
              · (intro w; go_simp; (try with_reducible rfl))
              try simp only [Act.put, List.setIfInBounds_toArray, List.set_cons_zero, List.set_cons_succ]
              refine Rg.takeS (i := 1) (oi := { dst := some 55, op := Op.load 33 (Operand.tmp 54), type := 33, pos := "links.go:311", after := #[{ on := 0, ground := Ground.data }], guard := none }) (v := ?_) rfl (by kernel_rfl) (fun _ _ _ h => h) (by rfl) HS ?_ ?_
              rotate_left 1
              · (intro w' hSw; have y := hSw.2.cell 2; (try simp only [List.getElem?_toArray, List.getElem?_cons_zero, List.getElem?_cons_succ] at y); go_simp; (try with_reducible rfl))
              try simp only [Act.put, List.setIfInBounds_toArray, List.set_cons_zero, List.set_cons_succ]
              refine Rg.takeP (i := 2) (oi := { dst := some 56, op := Op.move (Operand.tmp 7), type := 3, pos := "links.go:311", after := #[], guard := none }) (v := ?_) rfl (by kernel_rfl) (fun _ _ _ h => h) (by rfl) ?_ ?_
              rotate_left 1
              · (intro w; go_simp; (try with_reducible rfl))
              try simp only [Act.put, List.setIfInBounds_toArray, List.set_cons_zero, List.set_cons_succ]
              refine Rg.takeP (i := 3) (oi := { dst := some 57, op := Op.binOp BinOp.gtr 3 (Operand.tmp 56) (Operand.const (Value.int IntKind.i64 0)) 3, type := 4, pos := "links.go:311", after := #[{ on := 2, ground := Ground.data }], guard := none }) (v := ?_) rfl (by kernel_rfl) (fun _ _ _ h => h) (by rfl) ?_ ?_
              rotate_left 1
              · (intro w; go_simp; (try simp only [hd]); (try with_reducible rfl))
              try simp only [Act.put, List.setIfInBounds_toArray, List.set_cons_zero, List.set_cons_succ]
              refine Rg.takeP (i := 4) (oi := { dst := some 58, op := Op.move (Operand.tmp 57), type := 4, pos := "links.go:311", after := #[{ on := 3, ground := Ground.data }], guard := none }) (v := ?_) rfl (by kernel_rfl) (fun _ _ _ h => h) (by rfl) ?_ ?_
              rotate_left 1
              · (intro w; go_simp; (try with_reducible rfl))
              try simp only [Act.put, List.setIfInBounds_toArray, List.set_cons_zero, List.set_cons_succ]
              refine Rg.takeP (i := 5) (oi := { dst := some 59, op := Op.move (Operand.tmp 9), type := 3, pos := "links.go:311", after := #[{ on := 4, ground := Ground.guard }], guard := some (4, true) }) (v := ?_) rfl (by kernel_rfl) (fun _ _ _ h => h) (by rfl) ?_ ?_
              rotate_left 1
              · (intro w; go_simp; (try with_reducible rfl))
              try simp only [Act.put, List.setIfInBounds_toArray, List.set_cons_zero, List.set_cons_succ]
              refine Rg.takeP (i := 6) (oi := { dst := some 60, op := Op.indexAddr 28 (Operand.tmp 2) (Operand.tmp 59), type := 0, pos := "links.go:311", after := #[{ on := 5, ground := Ground.data }, { on := 4, ground := Ground.guard }], guard := some (4, true) }) (v := ?_) rfl (by kernel_rfl) (fun _ _ _ h => h) (by rfl) ?_ ?_
              rotate_left 1
              · (intro w; go_simp; (try with_reducible rfl))
              try simp only [Act.put, List.setIfInBounds_toArray, List.set_cons_zero, List.set_cons_succ]
              refine Rg.takeS (i := 7) (oi := { dst := some 61, op := Op.load 3 (Operand.tmp 60), type := 3, pos := "links.go:311", after := #[{ on := 6, ground := Ground.data }, { on := 4, ground := Ground.guard }], guard := some (4, true) }) (v := ?_) rfl (by kernel_rfl) (fun _ _ _ h => h) (by rfl) HS ?_ ?_
              rotate_left 1
              · (intro w' hSw; have y := (hSw.1.cell j).trans (HRL.out j hlt); (try simp only [List.getElem?_toArray, List.getElem?_cons_zero, List.getElem?_cons_succ] at y); go_simp; (try with_reducible rfl))
              try simp only [Act.put, List.setIfInBounds_toArray, List.set_cons_zero, List.set_cons_succ]
              refine Rg.takeP (i := 8) (oi := { dst := some 62, op := Op.fieldAddr 35 (Operand.tmp 6) 0, type := 0, pos := "links.go:311", after := #[{ on := 4, ground := Ground.guard }], guard := some (4, true) }) (v := ?_) rfl (by kernel_rfl) (fun _ _ _ h => h) (by rfl) ?_ ?_
              rotate_left 1
              · (intro w; go_simp; (try with_reducible rfl))
              try simp only [Act.put, List.setIfInBounds_toArray, List.set_cons_zero, List.set_cons_succ]
              refine Rg.takeS (i := 9) (oi := { dst := some 63, op := Op.load 3 (Operand.tmp 62), type := 3, pos := "links.go:311", after := #[{ on := 8, ground := Ground.data }, { on := 4, ground := Ground.guard }], guard := some (4, true) }) (v := ?_) rfl (by kernel_rfl) (fun _ _ _ h => h) (by rfl) HS ?_ ?_
              rotate_left 1
              · (intro w' hSw; have y := hSw.2.cell 0; (try simp only [List.getElem?_toArray, List.getElem?_cons_zero, List.getElem?_cons_succ] at y); go_simp; (try with_reducible rfl))
              try simp only [Act.put, List.setIfInBounds_toArray, List.set_cons_zero, List.set_cons_succ]
              refine Rg.takeP (i := 10) (oi := { dst := some 64, op := Op.binOp BinOp.eql 3 (Operand.tmp 61) (Operand.tmp 63) 3, type := 4, pos := "links.go:311", after := #[{ on := 7, ground := Ground.data }, { on := 9, ground := Ground.data }, { on := 4, ground := Ground.guard }], guard := some (4, true) }) (v := ?_) rfl (by kernel_rfl) (fun _ _ _ h => h) (by rfl) ?_ ?_
              rotate_left 1
              · (intro w; go_simp; (try with_reducible rfl))
              try simp only [Act.put, List.setIfInBounds_toArray, List.set_cons_zero, List.set_cons_succ]
              refine Rg.takeP (i := 11) (oi := { dst := some 65, op := Op.pick (Operand.tmp 58) (Operand.tmp 64) (Operand.const (Value.bool false)), type := 4, pos := "links.go:311", after := #[{ on := 4, ground := Ground.data }, { on := 10, ground := Ground.data }], guard := none }) (v := ?_) rfl (by kernel_rfl) (fun _ _ _ h => h) (by rfl) ?_ ?_
              rotate_left 1
              · (intro w; go_simp; (try with_reducible rfl))
              try simp only [Act.put, List.setIfInBounds_toArray, List.set_cons_zero, List.set_cons_succ]
              refine Rg.oneR (i := 12) (oi := { dst := some 66, op := Op.buildSlice 33 1 #[(0, Operand.tmp 65)], type := 33, pos := "links.go:311", after := #[{ on := 11, ground := Ground.data }], guard := none }) rfl (by kernel_rfl) ?_
              refine Rg.stepS ?_
              intro K hK
              go_simp
              have HN : Hid (Rd (V0.alloc (.cells #[.bool (L j == V)] 4)) (V0.heap.size + 1) 1 (some ⟨V0.heap.size, 0, none⟩) 1 [.bool (L j == V)]) := Lib.hid (rd_one _ _ _)
              have HW := Lib.hid (ownsRow_below HW.out ((Below.refl V0.heap.size V0).alloc (Nat.le_refl _) (.cells #[.bool (L j == V)] 4)))
              have HB := Lib.hid (HB.out.alloc HB.out.size (.cells #[.bool (L j == V)] 4))
              have H1 := Lib.hid (H1.out.alloc (.cells #[.bool (L j == V)] 4))
              have H3 := Lib.hid (H3.out.alloc (.cells #[.bool (L j == V)] 4))
              have HG := Lib.hid (HG.out.alloc (.cells #[.bool (L j == V)] 4))
              have hbs := HG.out.lt
              generalize (V0.alloc (.cells #[.bool (L j == V)] 4)) = V1 at *
              generalize V0.heap.size = nb at *
              clear HS
              have HS := And.intro H1.out HG.out
              refine hK.out _ _ HS ?_
              clear hK K
              try simp only [Act.put, List.setIfInBounds_toArray, List.set_cons_zero, List.set_cons_succ]
              refine Rg.oneR (i := 13) (oi := { dst := some 67, op := Op.call { callee := Callee.builtin Builtin.append, args := #[Operand.tmp 55, Operand.tmp 66], argTypes := #[33, 33] }, type := 33, pos := "links.go:311", after := #[{ on := 1, ground := Ground.data }, { on := 12, ground := Ground.data }, { on := 4, ground := Ground.chain }], guard := none }) rfl (by kernel_rfl) ?_
              refine Rg.stepF ?_ ?_
              · kernel_rfl
              intro K hK
              rw [if_pos (by rfl)]
              refine wp_append_rd _ (.tmp 55) (.tmp 66) 33 rfl (base := w.heap.size + 1 + 1 + 1 + 1) elemBools rfl HW.out rfl (fun h => by cases h) HN.out (by simp [Value.oneCell']) (by unfold maxLen; omega) (by omega) (by omega) ?_
              intro A' c' V2 hA' hown' hgr
              have HB := Lib.hid (HB.out.grown hgr HB.out.size (fun g e => Nat.le_trans (by omega) (HW.out.lt g e).1))
              have H1 := Lib.hid (H1.out.grown hgr (fun e => by have := (HW.out.lt _ e.symm).1; omega))
              have H3 := Lib.hid (H3.out.grown hgr (fun e => by have := (HW.out.lt _ e.symm).1; omega))
              have HG := Lib.hid (HG.out.grown hgr (fun e => by have := (HW.out.lt _ e.symm).1; omega))
              have HW := Lib.hid hown'
              clear hown' hgr hA'
              have y2 := HG.out.cell 2
              have f2 := HG.out.thaw 2
              refine hK.out _ _ ?_
              clear hK K
              try simp only [Act.put, List.setIfInBounds_toArray, List.set_cons_zero, List.set_cons_succ]
              refine Rg.takeP (i := 14) (oi := { dst := some 68, op := Op.fieldAddr 35 (Operand.tmp 6) 2, type := 0, pos := "links.go:311", after := #[{ on := 0, ground := Ground.phase }, { on := 1, ground := Ground.phase }, { on := 2, ground := Ground.phase }, { on := 3, ground := Ground.phase }, { on := 4, ground := Ground.phase }, { on := 5, ground := Ground.phase }, { on := 6, ground := Ground.phase }, { on := 7, ground := Ground.phase }, { on := 8, ground := Ground.phase }, { on := 9, ground := Ground.phase }, { on := 10, ground := Ground.phase }, { on := 11, ground := Ground.phase }, { on := 12, ground := Ground.phase }, { on := 13, ground := Ground.phase }], guard := none }) (v := ?_) rfl (by kernel_rfl) (fun _ _ _ h => h) (by rfl) ?_ ?_
              rotate_left 1
              · (intro w; go_simp; (try with_reducible rfl))
              try simp only [Act.put, List.setIfInBounds_toArray, List.set_cons_zero, List.set_cons_succ]
              refine Rg.oneR (i := 15) (oi := { dst := none, op := Op.store 33 (Operand.tmp 68) (Operand.tmp 67), type := 0, pos := "links.go:311", after := #[{ on := 14, ground := Ground.data }, { on := 13, ground := Ground.data }, { on := 13, ground := Ground.chain }, { on := 0, ground := Ground.phase }, { on := 1, ground := Ground.phase }, { on := 2, ground := Ground.phase }, { on := 3, ground := Ground.phase }, { on := 4, ground := Ground.phase }, { on := 5, ground := Ground.phase }, { on := 6, ground := Ground.phase }, { on := 7, ground := Ground.phase }, { on := 8, ground := Ground.phase }, { on := 9, ground := Ground.phase }, { on := 10, ground := Ground.phase }, { on := 11, ground := Ground.phase }, { on := 12, ground := Ground.phase }, { on := 13, ground := Ground.phase }], guard := none }) rfl (by kernel_rfl) ?_
              refine Rg.stepF ?_ ?_
              · kernel_rfl
              intro K hK
              go_simp
              refine hK.out _ _ ?_
              clear hK K
              try simp only [Act.put, List.setIfInBounds_toArray, List.set_cons_zero, List.set_cons_succ]
              refine Rg.doneR (by kernel_rfl) ?_ _
              refine NoPanic.normal ?_
              go_wp2_with fail
              refine ⟨⟨j + 1, A', c', by omega, by go_num, H1.out.other (p := ⟨w.heap.size + 1 + 1 + 1, 2, none⟩) (by show w.heap.size ≠ w.heap.size + 1 + 1 + 1; omega) _, H3.out.other (p := ⟨w.heap.size + 1 + 1 + 1, 2, none⟩) (by show w.heap.size + 1 + 1 ≠ w.heap.size + 1 + 1 + 1; omega) _, HG.out.set 2 _, ?_, HB.out.setCell (p := ⟨w.heap.size + 1 + 1 + 1, 2, none⟩) (by show w.heap.size ≤ w.heap.size + 1 + 1 + 1; omega) _⟩, by simp [intOf]; omega⟩
              rw [List.range_succ, List.map_append, List.map_singleton, HA.out]
              exact own_setCell (g := w.heap.size + 1 + 1 + 1) HW.out (by omega) _
            · have hd : decide (0 < T) = false := decide_eq_false ht
              have HA := Lib.hid (show agrees L I j = false by unfold agrees; rw [show tot I 4 = 0 by have := HTT.out; omega]; rfl)
              clear ht
              refine Rg.beginR [1] (fun w' => Blk w' w.heap.size 28 RL ∧ Blk w' (w.heap.size + 1 + 1 + 1) 35 #[.int .i64 V, .bool (strong L I), .slice A j c]) (by kernel_rfl) ?_
              generalize wr.drew = V0 at *
              refine Rg.takeP (i := 0) (oi := { dst := some 54, op := Op.fieldAddr 35 (Operand.tmp 6) 2, type := 0, pos := "links.go:311", after := #[], guard := none }) (v := ?_) rfl (by kernel_rfl) (fun _ _ _ h => h) (by rfl) ?_ ?_
              rotate_left 1
              · (intro w; go_simp; (try with_reducible rfl))
              try simp only [Act.put, List.setIfInBounds_toArray, List.set_cons_zero, List.set_cons_succ]
              refine Rg.takeS (i := 1) (oi := { dst := some 55, op := Op.load 33 (Operand.tmp 54), type := 33, pos := "links.go:311", after := #[{ on := 0, ground := Ground.data }], guard := none }) (v := ?_) rfl (by kernel_rfl) (fun _ _ _ h => h) (by rfl) HS ?_ ?_
              rotate_left 1
              · (intro w' hSw; have y := hSw.2.cell 2; (try simp only [List.getElem?_toArray, List.getElem?_cons_zero, List.getElem?_cons_succ] at y); go_simp; (try with_reducible rfl))
              try simp only [Act.put, List.setIfInBounds_toArray, List.set_cons_zero, List.set_cons_succ]
              refine Rg.takeP (i := 2) (oi := { dst := some 56, op := Op.move (Operand.tmp 7), type := 3, pos := "links.go:311", after := #[], guard := none }) (v := ?_) rfl (by kernel_rfl) (fun _ _ _ h => h) (by rfl) ?_ ?_
              rotate_left 1
              · (intro w; go_simp; (try with_reducible rfl))
              try simp only [Act.put, List.setIfInBounds_toArray, List.set_cons_zero, List.set_cons_succ]
              refine Rg.takeP (i := 3) (oi := { dst := some 57, op := Op.binOp BinOp.gtr 3 (Operand.tmp 56) (Operand.const (Value.int IntKind.i64 0)) 3, type := 4, pos := "links.go:311", after := #[{ on := 2, ground := Ground.data }], guard := none }) (v := ?_) rfl (by kernel_rfl) (fun _ _ _ h => h) (by rfl) ?_ ?_
              rotate_left 1
              · (intro w; go_simp; (try simp only [hd]); (try with_reducible rfl))
              try simp only [Act.put, List.setIfInBounds_toArray, List.set_cons_zero, List.set_cons_succ]
              refine Rg.takeP (i := 4) (oi := { dst := some 58, op := Op.move (Operand.tmp 57), type := 4, pos := "links.go:311", after := #[{ on := 3, ground := Ground.data }], guard := none }) (v := ?_) rfl (by kernel_rfl) (fun _ _ _ h => h) (by rfl) ?_ ?_
              rotate_left 1
              · (intro w; go_simp; (try with_reducible rfl))
              try simp only [Act.put, List.setIfInBounds_toArray, List.set_cons_zero, List.set_cons_succ]
              refine Rg.takeN (i := 5) (oi := { dst := some 59, op := Op.move (Operand.tmp 9), type := 3, pos := "links.go:311", after := #[{ on := 4, ground := Ground.guard }], guard := some (4, true) }) rfl (by kernel_rfl) (fun _ _ _ h => h) (by rfl) ?_
              try simp only [Act.put, List.setIfInBounds_toArray, List.set_cons_zero, List.set_cons_succ]
              refine Rg.takeN (i := 6) (oi := { dst := some 60, op := Op.indexAddr 28 (Operand.tmp 2) (Operand.tmp 59), type := 0, pos := "links.go:311", after := #[{ on := 5, ground := Ground.data }, { on := 4, ground := Ground.guard }], guard := some (4, true) }) rfl (by kernel_rfl) (fun _ _ _ h => h) (by rfl) ?_
              try simp only [Act.put, List.setIfInBounds_toArray, List.set_cons_zero, List.set_cons_succ]
              refine Rg.takeN (i := 7) (oi := { dst := some 61, op := Op.load 3 (Operand.tmp 60), type := 3, pos := "links.go:311", after := #[{ on := 6, ground := Ground.data }, { on := 4, ground := Ground.guard }], guard := some (4, true) }) rfl (by kernel_rfl) (fun _ _ _ h => h) (by rfl) ?_
              try simp only [Act.put, List.setIfInBounds_toArray, List.set_cons_zero, List.set_cons_succ]
              refine Rg.takeN (i := 8) (oi := { dst := some 62, op := Op.fieldAddr 35 (Operand.tmp 6) 0, type := 0, pos := "links.go:311", after := #[{ on := 4, ground := Ground.guard }], guard := some (4, true) }) rfl (by kernel_rfl) (fun _ _ _ h => h) (by rfl) ?_
              try simp only [Act.put, List.setIfInBounds_toArray, List.set_cons_zero, List.set_cons_succ]
              refine Rg.takeN (i := 9) (oi := { dst := some 63, op := Op.load 3 (Operand.tmp 62), type := 3, pos := "links.go:311", after := #[{ on := 8, ground := Ground.data }, { on := 4, ground := Ground.guard }], guard := some (4, true) }) rfl (by kernel_rfl) (fun _ _ _ h => h) (by rfl) ?_
              try simp only [Act.put, List.setIfInBounds_toArray, List.set_cons_zero, List.set_cons_succ]
              refine Rg.takeN (i := 10) (oi := { dst := some 64, op := Op.binOp BinOp.eql 3 (Operand.tmp 61) (Operand.tmp 63) 3, type := 4, pos := "links.go:311", after := #[{ on := 7, ground := Ground.data }, { on := 9, ground := Ground.data }, { on := 4, ground := Ground.guard }], guard := some (4, true) }) rfl (by kernel_rfl) (fun _ _ _ h => h) (by rfl) ?_
              try simp only [Act.put, List.setIfInBounds_toArray, List.set_cons_zero, List.set_cons_succ]
              refine Rg.takeP (i := 11) (oi := { dst := some 65, op := Op.pick (Operand.tmp 58) (Operand.tmp 64) (Operand.const (Value.bool false)), type := 4, pos := "links.go:311", after := #[{ on := 4, ground := Ground.data }, { on := 10, ground := Ground.data }], guard := none }) (v := ?_) rfl (by kernel_rfl) (fun _ _ _ h => h) (by rfl) ?_ ?_
              rotate_left 1
              · (intro w; go_simp; (try with_reducible rfl))
              try simp only [Act.put, List.setIfInBounds_toArray, List.set_cons_zero, List.set_cons_succ]
              refine Rg.oneR (i := 12) (oi := { dst := some 66, op := Op.buildSlice 33 1 #[(0, Operand.tmp 65)], type := 33, pos := "links.go:311", after := #[{ on := 11, ground := Ground.data }], guard := none }) rfl (by kernel_rfl) ?_
              refine Rg.stepS ?_
              intro K hK
              go_simp
              have HN : Hid (Rd (V0.alloc (.cells #[.bool false] 4)) (V0.heap.size + 1) 1 (some ⟨V0.heap.size, 0, none⟩) 1 [.bool false]) := Lib.hid (rd_one _ _ _)
              have HW := Lib.hid (ownsRow_below HW.out ((Below.refl V0.heap.size V0).alloc (Nat.le_refl _) (.cells #[.bool false] 4)))
              have HB := Lib.hid (HB.out.alloc HB.out.size (.cells #[.bool false] 4))
              have H1 := Lib.hid (H1.out.alloc (.cells #[.bool false] 4))
              have H3 := Lib.hid (H3.out.alloc (.cells #[.bool false] 4))
              have HG := Lib.hid (HG.out.alloc (.cells #[.bool false] 4))
              have hbs := HG.out.lt
              generalize (V0.alloc (.cells #[.bool false] 4)) = V1 at *
              generalize V0.heap.size = nb at *
              clear HS
              have HS := And.intro H1.out HG.out
              refine hK.out _ _ HS ?_
              clear hK K
              try simp only [Act.put, List.setIfInBounds_toArray, List.set_cons_zero, List.set_cons_succ]
              refine Rg.oneR (i := 13) (oi := { dst := some 67, op := Op.call { callee := Callee.builtin Builtin.append, args := #[Operand.tmp 55, Operand.tmp 66], argTypes := #[33, 33] }, type := 33, pos := "links.go:311", after := #[{ on := 1, ground := Ground.data }, { on := 12, ground := Ground.data }, { on := 4, ground := Ground.chain }], guard := none }) rfl (by kernel_rfl) ?_
              refine Rg.stepF ?_ ?_
              · kernel_rfl
              intro K hK
              rw [if_pos (by rfl)]
              refine wp_append_rd _ (.tmp 55) (.tmp 66) 33 rfl (base := w.heap.size + 1 + 1 + 1 + 1) elemBools rfl HW.out rfl (fun h => by cases h) HN.out (by simp [Value.oneCell']) (by unfold maxLen; omega) (by omega) (by omega) ?_
              intro A' c' V2 hA' hown' hgr
              have HB := Lib.hid (HB.out.grown hgr HB.out.size (fun g e => Nat.le_trans (by omega) (HW.out.lt g e).1))
              have H1 := Lib.hid (H1.out.grown hgr (fun e => by have := (HW.out.lt _ e.symm).1; omega))
              have H3 := Lib.hid (H3.out.grown hgr (fun e => by have := (HW.out.lt _ e.symm).1; omega))
              have HG := Lib.hid (HG.out.grown hgr (fun e => by have := (HW.out.lt _ e.symm).1; omega))
              have HW := Lib.hid hown'
              clear hown' hgr hA'
              have y2 := HG.out.cell 2
              have f2 := HG.out.thaw 2
              refine hK.out _ _ ?_
              clear hK K
              try simp only [Act.put, List.setIfInBounds_toArray, List.set_cons_zero, List.set_cons_succ]
              refine Rg.takeP (i := 14) (oi := { dst := some 68, op := Op.fieldAddr 35 (Operand.tmp 6) 2, type := 0, pos := "links.go:311", after := #[{ on := 0, ground := Ground.phase }, { on := 1, ground := Ground.phase }, { on := 2, ground := Ground.phase }, { on := 3, ground := Ground.phase }, { on := 4, ground := Ground.phase }, { on := 5, ground := Ground.phase }, { on := 6, ground := Ground.phase }, { on := 7, ground := Ground.phase }, { on := 8, ground := Ground.phase }, { on := 9, ground := Ground.phase }, { on := 10, ground := Ground.phase }, { on := 11, ground := Ground.phase }, { on := 12, ground := Ground.phase }, { on := 13, ground := Ground.phase }], guard := none }) (v := ?_) rfl (by kernel_rfl) (fun _ _ _ h => h) (by rfl) ?_ ?_
              rotate_left 1
              · (intro w; go_simp; (try with_reducible rfl))
              try simp only [Act.put, List.setIfInBounds_toArray, List.set_cons_zero, List.set_cons_succ]
              refine Rg.oneR (i := 15) (oi := { dst := none, op := Op.store 33 (Operand.tmp 68) (Operand.tmp 67), type := 0, pos := "links.go:311", after := #[{ on := 14, ground := Ground.data }, { on := 13, ground := Ground.data }, { on := 13, ground := Ground.chain }, { on := 0, ground := Ground.phase }, { on := 1, ground := Ground.phase }, { on := 2, ground := Ground.phase }, { on := 3, ground := Ground.phase }, { on := 4, ground := Ground.phase }, { on := 5, ground := Ground.phase }, { on := 6, ground := Ground.phase }, { on := 7, ground := Ground.phase }, { on := 8, ground := Ground.phase }, { on := 9, ground := Ground.phase }, { on := 10, ground := Ground.phase }, { on := 11, ground := Ground.phase }, { on := 12, ground := Ground.phase }, { on := 13, ground := Ground.phase }], guard := none }) rfl (by kernel_rfl) ?_
              refine Rg.stepF ?_ ?_
              · kernel_rfl
              intro K hK
              go_simp
              refine hK.out _ _ ?_
              clear hK K
              try simp only [Act.put, List.setIfInBounds_toArray, List.set_cons_zero, List.set_cons_succ]
              refine Rg.doneR (by kernel_rfl) ?_ _
              refine NoPanic.normal ?_
              go_wp2_with fail
              refine ⟨⟨j + 1, A', c', by omega, by go_num, H1.out.other (p := ⟨w.heap.size + 1 + 1 + 1, 2, none⟩) (by show w.heap.size ≠ w.heap.size + 1 + 1 + 1; omega) _, H3.out.other (p := ⟨w.heap.size + 1 + 1 + 1, 2, none⟩) (by show w.heap.size + 1 + 1 ≠ w.heap.size + 1 + 1 + 1; omega) _, HG.out.set 2 _, ?_, HB.out.setCell (p := ⟨w.heap.size + 1 + 1 + 1, 2, none⟩) (by show w.heap.size ≤ w.heap.size + 1 + 1 + 1; omega) _⟩, by simp [intOf]; omega⟩
              rw [List.range_succ, List.map_append, List.map_singleton, HA.out]
              exact own_setCell (g := w.heap.size + 1 + 1 + 1) HW.out (by omega) _
          · obtain rfl : j = 4 := by omega
            clear hlt
            go_wp2_with (first
              | (refine wpList_whole rfl 35 _ rfl (w.heap.size + 1 + 1 + 1) rfl HG.out _ Try.underlying35 rfl (by kernel_rfl) ?_)
              | (refine wpList_store_row rfl 35 _ _ rfl (w.heap.size + 1 + 1) #[.int .i64 V, .bool (strong L I), .slice A 4 c] rfl rfl 35 _ H3.out (by kernel_rfl) rfl (by simp [Value.oneCell']) ?_))
            have hw := own_setRow HW.out (show w.heap.size + 1 + 1 < w.heap.size + 1 + 1 + 1 + 1 by omega) #[.int .i64 V, .bool (strong L I), .slice A 4 c]
            exact ret_row rfl rfl (H3.out.setRow _) Try.underlying35 rfl (by kernel_rfl) rfl ⟨A, c, by rw [HVV.out]; rfl, Rd.of_own hw, below_setRow HB.out (by omega) _, fun a h => Nat.le_trans (by omega) (own_lo HW.out a h), own_cap HW.out⟩
end Go.Proofs.Ytjfllpmiajkenaa.Vt
