/- Contract: the closure left of the reference's Factor. -/
import Derived.Test.YtejefecglioifaaLess
namespace Go.Proofs.Ytejefecglioifaa.BigW
open Go.RowKit Go.Proofs.Ytejefecglioifaa.Mem Go.Proofs.Ytejefecglioifaa.BigLaw Go.Proofs.Ytejefecglioifaa.Rws Go.Proofs.Ytejefecglioifaa.Ints Go.Proofs.Ytejefecglioifaa.Mats
set_option linter.unusedVariables false
set_option linter.unusedSimpArgs false

theorem row6_cell {w : World} {gl : Nat} {L : Nat → Nat → Int} (h : Blk w gl 57 (rowF .i64 36 fun q => L (q / 6) (q % 6))) {i k : Nat} (hi : i < 6) (hk : k < 6) : w.cell? ⟨gl, i * 6 + k, none⟩ = some (.int .i64 (L i k)) := by
  have h1 : (i * 6 + k) / 6 = i := by omega
  have h2 : (i * 6 + k) % 6 = k := by omega
  have h3 := h.cell (i * 6 + k)
  rw [rowF_at _ _ _ _ (by omega), h1, h2] at h3
  exact h3

set_option maxRecDepth 100000 in
set_option maxHeartbeats 2000000 in
theorem left_any' (N i j : Nat) (A A' : Option Addr) (c c' : Nat) (zs D : List Int) (L : Nat → Nat → Int) (gm gn gp gl gd gk : Nat) (x : Bool) (w : World) (h6 : N ≤ 6) (hi : i < N) (hj : j < N) (hl : zs.length = N * N) (hjD : j ≤ D.length)
    (hm : Blk w gm 24 #[.int .i64 (N : Int), .slice A zs.length c]) (hn : Blk w gn 3 #[.int .i64 (N : Int)]) (hp : Blk w gp 53 #[.pointer (some ⟨gk, 0, none⟩)]) (hrow : Blk w gl 57 (rowF .i64 36 fun q => L (q / 6) (q % 6))) (hd : Blk w gd 22 #[.slice A' D.length c']) (hk : Bent w 55 gk x)
    (hr : Rd w w.heap.size 1 A zs.length (intsV zs)) (hD : Rd w w.heap.size 1 A' D.length (intsV D)) (hDne : 0 < D.length → ∀ b o, A' = some ⟨b, o, none⟩ → b ≠ gk) (n1 : gp ≠ gk) (n2 : gl ≠ gk) (n3 : gd ≠ gk) (hz : In64 (zs.getD (i * N + j) 0)) (hL : ∀ a b, In64 (L a b)) (hDr : ∀ k, In64 (D.getD k 0)) :
    Calls Try.prog 29 #[.int .i64 (i : Int), .int .i64 (j : Int), .pointer (some ⟨gm, 0, none⟩), .pointer (some ⟨gn, 0, none⟩), .pointer (some ⟨gp, 0, none⟩), .pointer (some ⟨gl, 0, none⟩), .pointer (some ⟨gd, 0, none⟩)] w fun e w' => Stepd w w' 55 gk x (lessF (L i) (L j) (fun k => D.getD k 0) (zs.getD (i * N + j) 0) j) e := by
  have h36 := sq_36 h6
  have hij : i * N + j < zs.length := by rw [hl]; exact sq_idx hi hj
  obtain ⟨ba, oa, u, rfl, hbA, hu, hca⟩ := hr.at hij
  rw [intsV_at zs _ hij] at hu
  injection hu with hu
  subst hu
  rw [← getD_of hij] at hca
  have hzl : zs.length ≤ 36 := by omega
  obtain ⟨s0, hs0⟩ : ∃ s, zs.getD (i * N + j) 0 = s := ⟨_, rfl⟩
  rw [hs0] at hca hz ⊢
  clear hs0
  obtain ⟨qi, hqi⟩ : ∃ q, i * N = q := ⟨_, rfl⟩
  have hqi1 : (i : Int) * (N : Int) = (qi : Int) := by rw [← hqi]; push_cast; rfl
  rw [hqi] at hij hca
  clear hqi
  have hz36 : (zs.length : Int) ≤ 36 := by omega
  have h1 : (qi : Int) + (j : Int) < (zs.length : Int) := by omega
  have t1 : ((qi : Int) + (j : Int)).toNat = qi + j := by omega
  have w1 : IntKind.i64.wrap (qi : Int) = (qi : Int) := IntWalk.i64_in _ (by omega)
  have w3 : IntKind.i64.wrap ((qi : Int) + (j : Int)) = (qi : Int) + (j : Int) := IntWalk.i64_in _ (by omega)
  have p1 : (0 : Int) ≤ (qi : Int) + (j : Int) := by omega
  have m0 : w.cell? ⟨gm, 0, none⟩ = some (.int .i64 (N : Int)) := (hm.cell 0).trans rfl
  have m1 : w.cell? ⟨gm, 1, none⟩ = some (.slice (some ⟨ba, oa, none⟩) zs.length c) := (hm.cell 1).trans rfl
  have m2 : w.cell? ⟨gn, 0, none⟩ = some (.int .i64 (N : Int)) := (hn.cell 0).trans rfl
  have HP := Lib.hid hp
  have HROW := Lib.hid hrow
  have HDC := Lib.hid hd
  have HK := Lib.hid hk
  have HD := Lib.hid hD
  have HDne := Lib.hid hDne
  have HL := Lib.hid hL
  have HDr := Lib.hid hDr
  have r_0 := Lib.hid hz
  have HN6 := Lib.hid h6
  have hca : w.cell? ⟨ba, oa + (qi + j), none⟩ = some (.int .i64 s0) := hca
  clear hm hn hp hrow hd hk hr hD hDne hL hDr hz hl h6 h36
  go_enter Try.func29, Try.ntmps29
  go_wp2_with fail
  clear hca m0 m1 m2 hqi1 h1 t1 w1 w3 p1 hz36 hij hbA
  go_loopw [10, 11] (fun s k wr => ∃ kx : Nat, kx ≤ j ∧ k = .int .i64 kx ∧ s = .int .i64 (lessF (L i) (L j) (fun k => D.getD k 0) s0 kx).1 ∧ Bent wr 55 gk (x || (lessF (L i) (L j) (fun k => D.getD k 0) s0 kx).2) ∧ w.grownBy wr (some gk)) (fun _ k _ => j - (intOf k).toNat)
  case atStart => exact ⟨0, by omega, rfl, rfl, by have h := HK.out; simpa [lessF] using h, grown_same _ _⟩
  case round =>
    clear HK
    obtain ⟨kx, hkx, rfl, rfl, hk, hg⟩ := hrel
    have HK := Lib.hid hk
    have HG := Lib.hid hg
    clear hk hg
    have r_s := Lib.hid (lessF_range (L i) (L j) (fun k => D.getD k 0) r_0.out kx)
    by_cases hlt : kx < j
    · have HCH := Lib.hid (show (lessF (L i) (L j) (fun k => D.getD k 0) s0 (kx + 1)) = ((fsub (lessF (L i) (L j) (fun k => D.getD k 0) s0 kx).1 (fmul (fmul (L i kx) (L j kx)).1 (D.getD kx 0)).1).1, (lessF (L i) (L j) (fun k => D.getD k 0) s0 kx).2 || (fmul (L i kx) (L j kx)).2 || (fmul (fmul (L i kx) (L j kx)).1 (D.getD kx 0)).2 || (fsub (lessF (L i) (L j) (fun k => D.getD k 0) s0 kx).1 (fmul (fmul (L i kx) (L j kx)).1 (D.getD kx 0)).1).2) from rfl)
      have hKD : kx < D.length := by omega
      have hN6 := HN6.out
      obtain ⟨bd, od, u, rfl, hbD, hu, hcd⟩ := (rd_apart HD.out HG.out (Nat.le_refl _) HDne.out).at hKD
      rw [intsV_at D _ hKD] at hu
      injection hu with hu
      subst hu
      rw [← getD_of hKD] at hcd
      have HNE := Lib.hid (HDne.out (by omega) bd od rfl)
      have r_a := Lib.hid (HL.out i kx)
      have r_b := Lib.hid (HL.out j kx)
      have r_d := Lib.hid (HDr.out kx)
      have hce := row6_cell (HROW.out.grown HG.out (neq_of n2)) (show i < 6 by omega) (show kx < 6 by omega)
      have hcf := row6_cell (HROW.out.grown HG.out (neq_of n2)) (show j < 6 by omega) (show kx < 6 by omega)
      generalize (lessF (L i) (L j) (fun k => D.getD k 0) s0 kx) = ch at *
      obtain ⟨s, cb⟩ := ch
      simp only at HCH r_s HK ⊢
      obtain ⟨a, ha⟩ : ∃ a, L i kx = a := ⟨_, rfl⟩
      obtain ⟨b, hb⟩ : ∃ b, L j kx = b := ⟨_, rfl⟩
      obtain ⟨dk, hdk⟩ : ∃ a, D.getD kx 0 = a := ⟨_, rfl⟩
      rw [ha] at HCH r_a hce
      rw [hb] at HCH r_b hcf
      rw [hdk] at HCH r_d hcd
      clear ha hb hdk
      obtain ⟨⟨p, pb⟩, hp⟩ : ∃ r, fmul a b = r := ⟨_, rfl⟩
      have r_p := Lib.hid (show In64 p from by have h := fmul_range a b; rw [hp] at h; exact h)
      have P_ := Lib.hid hp
      rw [hp] at HCH
      simp only at HCH
      obtain ⟨⟨q, qb⟩, hq⟩ : ∃ r, fmul p dk = r := ⟨_, rfl⟩
      have r_q := Lib.hid (show In64 q from by have h := fmul_range p dk; rw [hq] at h; exact h)
      have Q_ := Lib.hid hq
      rw [hq] at HCH
      simp only at HCH
      obtain ⟨⟨t, tb⟩, ht⟩ : ∃ r, fsub s q = r := ⟨_, rfl⟩
      have T_ := Lib.hid ht
      rw [ht] at HCH
      clear hp hq ht
      have hlt1 : (kx : Int) < (j : Int) := by omega
      have hKD1 : (kx : Int) < (D.length : Int) := by omega
      have hi6 : (i : Int) < 6 := by omega
      have hj6 : (j : Int) < 6 := by omega
      have hK6 : (kx : Int) < 6 := by omega
      have HC := Lib.hid (And.intro ((HP.out.grown HG.out (neq_of n1)).cell 0) (And.intro hce (And.intro hcf (And.intro ((HDC.out.grown HG.out (neq_of n3)).cell 0) hcd))))
      have hbw : bd < wr.heap.size := Nat.lt_of_lt_of_le hbD HG.out.size
      clear hce hcf hcd
      go_upto_region 5 with fail
      have HK := Lib.hid (Blk.drew HK.out)
      have HG := Lib.hid (HG.out.trans (grown_of_below (row := some gk) ((Below.refl wr.heap.size wr).drew)))
      have HS : (fun w' => w'.cell? ⟨gp, 0, none⟩ = some (.pointer (some ⟨gk, 0, none⟩)) ∧ w'.cell? ⟨gl, i * 6 + kx, none⟩ = some (.int .i64 a) ∧ w'.cell? ⟨gl, j * 6 + kx, none⟩ = some (.int .i64 b)) wr.drew := And.intro (HC.out.1.trans rfl) (And.intro HC.out.2.1 HC.out.2.2.1)
      refine wp_region_noPanic ?_
      refine Rg.beginR [0, 5, 10] (fun w' => w'.cell? ⟨gp, 0, none⟩ = some (.pointer (some ⟨gk, 0, none⟩)) ∧ w'.cell? ⟨gl, i * 6 + kx, none⟩ = some (.int .i64 a) ∧ w'.cell? ⟨gl, j * 6 + kx, none⟩ = some (.int .i64 b)) (by kernel_rfl) ?_
      have HC6 : Hid (wr.drew.cell? ⟨gp, 0, none⟩ = some (.pointer (some ⟨gk, 0, none⟩)) ∧ wr.drew.cell? ⟨gd, 0, none⟩ = some (.slice (some ⟨bd, od, none⟩) D.length c') ∧ wr.drew.cell? ⟨bd, od + kx, none⟩ = some (.int .i64 dk)) := Lib.hid (And.intro (HC.out.1.trans rfl) (And.intro (HC.out.2.2.2.1.trans rfl) HC.out.2.2.2.2))
      have hbw : bd < wr.drew.heap.size := hbw
      clear HC
      generalize wr.drew = w1' at *
      refine Rg.takeS (i := 0) (oi := { dst := some 27, op := Op.load 53 (Operand.tmp 4), type := 53, pos := "number.go:297", after := #[], guard := none }) (v := ?_) rfl (by kernel_rfl) (fun _ _ _ h => h) (by rfl) HS ?_ ?_
      rotate_left 1
      · (intro w hSw; (try dsimp only at hSw); (try go_split_ands); go_simp; (try with_reducible rfl))
      try simp only [Act.put, List.setIfInBounds_toArray, List.set_cons_zero, List.set_cons_succ]
      refine Rg.takeP (i := 1) (oi := { dst := some 28, op := Op.move (Operand.tmp 0), type := 3, pos := "number.go:297", after := #[], guard := none }) (v := ?_) rfl (by kernel_rfl) (fun _ _ _ h => h) (by rfl) ?_ ?_
      rotate_left 1
      · (intro w; go_simp; (try with_reducible rfl))
      try simp only [Act.put, List.setIfInBounds_toArray, List.set_cons_zero, List.set_cons_succ]
      refine Rg.takeP (i := 2) (oi := { dst := some 29, op := Op.move (Operand.tmp 11), type := 3, pos := "number.go:297", after := #[], guard := none }) (v := ?_) rfl (by kernel_rfl) (fun _ _ _ h => h) (by rfl) ?_ ?_
      rotate_left 1
      · (intro w; go_simp; (try with_reducible rfl))
      try simp only [Act.put, List.setIfInBounds_toArray, List.set_cons_zero, List.set_cons_succ]
      refine Rg.takeP (i := 3) (oi := { dst := some 30, op := Op.indexAddr 57 (Operand.tmp 5) (Operand.tmp 28), type := 0, pos := "number.go:297", after := #[{ on := 1, ground := Ground.data }], guard := none }) (v := ?_) rfl (by kernel_rfl) (fun _ _ _ h => h) (by rfl) ?_ ?_
      rotate_left 1
      · (intro w; go_simp; (try with_reducible rfl))
      try simp only [Act.put, List.setIfInBounds_toArray, List.set_cons_zero, List.set_cons_succ]
      refine Rg.takeP (i := 4) (oi := { dst := some 31, op := Op.indexAddr 56 (Operand.tmp 30) (Operand.tmp 29), type := 0, pos := "number.go:297", after := #[{ on := 3, ground := Ground.data }, { on := 2, ground := Ground.data }], guard := none }) (v := ?_) rfl (by kernel_rfl) (fun _ _ _ h => h) (by rfl) ?_ ?_
      rotate_left 1
      · (intro w; go_simp; (try with_reducible rfl))
      try simp only [Act.put, List.setIfInBounds_toArray, List.set_cons_zero, List.set_cons_succ]
      refine Rg.takeS (i := 5) (oi := { dst := some 32, op := Op.load 3 (Operand.tmp 31), type := 3, pos := "number.go:297", after := #[{ on := 4, ground := Ground.data }], guard := none }) (v := ?_) rfl (by kernel_rfl) (fun _ _ _ h => h) (by rfl) HS ?_ ?_
      rotate_left 1
      · (intro w hSw; (try dsimp only at hSw); (try go_split_ands); go_simp; (try with_reducible rfl))
      try simp only [Act.put, List.setIfInBounds_toArray, List.set_cons_zero, List.set_cons_succ]
      refine Rg.takeP (i := 6) (oi := { dst := some 33, op := Op.move (Operand.tmp 1), type := 3, pos := "number.go:297", after := #[], guard := none }) (v := ?_) rfl (by kernel_rfl) (fun _ _ _ h => h) (by rfl) ?_ ?_
      rotate_left 1
      · (intro w; go_simp; (try with_reducible rfl))
      try simp only [Act.put, List.setIfInBounds_toArray, List.set_cons_zero, List.set_cons_succ]
      refine Rg.takeP (i := 7) (oi := { dst := some 34, op := Op.move (Operand.tmp 11), type := 3, pos := "number.go:297", after := #[], guard := none }) (v := ?_) rfl (by kernel_rfl) (fun _ _ _ h => h) (by rfl) ?_ ?_
      rotate_left 1
      · (intro w; go_simp; (try with_reducible rfl))
      try simp only [Act.put, List.setIfInBounds_toArray, List.set_cons_zero, List.set_cons_succ]
      refine Rg.takeP (i := 8) (oi := { dst := some 35, op := Op.indexAddr 57 (Operand.tmp 5) (Operand.tmp 33), type := 0, pos := "number.go:297", after := #[{ on := 6, ground := Ground.data }], guard := none }) (v := ?_) rfl (by kernel_rfl) (fun _ _ _ h => h) (by rfl) ?_ ?_
      rotate_left 1
      · (intro w; go_simp; (try with_reducible rfl))
      try simp only [Act.put, List.setIfInBounds_toArray, List.set_cons_zero, List.set_cons_succ]
      refine Rg.takeP (i := 9) (oi := { dst := some 36, op := Op.indexAddr 56 (Operand.tmp 35) (Operand.tmp 34), type := 0, pos := "number.go:297", after := #[{ on := 8, ground := Ground.data }, { on := 7, ground := Ground.data }], guard := none }) (v := ?_) rfl (by kernel_rfl) (fun _ _ _ h => h) (by rfl) ?_ ?_
      rotate_left 1
      · (intro w; go_simp; (try with_reducible rfl))
      try simp only [Act.put, List.setIfInBounds_toArray, List.set_cons_zero, List.set_cons_succ]
      refine Rg.takeS (i := 10) (oi := { dst := some 37, op := Op.load 3 (Operand.tmp 36), type := 3, pos := "number.go:297", after := #[{ on := 9, ground := Ground.data }], guard := none }) (v := ?_) rfl (by kernel_rfl) (fun _ _ _ h => h) (by rfl) HS ?_ ?_
      rotate_left 1
      · (intro w hSw; (try dsimp only at hSw); (try go_split_ands); go_simp; (try with_reducible rfl))
      try simp only [Act.put, List.setIfInBounds_toArray, List.set_cons_zero, List.set_cons_succ]
      refine Rg.oneR (i := 11) (oi := { dst := some 38, op := Op.call { callee := Callee.value (Operand.func 30), args := #[Operand.tmp 27, Operand.tmp 32, Operand.tmp 37], argTypes := #[53, 3, 3] }, type := 3, pos := "number.go:297", after := #[{ on := 0, ground := Ground.data }, { on := 5, ground := Ground.data }, { on := 10, ground := Ground.data }], guard := none }) rfl (by kernel_rfl) ?_
      refine Rg.stepF ?_ ?_
      · kernel_rfl
      intro K hK
      rw [if_pos (by rfl)]
      go_simp
      go_at_call 30
      refine (rmul_any gk _ a b w1' HK.out r_a.out r_b.out).mono ?_
      intro e w2' hc
      rw [P_.out] at hc
      obtain ⟨rfl, hst, hg⟩ := hc
      dsimp only at hst
      have HK := Lib.hid hst
      have HG := Lib.hid (HG.out.trans hg)
      have HC6 := Lib.hid (And.intro ((HP.out.grown HG.out (neq_of n1)).cell 0) (And.intro ((HDC.out.grown HG.out (neq_of n3)).cell 0) ((grown_at hg hbw HNE.out _).trans HC6.out.2.2)))
      have hbw : bd < w2'.heap.size := Nat.lt_of_lt_of_le hbw hg.size
      clear hst hg
      (try clear HS)
      go_wp2_with fail
      refine hK.out _ _ ?_
      clear hK K
      try simp only [Act.put, List.setIfInBounds_toArray, List.set_cons_zero, List.set_cons_succ]
      refine Rg.takeP (i := 12) (oi := { dst := some 12, op := Op.assign (Operand.tmp 38), type := 3, pos := "number.go:297", after := #[{ on := 11, ground := Ground.data }, { on := 11, ground := Ground.chain }, { on := 0, ground := Ground.phase }, { on := 1, ground := Ground.phase }, { on := 2, ground := Ground.phase }, { on := 3, ground := Ground.phase }, { on := 4, ground := Ground.phase }, { on := 5, ground := Ground.phase }, { on := 6, ground := Ground.phase }, { on := 7, ground := Ground.phase }, { on := 8, ground := Ground.phase }, { on := 9, ground := Ground.phase }, { on := 10, ground := Ground.phase }, { on := 11, ground := Ground.phase }], guard := none }) (v := ?_) rfl (by kernel_rfl) (fun _ _ _ h => h) (by rfl) ?_ ?_
      rotate_left 1
      · (intro w; go_simp; (try with_reducible rfl))
      try simp only [Act.put, List.setIfInBounds_toArray, List.set_cons_zero, List.set_cons_succ]
      refine Rg.doneR (by kernel_rfl) ?_ _
      refine NoPanic.normal ?_
      go_upto_region 6 with fail
      have HK := Lib.hid (Blk.drew HK.out)
      have HG := Lib.hid (HG.out.trans (grown_of_below (row := some gk) ((Below.refl w2'.heap.size w2').drew)))
      have HS : (fun w' => w'.cell? ⟨gp, 0, none⟩ = some (.pointer (some ⟨gk, 0, none⟩)) ∧ w'.cell? ⟨gd, 0, none⟩ = some (.slice (some ⟨bd, od, none⟩) D.length c') ∧ w'.cell? ⟨bd, od + kx, none⟩ = some (.int .i64 dk)) w2'.drew := And.intro (HC6.out.1.trans rfl) (And.intro (HC6.out.2.1.trans rfl) HC6.out.2.2)
      refine wp_region_noPanic ?_
      refine Rg.beginR [0, 2, 5] (fun w' => w'.cell? ⟨gp, 0, none⟩ = some (.pointer (some ⟨gk, 0, none⟩)) ∧ w'.cell? ⟨gd, 0, none⟩ = some (.slice (some ⟨bd, od, none⟩) D.length c') ∧ w'.cell? ⟨bd, od + kx, none⟩ = some (.int .i64 dk)) (by kernel_rfl) ?_
      clear HC6 hbw
      generalize w2'.drew = w1' at *
      refine Rg.takeS (i := 0) (oi := { dst := some 39, op := Op.load 53 (Operand.tmp 4), type := 53, pos := "number.go:298", after := #[], guard := none }) (v := ?_) rfl (by kernel_rfl) (fun _ _ _ h => h) (by rfl) HS ?_ ?_
      rotate_left 1
      · (intro w hSw; (try dsimp only at hSw); (try go_split_ands); go_simp; (try with_reducible rfl))
      try simp only [Act.put, List.setIfInBounds_toArray, List.set_cons_zero, List.set_cons_succ]
      refine Rg.takeP (i := 1) (oi := { dst := some 40, op := Op.move (Operand.tmp 12), type := 3, pos := "number.go:298", after := #[], guard := none }) (v := ?_) rfl (by kernel_rfl) (fun _ _ _ h => h) (by rfl) ?_ ?_
      rotate_left 1
      · (intro w; go_simp; (try with_reducible rfl))
      try simp only [Act.put, List.setIfInBounds_toArray, List.set_cons_zero, List.set_cons_succ]
      refine Rg.takeS (i := 2) (oi := { dst := some 41, op := Op.load 22 (Operand.tmp 6), type := 22, pos := "number.go:298", after := #[], guard := none }) (v := ?_) rfl (by kernel_rfl) (fun _ _ _ h => h) (by rfl) HS ?_ ?_
      rotate_left 1
      · (intro w hSw; (try dsimp only at hSw); (try go_split_ands); go_simp; (try with_reducible rfl))
      try simp only [Act.put, List.setIfInBounds_toArray, List.set_cons_zero, List.set_cons_succ]
      refine Rg.takeP (i := 3) (oi := { dst := some 42, op := Op.move (Operand.tmp 11), type := 3, pos := "number.go:298", after := #[], guard := none }) (v := ?_) rfl (by kernel_rfl) (fun _ _ _ h => h) (by rfl) ?_ ?_
      rotate_left 1
      · (intro w; go_simp; (try with_reducible rfl))
      try simp only [Act.put, List.setIfInBounds_toArray, List.set_cons_zero, List.set_cons_succ]
      refine Rg.takeP (i := 4) (oi := { dst := some 43, op := Op.indexAddr 22 (Operand.tmp 41) (Operand.tmp 42), type := 0, pos := "number.go:298", after := #[{ on := 2, ground := Ground.data }, { on := 3, ground := Ground.data }], guard := none }) (v := ?_) rfl (by kernel_rfl) (fun _ _ _ h => h) (by rfl) ?_ ?_
      rotate_left 1
      · (intro w; go_simp; (try with_reducible rfl))
      try simp only [Act.put, List.setIfInBounds_toArray, List.set_cons_zero, List.set_cons_succ]
      refine Rg.takeS (i := 5) (oi := { dst := some 44, op := Op.load 3 (Operand.tmp 43), type := 3, pos := "number.go:298", after := #[{ on := 4, ground := Ground.data }], guard := none }) (v := ?_) rfl (by kernel_rfl) (fun _ _ _ h => h) (by rfl) HS ?_ ?_
      rotate_left 1
      · (intro w hSw; (try dsimp only at hSw); (try go_split_ands); go_simp; (try with_reducible rfl))
      try simp only [Act.put, List.setIfInBounds_toArray, List.set_cons_zero, List.set_cons_succ]
      refine Rg.oneR (i := 6) (oi := { dst := some 45, op := Op.call { callee := Callee.value (Operand.func 30), args := #[Operand.tmp 39, Operand.tmp 40, Operand.tmp 44], argTypes := #[53, 3, 3] }, type := 3, pos := "number.go:298", after := #[{ on := 0, ground := Ground.data }, { on := 1, ground := Ground.data }, { on := 5, ground := Ground.data }], guard := none }) rfl (by kernel_rfl) ?_
      refine Rg.stepF ?_ ?_
      · kernel_rfl
      intro K hK
      rw [if_pos (by rfl)]
      go_simp
      go_at_call 30
      refine (rmul_any gk _ p dk w1' HK.out r_p.out r_d.out).mono ?_
      intro e w2' hc
      rw [Q_.out] at hc
      obtain ⟨rfl, hst, hg⟩ := hc
      dsimp only at hst
      have HK := Lib.hid hst
      have HG := Lib.hid (HG.out.trans hg)
      clear hst hg
      (try clear HS)
      go_wp2_with fail
      refine hK.out _ _ ?_
      clear hK K
      try simp only [Act.put, List.setIfInBounds_toArray, List.set_cons_zero, List.set_cons_succ]
      refine Rg.takeP (i := 7) (oi := { dst := some 12, op := Op.assign (Operand.tmp 45), type := 3, pos := "number.go:298", after := #[{ on := 6, ground := Ground.data }, { on := 6, ground := Ground.chain }, { on := 0, ground := Ground.phase }, { on := 1, ground := Ground.phase }, { on := 2, ground := Ground.phase }, { on := 3, ground := Ground.phase }, { on := 4, ground := Ground.phase }, { on := 5, ground := Ground.phase }, { on := 6, ground := Ground.phase }], guard := none }) (v := ?_) rfl (by kernel_rfl) (fun _ _ _ h => h) (by rfl) ?_ ?_
      rotate_left 1
      · (intro w; go_simp; (try with_reducible rfl))
      try simp only [Act.put, List.setIfInBounds_toArray, List.set_cons_zero, List.set_cons_succ]
      refine Rg.doneR (by kernel_rfl) ?_ _
      refine NoPanic.normal ?_
      obtain ⟨w1', hw1'⟩ : ∃ x, w2' = x := ⟨_, rfl⟩
      rw [hw1'] at HK HG ⊢
      clear hw1'
      have kp : w1'.cell? ⟨gp, 0, none⟩ = some (.pointer (some ⟨gk, 0, none⟩)) := ((HP.out.grown HG.out (neq_of n1)).cell 0).trans rfl
      go_wp2_with fail
      refine (rsub_any gk _ s q w1' HK.out r_s.out r_q.out).mono ?_
      intro e w2' hc
      rw [T_.out] at hc
      obtain ⟨rfl, hst, hg⟩ := hc
      dsimp only at hst
      have HK := Lib.hid hst
      have HG := Lib.hid (HG.out.trans hg)
      clear hst hg kp
      go_wp2_with fail
      refine ⟨⟨kx + 1, by omega, by go_num, by rw [HCH.out], ?_, HG.out⟩, by simp [intOf]; omega⟩
      rw [HCH.out]
      have h := HK.out
      simp only [Bool.or_assoc] at h ⊢
      exact h
    · obtain rfl : j = kx := by omega
      clear hlt
      obtain ⟨⟨s, cb⟩, hch⟩ : ∃ ch, (lessF (L i) (L j) (fun k => D.getD k 0) s0 j) = ch := ⟨_, rfl⟩
      have HCH := Lib.hid hch
      rw [hch] at HK ⊢
      clear hch r_s
      simp only at HK ⊢
      go_wp2_with fail
      go_ret
      exact ⟨by rw [HCH.out]; rfl, by rw [HCH.out]; exact HK.out, HG.out⟩
end Go.Proofs.Ytejefecglioifaa.BigW
