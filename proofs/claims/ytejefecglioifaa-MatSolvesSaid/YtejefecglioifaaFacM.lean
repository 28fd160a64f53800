/- Contracts: the closure of the reference's Factor, the reference's Factor; both whatever they are given. -/
import Derived.Test.YtejefecglioifaaFactor
namespace Go.Proofs.Ytejefecglioifaa.BigW
open Go.RowKit Go.Proofs.Ytejefecglioifaa.Mem Go.Proofs.Ytejefecglioifaa.BigLaw Go.Proofs.Ytejefecglioifaa.Rws Go.Proofs.Ytejefecglioifaa.Ints Go.Proofs.Ytejefecglioifaa.Mats
set_option linter.unusedVariables false
set_option linter.unusedSimpArgs false


theorem row6_cell {w : World} {gl : Nat} {L : Nat → Nat → Int} (h : Blk w gl 57 (rowF .i64 36 fun q => L (q / 6) (q % 6))) {i k : Nat} (hi : i < 6) (hk : k < 6) : w.cell? ⟨gl, i * 6 + k, none⟩ = some (.int .i64 (L i k)) := by
  have h1 : (i * 6 + k) / 6 = i := by omega
  have h2 : (i * 6 + k) % 6 = k := by omega
  have h3 := h.cell (i * 6 + k)
  rw [rowF_at _ _ _ _ (by omega), h1, h2] at h3
  exact h3

set_option maxRecDepth 100000 in
set_option maxHeartbeats 2000000 in
theorem left_any' (N i j : Nat) (A A' : Option Addr) (c c' : Nat) (zs D : List Int) (L : Nat → Nat → Int) (gm gn gp gl gd gk : Nat) (x : Bool) (w : World) (h6 : N ≤ 6) (hi : i < N) (hj : j < N) (hl : zs.length = N * N) (hjD : j ≤ D.length)
    (hm : Blk w gm 24 #[.int .i64 (N : Int), .slice A zs.length c]) (hn : Blk w gn 3 #[.int .i64 (N : Int)]) (hp : Blk w gp 53 #[.pointer (some ⟨gk, 0, none⟩)]) (hrow : Blk w gl 57 (rowF .i64 36 fun q => L (q / 6) (q % 6))) (hd : Blk w gd 22 #[.slice A' D.length c']) (hk : Bent w 55 gk x)
    (hr : Rd w w.heap.size 1 A zs.length (intsV zs)) (hD : Rd w w.heap.size 1 A' D.length (intsV D)) (hDne : 0 < D.length → ∀ b o, A' = some ⟨b, o, none⟩ → b ≠ gk) (n1 : gp ≠ gk) (n2 : gl ≠ gk) (n3 : gd ≠ gk) (hz : In64 (zs.getD (i * N + j) 0)) (hL : ∀ a b, In64 (L a b)) (hDr : ∀ k, In64 (D.getD k 0)) :
    Calls Try.prog 29 #[.int .i64 (i : Int), .int .i64 (j : Int), .pointer (some ⟨gm, 0, none⟩), .pointer (some ⟨gn, 0, none⟩), .pointer (some ⟨gp, 0, none⟩), .pointer (some ⟨gl, 0, none⟩), .pointer (some ⟨gd, 0, none⟩)] w fun e w' => Stepd w w' 55 gk x (lessF (L i) (L j) (fun k => D.getD k 0) (zs.getD (i * N + j) 0) j) e := by
  have h36 := sq_36 h6
  have hij : i * N + j < zs.length := by rw [hl]; exact sq_idx hi hj
  obtain ⟨ba, oa, u, rfl, hbA, hu, hca⟩ := hr.at hij
  rw [intsV_at zs _ hij] at hu
  injection hu with hu
  subst hu
  rw [← getD_of hij] at hca
  have hzl : zs.length ≤ 36 := by omega
  obtain ⟨s0, hs0⟩ : ∃ s, zs.getD (i * N + j) 0 = s := ⟨_, rfl⟩
  rw [hs0] at hca hz ⊢
  clear hs0
  obtain ⟨qi, hqi⟩ : ∃ q, i * N = q := ⟨_, rfl⟩
  have hqi1 : (i : Int) * (N : Int) = (qi : Int) := by rw [← hqi]; push_cast; rfl
  rw [hqi] at hij hca
  clear hqi
  have hz36 : (zs.length : Int) ≤ 36 := by omega
  have h1 : (qi : Int) + (j : Int) < (zs.length : Int) := by omega
  have t1 : ((qi : Int) + (j : Int)).toNat = qi + j := by omega
  have w1 : IntKind.i64.wrap (qi : Int) = (qi : Int) := IntWalk.i64_in _ (by omega)
  have w3 : IntKind.i64.wrap ((qi : Int) + (j : Int)) = (qi : Int) + (j : Int) := IntWalk.i64_in _ (by omega)
  have p1 : (0 : Int) ≤ (qi : Int) + (j : Int) := by omega
  have m0 : w.cell? ⟨gm, 0, none⟩ = some (.int .i64 (N : Int)) := (hm.cell 0).trans rfl
  have m1 : w.cell? ⟨gm, 1, none⟩ = some (.slice (some ⟨ba, oa, none⟩) zs.length c) := (hm.cell 1).trans rfl
  have m2 : w.cell? ⟨gn, 0, none⟩ = some (.int .i64 (N : Int)) := (hn.cell 0).trans rfl
  have HP := Lib.hid hp
  have HROW := Lib.hid hrow
  have HDC := Lib.hid hd
  have HK := Lib.hid hk
  have HD := Lib.hid hD
  have HDne := Lib.hid hDne
  have HL := Lib.hid hL
  have HDr := Lib.hid hDr
  have r_0 := Lib.hid hz
  have HN6 := Lib.hid h6
  have hca : w.cell? ⟨ba, oa + (qi + j), none⟩ = some (.int .i64 s0) := hca
  clear hm hn hp hrow hd hk hr hD hDne hL hDr hz hl h6 h36
  go_enter Try.func29, Try.ntmps29
  go_wp2_with fail
  clear hca m0 m1 m2 hqi1 h1 t1 w1 w3 p1 hz36 hij hbA
  go_loopw [10, 11] (fun s k wr => ∃ kx : Nat, kx ≤ j ∧ k = .int .i64 kx ∧ s = .int .i64 (lessF (L i) (L j) (fun k => D.getD k 0) s0 kx).1 ∧ Bent wr 55 gk (x || (lessF (L i) (L j) (fun k => D.getD k 0) s0 kx).2) ∧ w.grownBy wr (some gk)) (fun _ k _ => j - (intOf k).toNat)
  case atStart => exact ⟨0, by omega, rfl, rfl, by have h := HK.out; simpa [lessF] using h, grown_same _ _⟩
  case round =>
    clear HK
    obtain ⟨kx, hkx, rfl, rfl, hk, hg⟩ := hrel
    have HK := Lib.hid hk
    have HG := Lib.hid hg
    clear hk hg
    have r_s := Lib.hid (lessF_range (L i) (L j) (fun k => D.getD k 0) r_0.out kx)
    by_cases hlt : kx < j
    · have HCH := Lib.hid (show (lessF (L i) (L j) (fun k => D.getD k 0) s0 (kx + 1)) = ((fsub (lessF (L i) (L j) (fun k => D.getD k 0) s0 kx).1 (fmul (fmul (L i kx) (L j kx)).1 (D.getD kx 0)).1).1, (lessF (L i) (L j) (fun k => D.getD k 0) s0 kx).2 || (fmul (L i kx) (L j kx)).2 || (fmul (fmul (L i kx) (L j kx)).1 (D.getD kx 0)).2 || (fsub (lessF (L i) (L j) (fun k => D.getD k 0) s0 kx).1 (fmul (fmul (L i kx) (L j kx)).1 (D.getD kx 0)).1).2) from rfl)
      have hKD : kx < D.length := by omega
      have hN6 := HN6.out
      obtain ⟨bd, od, u, rfl, hbD, hu, hcd⟩ := (rd_apart HD.out HG.out (Nat.le_refl _) HDne.out).at hKD
      rw [intsV_at D _ hKD] at hu
      injection hu with hu
      subst hu
      rw [← getD_of hKD] at hcd
      have HNE := Lib.hid (HDne.out (by omega) bd od rfl)
      have r_a := Lib.hid (HL.out i kx)
      have r_b := Lib.hid (HL.out j kx)
      have r_d := Lib.hid (HDr.out kx)
      have hce := row6_cell (HROW.out.grown HG.out (neq_of n2)) (show i < 6 by omega) (show kx < 6 by omega)
      have hcf := row6_cell (HROW.out.grown HG.out (neq_of n2)) (show j < 6 by omega) (show kx < 6 by omega)
      generalize (lessF (L i) (L j) (fun k => D.getD k 0) s0 kx) = ch at *
      obtain ⟨s, cb⟩ := ch
      simp only at HCH r_s HK ⊢
      obtain ⟨a, ha⟩ : ∃ a, L i kx = a := ⟨_, rfl⟩
      obtain ⟨b, hb⟩ : ∃ b, L j kx = b := ⟨_, rfl⟩
      obtain ⟨dk, hdk⟩ : ∃ a, D.getD kx 0 = a := ⟨_, rfl⟩
      rw [ha] at HCH r_a hce
      rw [hb] at HCH r_b hcf
      rw [hdk] at HCH r_d hcd
      clear ha hb hdk
      obtain ⟨⟨p, pb⟩, hp⟩ : ∃ r, fmul a b = r := ⟨_, rfl⟩
      have r_p := Lib.hid (show In64 p from by have h := fmul_range a b; rw [hp] at h; exact h)
      have P_ := Lib.hid hp
      rw [hp] at HCH
      simp only at HCH
      obtain ⟨⟨q, qb⟩, hq⟩ : ∃ r, fmul p dk = r := ⟨_, rfl⟩
      have r_q := Lib.hid (show In64 q from by have h := fmul_range p dk; rw [hq] at h; exact h)
      have Q_ := Lib.hid hq
      rw [hq] at HCH
      simp only at HCH
      obtain ⟨⟨t, tb⟩, ht⟩ : ∃ r, fsub s q = r := ⟨_, rfl⟩
      have T_ := Lib.hid ht
      rw [ht] at HCH
      clear hp hq ht
      have hlt1 : (kx : Int) < (j : Int) := by omega
      have hKD1 : (kx : Int) < (D.length : Int) := by omega
      have hi6 : (i : Int) < 6 := by omega
      have hj6 : (j : Int) < 6 := by omega
      have hK6 : (kx : Int) < 6 := by omega
      have HC := Lib.hid (And.intro ((HP.out.grown HG.out (neq_of n1)).cell 0) (And.intro hce (And.intro hcf (And.intro ((HDC.out.grown HG.out (neq_of n3)).cell 0) hcd))))
      have hbw : bd < wr.heap.size := Nat.lt_of_lt_of_le hbD HG.out.size
      clear hce hcf hcd
      go_upto_region 5 with fail
      have HK := Lib.hid (Blk.drew HK.out)
      have HG := Lib.hid (HG.out.trans (grown_of_below (row := some gk) ((Below.refl wr.heap.size wr).drew)))
      have HS : (fun w' => w'.cell? ⟨gp, 0, none⟩ = some (.pointer (some ⟨gk, 0, none⟩)) ∧ w'.cell? ⟨gl, i * 6 + kx, none⟩ = some (.int .i64 a) ∧ w'.cell? ⟨gl, j * 6 + kx, none⟩ = some (.int .i64 b)) wr.drew := And.intro (HC.out.1.trans rfl) (And.intro HC.out.2.1 HC.out.2.2.1)
      refine wp_region_noPanic ?_
      refine Rg.beginR [0, 5, 10] (fun w' => w'.cell? ⟨gp, 0, none⟩ = some (.pointer (some ⟨gk, 0, none⟩)) ∧ w'.cell? ⟨gl, i * 6 + kx, none⟩ = some (.int .i64 a) ∧ w'.cell? ⟨gl, j * 6 + kx, none⟩ = some (.int .i64 b)) (by kernel_rfl) ?_
      have HC6 : Hid (wr.drew.cell? ⟨gp, 0, none⟩ = some (.pointer (some ⟨gk, 0, none⟩)) ∧ wr.drew.cell? ⟨gd, 0, none⟩ = some (.slice (some ⟨bd, od, none⟩) D.length c') ∧ wr.drew.cell? ⟨bd, od + kx, none⟩ = some (.int .i64 dk)) := Lib.hid (And.intro (HC.out.1.trans rfl) (And.intro (HC.out.2.2.2.1.trans rfl) HC.out.2.2.2.2))
      have hbw : bd < wr.drew.heap.size := hbw
      clear HC
      generalize wr.drew = w1' at *
      refine Rg.takeS (i := 0) (oi := { dst := some 27, op := Op.load 53 (Operand.tmp 4), type := 53, pos := "number.go:297", after := #[], guard := none }) (v := ?_) rfl (by kernel_rfl) (fun _ _ _ h => h) (by rfl) HS ?_ ?_
      rotate_left 1
      · (intro w hSw; (try dsimp only at hSw); (try go_split_ands); go_simp; (try with_reducible rfl))
      try simp only [Act.put, List.setIfInBounds_toArray, List.set_cons_zero, List.set_cons_succ]
      refine Rg.takeP (i := 1) (oi := { dst := some 28, op := Op.move (Operand.tmp 0), type := 3, pos := "number.go:297", after := #[], guard := none }) (v := ?_) rfl (by kernel_rfl) (fun _ _ _ h => h) (by rfl) ?_ ?_
      rotate_left 1
      · (intro w; go_simp; (try with_reducible rfl))
      try simp only [Act.put, List.setIfInBounds_toArray, List.set_cons_zero, List.set_cons_succ]
      refine Rg.takeP (i := 2) (oi := { dst := some 29, op := Op.move (Operand.tmp 11), type := 3, pos := "number.go:297", after := #[], guard := none }) (v := ?_) rfl (by kernel_rfl) (fun _ _ _ h => h) (by rfl) ?_ ?_
      rotate_left 1
      · (intro w; go_simp; (try with_reducible rfl))
      try simp only [Act.put, List.setIfInBounds_toArray, List.set_cons_zero, List.set_cons_succ]
      refine Rg.takeP (i := 3) (oi := { dst := some 30, op := Op.indexAddr 57 (Operand.tmp 5) (Operand.tmp 28), type := 0, pos := "number.go:297", after := #[{ on := 1, ground := Ground.data }], guard := none }) (v := ?_) rfl (by kernel_rfl) (fun _ _ _ h => h) (by rfl) ?_ ?_
      rotate_left 1
      · (intro w; go_simp; (try with_reducible rfl))
      try simp only [Act.put, List.setIfInBounds_toArray, List.set_cons_zero, List.set_cons_succ]
      refine Rg.takeP (i := 4) (oi := { dst := some 31, op := Op.indexAddr 56 (Operand.tmp 30) (Operand.tmp 29), type := 0, pos := "number.go:297", after := #[{ on := 3, ground := Ground.data }, { on := 2, ground := Ground.data }], guard := none }) (v := ?_) rfl (by kernel_rfl) (fun _ _ _ h => h) (by rfl) ?_ ?_
      rotate_left 1
      · (intro w; go_simp; (try with_reducible rfl))
      try simp only [Act.put, List.setIfInBounds_toArray, List.set_cons_zero, List.set_cons_succ]
      refine Rg.takeS (i := 5) (oi := { dst := some 32, op := Op.load 3 (Operand.tmp 31), type := 3, pos := "number.go:297", after := #[{ on := 4, ground := Ground.data }], guard := none }) (v := ?_) rfl (by kernel_rfl) (fun _ _ _ h => h) (by rfl) HS ?_ ?_
      rotate_left 1
      · (intro w hSw; (try dsimp only at hSw); (try go_split_ands); go_simp; (try with_reducible rfl))
      try simp only [Act.put, List.setIfInBounds_toArray, List.set_cons_zero, List.set_cons_succ]
      refine Rg.takeP (i := 6) (oi := { dst := some 33, op := Op.move (Operand.tmp 1), type := 3, pos := "number.go:297", after := #[], guard := none }) (v := ?_) rfl (by kernel_rfl) (fun _ _ _ h => h) (by rfl) ?_ ?_
      rotate_left 1
      · (intro w; go_simp; (try with_reducible rfl))
      try simp only [Act.put, List.setIfInBounds_toArray, List.set_cons_zero, List.set_cons_succ]
      refine Rg.takeP (i := 7) (oi := { dst := some 34, op := Op.move (Operand.tmp 11), type := 3, pos := "number.go:297", after := #[], guard := none }) (v := ?_) rfl (by kernel_rfl) (fun _ _ _ h => h) (by rfl) ?_ ?_
      rotate_left 1
      · (intro w; go_simp; (try with_reducible rfl))
      try simp only [Act.put, List.setIfInBounds_toArray, List.set_cons_zero, List.set_cons_succ]
      refine Rg.takeP (i := 8) (oi := { dst := some 35, op := Op.indexAddr 57 (Operand.tmp 5) (Operand.tmp 33), type := 0, pos := "number.go:297", after := #[{ on := 6, ground := Ground.data }], guard := none }) (v := ?_) rfl (by kernel_rfl) (fun _ _ _ h => h) (by rfl) ?_ ?_
      rotate_left 1
      · (intro w; go_simp; (try with_reducible rfl))
      try simp only [Act.put, List.setIfInBounds_toArray, List.set_cons_zero, List.set_cons_succ]
      refine Rg.takeP (i := 9) (oi := { dst := some 36, op := Op.indexAddr 56 (Operand.tmp 35) (Operand.tmp 34), type := 0, pos := "number.go:297", after := #[{ on := 8, ground := Ground.data }, { on := 7, ground := Ground.data }], guard := none }) (v := ?_) rfl (by kernel_rfl) (fun _ _ _ h => h) (by rfl) ?_ ?_
      rotate_left 1
      · (intro w; go_simp; (try with_reducible rfl))
      try simp only [Act.put, List.setIfInBounds_toArray, List.set_cons_zero, List.set_cons_succ]
      refine Rg.takeS (i := 10) (oi := { dst := some 37, op := Op.load 3 (Operand.tmp 36), type := 3, pos := "number.go:297", after := #[{ on := 9, ground := Ground.data }], guard := none }) (v := ?_) rfl (by kernel_rfl) (fun _ _ _ h => h) (by rfl) HS ?_ ?_
      rotate_left 1
      · (intro w hSw; (try dsimp only at hSw); (try go_split_ands); go_simp; (try with_reducible rfl))
      try simp only [Act.put, List.setIfInBounds_toArray, List.set_cons_zero, List.set_cons_succ]
      refine Rg.oneR (i := 11) (oi := { dst := some 38, op := Op.call { callee := Callee.value (Operand.func 30), args := #[Operand.tmp 27, Operand.tmp 32, Operand.tmp 37], argTypes := #[53, 3, 3] }, type := 3, pos := "number.go:297", after := #[{ on := 0, ground := Ground.data }, { on := 5, ground := Ground.data }, { on := 10, ground := Ground.data }], guard := none }) rfl (by kernel_rfl) ?_
      refine Rg.stepF ?_ ?_
      · kernel_rfl
      intro K hK
      rw [if_pos (by rfl)]
      go_simp
      go_at_call 30
      refine (rmul_any gk _ a b w1' HK.out r_a.out r_b.out).mono ?_
      intro e w2' hc
      rw [P_.out] at hc
      obtain ⟨rfl, hst, hg⟩ := hc
      dsimp only at hst
      have HK := Lib.hid hst
      have HG := Lib.hid (HG.out.trans hg)
      have HC6 := Lib.hid (And.intro ((HP.out.grown HG.out (neq_of n1)).cell 0) (And.intro ((HDC.out.grown HG.out (neq_of n3)).cell 0) ((grown_at hg hbw HNE.out _).trans HC6.out.2.2)))
      have hbw : bd < w2'.heap.size := Nat.lt_of_lt_of_le hbw hg.size
      clear hst hg
      (try clear HS)
      go_wp2_with fail
      refine hK.out _ _ ?_
      clear hK K
      try simp only [Act.put, List.setIfInBounds_toArray, List.set_cons_zero, List.set_cons_succ]
      refine Rg.takeP (i := 12) (oi := { dst := some 12, op := Op.assign (Operand.tmp 38), type := 3, pos := "number.go:297", after := #[{ on := 11, ground := Ground.data }, { on := 11, ground := Ground.chain }, { on := 0, ground := Ground.phase }, { on := 1, ground := Ground.phase }, { on := 2, ground := Ground.phase }, { on := 3, ground := Ground.phase }, { on := 4, ground := Ground.phase }, { on := 5, ground := Ground.phase }, { on := 6, ground := Ground.phase }, { on := 7, ground := Ground.phase }, { on := 8, ground := Ground.phase }, { on := 9, ground := Ground.phase }, { on := 10, ground := Ground.phase }, { on := 11, ground := Ground.phase }], guard := none }) (v := ?_) rfl (by kernel_rfl) (fun _ _ _ h => h) (by rfl) ?_ ?_
      rotate_left 1
      · (intro w; go_simp; (try with_reducible rfl))
      try simp only [Act.put, List.setIfInBounds_toArray, List.set_cons_zero, List.set_cons_succ]
      refine Rg.doneR (by kernel_rfl) ?_ _
      refine NoPanic.normal ?_
      go_upto_region 6 with fail
      have HK := Lib.hid (Blk.drew HK.out)
      have HG := Lib.hid (HG.out.trans (grown_of_below (row := some gk) ((Below.refl w2'.heap.size w2').drew)))
      have HS : (fun w' => w'.cell? ⟨gp, 0, none⟩ = some (.pointer (some ⟨gk, 0, none⟩)) ∧ w'.cell? ⟨gd, 0, none⟩ = some (.slice (some ⟨bd, od, none⟩) D.length c') ∧ w'.cell? ⟨bd, od + kx, none⟩ = some (.int .i64 dk)) w2'.drew := And.intro (HC6.out.1.trans rfl) (And.intro (HC6.out.2.1.trans rfl) HC6.out.2.2)
      refine wp_region_noPanic ?_
      refine Rg.beginR [0, 2, 5] (fun w' => w'.cell? ⟨gp, 0, none⟩ = some (.pointer (some ⟨gk, 0, none⟩)) ∧ w'.cell? ⟨gd, 0, none⟩ = some (.slice (some ⟨bd, od, none⟩) D.length c') ∧ w'.cell? ⟨bd, od + kx, none⟩ = some (.int .i64 dk)) (by kernel_rfl) ?_
      clear HC6 hbw
      generalize w2'.drew = w1' at *
      refine Rg.takeS (i := 0) (oi := { dst := some 39, op := Op.load 53 (Operand.tmp 4), type := 53, pos := "number.go:298", after := #[], guard := none }) (v := ?_) rfl (by kernel_rfl) (fun _ _ _ h => h) (by rfl) HS ?_ ?_
      rotate_left 1
      · (intro w hSw; (try dsimp only at hSw); (try go_split_ands); go_simp; (try with_reducible rfl))
      try simp only [Act.put, List.setIfInBounds_toArray, List.set_cons_zero, List.set_cons_succ]
      refine Rg.takeP (i := 1) (oi := { dst := some 40, op := Op.move (Operand.tmp 12), type := 3, pos := "number.go:298", after := #[], guard := none }) (v := ?_) rfl (by kernel_rfl) (fun _ _ _ h => h) (by rfl) ?_ ?_
      rotate_left 1
      · (intro w; go_simp; (try with_reducible rfl))
      try simp only [Act.put, List.setIfInBounds_toArray, List.set_cons_zero, List.set_cons_succ]
      refine Rg.takeS (i := 2) (oi := { dst := some 41, op := Op.load 22 (Operand.tmp 6), type := 22, pos := "number.go:298", after := #[], guard := none }) (v := ?_) rfl (by kernel_rfl) (fun _ _ _ h => h) (by rfl) HS ?_ ?_
      rotate_left 1
      · (intro w hSw; (try dsimp only at hSw); (try go_split_ands); go_simp; (try with_reducible rfl))
      try simp only [Act.put, List.setIfInBounds_toArray, List.set_cons_zero, List.set_cons_succ]
      refine Rg.takeP (i := 3) (oi := { dst := some 42, op := Op.move (Operand.tmp 11), type := 3, pos := "number.go:298", after := #[], guard := none }) (v := ?_) rfl (by kernel_rfl) (fun _ _ _ h => h) (by rfl) ?_ ?_
      rotate_left 1
      · (intro w; go_simp; (try with_reducible rfl))
      try simp only [Act.put, List.setIfInBounds_toArray, List.set_cons_zero, List.set_cons_succ]
      refine Rg.takeP (i := 4) (oi := { dst := some 43, op := Op.indexAddr 22 (Operand.tmp 41) (Operand.tmp 42), type := 0, pos := "number.go:298", after := #[{ on := 2, ground := Ground.data }, { on := 3, ground := Ground.data }], guard := none }) (v := ?_) rfl (by kernel_rfl) (fun _ _ _ h => h) (by rfl) ?_ ?_
      rotate_left 1
      · (intro w; go_simp; (try with_reducible rfl))
      try simp only [Act.put, List.setIfInBounds_toArray, List.set_cons_zero, List.set_cons_succ]
      refine Rg.takeS (i := 5) (oi := { dst := some 44, op := Op.load 3 (Operand.tmp 43), type := 3, pos := "number.go:298", after := #[{ on := 4, ground := Ground.data }], guard := none }) (v := ?_) rfl (by kernel_rfl) (fun _ _ _ h => h) (by rfl) HS ?_ ?_
      rotate_left 1
      · (intro w hSw; (try dsimp only at hSw); (try go_split_ands); go_simp; (try with_reducible rfl))
      try simp only [Act.put, List.setIfInBounds_toArray, List.set_cons_zero, List.set_cons_succ]
      refine Rg.oneR (i := 6) (oi := { dst := some 45, op := Op.call { callee := Callee.value (Operand.func 30), args := #[Operand.tmp 39, Operand.tmp 40, Operand.tmp 44], argTypes := #[53, 3, 3] }, type := 3, pos := "number.go:298", after := #[{ on := 0, ground := Ground.data }, { on := 1, ground := Ground.data }, { on := 5, ground := Ground.data }], guard := none }) rfl (by kernel_rfl) ?_
      refine Rg.stepF ?_ ?_
      · kernel_rfl
      intro K hK
      rw [if_pos (by rfl)]
      go_simp
      go_at_call 30
      refine (rmul_any gk _ p dk w1' HK.out r_p.out r_d.out).mono ?_
      intro e w2' hc
      rw [Q_.out] at hc
      obtain ⟨rfl, hst, hg⟩ := hc
      dsimp only at hst
      have HK := Lib.hid hst
      have HG := Lib.hid (HG.out.trans hg)
      clear hst hg
      (try clear HS)
      go_wp2_with fail
      refine hK.out _ _ ?_
      clear hK K
      try simp only [Act.put, List.setIfInBounds_toArray, List.set_cons_zero, List.set_cons_succ]
      refine Rg.takeP (i := 7) (oi := { dst := some 12, op := Op.assign (Operand.tmp 45), type := 3, pos := "number.go:298", after := #[{ on := 6, ground := Ground.data }, { on := 6, ground := Ground.chain }, { on := 0, ground := Ground.phase }, { on := 1, ground := Ground.phase }, { on := 2, ground := Ground.phase }, { on := 3, ground := Ground.phase }, { on := 4, ground := Ground.phase }, { on := 5, ground := Ground.phase }, { on := 6, ground := Ground.phase }], guard := none }) (v := ?_) rfl (by kernel_rfl) (fun _ _ _ h => h) (by rfl) ?_ ?_
      rotate_left 1
      · (intro w; go_simp; (try with_reducible rfl))
      try simp only [Act.put, List.setIfInBounds_toArray, List.set_cons_zero, List.set_cons_succ]
      refine Rg.doneR (by kernel_rfl) ?_ _
      refine NoPanic.normal ?_
      obtain ⟨w1', hw1'⟩ : ∃ x, w2' = x := ⟨_, rfl⟩
      rw [hw1'] at HK HG ⊢
      clear hw1'
      have kp : w1'.cell? ⟨gp, 0, none⟩ = some (.pointer (some ⟨gk, 0, none⟩)) := ((HP.out.grown HG.out (neq_of n1)).cell 0).trans rfl
      go_wp2_with fail
      refine (rsub_any gk _ s q w1' HK.out r_s.out r_q.out).mono ?_
      intro e w2' hc
      rw [T_.out] at hc
      obtain ⟨rfl, hst, hg⟩ := hc
      dsimp only at hst
      have HK := Lib.hid hst
      have HG := Lib.hid (HG.out.trans hg)
      clear hst hg kp
      go_wp2_with fail
      refine ⟨⟨kx + 1, by omega, by go_num, by rw [HCH.out], ?_, HG.out⟩, by simp [intOf]; omega⟩
      rw [HCH.out]
      have h := HK.out
      simp only [Bool.or_assoc] at h ⊢
      exact h
    · obtain rfl : j = kx := by omega
      clear hlt
      obtain ⟨⟨s, cb⟩, hch⟩ : ∃ ch, (lessF (L i) (L j) (fun k => D.getD k 0) s0 j) = ch := ⟨_, rfl⟩
      have HCH := Lib.hid hch
      rw [hch] at HK ⊢
      clear hch r_s
      simp only at HK ⊢
      go_wp2_with fail
      go_ret
      exact ⟨by rw [HCH.out]; rfl, by rw [HCH.out]; exact HK.out, HG.out⟩


/-- the reference's blocks while it reckons -/
structure RAt (w wr : World) (N gs gn gk gp gl gd : Nat) (MV : Array Value) (v : Value) (L : Nat → Nat → Int) (b : Bool) : Prop where
  left : Blk wr w.heap.size 24 MV
  res : Blk wr gs 24 #[.int .i64 0, .slice none 0 0]
  num : Blk wr gn 3 #[.int .i64 (N : Int)]
  bent : Bent wr 55 gk b
  ptr : Blk wr gp 53 #[.pointer (some ⟨gk, 0, none⟩)]
  row : Blk wr gl 57 (rowF .i64 36 fun q => L (q / 6) (q % 6))
  diag : Blk wr gd 22 #[v]
  bel : Below w.heap.size w wr
theorem upd6 (L : Nat → Nat → Int) (i j : Nat) (v : Int) (hj : j < 6) (q : Nat) : upd L i j v (q / 6) (q % 6) = if q = i * 6 + j then v else L (q / 6) (q % 6) := (flat_upd (m := 36) L v hj q).symm
theorem row6_rd {w : World} {gl : Nat} {L : Nat → Nat → Int} (h : Blk w gl 57 (rowF .i64 36 fun q => L (q / 6) (q % 6))) {i N B : Nat} (hi : i < 6) (hN : N ≤ 6) (hB : gl < B) : Rd w B 1 (some ⟨gl, i * 6, none⟩) N (intsV ((List.range N).map (L i))) :=
  ⟨by simp [intsV], fun _ => ⟨gl, i * 6, rfl, hB, fun k u hu => by
    have hk : k < N := by
      rcases Nat.lt_or_ge k N with h1 | h1
      · exact h1
      · rw [List.getElem?_eq_none (by simp [intsV]; omega)] at hu; cases hu
    have h2 : (intsV ((List.range N).map (L i)))[k]? = some (.int .i64 (L i k)) := by simp [intsV, hk]
    rw [h2] at hu
    injection hu with hu
    rw [← hu]
    exact row6_cell h hi (by omega)⟩⟩
theorem row6_zero : (#[.int .i64 0, .int .i64 0, .int .i64 0, .int .i64 0, .int .i64 0, .int .i64 0, .int .i64 0, .int .i64 0, .int .i64 0, .int .i64 0, .int .i64 0, .int .i64 0, .int .i64 0, .int .i64 0, .int .i64 0, .int .i64 0, .int .i64 0, .int .i64 0, .int .i64 0, .int .i64 0, .int .i64 0, .int .i64 0, .int .i64 0, .int .i64 0, .int .i64 0, .int .i64 0, .int .i64 0, .int .i64 0, .int .i64 0, .int .i64 0, .int .i64 0, .int .i64 0, .int .i64 0, .int .i64 0, .int .i64 0, .int .i64 0] : Array Value) = rowF .i64 36 fun q => (fun _ _ => (0 : Int)) (q / 6) (q % 6) := by kernel_rfl

set_option maxRecDepth 100000 in
set_option maxHeartbeats 4000000 in
theorem refFactor_yes (N : Nat) (A : Option Addr) (c : Nat) (zs : List Int) (w : World) (hN : 1 ≤ N) (h6 : N ≤ 6) (hl : zs.length = N * N) (hr : Rd w w.heap.size 1 A zs.length (intsV zs)) (hz : ∀ k, In64 (zs.getD k 0)) :
    Calls Try.prog 10 #[matV (N : Int) A zs.length c] w fun e w' => GaveFac w w' (facA N zs).1.1 (facA N zs).1.2 (facA N zs).2.1.1 (facA N zs).2.1.2 (facA N zs).2.2 e := by
  have HR := Lib.hid hr
  have HZ := Lib.hid hz
  have HN := Lib.hid hN
  have HL := Lib.hid hl
  have HGD := Lib.hid (show good (N : Int) zs.length = true from by
    unfold good
    rw [decide_eq_true (show (1 : Int) ≤ N by omega), decide_eq_true (show (N : Int) ≤ 6 by omega), decide_eq_true (by rw [hl]; push_cast; rfl)]
    rfl)
  have h36 := Lib.hid (sq_36 h6)
  clear hr hz hl
  unfold matV
  have HM := Lib.hid (show Blk ((w.alloc (.cells #[.int .i64 (N : Int), .slice A zs.length c] 24)).alloc (.cells #[.int .i64 0, .slice none 0 0] 24)) w.heap.size 24 #[.int .i64 (N : Int), .slice A zs.length c] from (Blk.new rfl).alloc _)
  have HRS := Lib.hid (show Blk ((w.alloc (.cells #[.int .i64 (N : Int), .slice A zs.length c] 24)).alloc (.cells #[.int .i64 0, .slice none 0 0] 24)) (w.heap.size + 1) 24 #[.int .i64 0, .slice none 0 0] from Blk.new (by simp))
  have HB := Lib.hid (show Below w.heap.size w ((w.alloc (.cells #[.int .i64 (N : Int), .slice A zs.length c] 24)).alloc (.cells #[.int .i64 0, .slice none 0 0] 24)) from ((Below.refl _ _).alloc (Nat.le_refl _) _).alloc (by simp) _)
  go_enter Try.func10, Try.ntmps10
  go_upto_region 1 with fail
  generalize ((w.alloc (.cells #[.int .i64 (N : Int), .slice A zs.length c] 24)).alloc (.cells #[.int .i64 0, .slice none 0 0] 24)) = w1 at *
  obtain ⟨gs, hgs⟩ : ∃ g, w.heap.size + 1 = g := ⟨_, rfl⟩
  rw [hgs] at HRS ⊢
  have hgs0 : w.heap.size < gs := by omega
  clear hgs
  go_wp2_with (refine wpList_whole rfl 24 _ rfl w.heap.size rfl HM.out _ Try.underlying24 rfl (by kernel_rfl) ?_)
  refine (goodref_any (N : Int) A zs.length c w1).mono ?_
  rintro e w2 ⟨rfl, hb⟩
  rw [HGD.out]
  have HM := Lib.hid (HM.out.below hb HM.out.lt)
  have HRS := Lib.hid (HRS.out.below hb HRS.out.lt)
  have HB := Lib.hid (onward HB.out (Nat.le_refl _) hb)
  have k0 : w2.cell? ⟨w.heap.size, 0, none⟩ = some (.int .i64 (N : Int)) := (HM.out.cell 0).trans rfl
  clear hb
  have hgs2 : gs < w2.heap.size := HRS.out.lt
  have hmf : ∀ (fn : Fn) (first cap : Array Value) (w : World), (Instr.makeFunc fn first cap).run Try.prog w = .ok (.func fn first cap) w := fun _ _ _ _ => rfl
  go_upto_region 8 with fail
  clear k0 hmf
  have HRA := Lib.hid (RAt.mk (w := w) (wr := (((((w2.alloc (.cells #[.int .i64 (N : Int)] 3)).alloc (.cells #[.bool false] 55)).alloc (.cells #[.pointer (some ⟨w2.heap.size + 1, 0, none⟩)] 53)).alloc (.cells #[.int .i64 0, .int .i64 0, .int .i64 0, .int .i64 0, .int .i64 0, .int .i64 0, .int .i64 0, .int .i64 0, .int .i64 0, .int .i64 0, .int .i64 0, .int .i64 0, .int .i64 0, .int .i64 0, .int .i64 0, .int .i64 0, .int .i64 0, .int .i64 0, .int .i64 0, .int .i64 0, .int .i64 0, .int .i64 0, .int .i64 0, .int .i64 0, .int .i64 0, .int .i64 0, .int .i64 0, .int .i64 0, .int .i64 0, .int .i64 0, .int .i64 0, .int .i64 0, .int .i64 0, .int .i64 0, .int .i64 0, .int .i64 0] 57)).alloc (.cells #[.slice none 0 0] 22))) (N := N) (gs := gs) (gn := w2.heap.size) (gk := w2.heap.size + 1) (gp := w2.heap.size + 1 + 1) (gl := w2.heap.size + 1 + 1 + 1) (gd := w2.heap.size + 1 + 1 + 1 + 1) (v := .slice none 0 0) (L := fun _ _ => 0) (b := false) (by exact (((((HM.out.alloc _).alloc _).alloc _).alloc _).alloc _)) (by exact (((((HRS.out.alloc _).alloc _).alloc _).alloc _).alloc _)) (by exact ((((Blk.fresh w2 _ _).alloc _).alloc _).alloc _).alloc _) (by exact Blk.alloc (Blk.alloc (Blk.alloc (Blk.new (by simp)) _) _) _) (by exact ((Blk.new (by simp)).alloc _).alloc _) (by rw [← row6_zero]; exact (Blk.new (by simp)).alloc _) (by exact Blk.new (by simp)) (((((HB.out.alloc HB.out.size _).alloc (by have := HB.out.size; simp; omega) _).alloc (by have := HB.out.size; simp; omega) _).alloc (by have := HB.out.size; simp; omega) _).alloc (by have := HB.out.size; simp; omega) _))
  clear HM HRS HB
  generalize (((((w2.alloc (.cells #[.int .i64 (N : Int)] 3)).alloc (.cells #[.bool false] 55)).alloc (.cells #[.pointer (some ⟨w2.heap.size + 1, 0, none⟩)] 53)).alloc (.cells #[.int .i64 0, .int .i64 0, .int .i64 0, .int .i64 0, .int .i64 0, .int .i64 0, .int .i64 0, .int .i64 0, .int .i64 0, .int .i64 0, .int .i64 0, .int .i64 0, .int .i64 0, .int .i64 0, .int .i64 0, .int .i64 0, .int .i64 0, .int .i64 0, .int .i64 0, .int .i64 0, .int .i64 0, .int .i64 0, .int .i64 0, .int .i64 0, .int .i64 0, .int .i64 0, .int .i64 0, .int .i64 0, .int .i64 0, .int .i64 0, .int .i64 0, .int .i64 0, .int .i64 0, .int .i64 0, .int .i64 0, .int .i64 0] 57)).alloc (.cells #[.slice none 0 0] 22)) = w5 at *
  obtain ⟨gd, hgd⟩ : ∃ g, w2.heap.size + 1 + 1 + 1 + 1 = g := ⟨_, rfl⟩
  rw [hgd] at HRA ⊢
  obtain ⟨gl, hgl⟩ : ∃ g, w2.heap.size + 1 + 1 + 1 = g := ⟨_, rfl⟩
  rw [hgl] at HRA hgd ⊢
  obtain ⟨gp, hgp⟩ : ∃ g, w2.heap.size + 1 + 1 = g := ⟨_, rfl⟩
  rw [hgp] at HRA hgl ⊢
  obtain ⟨gk, hgk⟩ : ∃ g, w2.heap.size + 1 = g := ⟨_, rfl⟩
  rw [hgk] at HRA hgp ⊢
  obtain ⟨gn, hgn⟩ : ∃ g, w2.heap.size = g := ⟨_, rfl⟩
  rw [hgn] at HRA hgk hgs2 ⊢
  have n1 : gn < gk := by omega
  have n2 : gk < gp := by omega
  have n3 : gp < gl := by omega
  have n4 : gl < gd := by omega
  clear hgd hgl hgp hgk hgn
  go_wp2_with fail
  go_loopw [11] (fun jv wr => ∃ (J : Nat) (A7 : Option Addr) (c7 : Nat) (L : Nat → Nat → Int) (D : List Int) (b : Bool), J ≤ N ∧ jv = .int .i64 J ∧ Hid (facF N zs J = some (L, D, b)) ∧ wr.ownsRow (gd + 1) 3 1 (.slice A7 D.length c7) D.length (intsV D) ∧ RAt w wr N gs gn gk gp gl gd #[.int .i64 (N : Int), .slice A zs.length c] (.slice A7 D.length c7) L b) (fun jv _ => N - (intOf jv).toNat)
  case atStart => exact ⟨0, none, 0, fun _ _ => 0, [], false, by omega, rfl, Lib.hid rfl, World.ownsRow_nil _ _ _ _, HRA.out⟩
  case round =>
    clear HRA
    obtain ⟨J, A7, c7, L, D, b, hJ, rfl, HF, ho, hat⟩ := hrel
    have HO := Lib.hid ho
    have HM := Lib.hid hat.left
    have HRS := Lib.hid hat.res
    have HNN := Lib.hid hat.num
    have HK := Lib.hid hat.bent
    have HP := Lib.hid hat.ptr
    have HROW := Lib.hid hat.row
    have HDC := Lib.hid hat.diag
    have HB := Lib.hid hat.bel
    clear ho hat
    obtain ⟨hDl, hL, hDr⟩ := facF_ok HZ.out HF.out
    have HDL := Lib.hid hDl
    have HLR := Lib.hid hL
    have HDR := Lib.hid hDr
    clear hDl hL hDr
    have hD7 : D.length ≤ 6 := by have := HDL.out; omega
    have kN : wr.cell? ⟨gn, 0, none⟩ = some (.int .i64 (N : Int)) := (HNN.out.cell 0).trans rfl
    by_cases hlt : J < N
    · have HFS := Lib.hid (facF_succ HF.out)
      have HDG := Lib.hid (show diagF N J zs (fun k => D.getD k 0) L = lessF (L J) (L J) (fun k => D.getD k 0) (zs.getD (J * N + J) 0) J from rfl)
      obtain ⟨⟨x, xb⟩, hx⟩ : ∃ r, diagF N J zs (fun k => D.getD k 0) L = r := ⟨_, rfl⟩
      rw [hx] at HDG HFS
      simp only at HFS
      have r_x := Lib.hid (show In64 x from by have h := lessF_range (L J) (L J) (fun k => D.getD k 0) (HZ.out (J * N + J)) J; rw [← HDG.out] at h; exact h)
      clear hx
      have hlt1 : (J : Int) < (N : Int) := by omega
      have hJ6 : (J : Int) < 6 := by omega
      go_wp2_with fail
      refine (left_any' N J J A A7 c c7 zs D L w.heap.size gn gp gl gd gk b wr h6 hlt hlt HL.out (by have := HDL.out; omega) HM.out HNN.out HP.out HROW.out HDC.out HK.out ((HR.out.below HB.out).more HB.out.size) (Rd.of_own HO.out) (fun _ b o e => by have h := own_lo HO.out _ e; simp only at h; omega) (by omega) (by omega) (by omega) (HZ.out _) HLR.out HDR.out).mono ?_
      rw [← HDG.out]
      rintro e w3 ⟨rfl, hst, hg⟩
      dsimp only at hst ⊢
      have HK := Lib.hid hst
      have HM := Lib.hid (HM.out.grown hg (neq_of (by omega)))
      have HRS := Lib.hid (HRS.out.grown hg (neq_of (by omega)))
      have HNN := Lib.hid (HNN.out.grown hg (neq_of (by omega)))
      have HP := Lib.hid (HP.out.grown hg (neq_of (by omega)))
      have HROW := Lib.hid (HROW.out.grown hg (neq_of (by omega)))
      have HDC := Lib.hid (HDC.out.grown hg (neq_of (by omega)))
      have HO := Lib.hid (own_keep HO.out hg (by omega))
      have HB := Lib.hid (below_grown HB.out (Nat.le_refl _) hg (fun g e => by injection e with e; omega))
      clear hst hg kN
      have kN : w3.cell? ⟨gn, 0, none⟩ = some (.int .i64 (N : Int)) := (HNN.out.cell 0).trans rfl
      by_cases hx0 : x < 1
      · have HFN := Lib.hid (show facF N zs (J + 1) = none from by rw [HFS.out, if_pos (by omega)])
        have HFA := Lib.hid (show facA N zs = ((0, []), ([], false), 9) from by
          unfold facA
          obtain ⟨t, ht⟩ : ∃ t, N = J + 1 + t := ⟨N - (J + 1), by omega⟩
          have h := facF_none HFN.out t
          rw [← ht] at h
          rw [h])
        go_wp2_with (refine wpList_store_row rfl 24 _ _ rfl gs #[.int .i64 0, .slice none 0 0] rfl rfl 24 _ HRS.out (by kernel_rfl) rfl (by simp [Value.oneCell']) ?_)
        refine ret_row4 (x := .slice none 0 0) (y := .bool false) (z := .int .i64 9) rfl rfl rfl rfl rfl (HRS.out.setRow #[.int .i64 0, .slice none 0 0]) ⟨by rw [Try.underlying24], by kernel_rfl⟩ rfl ?_
        rw [HFA.out]
        exact ⟨none, 0, none, 0, rfl, Rd.nil _ _ _ _, Rd.nil _ _ _ _, (fun a e => by cases e), below_setRow HB.out (by omega) _⟩
      · have hx1 : 0 < x := by omega
        rw [if_neg (by omega)] at HFS
        have hx2 : ¬ x < 1 := hx0
        go_upto_region 14 with fail
        have hc6 := row6_cell HROW.out (show J < 6 by omega) (show J < 6 by omega)
        have hf6 := HROW.out.thaw (J * 6 + J)
        go_upto_region 15 with fail
        have hrow := HROW.out.set (J * 6 + J) (.int .i64 4294967296)
        rw [rowF_set (g := fun q => upd L J J 4294967296 (q / 6) (q % 6)) (fun q _ => upd6 L J J 4294967296 (by omega) q)] at hrow
        clear HROW
        have HROW := Lib.hid hrow
        clear hrow hc6 hf6
        have HK := Lib.hid (Blk.other HK.out (p := ⟨gl, J * 6 + J, none⟩) (by show _ ≠ gl; omega) (.int .i64 4294967296))
        have HM := Lib.hid (HM.out.other (p := ⟨gl, J * 6 + J, none⟩) (by show _ ≠ gl; omega) (.int .i64 4294967296))
        have HRS := Lib.hid (HRS.out.other (p := ⟨gl, J * 6 + J, none⟩) (by show _ ≠ gl; omega) (.int .i64 4294967296))
        have HNN := Lib.hid (HNN.out.other (p := ⟨gl, J * 6 + J, none⟩) (by show _ ≠ gl; omega) (.int .i64 4294967296))
        have HP := Lib.hid (HP.out.other (p := ⟨gl, J * 6 + J, none⟩) (by show _ ≠ gl; omega) (.int .i64 4294967296))
        have HDC := Lib.hid (HDC.out.other (p := ⟨gl, J * 6 + J, none⟩) (by show _ ≠ gl; omega) (.int .i64 4294967296))
        have HO := Lib.hid (ownsRow_setCell_below HO.out (a := ⟨gl, J * 6 + J, none⟩) (by show gl < gd + 1; omega) (.int .i64 4294967296))
        have HB := Lib.hid (HB.out.setCell (p := ⟨gl, J * 6 + J, none⟩) (by show _ ≤ gl; omega) (.int .i64 4294967296))
        generalize (w3.setCell ⟨gl, J * 6 + J, none⟩ (.int .i64 4294967296)) = w4 at *
        clear kN
        have kN : w4.cell? ⟨gn, 0, none⟩ = some (.int .i64 (N : Int)) := (HNN.out.cell 0).trans rfl
        have HL1 := Lib.hid (upd_range HLR.out J J in_one)
        generalize upd L J J 4294967296 = L1 at *
        go_wp2_with fail
        go_loopw [13] (fun iv wr => ∃ t : Nat, t ≤ N - 1 - J ∧ iv = .int .i64 ((J + 1 + t : Nat) : Int) ∧ wr.ownsRow (gd + 1) 3 1 (.slice A7 D.length c7) D.length (intsV D) ∧ RAt w wr N gs gn gk gp gl gd #[.int .i64 (N : Int), .slice A zs.length c] (.slice A7 D.length c7) (rowsF N J zs x (fun k => D.getD k 0) L1 t).1 (b || xb || (rowsF N J zs x (fun k => D.getD k 0) L1 t).2)) (fun iv _ => N - (intOf iv).toNat)
        case atStart => exact ⟨0, by omega, by go_num, HO.out, HM.out, HRS.out, HNN.out, by simp only [rowsF, Bool.or_false]; exact HK.out, HP.out, HROW.out, HDC.out, HB.out⟩
        case round =>
          clear kN HO HM HRS HNN HK HP HROW HDC HB
          obtain ⟨t, ht, rfl, ho, hat⟩ := hrel
          have HO := Lib.hid ho
          have HM := Lib.hid hat.left
          have HRS := Lib.hid hat.res
          have HNN := Lib.hid hat.num
          have HK := Lib.hid hat.bent
          have HP := Lib.hid hat.ptr
          have HROW := Lib.hid hat.row
          have HDC := Lib.hid hat.diag
          have HB := Lib.hid hat.bel
          clear ho hat
          have kN : wr.cell? ⟨gn, 0, none⟩ = some (.int .i64 (N : Int)) := (HNN.out.cell 0).trans rfl
          by_cases htt : t < N - 1 - J
          · have HRW := Lib.hid (show rowsF N J zs x (fun k => D.getD k 0) L1 (t + 1) = (upd (rowsF N J zs x (fun k => D.getD k 0) L1 t).1 (J + 1 + t) J (fdiv (lessF ((rowsF N J zs x (fun k => D.getD k 0) L1 t).1 (J + 1 + t)) ((rowsF N J zs x (fun k => D.getD k 0) L1 t).1 J) (fun k => D.getD k 0) (zs.getD ((J + 1 + t) * N + J) 0) J).1 x).1, (rowsF N J zs x (fun k => D.getD k 0) L1 t).2 || (lessF ((rowsF N J zs x (fun k => D.getD k 0) L1 t).1 (J + 1 + t)) ((rowsF N J zs x (fun k => D.getD k 0) L1 t).1 J) (fun k => D.getD k 0) (zs.getD ((J + 1 + t) * N + J) 0) J).2 || (fdiv (lessF ((rowsF N J zs x (fun k => D.getD k 0) L1 t).1 (J + 1 + t)) ((rowsF N J zs x (fun k => D.getD k 0) L1 t).1 J) (fun k => D.getD k 0) (zs.getD ((J + 1 + t) * N + J) 0) J).1 x).2) from rfl)
            have HLt := Lib.hid (rowsF_range N J zs x (fun k => D.getD k 0) HL1.out t)
            generalize rowsF N J zs x (fun k => D.getD k 0) L1 t = rr at *
            obtain ⟨Lt, rb⟩ := rr
            simp only at HRW HLt HK HROW
            obtain ⟨i, hi⟩ : ∃ i, J + 1 + t = i := ⟨_, rfl⟩
            have hiN : i < N := by omega
            rw [hi] at HRW ⊢
            have HII := Lib.hid hi
            clear hi
            obtain ⟨⟨y, yb⟩, hy⟩ : ∃ r, lessF (Lt i) (Lt J) (fun k => D.getD k 0) (zs.getD (i * N + J) 0) J = r := ⟨_, rfl⟩
            rw [hy] at HRW
            simp only at HRW
            have r_y := Lib.hid (show In64 y from by have h := lessF_range (Lt i) (Lt J) (fun k => D.getD k 0) (HZ.out (i * N + J)) J; rw [hy] at h; exact h)
            have HY := Lib.hid hy
            clear hy
            obtain ⟨⟨v, vb⟩, hv⟩ : ∃ r, fdiv y x = r := ⟨_, rfl⟩
            have V_ := Lib.hid hv
            rw [hv] at HRW
            clear hv
            have hiN1 : (i : Int) < (N : Int) := by omega
            have hi6 : (i : Int) < 6 := by omega
            have hi6n : i < 6 := by omega
            go_upto_region 18 with fail
            clear kN
            have HK := Lib.hid (Blk.drew HK.out)
            have HM := Lib.hid HM.out.drew
            have HRS := Lib.hid HRS.out.drew
            have HNN := Lib.hid HNN.out.drew
            have HP := Lib.hid HP.out.drew
            have HROW := Lib.hid HROW.out.drew
            have HDC := Lib.hid HDC.out.drew
            have HO := Lib.hid HO.out.drew
            have HB := Lib.hid HB.out.drew
            have HS := (HP.out.cell 0).trans rfl
            refine wp_region_noPanic ?_
            refine Rg.beginR [2] (fun w' => w'.cell? ⟨gp, 0, none⟩ = some (.pointer (some ⟨gk, 0, none⟩))) (by kernel_rfl) ?_
            generalize wr.drew = w1' at *
            refine Rg.takeP (i := 0) (oi := { dst := some 48, op := Op.move (Operand.tmp 13), type := 3, pos := "number.go:310", after := #[], guard := none }) (v := ?_) rfl (by kernel_rfl) (fun _ _ _ h => h) (by rfl) ?_ ?_
            rotate_left 1
            · (intro w; go_simp; (try with_reducible rfl))
            try simp only [Act.put, List.setIfInBounds_toArray, List.set_cons_zero, List.set_cons_succ]
            refine Rg.takeP (i := 1) (oi := { dst := some 49, op := Op.move (Operand.tmp 11), type := 3, pos := "number.go:310", after := #[], guard := none }) (v := ?_) rfl (by kernel_rfl) (fun _ _ _ h => h) (by rfl) ?_ ?_
            rotate_left 1
            · (intro w; go_simp; (try with_reducible rfl))
            try simp only [Act.put, List.setIfInBounds_toArray, List.set_cons_zero, List.set_cons_succ]
            refine Rg.takeS (i := 2) (oi := { dst := some 50, op := Op.load 53 (Operand.tmp 7), type := 53, pos := "number.go:310", after := #[], guard := none }) (v := ?_) rfl (by kernel_rfl) (fun _ _ _ h => h) (by rfl) HS ?_ ?_
            rotate_left 1
            · (intro w hSw; (try dsimp only at hSw); (try go_split_ands); go_simp; (try with_reducible rfl))
            try simp only [Act.put, List.setIfInBounds_toArray, List.set_cons_zero, List.set_cons_succ]
            refine Rg.takeP (i := 3) (oi := { dst := some 51, op := Op.move (Operand.tmp 10), type := 58, pos := "number.go:310", after := #[], guard := none }) (v := ?_) rfl (by kernel_rfl) (fun _ _ _ h => h) (by rfl) ?_ ?_
            rotate_left 1
            · (intro w; go_simp; (try with_reducible rfl))
            try simp only [Act.put, List.setIfInBounds_toArray, List.set_cons_zero, List.set_cons_succ]
            refine Rg.takeP (i := 4) (oi := { dst := some 52, op := Op.move (Operand.tmp 13), type := 3, pos := "number.go:310", after := #[], guard := none }) (v := ?_) rfl (by kernel_rfl) (fun _ _ _ h => h) (by rfl) ?_ ?_
            rotate_left 1
            · (intro w; go_simp; (try with_reducible rfl))
            try simp only [Act.put, List.setIfInBounds_toArray, List.set_cons_zero, List.set_cons_succ]
            refine Rg.takeP (i := 5) (oi := { dst := some 53, op := Op.move (Operand.tmp 11), type := 3, pos := "number.go:310", after := #[], guard := none }) (v := ?_) rfl (by kernel_rfl) (fun _ _ _ h => h) (by rfl) ?_ ?_
            rotate_left 1
            · (intro w; go_simp; (try with_reducible rfl))
            try simp only [Act.put, List.setIfInBounds_toArray, List.set_cons_zero, List.set_cons_succ]
            refine Rg.takeP (i := 7) (oi := { dst := some 55, op := Op.move (Operand.tmp 12), type := 3, pos := "number.go:310", after := #[], guard := none }) (v := ?_) rfl (by kernel_rfl) (fun _ _ _ h => h) (by rfl) ?_ ?_
            rotate_left 1
            · (intro w; go_simp; (try with_reducible rfl))
            try simp only [Act.put, List.setIfInBounds_toArray, List.set_cons_zero, List.set_cons_succ]
            refine Rg.takeP (i := 9) (oi := { dst := some 57, op := Op.indexAddr 57 (Operand.tmp 8) (Operand.tmp 48), type := 0, pos := "number.go:310", after := #[{ on := 0, ground := Ground.data }], guard := none }) (v := ?_) rfl (by kernel_rfl) (fun _ _ _ h => h) (by rfl) ?_ ?_
            rotate_left 1
            · (intro w; go_simp; (try with_reducible rfl))
            try simp only [Act.put, List.setIfInBounds_toArray, List.set_cons_zero, List.set_cons_succ]
            refine Rg.oneR (i := 6) (oi := { dst := some 54, op := Op.call { callee := Callee.value (Operand.tmp 51), args := #[Operand.tmp 52, Operand.tmp 53], argTypes := #[3, 3] }, type := 3, pos := "number.go:310", after := #[{ on := 3, ground := Ground.data }, { on := 4, ground := Ground.data }, { on := 5, ground := Ground.data }], guard := none }) rfl (by kernel_rfl) ?_
            refine Rg.stepS ?_
            intro K hK
            rw [if_pos (by rfl)]
            go_simp
            go_at_call 29
            refine (left_any' N i J A A7 c c7 zs D Lt w.heap.size gn gp gl gd gk _ _ h6 hiN hlt HL.out (by have := HDL.out; omega) HM.out HNN.out HP.out HROW.out HDC.out HK.out ((HR.out.below HB.out).more HB.out.size) (Rd.of_own HO.out) (fun _ b o e => by have h := own_lo HO.out _ e; simp only at h; omega) (by omega) (by omega) (by omega) (HZ.out _) HLt.out HDR.out).mono ?_
            rw [HY.out]
            rintro e w2' ⟨rfl, hst, hg⟩
            dsimp only at hst ⊢
            have HK := Lib.hid hst
            have HM := Lib.hid (HM.out.grown hg (neq_of (by omega)))
            have HRS := Lib.hid (HRS.out.grown hg (neq_of (by omega)))
            have HNN := Lib.hid (HNN.out.grown hg (neq_of (by omega)))
            have HP := Lib.hid (HP.out.grown hg (neq_of (by omega)))
            have HROW := Lib.hid (HROW.out.grown hg (neq_of (by omega)))
            have HDC := Lib.hid (HDC.out.grown hg (neq_of (by omega)))
            have HO := Lib.hid (own_keep HO.out hg (by omega))
            have HB := Lib.hid (below_grown HB.out (Nat.le_refl _) hg (fun g e => by injection e with e; omega))
            clear hst hg
            (try clear HS)
            have HS := (HP.out.cell 0).trans rfl
            go_wp2_with fail
            refine hK.out _ _ HS ?_
            clear hK K
            try simp only [Act.put, List.setIfInBounds_toArray, List.set_cons_zero, List.set_cons_succ]
            refine Rg.oneR (i := 8) (oi := { dst := some 56, op := Op.call { callee := Callee.value (Operand.func 32), args := #[Operand.tmp 50, Operand.tmp 54, Operand.tmp 55], argTypes := #[53, 3, 3] }, type := 3, pos := "number.go:310", after := #[{ on := 2, ground := Ground.data }, { on := 6, ground := Ground.data }, { on := 7, ground := Ground.data }, { on := 6, ground := Ground.chain }], guard := none }) rfl (by kernel_rfl) ?_
            refine Rg.stepF ?_ ?_
            · kernel_rfl
            intro K hK
            rw [if_pos (by rfl)]
            go_simp
            go_at_call 32
            refine (rdiv_any gk _ y x _ HK.out r_y.out r_x.out).mono ?_
            rw [V_.out]
            rintro e w2' ⟨rfl, hst, hg⟩
            dsimp only at hst ⊢
            have HK := Lib.hid hst
            have HM := Lib.hid (HM.out.grown hg (neq_of (by omega)))
            have HRS := Lib.hid (HRS.out.grown hg (neq_of (by omega)))
            have HNN := Lib.hid (HNN.out.grown hg (neq_of (by omega)))
            have HP := Lib.hid (HP.out.grown hg (neq_of (by omega)))
            have HROW := Lib.hid (HROW.out.grown hg (neq_of (by omega)))
            have HDC := Lib.hid (HDC.out.grown hg (neq_of (by omega)))
            have HO := Lib.hid (own_keep HO.out hg (by omega))
            have HB := Lib.hid (below_grown HB.out (Nat.le_refl _) hg (fun g e => by injection e with e; omega))
            clear hst hg
            (try clear HS)
            have HS := (HP.out.cell 0).trans rfl
            go_wp2_with fail
            have hc6 := row6_cell HROW.out hi6n (show J < 6 by omega)
            have hf6 := HROW.out.thaw (i * 6 + J)
            refine hK.out _ _ ?_
            clear hK K
            try simp only [Act.put, List.setIfInBounds_toArray, List.set_cons_zero, List.set_cons_succ]
            refine Rg.takeP (i := 10) (oi := { dst := some 58, op := Op.indexAddr 56 (Operand.tmp 57) (Operand.tmp 49), type := 0, pos := "number.go:310", after := #[{ on := 9, ground := Ground.data }, { on := 1, ground := Ground.data }, { on := 0, ground := Ground.phase }, { on := 1, ground := Ground.phase }, { on := 2, ground := Ground.phase }, { on := 3, ground := Ground.phase }, { on := 4, ground := Ground.phase }, { on := 5, ground := Ground.phase }, { on := 6, ground := Ground.phase }, { on := 7, ground := Ground.phase }, { on := 8, ground := Ground.phase }], guard := none }) (v := ?_) rfl (by kernel_rfl) (fun _ _ _ h => h) (by rfl) ?_ ?_
            rotate_left 1
            · (intro w; go_simp; (try with_reducible rfl))
            try simp only [Act.put, List.setIfInBounds_toArray, List.set_cons_zero, List.set_cons_succ]
            refine Rg.oneR (i := 11) (oi := { dst := none, op := Op.store 3 (Operand.tmp 58) (Operand.tmp 56), type := 0, pos := "number.go:310", after := #[{ on := 10, ground := Ground.data }, { on := 8, ground := Ground.data }, { on := 8, ground := Ground.chain }, { on := 0, ground := Ground.phase }, { on := 1, ground := Ground.phase }, { on := 2, ground := Ground.phase }, { on := 3, ground := Ground.phase }, { on := 4, ground := Ground.phase }, { on := 5, ground := Ground.phase }, { on := 6, ground := Ground.phase }, { on := 7, ground := Ground.phase }, { on := 8, ground := Ground.phase }], guard := none }) rfl (by kernel_rfl) ?_
            refine Rg.stepF ?_ ?_
            · kernel_rfl
            intro K hK
            go_simp
            refine hK.out _ _ ?_
            clear hK K
            try simp only [Act.put, List.setIfInBounds_toArray, List.set_cons_zero, List.set_cons_succ]
            refine Rg.doneR (by kernel_rfl) ?_ _
            refine NoPanic.normal ?_
            clear HS
            have hrow := HROW.out.set (i * 6 + J) (.int .i64 v)
            rw [rowF_set (g := fun q => upd Lt i J v (q / 6) (q % 6)) (fun q _ => upd6 Lt i J v (by omega) q)] at hrow
            clear HROW
            have HROW := Lib.hid hrow
            clear hrow hc6 hf6
            have HK := Lib.hid (Blk.other HK.out (p := ⟨gl, i * 6 + J, none⟩) (by show _ ≠ gl; omega) (.int .i64 v))
            have HM := Lib.hid (HM.out.other (p := ⟨gl, i * 6 + J, none⟩) (by show _ ≠ gl; omega) (.int .i64 v))
            have HRS := Lib.hid (HRS.out.other (p := ⟨gl, i * 6 + J, none⟩) (by show _ ≠ gl; omega) (.int .i64 v))
            have HNN := Lib.hid (HNN.out.other (p := ⟨gl, i * 6 + J, none⟩) (by show _ ≠ gl; omega) (.int .i64 v))
            have HP := Lib.hid (HP.out.other (p := ⟨gl, i * 6 + J, none⟩) (by show _ ≠ gl; omega) (.int .i64 v))
            have HDC := Lib.hid (HDC.out.other (p := ⟨gl, i * 6 + J, none⟩) (by show _ ≠ gl; omega) (.int .i64 v))
            have HO := Lib.hid (ownsRow_setCell_below HO.out (a := ⟨gl, i * 6 + J, none⟩) (by show gl < gd + 1; omega) (.int .i64 v))
            have HB := Lib.hid (HB.out.setCell (p := ⟨gl, i * 6 + J, none⟩) (by show _ ≤ gl; omega) (.int .i64 v))
            generalize (w2'.setCell ⟨gl, i * 6 + J, none⟩ (.int .i64 v)) = w4' at *
            go_wp2_with fail
            refine ⟨⟨t + 1, by omega, by rw [show J + 1 + (t + 1) = i + 1 by have := HII.out; omega]; go_num, HO.out, ?_⟩, by simp [intOf]; omega⟩
            rw [HRW.out]
            refine ⟨HM.out, HRS.out, HNN.out, ?_, HP.out, HROW.out, HDC.out, HB.out⟩
            have h := HK.out
            simp only [Bool.or_assoc] at h ⊢
            exact h
          · obtain rfl : t = N - 1 - J := by omega
            clear htt
            have hge : ¬ ((J + 1 + (N - 1 - J) : Nat) : Int) < (N : Int) := by omega
            go_upto_region 19 with fail
            clear kN
            generalize (rowsF N J zs x (fun k => D.getD k 0) L1 (N - 1 - J)) = rr at *
            obtain ⟨Lt, rb⟩ := rr
            simp only at HFS HROW HK
            have kD : wr.cell? ⟨gd, 0, none⟩ = some (.slice A7 D.length c7) := (HDC.out.cell 0).trans rfl
            have HSG := Lib.hid (rd_single wr (.int .i64 x) 3)
            have hgd2 : gd < wr.heap.size := HDC.out.lt
            have hge2 : ¬ ((J + 1 + (N - 1 - J) : Nat) : Int) < (N : Int) := hge
            go_upto_region 10 with (at_builtin; go_loud (refine wpList_append_rd _ rfl (.tmp 59) (.tmp 61) 22 rfl Go.Proofs.Ytejefecglioifaa.Ints.elemInts rfl (HO.out.alloc _) rfl (by simp) HSG.out (by simp [Value.oneCell']) (by unfold maxLen; omega) (by omega) (by simp; omega) ?_); intro A2 c2 w5 hA2 hown2 hg2; have HO2 := Lib.hid hown2; have HG2 := Lib.hid hg2; clear hA2 hown2 hg2; have HDC5 := Lib.hid ((HDC.out.alloc _).grown HG2.out (own_apart HO.out (by omega))); have kD5 : w5.cell? ⟨gd, 0, none⟩ = some (.slice A7 D.length c7) := (HDC5.out.cell 0).trans rfl; have fD5 := HDC5.out.thaw 0)
            (try clear kD)
            (try clear kD5)
            (try clear fD5)
            (try clear HSG)
            rw [intsV_snoc] at HO2
            have HM := Lib.hid (((HM.out.alloc _).grown HG2.out (own_apart HO.out (by omega))).other (p := ⟨gd, 0, none⟩) (by show _ ≠ gd; omega) (.slice A2 (D.length + 1) c2))
            have HRS := Lib.hid (((HRS.out.alloc _).grown HG2.out (own_apart HO.out (by omega))).other (p := ⟨gd, 0, none⟩) (by show _ ≠ gd; omega) (.slice A2 (D.length + 1) c2))
            have HNN := Lib.hid (((HNN.out.alloc _).grown HG2.out (own_apart HO.out (by omega))).other (p := ⟨gd, 0, none⟩) (by show _ ≠ gd; omega) (.slice A2 (D.length + 1) c2))
            have HP := Lib.hid (((HP.out.alloc _).grown HG2.out (own_apart HO.out (by omega))).other (p := ⟨gd, 0, none⟩) (by show _ ≠ gd; omega) (.slice A2 (D.length + 1) c2))
            have HROW := Lib.hid (((HROW.out.alloc _).grown HG2.out (own_apart HO.out (by omega))).other (p := ⟨gd, 0, none⟩) (by show _ ≠ gd; omega) (.slice A2 (D.length + 1) c2))
            have HK := Lib.hid (Blk.other (Blk.grown (Blk.alloc HK.out _) HG2.out (own_apart HO.out (by omega))) (p := ⟨gd, 0, none⟩) (by show _ ≠ gd; omega) (.slice A2 (D.length + 1) c2))
            have HB := Lib.hid ((below_grown (HB.out.alloc HB.out.size _) (by have := HB.out.size; simp) HG2.out (fun g e => by have := (HO.out.lt g e).1; omega)).setCell (p := ⟨gd, 0, none⟩) (by show _ ≤ gd; omega) (.slice A2 (D.length + 1) c2))
            have HDC := Lib.hid (show Blk (w5.setCell ⟨gd, 0, none⟩ (.slice A2 (D.length + 1) c2)) gd 22 #[(.slice A2 (D.length + 1) c2)] from HDC5.out.set 0 (.slice A2 (D.length + 1) c2))
            have HO := Lib.hid (ownsRow_setCell_below HO2.out (a := ⟨gd, 0, none⟩) (by show gd < gd + 1; omega) (.slice A2 (D.length + 1) c2))
            clear HO2 HG2 HDC5
            generalize (w5.setCell ⟨gd, 0, none⟩ (.slice A2 (D.length + 1) c2)) = w6 at *
            have HDS := Lib.hid (show (D ++ [x]).length = D.length + 1 from by simp)
            obtain ⟨D', hD'⟩ : ∃ D', D ++ [x] = D' := ⟨_, rfl⟩
            rw [hD'] at HDS HO HFS
            rw [← HDS.out] at HO HDC
            clear hD'
            go_wp2_with fail
            exact ⟨⟨J + 1, A2, c2, Lt, D', _, by omega, by go_num, HFS, HO.out, HM.out, HRS.out, HNN.out, HK.out, HP.out, HROW.out, HDC.out, HB.out⟩, by simp [intOf]; omega⟩
    · obtain rfl : J = N := by omega
      clear hlt
      have HFA := Lib.hid (show facA J zs = (((J : Int), flatL J (J * J) L), (D, b), 0) from by unfold facA; rw [HF.out])
      rw [← outF_flat J L (by omega) J] at HFA
      generalize wr = wq at *
      have hgd2 : gd < wq.heap.size := HDC.out.lt
      go_upto_region 21 with fail
      clear kN
      have HB3 := Lib.hid (show Below wq.heap.size wq (wq.alloc (.cells #[.int .i64 (J : Int), .slice none 0 0] 24)) from (Below.refl _ _).alloc (Nat.le_refl _) _)
      have HQ := Lib.hid (show Blk (wq.alloc (.cells #[.int .i64 (J : Int), .slice none 0 0] 24)) wq.heap.size 24 #[.int .i64 (J : Int), .slice none 0 0] from Blk.fresh _ _ _)
      generalize (wq.alloc (.cells #[.int .i64 (J : Int), .slice none 0 0] 24)) = w5 at *
      obtain ⟨gt, hgt⟩ : ∃ g, wq.heap.size = g := ⟨_, rfl⟩
      have HGT := Lib.hid hgt
      rw [hgt] at HQ hgd2 ⊢
      clear hgt
      go_wp2_with fail
      go_loopw [15] (fun iv wr => ∃ (I : Nat) (A8 : Option Addr) (c8 : Nat), I ≤ J ∧ iv = .int .i64 I ∧ wr.ownsRow (gt + 1) 3 1 (.slice A8 (I * J) c8) (I * J) (intsV (outF J L I)) ∧ Blk wr gt 24 #[.int .i64 (J : Int), .slice A8 (I * J) c8] ∧ Below wq.heap.size wq wr) (fun iv _ => J - (intOf iv).toNat)
      case atStart => exact ⟨0, none, 0, by omega, rfl, by rw [Nat.zero_mul]; exact World.ownsRow_nil _ _ _ _, by rw [Nat.zero_mul]; exact HQ.out, HB3.out⟩
      case round =>
        clear HQ HB3
        obtain ⟨I, A8, c8, hI, rfl, ho, hq, hb⟩ := hrel
        have HNN := Lib.hid (HNN.out.below hb (by rw [HGT.out]; omega))
        have HROW := Lib.hid (HROW.out.below hb (by rw [HGT.out]; omega))
        have HP := Lib.hid (HP.out.below hb (by rw [HGT.out]; omega))
        have HDC := Lib.hid (HDC.out.below hb (by rw [HGT.out]; omega))
        have HK := Lib.hid (Blk.below HK.out hb (by rw [HGT.out]; omega))
        have HRS := Lib.hid (HRS.out.below hb (by rw [HGT.out]; omega))
        have HOD := Lib.hid (own_keep HO.out (grown_of_below (row := some gs) hb) (by omega))
        have HB := Lib.hid (onward HB.out (Nat.le_refl _) hb)
        have HB3 := Lib.hid hb
        clear HO
        have HO := Lib.hid ho
        have HQ := Lib.hid hq
        clear ho hq hb
        have kN : wr.cell? ⟨gn, 0, none⟩ = some (.int .i64 (J : Int)) := (HNN.out.cell 0).trans rfl
        by_cases hlt : I < J
        · have hlt1 : (I : Int) < (J : Int) := by omega
          have hI6 : (I : Int) < 6 := by omega
          have hJ6 : (J : Int) ≤ 6 := by omega
          obtain ⟨q, hq⟩ : ∃ q, I * J = q := ⟨_, rfl⟩
          have HIJ := Lib.hid hq
          have hq36 : q ≤ 36 := by rw [← hq]; exact Nat.le_trans (Nat.mul_le_mul hI (Nat.le_refl J)) h36.out
          rw [hq] at HO HQ
          clear hq
          have HOS := Lib.hid (show intsV (outF J L (I + 1)) = intsV (outF J L I) ++ intsV ((List.range J).map (L I)) from by simp only [outF, intsV, List.map_append])
          have HQS := Lib.hid (show (I + 1) * J = q + J from by rw [Nat.add_mul, HIJ.out]; omega)
          go_upto_region 24 with fail
          clear kN
          have HQ := Lib.hid HQ.out.drew
          have HNN := Lib.hid HNN.out.drew
          have HROW := Lib.hid HROW.out.drew
          have HO := Lib.hid HO.out.drew
          have HB3 := Lib.hid HB3.out.drew
          have HS := And.intro ((HQ.out.cell 1).trans rfl) ((HNN.out.cell 0).trans rfl)
          refine wp_region_noPanic ?_
          refine Rg.beginR [1, 4] (fun w' => w'.cell? ⟨gt, 1, none⟩ = some (.slice A8 q c8) ∧ w'.cell? ⟨gn, 0, none⟩ = some (.int .i64 (J : Int))) (by kernel_rfl) ?_
          generalize wr.drew = w1' at *
          have hgt2 : gt < w1'.heap.size := HQ.out.lt
          refine Rg.takeP (i := 0) (oi := { dst := some 70, op := Op.fieldAddr 24 (Operand.tmp 14) 1, type := 0, pos := "number.go:316", after := #[], guard := none }) (v := ?_) rfl (by kernel_rfl) (fun _ _ _ h => h) (by rfl) ?_ ?_
          rotate_left 1
          · (intro w; go_simp; (try with_reducible rfl))
          try simp only [Act.put, List.setIfInBounds_toArray, List.set_cons_zero, List.set_cons_succ]
          refine Rg.takeS (i := 1) (oi := { dst := some 71, op := Op.load 22 (Operand.tmp 70), type := 22, pos := "number.go:316", after := #[{ on := 0, ground := Ground.data }], guard := none }) (v := ?_) rfl (by kernel_rfl) (fun _ _ _ h => h) (by rfl) HS ?_ ?_
          rotate_left 1
          · (intro w hSw; (try dsimp only at hSw); (try go_split_ands); go_simp; (try with_reducible rfl))
          try simp only [Act.put, List.setIfInBounds_toArray, List.set_cons_zero, List.set_cons_succ]
          refine Rg.takeP (i := 2) (oi := { dst := some 72, op := Op.move (Operand.tmp 15), type := 3, pos := "number.go:316", after := #[], guard := none }) (v := ?_) rfl (by kernel_rfl) (fun _ _ _ h => h) (by rfl) ?_ ?_
          rotate_left 1
          · (intro w; go_simp; (try with_reducible rfl))
          try simp only [Act.put, List.setIfInBounds_toArray, List.set_cons_zero, List.set_cons_succ]
          refine Rg.takeP (i := 3) (oi := { dst := some 73, op := Op.indexAddr 57 (Operand.tmp 8) (Operand.tmp 72), type := 0, pos := "number.go:316", after := #[{ on := 2, ground := Ground.data }], guard := none }) (v := ?_) rfl (by kernel_rfl) (fun _ _ _ h => h) (by rfl) ?_ ?_
          rotate_left 1
          · (intro w; go_simp; (try with_reducible rfl))
          try simp only [Act.put, List.setIfInBounds_toArray, List.set_cons_zero, List.set_cons_succ]
          refine Rg.takeS (i := 4) (oi := { dst := some 74, op := Op.load 3 (Operand.tmp 6), type := 3, pos := "number.go:316", after := #[], guard := none }) (v := ?_) rfl (by kernel_rfl) (fun _ _ _ h => h) (by rfl) HS ?_ ?_
          rotate_left 1
          · (intro w hSw; (try dsimp only at hSw); (try go_split_ands); go_simp; (try with_reducible rfl))
          try simp only [Act.put, List.setIfInBounds_toArray, List.set_cons_zero, List.set_cons_succ]
          refine Rg.takeP (i := 5) (oi := { dst := some 75, op := Op.slice 56 (Operand.tmp 73) none (some (Operand.tmp 74)) none, type := 22, pos := "number.go:316", after := #[{ on := 3, ground := Ground.data }, { on := 4, ground := Ground.data }], guard := none }) (v := ?_) rfl (by kernel_rfl) (fun _ _ _ h => h) (by rfl) ?_ ?_
          rotate_left 1
          · (intro w; go_simp; (try with_reducible rfl))
          try simp only [Act.put, List.setIfInBounds_toArray, List.set_cons_zero, List.set_cons_succ]
          refine Rg.oneR (i := 6) (oi := { dst := some 76, op := Op.call { callee := Callee.builtin Builtin.append, args := #[Operand.tmp 71, Operand.tmp 75], argTypes := #[22, 22] }, type := 22, pos := "number.go:316", after := #[{ on := 1, ground := Ground.data }, { on := 5, ground := Ground.data }], guard := none }) rfl (by kernel_rfl) ?_
          refine Rg.stepF ?_ ?_
          · kernel_rfl
          intro K hK
          rw [if_pos (by rfl)]
          refine wp_append_rd _ (.tmp 71) (.tmp 75) 22 rfl Go.Proofs.Ytejefecglioifaa.Ints.elemInts rfl HO.out rfl (by simp) (row6_rd HROW.out (show I < 6 by omega) h6 n4) (intsV_one _) (by unfold maxLen; omega) (by omega) (by omega) ?_
          intro A2 c2 w4' hA2 hown2 hg2
          have HQ := Lib.hid (HQ.out.grown hg2 (own_apart HO.out (by omega)))
          have HNN := Lib.hid (HNN.out.grown hg2 (own_apart HO.out (by omega)))
          have HB3 := Lib.hid (below_grown HB3.out (Nat.le_refl _) hg2 (fun g e => by have := (HO.out.lt g e).1; have := HGT.out; omega))
          have HO := Lib.hid hown2
          clear hA2 hown2 hg2 HS
          have kt : w4'.cell? ⟨gt, 1, none⟩ = some (.slice A8 q c8) := (HQ.out.cell 1).trans rfl
          have ft := HQ.out.thaw 1
          refine hK.out _ _ ?_
          clear hK K
          try simp only [Act.put, List.setIfInBounds_toArray, List.set_cons_zero, List.set_cons_succ]
          refine Rg.takeP (i := 7) (oi := { dst := some 77, op := Op.fieldAddr 24 (Operand.tmp 14) 1, type := 0, pos := "number.go:316", after := #[{ on := 0, ground := Ground.phase }, { on := 1, ground := Ground.phase }, { on := 2, ground := Ground.phase }, { on := 3, ground := Ground.phase }, { on := 4, ground := Ground.phase }, { on := 5, ground := Ground.phase }, { on := 6, ground := Ground.phase }], guard := none }) (v := ?_) rfl (by kernel_rfl) (fun _ _ _ h => h) (by rfl) ?_ ?_
          rotate_left 1
          · (intro w; go_simp; (try with_reducible rfl))
          try simp only [Act.put, List.setIfInBounds_toArray, List.set_cons_zero, List.set_cons_succ]
          refine Rg.oneR (i := 8) (oi := { dst := none, op := Op.store 22 (Operand.tmp 77) (Operand.tmp 76), type := 0, pos := "number.go:316", after := #[{ on := 7, ground := Ground.data }, { on := 6, ground := Ground.data }, { on := 6, ground := Ground.chain }, { on := 0, ground := Ground.phase }, { on := 1, ground := Ground.phase }, { on := 2, ground := Ground.phase }, { on := 3, ground := Ground.phase }, { on := 4, ground := Ground.phase }, { on := 5, ground := Ground.phase }, { on := 6, ground := Ground.phase }], guard := none }) rfl (by kernel_rfl) ?_
          refine Rg.stepF ?_ ?_
          · kernel_rfl
          intro K hK
          go_simp
          refine hK.out _ _ ?_
          clear hK K
          try simp only [Act.put, List.setIfInBounds_toArray, List.set_cons_zero, List.set_cons_succ]
          refine Rg.doneR (by kernel_rfl) ?_ _
          refine NoPanic.normal ?_
          clear kt ft
          have HQ := Lib.hid (show Blk (w4'.setCell ⟨gt, 1, none⟩ (.slice A2 (q + J) c2)) gt 24 #[.int .i64 (J : Int), (.slice A2 (q + J) c2)] from HQ.out.set 1 (.slice A2 (q + J) c2))
          have HO := Lib.hid (ownsRow_setCell_below HO.out (a := ⟨gt, 1, none⟩) (by show gt < gt + 1; omega) (.slice A2 (q + J) c2))
          have HB3 := Lib.hid (HB3.out.setCell (p := ⟨gt, 1, none⟩) (by show _ ≤ gt; rw [HGT.out]; exact Nat.le_refl _) (.slice A2 (q + J) c2))
          generalize (w4'.setCell ⟨gt, 1, none⟩ (.slice A2 (q + J) c2)) = w5' at *
          go_wp2_with fail
          exact ⟨⟨I + 1, A2, c2, by omega, by go_num, by rw [HQS.out, HOS.out]; exact HO.out, by rw [HQS.out]; exact HQ.out, HB3.out⟩, by simp [intOf]; omega⟩
        · obtain rfl : I = J := by omega
          clear hlt
          go_upto_region 25 with fail
          clear kN
          have HK := Lib.hid (Blk.drew HK.out)
          have HQ := Lib.hid HQ.out.drew
          have HDC := Lib.hid HDC.out.drew
          have HP := Lib.hid HP.out.drew
          have HRS := Lib.hid HRS.out.drew
          have HOD := Lib.hid HOD.out.drew
          have HO := Lib.hid HO.out.drew
          have HB := Lib.hid HB.out.drew
          have HS := And.intro HQ.out (And.intro ((HDC.out.cell 0).trans rfl) (And.intro ((HP.out.cell 0).trans rfl) ((Blk.cell HK.out 0).trans rfl)))
          refine wp_region_noPanic ?_
          refine Rg.beginR [0, 1, 2, 5] (fun w' => Blk w' gt 24 #[.int .i64 (I : Int), .slice A8 (I * I) c8] ∧ w'.cell? ⟨gd, 0, none⟩ = some (.slice A7 D.length c7) ∧ w'.cell? ⟨gp, 0, none⟩ = some (.pointer (some ⟨gk, 0, none⟩)) ∧ w'.cell? ⟨gk, 0, none⟩ = some (.bool b)) (by kernel_rfl) ?_
          generalize wr.drew = w1' at *
          refine Rg.takeS (i := 0) (oi := { dst := some 78, op := Op.load 24 (Operand.tmp 14), type := 24, pos := "number.go:318", after := #[], guard := none }) (v := .agg #[.int .i64 (I : Int), .slice A8 (I * I) c8]) rfl (by kernel_rfl) (fun _ _ _ h => h) (by rfl) HS ?_ ?_
          · (intro w' hSw; exact exec_load_st 24 (.tmp 14) rfl gt rfl hSw.1 Try.underlying24 rfl (by kernel_rfl))
          try simp only [Act.put, List.setIfInBounds_toArray, List.set_cons_zero, List.set_cons_succ]
          refine Rg.takeS (i := 1) (oi := { dst := some 79, op := Op.load 22 (Operand.tmp 9), type := 22, pos := "number.go:318", after := #[{ on := 6, ground := Ground.gcOnly Departure.lateStores }], guard := none }) (v := ?_) rfl (by kernel_rfl) (fun _ _ _ h => h) (by rfl) HS ?_ ?_
          rotate_left 1
          · (intro w hSw; (try dsimp only at hSw); (try go_split_ands); go_simp; (try with_reducible rfl))
          try simp only [Act.put, List.setIfInBounds_toArray, List.set_cons_zero, List.set_cons_succ]
          refine Rg.takeS (i := 2) (oi := { dst := some 80, op := Op.load 53 (Operand.tmp 7), type := 53, pos := "number.go:318", after := #[{ on := 7, ground := Ground.gcOnly Departure.lateStores }], guard := none }) (v := ?_) rfl (by kernel_rfl) (fun _ _ _ h => h) (by rfl) HS ?_ ?_
          rotate_left 1
          · (intro w hSw; (try dsimp only at hSw); (try go_split_ands); go_simp; (try with_reducible rfl))
          try simp only [Act.put, List.setIfInBounds_toArray, List.set_cons_zero, List.set_cons_succ]
          refine Rg.takeP (i := 3) (oi := { dst := some 81, op := Op.nilCheck (Operand.tmp 80), type := 0, pos := "number.go:318", after := #[{ on := 2, ground := Ground.data }, { on := 7, ground := Ground.gcOnly Departure.lateStores }], guard := none }) (v := ?_) rfl (by kernel_rfl) (fun _ _ _ h => h) (by rfl) ?_ ?_
          rotate_left 1
          · (intro w; go_simp; (try with_reducible rfl))
          try simp only [Act.put, List.setIfInBounds_toArray, List.set_cons_zero, List.set_cons_succ]
          refine Rg.takeP (i := 4) (oi := { dst := some 82, op := Op.fieldAddr 55 (Operand.tmp 81) 0, type := 0, pos := "number.go:318", after := #[{ on := 3, ground := Ground.data }, { on := 7, ground := Ground.gcOnly Departure.lateStores }], guard := none }) (v := ?_) rfl (by kernel_rfl) (fun _ _ _ h => h) (by rfl) ?_ ?_
          rotate_left 1
          · (intro w; go_simp; (try with_reducible rfl))
          try simp only [Act.put, List.setIfInBounds_toArray, List.set_cons_zero, List.set_cons_succ]
          refine Rg.takeS (i := 5) (oi := { dst := some 83, op := Op.load 4 (Operand.tmp 82), type := 4, pos := "number.go:318", after := #[{ on := 4, ground := Ground.data }, { on := 7, ground := Ground.gcOnly Departure.lateStores }], guard := none }) (v := ?_) rfl (by kernel_rfl) (fun _ _ _ h => h) (by rfl) HS ?_ ?_
          rotate_left 1
          · (intro w hSw; (try dsimp only at hSw); (try go_split_ands); go_simp; (try with_reducible rfl))
          try simp only [Act.put, List.setIfInBounds_toArray, List.set_cons_zero, List.set_cons_succ]
          refine Rg.oneR (i := 6) (oi := { dst := none, op := Op.store 24 (Operand.tmp 2) (Operand.tmp 78), type := 0, pos := "number.go:318", after := #[{ on := 0, ground := Ground.data }, { on := 0, ground := Ground.phase }, { on := 1, ground := Ground.textOnly Departure.lateStores }, { on := 2, ground := Ground.textOnly Departure.lateStores }, { on := 3, ground := Ground.textOnly Departure.lateStores }, { on := 4, ground := Ground.textOnly Departure.lateStores }, { on := 5, ground := Ground.textOnly Departure.lateStores }], guard := none }) rfl (by kernel_rfl) ?_
          refine Rg.stepS ?_
          intro K hK
          rw [if_pos (by rfl)]
          refine wp_store_row 24 _ _ rfl gs #[.int .i64 (I : Int), .slice A8 (I * I) c8] rfl rfl 24 _ HRS.out (by kernel_rfl) rfl (by simp [Value.oneCell']) ?_
          have HRS := Lib.hid (HRS.out.setRow #[.int .i64 (I : Int), .slice A8 (I * I) c8])
          have HQ := Lib.hid (HQ.out.setRow_other (g' := gs) (by omega) #[.int .i64 (I : Int), .slice A8 (I * I) c8])
          have HDC := Lib.hid (HDC.out.setRow_other (g' := gs) (by omega) #[.int .i64 (I : Int), .slice A8 (I * I) c8])
          have HP := Lib.hid (HP.out.setRow_other (g' := gs) (by omega) #[.int .i64 (I : Int), .slice A8 (I * I) c8])
          have HK := Lib.hid (Blk.setRow_other HK.out (g' := gs) (by omega) #[.int .i64 (I : Int), .slice A8 (I * I) c8])
          have HO := Lib.hid (own_row_below HO.out (g := gs) (by omega) #[.int .i64 (I : Int), .slice A8 (I * I) c8])
          have HOD := Lib.hid (own_row_below HOD.out (g := gs) (by omega) #[.int .i64 (I : Int), .slice A8 (I * I) c8])
          have HB := Lib.hid (below_setRow HB.out (show w.heap.size ≤ gs by omega) #[.int .i64 (I : Int), .slice A8 (I * I) c8])
          generalize (w1'.setRow gs #[.int .i64 (I : Int), .slice A8 (I * I) c8]) = w2' at *
          clear HS
          have HS := And.intro HQ.out (And.intro ((HDC.out.cell 0).trans rfl) (And.intro ((HP.out.cell 0).trans rfl) ((Blk.cell HK.out 0).trans rfl)))
          refine hK.out _ _ HS ?_
          clear hK K
          try simp only [Act.put, List.setIfInBounds_toArray, List.set_cons_zero, List.set_cons_succ]
          refine Rg.takeP (i := 7) (oi := { dst := some 3, op := Op.assign (Operand.tmp 79), type := 22, pos := "number.go:318", after := #[{ on := 1, ground := Ground.data }, { on := 6, ground := Ground.chain }, { on := 0, ground := Ground.phase }, { on := 1, ground := Ground.phase }, { on := 2, ground := Ground.textOnly Departure.lateStores }, { on := 3, ground := Ground.textOnly Departure.lateStores }, { on := 4, ground := Ground.textOnly Departure.lateStores }, { on := 5, ground := Ground.textOnly Departure.lateStores }, { on := 6, ground := Ground.phase }], guard := none }) (v := ?_) rfl (by kernel_rfl) (fun _ _ _ h => h) (by rfl) ?_ ?_
          rotate_left 1
          · (intro w; go_simp; (try with_reducible rfl))
          try simp only [Act.put, List.setIfInBounds_toArray, List.set_cons_zero, List.set_cons_succ]
          refine Rg.takeP (i := 8) (oi := { dst := some 4, op := Op.assign (Operand.tmp 83), type := 4, pos := "number.go:318", after := #[{ on := 5, ground := Ground.data }, { on := 7, ground := Ground.chain }, { on := 0, ground := Ground.phase }, { on := 1, ground := Ground.phase }, { on := 2, ground := Ground.phase }, { on := 3, ground := Ground.phase }, { on := 4, ground := Ground.phase }, { on := 5, ground := Ground.phase }, { on := 6, ground := Ground.phase }, { on := 7, ground := Ground.phase }], guard := none }) (v := ?_) rfl (by kernel_rfl) (fun _ _ _ h => h) (by rfl) ?_ ?_
          rotate_left 1
          · (intro w; go_simp; (try with_reducible rfl))
          try simp only [Act.put, List.setIfInBounds_toArray, List.set_cons_zero, List.set_cons_succ]
          refine Rg.takeP (i := 9) (oi := { dst := some 5, op := Op.assign (Operand.const (Value.int IntKind.i64 0)), type := 25, pos := "number.go:318", after := #[{ on := 8, ground := Ground.chain }, { on := 0, ground := Ground.phase }, { on := 1, ground := Ground.phase }, { on := 2, ground := Ground.phase }, { on := 3, ground := Ground.phase }, { on := 4, ground := Ground.phase }, { on := 5, ground := Ground.phase }, { on := 6, ground := Ground.phase }, { on := 7, ground := Ground.phase }, { on := 8, ground := Ground.phase }], guard := none }) (v := ?_) rfl (by kernel_rfl) (fun _ _ _ h => h) (by rfl) ?_ ?_
          rotate_left 1
          · (intro w; go_simp; (try with_reducible rfl))
          try simp only [Act.put, List.setIfInBounds_toArray, List.set_cons_zero, List.set_cons_succ]
          refine Rg.doneR (by kernel_rfl) ?_ _
          refine NoPanic.normal ?_
          clear HS
          go_wp2_with fail
          refine ret_row4 (x := .slice A7 D.length c7) (y := .bool b) (z := .int .i64 0) rfl rfl rfl rfl rfl HRS.out ⟨by rw [Try.underlying24], by kernel_rfl⟩ rfl ?_
          rw [HFA.out]
          refine ⟨A8, c8, A7, c7, ?_, ?_, Rd.of_own HOD.out, fun a e => by (have := own_lo HO.out a e; omega), HB.out⟩
          · show _ = Ending.returned (.tuple #[.agg #[.int .i64 (I : Int), .slice A8 (outF I L I).length c8], .slice A7 D.length c7, .bool b, .int .i64 0])
            rw [outF_length]
          · show Rd _ _ 1 A8 (outF I L I).length _
            rw [outF_length]
            exact Rd.of_own HO.out


theorem good_nat {N : Int} {n : Nat} (h : good N n = true) : ∃ k : Nat, N = (k : Int) ∧ 1 ≤ k ∧ k ≤ 6 ∧ n = k * k := by
  unfold good at h
  simp only [Bool.and_eq_true, decide_eq_true_eq] at h
  obtain ⟨⟨h1, h2⟩, h3⟩ := h
  obtain ⟨k, rfl⟩ := Int.eq_ofNat_of_zero_le (show 0 ≤ N by omega)
  exact ⟨k, rfl, by omega, by omega, by have : ((k * k : Nat) : Int) = (k : Int) * (k : Int) := by push_cast; rfl
                                        omega⟩
def facR (N : Int) (zs : List Int) : (Int × List Int) × (List Int × Bool) × Int := if good N zs.length = true then facA N.toNat zs else ((0, []), ([], false), 8)
theorem facR_len (N : Int) (zs : List Int) (hz : ∀ k, In64 (zs.getD k 0)) : (facR N zs).1.2.length ≤ 36 ∧ (facR N zs).2.1.1.length ≤ 6 := by
  unfold facR
  split
  · rename_i h
    obtain ⟨k, rfl, h1, h2, h3⟩ := good_nat h
    show (facA k zs).1.2.length ≤ 36 ∧ (facA k zs).2.1.1.length ≤ 6
    unfold facA
    split
    · simp
    · rename_i L D b hf
      refine ⟨?_, ?_⟩
      · show (flatL k (k * k) L).length ≤ 36
        rw [flatL_length]
        exact sq_36 h2
      · show D.length ≤ 6
        rw [(facF_ok hz hf).1]
        exact h2
  · simp

set_option maxRecDepth 100000 in
set_option maxHeartbeats 1000000 in
theorem factor_no (N : Int) (A : Option Addr) (n c : Nat) (w : World) (h : ¬ good N n = true) :
    Calls Try.prog 8 #[matV N A n c] w fun e w' => e = .returned (.tuple #[.agg #[.int .i64 0, .slice none 0 0], .slice none 0 0, .bool false, .int .i64 8]) ∧ Below w.heap.size w w' := by
  unfold matV
  have HM := Lib.hid (show Blk ((w.alloc (.cells #[.int .i64 N, .slice A n c] 24)).alloc (.cells #[.int .i64 0, .slice none 0 0] 24)) w.heap.size 24 #[.int .i64 N, .slice A n c] from (Blk.new rfl).alloc _)
  have HRS := Lib.hid (show Blk ((w.alloc (.cells #[.int .i64 N, .slice A n c] 24)).alloc (.cells #[.int .i64 0, .slice none 0 0] 24)) (w.heap.size + 1) 24 #[.int .i64 0, .slice none 0 0] from Blk.new (by simp))
  have HB := Lib.hid (show Below w.heap.size w ((w.alloc (.cells #[.int .i64 N, .slice A n c] 24)).alloc (.cells #[.int .i64 0, .slice none 0 0] 24)) from ((Below.refl _ _).alloc (Nat.le_refl _) _).alloc (by simp) _)
  have HG := Lib.hid (show good N n = false from by simpa using h)
  clear h
  go_enter Try.func8, Try.ntmps8
  go_upto_region 1 with fail
  generalize ((w.alloc (.cells #[.int .i64 N, .slice A n c] 24)).alloc (.cells #[.int .i64 0, .slice none 0 0] 24)) = w1 at *
  go_wp2_with (refine wpList_whole rfl 24 _ rfl w.heap.size rfl HM.out _ Try.underlying24 rfl (by kernel_rfl) ?_)
  refine (good_any N A n c w1).mono ?_
  rintro e w2 ⟨rfl, hb⟩
  rw [HG.out]
  have HRS := Lib.hid (HRS.out.below hb HRS.out.lt)
  have HB := Lib.hid (onward HB.out (Nat.le_refl _) hb)
  clear hb
  go_upto_region 2 with fail
  go_wp2_with (refine wpList_store_row rfl 24 _ _ rfl (w.heap.size + 1) #[.int .i64 0, .slice none 0 0] rfl rfl 24 _ HRS.out (by kernel_rfl) rfl (by simp [Value.oneCell']) ?_)
  refine ret_row4 (x := .slice none 0 0) (y := .bool false) (z := .int .i64 8) rfl rfl rfl rfl rfl (HRS.out.setRow #[.int .i64 0, .slice none 0 0]) ⟨by rw [Try.underlying24], by kernel_rfl⟩ rfl ?_
  exact ⟨rfl, below_setRow HB.out (by omega) _⟩

theorem factor_all (N : Int) (A : Option Addr) (c : Nat) (zs : List Int) (w : World) (hr : Rd w w.heap.size 1 A zs.length (intsV zs)) (hz : ∀ k, In64 (zs.getD k 0)) :
    Calls Try.prog 8 #[matV N A zs.length c] w fun e w' => GaveFac w w' (facR N zs).1.1 (facR N zs).1.2 (facR N zs).2.1.1 (facR N zs).2.1.2 (facR N zs).2.2 e := by
  by_cases h : good N zs.length = true
  · obtain ⟨n, rfl, h1, h2, h3⟩ := good_nat h
    unfold facR
    rw [if_pos h]
    exact factor_yes n A c zs w h1 h2 h3 hr hz
  · unfold facR
    rw [if_neg h]
    refine (factor_no N A zs.length c w h).mono ?_
    rintro e w' ⟨rfl, hb⟩
    exact ⟨none, 0, none, 0, rfl, Rd.nil _ _ _ _, Rd.nil _ _ _ _, (fun a e => by cases e), hb⟩

set_option maxRecDepth 100000 in
set_option maxHeartbeats 1000000 in
theorem refFactor_no (N : Int) (A : Option Addr) (n c : Nat) (w : World) (h : ¬ good N n = true) :
    Calls Try.prog 10 #[matV N A n c] w fun e w' => e = .returned (.tuple #[.agg #[.int .i64 0, .slice none 0 0], .slice none 0 0, .bool false, .int .i64 8]) ∧ Below w.heap.size w w' := by
  unfold matV
  have HM := Lib.hid (show Blk ((w.alloc (.cells #[.int .i64 N, .slice A n c] 24)).alloc (.cells #[.int .i64 0, .slice none 0 0] 24)) w.heap.size 24 #[.int .i64 N, .slice A n c] from (Blk.new rfl).alloc _)
  have HRS := Lib.hid (show Blk ((w.alloc (.cells #[.int .i64 N, .slice A n c] 24)).alloc (.cells #[.int .i64 0, .slice none 0 0] 24)) (w.heap.size + 1) 24 #[.int .i64 0, .slice none 0 0] from Blk.new (by simp))
  have HB := Lib.hid (show Below w.heap.size w ((w.alloc (.cells #[.int .i64 N, .slice A n c] 24)).alloc (.cells #[.int .i64 0, .slice none 0 0] 24)) from ((Below.refl _ _).alloc (Nat.le_refl _) _).alloc (by simp) _)
  have HG := Lib.hid (show good N n = false from by simpa using h)
  clear h
  go_enter Try.func10, Try.ntmps10
  go_upto_region 1 with fail
  generalize ((w.alloc (.cells #[.int .i64 N, .slice A n c] 24)).alloc (.cells #[.int .i64 0, .slice none 0 0] 24)) = w1 at *
  go_wp2_with (refine wpList_whole rfl 24 _ rfl w.heap.size rfl HM.out _ Try.underlying24 rfl (by kernel_rfl) ?_)
  refine (goodref_any N A n c w1).mono ?_
  rintro e w2 ⟨rfl, hb⟩
  rw [HG.out]
  have HRS := Lib.hid (HRS.out.below hb HRS.out.lt)
  have HB := Lib.hid (onward HB.out (Nat.le_refl _) hb)
  clear hb
  go_upto_region 2 with fail
  go_wp2_with (refine wpList_store_row rfl 24 _ _ rfl (w.heap.size + 1) #[.int .i64 0, .slice none 0 0] rfl rfl 24 _ HRS.out (by kernel_rfl) rfl (by simp [Value.oneCell']) ?_)
  refine ret_row4 (x := .slice none 0 0) (y := .bool false) (z := .int .i64 8) rfl rfl rfl rfl rfl (HRS.out.setRow #[.int .i64 0, .slice none 0 0]) ⟨by rw [Try.underlying24], by kernel_rfl⟩ rfl ?_
  exact ⟨rfl, below_setRow HB.out (by omega) _⟩

theorem refFactor_all (N : Int) (A : Option Addr) (c : Nat) (zs : List Int) (w : World) (hr : Rd w w.heap.size 1 A zs.length (intsV zs)) (hz : ∀ k, In64 (zs.getD k 0)) :
    Calls Try.prog 10 #[matV N A zs.length c] w fun e w' => GaveFac w w' (facR N zs).1.1 (facR N zs).1.2 (facR N zs).2.1.1 (facR N zs).2.1.2 (facR N zs).2.2 e := by
  by_cases h : good N zs.length = true
  · obtain ⟨n, rfl, h1, h2, h3⟩ := good_nat h
    unfold facR
    rw [if_pos h]
    exact refFactor_yes n A c zs w h1 h2 h3 hr hz
  · unfold facR
    rw [if_neg h]
    refine (refFactor_no N A zs.length c w h).mono ?_
    rintro e w' ⟨rfl, hb⟩
    exact ⟨none, 0, none, 0, rfl, Rd.nil _ _ _ _, Rd.nil _ _ _ _, (fun a e => by cases e), hb⟩

end Go.Proofs.Ytejefecglioifaa.BigW
