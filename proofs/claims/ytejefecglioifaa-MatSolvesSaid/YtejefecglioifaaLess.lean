/- Contract: less of a matrix at work. -/
import Derived.Test.YtejefecglioifaaFacLaw
import Derived.Test.YtejefecglioifaaFresh
import Derived.Test.YtejefecglioifaaTimesM
import Derived.Test.YtejefecglioifaaFixDiv
import Derived.Test.YtejefecglioifaaRdiv
import Derived.Test.YtejefecglioifaaLoadRow
namespace Go.Proofs.Ytejefecglioifaa.BigW
open Go.RowKit Go.Proofs.Ytejefecglioifaa.Mem Go.Proofs.Ytejefecglioifaa.BigLaw Go.Proofs.Ytejefecglioifaa.Rws Go.Proofs.Ytejefecglioifaa.Ints Go.Proofs.Ytejefecglioifaa.Mats
set_option linter.unusedVariables false
set_option linter.unusedSimpArgs false

theorem rd_apart {w w' : World} {B n g : Nat} {A : Option Addr} {xs : List Value} (h : Rd w B 1 A n xs) (hg : w.grownBy w' (some g)) (hB : B ≤ w.heap.size) (hne : 0 < n → ∀ b o, A = some ⟨b, o, none⟩ → b ≠ g) : Rd w' B 1 A n xs :=
  ⟨h.1, fun h0 => by
    obtain ⟨b, o, e, hb, hc⟩ := h.2 h0
    exact ⟨b, o, e, hb, fun j u hu => (grown_at hg (by omega) (hne h0 b o e) _).trans (hc j u hu)⟩⟩
/-- a square's rows, read -/
theorem rd_flat {w : World} {N m ga : Nat} {L : Nat → Nat → Int} (h : Blk w ga 3 (rowF .i64 m fun q => L (q / N) (q % N))) : Rd w w.heap.size 1 (some ⟨ga, 0, none⟩) (flatL N m L).length (intsV (flatL N m L)) := by
  have h1 := rd_of_blk h
  rw [rowF_size, flatL_row] at h1
  rw [flatL_length]
  exact h1.more h.lt
theorem atP_any (N m i k ga gk : Nat) (L : Nat → Nat → Int) (w : World) (hm : N * N = m) (h6 : m ≤ 36) (hi : i < N) (hk : k < N) (hrow : Blk w ga 3 (rowF .i64 m fun q => L (q / N) (q % N))) :
    Calls Try.prog 36 #[.agg #[.int .i64 (N : Int), .slice (some ⟨ga, 0, none⟩) m m, .pointer (some ⟨gk, 0, none⟩)], .int .i64 (i : Int), .int .i64 (k : Int)] w fun e w' => e = .returned (.int .i64 (L i k)) ∧ Below w.heap.size w w' := by
  have h1 : i * N + k < m := by rw [← hm]; exact sq_idx hi hk
  have h := at_any N i k (some ⟨ga, 0, none⟩) m (flatL N m L) gk w (rd_flat hrow) (by rw [flatL_length]; exact h1) (by rw [flatL_length]; exact h6)
  rw [flatL_length, flatL_at L hk h1] at h
  exact h

set_option maxRecDepth 100000 in
set_option maxHeartbeats 2000000 in
theorem less_any (N m i j U : Nat) (s0 : Int) (ga gk : Nat) (L : Nat → Nat → Int) (A' : Option Addr) (c' : Nat) (D : List Int) (x : Bool) (w : World) (hm : N * N = m) (h6 : m ≤ 36) (hi : i < N) (hj : j < N) (hU : U ≤ N) (hUD : U ≤ D.length)
    (hrow : Blk w ga 3 (rowF .i64 m fun q => L (q / N) (q % N))) (hk : Bn w gk x) (hD : Rd w w.heap.size 1 A' D.length (intsV D)) (hDne : 0 < D.length → ∀ b o, A' = some ⟨b, o, none⟩ → b ≠ gk) (hne : ga ≠ gk) (h0 : In64 s0) (hL : ∀ a b, In64 (L a b)) (hDr : ∀ k, In64 (D.getD k 0)) :
    Calls Try.prog 24 #[.agg #[.int .i64 (N : Int), .slice (some ⟨ga, 0, none⟩) m m, .pointer (some ⟨gk, 0, none⟩)], .int .i64 s0, .int .i64 (i : Int), .int .i64 (j : Int), .slice A' D.length c', .int .i64 (U : Int)] w fun e w' => e = .returned (.int .i64 (lessF (L i) (L j) (fun k => D.getD k 0) s0 U).1) ∧ Bn w' gk (x || (lessF (L i) (L j) (fun k => D.getD k 0) s0 U).2) ∧ w.grownBy w' (some gk) := by
  have hN6 : N ≤ 6 := by
    rcases Nat.lt_or_ge 6 N with h | h
    · have := Nat.mul_le_mul h h
      omega
    · exact h
  have HMM := Lib.hid hm
  have h36 := Lib.hid h6
  have HDne := Lib.hid hDne
  have HL := Lib.hid hL
  have HDr := Lib.hid hDr
  have r_0 := Lib.hid h0
  have HW := Lib.hid (show Blk (w.alloc (.cells #[.int .i64 (N : Int), .slice (some ⟨ga, 0, none⟩) m m, .pointer (some ⟨gk, 0, none⟩)] 47)) w.heap.size 47 #[.int .i64 (N : Int), .slice (some ⟨ga, 0, none⟩) m m, .pointer (some ⟨gk, 0, none⟩)] from Blk.new rfl)
  have HG := Lib.hid (show w.grownBy (w.alloc (.cells #[.int .i64 (N : Int), .slice (some ⟨ga, 0, none⟩) m m, .pointer (some ⟨gk, 0, none⟩)] 47)) (some gk) from grown_of_below ((Below.refl _ _).alloc (Nat.le_refl _) _))
  have HROW := Lib.hid (hrow.alloc (.cells #[.int .i64 (N : Int), .slice (some ⟨ga, 0, none⟩) m m, .pointer (some ⟨gk, 0, none⟩)] 47))
  have HK := Lib.hid (show Bn (w.alloc (.cells #[.int .i64 (N : Int), .slice (some ⟨ga, 0, none⟩) m m, .pointer (some ⟨gk, 0, none⟩)] 47)) gk x from Blk.alloc hk _)
  have hkl : gk < w.heap.size := Blk.lt hk
  have HD := Lib.hid hD
  clear hm h6 hrow hk hD hDne hL hDr h0
  go_enter Try.func24, Try.ntmps24
  go_upto_region 1 with fail
  generalize (w.alloc (.cells #[.int .i64 (N : Int), .slice (some ⟨ga, 0, none⟩) m m, .pointer (some ⟨gk, 0, none⟩)] 47)) = w1 at *
  obtain ⟨gt, hgt⟩ : ∃ g, w.heap.size = g := ⟨_, rfl⟩
  rw [hgt] at HW hkl ⊢
  go_wp2_with fail
  go_loopw [1, 16] (fun s k wr => ∃ kx : Nat, kx ≤ U ∧ k = .int .i64 kx ∧ s = .int .i64 (lessF (L i) (L j) (fun k => D.getD k 0) s0 kx).1 ∧ Bn wr gk (x || (lessF (L i) (L j) (fun k => D.getD k 0) s0 kx).2) ∧ Blk wr gt 47 #[.int .i64 (N : Int), .slice (some ⟨ga, 0, none⟩) m m, .pointer (some ⟨gk, 0, none⟩)] ∧ Blk wr ga 3 (rowF .i64 m fun q => L (q / N) (q % N)) ∧ w.grownBy wr (some gk)) (fun _ k _ => U - (intOf k).toNat)
  case atStart => exact ⟨0, by omega, rfl, rfl, by have h := HK.out; simpa [lessF] using h, HW.out, HROW.out, HG.out⟩
  case round =>
    clear HK HW HROW HG
    obtain ⟨kx, hkx, rfl, rfl, hk, hw, hrow, hg⟩ := hrel
    have HK := Lib.hid hk
    have HWK := Lib.hid hw
    have HROW := Lib.hid hrow
    have HG := Lib.hid hg
    clear hk hw hrow hg
    have r_s := Lib.hid (lessF_range (L i) (L j) (fun k => D.getD k 0) r_0.out kx)
    by_cases hlt : kx < U
    · have HCH := Lib.hid (show (lessF (L i) (L j) (fun k => D.getD k 0) s0 (kx + 1)) = ((fsub (lessF (L i) (L j) (fun k => D.getD k 0) s0 kx).1 (fmul (fmul (L i kx) (L j kx)).1 (D.getD kx 0)).1).1, (lessF (L i) (L j) (fun k => D.getD k 0) s0 kx).2 || (fmul (L i kx) (L j kx)).2 || (fmul (fmul (L i kx) (L j kx)).1 (D.getD kx 0)).2 || (fsub (lessF (L i) (L j) (fun k => D.getD k 0) s0 kx).1 (fmul (fmul (L i kx) (L j kx)).1 (D.getD kx 0)).1).2) from rfl)
      have hKD : kx < D.length := by omega
      obtain ⟨bd, od, u, rfl, hbD, hu, hcd⟩ := (rd_apart HD.out HG.out (Nat.le_refl _) HDne.out).at hKD
      rw [intsV_at D _ hKD] at hu
      injection hu with hu
      subst hu
      rw [← getD_of hKD] at hcd
      have HNE := Lib.hid (HDne.out (by omega) bd od rfl)
      have r_a := Lib.hid (HL.out i kx)
      have r_b := Lib.hid (HL.out j kx)
      have r_d := Lib.hid (HDr.out kx)
      generalize (lessF (L i) (L j) (fun k => D.getD k 0) s0 kx) = ch at *
      obtain ⟨s, cb⟩ := ch
      simp only at HCH r_s HK ⊢
      obtain ⟨a, ha⟩ : ∃ a, L i kx = a := ⟨_, rfl⟩
      obtain ⟨b, hb⟩ : ∃ b, L j kx = b := ⟨_, rfl⟩
      obtain ⟨dk, hdk⟩ : ∃ a, D.getD kx 0 = a := ⟨_, rfl⟩
      have HA := Lib.hid ha
      have HBB := Lib.hid hb
      rw [ha] at HCH r_a
      rw [hb] at HCH r_b
      rw [hdk] at HCH r_d hcd
      clear ha hb hdk
      obtain ⟨⟨p, pb⟩, hp⟩ : ∃ r, fmul a b = r := ⟨_, rfl⟩
      have r_p := Lib.hid (show In64 p from by have h := fmul_range a b; rw [hp] at h; exact h)
      have P_ := Lib.hid hp
      rw [hp] at HCH
      simp only at HCH
      obtain ⟨⟨q, qb⟩, hq⟩ : ∃ r, fmul p dk = r := ⟨_, rfl⟩
      have r_q := Lib.hid (show In64 q from by have h := fmul_range p dk; rw [hq] at h; exact h)
      have Q_ := Lib.hid hq
      rw [hq] at HCH
      simp only at HCH
      obtain ⟨⟨t, tb⟩, ht⟩ : ∃ r, fsub s q = r := ⟨_, rfl⟩
      have T_ := Lib.hid ht
      rw [ht] at HCH
      clear hp hq ht
      have hlt1 : (kx : Int) < (U : Int) := by omega
      have hKD1 : (kx : Int) < (D.length : Int) := by omega
      have hKN : kx < N := by omega
      have HCD := Lib.hid hcd
      clear hcd
      have HBD := Lib.hid (show bd < wr.heap.size from Nat.lt_of_lt_of_le hbD HG.out.size)
      go_upto_region 4 with fail
      have HK := Lib.hid (Blk.drew HK.out)
      have HWK := Lib.hid HWK.out.drew
      have HROW := Lib.hid HROW.out.drew
      have HCD : Hid (wr.drew.cell? ⟨bd, od + kx, none⟩ = some (.int .i64 dk)) := Lib.hid HCD.out
      have HBD : Hid (bd < wr.drew.heap.size) := Lib.hid HBD.out
      have HG := Lib.hid (HG.out.trans (grown_of_below (row := some gk) ((Below.refl wr.heap.size wr).drew)))
      have HS := And.intro HWK.out HCD.out
      refine wp_region_noPanic ?_
      refine Rg.beginR [0, 1, 2, 6, 17] (fun w' => Blk w' gt 47 #[.int .i64 (N : Int), .slice (some ⟨ga, 0, none⟩) m m, .pointer (some ⟨gk, 0, none⟩)] ∧ w'.cell? ⟨bd, od + kx, none⟩ = some (.int .i64 dk)) (by kernel_rfl) ?_
      generalize wr.drew = w1 at *
      refine Rg.takeS (i := 0) (oi := { dst := some 19, op := Op.load 47 (Operand.tmp 6), type := 47, pos := "mat.go:86", after := #[], guard := none }) (v := .agg #[.int .i64 (N : Int), .slice (some ⟨ga, 0, none⟩) m m, .pointer (some ⟨gk, 0, none⟩)]) rfl (by kernel_rfl) (fun _ _ _ h => h) (by rfl) HS ?_ ?_
      · (intro w' hSw; exact exec_load_st 47 (.tmp 6) rfl gt rfl hSw.1 Try.underlying47 rfl (by kernel_rfl))
      try simp only [Act.put, List.setIfInBounds_toArray, List.set_cons_zero, List.set_cons_succ]
      refine Rg.takeS (i := 1) (oi := { dst := some 20, op := Op.load 47 (Operand.tmp 6), type := 47, pos := "mat.go:86", after := #[], guard := none }) (v := .agg #[.int .i64 (N : Int), .slice (some ⟨ga, 0, none⟩) m m, .pointer (some ⟨gk, 0, none⟩)]) rfl (by kernel_rfl) (fun _ _ _ h => h) (by rfl) HS ?_ ?_
      · (intro w' hSw; exact exec_load_st 47 (.tmp 6) rfl gt rfl hSw.1 Try.underlying47 rfl (by kernel_rfl))
      try simp only [Act.put, List.setIfInBounds_toArray, List.set_cons_zero, List.set_cons_succ]
      refine Rg.takeS (i := 2) (oi := { dst := some 21, op := Op.load 47 (Operand.tmp 6), type := 47, pos := "mat.go:86", after := #[], guard := none }) (v := .agg #[.int .i64 (N : Int), .slice (some ⟨ga, 0, none⟩) m m, .pointer (some ⟨gk, 0, none⟩)]) rfl (by kernel_rfl) (fun _ _ _ h => h) (by rfl) HS ?_ ?_
      · (intro w' hSw; exact exec_load_st 47 (.tmp 6) rfl gt rfl hSw.1 Try.underlying47 rfl (by kernel_rfl))
      try simp only [Act.put, List.setIfInBounds_toArray, List.set_cons_zero, List.set_cons_succ]
      refine Rg.takeP (i := 3) (oi := { dst := some 22, op := Op.move (Operand.tmp 2), type := 3, pos := "mat.go:86", after := #[], guard := none }) (v := ?_) rfl (by kernel_rfl) (fun _ _ _ h => h) (by rfl) ?_ ?_
      rotate_left 1
      · (intro w; go_simp; (try with_reducible rfl))
      try simp only [Act.put, List.setIfInBounds_toArray, List.set_cons_zero, List.set_cons_succ]
      refine Rg.takeP (i := 4) (oi := { dst := some 23, op := Op.move (Operand.tmp 13), type := 3, pos := "mat.go:86", after := #[], guard := none }) (v := ?_) rfl (by kernel_rfl) (fun _ _ _ h => h) (by rfl) ?_ ?_
      rotate_left 1
      · (intro w; go_simp; (try with_reducible rfl))
      try simp only [Act.put, List.setIfInBounds_toArray, List.set_cons_zero, List.set_cons_succ]
      refine Rg.takeS (i := 6) (oi := { dst := some 25, op := Op.load 47 (Operand.tmp 6), type := 47, pos := "mat.go:86", after := #[], guard := none }) (v := .agg #[.int .i64 (N : Int), .slice (some ⟨ga, 0, none⟩) m m, .pointer (some ⟨gk, 0, none⟩)]) rfl (by kernel_rfl) (fun _ _ _ h => h) (by rfl) HS ?_ ?_
      · (intro w' hSw; exact exec_load_st 47 (.tmp 6) rfl gt rfl hSw.1 Try.underlying47 rfl (by kernel_rfl))
      try simp only [Act.put, List.setIfInBounds_toArray, List.set_cons_zero, List.set_cons_succ]
      refine Rg.takeP (i := 7) (oi := { dst := some 26, op := Op.move (Operand.tmp 3), type := 3, pos := "mat.go:86", after := #[], guard := none }) (v := ?_) rfl (by kernel_rfl) (fun _ _ _ h => h) (by rfl) ?_ ?_
      rotate_left 1
      · (intro w; go_simp; (try with_reducible rfl))
      try simp only [Act.put, List.setIfInBounds_toArray, List.set_cons_zero, List.set_cons_succ]
      refine Rg.takeP (i := 8) (oi := { dst := some 27, op := Op.move (Operand.tmp 13), type := 3, pos := "mat.go:86", after := #[], guard := none }) (v := ?_) rfl (by kernel_rfl) (fun _ _ _ h => h) (by rfl) ?_ ?_
      rotate_left 1
      · (intro w; go_simp; (try with_reducible rfl))
      try simp only [Act.put, List.setIfInBounds_toArray, List.set_cons_zero, List.set_cons_succ]
      refine Rg.takeP (i := 14) (oi := { dst := some 33, op := Op.move (Operand.tmp 4), type := 22, pos := "mat.go:86", after := #[], guard := none }) (v := ?_) rfl (by kernel_rfl) (fun _ _ _ h => h) (by rfl) ?_ ?_
      rotate_left 1
      · (intro w; go_simp; (try with_reducible rfl))
      try simp only [Act.put, List.setIfInBounds_toArray, List.set_cons_zero, List.set_cons_succ]
      refine Rg.takeP (i := 15) (oi := { dst := some 34, op := Op.move (Operand.tmp 13), type := 3, pos := "mat.go:86", after := #[], guard := none }) (v := ?_) rfl (by kernel_rfl) (fun _ _ _ h => h) (by rfl) ?_ ?_
      rotate_left 1
      · (intro w; go_simp; (try with_reducible rfl))
      try simp only [Act.put, List.setIfInBounds_toArray, List.set_cons_zero, List.set_cons_succ]
      refine Rg.takeP (i := 16) (oi := { dst := some 35, op := Op.indexAddr 22 (Operand.tmp 33) (Operand.tmp 34), type := 0, pos := "mat.go:86", after := #[{ on := 14, ground := Ground.data }, { on := 15, ground := Ground.data }], guard := none }) (v := ?_) rfl (by kernel_rfl) (fun _ _ _ h => h) (by rfl) ?_ ?_
      rotate_left 1
      · (intro w; go_simp; (try with_reducible rfl))
      try simp only [Act.put, List.setIfInBounds_toArray, List.set_cons_zero, List.set_cons_succ]
      refine Rg.takeS (i := 17) (oi := { dst := some 36, op := Op.load 3 (Operand.tmp 35), type := 3, pos := "mat.go:86", after := #[{ on := 16, ground := Ground.data }], guard := none }) (v := ?_) rfl (by kernel_rfl) (fun _ _ _ h => h) (by rfl) HS ?_ ?_
      rotate_left 1
      · (intro w hSw; (try dsimp only at hSw); (try go_split_ands); go_simp; (try with_reducible rfl))
      try simp only [Act.put, List.setIfInBounds_toArray, List.set_cons_zero, List.set_cons_succ]
      refine Rg.oneR (i := 5) (oi := { dst := some 24, op := Op.call { callee := Callee.value (Operand.func 36), args := #[Operand.tmp 21, Operand.tmp 22, Operand.tmp 23], argTypes := #[47, 3, 3] }, type := 3, pos := "mat.go:86", after := #[{ on := 2, ground := Ground.data }, { on := 3, ground := Ground.data }, { on := 4, ground := Ground.data }], guard := none }) rfl (by kernel_rfl) ?_
      refine Rg.stepS ?_
      intro K hK
      rw [if_pos (by rfl)]
      go_simp
      go_at_call 36
      refine (atP_any N m i kx ga gk L _ HMM.out h36.out (by omega) hKN HROW.out).mono ?_
      rintro e w1 ⟨rfl, hb⟩
      rw [HA.out]
      have hg := grown_of_below (row := some gk) hb
      have HK := Lib.hid (Blk.below HK.out hb (Blk.lt HK.out))
      have HWK := Lib.hid (HWK.out.grown hg (neq_of (by omega)))
      have HROW := Lib.hid (HROW.out.grown hg (neq_of (by omega)))
      have HCD := Lib.hid ((grown_at hg HBD.out HNE.out _).trans HCD.out)
      have HBD := Lib.hid (Nat.lt_of_lt_of_le HBD.out hg.size)
      have HG := Lib.hid (HG.out.trans hg)
      clear hb hg
      clear HS
      have HS := And.intro HWK.out HCD.out
      go_wp2_with fail
      refine hK.out _ _ HS ?_
      clear hK K
      try simp only [Act.put, List.setIfInBounds_toArray, List.set_cons_zero, List.set_cons_succ]
      refine Rg.oneR (i := 9) (oi := { dst := some 28, op := Op.call { callee := Callee.value (Operand.func 36), args := #[Operand.tmp 25, Operand.tmp 26, Operand.tmp 27], argTypes := #[47, 3, 3] }, type := 3, pos := "mat.go:86", after := #[{ on := 6, ground := Ground.data }, { on := 7, ground := Ground.data }, { on := 8, ground := Ground.data }, { on := 5, ground := Ground.chain }], guard := none }) rfl (by kernel_rfl) ?_
      refine Rg.stepS ?_
      intro K hK
      rw [if_pos (by rfl)]
      go_simp
      go_at_call 36
      refine (atP_any N m j kx ga gk L _ HMM.out h36.out (by omega) hKN HROW.out).mono ?_
      rintro e w1 ⟨rfl, hb⟩
      rw [HBB.out]
      have hg := grown_of_below (row := some gk) hb
      have HK := Lib.hid (Blk.below HK.out hb (Blk.lt HK.out))
      have HWK := Lib.hid (HWK.out.grown hg (neq_of (by omega)))
      have HROW := Lib.hid (HROW.out.grown hg (neq_of (by omega)))
      have HCD := Lib.hid ((grown_at hg HBD.out HNE.out _).trans HCD.out)
      have HBD := Lib.hid (Nat.lt_of_lt_of_le HBD.out hg.size)
      have HG := Lib.hid (HG.out.trans hg)
      clear hb hg
      clear HS
      have HS := And.intro HWK.out HCD.out
      go_wp2_with fail
      refine hK.out _ _ HS ?_
      clear hK K
      try simp only [Act.put, List.setIfInBounds_toArray, List.set_cons_zero, List.set_cons_succ]
      refine Rg.oneR (i := 10) (oi := { dst := some 29, op := Op.call { callee := Callee.value (Operand.func 35), args := #[Operand.tmp 24, Operand.tmp 28], argTypes := #[3, 3] }, type := 42, pos := "mat.go:86", after := #[{ on := 5, ground := Ground.data }, { on := 9, ground := Ground.data }, { on := 9, ground := Ground.chain }], guard := none }) rfl (by kernel_rfl) ?_
      refine Rg.stepS ?_
      intro K hK
      rw [if_pos (by rfl)]
      go_simp
      go_at_call 35
      refine (fixMul_any a b _ r_a.out r_b.out).mono ?_
      rintro e w1 ⟨rfl, hb⟩
      rw [P_.out]
      have hg := grown_of_below (row := some gk) hb
      have HK := Lib.hid (Blk.below HK.out hb (Blk.lt HK.out))
      have HWK := Lib.hid (HWK.out.grown hg (neq_of (by omega)))
      have HROW := Lib.hid (HROW.out.grown hg (neq_of (by omega)))
      have HCD := Lib.hid ((grown_at hg HBD.out HNE.out _).trans HCD.out)
      have HBD := Lib.hid (Nat.lt_of_lt_of_le HBD.out hg.size)
      have HG := Lib.hid (HG.out.trans hg)
      clear hb hg
      clear HS
      have HS := And.intro HWK.out HCD.out
      go_wp2_with fail
      refine hK.out _ _ HS ?_
      clear hK K
      try simp only [Act.put, List.setIfInBounds_toArray, List.set_cons_zero, List.set_cons_succ]
      refine Rg.takeP (i := 11) (oi := { dst := some 30, op := Op.extract (Operand.tmp 29) 0, type := 3, pos := "mat.go:86", after := #[{ on := 10, ground := Ground.data }], guard := none }) (v := ?_) rfl (by kernel_rfl) (fun _ _ _ h => h) (by rfl) ?_ ?_
      rotate_left 1
      · (intro w; go_simp; (try with_reducible rfl))
      try simp only [Act.put, List.setIfInBounds_toArray, List.set_cons_zero, List.set_cons_succ]
      refine Rg.takeP (i := 12) (oi := { dst := some 31, op := Op.extract (Operand.tmp 29) 1, type := 4, pos := "mat.go:86", after := #[{ on := 10, ground := Ground.data }], guard := none }) (v := ?_) rfl (by kernel_rfl) (fun _ _ _ h => h) (by rfl) ?_ ?_
      rotate_left 1
      · (intro w; go_simp; (try with_reducible rfl))
      try simp only [Act.put, List.setIfInBounds_toArray, List.set_cons_zero, List.set_cons_succ]
      refine Rg.oneR (i := 13) (oi := { dst := some 32, op := Op.call { callee := Callee.value (Operand.func 26), args := #[Operand.tmp 20, Operand.tmp 30, Operand.tmp 31], argTypes := #[47, 3, 4] }, type := 3, pos := "mat.go:86", after := #[{ on := 1, ground := Ground.data }, { on := 11, ground := Ground.data }, { on := 12, ground := Ground.data }, { on := 10, ground := Ground.chain }], guard := none }) rfl (by kernel_rfl) ?_
      refine Rg.stepS ?_
      intro K hK
      rw [if_pos (by rfl)]
      go_simp
      go_at_call 26
      refine (see_any (N : Int) (some ⟨ga, 0, none⟩) m m gk _ p pb _ HK.out).mono ?_
      rintro e w1 ⟨rfl, hst, hg⟩
      have HK := Lib.hid hst
      have HWK := Lib.hid (HWK.out.grown hg (neq_of (by omega)))
      have HROW := Lib.hid (HROW.out.grown hg (neq_of (by omega)))
      have HCD := Lib.hid ((grown_at hg HBD.out HNE.out _).trans HCD.out)
      have HBD := Lib.hid (Nat.lt_of_lt_of_le HBD.out hg.size)
      have HG := Lib.hid (HG.out.trans hg)
      clear hst hg
      clear HS
      have HS := And.intro HWK.out HCD.out
      go_wp2_with fail
      refine hK.out _ _ HS ?_
      clear hK K
      try simp only [Act.put, List.setIfInBounds_toArray, List.set_cons_zero, List.set_cons_succ]
      refine Rg.oneR (i := 18) (oi := { dst := some 37, op := Op.call { callee := Callee.value (Operand.func 35), args := #[Operand.tmp 32, Operand.tmp 36], argTypes := #[3, 3] }, type := 42, pos := "mat.go:86", after := #[{ on := 13, ground := Ground.data }, { on := 17, ground := Ground.data }, { on := 13, ground := Ground.chain }], guard := none }) rfl (by kernel_rfl) ?_
      refine Rg.stepS ?_
      intro K hK
      rw [if_pos (by rfl)]
      go_simp
      go_at_call 35
      refine (fixMul_any p dk _ r_p.out r_d.out).mono ?_
      rintro e w1 ⟨rfl, hb⟩
      rw [Q_.out]
      have hg := grown_of_below (row := some gk) hb
      have HK := Lib.hid (Blk.below HK.out hb (Blk.lt HK.out))
      have HWK := Lib.hid (HWK.out.grown hg (neq_of (by omega)))
      have HROW := Lib.hid (HROW.out.grown hg (neq_of (by omega)))
      have HCD := Lib.hid ((grown_at hg HBD.out HNE.out _).trans HCD.out)
      have HBD := Lib.hid (Nat.lt_of_lt_of_le HBD.out hg.size)
      have HG := Lib.hid (HG.out.trans hg)
      clear hb hg
      clear HS
      have HS := And.intro HWK.out HCD.out
      go_wp2_with fail
      refine hK.out _ _ HS ?_
      clear hK K
      try simp only [Act.put, List.setIfInBounds_toArray, List.set_cons_zero, List.set_cons_succ]
      refine Rg.takeP (i := 19) (oi := { dst := some 38, op := Op.extract (Operand.tmp 37) 0, type := 3, pos := "mat.go:86", after := #[{ on := 18, ground := Ground.data }], guard := none }) (v := ?_) rfl (by kernel_rfl) (fun _ _ _ h => h) (by rfl) ?_ ?_
      rotate_left 1
      · (intro w; go_simp; (try with_reducible rfl))
      try simp only [Act.put, List.setIfInBounds_toArray, List.set_cons_zero, List.set_cons_succ]
      refine Rg.takeP (i := 20) (oi := { dst := some 39, op := Op.extract (Operand.tmp 37) 1, type := 4, pos := "mat.go:86", after := #[{ on := 18, ground := Ground.data }], guard := none }) (v := ?_) rfl (by kernel_rfl) (fun _ _ _ h => h) (by rfl) ?_ ?_
      rotate_left 1
      · (intro w; go_simp; (try with_reducible rfl))
      try simp only [Act.put, List.setIfInBounds_toArray, List.set_cons_zero, List.set_cons_succ]
      refine Rg.oneR (i := 21) (oi := { dst := some 40, op := Op.call { callee := Callee.value (Operand.func 26), args := #[Operand.tmp 19, Operand.tmp 38, Operand.tmp 39], argTypes := #[47, 3, 4] }, type := 3, pos := "mat.go:86", after := #[{ on := 0, ground := Ground.data }, { on := 19, ground := Ground.data }, { on := 20, ground := Ground.data }, { on := 18, ground := Ground.chain }], guard := none }) rfl (by kernel_rfl) ?_
      refine Rg.stepF ?_ ?_
      · kernel_rfl
      intro K hK
      rw [if_pos (by rfl)]
      go_simp
      go_at_call 26
      refine (see_any (N : Int) (some ⟨ga, 0, none⟩) m m gk _ q qb _ HK.out).mono ?_
      rintro e w1 ⟨rfl, hst, hg⟩
      have HK := Lib.hid hst
      have HWK := Lib.hid (HWK.out.grown hg (neq_of (by omega)))
      have HROW := Lib.hid (HROW.out.grown hg (neq_of (by omega)))
      have HCD := Lib.hid ((grown_at hg HBD.out HNE.out _).trans HCD.out)
      have HBD := Lib.hid (Nat.lt_of_lt_of_le HBD.out hg.size)
      have HG := Lib.hid (HG.out.trans hg)
      clear hst hg
      clear HS
      have HS := And.intro HWK.out HCD.out
      go_wp2_with fail
      refine hK.out _ _ ?_
      clear hK K
      try simp only [Act.put, List.setIfInBounds_toArray, List.set_cons_zero, List.set_cons_succ]
      refine Rg.takeP (i := 22) (oi := { dst := some 14, op := Op.assign (Operand.tmp 40), type := 3, pos := "mat.go:86", after := #[{ on := 21, ground := Ground.data }, { on := 21, ground := Ground.chain }, { on := 0, ground := Ground.phase }, { on := 1, ground := Ground.phase }, { on := 2, ground := Ground.phase }, { on := 3, ground := Ground.phase }, { on := 4, ground := Ground.phase }, { on := 5, ground := Ground.phase }, { on := 6, ground := Ground.phase }, { on := 7, ground := Ground.phase }, { on := 8, ground := Ground.phase }, { on := 9, ground := Ground.phase }, { on := 10, ground := Ground.phase }, { on := 11, ground := Ground.phase }, { on := 12, ground := Ground.phase }, { on := 13, ground := Ground.phase }, { on := 14, ground := Ground.phase }, { on := 15, ground := Ground.phase }, { on := 16, ground := Ground.phase }, { on := 17, ground := Ground.phase }, { on := 18, ground := Ground.phase }, { on := 19, ground := Ground.phase }, { on := 20, ground := Ground.phase }, { on := 21, ground := Ground.phase }], guard := none }) (v := ?_) rfl (by kernel_rfl) (fun _ _ _ h => h) (by rfl) ?_ ?_
      rotate_left 1
      · (intro w; go_simp; (try with_reducible rfl))
      try simp only [Act.put, List.setIfInBounds_toArray, List.set_cons_zero, List.set_cons_succ]
      refine Rg.doneR (by kernel_rfl) ?_ _
      refine NoPanic.normal ?_
      clear HS HCD HBD
      go_upto_region 5 with fail
      have HK := Lib.hid (Blk.drew HK.out)
      have HWK := Lib.hid HWK.out.drew
      have HROW := Lib.hid HROW.out.drew
      have HG := Lib.hid (HG.out.trans (grown_of_below (row := some gk) ((Below.refl w1.heap.size w1).drew)))
      have HS := HWK.out
      refine wp_region_noPanic ?_
      refine Rg.beginR [0] (fun w' => Blk w' gt 47 #[.int .i64 (N : Int), .slice (some ⟨ga, 0, none⟩) m m, .pointer (some ⟨gk, 0, none⟩)]) (by kernel_rfl) ?_
      generalize w1.drew = w1 at *
      refine Rg.takeS (i := 0) (oi := { dst := some 41, op := Op.load 47 (Operand.tmp 6), type := 47, pos := "mat.go:87", after := #[], guard := none }) (v := .agg #[.int .i64 (N : Int), .slice (some ⟨ga, 0, none⟩) m m, .pointer (some ⟨gk, 0, none⟩)]) rfl (by kernel_rfl) (fun _ _ _ h => h) (by rfl) HS ?_ ?_
      · (intro w' hSw; exact exec_load_st 47 (.tmp 6) rfl gt rfl hSw Try.underlying47 rfl (by kernel_rfl))
      try simp only [Act.put, List.setIfInBounds_toArray, List.set_cons_zero, List.set_cons_succ]
      refine Rg.takeP (i := 1) (oi := { dst := some 42, op := Op.move (Operand.tmp 1), type := 3, pos := "mat.go:87", after := #[], guard := none }) (v := ?_) rfl (by kernel_rfl) (fun _ _ _ h => h) (by rfl) ?_ ?_
      rotate_left 1
      · (intro w; go_simp; (try with_reducible rfl))
      try simp only [Act.put, List.setIfInBounds_toArray, List.set_cons_zero, List.set_cons_succ]
      refine Rg.takeP (i := 2) (oi := { dst := some 43, op := Op.move (Operand.tmp 14), type := 3, pos := "mat.go:87", after := #[], guard := none }) (v := ?_) rfl (by kernel_rfl) (fun _ _ _ h => h) (by rfl) ?_ ?_
      rotate_left 1
      · (intro w; go_simp; (try with_reducible rfl))
      try simp only [Act.put, List.setIfInBounds_toArray, List.set_cons_zero, List.set_cons_succ]
      refine Rg.oneR (i := 3) (oi := { dst := some 44, op := Op.call { callee := Callee.value (Operand.func 34), args := #[Operand.tmp 42, Operand.tmp 43], argTypes := #[3, 3] }, type := 42, pos := "mat.go:87", after := #[{ on := 1, ground := Ground.data }, { on := 2, ground := Ground.data }], guard := none }) rfl (by kernel_rfl) ?_
      refine Rg.stepS ?_
      intro K hK
      rw [if_pos (by rfl)]
      go_simp
      go_at_call 34
      refine (fixSub_any s q _ r_s.out r_q.out).mono ?_
      rintro e w1 ⟨rfl, rfl⟩
      rw [show stop (s - q) = fsub s q from rfl, T_.out]
      go_wp2_with fail
      refine hK.out _ _ HS ?_
      clear hK K
      try simp only [Act.put, List.setIfInBounds_toArray, List.set_cons_zero, List.set_cons_succ]
      refine Rg.takeP (i := 4) (oi := { dst := some 45, op := Op.extract (Operand.tmp 44) 0, type := 3, pos := "mat.go:87", after := #[{ on := 3, ground := Ground.data }], guard := none }) (v := ?_) rfl (by kernel_rfl) (fun _ _ _ h => h) (by rfl) ?_ ?_
      rotate_left 1
      · (intro w; go_simp; (try with_reducible rfl))
      try simp only [Act.put, List.setIfInBounds_toArray, List.set_cons_zero, List.set_cons_succ]
      refine Rg.takeP (i := 5) (oi := { dst := some 46, op := Op.extract (Operand.tmp 44) 1, type := 4, pos := "mat.go:87", after := #[{ on := 3, ground := Ground.data }], guard := none }) (v := ?_) rfl (by kernel_rfl) (fun _ _ _ h => h) (by rfl) ?_ ?_
      rotate_left 1
      · (intro w; go_simp; (try with_reducible rfl))
      try simp only [Act.put, List.setIfInBounds_toArray, List.set_cons_zero, List.set_cons_succ]
      refine Rg.oneR (i := 6) (oi := { dst := some 47, op := Op.call { callee := Callee.value (Operand.func 26), args := #[Operand.tmp 41, Operand.tmp 45, Operand.tmp 46], argTypes := #[47, 3, 4] }, type := 3, pos := "mat.go:87", after := #[{ on := 0, ground := Ground.data }, { on := 4, ground := Ground.data }, { on := 5, ground := Ground.data }, { on := 3, ground := Ground.chain }], guard := none }) rfl (by kernel_rfl) ?_
      refine Rg.stepF ?_ ?_
      · kernel_rfl
      intro K hK
      rw [if_pos (by rfl)]
      go_simp
      go_at_call 26
      refine (see_any (N : Int) (some ⟨ga, 0, none⟩) m m gk _ t tb _ HK.out).mono ?_
      rintro e w1 ⟨rfl, hst, hg⟩
      have HK := Lib.hid hst
      have HWK := Lib.hid (HWK.out.grown hg (neq_of (by omega)))
      have HROW := Lib.hid (HROW.out.grown hg (neq_of (by omega)))
      have HG := Lib.hid (HG.out.trans hg)
      clear hst hg
      clear HS
      have HS := HWK.out
      go_wp2_with fail
      refine hK.out _ _ ?_
      clear hK K
      try simp only [Act.put, List.setIfInBounds_toArray, List.set_cons_zero, List.set_cons_succ]
      refine Rg.takeP (i := 7) (oi := { dst := some 1, op := Op.assign (Operand.tmp 47), type := 3, pos := "mat.go:87", after := #[{ on := 6, ground := Ground.data }, { on := 6, ground := Ground.chain }, { on := 0, ground := Ground.phase }, { on := 1, ground := Ground.phase }, { on := 2, ground := Ground.phase }, { on := 3, ground := Ground.phase }, { on := 4, ground := Ground.phase }, { on := 5, ground := Ground.phase }, { on := 6, ground := Ground.phase }], guard := none }) (v := ?_) rfl (by kernel_rfl) (fun _ _ _ h => h) (by rfl) ?_ ?_
      rotate_left 1
      · (intro w; go_simp; (try with_reducible rfl))
      try simp only [Act.put, List.setIfInBounds_toArray, List.set_cons_zero, List.set_cons_succ]
      refine Rg.doneR (by kernel_rfl) ?_ _
      refine NoPanic.normal ?_
      clear HS
      go_wp2_with fail
      refine ⟨⟨kx + 1, by omega, by go_num, by rw [HCH.out], ?_, HWK.out, HROW.out, HG.out⟩, by simp [intOf]; omega⟩
      rw [HCH.out]
      have h := HK.out
      simp only [Bool.or_assoc] at h ⊢
      exact h
    · obtain rfl : kx = U := by omega
      clear hlt
      obtain ⟨⟨s, cb⟩, hch⟩ : ∃ ch, (lessF (L i) (L j) (fun k => D.getD k 0) s0 kx) = ch := ⟨_, rfl⟩
      have HCH := Lib.hid hch
      rw [hch] at HK ⊢
      clear hch r_s
      simp only at HK ⊢
      go_wp2_with fail
      go_ret
      exact ⟨by rw [HCH.out]; rfl, by rw [HCH.out]; exact HK.out, HG.out⟩
end Go.Proofs.Ytejefecglioifaa.BigW
