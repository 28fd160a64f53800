/- Contracts of add and sub of fourwatchbig's words. -/
import Derived.Test.YtlcpackmoolngaaBigW
namespace Go.Proofs.Ytlcpackmoolngaa.BigW
open Go.RowKit Go.Proofs.Ytlcpackmoolngaa.Mem Go.Proofs.Ytlcpackmoolngaa.BigLaw
set_option linter.unusedVariables false

theorem elemU32 : Elem Try.prog 61 90 (.int .u32 0) 1 4 := ⟨Try.underlying61, by kernel_rfl, rfl, by omega⟩
theorem getD_out {l : List Nat} {i : Nat} (h : l.length ≤ i) : l.getD i 0 = 0 := by
  rw [List.getD_eq_getElem?_getD, List.getElem?_eq_none h]; rfl
theorem valF_val {l : List Nat} {n : Nat} (h : l.length ≤ n) : valF (fun i => l.getD i 0) n = val l := valF_zeros h fun i h1 _ => getD_out h1

/-- the walk of add behind the exchange: l is the longer one -/
theorem add_val {l l' : List Nat} (hs : small l) (hs' : small l') (h : l'.length ≤ l.length) :
    (dAdd (fun i => l.getD i 0) (fun i => l'.getD i 0) l.length = cAdd (fun i => l.getD i 0) (fun i => l'.getD i 0) l.length) ∧
    valF (dAdd (fun i => l.getD i 0) (fun i => l'.getD i 0)) (l.length + 1) = val l + val l' := by
  have hc := cAdd_le (f := fun i => l.getD i 0) (g := fun i => l'.getD i 0) (fun i => getD_lt hs i) (fun i => getD_lt hs' i) l.length
  have hd : dAdd (fun i => l.getD i 0) (fun i => l'.getD i 0) l.length = cAdd (fun i => l.getD i 0) (fun i => l'.getD i 0) l.length := by
    unfold dAdd
    simp only [getD_out (Nat.le_refl l.length), getD_out h]
    omega
  refine ⟨hd, ?_⟩
  have h1 := add_law (fun i => l.getD i 0) (fun i => l'.getD i 0) l.length
  rw [valF_val (Nat.le_refl _), valF_val h] at h1
  rw [valF_succ, hd]
  omega

theorem add_any (A A' : Option Addr) (c c' : Nat) (l l' : List Nat) (B : Nat) (w : World) (hB : B ≤ w.heap.size) (h : Wd w B A c l) (h' : Wd w B A' c' l') (hsz : l.length ≤ 1000000) (hsz' : l'.length ≤ 1000000) :
    Calls Try.prog 65 #[.slice A l.length c, .slice A' l'.length c'] w fun e w' => GaveW w w' (val l + val l') e := by
  by_cases hsw : l.length < l'.length
  · rw [Nat.add_comm]
    revert hsw h h' hsz hsz'
    revert A A' c c' l l'
    intro A' A c' c l' l h' h hsz' hsz hsw
    have hsw' : (l'.length : Int) < (l.length : Int) := by omega
    have H := Lib.hid h
    have H' := Lib.hid h'
    clear h h'
    go_enter Try.func65, Try.ntmps65
    go_wp2_with (refine wpList_make_row rfl _ _ _ rfl elemU32 (l.length + 1) rfl rfl (by go_num) (by go_num) (by omega) (by omega) ?_)
    go_loopw [6, 7] (fun c i wr => ∃ k : Nat, k ≤ l.length ∧ i = .int .i64 k ∧ c = .int .u64 (cAdd (fun i => l.getD i 0) (fun i => l'.getD i 0) k : Nat) ∧ Blk wr w.heap.size 90 (rowF .u32 (l.length + 1) fun j => if j < k then (dAdd (fun i => l.getD i 0) (fun i => l'.getD i 0) j : Int) else 0) ∧ Below w.heap.size w wr) (fun _ i _ => l.length - (intOf i).toNat)
    case atStart => exact ⟨0, by omega, rfl, rfl, Blk.none (Blk.new rfl), (Below.refl _ _).alloc (Nat.le_refl _) _⟩
    case round =>
      obtain ⟨k, hk, rfl, rfl, hblk, hb⟩ := hrel
      have hc1 := cAdd_le (f := fun i => l.getD i 0) (g := fun i => l'.getD i 0) (fun i => getD_lt H.out.small i) (fun i => getD_lt H'.out.small i) k
      have hcell := hblk.upto_cell (show k < l.length + 1 by omega)
      have hthaw := hblk.thaw k
      have HS := Lib.hid (show cAdd (fun i => l.getD i 0) (fun i => l'.getD i 0) (k + 1) = (l.getD k 0 + l'.getD k 0 + cAdd (fun i => l.getD i 0) (fun i => l'.getD i 0) k) / 4294967296 from rfl)
      have HD := Lib.hid (show dAdd (fun i => l.getD i 0) (fun i => l'.getD i 0) k = (l.getD k 0 + l'.getD k 0 + cAdd (fun i => l.getD i 0) (fun i => l'.getD i 0) k) % 4294967296 from rfl)
      by_cases hlt : k < l.length
      · obtain ⟨b, o, rfl, hbB, hcx⟩ := (H.out.keep (w' := wr) (fun b o hb' => below_cell hb b o (by omega))).at_ hlt
        have hx := getD_lt H.out.small k
        have hlt1 : (k : Int) < (l.length : Int) := by omega
        by_cases hlt' : k < l'.length
        · obtain ⟨b', o', rfl, hbB', hcy⟩ := (H'.out.keep (w' := wr) (fun b o hb' => below_cell hb b o (by omega))).at_ hlt'
          have hy := getD_lt H'.out.small k
          generalize l.getD k 0 = x at hcx hx HS HD
          generalize l'.getD k 0 = y at hcy hy HS HD
          generalize hcc : cAdd (fun i => l.getD i 0) (fun i => l'.getD i 0) k = c at hc1 HS HD
          have HC := Lib.hid hcc
          clear hcc
          go_wp2_with fail
          exact ⟨⟨k + 1, by omega, by go_num, by rw [HS.out]; go_num, hblk.upto (by rw [HD.out]; go_num), hb.setCell (Nat.le_refl _) _⟩, by simp [intOf] <;> omega⟩
        · have hy := Lib.hid (getD_out (show l'.length ≤ k by omega))
          have hlt2 : ¬ (k : Int) < (l'.length : Int) := by omega
          generalize l.getD k 0 = x at hcx hx HS HD
          rw [hy.out] at HS HD
          generalize hcc : cAdd (fun i => l.getD i 0) (fun i => l'.getD i 0) k = c at hc1 HS HD
          have HC := Lib.hid hcc
          clear hcc
          go_wp2_with fail
          exact ⟨⟨k + 1, by omega, by go_num, by rw [HS.out]; go_num, hblk.upto (by rw [HD.out]; go_num), hb.setCell (Nat.le_refl _) _⟩, by simp [intOf] <;> omega⟩
      · obtain ⟨e1, e2⟩ := add_val H.out.small H'.out.small (show l'.length ≤ l.length by omega)
        have hkl : k = l.length := by omega
        rw [hkl] at hcell hthaw hblk hc1 ⊢
        have HV := Lib.hid e2
        generalize cAdd (fun i => l.getD i 0) (fun i => l'.getD i 0) l.length = ce at e1 hc1 ⊢
        have HE := Lib.hid e1
        clear HS HD e1 e2 hkl hlt
        go_wp2_with fail
        have hblk2 := Blk.all (hblk.upto (v := (ce : Nat)) (by rw [HE.out]))
        have hb2 := hb.setCell (p := ⟨w.heap.size, l.length, none⟩) (Nat.le_refl _) (.int .u32 (ce : Nat))
        have HW := Lib.hid (wd_of_blk hblk2 (by omega) (fun i _ => Nat.mod_lt _ (by omega)))
        have hT := trim_any _ _ _ _ _ HW.out
        rw [List.length_map, List.length_range] at hT
        refine hT.mono ?_
        rintro e w' ⟨ht, rfl⟩
        obtain ⟨A, c, l1, rfl, h2⟩ := gave_of_trim (n := val l + val l') HW.out (by have := hblk2.lt; omega) hb2 (by rw [val_map]; exact HV.out) ht
        have H2 := Lib.hid h2
        clear h2 ht
        go_wp2_with fail
        go_ret
        exact ⟨A, c, l1, rfl, H2.out⟩
  · have hsw' : ¬ (l.length : Int) < (l'.length : Int) := by omega
    have H := Lib.hid h
    have H' := Lib.hid h'
    clear h h'
    go_enter Try.func65, Try.ntmps65
    go_wp2_with (refine wpList_make_row rfl _ _ _ rfl elemU32 (l.length + 1) rfl rfl (by go_num) (by go_num) (by omega) (by omega) ?_)
    go_loopw [6, 7] (fun c i wr => ∃ k : Nat, k ≤ l.length ∧ i = .int .i64 k ∧ c = .int .u64 (cAdd (fun i => l.getD i 0) (fun i => l'.getD i 0) k : Nat) ∧ Blk wr w.heap.size 90 (rowF .u32 (l.length + 1) fun j => if j < k then (dAdd (fun i => l.getD i 0) (fun i => l'.getD i 0) j : Int) else 0) ∧ Below w.heap.size w wr) (fun _ i _ => l.length - (intOf i).toNat)
    case atStart => exact ⟨0, by omega, rfl, rfl, Blk.none (Blk.new rfl), (Below.refl _ _).alloc (Nat.le_refl _) _⟩
    case round =>
      obtain ⟨k, hk, rfl, rfl, hblk, hb⟩ := hrel
      have hc1 := cAdd_le (f := fun i => l.getD i 0) (g := fun i => l'.getD i 0) (fun i => getD_lt H.out.small i) (fun i => getD_lt H'.out.small i) k
      have hcell := hblk.upto_cell (show k < l.length + 1 by omega)
      have hthaw := hblk.thaw k
      have HS := Lib.hid (show cAdd (fun i => l.getD i 0) (fun i => l'.getD i 0) (k + 1) = (l.getD k 0 + l'.getD k 0 + cAdd (fun i => l.getD i 0) (fun i => l'.getD i 0) k) / 4294967296 from rfl)
      have HD := Lib.hid (show dAdd (fun i => l.getD i 0) (fun i => l'.getD i 0) k = (l.getD k 0 + l'.getD k 0 + cAdd (fun i => l.getD i 0) (fun i => l'.getD i 0) k) % 4294967296 from rfl)
      by_cases hlt : k < l.length
      · obtain ⟨b, o, rfl, hbB, hcx⟩ := (H.out.keep (w' := wr) (fun b o hb' => below_cell hb b o (by omega))).at_ hlt
        have hx := getD_lt H.out.small k
        have hlt1 : (k : Int) < (l.length : Int) := by omega
        by_cases hlt' : k < l'.length
        · obtain ⟨b', o', rfl, hbB', hcy⟩ := (H'.out.keep (w' := wr) (fun b o hb' => below_cell hb b o (by omega))).at_ hlt'
          have hy := getD_lt H'.out.small k
          generalize l.getD k 0 = x at hcx hx HS HD
          generalize l'.getD k 0 = y at hcy hy HS HD
          generalize hcc : cAdd (fun i => l.getD i 0) (fun i => l'.getD i 0) k = c at hc1 HS HD
          have HC := Lib.hid hcc
          clear hcc
          go_wp2_with fail
          exact ⟨⟨k + 1, by omega, by go_num, by rw [HS.out]; go_num, hblk.upto (by rw [HD.out]; go_num), hb.setCell (Nat.le_refl _) _⟩, by simp [intOf] <;> omega⟩
        · have hy := Lib.hid (getD_out (show l'.length ≤ k by omega))
          have hlt2 : ¬ (k : Int) < (l'.length : Int) := by omega
          generalize l.getD k 0 = x at hcx hx HS HD
          rw [hy.out] at HS HD
          generalize hcc : cAdd (fun i => l.getD i 0) (fun i => l'.getD i 0) k = c at hc1 HS HD
          have HC := Lib.hid hcc
          clear hcc
          go_wp2_with fail
          exact ⟨⟨k + 1, by omega, by go_num, by rw [HS.out]; go_num, hblk.upto (by rw [HD.out]; go_num), hb.setCell (Nat.le_refl _) _⟩, by simp [intOf] <;> omega⟩
      · obtain ⟨e1, e2⟩ := add_val H.out.small H'.out.small (show l'.length ≤ l.length by omega)
        have hkl : k = l.length := by omega
        rw [hkl] at hcell hthaw hblk hc1 ⊢
        have HV := Lib.hid e2
        generalize cAdd (fun i => l.getD i 0) (fun i => l'.getD i 0) l.length = ce at e1 hc1 ⊢
        have HE := Lib.hid e1
        clear HS HD e1 e2 hkl hlt
        go_wp2_with fail
        have hblk2 := Blk.all (hblk.upto (v := (ce : Nat)) (by rw [HE.out]))
        have hb2 := hb.setCell (p := ⟨w.heap.size, l.length, none⟩) (Nat.le_refl _) (.int .u32 (ce : Nat))
        have HW := Lib.hid (wd_of_blk hblk2 (by omega) (fun i _ => Nat.mod_lt _ (by omega)))
        have hT := trim_any _ _ _ _ _ HW.out
        rw [List.length_map, List.length_range] at hT
        refine hT.mono ?_
        rintro e w' ⟨ht, rfl⟩
        obtain ⟨A, c, l1, rfl, h2⟩ := gave_of_trim (n := val l + val l') HW.out (by have := hblk2.lt; omega) hb2 (by rw [val_map]; exact HV.out) ht
        have H2 := Lib.hid h2
        clear h2 ht
        go_wp2_with fail
        go_ret
        exact ⟨A, c, l1, rfl, H2.out⟩

theorem sub_val {l l' : List Nat} (hs : small l) (hs' : small l') (h : l'.length ≤ l.length) (hv : val l' ≤ val l) :
    valF (dSub (fun i => l.getD i 0) (fun i => l'.getD i 0)) l.length = val l - val l' := by
  have h1 := sub_law (f := fun i => l.getD i 0) (g := fun i => l'.getD i 0) (fun i => getD_lt hs' i) l.length
  rw [valF_val (Nat.le_refl _), valF_val h] at h1
  have h2 := valF_lt (f := dSub (fun i => l.getD i 0) (fun i => l'.getD i 0)) (n := l.length) (fun i _ => dSub_lt (fun i => getD_lt hs i) i)
  have h3 := cSub_le (fun i => l.getD i 0) (fun i => l'.getD i 0) l.length
  rcases Nat.eq_zero_or_pos (cSub (fun i => l.getD i 0) (fun i => l'.getD i 0) l.length) with h4 | h4
  · rw [h4] at h1; omega
  · have h5 : cSub (fun i => l.getD i 0) (fun i => l'.getD i 0) l.length = 1 := by omega
    rw [h5] at h1; omega

theorem sub_any (A A' : Option Addr) (c c' : Nat) (l l' : List Nat) (B : Nat) (w : World) (hB : B ≤ w.heap.size) (h : Wd w B A c l) (h' : Wd w B A' c' l') (hsz : l.length ≤ 1000000) (hsz' : l'.length ≤ l.length) (hv : val l' ≤ val l) :
    Calls Try.prog 67 #[.slice A l.length c, .slice A' l'.length c'] w fun e w' => GaveW w w' (val l - val l') e := by
  have H := Lib.hid h
  have H' := Lib.hid h'
  have HV := Lib.hid (sub_val h.small h'.small hsz' hv)
  clear h h' hv
  go_enter Try.func67, Try.ntmps67
  go_wp2_with (refine wpList_make_row rfl _ _ _ rfl elemU32 l.length rfl rfl (by go_num) (by go_num) (by omega) (by omega) ?_)
  go_loopw [6, 7] (fun c i wr => ∃ k : Nat, k ≤ l.length ∧ i = .int .i64 k ∧ c = .int .u64 (cSub (fun i => l.getD i 0) (fun i => l'.getD i 0) k : Nat) ∧ Blk wr w.heap.size 90 (rowF .u32 l.length fun j => if j < k then (dSub (fun i => l.getD i 0) (fun i => l'.getD i 0) j : Int) else 0) ∧ Below w.heap.size w wr) (fun _ i _ => l.length - (intOf i).toNat)
  case atStart => exact ⟨0, by omega, rfl, rfl, Blk.none (Blk.new rfl), (Below.refl _ _).alloc (Nat.le_refl _) _⟩
  case round =>
    obtain ⟨k, hk, rfl, rfl, hblk, hb⟩ := hrel
    have hc1 := cSub_le (fun i => l.getD i 0) (fun i => l'.getD i 0) k
    have hthaw := hblk.thaw k
    by_cases hlt : k < l.length
    · have hcell := hblk.upto_cell hlt
      have HS := Lib.hid (show cSub (fun i => l.getD i 0) (fun i => l'.getD i 0) (k + 1) = if l.getD k 0 < l'.getD k 0 + cSub (fun i => l.getD i 0) (fun i => l'.getD i 0) k then 1 else 0 from rfl)
      have HD := Lib.hid (show dSub (fun i => l.getD i 0) (fun i => l'.getD i 0) k = if l.getD k 0 < l'.getD k 0 + cSub (fun i => l.getD i 0) (fun i => l'.getD i 0) k then l.getD k 0 + 4294967296 - (l'.getD k 0 + cSub (fun i => l.getD i 0) (fun i => l'.getD i 0) k) else l.getD k 0 - (l'.getD k 0 + cSub (fun i => l.getD i 0) (fun i => l'.getD i 0) k) from rfl)
      obtain ⟨b, o, rfl, hbB, hcx⟩ := (H.out.keep (w' := wr) (fun b o hb' => below_cell hb b o (by omega))).at_ hlt
      have hx := getD_lt H.out.small k
      have hlt1 : (k : Int) < (l.length : Int) := by omega
      by_cases hlt' : k < l'.length
      · obtain ⟨b', o', rfl, hbB', hcy⟩ := (H'.out.keep (w' := wr) (fun b o hb' => below_cell hb b o (by omega))).at_ hlt'
        have hy := getD_lt H'.out.small k
        generalize l.getD k 0 = x at hcx hx HS HD
        generalize l'.getD k 0 = y at hcy hy HS HD
        generalize hcc : cSub (fun i => l.getD i 0) (fun i => l'.getD i 0) k = c at hc1 HS HD
        have HC := Lib.hid hcc
        clear hcc
        go_wp2_with fail
        refine ⟨⟨k + 1, by omega, by go_num, by rw [HS.out]; simp only [u64wrap]; split <;> go_num, hblk.upto (by rw [HD.out]; simp only [u64wrap]; split <;> go_num), hb.setCell (Nat.le_refl _) _⟩, by simp [intOf] <;> omega⟩
      · have hy := Lib.hid (getD_out (show l'.length ≤ k by omega))
        have hlt2 : ¬ (k : Int) < (l'.length : Int) := by omega
        generalize l.getD k 0 = x at hcx hx HS HD
        rw [hy.out] at HS HD
        generalize hcc : cSub (fun i => l.getD i 0) (fun i => l'.getD i 0) k = c at hc1 HS HD
        have HC := Lib.hid hcc
        clear hcc
        go_wp2_with fail
        refine ⟨⟨k + 1, by omega, by go_num, by rw [HS.out]; simp only [u64wrap]; split <;> go_num, hblk.upto (by rw [HD.out]; simp only [u64wrap]; split <;> go_num), hb.setCell (Nat.le_refl _) _⟩, by simp [intOf] <;> omega⟩
    · have hkl : k = l.length := by omega
      rw [hkl] at hblk ⊢
      have hblk2 := hblk.all
      have hg := hblk2.lt
      have HW := Lib.hid (wd_of_blk hblk2 (by omega) (fun i _ => dSub_lt (fun i => getD_lt H.out.small i) i))
      have hT := trim_any _ _ _ _ _ HW.out
      rw [List.length_map, List.length_range] at hT
      have HT := Lib.hid hT
      clear hkl hlt hthaw hT hc1
      generalize cSub (fun i => l.getD i 0) (fun i => l'.getD i 0) l.length = ce
      go_wp2_with fail
      refine HT.out.mono ?_
      rintro e w' ⟨ht, rfl⟩
      obtain ⟨A, c, l1, rfl, h2⟩ := gave_of_trim (n := val l - val l') HW.out (by omega) hb (by rw [val_map]; exact HV.out) ht
      have H2 := Lib.hid h2
      clear h2 ht
      go_wp2_with fail
      go_ret
      exact ⟨A, c, l1, rfl, H2.out⟩
end Go.Proofs.Ytlcpackmoolngaa.BigW
