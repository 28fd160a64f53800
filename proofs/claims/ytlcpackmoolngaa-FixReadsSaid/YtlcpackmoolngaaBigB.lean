/- Contracts of left, length, plain and twin of fourwatchbig's words. -/
import Derived.Test.YtlcpackmoolngaaBigA
namespace Go.Proofs.Ytlcpackmoolngaa.BigW
open Go.RowKit Go.Proofs.Ytlcpackmoolngaa.Mem Go.Proofs.Ytlcpackmoolngaa.BigLaw
set_option linter.unusedVariables false

theorem or_low (h v s : Nat) (hh : h < 2 ^ s) (hv : v % 2 ^ s = 0) : h ||| v = v + h := by
  have e : v = 2 ^ s * (v / 2 ^ s) := by have := Nat.div_add_mod v (2 ^ s); omega
  rw [e, Nat.or_comm, ← Nat.two_pow_add_eq_or_of_lt hh]

/-- the words of left, after k rounds -/
def leftF (l : List Nat) (s w k j : Nat) : Nat := if j < k + w then (if j < w then 0 else dLeft (fun i => l.getD i 0) s (j - w)) else if j = k + w then hiLeft (fun i => l.getD i 0) s k else 0
def leftM (l : List Nat) (s w k j : Nat) : Nat := if j < k + w + 1 then (if j < w then 0 else dLeft (fun i => l.getD i 0) s (j - w)) else 0
theorem left_mid (l : List Nat) (s w k n : Nat) : (rowF .u32 n fun j => (leftF l s w k j : Int)).setIfInBounds (k + w) (.int .u32 (dLeft (fun i => l.getD i 0) s k : Nat)) = rowF .u32 n fun j => (leftM l s w k j : Int) := by
  refine rowF_set fun i hi => ?_
  unfold leftM leftF
  by_cases e : i = k + w
  · subst e
    rw [if_pos rfl, if_pos (by omega), if_neg (by omega), show k + w - w = k by omega]
  · rw [if_neg e]
    by_cases h1 : i < k + w
    · rw [if_pos h1, if_pos (by omega)]
    · rw [if_neg h1, if_neg (by omega), if_neg e]
theorem left_end (l : List Nat) (s w k n : Nat) : (rowF .u32 n fun j => (leftM l s w k j : Int)).setIfInBounds (k + w + 1) (.int .u32 (hiLeft (fun i => l.getD i 0) s (k + 1) : Nat)) = rowF .u32 n fun j => (leftF l s w (k + 1) j : Int) := by
  refine rowF_set fun i hi => ?_
  unfold leftM leftF
  rw [show k + 1 + w = k + w + 1 by omega]
  by_cases e : i = k + w + 1
  · subst e
    rw [if_pos rfl, if_neg (by omega), if_pos rfl]
  · rw [if_neg e, if_neg e]

theorem left_val (l : List Nat) (s w : Nat) : valF (leftF l s w l.length) (l.length + w + 1) = val l * 2 ^ (32 * w + s) := by
  have hd : dLeft (fun i => l.getD i 0) s l.length = hiLeft (fun i => l.getD i 0) s l.length := by
    rw [dLeft_eq, getD_out (Nat.le_refl _)]; simp
  have e1 : valF (leftF l s w l.length) (l.length + w + 1) = valF (fun j => if j < w then 0 else dLeft (fun i => l.getD i 0) s (j - w)) (w + (l.length + 1)) := by
    rw [show l.length + w + 1 = w + (l.length + 1) by omega]
    refine valF_congr fun i hi => ?_
    unfold leftF
    by_cases h1 : i < l.length + w
    · rw [if_pos h1]
    · rw [if_neg h1, if_pos (by omega), if_neg (by omega), show i - w = l.length by omega, hd]
  have h2 := left_law (fun i => l.getD i 0) s l.length
  rw [valF_val (Nat.le_refl _)] at h2
  rw [e1, valF_shift, valF_succ, hd, h2, Nat.pow_add, pw_two, Nat.mul_assoc, Nat.mul_comm (2 ^ s)]

theorem left_any (A : Option Addr) (c : Nat) (l : List Nat) (n wd s : Nat) (B : Nat) (w : World) (hB : B ≤ w.heap.size) (h : Wd w B A c l) (hsz : l.length ≤ 1000000) (hn : n = 32 * wd + s) (hs : s < 32) (hw : wd ≤ 1000000) :
    Calls Try.prog 72 #[.slice A l.length c, .int .u64 (n : Int)] w fun e w' => GaveW w w' (val l * 2 ^ n) e := by
  have hq : (n : Int) / 32 = (wd : Int) := by omega
  have hr : (n : Int) % 32 = (s : Int) := by omega
  have HN := Lib.hid hn
  have H := Lib.hid h
  clear hn h
  by_cases hz : l.length = 0
  · have hz' : ((l.length : Int) == 0) = true := by simp [hz]
    have HZ := Lib.hid (show val l = 0 by rw [List.eq_nil_of_length_eq_zero hz]; rfl)
    clear hz
    go_enter Try.func72, Try.ntmps72
    go_wp2_with fail
    go_ret
    exact ⟨none, 0, [], rfl, Wd.nil _ _, fun h => by simp at h, by rw [HZ.out]; simp [val_nil], Below.refl _ _⟩
  · have hz' : ((l.length : Int) == 0) = false := by rw [beq_eq_false_iff_ne]; omega
    clear hz
    have hlim : n ≤ 32000031 := by have := HN.out; omega
    go_enter Try.func72, Try.ntmps72
    go_wp2_with (refine wpList_make_row rfl _ _ _ rfl elemU32 (l.length + wd + 1) rfl rfl (by go_num) (by go_num) (by omega) (by omega) ?_)
    go_loopw [8] (fun i wr => ∃ k : Nat, k ≤ l.length ∧ i = .int .i64 k ∧ Blk wr w.heap.size 90 (rowF .u32 (l.length + wd + 1) fun j => (leftF l s wd k j : Int)) ∧ Below w.heap.size w wr) (fun i _ => l.length - (intOf i).toNat)
    case atStart =>
      refine ⟨0, by omega, rfl, ?_, (Below.refl _ _).alloc (Nat.le_refl _) _⟩
      rw [rowF_congr (f := fun j => (leftF l s wd 0 j : Int)) (g := fun _ => 0) (fun i hi => by unfold leftF; (repeat' split) <;> first | rfl | omega)]
      exact Blk.new rfl
    case round =>
      obtain ⟨k, hk, rfl, hblk, hb⟩ := hrel
      by_cases hlt : k < l.length
      · obtain ⟨b, o, rfl, hbB, hcx⟩ := (H.out.keep (w' := wr) (fun b o hb' => below_cell hb b o (by omega))).at_ hlt
        have hx := getD_lt H.out.small k
        have hlt1 : (k : Int) < (l.length : Int) := by omega
        have c1 := hblk.cell (k + wd)
        rw [rowF_at _ _ _ _ (by omega)] at c1
        have e1 : leftF l s wd k (k + wd) = hiLeft (fun i => l.getD i 0) s k := by unfold leftF; rw [if_neg (by omega), if_pos rfl]
        rw [e1] at c1
        have c2 := hblk.cell (k + wd + 1)
        rw [rowF_at _ _ _ _ (by omega)] at c2
        have e2 : leftF l s wd k (k + wd + 1) = 0 := by unfold leftF; rw [if_neg (by omega), if_neg (by omega)]
        rw [e2] at c2
        have t1 := hblk.thaw (k + wd)
        have t2 := hblk.thaw (k + wd + 1)
        have hhi := hiLeft_lt hs (fun i => getD_lt H.out.small i) k
        have hroom := low_room (l.getD k 0) s hs
        have hm := low_mult (l.getD k 0) s hs
        have HD := Lib.hid (show dLeft (fun i => l.getD i 0) s k = l.getD k 0 * 2 ^ s % 4294967296 + hiLeft (fun i => l.getD i 0) s k from dLeft_eq _ _ _)
        have HH := Lib.hid (show hiLeft (fun i => l.getD i 0) s (k + 1) = l.getD k 0 * 2 ^ s / 4294967296 from rfl)
        have hsh : ((l.getD k 0 : Nat) : Int) * 2 ^ s = ((l.getD k 0 * 2 ^ s : Nat) : Int) := by push_cast; rfl
        have hvlt : l.getD k 0 * 2 ^ s < 18446744073709551616 := by
          have : l.getD k 0 * 2 ^ s < 4294967296 * 2 ^ s := Nat.mul_lt_mul_of_pos_right hx (Nat.two_pow_pos s)
          have h2 : 2 ^ s ≤ 2 ^ 32 := Nat.pow_le_pow_right (by omega) (by omega)
          omega
        generalize hv : l.getD k 0 * 2 ^ s = v at hsh hvlt HD HH hm hroom
        have hor := or_low (hiLeft (fun i => l.getD i 0) s k) (v % 4294967296) s hhi hm
        have hor1 : bits .or .u32 ((hiLeft (fun i => l.getD i 0) s k : Nat) : Int) ((v : Int) % 4294967296) = ((v % 4294967296 + hiLeft (fun i => l.getD i 0) s k : Nat) : Int) := by
          have := u32_or_nat (hiLeft (fun i => l.getD i 0) s k) (v % 4294967296) (by have : 2 ^ s ≤ 2 ^ 32 := Nat.pow_le_pow_right (by omega) (by omega); omega) (by omega)
          rw [hor] at this
          simpa using this
        have hor2 : bits .or .u32 0 ((v : Int) / 4294967296) = ((v / 4294967296 : Nat) : Int) := by
          have := u32_or_nat 0 (v / 4294967296) (by omega) (by omega)
          simpa using this
        generalize l.getD k 0 = x at hcx hx hsh hv
        have hsh' : IntKind.u64.wrap ((x : Int) * 2 ^ s) = (v : Int) := by rw [hsh, u64wrap]; omega
        rw [← HD.out] at hor1
        rw [← HH.out] at hor2
        clear hsh hm hroom hor hhi hv HD HH
        have HK := Lib.hid (And.intro e1 e2)
        clear e1 e2
        generalize hhk : hiLeft (fun i => l.getD i 0) s k = h0 at c1 hor1
        generalize hhk1 : hiLeft (fun i => l.getD i 0) s (k + 1) = h1 at hor2
        generalize hhd : dLeft (fun i => l.getD i 0) s k = d at hor1
        have H1 := Lib.hid hhk1
        have HD := Lib.hid hhd
        clear hhk hhk1 hhd
        go_wp2_with fail
        refine ⟨⟨k + 1, by omega, by go_num, ?_, (hb.setCell (Nat.le_refl _) _).setCell (Nat.le_refl _) _⟩, by simp [intOf] <;> omega⟩
        have := (hblk.set (k + wd) (.int .u32 d)).set (k + wd + 1) (.int .u32 h1)
        rw [← HD.out, left_mid, ← H1.out, left_end] at this
        rw [← HD.out, ← H1.out]
        exact this
      · have hkl : k = l.length := by omega
        rw [hkl] at hblk ⊢
        have hg := hblk.lt
        have HW := Lib.hid (wd_of_blk hblk (by omega) (fun i _ => by
          unfold leftF
          have h1 := dLeft_lt (f := fun i => l.getD i 0) hs (fun i => getD_lt H.out.small i) (i - wd)
          have h2 := hiLeft_lt hs (fun i => getD_lt H.out.small i) l.length
          have h3 : 2 ^ s ≤ 2 ^ 32 := Nat.pow_le_pow_right (by omega) (by omega)
          (repeat' split) <;> omega))
        have hT := trim_any _ _ _ _ _ HW.out
        rw [List.length_map, List.length_range] at hT
        have HT := Lib.hid hT
        clear hkl hlt hT
        go_wp2_with fail
        refine HT.out.mono ?_
        rintro e w' ⟨ht, rfl⟩
        obtain ⟨A, c, l1, rfl, h2⟩ := gave_of_trim (n := val l * 2 ^ n) HW.out (by omega) hb (by rw [val_map, left_val, HN.out]) ht
        have H2 := Lib.hid h2
        clear h2 ht
        go_wp2_with fail
        go_ret
        exact ⟨A, c, l1, rfl, H2.out⟩

/-- how many bits, of words -/
theorem length_any (A : Option Addr) (c : Nat) (l : List Nat) (B : Nat) (w : World) (h : Wd w B A c l) (ht : trimd l) (hsz : l.length ≤ 1000000) :
    Calls Try.prog 62 #[.slice A l.length c] w fun e w' => (∃ n : Nat, e = .returned (.int .i64 n) ∧ IsLen (val l) n ∧ n ≤ 32 * l.length) ∧ w' = w := by
  by_cases hz : l.length = 0
  · have hz' : ((l.length : Int) == 0) = true := by simp [hz]
    have HZ := Lib.hid (show val l = 0 by rw [List.eq_nil_of_length_eq_zero hz]; rfl)
    clear hz
    go_enter Try.func62, Try.ntmps62
    go_wp2_with fail
    go_ret
    exact ⟨⟨0, rfl, by rw [HZ.out]; exact ⟨fun _ => rfl, fun h => by omega⟩, by omega⟩, rfl⟩
  · have hz' : ((l.length : Int) == 0) = false := by rw [beq_eq_false_iff_ne]; omega
    obtain ⟨q, hq⟩ : ∃ q, l.length = q + 1 := ⟨l.length - 1, by omega⟩
    obtain ⟨b, o, rfl, hbB, hcx⟩ := h.at_ (show q < l.length by omega)
    have hx := getD_lt h.small q
    have h0 : l.getD q 0 ≠ 0 := by have := ht (by omega); rwa [hq, Nat.add_sub_cancel] at this
    have HV := Lib.hid (show ∀ b, IsLen (l.getD q 0) b → IsLen (val l) (q * 32 + b) from fun b hb => by
      have := isLen_val (f := fun i => l.getD i 0) (n := q) (fun i => getD_lt h.small i) h0 hb
      rw [← hq, valF_val (Nat.le_refl _)] at this
      exact this)
    generalize l.getD q 0 = x at hcx hx h0 HV
    have e1 : (l.length : Int) = (q : Int) + 1 := by omega
    have hq2 : q ≤ 1000000 := by omega
    have H0 := Lib.hid h0
    have HQ := Lib.hid hq
    clear h ht hz h0 hq hsz
    rw [HQ.out] at hz' ⊢
    go_enter Try.func62, Try.ntmps62
    go_wp2_with fail
    go_loop [3, 4] (fun n t => ∃ m r : Nat, m ≤ 32 ∧ r < 2 ^ (32 - m) ∧ n = .int .i64 m ∧ t = .int .u32 r ∧ ∀ b, IsLen r b → IsLen x (m + b)) (fun _ t => (intOf t).toNat)
    case atStart => exact ⟨0, x, by omega, hx, rfl, rfl, fun b hb => by rwa [Nat.zero_add]⟩
    case round =>
      obtain ⟨m, r, hm, hr, rfl, rfl, hI⟩ := hrel
      have HI := Lib.hid hI
      have HR := Lib.hid hr
      have hr2 : r < 4294967296 := Nat.lt_of_lt_of_le hr (Nat.pow_le_pow_right (n := 2) (by omega) (show 32 - m ≤ 32 by omega))
      have hm2 : r ≠ 0 → m ≤ 31 := fun h => by
        rcases Nat.lt_or_ge m 32 with h1 | h1
        · omega
        · have : 32 - m = 0 := by omega
          rw [this] at hr; omega
      clear hI hr
      by_cases hr0 : r = 0
      · subst hr0
        have h2 := HI.out 0 ⟨fun _ => rfl, fun h => by omega⟩
        have H2 := Lib.hid (HV.out _ h2)
        clear h2 hm2
        go_wp2_with fail
        go_ret
        exact ⟨⟨q * 32 + m, by congr 1, H2.out, by omega⟩, rfl⟩
      · have hr1 : ((r : Int) != 0) = true := by simp; omega
        have hm3 := hm2 hr0
        have HR0 := Lib.hid hr0
        clear hr0 hm2
        go_wp2_with fail
        refine ⟨⟨m + 1, r / 2, by omega, ?_, by go_num, by go_num, fun b hb => ?_⟩, by simp [intOf]; have := HR0.out; omega⟩
        · have := HR.out
          rw [show 32 - m = (32 - (m + 1)) + 1 by omega, Nat.pow_succ] at this
          omega
        · have := HI.out _ (isLen_half hb HR0.out)
          rwa [show m + 1 + b = m + (b + 1) by omega]

theorem val_le2 {l : List Nat} (h : l.length ≤ 2) : val l = l.getD 0 0 + l.getD 1 0 * 4294967296 := by
  rw [← valF_val h]
  show 0 + l.getD 0 0 * pw 0 + l.getD 1 0 * pw 1 = _
  rw [pw_succ, pw_zero]; omega
theorem or64 (x y : Nat) (hx : x < 4294967296) (hy : y < 4294967296) : bits .or .u64 (x : Int) ((y : Int) * 4294967296) = (x : Int) + (y : Int) * 4294967296 := by
  have h := u64_or_nat x (y * 4294967296) (by omega) (by omega)
  rw [or_low x (y * 4294967296) 32 (by omega) (by omega)] at h
  have e : ((y * 4294967296 : Nat) : Int) = (y : Int) * 4294967296 := by omega
  rw [e] at h
  rw [h, Int.natCast_add, e]
  exact Int.add_comm _ _

theorem plain_any (A : Option Addr) (c : Nat) (l : List Nat) (B : Nat) (w : World) (h : Wd w B A c l) (h2 : l.length ≤ 2) :
    Calls Try.prog 91 #[.slice A l.length c] w fun e w' => e = .returned (.int .u64 (val l : Nat)) ∧ w' = w := by
  have HV := Lib.hid (val_le2 h2)
  by_cases h0 : 0 < l.length
  · obtain ⟨b, o, rfl, hbB, hcx⟩ := h.at_ h0
    rw [Nat.add_zero] at hcx
    have hx := getD_lt h.small 0
    have h0' : (0 : Int) < (l.length : Int) := by omega
    by_cases h1 : 1 < l.length
    · obtain ⟨b', o', e, _, hcy⟩ := h.at_ h1
      injection e with e
      injection e with e1 e2
      subst e1 e2
      have hy := getD_lt h.small 1
      have h1' : (1 : Int) < (l.length : Int) := by omega
      generalize l.getD 0 0 = x at hcx hx HV
      generalize l.getD 1 0 = y at hcy hy HV
      have hor := or64 x y hx hy
      clear h
      go_enter Try.func91, Try.ntmps91
      go_wp2_with fail
      go_ret
      exact ⟨by rw [HV.out]; go_num, rfl⟩
    · have h1' : ¬ (1 : Int) < (l.length : Int) := by omega
      have HY := Lib.hid (getD_out (l := l) (i := 1) (by omega))
      generalize l.getD 0 0 = x at hcx hx HV
      rw [HY.out] at HV
      clear h h1
      go_enter Try.func91, Try.ntmps91
      go_wp2_with fail
      go_ret
      exact ⟨by rw [HV.out]; go_num, rfl⟩
  · have h0' : ¬ (0 : Int) < (l.length : Int) := by omega
    have h1' : ¬ (1 : Int) < (l.length : Int) := by omega
    have HX := Lib.hid (getD_out (l := l) (i := 0) (by omega))
    have HY := Lib.hid (getD_out (l := l) (i := 1) (by omega))
    rw [HX.out, HY.out] at HV
    clear h h0
    go_enter Try.func91, Try.ntmps91
    go_wp2_with fail
    go_ret
    exact ⟨by rw [HV.out]; go_num, rfl⟩

theorem wd_of_own {w : World} {base : Nat} {A : Option Addr} {c : Nat} {l : List Nat} (h : w.ownsRow base 90 1 (.slice A l.length c) l.length (wordsV l)) (hs : small l) : Wd w w.heap.size A c l := by
  obtain ⟨A', c', e, h1, h2, h3, h4, h5⟩ := own_form h
  injection e with ea eb ec
  subst ea ec
  exact ⟨h1, h2, fun hA => (h3 hA).2, h5, hs⟩

theorem twin_any (A : Option Addr) (c : Nat) (l : List Nat) (B : Nat) (w : World) (hB : B ≤ w.heap.size) (h : Wd w B A c l) (hsz : l.length ≤ 1000000) :
    Calls Try.prog 57 #[.slice A l.length c] w fun e w' => ∃ A' c', e = .returned (.slice A' l.length c') ∧ Wd w' w'.heap.size A' c' l ∧ Below w.heap.size w w' := by
  have H := Lib.hid h
  clear h
  go_enter Try.func57, Try.ntmps57
  go_wp2_with (at_builtin; refine wpList_append_rd _ rfl _ _ _ rfl (base := w.heap.size) elemU32 rfl (World.ownsRow_nil _ _ _ _) rfl (fun hA => ⟨by have := H.out.none_ hA; have := H.out.len; omega, H.out.none_ hA⟩) H.out.rd (wordsV_one l) (by unfold maxLen; omega) (by omega) (Nat.le_refl _) ?_)
  intro A' c' w' hA hown hg
  have HW := Lib.hid (wd_of_own hown H.out.small)
  have HG := Lib.hid hg
  clear hg hown
  go_wp2_with fail
  go_ret
  exact ⟨A', c', rfl, HW.out, HG.out.os, HG.out.tape, HG.out.output, HG.out.size, fun g hg => HG.out.block g hg (by simp [Value.ownBlock])⟩
end Go.Proofs.Ytlcpackmoolngaa.BigW
