/- fourwatchbig: div, word by word from above. -/
import Derived.Test.YtlcpackmoolngaaBigD
import Derived.Test.YtlcpackmoolngaaBigR
import Derived.Deep.CutBlock
import Derived.Deep.DeepCutAuto
namespace Go.Proofs.Ytlcpackmoolngaa.BigW
open Go.RowKit Go.Proofs.Ytlcpackmoolngaa.Mem Go.Proofs.Ytlcpackmoolngaa.BigLaw
set_option linter.unusedVariables false

theorem norm_n {b : List Nat} (hs : small b) (ht : trimd b) {n : Nat} (hn : b.length = n + 2) {N : Nat} (hN : IsLen (val b) N) : n + 1 = (N - 1) / 32 := by
  have hge := val_ge ht (by omega)
  have hlt := val_lt hs
  rw [hn] at hge hlt
  have hp := pw_pos (n + 2 - 1)
  obtain ⟨h1, h2, h3⟩ := hN.2 (by omega)
  rw [pw_two] at hge hlt
  have h4 : 32 * (n + 2 - 1) < N := by
    rcases Nat.lt_or_ge (32 * (n + 2 - 1)) N with h | h
    · exact h
    · have : 2 ^ N ≤ 2 ^ (32 * (n + 2 - 1)) := Nat.pow_le_pow_right (by omega) h
      omega
  have h5 : N - 1 < 32 * (n + 2) := by
    rcases Nat.lt_or_ge (N - 1) (32 * (n + 2)) with h | h
    · exact h
    · have : 2 ^ (32 * (n + 2)) ≤ 2 ^ (N - 1) := Nat.pow_le_pow_right (by omega) h
      omega
  omega

theorem or_words (x y : Nat) (hx : x < 4294967296) (hy : y < 4294967296) : bits .or .u64 ((y : Int) * 4294967296) (x : Int) = ((y * 4294967296 + x : Nat) : Int) := by
  have h := u64_or_nat (y * 4294967296) x (by omega) (by omega)
  rw [Nat.or_comm, or_low x (y * 4294967296) 32 (by omega) (by omega)] at h
  have e : ((y * 4294967296 : Nat) : Int) = (y : Int) * 4294967296 := by omega
  rw [e] at h
  exact h

theorem or_words' (x y : Nat) (hx : x < 4294967296) (hy : y < 4294967296) : bits .or .u64 ((y : Int) * 4294967296) (x : Int) = (y : Int) * 4294967296 + (x : Int) := by
  rw [or_words x y hx hy]; omega

/-- where the trials stand -/
def TrialAt (U V h top : Nat) (sg sr : Value) : Prop := ∃ g r : Nat, sg = .int .u64 (g : Int) ∧ sr = .int .u64 (r : Int) ∧ g ≤ 4294967297 ∧ r < 4294967296 ∧ Hid (Trial U V h top g r)
/-- where they end -/
def TrialEnd (U V : Nat) (sg : Value) : Prop := ∃ g : Nat, sg = .int .u64 (g : Int) ∧ Hid (g < 4294967296 ∧ U / V ≤ g ∧ g * V < U + V)

theorem win_zero (u d : Nat → Nat) (j n : Nat) : rowF .u32 n (fun p => (u p : Int)) = rowF .u32 n (fun p => (win u d j 0 p : Int)) :=
  rowF_congr fun i hi => by rw [win_out _ _ (by omega)]
theorem win_step (u d : Nat → Nat) (j a n : Nat) : (rowF .u32 n fun p => (win u d j a p : Int)).setIfInBounds (j + a) (.int .u32 (d a : Nat)) = rowF .u32 n fun p => (win u d j (a + 1) p : Int) := by
  refine rowF_set fun i hi => ?_
  by_cases e : i = j + a
  · subst e; rw [if_pos rfl, win_in _ _ (by omega)]
  · rw [if_neg e]
    by_cases h : i < j ∨ j + (a + 1) ≤ i
    · rw [win_out _ _ h, win_out _ _ (by omega)]
    · obtain ⟨k, rfl⟩ : ∃ k, i = j + k := ⟨i - j, by omega⟩
      rw [win_in _ _ (show k < a + 1 by omega), win_in _ _ (show k < a by omega)]

theorem sub_word (z x d : Nat) (hz : z < 4294967296) (hx : x < 4294967296) (hd : d ≤ 1) :
    IntKind.u64.wrap (IntKind.u64.wrap ((z : Int) - (x : Int)) - (d : Int)) / 9223372036854775808 = ((if z < x + d then 1 else 0 : Nat) : Int) ∧
    IntKind.u64.wrap (IntKind.u64.wrap ((z : Int) - (x : Int)) - (d : Int)) % 4294967296 = ((if z < x + d then z + 4294967296 - (x + d) else z - (x + d) : Nat) : Int) := by
  simp only [u64wrap]
  split <;> omega
theorem mac_low (c g y : Nat) : ((c : Int) + (g : Int) * (y : Int)) % 4294967296 = (((c + g * y) % 4294967296 : Nat) : Int) ∧ ((c : Int) + (g : Int) * (y : Int)) / 4294967296 = (((c + g * y) / 4294967296 : Nat) : Int) := by
  have : ((g * y : Nat) : Int) = (g : Int) * (y : Int) := Int.natCast_mul _ _
  omega

/-- the walk of what is taken away -/
def SubAt (w2 : World) (U Q L M m : Nat) (u q v : Nat → Nat) (g j : Nat) (T : TypeId) (sc sd si : Value) (wr : World) : Prop :=
  ∃ i : Nat, i ≤ m ∧ sc = .int .u64 (mulC v g i : Nat) ∧ sd = .int .u64 (cSub (fun i => u (j + i)) (mulD v g) i : Nat) ∧ si = .int .i64 (i : Int) ∧
    Blk wr U T (rowF .u32 L fun p => (win u (dSub (fun i => u (j + i)) (mulD v g)) j i p : Int)) ∧ Blk wr Q T (rowF .u32 M fun i => (q i : Int)) ∧ Below w2.heap.size w2 wr
/-- the walk of what is given back -/
def BackAt (w2 : World) (U Q L M m : Nat) (u q v d : Nat → Nat) (j : Nat) (T : TypeId) (sc si : Value) (wr : World) : Prop :=
  ∃ i : Nat, i ≤ m ∧ sc = .int .u64 (cAdd d v i : Nat) ∧ si = .int .i64 (i : Int) ∧
    Blk wr U T (rowF .u32 L fun p => (win u (dAdd d v) j i p : Int)) ∧ Blk wr Q T (rowF .u32 M fun i => (q i : Int)) ∧ Below w2.heap.size w2 wr

def zerosL (L : Nat) : List Value := (List.range L).map fun _ => Value.int .u32 0
theorem zerosL_row (L : Nat) : rowF .u32 L (fun _ => 0) = (zerosL L).toArray := rfl
theorem zerosL_length (L : Nat) : (zerosL L).length = L := by simp [zerosL]
theorem splice_words (u0 : List Nat) (L : Nat) (h : u0.length ≤ L) : (splice (zerosL L) 0 (wordsV u0)).toArray = rowF .u32 L fun i => (u0.getD i 0 : Int) := by
  apply Array.ext_getElem?
  intro i
  unfold splice zerosL
  rw [List.getElem?_toArray]
  by_cases hi : i < L
  · rw [rowF_at _ _ _ _ hi]
    by_cases h1 : i < u0.length
    · simp [wordsV, List.getElem?_append, h1]
    · rw [List.getD_eq_getElem?_getD, List.getElem?_eq_none (show u0.length ≤ i by omega)]
      have h2 : u0.length + (i - u0.length) = i := by omega
      simp [wordsV, List.getElem?_append, h1, h2, hi]
  · rw [rowF_out _ _ _ _ (by omega)]
    simp [wordsV]
    omega

set_option maxRecDepth 100000 in
set_option maxHeartbeats 8000000 in
theorem divK_any (A A' : Option Addr) (c c' : Nat) (l l' : List Nat) (w : World) (h : Wd w w.heap.size A c l) (h' : Wd w w.heap.size A' c' l') (t : trimd l) (t' : trimd l') (hle : val l' ≤ val l) (hl : 3 ≤ l.length) (hl' : 2 ≤ l'.length) (hsz : l.length ≤ 1000) :
    Calls Try.prog 90 #[.slice A l.length c, .slice A' l'.length c'] w fun e w' => GaveQR w w' (val l / val l') (val l % val l') e := by
  have hge := val_ge t' (by omega)
  have hb1 : 4294967296 ≤ val l' := Nat.le_trans (pw_le (show 1 ≤ l'.length - 1 by omega)) hge
  have hlt := val_lt h.small
  have hll : l'.length ≤ l.length := length_le t' (by omega)
  obtain ⟨n, hn⟩ : ∃ n, l'.length = n + 2 := ⟨l'.length - 2, by omega⟩
  obtain ⟨m, hm⟩ : ∃ m, l.length = n + m + 1 := ⟨l.length - n - 1, by omega⟩
  have hm1 : 1 ≤ m := by omega
  have hm2 : n + m ≤ 999 := by omega
  have hm3 : 2 ≤ n + m := by omega
  have H := Lib.hid h
  have H' := Lib.hid h'
  have T := Lib.hid t
  have T' := Lib.hid t'
  have HLE := Lib.hid hle
  have HB1 := Lib.hid hb1
  have HN1 := Lib.hid hn
  have HM1 := Lib.hid hm
  have hl0 : ((n : Int) + 2 == 0) = false := by rw [beq_eq_false_iff_ne]; omega
  have hl1 : ((n : Int) + 2 == 1) = false := by rw [beq_eq_false_iff_ne]; omega
  have hl2 : ¬ (n : Int) + (m : Int) + 1 ≤ 2 := by omega
  have hsg : ¬ sgn (val l) (val l') < 0 := by unfold sgn; rw [if_neg (by omega)]; split <;> omega
  clear h h' t t' hle hge hb1 hlt hl hl' hsz hll
  rw [hm, hn]
  clear hn hm
  go_enter Try.func90, Try.ntmps90
  go_wp2_with fail
  rw [← HM1.out, ← HN1.out]
  refine (cmp_any A A' c c' l l' _ w (Nat.le_refl _) H.out H'.out T.out T'.out).mono ?_
  rintro e w0 ⟨rfl, hb0⟩
  rw [HM1.out, HN1.out]
  have HB0 := Lib.hid hb0
  have H0 := Lib.hid ((H.out.below hb0).more hb0.size)
  have H0' := Lib.hid ((H'.out.below hb0).more hb0.size)
  generalize sgn (val l) (val l') = sg at hsg
  clear hb0
  go_wp2_with fail
  rw [← HN1.out]
  refine (length_any A' c' l' _ w0 H0'.out T'.out (by have := HN1.out; omega)).mono ?_
  rintro e w1 ⟨⟨N, rfl, hN, hN2⟩, rfl⟩
  rw [HN1.out] at hN2 ⊢
  have HN := Lib.hid hN
  have hNn := norm_n H'.out.small T'.out HN1.out hN
  obtain ⟨s, hs⟩ : ∃ s, s + (N - 1) % 32 = 31 := ⟨31 - (N - 1) % 32, by omega⟩
  have hs32 : s < 32 := by omega
  have HS := Lib.hid hs
  have hs1 : (32 - ((N : Int) - 1) % 32 - 1) = (s : Int) := by omega
  have hN33 : 1 ≤ N := by omega
  clear hs hN
  go_wp2_with fail
  rw [← HN1.out]
  refine (left_any A' c' l' s 0 s _ w1 (Nat.le_refl _) H0'.out (by have := HN1.out; omega) (by omega) hs32 (by omega)).mono ?_
  rintro e w2 ⟨Av, cv, v, rfl, hv, tv, vv, hb2⟩
  rw [HN1.out]
  obtain ⟨n', hn0, hn1, hn2⟩ := norm_len HN.out HB1.out HS.out
  obtain rfl : n' = n := by omega
  rw [← vv] at hn1 hn2
  obtain ⟨hvl, hvt, hvv⟩ := norm_top hv.small tv hn1 hn2
  rw [hvl]
  have HV := Lib.hid hv
  have HVL := Lib.hid hvl
  have HVT := Lib.hid hvt
  have HVV := Lib.hid (hvv.trans vv)
  have HB2 := Lib.hid (onward HB0.out (Nat.le_refl _) hb2)
  have H2 := Lib.hid ((H0.out.below hb2).more hb2.size)
  clear hv tv vv hn0 hn1 hn2 hvl hvt hvv hb2 hN33 hs1 hNn hN2 HN
  go_wp2_with (refine wpList_make_row rfl _ _ _ rfl elemU32 (n' + m + 3) rfl rfl (by go_num) (by go_num) (by omega) (by omega) ?_)
  have hbu : Below w2.heap.size w2 (w2.alloc (.cells (rowF .u32 (n' + m + 3) fun _ => 0) 90)) := (Below.refl _ _).alloc (Nat.le_refl _) _
  rw [← HM1.out]
  refine (left_any A c l s 0 s w2.heap.size _ (by simp) (H2.out.below hbu) (by have := HM1.out; omega) (by omega) hs32 (by omega)).mono ?_
  rintro e w3 ⟨A3, c3, u0, rfl, hu0, tu0, vu0, hb3⟩
  rw [HM1.out]
  have hul : u0.length ≤ n' + m + 2 := by
    refine length_le tu0 ?_
    rw [vu0]
    have h1 := val_lt H.out.small
    rw [HM1.out] at h1
    have h2 : 2 ^ s ≤ 4294967296 := (Nat.pow_le_pow_right (by omega) (show s ≤ 32 by omega) : 2 ^ s ≤ 2 ^ 32)
    have h3 : val l * 2 ^ s < pw (n' + m + 1) * 2 ^ s := Nat.mul_lt_mul_of_pos_right h1 (Nat.two_pow_pos s)
    have h4 : pw (n' + m + 1) * 2 ^ s ≤ pw (n' + m + 1) * 4294967296 := Nat.mul_le_mul_left _ h2
    have h5 : pw (n' + m + 2) = 4294967296 * pw (n' + m + 1) := pw_succ _
    omega
  have bu3 : Blk w3 w2.heap.size 90 (rowF .u32 (n' + m + 3) fun _ => 0) := (Blk.new rfl).below hb3 (by simp)
  have hb23 : Below w2.heap.size w2 w3 := hbu.trans (hb3.mono (by simp))
  have HU0 := Lib.hid hu0
  have HVU := Lib.hid vu0
  rw [zerosL_row] at bu3
  have HBU := Lib.hid bu3
  have HB23 := Lib.hid hb23
  clear hu0 tu0 vu0 hb3 hbu bu3 hb23
  have HCP : Hid (0 < (wordsV u0).length → ∃ ad, A3 = some ad ∧ ∀ j v, (wordsV u0)[j]? = some v → w3.cell? (ad.add j) = some v) := Lib.hid fun hp => by
    rw [wordsV_length] at hp
    obtain ⟨b, o, e, _, hc⟩ := HU0.out.rd.2 hp
    exact ⟨_, e, fun j u hu => by rw [show ((⟨b, o, none⟩ : Addr).add j) = ⟨b, o + j, none⟩ by unfold Addr.add; split <;> simp_all]; exact hc j u hu⟩
  have HCL := Lib.hid (show (wordsV u0).length = Nat.min u0.length (n' + m + 3) by rw [wordsV_length]; exact (Nat.min_eq_left (by omega)).symm)
  have HCF := Lib.hid (show 0 + (wordsV u0).length ≤ (zerosL (n' + m + 3)).length by rw [zerosL_length, wordsV_length]; omega)
  go_wp2_with (refine wpList_copy_splice (by rfl) (.tmp 81) (.tmp 84) 61 61 (by rfl) 90 Try.underlying61 (by kernel_rfl) (some ⟨w2.heap.size, 0, none⟩) A3 (n' + m + 3) (n' + m + 3) u0.length c3 (by rfl) (by rfl) w2.heap.size 0 (zerosL (n' + m + 3)) 90 HBU.out (wordsV u0) HCL.out (fun hp => ⟨rfl, HCP.out hp⟩) HCF.out (wordsV_one u0) w2.heap.size w2 HB23.out (Nat.le_refl _) ?_)
  intro w4 hg4 hb4
  rw [splice_words u0 _ (show u0.length ≤ n' + m + 3 by omega)] at hg4
  have HU4 := Lib.hid (show Blk w4 w2.heap.size 90 (rowF .u32 (n' + m + 3) fun i => (u0.getD i 0 : Int)) from hg4.out)
  have HSU := Lib.hid HU0.out.small
  have HB4 := Lib.hid hb4
  have hs4 : w2.heap.size < w4.heap.size := HU4.out.lt
  clear hg4 hb4 HU0 HBU HB23 HCP HCL HCF H0 H0' H2
  have e1 : (n' : Int) + (m : Int) + 3 - ((n' : Int) + 2) = (m : Int) + 1 := by omega
  go_wp2_with (refine wpList_make_row rfl _ _ _ rfl elemU32 (m + 1) rfl rfl (by go_num) (by go_num) (by omega) (by omega) ?_)
  clear e1
  have hb5 : Below w2.heap.size w2 (w4.alloc (.cells (rowF .u32 (m + 1) fun _ => 0) 90)) := HB4.out.alloc (by omega) _
  have bu5 := HU4.out.alloc (.cells (rowF .u32 (m + 1) fun _ => 0) 90)
  have bq5 : Blk (w4.alloc (.cells (rowF .u32 (m + 1) fun _ => 0) 90)) w4.heap.size 90 (rowF .u32 (m + 1) fun _ => 0) := Blk.new rfl
  generalize w4.alloc (.cells (rowF .u32 (m + 1) fun _ => 0) 90) = w5 at hb5 bu5 bq5 ⊢
  generalize w4.heap.size = Q at hs4 bq5 ⊢
  have hvw := HV.out.below hb5
  obtain ⟨bv, ov, rfl, hbv, ct⟩ := hvw.at_ (show n' + 1 < v.length by have := HVL.out; omega)
  obtain ⟨bv', ov', e, _, cn⟩ := hvw.at_ (show n' < v.length by have := HVL.out; omega)
  injection e with e
  injection e with e1 e2
  subst e1 e2
  have ht := getD_lt HV.out.small (n' + 1)
  have ht2 := HVT.out
  have hnx := getD_lt HV.out.small n'
  have HTOP := Lib.hid (show ∃ top, v.getD (n' + 1) 0 = top from ⟨_, rfl⟩)
  have e1 : (n' : Int) + 2 - 1 = (n' : Int) + 1 := by omega
  have e2 : (n' : Int) + 2 - 2 = (n' : Int) := by omega
  have e3 : ((n' : Int) + 1).toNat = n' + 1 := by omega
  have e4 : (0 : Int) ≤ (n' : Int) + 1 := by omega
  have e5 : (n' : Int) + 1 < (n' : Int) + 2 := by omega
  have e6 : (n' : Int) < (n' : Int) + 2 := by omega
  have e7 : IntKind.i64.wrap ((n' : Int) + 1) = (n' : Int) + 1 := IntWalk.i64_in _ (by omega)
  clear hvw
  generalize hT : v.getD (n' + 1) 0 = top at ct ht ht2
  generalize hX : v.getD n' 0 = next at cn hnx
  have HT := Lib.hid hT
  have HX := Lib.hid hX
  clear hT hX HTOP
  go_wp2_with fail
  go_quiet (fail)
  go_wp2_with fail
  have HVC := Lib.hid (show ∀ wr, Below w2.heap.size w2 wr → ∀ k, k < n' + 2 → wr.cell? ⟨bv, ov + k, none⟩ = some (.int .u32 (v.getD k 0 : Int)) from fun wr hb k hk => by
    obtain ⟨b, o, e, _, hc⟩ := (HV.out.below hb).at_ (show k < v.length by have := HVL.out; omega)
    injection e with e
    injection e with e1 e2
    subst e1 e2
    exact hc)
  have HVZ := Lib.hid (getD_out (l := v) (i := n' + 2) (by have := HVL.out; omega))
  have HVW := Lib.hid (show ∀ i, v.getD i 0 < 4294967296 from fun i => getD_lt HV.out.small i)
  have hb6 := below_drewN hb5 nq
  have bu6 := bu5.drewN nq
  have bq6 := bq5.drewN nq
  clear hb5 bu5 bq5 ct cn e1 e2 e3 e4 e5 e6 e7
  generalize w5.drewN nq = w6 at *
  have HW0 : Hid (Whole (val l * 2 ^ s) (val l' * 2 ^ s) (fun i => u0.getD i 0) (fun _ => 0) (n' + 2) m (m + 1)) := Lib.hid (Whole.first (fun i => getD_lt HSU.out i) (fun i hi => getD_out (by omega)) (by
    rw [← HVV.out]
    have h1 := valF_ge (f := fun i => v.getD i 0) (n := n' + 2) (i := n' + 1) (by omega)
    have h2 : 1 * pw (n' + 1) ≤ v.getD (n' + 1) 0 * pw (n' + 1) := Nat.mul_le_mul_right _ (by have := HVT.out; omega)
    omega) (by rw [valF_val (by omega), HVU.out]))
  go_loopw [18] (fun j wr => ∃ (k : Nat) (u q : Nat → Nat), k ≤ m + 1 ∧ j = .int .i64 ((k : Int) - 1) ∧ Hid (Whole (val l * 2 ^ s) (val l' * 2 ^ s) u q (n' + 2) m k) ∧ Blk wr w2.heap.size 90 (rowF .u32 (n' + m + 3) fun i => (u i : Int)) ∧ Blk wr Q 90 (rowF .u32 (m + 1) fun i => (q i : Int)) ∧ Below w2.heap.size w2 wr) (fun j _ => (intOf j + 1).toNat)
  case atStart => exact ⟨m + 1, fun i => u0.getD i 0, fun _ => 0, by omega, by go_num, HW0, bu6, bq6, hb6⟩
  case round =>
    clear hb6 bu6 bq6 HW0 HU4 HVU HSU
    obtain ⟨k, u, q, hk, rfl, HW, bu, bq, hb⟩ := hrel
    by_cases hpos : 0 < k
    · obtain ⟨j, rfl⟩ : ∃ j, k = j + 1 := ⟨k - 1, by omega⟩
      rw [show ((j + 1 : Nat) : Int) - 1 = (j : Int) by omega]
      have HST := Lib.hid (HW.out.step (v := fun i => v.getD i 0) HVW.out HVV.out HVT.out)
      have c2 := bu.cell (j + (n' + 2))
      rw [rowF_at _ _ _ _ (by omega)] at c2
      have c1 := bu.cell (j + (n' + 1))
      rw [rowF_at _ _ _ _ (by omega)] at c1
      have c0 := bu.cell (j + n')
      rw [rowF_at _ _ _ _ (by omega)] at c0
      have hu2 := HW.out.hu (j + (n' + 2))
      have hu1 := HW.out.hu (j + (n' + 1))
      have hu0 := HW.out.hu (j + n')
      have f1 : IntKind.i64.wrap ((j : Int) + ((n' : Int) + 2)) = (j : Int) + ((n' : Int) + 2) := IntWalk.i64_in _ (by omega)
      have f2 : ((j : Int) + ((n' : Int) + 2)).toNat = j + (n' + 2) := by omega
      have f3 : (0 : Int) ≤ (j : Int) + ((n' : Int) + 2) := by omega
      have f4 : (j : Int) + ((n' : Int) + 2) < (n' : Int) + (m : Int) + 3 := by omega
      have g1 : IntKind.i64.wrap ((j : Int) + ((n' : Int) + 2) - 1) = (j : Int) + ((n' : Int) + 2) - 1 := IntWalk.i64_in _ (by omega)
      have g2 : ((j : Int) + ((n' : Int) + 2) - 1).toNat = j + (n' + 1) := by omega
      have g3 : (0 : Int) ≤ (j : Int) + ((n' : Int) + 2) - 1 := by omega
      have g4 : (j : Int) + ((n' : Int) + 2) - 1 < (n' : Int) + (m : Int) + 3 := by omega
      have HT0 := Lib.hid HST.out.first
      have HLess := Lib.hid (fun g r => HST.out.less (g := g) (r := r))
      have HLast := Lib.hid (fun g r => HST.out.last (g := g) (r := r))
      rw [HT.out, HX.out] at HLess HLast
      rw [HT.out] at HT0
      have hor := or_words (u (j + (n' + 1))) (u (j + (n' + 2))) hu1 hu2
      obtain ⟨h, hh⟩ : ∃ h, u (j + (n' + 2)) * 4294967296 + u (j + (n' + 1)) = h := ⟨_, rfl⟩
      rw [hh] at hor HT0 HLess HLast
      have hhl : h < 18446744073709551616 := by omega
      generalize u (j + n') = x0 at c0 hu0 HLess HLast
      have hhi : h ≤ top * 4294967296 + 4294967295 := by
        have h0 : u (j + (n' + 2)) ≤ v.getD (n' + 1) 0 := HST.out.high
        rw [HT.out] at h0
        have := Nat.mul_le_mul_right 4294967296 h0
        omega
      generalize u (j + (n' + 2)) = x2 at c2 hu2 hor
      generalize u (j + (n' + 1)) = x1 at c1 hu1 hor
      have hg0 : h / top ≤ 4294967297 := trial_bound ht2 hhi
      have hr0 : h % top < top := Nat.mod_lt _ (by omega)
      have hd0 : ¬ (top : Int) = 0 := by omega
      have hd1 : ¬ top = 0 := by omega
      have hq : IntKind.u64.wrap ((h : Int) / (top : Int)) = ((h / top : Nat) : Int) := by
        have e : (h : Int) / (top : Int) = ((h / top : Nat) : Int) := rfl
        rw [e, u64wrap]; generalize h / top = g at hg0 ⊢; omega
      have hr : (h : Int).tmod (top : Int) = ((h % top : Nat) : Int) := rfl
      generalize h / top = g0 at hq hg0 HT0
      generalize h % top = r0 at hr hr0 HT0
      clear hh hhi
      go_wp2_with fail
      go_quiet (fail)
      have hb1 := below_drewN hb nq
      have bu1 := bu.drewN nq
      have bq1 := bq.drewN nq
      have c01 : (wr.drewN nq).cell? ⟨w2.heap.size, j + n', none⟩ = some (.int .u32 (x0 : Int)) := c0
      clear hb bu bq c0 c1 c2
      generalize wr.drewN nq = wr1 at *
      go_wp2_with fail
      clear hor f1 f2 f3 f4 g1 g2 g3 g4
      go_quiet (fail)
      go_upto_block 2 with fail
      have hb2 := below_drewN hb1 nq
      have bu2 := bu1.drewN nq
      have bq2 := bq1.drewN nq
      have c02 : (wr1.drewN nq).cell? ⟨w2.heap.size, j + n', none⟩ = some (.int .u32 (x0 : Int)) := c01
      clear hb1 bu1 bq1 c01
      generalize wr1.drewN nq = wr2 at *
      go_cut [20] (fun s20 wx => TrialEnd (valF (fun i => u (j + i)) (n' + 3)) (valF (fun i => v.getD i 0) (n' + 2)) s20 ∧ wx = wr2)
      case first =>
        have k1 : IntKind.i64.wrap ((j : Int) + ((n' : Int) + 2) - 2) = (j : Int) + (n' : Int) := by rw [IntWalk.i64_in _ (by omega)]; omega
        have k2 : ((j : Int) + (n' : Int)).toNat = j + n' := by omega
        have k3 : (0 : Int) ≤ (j : Int) + (n' : Int) := by omega
        have k4 : (j : Int) + (n' : Int) < (n' : Int) + (m : Int) + 3 := by omega
        have k5 : IntKind.i64.wrap ((j : Int) + ((n' : Int) + 2)) = (j : Int) + ((n' : Int) + 2) := IntWalk.i64_in _ (by omega)
        go_wp2_with fail
        go_loop [20, 21] (fun sg sr => TrialAt (valF (fun i => u (j + i)) (n' + 3)) (valF (fun i => v.getD i 0) (n' + 2)) h top sg sr) (fun _ sr => 4294967296 - (intOf sr).toNat)
        case atStart => exact ⟨g0, r0, rfl, rfl, hg0, by omega, HT0⟩
        case round =>
          obtain ⟨g, r, rfl, rfl, hg, hrl, HTR⟩ := hrel
          have HL := Lib.hid (HLess.out g r HTR.out)
          have HE := Lib.hid (HLast.out g r HTR.out)
          by_cases hgb : 4294967295 < g
          · obtain ⟨h1, h2⟩ := HL.out (.inl (by omega))
            have HT1 := Lib.hid h2
            have HE1 := Lib.hid (HLast.out (g - 1) (r + top) h2)
            clear h2
            have hgb' : (4294967295 : Int) < (g : Int) := by omega
            have hg1 : (1 : Int) ≤ (g : Int) := by omega
            by_cases hrb : 4294967295 < r + top
            · have hrb' : (4294967295 : Int) < (r : Int) + (top : Int) := by omega
              clear hgb hrb hr hq hd0 hd1 hu1 hu2
              go_wp2_with fail
              go_meet
              exact ⟨⟨g - 1, congrArg (Value.int .u64) (by omega), Lib.hid ⟨(HE1.out (.inr (by omega))).1, HT1.out.2, (HE1.out (.inr (by omega))).2⟩⟩, rfl⟩
            · have hrb' : ¬ (4294967295 : Int) < (r : Int) + (top : Int) := by omega
              clear hgb hrb hr hq hd0 hd1 hu1 hu2
              go_wp2_with fail
              exact ⟨⟨g - 1, r + top, congrArg (Value.int .u64) (by omega), congrArg (Value.int .u64) (by omega), by omega, by omega, HT1⟩, by simp [intOf]; omega⟩
          · have hgb' : ¬ (4294967295 : Int) < (g : Int) := by omega
            have hp0 : 0 ≤ (g : Int) * (next : Int) := Int.mul_nonneg (by omega) (by omega)
            have hp1 : (g : Int) * (next : Int) < 18446744073709551616 := by
              have := mul_le_word (x := g) (y := next) (by omega) (by omega)
              rw [← Int.natCast_mul]; omega
            have hor := or_words' x0 r hu0 hrl
            have HC := Lib.hid (Int.natCast_mul g next)
            by_cases hcmp : (r : Int) * 4294967296 + (x0 : Int) < (g : Int) * (next : Int)
            · have hcn : r * 4294967296 + x0 < g * next := by have := HC.out; omega
              obtain ⟨h1, h2⟩ := HL.out (.inr hcn)
              have HT1 := Lib.hid h2
              have HE1 := Lib.hid (HLast.out (g - 1) (r + top) h2)
              clear h2 hcn
              have hg1 : (1 : Int) ≤ (g : Int) := by omega
              by_cases hrb : 4294967295 < r + top
              · have hrb' : (4294967295 : Int) < (r : Int) + (top : Int) := by omega
                clear hgb hrb hr hq hd0 hd1 hu1 hu2
                go_wp2_with fail
                go_meet
                exact ⟨⟨g - 1, congrArg (Value.int .u64) (by omega), Lib.hid ⟨(HE1.out (.inr (by omega))).1, HT1.out.2, (HE1.out (.inr (by omega))).2⟩⟩, rfl⟩
              · have hrb' : ¬ (4294967295 : Int) < (r : Int) + (top : Int) := by omega
                clear hgb hrb hr hq hd0 hd1 hu1 hu2
                go_wp2_with fail
                exact ⟨⟨g - 1, r + top, congrArg (Value.int .u64) (by omega), congrArg (Value.int .u64) (by omega), by omega, by omega, HT1⟩, by simp [intOf]; omega⟩
            · have hcn : g * next ≤ r * 4294967296 + x0 := by have := HC.out; omega
              obtain ⟨h1, h2⟩ := HE.out (.inl ⟨by omega, hcn⟩)
              have HE1 := Lib.hid h2
              clear hgb hr hq hd0 hd1 hu1 hu2 h2 hcn
              go_wp2_with fail
              go_meet
              exact ⟨⟨g, rfl, Lib.hid ⟨h1, HTR.out.2, HE1.out⟩⟩, rfl⟩
      case rest =>
        obtain ⟨⟨g, rfl, HG⟩, rfl⟩ := hcut
        have hg := HG.out.1
        clear hq hr hd0 hd1 c02 hhl hu0 hu1 hu2 hg0 hr0 HT0 HLess HLast
        go_wp2_with fail
        go_loopw [22, 23, 24] (fun sc sd si wr => SubAt w2 w2.heap.size Q (n' + m + 3) (m + 1) (n' + 2) u q (fun i => v.getD i 0) g j 90 sc sd si wr) (fun _ _ si _ => n' + 2 - (intOf si).toNat)
        case atStart => exact ⟨0, by omega, rfl, rfl, rfl, by rw [← win_zero]; exact bu2, bq2, hb2⟩
        case round =>
          clear bu2 bq2 hb2
          obtain ⟨i, hi, rfl, rfl, rfl, bu, bq, hb⟩ := hrel
          have hcl := mulC_lt hg HVW.out i
          have hdl := cSub_le (fun i => u (j + i)) (mulD (fun i => v.getD i 0) g) i
          have cz := bu.cell (j + i)
          by_cases hil : i < n' + 2
          · rw [rowF_at _ _ _ _ (by omega), win_at] at cz
            have tz := bu.thaw (j + i)
            have cy := HVC.out wr hb i hil
            have hy := HVW.out i
            have hz := HW.out.hu (j + i)
            have HS := Lib.hid (show mulC (fun i => v.getD i 0) g (i + 1) = (mulC (fun i => v.getD i 0) g i + g * v.getD i 0) / 4294967296 from rfl)
            have HP := Lib.hid (show mulD (fun i => v.getD i 0) g i = (mulC (fun i => v.getD i 0) g i + g * v.getD i 0) % 4294967296 from rfl)
            have HD := Lib.hid (show dSub (fun i => u (j + i)) (mulD (fun i => v.getD i 0) g) i = if u (j + i) < mulD (fun i => v.getD i 0) g i + cSub (fun i => u (j + i)) (mulD (fun i => v.getD i 0) g) i then u (j + i) + 4294967296 - (mulD (fun i => v.getD i 0) g i + cSub (fun i => u (j + i)) (mulD (fun i => v.getD i 0) g) i) else u (j + i) - (mulD (fun i => v.getD i 0) g i + cSub (fun i => u (j + i)) (mulD (fun i => v.getD i 0) g) i) from rfl)
            have HC := Lib.hid (show cSub (fun i => u (j + i)) (mulD (fun i => v.getD i 0) g) (i + 1) = if u (j + i) < mulD (fun i => v.getD i 0) g i + cSub (fun i => u (j + i)) (mulD (fun i => v.getD i 0) g) i then 1 else 0 from rfl)
            rw [HP.out] at HD HC
            have HWS := Lib.hid (win_step u (dSub (fun i => u (j + i)) (mulD (fun i => v.getD i 0) g)) j i (n' + m + 3))
            generalize mulC (fun i => v.getD i 0) g i = cc at hcl HS HP HD HC
            generalize cSub (fun i => u (j + i)) (mulD (fun i => v.getD i 0) g) i = dd at hdl HD HC
            generalize v.getD i 0 = y at cy hy HS HP HD HC
            generalize u (j + i) = z at cz hz HD HC
            have hil1 : (i : Int) < (n' : Int) + 2 := by omega
            have hp0 : 0 ≤ (g : Int) * (y : Int) := Int.mul_nonneg (by omega) (by omega)
            have hp1 : (cc : Int) + (g : Int) * (y : Int) < 18446744073709551616 := by
              have := mul_le_word (x := g) (y := y) (by omega) (by omega)
              rw [← Int.natCast_mul]; omega
            have f1 : IntKind.i64.wrap ((i : Int) + (j : Int)) = (i : Int) + (j : Int) := IntWalk.i64_in _ (by omega)
            have f2 : ((i : Int) + (j : Int)).toNat = j + i := by omega
            have f3 : (0 : Int) ≤ (i : Int) + (j : Int) := by omega
            have f4 : (i : Int) + (j : Int) < (n' : Int) + (m : Int) + 3 := by omega
            go_wp2_with fail
            refine ⟨?_, by simp [intOf]; omega⟩
            have hm := mac_low cc g y
            have hs := sub_word z ((cc + g * y) % 4294967296) dd hz (Nat.mod_lt _ (by omega)) hdl
            rw [hm.1, hm.2, hs.1, hs.2]
            refine ⟨i + 1, by omega, by rw [HS.out], by rw [HC.out], by go_num, ?_, bq.other (by show Q ≠ w2.heap.size; omega) _, hb.setCell (Nat.le_refl _) _⟩
            rw [← HWS.out, HD.out]
            exact bu.set _ _
          · obtain rfl : i = n' + 2 := by omega
            rw [rowF_at _ _ _ _ (by omega), win_at] at cz
            have tz := bu.thaw (j + (n' + 2))
            have hz := HW.out.hu (j + (n' + 2))
            have HP := Lib.hid (show mulD (fun i => v.getD i 0) g (n' + 2) = mulC (fun i => v.getD i 0) g (n' + 2) by
              show (mulC (fun i => v.getD i 0) g (n' + 2) + g * v.getD (n' + 2) 0) % 4294967296 = _
              rw [HVZ.out]; omega)
            have HD := Lib.hid (show dSub (fun i => u (j + i)) (mulD (fun i => v.getD i 0) g) (n' + 2) = if u (j + (n' + 2)) < mulD (fun i => v.getD i 0) g (n' + 2) + cSub (fun i => u (j + i)) (mulD (fun i => v.getD i 0) g) (n' + 2) then u (j + (n' + 2)) + 4294967296 - (mulD (fun i => v.getD i 0) g (n' + 2) + cSub (fun i => u (j + i)) (mulD (fun i => v.getD i 0) g) (n' + 2)) else u (j + (n' + 2)) - (mulD (fun i => v.getD i 0) g (n' + 2) + cSub (fun i => u (j + i)) (mulD (fun i => v.getD i 0) g) (n' + 2)) from rfl)
            have HC := Lib.hid (show cSub (fun i => u (j + i)) (mulD (fun i => v.getD i 0) g) (n' + 3) = if u (j + (n' + 2)) < mulD (fun i => v.getD i 0) g (n' + 2) + cSub (fun i => u (j + i)) (mulD (fun i => v.getD i 0) g) (n' + 2) then 1 else 0 from rfl)
            rw [HP.out] at HD HC
            have HWS := Lib.hid (win_step u (dSub (fun i => u (j + i)) (mulD (fun i => v.getD i 0) g)) j (n' + 2) (n' + m + 3))
            generalize mulC (fun i => v.getD i 0) g (n' + 2) = cc at hcl HP HD HC
            generalize cSub (fun i => u (j + i)) (mulD (fun i => v.getD i 0) g) (n' + 2) = dd at hdl HD HC
            generalize u (j + (n' + 2)) = z at cz hz HD HC
            have f1 : IntKind.i64.wrap ((j : Int) + ((n' : Int) + 2)) = (j : Int) + ((n' : Int) + 2) := IntWalk.i64_in _ (by omega)
            have f2 : ((j : Int) + ((n' : Int) + 2)).toNat = j + (n' + 2) := by omega
            have f3 : (0 : Int) ≤ (j : Int) + ((n' : Int) + 2) := by omega
            have f4 : (j : Int) + ((n' : Int) + 2) < (n' : Int) + (m : Int) + 3 := by omega
            have hs := sub_word z cc dd hz hcl hdl
            obtain ⟨t, ht'⟩ : ∃ t : Nat, IntKind.u64.wrap (IntKind.u64.wrap ((z : Int) - (cc : Int)) - (dd : Int)) = (t : Int) := ⟨(IntKind.u64.wrap (IntKind.u64.wrap ((z : Int) - (cc : Int)) - (dd : Int))).toNat, by simp only [u64wrap]; omega⟩
            rw [ht', ← HD.out] at hs
            have htm := hs.2
            have htl : t < 18446744073709551616 := by rw [u64wrap] at ht'; omega
            have bu' := bu.set (j + (n' + 2)) (.int .u32 (dSub (fun i => u (j + i)) (mulD (fun i => v.getD i 0) g) (n' + 2) : Nat))
            rw [HWS.out] at bu'
            have bq' := bq.other (p := ⟨w2.heap.size, j + (n' + 2), none⟩) (show Q ≠ w2.heap.size by omega) (.int .u32 (dSub (fun i => u (j + i)) (mulD (fun i => v.getD i 0) g) (n' + 2) : Nat))
            have hb' := hb.setCell (p := ⟨w2.heap.size, j + (n' + 2), none⟩) (Nat.le_refl _) (.int .u32 (dSub (fun i => u (j + i)) (mulD (fun i => v.getD i 0) g) (n' + 2) : Nat))
            have hdlt : dSub (fun i => u (j + i)) (mulD (fun i => v.getD i 0) g) (n' + 2) < 4294967296 := dSub_lt (fun i => HW.out.hu _) _
            generalize hDD : dSub (fun i => u (j + i)) (mulD (fun i => v.getD i 0) g) (n' + 2) = DD at htm bu' bq' hb' hdlt
            clear hDD
            have HBU := Lib.hid bu'
            clear bu'
            have cq := bq'.cell j
            rw [rowF_at _ _ _ _ (by omega), HW.out.low j (by omega)] at cq
            have tq := bq'.thaw j
            have hjm : (j : Int) < (m : Int) + 1 := by omega
            have HVP : Hid (0 < val l' * 2 ^ s) := Lib.hid (by rw [← HVV.out]; exact HST.out.pos)
            have HVL2 : Hid (val l' * 2 ^ s < pw (n' + 2)) := Lib.hid (by rw [← HVV.out]; exact valF_lt (fun i _ => HVW.out i))
            by_cases hbr : z < cc + dd
            · have hc1 : cSub (fun i => u (j + i)) (mulD (fun i => v.getD i 0) g) (n' + 3) ≠ 0 := by rw [HC.out, if_pos hbr]; omega
              obtain ⟨hgp, hgq, hgr⟩ := HST.out.back HVZ.out hg HG.out.2.2 hc1
              rw [HVV.out] at hgq hgr
              have HNX := Lib.hid (HW.out.next' (by omega) HVL2.out (d := dAdd (dSub (fun i => u (j + i)) (mulD (fun i => v.getD i 0) g)) (fun i => v.getD i 0)) (g := g - 1) (fun i => Nat.mod_lt _ (by omega)) (by omega) hgq hgr HVP.out)
              have ht1 : ((t : Int) / 9223372036854775808 != 0) = true := by rw [hs.1, if_pos hbr]; rfl
              have hg1 : (1 : Int) ≤ (g : Int) := by omega
              clear hs hbr hil hgq hgr hc1 cq tq
              go_wp2_with fail
              have HBU2 := Lib.hid HBU.out
              have Hbq := Lib.hid bq'
              have Hhb := Lib.hid hb'
              generalize wr.setCell ⟨w2.heap.size, j + (n' + 2), none⟩ (.int .u32 (DD : Int)) = wr3 at *
              clear bq' hb' hb bu bq
              have hdS : ∀ i, dSub (fun i => u (j + i)) (mulD (fun i => v.getD i 0) g) i < 4294967296 := fun i => dSub_lt (fun i => HW.out.hu _) i
              have HDS := Lib.hid hdS
              clear hdS
              generalize dSub (fun i => u (j + i)) (mulD (fun i => v.getD i 0) g) = dS at HBU2 HNX HDS HD HWS HBU
              go_loopw [22, 27] (fun sc si wr => BackAt w2 w2.heap.size Q (n' + m + 3) (m + 1) (n' + 2) (win u dS j (n' + 3)) q (fun i => v.getD i 0) dS j 90 sc si wr) (fun _ si _ => n' + 2 - (intOf si).toNat)
              case atStart => exact ⟨0, by omega, rfl, rfl, by rw [← win_zero]; exact HBU2.out, Hbq.out, Hhb.out⟩
              case round =>
                clear HBU2 Hbq Hhb HD HWS HBU HC HP
                obtain ⟨i, hi, rfl, rfl, bu, bq, hb⟩ := hrel
                have hcl := cAdd_le HDS.out HVW.out i
                have cz := bu.cell (j + i)
                by_cases hil : i < n' + 2
                · rw [rowF_at _ _ _ _ (by omega), win_at, win_in _ _ (by omega)] at cz
                  have tz := bu.thaw (j + i)
                  have cy := HVC.out wr hb i hil
                  have hy := HVW.out i
                  have hz := HDS.out i
                  have HS := Lib.hid (show cAdd dS (fun i => v.getD i 0) (i + 1) = (dS i + v.getD i 0 + cAdd dS (fun i => v.getD i 0) i) / 4294967296 from rfl)
                  have HA := Lib.hid (show dAdd dS (fun i => v.getD i 0) i = (dS i + v.getD i 0 + cAdd dS (fun i => v.getD i 0) i) % 4294967296 from rfl)
                  have HWS := Lib.hid (win_step (win u dS j (n' + 3)) (dAdd dS (fun i => v.getD i 0)) j i (n' + m + 3))
                  generalize cAdd dS (fun i => v.getD i 0) i = cc at hcl HS HA
                  generalize v.getD i 0 = y at cy hy HS HA
                  generalize dS i = z at cz hz HS HA
                  have hil1 : (i : Int) < (n' : Int) + 2 := by omega
                  have f1 : IntKind.i64.wrap ((i : Int) + (j : Int)) = (i : Int) + (j : Int) := IntWalk.i64_in _ (by omega)
                  have f2 : ((i : Int) + (j : Int)).toNat = j + i := by omega
                  have f3 : (0 : Int) ≤ (i : Int) + (j : Int) := by omega
                  have f4 : (i : Int) + (j : Int) < (n' : Int) + (m : Int) + 3 := by omega
                  go_wp2_with fail
                  go_quiet (fail)
                  go_wp2_with fail
                  refine ⟨?_, by simp [intOf]; omega⟩
                  have e : ((cc : Int) + ((z : Int) + (y : Int))) % 4294967296 = ((dAdd dS (fun i => v.getD i 0) i : Nat) : Int) := by rw [HA.out]; omega
                  refine ⟨i + 1, by omega, by rw [HS.out]; go_num, by go_num, ?_, (bq.drewN nq).other (by show Q ≠ w2.heap.size; omega) _, (below_drewN hb nq).setCell (Nat.le_refl _) _⟩
                  rw [← HWS.out, e]
                  exact (bu.drewN nq).set _ _
                · obtain rfl : i = n' + 2 := by omega
                  rw [rowF_at _ _ _ _ (by omega), win_at, win_in _ _ (by omega)] at cz
                  have tz := bu.thaw (j + (n' + 2))
                  have hz := HDS.out (n' + 2)
                  have HA := Lib.hid (show dAdd dS (fun i => v.getD i 0) (n' + 2) = (dS (n' + 2) + v.getD (n' + 2) 0 + cAdd dS (fun i => v.getD i 0) (n' + 2)) % 4294967296 from rfl)
                  rw [HVZ.out] at HA
                  have HWS := Lib.hid (win_step (win u dS j (n' + 3)) (dAdd dS (fun i => v.getD i 0)) j (n' + 2) (n' + m + 3))
                  generalize cAdd dS (fun i => v.getD i 0) (n' + 2) = cc at hcl HA
                  generalize dS (n' + 2) = z at cz hz HA
                  have f1 : IntKind.i64.wrap ((j : Int) + ((n' : Int) + 2)) = (j : Int) + ((n' : Int) + 2) := IntWalk.i64_in _ (by omega)
                  have f2 : ((j : Int) + ((n' : Int) + 2)).toNat = j + (n' + 2) := by omega
                  have f3 : (0 : Int) ≤ (j : Int) + ((n' : Int) + 2) := by omega
                  have f4 : (j : Int) + ((n' : Int) + 2) < (n' : Int) + (m : Int) + 3 := by omega
                  have f5 : ((z : Int) + (cc : Int)) % 4294967296 = ((dAdd dS (fun i => v.getD i 0) (n' + 2) : Nat) : Int) := by rw [HA.out]; omega
                  have bu1 := bu.set (j + (n' + 2)) (.int .u32 (dAdd dS (fun i => v.getD i 0) (n' + 2) : Nat))
                  rw [HWS.out] at bu1
                  have bq1 := bq.other (p := ⟨w2.heap.size, j + (n' + 2), none⟩) (show Q ≠ w2.heap.size by omega) (.int .u32 (dAdd dS (fun i => v.getD i 0) (n' + 2) : Nat))
                  have hb1 := hb.setCell (p := ⟨w2.heap.size, j + (n' + 2), none⟩) (Nat.le_refl _) (.int .u32 (dAdd dS (fun i => v.getD i 0) (n' + 2) : Nat))
                  have bu2 : Blk (wr.setCell ⟨w2.heap.size, j + (n' + 2), none⟩ (.int .u32 (dAdd dS (fun i => v.getD i 0) (n' + 2) : Nat))) w2.heap.size 90 (rowF .u32 (n' + m + 3) fun i => (win u (dAdd dS (fun i => v.getD i 0)) j (n' + 3) i : Int)) := by
                    rw [← rowF_congr (f := fun p => ((win (win u dS j (n' + 3)) (dAdd dS (fun i => v.getD i 0)) j (n' + 2 + 1) p : Nat) : Int)) (fun p _ => by rw [win_win])]
                    exact bu1
                  have HBF := Lib.hid bu2
                  have cq := bq1.cell j
                  rw [rowF_at _ _ _ _ (by omega), HW.out.low j (by omega)] at cq
                  have tq := bq1.thaw j
                  clear bu1 bu2 HA HWS hil
                  generalize dAdd dS (fun i => v.getD i 0) (n' + 2) = da at f5 HBF bq1 hb1 cq tq
                  go_wp2_with fail
                  refine ⟨⟨j, win u (dAdd dS (fun i => v.getD i 0)) j (n' + 3), fun i => if i = j then g - 1 else q i, by omega, rfl, HNX, HBF.out.other (by show w2.heap.size ≠ Q; omega) _, ?_, hb1.setCell (by show w2.heap.size ≤ Q; omega) _⟩, by simp [intOf]⟩
                  have hset := bq1.set j (.int .u32 ((g - 1 : Nat) : Int))
                  rw [rowF_set (g := fun i => (((if i = j then g - 1 else q i) : Nat) : Int)) (fun i _ => by by_cases e : i = j <;> simp [e])] at hset
                  rw [show (g : Int) - 1 = ((g - 1 : Nat) : Int) by omega]
                  exact hset
            · have hc0 : cSub (fun i => u (j + i)) (mulD (fun i => v.getD i 0) g) (n' + 3) = 0 := by rw [HC.out, if_neg hbr]
              obtain ⟨hgq, hgr⟩ := HST.out.right_ HVZ.out hg HG.out.2.1 hc0
              rw [HVV.out] at hgq hgr
              have HNX := Lib.hid (HW.out.next' (by omega) HVL2.out (d := dSub (fun i => u (j + i)) (mulD (fun i => v.getD i 0) g)) (g := g) (fun i => dSub_lt (fun i => HW.out.hu _) i) hg hgq hgr HVP.out)
              have ht1 : ((t : Int) / 9223372036854775808 != 0) = false := by rw [hs.1, if_neg hbr]; rfl
              clear hs hbr hil hgq hgr hc0
              go_wp2_with fail
              refine ⟨⟨j, win u (dSub (fun i => u (j + i)) (mulD (fun i => v.getD i 0) g)) j (n' + 3), fun i => if i = j then g else q i, by omega, rfl, HNX, HBU.out.other (by show w2.heap.size ≠ Q; omega) _, ?_, hb'.setCell (by show w2.heap.size ≤ Q; omega) _⟩, by simp [intOf]⟩
              have hset := bq'.set j (.int .u32 (g : Int))
              rw [rowF_set (g := fun i => (((if i = j then g else q i) : Nat) : Int)) (fun i _ => by by_cases e : i = j <;> simp [e])] at hset
              exact hset
    · obtain rfl : k = 0 := by omega
      obtain ⟨hq, hr⟩ := HW.out.done
      have HQ := Lib.hid (show val ((List.range (m + 1)).map q) = val l / val l' by
        rw [val_map, hq, Nat.mul_div_mul_right _ _ (Nat.two_pow_pos s)])
      have HR := Lib.hid (show val ((List.range (n' + m + 3)).map u) = val l % val l' * 2 ^ s by
        rw [val_map, show n' + m + 3 = m + (n' + 2) + 1 by omega, hr, Nat.mul_mod_mul_right])
      have hgu := bu.lt
      have hgq := bq.lt
      have HWQ := Lib.hid (wd_of_blk bq (by omega) (fun i _ => HW.out.hq i))
      have HWU := Lib.hid (wd_of_blk bu (by omega) (fun i _ => HW.out.hu i))
      have hTQ := trim_any _ _ _ _ _ HWQ.out
      have hTU := trim_any _ _ _ _ _ HWU.out
      rw [List.length_map, List.length_range] at hTQ hTU
      have HTQ := Lib.hid hTQ
      have HTU := Lib.hid hTU
      have HBE := Lib.hid (onward HB2.out (by have := HB2.out.size; omega) hb)
      clear hq hr hTQ hTU bu bq hpos
      go_wp2_with fail
      refine HTQ.out.mono ?_
      rintro e w7 ⟨htq, rfl⟩
      obtain ⟨A1, c1, l1, rfl, hw1, ht1, hv1, hb1⟩ := gave_of_trim (n := val l / val l') HWQ.out (by omega) HBE.out HQ.out htq
      have HW1 := Lib.hid hw1
      have HT1 := Lib.hid ht1
      have HV1 := Lib.hid hv1
      clear htq hw1 ht1 hv1
      go_wp2_with fail
      refine HTU.out.mono ?_
      rintro e w7 ⟨htu, rfl⟩
      obtain ⟨A2, c2, l2, rfl, hw2, ht2, hv2, hb2⟩ := gave_of_trim (n := val l % val l' * 2 ^ s) HWU.out (by omega) HBE.out HR.out htu
      have HW2 := Lib.hid hw2
      have HV2 := Lib.hid hv2
      have hl2 : l2.length ≤ n' + m + 3 := by
        obtain ⟨kk, hk1, e, _⟩ := htu
        injection e with e
        injection e with e1 e2 e3
        rw [List.length_map, List.length_range] at hk1
        omega
      clear htu hw2 ht2 hv2
      go_wp2_with fail
      refine (right_any A2 c2 l2 s 0 s _ _ (Nat.le_refl _) HW2.out (by omega) (by omega) hs32 (by omega)).mono ?_
      rintro e w8 ⟨A3', c3', l3, rfl, hw3, ht3, hv3, hb3⟩
      have HW3 := Lib.hid hw3
      have HT3 := Lib.hid ht3
      have HV3 := Lib.hid (show val l3 = val l % val l' by rw [hv3, HV2.out, Nat.mul_div_cancel _ (Nat.two_pow_pos s)])
      have HB3 := Lib.hid (onward HBE.out (Nat.le_refl _) hb3)
      have HW1' := Lib.hid ((HW1.out.below hb3).more hb3.size)
      clear hw3 ht3 hv3 hb3
      go_wp2_with fail
      go_ret2
      exact ⟨A1, c1, l1, A3', c3', l3, rfl, HW1'.out, HT1.out, HV1.out, HW3.out, HT3.out, HV3.out, HB3.out⟩

end Go.Proofs.Ytlcpackmoolngaa.BigW
