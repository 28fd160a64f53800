/- Contracts: clock.Round, the reference's ClockRound. -/
import Derived.Test.YtjfllpmiajkenaaPart
import Derived.Test.YtjfllpmiajkenaaMid
import Derived.Test.YtjfllpmiajkenaaRes
import Derived.Test.YtjfllpmiajkenaaRws
import Derived.Test.YtjfllpmiajkenaaOwnMore
import Derived.Test.YtjfllpmiajkenaaFence2
namespace Go.Proofs.Ytjfllpmiajkenaa.Rn
open Go.RowKit Go.Proofs.Ytjfllpmiajkenaa.Mem Go.Proofs.Ytjfllpmiajkenaa.Ms Go.Proofs.Ytjfllpmiajkenaa.Md Go.Proofs.Ytjfllpmiajkenaa.Rd4 Go.Proofs.Ytjfllpmiajkenaa.Rws
set_option linter.unusedVariables false

def inT (x : Int) : Bool := decide (-1099511627776 ≤ x) && decide (x ≤ 1099511627776)
def allT (f : Nat → Int) : Bool := inT (f 0) && inT (f 1) && inT (f 2) && inT (f 3)
def okR (f g : Nat → Int) : Bool := allT f && allT g
/-- what node i hears of node k -/
def ro (f g : Nat → Int) (bad : Int) (i k : Nat) : Int := if (k : Int) = bad then g i else f k
def rl (f g : Nat → Int) (bad : Int) (i : Nat) : List Int := (List.range 4).map (ro f g bad i)
def rout (f g : Nat → Int) (bad : Int) (i : Nat) : Int := if (i : Int) = bad then f i else midOf (rl f g bad i)
def rz (f g : Nat → Int) (bad : Int) (i : Nat) : Int := if okR f g then rout f g bad i else 0
def re (f g : Nat → Int) : Int := if okR f g then 0 else 3
/-- P7.3 -/
def RoundAs (f g : Nat → Int) (bad : Int) (w w' : World) (e : Ending) : Prop := e = .returned (.tuple #[.agg (rowF .i64 4 (rz f g bad)), .int .i64 (re f g)]) ∧ Below w.heap.size w w'

def okT (f : Nat → Int) (k : Nat) : Prop := ∀ j, j < k → inT (f j) = true
theorem okT_step {f : Nat → Int} {k : Nat} (h : okT f k) (hi : inT (f k) = true) : okT f (k + 1) := fun j hj => by
  by_cases e : j = k
  · subst e; exact hi
  · exact h j (by omega)
theorem allT_of {f : Nat → Int} (h : okT f 4) : allT f = true := by
  unfold allT; rw [h 0 (by omega), h 1 (by omega), h 2 (by omega), h 3 (by omega)]; rfl
theorem allT_not {f : Nat → Int} {k : Nat} (hk : k < 4) (h : inT (f k) = false) : allT f = false := by
  unfold allT
  obtain rfl | rfl | rfl | rfl : k = 0 ∨ k = 1 ∨ k = 2 ∨ k = 3 := by omega
  all_goals simp [h]
theorem inT_bd {x : Int} (h : inT x = true) : -1099511627776 ≤ x ∧ x ≤ 1099511627776 := by simpa [inT] using h
theorem inT_not {x : Int} (h : inT x = false) : x < -1099511627776 ∨ 1099511627776 < x := by
  simp only [inT, Bool.and_eq_false_iff, decide_eq_false_iff_not] at h
  omega
theorem ro_bd {f g : Nat → Int} (hf : okT f 4) (hg : okT g 4) (bad : Int) {i k : Nat} (hi : i < 4) (hk : k < 4) : -1099511627776 ≤ ro f g bad i k ∧ ro f g bad i k ≤ 1099511627776 := by
  unfold ro
  split
  · exact inT_bd (hg i hi)
  · exact inT_bd (hf k hk)
theorem rl_len (f g : Nat → Int) (bad : Int) (i : Nat) : (rl f g bad i).length = 4 := by simp [rl]
theorem rl_bd {f g : Nat → Int} (hf : okT f 4) (hg : okT g 4) (bad : Int) {i : Nat} (hi : i < 4) : ∀ z ∈ rl f g bad i, -1099511627776 ≤ z ∧ z ≤ 1099511627776 := fun z hz => by
  obtain ⟨k, hk, rfl⟩ := List.mem_map.1 hz
  exact ro_bd hf hg bad hi (List.mem_range.1 hk)
theorem mid_bd {l : List Int} {B : Int} (h : ∀ z ∈ l, -B ≤ z ∧ z ≤ B) (hl : 0 < l.length) : -B ≤ midOf l ∧ midOf l ≤ B := by
  have h1 := h _ (srt_mem (l := l) (k := (l.length - 1) / 3) (by omega))
  have h2 := h _ (srt_mem (l := l) (k := l.length - 1 - (l.length - 1) / 3) (by omega))
  unfold midOf
  omega
theorem midZ_4 {l : List Int} (h : l.length = 4) : midZ l = (midOf l, 0) := by unfold midZ; rw [if_neg (by omega)]
theorem rl_take (f g : Nat → Int) (bad : Int) (i k : Nat) (hk : k < 4) : ((List.range (k + 1)).map (ro f g bad i)) = (List.range k).map (ro f g bad i) ++ [ro f g bad i k] := by simp [List.range_succ]
/-- the differences -/
def rd (f g : Nat → Int) (bad : Int) (i k : Nat) : List Int := (List.range k).map (fun j => ro f g bad i j - f i)
theorem rd_succ (f g : Nat → Int) (bad : Int) (i k : Nat) : rd f g bad i (k + 1) = rd f g bad i k ++ [ro f g bad i k - f i] := by simp [rd, List.range_succ]
theorem rd_len (f g : Nat → Int) (bad : Int) (i k : Nat) : (rd f g bad i k).length = k := by simp [rd]
theorem rd_all (f g : Nat → Int) (bad : Int) (i : Nat) : rd f g bad i 4 = (rl f g bad i).map (fun x => x - f i) := by simp [rd, rl, List.map_map, Function.comp_def]
theorem rd_mid (f g : Nat → Int) (bad : Int) (i : Nat) : midOf (rd f g bad i 4) = midOf (rl f g bad i) - f i := by
  rw [rd_all, mid_map _ _ (by rw [rl_len]; omega)]
theorem rd_bd {f g : Nat → Int} (hf : okT f 4) (hg : okT g 4) (bad : Int) {i : Nat} (hi : i < 4) : ∀ z ∈ rd f g bad i 4, -9223372036854775808 ≤ z ∧ z ≤ 9223372036854775807 := fun z hz => by
  obtain ⟨k, hk, rfl⟩ := List.mem_map.1 hz
  have h1 := ro_bd hf hg bad hi (List.mem_range.1 hk)
  have h2 := inT_bd (hf i hi)
  omega
theorem rz_yes {f g : Nat → Int} (bad : Int) (h : okR f g = true) : rowF .i64 4 (rz f g bad) = rowF .i64 4 (rout f g bad) := rowF_congr fun i _ => by unfold rz; rw [if_pos h]
theorem rz_no {f g : Nat → Int} (bad : Int) (h : okR f g = false) : rowF .i64 4 (rz f g bad) = rowF .i64 4 (fun _ => 0) := rowF_congr fun i _ => by unfold rz; rw [h]; rfl
theorem re_yes {f g : Nat → Int} (h : okR f g = true) : re f g = 0 := by unfold re; rw [if_pos h]
theorem re_no {f g : Nat → Int} (h : okR f g = false) : re f g = 3 := by unfold re; rw [h]; rfl
/-- the answers so far -/
def ou (f g : Nat → Int) (bad : Int) (i j : Nat) : Int := if j < i then rout f g bad j else f j

theorem ou_bad (f g : Nat → Int) {bad : Int} {i : Nat} (h : (i : Int) = bad) : rowF .i64 4 (ou f g bad (i + 1)) = rowF .i64 4 (ou f g bad i) := rowF_congr fun j _ => by
  unfold ou
  by_cases e : j = i
  · subst e; rw [if_pos (by omega), if_neg (by omega)]; unfold rout; rw [if_pos h]
  · by_cases h1 : j < i
    · rw [if_pos (by omega), if_pos h1]
    · rw [if_neg (by omega), if_neg h1]
theorem rout_good (f g : Nat → Int) {bad : Int} {i : Nat} (h : ¬ (i : Int) = bad) : rout f g bad i = midOf (rl f g bad i) := by unfold rout; rw [if_neg h]
theorem ou_at (f g : Nat → Int) (bad : Int) (i : Nat) : ou f g bad i i = f i := if_neg (by omega)
theorem ou_all (f g : Nat → Int) (bad : Int) : rowF .i64 4 (ou f g bad 4) = rowF .i64 4 (rout f g bad) := rowF_congr fun j hj => if_pos hj
theorem ou_next (f g : Nat → Int) (bad : Int) (i : Nat) {M : Int} (h : rout f g bad i = M) : rowF .i64 4 (ou f g bad (i + 1)) = rowF .i64 4 (fun j => if j = i then M else ou f g bad i j) := rowF_congr fun j _ => by
  unfold ou
  by_cases e : j = i
  · subst e; rw [if_pos (by omega), if_pos rfl, h]
  · rw [if_neg e]
    by_cases h1 : j < i
    · rw [if_pos (by omega), if_pos h1]
    · rw [if_neg (by omega), if_neg h1]
theorem rowF_set2 {n : Nat} {f : Nat → Int} {i : Nat} (hi : i < n) {M : Int} : (rowF .i64 n f).setIfInBounds i (.int .i64 M) = rowF .i64 n (fun j => if j = i then M else f j) := by
  apply Array.ext_getElem?
  intro j
  rw [Array.getElem?_setIfInBounds]
  rcases Nat.lt_or_ge j n with h | h
  · rw [rowF_at _ _ _ _ h, rowF_at _ _ _ _ h]
    by_cases e : i = j
    · subst e; simp [rowF_size, hi]
    · rw [if_neg e, if_neg (fun h => e h.symm)]
  · rw [rowF_out _ _ _ _ h, rowF_out _ _ _ _ h]
    by_cases e : i = j
    · subst e; omega
    · rw [if_neg e]

/-- what i hears, up to k -/
def ra (f g : Nat → Int) (bad : Int) (i k : Nat) : List Int := (List.range k).map (ro f g bad i)
theorem ra_succ (f g : Nat → Int) (bad : Int) (i k : Nat) : ra f g bad i (k + 1) = ra f g bad i k ++ [ro f g bad i k] := by simp [ra, List.range_succ]
theorem ra_len (f g : Nat → Int) (bad : Int) (i k : Nat) : (ra f g bad i k).length = k := by simp [ra]
def ov (f g : Nat → Int) (bad : Int) (i j : Nat) : Int := if j < i then rout f g bad j else 0
theorem ov_all (f g : Nat → Int) (bad : Int) : rowF .i64 4 (ov f g bad 4) = rowF .i64 4 (rout f g bad) := rowF_congr fun j hj => if_pos hj
theorem ov_next (f g : Nat → Int) (bad : Int) (i : Nat) {M : Int} (h : rout f g bad i = M) : rowF .i64 4 (ov f g bad (i + 1)) = rowF .i64 4 (fun j => if j = i then M else ov f g bad i j) := rowF_congr fun j _ => by
  unfold ov
  by_cases e : j = i
  · subst e; rw [if_pos (by omega), if_pos rfl, h]
  · rw [if_neg e]
    by_cases h1 : j < i
    · rw [if_pos (by omega), if_pos h1]
    · rw [if_neg (by omega), if_neg h1]

set_option maxRecDepth 100000 in
set_option maxHeartbeats 2000000 in
theorem round_any (f g : Nat → Int) (bad : Int) (w : World) :
    Calls Try.prog 27 #[.agg (rowF .i64 4 f), .int .i64 bad, .agg (rowF .i64 4 g)] w fun e w' => RoundAs f g bad w w' e := by
  have Hif := Lib.hid (run_index4 f)
  have Hig := Lib.hid (run_index4 g)
  have i4 := Lib.hid (fun h : Nat → Int => show (Try.prog.info? 28).map (·.size) = some (rowF .i64 4 h).size by rw [rowF_size]; kernel_rfl)
  have H3 : Hid (Blk (((w.alloc (.cells (rowF .i64 4 f) 28)).alloc (.cells (rowF .i64 4 g) 28)).alloc (.cells #[.int .i64 0, .int .i64 0, .int .i64 0, .int .i64 0] 28)) w.heap.size 28 (rowF .i64 4 f)) := Lib.hid (((Blk.fresh w 28 (rowF .i64 4 f)).alloc _).alloc _)
  have H5 : Hid (Blk (((w.alloc (.cells (rowF .i64 4 f) 28)).alloc (.cells (rowF .i64 4 g) 28)).alloc (.cells #[.int .i64 0, .int .i64 0, .int .i64 0, .int .i64 0] 28)) (w.heap.size + 1) 28 (rowF .i64 4 g)) := Lib.hid ((Blk.new (by simp)).alloc _)
  have H6 : Hid (Blk (((w.alloc (.cells (rowF .i64 4 f) 28)).alloc (.cells (rowF .i64 4 g) 28)).alloc (.cells #[.int .i64 0, .int .i64 0, .int .i64 0, .int .i64 0] 28)) (w.heap.size + 1 + 1) 28 (rowF .i64 4 (fun _ => 0))) := Lib.hid (Blk.new (by simp))
  have HB := Lib.hid ((((Below.refl w.heap.size w).alloc (Nat.le_refl _) (.cells (rowF .i64 4 f) 28)).alloc (by simp) (.cells (rowF .i64 4 g) 28)).alloc (by simp; omega) (.cells #[.int .i64 0, .int .i64 0, .int .i64 0, .int .i64 0] 28))
  go_enter Try.func27, Try.ntmps27
  go_upto_region 1 with fail
  generalize (((w.alloc (.cells (rowF .i64 4 f) 28)).alloc (.cells (rowF .i64 4 g) 28)).alloc (.cells #[.int .i64 0, .int .i64 0, .int .i64 0, .int .i64 0] 28)) = W1 at *
  go_wp2_with (refine wpList_whole rfl 28 _ rfl w.heap.size rfl H3.out _ Try.underlying28 rfl (i4.out _) ?_)
  go_loop [20] (fun i => ∃ k : Nat, k ≤ 4 ∧ i = .int .i64 k ∧ okT f k) (fun i => 4 - (intOf i).toNat)
  case atStart => exact ⟨0, by omega, rfl, fun j hj => by omega⟩
  case round =>
    obtain ⟨k, hk, rfl, hok⟩ := hrel
    have HK := Lib.hid hok
    clear hok
    by_cases hlt : k < 4
    · have hx := Hif.out k hlt
      by_cases hi : inT (f k) = true
      · have HS := Lib.hid (okT_step HK.out hi)
        have hb1 := (inT_bd hi).1
        have hb2 := (inT_bd hi).2
        clear hi
        generalize f k = x at *
        have hi' : (decide (-1099511627776 ≤ x) && decide (x ≤ 1099511627776)) = true := by simp; omega
        go_wp2_with (go_at_call 74; refine (part_any _ _ _ (by omega) (by omega)).mono ?_; rintro e w' ⟨rfl, rfl⟩)
        exact ⟨⟨k + 1, by omega, by go_num, HS.out⟩, by simp [intOf]; omega⟩
      · have HN := Lib.hid (show okR f g = false by unfold okR; rw [allT_not (f := f) hlt (by simpa using hi)]; rfl)
        have hi' : (decide (-1099511627776 ≤ f k) && decide (f k ≤ 1099511627776)) = false := by simpa [inT] using hi
        clear hi
        go_wp2_with (first | (go_at_call 74; refine (part_any _ _ _ (by omega) (by omega)).mono ?_; rintro e w' ⟨rfl, rfl⟩) | (refine wpList_store_row rfl 28 _ _ rfl (w.heap.size + 1 + 1) (rowF .i64 4 (fun _ => 0)) rfl rfl 28 _ H6.out (i4.out _) rfl (row4_one _) ?_))
        refine ret_row2 (x := .int .i64 3) rfl rfl rfl (H6.out.setRow (rowF .i64 4 (fun _ => 0))) ⟨by rw [Try.underlying28], i4.out _⟩ rfl ?_
        exact ⟨by rw [rz_no bad HN.out, re_no HN.out], below_setRow HB.out (by omega) _⟩
    · obtain rfl : k = 4 := by omega
      rw [show ((4 : Nat) : Int) = 4 from rfl]
      have HOf := HK
      clear hlt HK
      go_wp2_with (refine wpList_whole rfl 28 _ rfl (w.heap.size + 1) rfl H5.out _ Try.underlying28 rfl (i4.out _) ?_)
      go_loop [29] (fun i => ∃ k : Nat, k ≤ 4 ∧ i = .int .i64 k ∧ okT g k) (fun i => 4 - (intOf i).toNat)
      case atStart => exact ⟨0, by omega, rfl, fun j hj => by omega⟩
      case round =>
        obtain ⟨k, hk, rfl, hok⟩ := hrel
        have HK := Lib.hid hok
        clear hok
        by_cases hlt : k < 4
        · have hx := Hig.out k hlt
          by_cases hi : inT (g k) = true
          · have HS := Lib.hid (okT_step HK.out hi)
            have hb1 := (inT_bd hi).1
            have hb2 := (inT_bd hi).2
            clear hi
            generalize g k = x at *
            have hi' : (decide (-1099511627776 ≤ x) && decide (x ≤ 1099511627776)) = true := by simp; omega
            go_wp2_with (go_at_call 74; refine (part_any _ _ _ (by omega) (by omega)).mono ?_; rintro e w' ⟨rfl, rfl⟩)
            exact ⟨⟨k + 1, by omega, by go_num, HS.out⟩, by simp [intOf]; omega⟩
          · have HN := Lib.hid (show okR f g = false by unfold okR; rw [allT_not (f := g) hlt (by simpa using hi)]; simp)
            have hi' : (decide (-1099511627776 ≤ g k) && decide (g k ≤ 1099511627776)) = false := by simpa [inT] using hi
            clear hi
            go_wp2_with (first | (go_at_call 74; refine (part_any _ _ _ (by omega) (by omega)).mono ?_; rintro e w' ⟨rfl, rfl⟩) | (refine wpList_store_row rfl 28 _ _ rfl (w.heap.size + 1 + 1) (rowF .i64 4 (fun _ => 0)) rfl rfl 28 _ H6.out (i4.out _) rfl (row4_one _) ?_))
            refine ret_row2 (x := .int .i64 3) rfl rfl rfl (H6.out.setRow (rowF .i64 4 (fun _ => 0))) ⟨by rw [Try.underlying28], i4.out _⟩ rfl ?_
            exact ⟨by rw [rz_no bad HN.out, re_no HN.out], below_setRow HB.out (by omega) _⟩
        · obtain rfl : k = 4 := by omega
          rw [show ((4 : Nat) : Int) = 4 from rfl]
          have HOg := HK
          clear hlt HK
          have HN := Lib.hid (show okR f g = true by unfold okR; rw [allT_of HOf.out, allT_of HOg.out]; rfl)
          go_upto_region 14 with (first | (refine wpList_whole rfl 28 _ rfl w.heap.size rfl H3.out _ Try.underlying28 rfl (i4.out _) ?_) | (refine wpList_store_row rfl 28 _ _ rfl W1.heap.size (rowF .i64 4 f) rfl rfl 28 _ (Blk.fresh _ _ _) (i4.out _) rfl (row4_one _) ?_))
          have HBB := Lib.hid (show w.heap.size + 1 + 1 < W1.heap.size from H6.out.lt)
          have H12 : Hid (Blk ((W1.alloc (.cells #[.int .i64 0, .int .i64 0, .int .i64 0, .int .i64 0] 28)).setRow W1.heap.size (rowF .i64 4 f)) W1.heap.size 28 (rowF .i64 4 (ou f g bad 0))) := Lib.hid (by
            rw [rowF_congr (f := ou f g bad 0) (g := f) (fun j hj => if_neg (by omega))]
            exact (Blk.fresh W1 28 #[.int .i64 0, .int .i64 0, .int .i64 0, .int .i64 0]).setRow _)
          have H3 := Lib.hid ((H3.out.alloc (.cells #[.int .i64 0, .int .i64 0, .int .i64 0, .int .i64 0] 28)).setRow_other (g' := W1.heap.size) (by have := H3.out.lt; omega) (rowF .i64 4 f))
          have H5 := Lib.hid ((H5.out.alloc (.cells #[.int .i64 0, .int .i64 0, .int .i64 0, .int .i64 0] 28)).setRow_other (g' := W1.heap.size) (by have := H5.out.lt; omega) (rowF .i64 4 f))
          have H6 := Lib.hid ((H6.out.alloc (.cells #[.int .i64 0, .int .i64 0, .int .i64 0, .int .i64 0] 28)).setRow_other (g' := W1.heap.size) (by have := H6.out.lt; omega) (rowF .i64 4 f))
          have HB := Lib.hid (below_setRow (HB.out.alloc HB.out.size (.cells #[.int .i64 0, .int .i64 0, .int .i64 0, .int .i64 0] 28)) HB.out.size (rowF .i64 4 f))
          generalize ((W1.alloc (.cells #[.int .i64 0, .int .i64 0, .int .i64 0, .int .i64 0] 28)).setRow W1.heap.size (rowF .i64 4 f)) = W2 at *
          obtain ⟨b12, hb12⟩ : ∃ b, W1.heap.size = b := ⟨_, rfl⟩
          rw [hb12] at H12 HBB ⊢
          clear hb12
          go_wp2_with fail
          go_loopw [38] (fun iv wr => ∃ i : Nat, i ≤ 4 ∧ iv = .int .i64 i ∧ Blk wr b12 28 (rowF .i64 4 (ou f g bad i)) ∧ Below b12 W2 wr) (fun iv _ => 4 - (intOf iv).toNat)
          case atStart => exact ⟨0, by omega, rfl, H12.out, Below.refl _ _⟩
          case round =>
            obtain ⟨i, hi, rfl, hJ, hX⟩ := hrel
            have HJ := Lib.hid hJ
            have HX := Lib.hid hX
            clear hJ hX H12
            by_cases hlt : i < 4
            · have hi0 : (0 : Int) ≤ (i : Int) := by omega
              have hi4 : (i : Int) < 4 := by omega
              by_cases hib : (i : Int) = bad
              · have HE := Lib.hid (ou_bad f g hib)
                have hib' : ((i : Int) == bad) = true := beq_iff_eq.2 hib
                clear hib
                go_wp2_with fail
                exact ⟨⟨i + 1, by omega, by go_num, by rw [HE.out]; exact HJ.out, HX.out⟩, by simp [intOf]; omega⟩
              · have HE := Lib.hid (rout_good f g hib)
                have hib' : ((i : Int) == bad) = false := beq_eq_false_iff_ne.2 hib
                have HL3 := Lib.hid (H3.out.below HX.out (by have := HBB.out; omega))
                have hfi := (inT_bd (HOf.out i hlt)).1
                have hfi2 := (inT_bd (HOf.out i hlt)).2
                have hgi := (inT_bd (HOg.out i hlt)).1
                have hgi2 := (inT_bd (HOg.out i hlt)).2
                have HIL := Lib.hid hlt
                clear hib hlt
                go_wp2_with (refine wpList_whole rfl 28 _ rfl w.heap.size rfl HL3.out _ Try.underlying28 rfl (i4.out _) ?_)
                generalize wr = wq at *
                go_loopw [14, 45] (fun lv kv wr => ∃ (k : Nat) (A : Option Addr) (c : Nat), k ≤ 4 ∧ kv = .int .i64 k ∧ lv = .slice A k c ∧ wr.ownsRow (b12 + 1) 3 1 (.slice A k c) k (intsV (rd f g bad i k)) ∧ Blk wr b12 28 (rowF .i64 4 (ou f g bad i)) ∧ Below b12 W2 wr) (fun _ kv _ => 4 - (intOf kv).toNat)
                case atStart => exact ⟨0, none, 0, by omega, rfl, rfl, World.ownsRow_nil _ _ _ _, HJ.out, HX.out⟩
                case round =>
                  obtain ⟨k, A, c, hk, rfl, rfl, hV, hJ, hX⟩ := hrel
                  have HV := Lib.hid hV
                  have HJ := Lib.hid hJ
                  have HX := Lib.hid hX
                  clear hV hJ hX
                  have hlt : i < 4 := HIL.out
                  have c3 := (H3.out.below HX.out (by have := HBB.out; omega)).cell i
                  have c5 := (H5.out.below HX.out (by have := HBB.out; omega)).cell i
                  rw [rowF_at _ _ _ _ hlt] at c3 c5
                  clear hlt
                  by_cases hlk : k < 4
                  · have hx := Hif.out k hlk
                    have hb1 := (inT_bd (HOf.out k hlk)).1
                    have hb2 := (inT_bd (HOf.out k hlk)).2
                    have HRS := Lib.hid (rd_succ f g bad i k)
                    have HRO := Lib.hid (show ro f g bad i k = if (k : Int) = bad then g i else f k from rfl)
                    have hbz : b12 + 1 ≤ wr.heap.size := HJ.out.lt
                    by_cases hkb : (k : Int) = bad
                    · have hkb' : ((k : Int) == bad) = true := beq_iff_eq.2 hkb
                      rw [HRO.out, if_pos hkb] at HRS
                      clear hkb HRO
                      generalize f k = y at *
                      generalize g i = v at *
                      have H2 := Lib.hid (HJ.out.alloc (.cells #[.int .i64 (v - f i)] 3))
                      have HV2 := Lib.hid (Nd.ownsRow_below HV.out ((Below.refl wr.heap.size wr).alloc (Nat.le_refl _) (.cells #[.int .i64 (v - f i)] 3)))
                      have HX2 := Lib.hid (HX.out.alloc (by omega) (.cells #[.int .i64 (v - f i)] 3))
                      have HS := Lib.hid (Fc.rd_one wr (.int .i64 (v - f i)) 3)
                      go_wp2_with (at_builtin; go_loud (refine wpList_append_rd _ rfl (.tmp 55) (.tmp 61) 39 rfl (base := b12 + 1) Ms.elemInts rfl HV2.out rfl (fun h => by cases h) HS.out (by simp [Value.oneCell']) (by unfold maxLen; omega) (by omega) (by simp; omega) ?_); intro A9 c9 w5 hA9 hown2 hg2; have HO5 := Lib.hid hown2; have HJ5 := Lib.hid (H2.out.grown hg2 (fun e => by have := (HV2.out.lt _ e.symm).1; omega)); have HX5 := Lib.hid (HX2.out.grown hg2 (by have := HX2.out.size; have := hg2.size; simp at *; omega) (fun g e => by have := (HV2.out.lt g e).1; omega)); clear hown2 hg2)
                      exact ⟨⟨k + 1, A9, c9, by omega, by go_num, rfl, by rw [HRS.out, show intsV (rd f g bad i k ++ [v - f i]) = intsV (rd f g bad i k) ++ [.int .i64 (v - f i)] by simp [intsV]]; exact HO5.out, HJ5.out, HX5.out⟩, by simp [intOf]; omega⟩
                    · have hkb' : ((k : Int) == bad) = false := beq_eq_false_iff_ne.2 hkb
                      rw [HRO.out, if_neg hkb] at HRS
                      clear hkb HRO
                      generalize f k = v at *
                      have H2 := Lib.hid (HJ.out.alloc (.cells #[.int .i64 (v - f i)] 3))
                      have HV2 := Lib.hid (Nd.ownsRow_below HV.out ((Below.refl wr.heap.size wr).alloc (Nat.le_refl _) (.cells #[.int .i64 (v - f i)] 3)))
                      have HX2 := Lib.hid (HX.out.alloc (by omega) (.cells #[.int .i64 (v - f i)] 3))
                      have HS := Lib.hid (Fc.rd_one wr (.int .i64 (v - f i)) 3)
                      go_wp2_with (at_builtin; go_loud (refine wpList_append_rd _ rfl (.tmp 55) (.tmp 61) 39 rfl (base := b12 + 1) Ms.elemInts rfl HV2.out rfl (fun h => by cases h) HS.out (by simp [Value.oneCell']) (by unfold maxLen; omega) (by omega) (by simp; omega) ?_); intro A9 c9 w5 hA9 hown2 hg2; have HO5 := Lib.hid hown2; have HJ5 := Lib.hid (H2.out.grown hg2 (fun e => by have := (HV2.out.lt _ e.symm).1; omega)); have HX5 := Lib.hid (HX2.out.grown hg2 (by have := HX2.out.size; have := hg2.size; simp at *; omega) (fun g e => by have := (HV2.out.lt g e).1; omega)); clear hown2 hg2)
                      exact ⟨⟨k + 1, A9, c9, by omega, by go_num, rfl, by rw [HRS.out, show intsV (rd f g bad i k ++ [v - f i]) = intsV (rd f g bad i k) ++ [.int .i64 (v - f i)] by simp [intsV]]; exact HO5.out, HJ5.out, HX5.out⟩, by simp [intOf]; omega⟩
                  · obtain rfl : k = 4 := by omega
                    rw [show ((4 : Nat) : Int) = 4 from rfl]
                    have CM : Hid (Calls Try.prog 25 #[.slice A 4 c] wr fun e w' => e = .returned (.tuple #[.int .i64 (midOf (rl f g bad i) - f i), .int .i64 0]) ∧ Below wr.heap.size wr w') := Lib.hid (by
                      have h := middle_any A c (rd f g bad i 4) wr.heap.size wr (Nat.le_refl _) (by rw [rd_len]; omega) (rd_bd HOf.out HOg.out bad HIL.out) (Rd.of_own (by rw [rd_len]; exact HV.out))
                      rw [midZ_4 (rd_len f g bad i 4), rd_mid, rd_len] at h
                      exact h)
                    have hm := mid_bd (rl_bd HOf.out HOg.out bad HIL.out) (by rw [rl_len]; omega)
                    generalize midOf (rl f g bad i) = M at *
                    obtain ⟨hm1, hm2⟩ := hm
                    obtain ⟨d, hd⟩ : ∃ d, M - f i = d := ⟨_, rfl⟩
                    rw [hd] at CM
                    have hsum : f i + d = M := by omega
                    clear hlk c3 c5 hd
                    go_wp2_with fail
                    refine CM.out.mono ?_
                    rintro e w5 ⟨rfl, hb5⟩
                    have HX := Lib.hid (HX.out.trans (hb5.mono (Nat.le_of_lt HJ.out.lt)))
                    have HJ := Lib.hid (HJ.out.below hb5 HJ.out.lt)
                    have v12 := HJ.out.cell i
                    have f12 := HJ.out.thaw i
                    rw [rowF_at _ _ _ _ HIL.out, ou_at] at v12
                    clear hb5 CM
                    go_wp2_with fail
                    refine ⟨⟨i + 1, by have := HIL.out; omega, by go_num, ?_, HX.out.setCell (p := ⟨b12, i, none⟩) (Nat.le_refl _) _⟩, by have := HIL.out; simp [intOf]; omega⟩
                    rw [ou_next f g bad i HE.out, ← rowF_set2 HIL.out]
                    exact HJ.out.set i _
            · obtain rfl : i = 4 := by omega
              rw [show ((4 : Nat) : Int) = 4 from rfl]
              have H6 := Lib.hid (H6.out.below HX.out HBB.out)
              have HB := Lib.hid (HB.out.trans (HX.out.mono (by have := HBB.out; omega)))
              have HR := Lib.hid (ou_all f g bad)
              clear hlt
              go_wp2_with (first | (refine wpList_whole rfl 28 _ rfl b12 rfl HJ.out _ Try.underlying28 rfl (i4.out _) ?_) | (refine wpList_store_row rfl 28 _ _ rfl (w.heap.size + 1 + 1) (rowF .i64 4 (ou f g bad 4)) rfl rfl 28 _ H6.out (i4.out _) rfl (row4_one _) ?_))
              refine ret_row2 (x := .int .i64 0) rfl rfl rfl (H6.out.setRow (rowF .i64 4 (ou f g bad 4))) ⟨by rw [Try.underlying28], i4.out _⟩ rfl ?_
              exact ⟨by rw [rz_yes bad HN.out, re_yes HN.out, HR.out], below_setRow HB.out (by omega) _⟩

set_option maxRecDepth 100000 in
set_option maxHeartbeats 2000000 in
theorem refround_any (f g : Nat → Int) (bad : Int) (w : World) :
    Calls Try.prog 28 #[.agg (rowF .i64 4 f), .int .i64 bad, .agg (rowF .i64 4 g)] w fun e w' => RoundAs f g bad w w' e := by
  have i4 := Lib.hid (fun h : Nat → Int => show (Try.prog.info? 28).map (·.size) = some (rowF .i64 4 h).size by rw [rowF_size]; kernel_rfl)
  have H3 : Hid (Blk (((w.alloc (.cells (rowF .i64 4 f) 28)).alloc (.cells (rowF .i64 4 g) 28)).alloc (.cells #[.int .i64 0, .int .i64 0, .int .i64 0, .int .i64 0] 28)) w.heap.size 28 (rowF .i64 4 f)) := Lib.hid (((Blk.fresh w 28 (rowF .i64 4 f)).alloc _).alloc _)
  have H5 : Hid (Blk (((w.alloc (.cells (rowF .i64 4 f) 28)).alloc (.cells (rowF .i64 4 g) 28)).alloc (.cells #[.int .i64 0, .int .i64 0, .int .i64 0, .int .i64 0] 28)) (w.heap.size + 1) 28 (rowF .i64 4 g)) := Lib.hid ((Blk.new (by simp)).alloc _)
  have H6 : Hid (Blk (((w.alloc (.cells (rowF .i64 4 f) 28)).alloc (.cells (rowF .i64 4 g) 28)).alloc (.cells #[.int .i64 0, .int .i64 0, .int .i64 0, .int .i64 0] 28)) (w.heap.size + 1 + 1) 28 (rowF .i64 4 (fun _ => 0))) := Lib.hid (Blk.new (by simp))
  have HB := Lib.hid ((((Below.refl w.heap.size w).alloc (Nat.le_refl _) (.cells (rowF .i64 4 f) 28)).alloc (by simp) (.cells (rowF .i64 4 g) 28)).alloc (by simp; omega) (.cells #[.int .i64 0, .int .i64 0, .int .i64 0, .int .i64 0] 28))
  go_enter Try.func28, Try.ntmps28
  go_upto_region 1 with fail
  generalize (((w.alloc (.cells (rowF .i64 4 f) 28)).alloc (.cells (rowF .i64 4 g) 28)).alloc (.cells #[.int .i64 0, .int .i64 0, .int .i64 0, .int .i64 0] 28)) = W1 at *
  go_wp2_with fail
  go_loop [13] (fun i => ∃ k : Nat, k ≤ 4 ∧ i = .int .i64 k ∧ okT f k ∧ okT g k) (fun i => 4 - (intOf i).toNat)
  case atStart => exact ⟨0, by omega, rfl, fun j hj => by omega, fun j hj => by omega⟩
  case round =>
    obtain ⟨k, hk, rfl, hof, hog⟩ := hrel
    have HOf := Lib.hid hof
    have HOg := Lib.hid hog
    clear hof hog
    by_cases hlt : k < 4
    · have c3 := H3.out.cell k
      have c5 := H5.out.cell k
      rw [rowF_at _ _ _ _ hlt] at c3 c5
      have hk0 : (0 : Int) ≤ (k : Int) := by omega
      have hk4 : (k : Int) < 4 := by omega
      have HNF := Lib.hid (fun h : inT (f k) = false => show okR f g = false by unfold okR; rw [allT_not hlt h]; rfl)
      have HNG := Lib.hid (fun h : inT (g k) = false => show okR f g = false by unfold okR; rw [allT_not (f := g) hlt h]; simp)
      have HSF := Lib.hid (fun h : inT (f k) = true => okT_step HOf.out h)
      have HSG := Lib.hid (fun h : inT (g k) = true => okT_step HOg.out h)
      have HL := Lib.hid hlt
      clear hlt HOf HOg
      generalize f k = x at *
      generalize g k = y at *
      by_cases q1 : x < -1099511627776
      · have HN := Lib.hid (HNF.out (by simp [inT]; omega))
        go_wp2_with (refine wpList_store_row rfl 28 _ _ rfl (w.heap.size + 1 + 1) (rowF .i64 4 (fun _ => 0)) rfl rfl 28 _ H6.out (i4.out _) rfl (row4_one _) ?_)
        refine ret_row2 (x := .int .i64 3) rfl rfl rfl (H6.out.setRow (rowF .i64 4 (fun _ => 0))) ⟨by rw [Try.underlying28], i4.out _⟩ rfl ?_
        exact ⟨by rw [rz_no bad HN.out, re_no HN.out], below_setRow HB.out (by omega) _⟩
      have q1' : -1099511627776 ≤ x := by omega
      clear q1
      by_cases q2 : 1099511627776 < x
      · have HN := Lib.hid (HNF.out (by simp [inT]; omega))
        go_wp2_with (refine wpList_store_row rfl 28 _ _ rfl (w.heap.size + 1 + 1) (rowF .i64 4 (fun _ => 0)) rfl rfl 28 _ H6.out (i4.out _) rfl (row4_one _) ?_)
        refine ret_row2 (x := .int .i64 3) rfl rfl rfl (H6.out.setRow (rowF .i64 4 (fun _ => 0))) ⟨by rw [Try.underlying28], i4.out _⟩ rfl ?_
        exact ⟨by rw [rz_no bad HN.out, re_no HN.out], below_setRow HB.out (by omega) _⟩
      have q2' : x ≤ 1099511627776 := by omega
      clear q2
      by_cases q3 : y < -1099511627776
      · have HN := Lib.hid (HNG.out (by simp [inT]; omega))
        go_wp2_with (refine wpList_store_row rfl 28 _ _ rfl (w.heap.size + 1 + 1) (rowF .i64 4 (fun _ => 0)) rfl rfl 28 _ H6.out (i4.out _) rfl (row4_one _) ?_)
        refine ret_row2 (x := .int .i64 3) rfl rfl rfl (H6.out.setRow (rowF .i64 4 (fun _ => 0))) ⟨by rw [Try.underlying28], i4.out _⟩ rfl ?_
        exact ⟨by rw [rz_no bad HN.out, re_no HN.out], below_setRow HB.out (by omega) _⟩
      have q3' : -1099511627776 ≤ y := by omega
      clear q3
      by_cases q4 : 1099511627776 < y
      · have HN := Lib.hid (HNG.out (by simp [inT]; omega))
        go_wp2_with (refine wpList_store_row rfl 28 _ _ rfl (w.heap.size + 1 + 1) (rowF .i64 4 (fun _ => 0)) rfl rfl 28 _ H6.out (i4.out _) rfl (row4_one _) ?_)
        refine ret_row2 (x := .int .i64 3) rfl rfl rfl (H6.out.setRow (rowF .i64 4 (fun _ => 0))) ⟨by rw [Try.underlying28], i4.out _⟩ rfl ?_
        exact ⟨by rw [rz_no bad HN.out, re_no HN.out], below_setRow HB.out (by omega) _⟩
      have q4' : y ≤ 1099511627776 := by omega
      clear q4
      have HF := Lib.hid (HSF.out (by simp [inT]; omega))
      have HG := Lib.hid (HSG.out (by simp [inT]; omega))
      go_wp2_with fail
      exact ⟨⟨k + 1, by have := HL.out; omega, by go_num, HF.out, HG.out⟩, by have := HL.out; simp [intOf]; omega⟩
    · obtain rfl : k = 4 := by omega
      rw [show ((4 : Nat) : Int) = 4 from rfl]
      clear hlt
      have HN := Lib.hid (show okR f g = true by unfold okR; rw [allT_of HOf.out, allT_of HOg.out]; rfl)
      go_upto_region 8 with fail
      have HBB := Lib.hid (show w.heap.size + 1 + 1 < W1.heap.size from H6.out.lt)
      have H9 : Hid (Blk (W1.alloc (.cells #[.int .i64 0, .int .i64 0, .int .i64 0, .int .i64 0] 28)) W1.heap.size 28 (rowF .i64 4 (ov f g bad 0))) := Lib.hid (by
        rw [rowF_congr (f := ov f g bad 0) (g := fun _ => 0) (fun j hj => if_neg (by omega))]
        exact Blk.fresh W1 28 #[.int .i64 0, .int .i64 0, .int .i64 0, .int .i64 0])
      have H3 := Lib.hid (H3.out.alloc (.cells #[.int .i64 0, .int .i64 0, .int .i64 0, .int .i64 0] 28))
      have H5 := Lib.hid (H5.out.alloc (.cells #[.int .i64 0, .int .i64 0, .int .i64 0, .int .i64 0] 28))
      have H6 := Lib.hid (H6.out.alloc (.cells #[.int .i64 0, .int .i64 0, .int .i64 0, .int .i64 0] 28))
      have HB := Lib.hid (HB.out.alloc HB.out.size (.cells #[.int .i64 0, .int .i64 0, .int .i64 0, .int .i64 0] 28))
      generalize (W1.alloc (.cells #[.int .i64 0, .int .i64 0, .int .i64 0, .int .i64 0] 28)) = W2 at *
      obtain ⟨b9, hb9⟩ : ∃ b, W1.heap.size = b := ⟨_, rfl⟩
      rw [hb9] at H9 HBB ⊢
      clear hb9
      go_wp2_with fail
      go_loopw [40] (fun iv wr => ∃ i : Nat, i ≤ 4 ∧ iv = .int .i64 i ∧ Blk wr b9 28 (rowF .i64 4 (ov f g bad i)) ∧ Below b9 W2 wr) (fun iv _ => 4 - (intOf iv).toNat)
      case atStart => exact ⟨0, by omega, rfl, H9.out, Below.refl _ _⟩
      case round =>
        obtain ⟨i, hi, rfl, hJ, hX⟩ := hrel
        have HJ := Lib.hid hJ
        have HX := Lib.hid hX
        clear hJ hX H9
        by_cases hlt : i < 4
        · have hi0 : (0 : Int) ≤ (i : Int) := by omega
          have hi4 : (i : Int) < 4 := by omega
          have HIL := Lib.hid hlt
          clear hlt
          go_wp2_with fail
          generalize wr = wq at *
          go_loopw [11, 43] (fun lv kv wr => ∃ (k : Nat) (A : Option Addr) (c : Nat), k ≤ 4 ∧ kv = .int .i64 k ∧ lv = .slice A k c ∧ wr.ownsRow (b9 + 1) 3 1 (.slice A k c) k (intsV (ra f g bad i k)) ∧ Blk wr b9 28 (rowF .i64 4 (ov f g bad i)) ∧ Below b9 W2 wr) (fun _ kv _ => 4 - (intOf kv).toNat)
          case atStart => exact ⟨0, none, 0, by omega, rfl, rfl, World.ownsRow_nil _ _ _ _, HJ.out, HX.out⟩
          case round =>
            obtain ⟨k, A, c, hk, rfl, rfl, hV, hJ, hX⟩ := hrel
            have HV := Lib.hid hV
            have HJ := Lib.hid hJ
            have HX := Lib.hid hX
            clear hV hJ hX
            by_cases hlk : k < 4
            · have hk0 : (0 : Int) ≤ (k : Int) := by omega
              have hk4 : (k : Int) < 4 := by omega
              have c3 := (H3.out.below HX.out (by have := HBB.out; omega)).cell k
              have c5 := (H5.out.below HX.out (by have := HBB.out; omega)).cell i
              rw [rowF_at _ _ _ _ hlk] at c3
              rw [rowF_at _ _ _ _ HIL.out] at c5
              have HRS := Lib.hid (ra_succ f g bad i k)
              have HRO := Lib.hid (show ro f g bad i k = if (k : Int) = bad then g i else f k from rfl)
              have hbz : b9 + 1 ≤ wr.heap.size := HJ.out.lt
              by_cases hkb : (k : Int) = bad
              · have hkb' : ((k : Int) == bad) = true := beq_iff_eq.2 hkb
                rw [HRO.out, if_pos hkb] at HRS
                clear hkb HRO
                generalize f k = y at *
                generalize g i = v at *
                have H2 := Lib.hid (HJ.out.alloc (.cells #[.int .i64 v] 3))
                have HV2 := Lib.hid (Nd.ownsRow_below HV.out ((Below.refl wr.heap.size wr).alloc (Nat.le_refl _) (.cells #[.int .i64 v] 3)))
                have HX2 := Lib.hid (HX.out.alloc (by omega) (.cells #[.int .i64 v] 3))
                have HS := Lib.hid (Fc.rd_one wr (.int .i64 v) 3)
                go_wp2_with (at_builtin; go_loud (refine wpList_append_rd _ rfl (.tmp 49) (.tmp 53) 39 rfl (base := b9 + 1) Ms.elemInts rfl HV2.out rfl (fun h => by cases h) HS.out (by simp [Value.oneCell']) (by unfold maxLen; omega) (by omega) (by simp; omega) ?_); intro A9 c9 w5 hA9 hown2 hg2; have HO5 := Lib.hid hown2; have HJ5 := Lib.hid (H2.out.grown hg2 (fun e => by have := (HV2.out.lt _ e.symm).1; omega)); have HX5 := Lib.hid (HX2.out.grown hg2 (by have := HX2.out.size; have := hg2.size; simp at *; omega) (fun g e => by have := (HV2.out.lt g e).1; omega)); clear hown2 hg2)
                exact ⟨⟨k + 1, A9, c9, by omega, by go_num, rfl, by rw [HRS.out, show intsV (ra f g bad i k ++ [v]) = intsV (ra f g bad i k) ++ [.int .i64 v] by simp [intsV]]; exact HO5.out, HJ5.out, HX5.out⟩, by simp [intOf]; omega⟩
              · have hkb' : ((k : Int) == bad) = false := beq_eq_false_iff_ne.2 hkb
                rw [HRO.out, if_neg hkb] at HRS
                clear hkb HRO
                generalize f k = v at *
                have H2 := Lib.hid (HJ.out.alloc (.cells #[.int .i64 v] 3))
                have HV2 := Lib.hid (Nd.ownsRow_below HV.out ((Below.refl wr.heap.size wr).alloc (Nat.le_refl _) (.cells #[.int .i64 v] 3)))
                have HX2 := Lib.hid (HX.out.alloc (by omega) (.cells #[.int .i64 v] 3))
                have HS := Lib.hid (Fc.rd_one wr (.int .i64 v) 3)
                go_wp2_with (at_builtin; go_loud (refine wpList_append_rd _ rfl (.tmp 55) (.tmp 59) 39 rfl (base := b9 + 1) Ms.elemInts rfl HV2.out rfl (fun h => by cases h) HS.out (by simp [Value.oneCell']) (by unfold maxLen; omega) (by omega) (by simp; omega) ?_); intro A9 c9 w5 hA9 hown2 hg2; have HO5 := Lib.hid hown2; have HJ5 := Lib.hid (H2.out.grown hg2 (fun e => by have := (HV2.out.lt _ e.symm).1; omega)); have HX5 := Lib.hid (HX2.out.grown hg2 (by have := HX2.out.size; have := hg2.size; simp at *; omega) (fun g e => by have := (HV2.out.lt g e).1; omega)); clear hown2 hg2)
                exact ⟨⟨k + 1, A9, c9, by omega, by go_num, rfl, by rw [HRS.out, show intsV (ra f g bad i k ++ [v]) = intsV (ra f g bad i k) ++ [.int .i64 v] by simp [intsV]]; exact HO5.out, HJ5.out, HX5.out⟩, by simp [intOf]; omega⟩
            · obtain rfl : k = 4 := by omega
              rw [show ((4 : Nat) : Int) = 4 from rfl]
              have CM : Hid (Calls Try.prog 26 #[.slice A 4 c] wr fun e w' => e = .returned (.tuple #[.int .i64 (midOf (rl f g bad i)), .int .i64 0]) ∧ Below wr.heap.size wr w') := Lib.hid (by
                have h := refmid_any A c (ra f g bad i 4) wr.heap.size wr (Nat.le_refl _) (by rw [ra_len]; omega) (fun z hz => by have := rl_bd HOf.out HOg.out bad HIL.out z hz; omega) (Rd.of_own (by rw [ra_len]; exact HV.out))
                rw [midZ_4 (ra_len f g bad i 4), ra_len] at h
                exact h)
              have HG := Lib.hid (fun h => rout_good f g (bad := bad) (i := i) h)
              have HW := Lib.hid (fun h : (i : Int) = bad => show rout f g bad i = f i by unfold rout; rw [if_pos h])
              generalize midOf (rl f g bad i) = M at *
              clear hlk
              have HX' := Lib.hid (Nat.le_of_lt HJ.out.lt)
              go_wp2_with fail
              refine CM.out.mono ?_
              rintro e w5 ⟨rfl, hb5⟩
              have HX := Lib.hid (HX.out.trans (hb5.mono HX'.out))
              have HJ := Lib.hid (HJ.out.below hb5 HJ.out.lt)
              have v9 := HJ.out.cell i
              have f9 := HJ.out.thaw i
              rw [rowF_at _ _ _ _ HIL.out] at v9
              clear hb5 CM HX'
              by_cases hib : (i : Int) = bad
              · have hib' : ((i : Int) == bad) = true := beq_iff_eq.2 hib
                have HE := Lib.hid (HW.out hib)
                have c3 := (H3.out.below HX.out (by have := HBB.out; omega)).cell i
                rw [rowF_at _ _ _ _ HIL.out] at c3
                have hne : w.heap.size ≠ b9 := by have := HBB.out; omega
                clear hib HW HG
                go_wp2_with fail
                refine ⟨⟨i + 1, by have := HIL.out; omega, by go_num, ?_, (HX.out.setCell (p := ⟨b9, i, none⟩) (Nat.le_refl _) _).setCell (p := ⟨b9, i, none⟩) (Nat.le_refl _) _⟩, by have := HIL.out; simp [intOf]; omega⟩
                rw [ov_next f g bad i HE.out, ← rowF_set2 HIL.out]
                have h := (HJ.out.set i (.int .i64 M)).set i (.int .i64 (f i))
                rw [Array.setIfInBounds_setIfInBounds] at h
                exact h
              · have hib' : ((i : Int) == bad) = false := beq_eq_false_iff_ne.2 hib
                have HE := Lib.hid (HG.out hib)
                clear hib HW HG
                go_wp2_with fail
                refine ⟨⟨i + 1, by have := HIL.out; omega, by go_num, ?_, HX.out.setCell (p := ⟨b9, i, none⟩) (Nat.le_refl _) _⟩, by have := HIL.out; simp [intOf]; omega⟩
                rw [ov_next f g bad i HE.out, ← rowF_set2 HIL.out]
                exact HJ.out.set i _
        · obtain rfl : i = 4 := by omega
          rw [show ((4 : Nat) : Int) = 4 from rfl]
          have H6 := Lib.hid (H6.out.below HX.out HBB.out)
          have HB := Lib.hid (HB.out.trans (HX.out.mono (by have := HBB.out; omega)))
          have HR := Lib.hid (ov_all f g bad)
          clear hlt
          go_wp2_with (first | (refine wpList_whole rfl 28 _ rfl b9 rfl HJ.out _ Try.underlying28 rfl (i4.out _) ?_) | (refine wpList_store_row rfl 28 _ _ rfl (w.heap.size + 1 + 1) (rowF .i64 4 (ov f g bad 4)) rfl rfl 28 _ H6.out (i4.out _) rfl (row4_one _) ?_))
          refine ret_row2 (x := .int .i64 0) rfl rfl rfl (H6.out.setRow (rowF .i64 4 (ov f g bad 4))) ⟨by rw [Try.underlying28], i4.out _⟩ rfl ?_
          exact ⟨by rw [rz_yes bad HN.out, re_yes HN.out, HR.out], below_setRow HB.out (by omega) _⟩
end Go.Proofs.Ytjfllpmiajkenaa.Rn
