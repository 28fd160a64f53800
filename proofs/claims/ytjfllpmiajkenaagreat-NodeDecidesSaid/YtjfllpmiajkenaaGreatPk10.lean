import Derived.Test.YtjfllpmiajkenaaGreatPk0
import Derived.Test.YtjfllpmiajkenaaGreatPk9
import Derived.Test.YtjfllpmiajkenaaGreatProg
import Derived.WalkSpells
import Derived.WalkLawsBesides
import Derived.Deep.RegionHeld3
import Derived.StillTailTactics
namespace Go.Proofs.YtjfllpmiajkenaaGreat.BigW
open Go.RowKit Go.Proofs.YtjfllpmiajkenaaGreat.Mem Go.Proofs.YtjfllpmiajkenaaGreat.BigLaw
set_option linter.unusedVariables false
def wordsV (l : List Nat) : List Value := l.map fun (x : Nat) => Value.int .u32 (x : Int)
theorem wordsV_at {l : List Nat} {k : Nat} (hk : k < l.length) : (wordsV l)[k]? = some (.int .u32 (l.getD k 0 : Int)) := by
  simp [wordsV, hk]
theorem wordsV_length (l : List Nat) : (wordsV l).length = l.length := by simp [wordsV]
theorem wordsV_one (l : List Nat) : ∀ u ∈ wordsV l, u.oneCell' = true := fun u hu => by
  obtain ⟨z, _, rfl⟩ := List.mem_map.1 hu
  rfl
structure Wd (w : World) (B : Nat) (A : Option Addr) (c : Nat) (l : List Nat) : Prop where
  len : l.length ≤ c
  cap : c ≤ 9223372036854775807
  none_ : A = none → c = 0
  rd : Rd w B 1 A l.length (wordsV l)
  small : small l
theorem Wd.below {w w' : World} {B : Nat} {A : Option Addr} {c : Nat} {l : List Nat} (h : Wd w B A c l) (hb : Below B w w') : Wd w' B A c l := ⟨h.len, h.cap, h.none_, h.rd.below hb, h.small⟩
theorem Wd.more {w : World} {B B' : Nat} {A : Option Addr} {c : Nat} {l : List Nat} (h : Wd w B A c l) (hb : B ≤ B') : Wd w B' A c l := ⟨h.len, h.cap, h.none_, h.rd.more hb, h.small⟩
theorem Wd.keep {w w' : World} {B : Nat} {A : Option Addr} {c : Nat} {l : List Nat} (h : Wd w B A c l) (hk : ∀ b o, b < B → w'.cell? ⟨b, o, none⟩ = w.cell? ⟨b, o, none⟩) : Wd w' B A c l := ⟨h.len, h.cap, h.none_, h.rd.keep hk, h.small⟩
theorem Wd.nil (w : World) (B : Nat) : Wd w B none 0 [] := ⟨Nat.le_refl _, by omega, fun _ => rfl, Rd.nil _ _ _ _, fun _ h => by cases h⟩
theorem Wd.at_ {w : World} {B : Nat} {A : Option Addr} {c : Nat} {l : List Nat} (h : Wd w B A c l) {k : Nat} (hk : k < l.length) : ∃ b o, A = some ⟨b, o, none⟩ ∧ b < B ∧ w.cell? ⟨b, o + k, none⟩ = some (.int .u32 (l.getD k 0 : Int)) := by
  obtain ⟨b, o, u, e, hb, hu, hc⟩ := h.rd.at hk
  rw [wordsV_at hk] at hu
  injection hu with hu
  subst hu
  exact ⟨b, o, e, hb, hc⟩
theorem Wd.take {w : World} {B : Nat} {A : Option Addr} {c : Nat} {l : List Nat} (h : Wd w B A c l) {n : Nat} (hn : n ≤ l.length) : Wd w B A c (l.take n) := by
  have hl : (l.take n).length = n := by rw [List.length_take]; omega
  refine ⟨by have := h.len; omega, h.cap, h.none_, ?_, small_take h.small n⟩
  rw [hl]
  refine ⟨by rw [wordsV_length, hl, Nat.mul_one], fun hp => ?_⟩
  obtain ⟨b, o, e, hb, hc⟩ := h.rd.2 (by omega)
  refine ⟨b, o, e, hb, fun j u hu => hc j u ?_⟩
  have hj : j < n := by have := (List.getElem?_eq_some_iff.1 hu).1; rw [wordsV_length, hl] at this; exact this
  have : (wordsV (l.take n))[j]? = (wordsV l)[j]? := by
    simp [wordsV, hj]
  rw [← this]; exact hu
def Trimmed (A : Option Addr) (c : Nat) (l : List Nat) (e : Ending) : Prop := ∃ n, n ≤ l.length ∧ e = .returned (.slice A n c) ∧ trimd (l.take n) ∧ val (l.take n) = val l
theorem trim_any (A : Option Addr) (c : Nat) (l : List Nat) (B : Nat) (w : World) (h : Wd w B A c l) :
    Calls Tryz.prog 152 #[.slice A l.length c] w fun e w' => Trimmed A c l e ∧ w = w' := by
  have hlen := h.len
  have hcap := h.cap
  have H := Lib.hid h
  clear h
  go_enter Tryz.func152, Tryz.ntmps152
  go_wp2_with fail
  go_loop [3] (fun i => ∃ n : Nat, n ≤ l.length ∧ i = .int .i64 n ∧ val (l.take n) = val l) (fun i => (intOf i).toNat)
  case atStart => exact ⟨l.length, Nat.le_refl _, rfl, by rw [List.take_of_length_le (Nat.le_refl _)]⟩
  case round =>
    obtain ⟨n, hn, rfl, hv⟩ := hrel
    have HV := Lib.hid hv
    clear hv
    by_cases hpos : 0 < n
    · obtain ⟨k, rfl⟩ : ∃ k, n = k + 1 := ⟨n - 1, by omega⟩
      obtain ⟨b, o, rfl, hb, hc⟩ := H.out.at_ (show k < l.length by omega)
      have HK := Lib.hid (show val (l.take (k + 1)) = val (l.take k) + l.getD k 0 * pw k by rw [val_take (by omega), val_take (by omega), valF_succ])
      have HT := Lib.hid (show ∀ (hz : l.getD k 0 ≠ 0), trimd (l.take (k + 1)) from fun hz _ => by
        rw [List.length_take, Nat.min_eq_left (by omega), Nat.add_sub_cancel]
        rw [List.getD_eq_getElem?_getD, List.getElem?_take, if_pos (by omega), ← List.getD_eq_getElem?_getD]
        exact hz)
      generalize l.getD k 0 = x at hc HK HT
      have e1 : ((k + 1 : Nat) : Int) - 1 = (k : Int) := by omega
      by_cases hz : x = 0
      · have hz' : ((x : Int) == 0) = true := by simp [hz]
        have HZ := Lib.hid hz
        clear hz
        go_wp2_with fail
        exact ⟨⟨k, by omega, rfl, by rw [← HV.out, HK.out, HZ.out]; simp⟩, by simp [intOf]⟩
      · have hz' : ((x : Int) == 0) = false := by simp [hz]
        have HZ := Lib.hid hz
        clear hz
        go_wp2_with fail
        go_ret
        exact ⟨⟨k + 1, by omega, rfl, HT.out HZ.out, HV.out⟩, rfl⟩
    · obtain rfl : n = 0 := by omega
      go_wp2_with fail
      go_ret
      exact ⟨⟨0, by omega, rfl, fun h => by simp at h, HV.out⟩, rfl⟩
def GaveW (w w' : World) (n : Nat) (e : Ending) : Prop := ∃ A c l, e = .returned (.slice A l.length c) ∧ Wd w' w'.heap.size A c l ∧ trimd l ∧ val l = n ∧ Below w.heap.size w w'
theorem gave_of_trim {w w1 : World} {A : Option Addr} {c : Nat} {l : List Nat} {B n : Nat} (h : Wd w1 B A c l) (hB : B ≤ w1.heap.size) (hb : Below w.heap.size w w1) (hv : val l = n) {e : Ending} (ht : Trimmed A c l e) : GaveW w w1 n e := by
  obtain ⟨k, hk, rfl, h1, h2⟩ := ht
  refine ⟨A, c, l.take k, ?_, (h.take hk).more hB, h1, h2.trans hv, hb⟩
  rw [List.length_take, Nat.min_eq_left hk]
theorem wd_of_blk {w : World} {g : Nat} {t : TypeId} {f : Nat → Nat} {n : Nat} (h : Blk w g t (rowF .u32 n fun i => (f i : Int))) (hn : n ≤ 9223372036854775807) (hs : ∀ i, i < n → f i < 4294967296) : Wd w (g + 1) (some ⟨g, 0, none⟩) n ((List.range n).map f) := by
  refine ⟨by simp, hn, by simp, ⟨by simp [wordsV], fun _ => ⟨g, 0, rfl, by omega, fun j u hu => ?_⟩⟩, ?_⟩
  · have hj : j < n := by have := (List.getElem?_eq_some_iff.1 hu).1; simpa [wordsV] using this
    rw [Nat.zero_add, h.cell j, rowF_at _ _ _ _ hj]
    simpa [wordsV, hj] using hu
  · intro x hx
    obtain ⟨i, hi, rfl⟩ := List.mem_map.1 hx
    exact hs i (List.mem_range.1 hi)
theorem val_map (f : Nat → Nat) (n : Nat) : val ((List.range n).map f) = valF f n := by
  unfold val
  rw [List.length_map, List.length_range]
  refine valF_congr fun i hi => ?_
  simp [List.getD_eq_getElem?_getD, hi]
theorem words_any (x : Nat) (hx : x < 18446744073709551616) (w : World) :
    Calls Tryz.prog 151 #[.int .u64 (x : Int)] w fun e w' => GaveW w w' x e := by
  have hb : Blk (w.alloc (.cells #[.int .u32 ((x : Int) % 4294967296), .int .u32 ((x : Int) / 4294967296)] 173)) w.heap.size 173 (rowF .u32 2 fun i => (([x % 4294967296, x / 4294967296].getD i 0 : Nat) : Int)) := by
    have e : rowF .u32 2 (fun i => (([x % 4294967296, x / 4294967296].getD i 0 : Nat) : Int)) = #[.int .u32 ((x : Int) % 4294967296), .int .u32 ((x : Int) / 4294967296)] := rfl
    rw [e]; exact Blk.new rfl
  have hW := wd_of_blk hb (by omega) (fun i hi => by
    obtain rfl | rfl : i = 0 ∨ i = 1 := by omega
    · exact Nat.mod_lt _ (by omega)
    · exact Nat.div_lt_of_lt_mul (by omega))
  have hv : val ((List.range 2).map fun i => [x % 4294967296, x / 4294967296].getD i 0) = x := by
    rw [val_map]
    show 0 + x % 4294967296 * 1 + x / 4294967296 * (4294967296 ^ 1) = x
    omega
  have HW := Lib.hid hW
  have HV := Lib.hid hv
  clear hb hW hv
  go_enter Tryz.func151, Tryz.ntmps151
  go_wp2_with fail
  refine (trim_any _ 2 ((List.range 2).map fun i => [x % 4294967296, x / 4294967296].getD i 0) _ _ HW.out).mono ?_
  rintro e w' ⟨ht, rfl⟩
  have hg := gave_of_trim (w := w) HW.out (by simp) ((Below.refl _ _).alloc (Nat.le_refl _) _) HV.out ht
  obtain ⟨A, c, l, rfl, h2⟩ := hg
  have H2 := Lib.hid h2
  clear h2 ht
  go_wp2_with fail
  go_ret
  exact ⟨A, c, l, rfl, H2.out⟩
theorem cmp_any (A A' : Option Addr) (c c' : Nat) (l l' : List Nat) (B : Nat) (w : World) (hB : B ≤ w.heap.size) (h : Wd w B A c l) (h' : Wd w B A' c' l') (t : trimd l) (t' : trimd l') :
    Calls Tryz.prog 130 #[.slice A l.length c, .slice A' l'.length c'] w fun e w' => e = .returned (.int .i64 (sgn (val l) (val l'))) ∧ Below w.heap.size w w' := by
  have hlen := h.len
  have hcap := h.cap
  have hlen' := h'.len
  have hcap' := h'.cap
  have H := Lib.hid h
  have H' := Lib.hid h'
  have T := Lib.hid t
  have T' := Lib.hid t'
  clear h h' t t'
  by_cases h1 : l.length = l'.length
  · have HE := Lib.hid h1
    have hne : ((l.length : Int) != (l'.length : Int)) = false := by simp [h1]
    clear h1
    go_enter Tryz.func130, Tryz.ntmps130
    go_wp2_with fail
    go_loopw [5] (fun i wr => ∃ k : Nat, k ≤ l.length ∧ i = .int .i64 ((k : Int) - 1) ∧ (∀ j, k ≤ j → j < l.length → l.getD j 0 = l'.getD j 0) ∧ Below w.heap.size w wr) (fun i _ => (intOf i + 1).toNat)
    case atStart => exact ⟨l.length, Nat.le_refl _, rfl, fun j h1 h2 => by omega, Below.refl _ _⟩
    case round =>
      obtain ⟨k, hk, rfl, hj, hb⟩ := hrel
      have HJ := Lib.hid hj
      clear hj
      by_cases hpos : 0 < k
      · obtain ⟨q, rfl⟩ : ∃ q, k = q + 1 := ⟨k - 1, by omega⟩
        rw [show ((q + 1 : Nat) : Int) - 1 = (q : Int) by omega]
        obtain ⟨b, o, rfl, hbB, hc⟩ := (H.out.keep (w' := wr) (fun b o hb' => below_cell hb b o (by omega))).at_ (show q < l.length by omega)
        obtain ⟨b', o', rfl, hbB', hc'⟩ := (H'.out.keep (w' := wr) (fun b o hb' => below_cell hb b o (by omega))).at_ (show q < l'.length by have := HE.out; omega)
        have hq1 : (q : Int) < (l.length : Int) := by omega
        have hq2 : (q : Int) < (l'.length : Int) := by have := HE.out; omega
        have HX := Lib.hid (show l.getD q 0 < l'.getD q 0 → val l < val l' from fun hx => by
          have := cmp_top (f := fun i => l.getD i 0) (g := fun i => l'.getD i 0) (n := l.length) (i := q) (by omega) (fun j _ => getD_lt H.out.small j) hx (fun j h1 h2 => HJ.out j (by omega) h2)
          unfold val; rw [← HE.out]; exact this)
        have HY := Lib.hid (show l'.getD q 0 < l.getD q 0 → val l' < val l from fun hx => by
          have := cmp_top (f := fun i => l'.getD i 0) (g := fun i => l.getD i 0) (n := l.length) (i := q) (by omega) (fun j _ => getD_lt H'.out.small j) hx (fun j h1 h2 => (HJ.out j (by omega) h2).symm)
          unfold val; rw [← HE.out]; exact this)
        have HZ := Lib.hid (show l.getD q 0 = l'.getD q 0 → ∀ j, q ≤ j → j < l.length → l.getD j 0 = l'.getD j 0 from fun hx j h1 h2 => by
          by_cases e : j = q
          · subst e; exact hx
          · exact HJ.out j (by omega) h2)
        generalize l.getD q 0 = x at hc HX HY HZ
        generalize l'.getD q 0 = y at hc' HX HY HZ
        by_cases hxy : x = y
        · have hn : ((x : Int) != (y : Int)) = false := by simp [hxy]
          have HXY := Lib.hid hxy
          clear hxy
          go_wp2_with fail
          go_quiet (fail)
          go_wp2_with fail
          exact ⟨⟨q, by omega, rfl, HZ.out HXY.out, below_drewN hb nq⟩, by simp [intOf]⟩
        · have hn : ((x : Int) != (y : Int)) = true := by simp; omega
          by_cases hlt : x < y
          · have HF := Lib.hid (show sgn (val l) (val l') = -1 by unfold sgn; rw [if_pos (HX.out hlt)])
            clear hxy
            have hlt' : (x : Int) < (y : Int) := by omega
            go_wp2_with fail
            go_quiet (fail)
            go_wp2_with fail
            go_quiet (fail)
            go_wp2_with fail
            go_ret
            exact ⟨by rw [HF.out]; rfl, below_drewN (below_drewN hb _) _⟩
          · have HF := Lib.hid (show sgn (val l) (val l') = 1 by unfold sgn; have := HY.out (by omega); rw [if_neg (by omega), if_pos this])
            clear hxy
            have hlt' : decide ((x : Int) < (y : Int)) = false := by simp; omega
            go_wp2_with fail
            go_quiet (fail)
            go_wp2_with fail
            go_quiet (fail)
            go_wp2_with fail
            go_ret
            exact ⟨by rw [HF.out]; rfl, below_drewN (below_drewN hb _) _⟩
      · have HF := Lib.hid (show sgn (val l) (val l') = 0 by
          have : val l = val l' := by
            unfold val; rw [← HE.out]; exact valF_congr fun i hi => HJ.out i (by omega) hi
          unfold sgn; rw [this]; simp)
        obtain rfl : k = 0 := by omega
        go_wp2_with fail
        go_ret
        exact ⟨by rw [HF.out]; rfl, hb⟩
  · have hne : ((l.length : Int) != (l'.length : Int)) = true := by simp; omega
    by_cases h2 : l.length < l'.length
    · have HF := Lib.hid (show sgn (val l) (val l') = -1 by unfold sgn; rw [if_pos (cmp_len H.out.small T'.out h2)])
      clear h1
      go_enter Tryz.func130, Tryz.ntmps130
      go_wp2_with fail
      go_ret
      exact ⟨by rw [HF.out]; rfl, Below.refl _ _⟩
    · have HF := Lib.hid (show sgn (val l) (val l') = 1 by
        have := cmp_len H'.out.small T.out (show l'.length < l.length by omega)
        unfold sgn; rw [if_neg (by omega), if_pos this])
      clear h1
      go_enter Tryz.func130, Tryz.ntmps130
      go_wp2_with fail
      go_ret
      exact ⟨by rw [HF.out]; rfl, Below.refl _ _⟩
end Go.Proofs.YtjfllpmiajkenaaGreat.BigW
namespace Go.Proofs.YtjfllpmiajkenaaGreat.BigW
open Go.RowKit Go.Proofs.YtjfllpmiajkenaaGreat.Mem Go.Proofs.YtjfllpmiajkenaaGreat.BigLaw
set_option linter.unusedVariables false
theorem elemU32 : Elem Tryz.prog 145 173 (.int .u32 0) 1 4 := ⟨Tryz.underlying145, by kernel_rfl, rfl, by omega⟩
theorem getD_out {l : List Nat} {i : Nat} (h : l.length ≤ i) : l.getD i 0 = 0 := by
  rw [List.getD_eq_getElem?_getD, List.getElem?_eq_none h]; rfl
theorem valF_val {l : List Nat} {n : Nat} (h : l.length ≤ n) : valF (fun i => l.getD i 0) n = val l := valF_zeros h fun i h1 _ => getD_out h1
theorem add_val {l l' : List Nat} (hs : small l) (hs' : small l') (h : l'.length ≤ l.length) :
    (dAdd (fun i => l.getD i 0) (fun i => l'.getD i 0) l.length = cAdd (fun i => l.getD i 0) (fun i => l'.getD i 0) l.length) ∧
    valF (dAdd (fun i => l.getD i 0) (fun i => l'.getD i 0)) (l.length + 1) = val l + val l' := by
  have hc := cAdd_le (f := fun i => l.getD i 0) (g := fun i => l'.getD i 0) (fun i => getD_lt hs i) (fun i => getD_lt hs' i) l.length
  have hd : dAdd (fun i => l.getD i 0) (fun i => l'.getD i 0) l.length = cAdd (fun i => l.getD i 0) (fun i => l'.getD i 0) l.length := by
    unfold dAdd
    simp only [getD_out (Nat.le_refl l.length), getD_out h]
    omega
  refine ⟨hd, ?_⟩
  have h1 := add_law (fun i => l.getD i 0) (fun i => l'.getD i 0) l.length
  rw [valF_val (Nat.le_refl _), valF_val h] at h1
  rw [valF_succ, hd]
  omega
theorem add_any (A A' : Option Addr) (c c' : Nat) (l l' : List Nat) (B : Nat) (w : World) (hB : B ≤ w.heap.size) (h : Wd w B A c l) (h' : Wd w B A' c' l') (hsz : l.length ≤ 1000000) (hsz' : l'.length ≤ 1000000) :
    Calls Tryz.prog 129 #[.slice A l.length c, .slice A' l'.length c'] w fun e w' => GaveW w w' (val l + val l') e := by
  by_cases hsw : l.length < l'.length
  · rw [Nat.add_comm]
    revert hsw h h' hsz hsz'
    revert A A' c c' l l'
    intro A' A c' c l' l h' h hsz' hsz hsw
    have hsw' : (l'.length : Int) < (l.length : Int) := by omega
    have H := Lib.hid h
    have H' := Lib.hid h'
    clear h h'
    go_enter Tryz.func129, Tryz.ntmps129
    go_wp2_with (refine wpList_make_row rfl _ _ _ rfl elemU32 (l.length + 1) rfl rfl (by go_num) (by go_num) (by omega) (by omega) ?_)
    go_loopw [6, 7] (fun c i wr => ∃ k : Nat, k ≤ l.length ∧ i = .int .i64 k ∧ c = .int .u64 (cAdd (fun i => l.getD i 0) (fun i => l'.getD i 0) k : Nat) ∧ Blk wr w.heap.size 173 (rowF .u32 (l.length + 1) fun j => if j < k then (dAdd (fun i => l.getD i 0) (fun i => l'.getD i 0) j : Int) else 0) ∧ Below w.heap.size w wr) (fun _ i _ => l.length - (intOf i).toNat)
    case atStart => exact ⟨0, by omega, rfl, rfl, Blk.none (Blk.new rfl), (Below.refl _ _).alloc (Nat.le_refl _) _⟩
    case round =>
      obtain ⟨k, hk, rfl, rfl, hblk, hb⟩ := hrel
      have hc1 := cAdd_le (f := fun i => l.getD i 0) (g := fun i => l'.getD i 0) (fun i => getD_lt H.out.small i) (fun i => getD_lt H'.out.small i) k
      have hcell := hblk.upto_cell (show k < l.length + 1 by omega)
      have hthaw := hblk.thaw k
      have HS := Lib.hid (show cAdd (fun i => l.getD i 0) (fun i => l'.getD i 0) (k + 1) = (l.getD k 0 + l'.getD k 0 + cAdd (fun i => l.getD i 0) (fun i => l'.getD i 0) k) / 4294967296 from rfl)
      have HD := Lib.hid (show dAdd (fun i => l.getD i 0) (fun i => l'.getD i 0) k = (l.getD k 0 + l'.getD k 0 + cAdd (fun i => l.getD i 0) (fun i => l'.getD i 0) k) % 4294967296 from rfl)
      by_cases hlt : k < l.length
      · obtain ⟨b, o, rfl, hbB, hcx⟩ := (H.out.keep (w' := wr) (fun b o hb' => below_cell hb b o (by omega))).at_ hlt
        have hx := getD_lt H.out.small k
        have hlt1 : (k : Int) < (l.length : Int) := by omega
        by_cases hlt' : k < l'.length
        · obtain ⟨b', o', rfl, hbB', hcy⟩ := (H'.out.keep (w' := wr) (fun b o hb' => below_cell hb b o (by omega))).at_ hlt'
          have hy := getD_lt H'.out.small k
          generalize l.getD k 0 = x at hcx hx HS HD
          generalize l'.getD k 0 = y at hcy hy HS HD
          generalize hcc : cAdd (fun i => l.getD i 0) (fun i => l'.getD i 0) k = c at hc1 HS HD
          have HC := Lib.hid hcc
          clear hcc
          go_wp2_with fail
          exact ⟨⟨k + 1, by omega, by go_num, by rw [HS.out]; go_num, hblk.upto (by rw [HD.out]; go_num), hb.setCell (Nat.le_refl _) _⟩, by simp [intOf] <;> omega⟩
        · have hy := Lib.hid (getD_out (show l'.length ≤ k by omega))
          have hlt2 : ¬ (k : Int) < (l'.length : Int) := by omega
          generalize l.getD k 0 = x at hcx hx HS HD
          rw [hy.out] at HS HD
          generalize hcc : cAdd (fun i => l.getD i 0) (fun i => l'.getD i 0) k = c at hc1 HS HD
          have HC := Lib.hid hcc
          clear hcc
          go_wp2_with fail
          exact ⟨⟨k + 1, by omega, by go_num, by rw [HS.out]; go_num, hblk.upto (by rw [HD.out]; go_num), hb.setCell (Nat.le_refl _) _⟩, by simp [intOf] <;> omega⟩
      · obtain ⟨e1, e2⟩ := add_val H.out.small H'.out.small (show l'.length ≤ l.length by omega)
        have hkl : k = l.length := by omega
        rw [hkl] at hcell hthaw hblk hc1 ⊢
        have HV := Lib.hid e2
        generalize cAdd (fun i => l.getD i 0) (fun i => l'.getD i 0) l.length = ce at e1 hc1 ⊢
        have HE := Lib.hid e1
        clear HS HD e1 e2 hkl hlt
        go_wp2_with fail
        have hblk2 := Blk.all (hblk.upto (v := (ce : Nat)) (by rw [HE.out]))
        have hb2 := hb.setCell (p := ⟨w.heap.size, l.length, none⟩) (Nat.le_refl _) (.int .u32 (ce : Nat))
        have HW := Lib.hid (wd_of_blk hblk2 (by omega) (fun i _ => Nat.mod_lt _ (by omega)))
        have hT := trim_any _ _ _ _ _ HW.out
        rw [List.length_map, List.length_range] at hT
        refine hT.mono ?_
        rintro e w' ⟨ht, rfl⟩
        obtain ⟨A, c, l1, rfl, h2⟩ := gave_of_trim (n := val l + val l') HW.out (by have := hblk2.lt; omega) hb2 (by rw [val_map]; exact HV.out) ht
        have H2 := Lib.hid h2
        clear h2 ht
        go_wp2_with fail
        go_ret
        exact ⟨A, c, l1, rfl, H2.out⟩
  · have hsw' : ¬ (l.length : Int) < (l'.length : Int) := by omega
    have H := Lib.hid h
    have H' := Lib.hid h'
    clear h h'
    go_enter Tryz.func129, Tryz.ntmps129
    go_wp2_with (refine wpList_make_row rfl _ _ _ rfl elemU32 (l.length + 1) rfl rfl (by go_num) (by go_num) (by omega) (by omega) ?_)
    go_loopw [6, 7] (fun c i wr => ∃ k : Nat, k ≤ l.length ∧ i = .int .i64 k ∧ c = .int .u64 (cAdd (fun i => l.getD i 0) (fun i => l'.getD i 0) k : Nat) ∧ Blk wr w.heap.size 173 (rowF .u32 (l.length + 1) fun j => if j < k then (dAdd (fun i => l.getD i 0) (fun i => l'.getD i 0) j : Int) else 0) ∧ Below w.heap.size w wr) (fun _ i _ => l.length - (intOf i).toNat)
    case atStart => exact ⟨0, by omega, rfl, rfl, Blk.none (Blk.new rfl), (Below.refl _ _).alloc (Nat.le_refl _) _⟩
    case round =>
      obtain ⟨k, hk, rfl, rfl, hblk, hb⟩ := hrel
      have hc1 := cAdd_le (f := fun i => l.getD i 0) (g := fun i => l'.getD i 0) (fun i => getD_lt H.out.small i) (fun i => getD_lt H'.out.small i) k
      have hcell := hblk.upto_cell (show k < l.length + 1 by omega)
      have hthaw := hblk.thaw k
      have HS := Lib.hid (show cAdd (fun i => l.getD i 0) (fun i => l'.getD i 0) (k + 1) = (l.getD k 0 + l'.getD k 0 + cAdd (fun i => l.getD i 0) (fun i => l'.getD i 0) k) / 4294967296 from rfl)
      have HD := Lib.hid (show dAdd (fun i => l.getD i 0) (fun i => l'.getD i 0) k = (l.getD k 0 + l'.getD k 0 + cAdd (fun i => l.getD i 0) (fun i => l'.getD i 0) k) % 4294967296 from rfl)
      by_cases hlt : k < l.length
      · obtain ⟨b, o, rfl, hbB, hcx⟩ := (H.out.keep (w' := wr) (fun b o hb' => below_cell hb b o (by omega))).at_ hlt
        have hx := getD_lt H.out.small k
        have hlt1 : (k : Int) < (l.length : Int) := by omega
        by_cases hlt' : k < l'.length
        · obtain ⟨b', o', rfl, hbB', hcy⟩ := (H'.out.keep (w' := wr) (fun b o hb' => below_cell hb b o (by omega))).at_ hlt'
          have hy := getD_lt H'.out.small k
          generalize l.getD k 0 = x at hcx hx HS HD
          generalize l'.getD k 0 = y at hcy hy HS HD
          generalize hcc : cAdd (fun i => l.getD i 0) (fun i => l'.getD i 0) k = c at hc1 HS HD
          have HC := Lib.hid hcc
          clear hcc
          go_wp2_with fail
          exact ⟨⟨k + 1, by omega, by go_num, by rw [HS.out]; go_num, hblk.upto (by rw [HD.out]; go_num), hb.setCell (Nat.le_refl _) _⟩, by simp [intOf] <;> omega⟩
        · have hy := Lib.hid (getD_out (show l'.length ≤ k by omega))
          have hlt2 : ¬ (k : Int) < (l'.length : Int) := by omega
          generalize l.getD k 0 = x at hcx hx HS HD
          rw [hy.out] at HS HD
          generalize hcc : cAdd (fun i => l.getD i 0) (fun i => l'.getD i 0) k = c at hc1 HS HD
          have HC := Lib.hid hcc
          clear hcc
          go_wp2_with fail
          exact ⟨⟨k + 1, by omega, by go_num, by rw [HS.out]; go_num, hblk.upto (by rw [HD.out]; go_num), hb.setCell (Nat.le_refl _) _⟩, by simp [intOf] <;> omega⟩
      · obtain ⟨e1, e2⟩ := add_val H.out.small H'.out.small (show l'.length ≤ l.length by omega)
        have hkl : k = l.length := by omega
        rw [hkl] at hcell hthaw hblk hc1 ⊢
        have HV := Lib.hid e2
        generalize cAdd (fun i => l.getD i 0) (fun i => l'.getD i 0) l.length = ce at e1 hc1 ⊢
        have HE := Lib.hid e1
        clear HS HD e1 e2 hkl hlt
        go_wp2_with fail
        have hblk2 := Blk.all (hblk.upto (v := (ce : Nat)) (by rw [HE.out]))
        have hb2 := hb.setCell (p := ⟨w.heap.size, l.length, none⟩) (Nat.le_refl _) (.int .u32 (ce : Nat))
        have HW := Lib.hid (wd_of_blk hblk2 (by omega) (fun i _ => Nat.mod_lt _ (by omega)))
        have hT := trim_any _ _ _ _ _ HW.out
        rw [List.length_map, List.length_range] at hT
        refine hT.mono ?_
        rintro e w' ⟨ht, rfl⟩
        obtain ⟨A, c, l1, rfl, h2⟩ := gave_of_trim (n := val l + val l') HW.out (by have := hblk2.lt; omega) hb2 (by rw [val_map]; exact HV.out) ht
        have H2 := Lib.hid h2
        clear h2 ht
        go_wp2_with fail
        go_ret
        exact ⟨A, c, l1, rfl, H2.out⟩
theorem sub_val {l l' : List Nat} (hs : small l) (hs' : small l') (h : l'.length ≤ l.length) (hv : val l' ≤ val l) :
    valF (dSub (fun i => l.getD i 0) (fun i => l'.getD i 0)) l.length = val l - val l' := by
  have h1 := sub_law (f := fun i => l.getD i 0) (g := fun i => l'.getD i 0) (fun i => getD_lt hs' i) l.length
  rw [valF_val (Nat.le_refl _), valF_val h] at h1
  have h2 := valF_lt (f := dSub (fun i => l.getD i 0) (fun i => l'.getD i 0)) (n := l.length) (fun i _ => dSub_lt (fun i => getD_lt hs i) i)
  have h3 := cSub_le (fun i => l.getD i 0) (fun i => l'.getD i 0) l.length
  rcases Nat.eq_zero_or_pos (cSub (fun i => l.getD i 0) (fun i => l'.getD i 0) l.length) with h4 | h4
  · rw [h4] at h1; omega
  · have h5 : cSub (fun i => l.getD i 0) (fun i => l'.getD i 0) l.length = 1 := by omega
    rw [h5] at h1; omega
theorem sub_any (A A' : Option Addr) (c c' : Nat) (l l' : List Nat) (B : Nat) (w : World) (hB : B ≤ w.heap.size) (h : Wd w B A c l) (h' : Wd w B A' c' l') (hsz : l.length ≤ 1000000) (hsz' : l'.length ≤ l.length) (hv : val l' ≤ val l) :
    Calls Tryz.prog 131 #[.slice A l.length c, .slice A' l'.length c'] w fun e w' => GaveW w w' (val l - val l') e := by
  have H := Lib.hid h
  have H' := Lib.hid h'
  have HV := Lib.hid (sub_val h.small h'.small hsz' hv)
  clear h h' hv
  go_enter Tryz.func131, Tryz.ntmps131
  go_wp2_with (refine wpList_make_row rfl _ _ _ rfl elemU32 l.length rfl rfl (by go_num) (by go_num) (by omega) (by omega) ?_)
  go_loopw [6, 7] (fun c i wr => ∃ k : Nat, k ≤ l.length ∧ i = .int .i64 k ∧ c = .int .u64 (cSub (fun i => l.getD i 0) (fun i => l'.getD i 0) k : Nat) ∧ Blk wr w.heap.size 173 (rowF .u32 l.length fun j => if j < k then (dSub (fun i => l.getD i 0) (fun i => l'.getD i 0) j : Int) else 0) ∧ Below w.heap.size w wr) (fun _ i _ => l.length - (intOf i).toNat)
  case atStart => exact ⟨0, by omega, rfl, rfl, Blk.none (Blk.new rfl), (Below.refl _ _).alloc (Nat.le_refl _) _⟩
  case round =>
    obtain ⟨k, hk, rfl, rfl, hblk, hb⟩ := hrel
    have hc1 := cSub_le (fun i => l.getD i 0) (fun i => l'.getD i 0) k
    have hthaw := hblk.thaw k
    by_cases hlt : k < l.length
    · have hcell := hblk.upto_cell hlt
      have HS := Lib.hid (show cSub (fun i => l.getD i 0) (fun i => l'.getD i 0) (k + 1) = if l.getD k 0 < l'.getD k 0 + cSub (fun i => l.getD i 0) (fun i => l'.getD i 0) k then 1 else 0 from rfl)
      have HD := Lib.hid (show dSub (fun i => l.getD i 0) (fun i => l'.getD i 0) k = if l.getD k 0 < l'.getD k 0 + cSub (fun i => l.getD i 0) (fun i => l'.getD i 0) k then l.getD k 0 + 4294967296 - (l'.getD k 0 + cSub (fun i => l.getD i 0) (fun i => l'.getD i 0) k) else l.getD k 0 - (l'.getD k 0 + cSub (fun i => l.getD i 0) (fun i => l'.getD i 0) k) from rfl)
      obtain ⟨b, o, rfl, hbB, hcx⟩ := (H.out.keep (w' := wr) (fun b o hb' => below_cell hb b o (by omega))).at_ hlt
      have hx := getD_lt H.out.small k
      have hlt1 : (k : Int) < (l.length : Int) := by omega
      by_cases hlt' : k < l'.length
      · obtain ⟨b', o', rfl, hbB', hcy⟩ := (H'.out.keep (w' := wr) (fun b o hb' => below_cell hb b o (by omega))).at_ hlt'
        have hy := getD_lt H'.out.small k
        generalize l.getD k 0 = x at hcx hx HS HD
        generalize l'.getD k 0 = y at hcy hy HS HD
        generalize hcc : cSub (fun i => l.getD i 0) (fun i => l'.getD i 0) k = c at hc1 HS HD
        have HC := Lib.hid hcc
        clear hcc
        go_wp2_with fail
        refine ⟨⟨k + 1, by omega, by go_num, by rw [HS.out]; simp only [u64wrap]; split <;> go_num, hblk.upto (by rw [HD.out]; simp only [u64wrap]; split <;> go_num), hb.setCell (Nat.le_refl _) _⟩, by simp [intOf] <;> omega⟩
      · have hy := Lib.hid (getD_out (show l'.length ≤ k by omega))
        have hlt2 : ¬ (k : Int) < (l'.length : Int) := by omega
        generalize l.getD k 0 = x at hcx hx HS HD
        rw [hy.out] at HS HD
        generalize hcc : cSub (fun i => l.getD i 0) (fun i => l'.getD i 0) k = c at hc1 HS HD
        have HC := Lib.hid hcc
        clear hcc
        go_wp2_with fail
        refine ⟨⟨k + 1, by omega, by go_num, by rw [HS.out]; simp only [u64wrap]; split <;> go_num, hblk.upto (by rw [HD.out]; simp only [u64wrap]; split <;> go_num), hb.setCell (Nat.le_refl _) _⟩, by simp [intOf] <;> omega⟩
    · have hkl : k = l.length := by omega
      rw [hkl] at hblk ⊢
      have hblk2 := hblk.all
      have hg := hblk2.lt
      have HW := Lib.hid (wd_of_blk hblk2 (by omega) (fun i _ => dSub_lt (fun i => getD_lt H.out.small i) i))
      have hT := trim_any _ _ _ _ _ HW.out
      rw [List.length_map, List.length_range] at hT
      have HT := Lib.hid hT
      clear hkl hlt hthaw hT hc1
      generalize cSub (fun i => l.getD i 0) (fun i => l'.getD i 0) l.length = ce
      go_wp2_with fail
      refine HT.out.mono ?_
      rintro e w' ⟨ht, rfl⟩
      obtain ⟨A, c, l1, rfl, h2⟩ := gave_of_trim (n := val l - val l') HW.out (by omega) hb (by rw [val_map]; exact HV.out) ht
      have H2 := Lib.hid h2
      clear h2 ht
      go_wp2_with fail
      go_ret
      exact ⟨A, c, l1, rfl, H2.out⟩
end Go.Proofs.YtjfllpmiajkenaaGreat.BigW
namespace Go.Proofs.YtjfllpmiajkenaaGreat.BigW
open Go.RowKit Go.Proofs.YtjfllpmiajkenaaGreat.Mem Go.Proofs.YtjfllpmiajkenaaGreat.BigLaw
set_option linter.unusedVariables false
theorem or_low (h v s : Nat) (hh : h < 2 ^ s) (hv : v % 2 ^ s = 0) : h ||| v = v + h := by
  have e : v = 2 ^ s * (v / 2 ^ s) := by have := Nat.div_add_mod v (2 ^ s); omega
  rw [e, Nat.or_comm, ← Nat.two_pow_add_eq_or_of_lt hh]
def leftF (l : List Nat) (s w k j : Nat) : Nat := if j < k + w then (if j < w then 0 else dLeft (fun i => l.getD i 0) s (j - w)) else if j = k + w then hiLeft (fun i => l.getD i 0) s k else 0
def leftM (l : List Nat) (s w k j : Nat) : Nat := if j < k + w + 1 then (if j < w then 0 else dLeft (fun i => l.getD i 0) s (j - w)) else 0
theorem left_mid (l : List Nat) (s w k n : Nat) : (rowF .u32 n fun j => (leftF l s w k j : Int)).setIfInBounds (k + w) (.int .u32 (dLeft (fun i => l.getD i 0) s k : Nat)) = rowF .u32 n fun j => (leftM l s w k j : Int) := by
  refine rowF_set fun i hi => ?_
  unfold leftM leftF
  by_cases e : i = k + w
  · subst e
    rw [if_pos rfl, if_pos (by omega), if_neg (by omega), show k + w - w = k by omega]
  · rw [if_neg e]
    by_cases h1 : i < k + w
    · rw [if_pos h1, if_pos (by omega)]
    · rw [if_neg h1, if_neg (by omega), if_neg e]
theorem left_end (l : List Nat) (s w k n : Nat) : (rowF .u32 n fun j => (leftM l s w k j : Int)).setIfInBounds (k + w + 1) (.int .u32 (hiLeft (fun i => l.getD i 0) s (k + 1) : Nat)) = rowF .u32 n fun j => (leftF l s w (k + 1) j : Int) := by
  refine rowF_set fun i hi => ?_
  unfold leftM leftF
  rw [show k + 1 + w = k + w + 1 by omega]
  by_cases e : i = k + w + 1
  · subst e
    rw [if_pos rfl, if_neg (by omega), if_pos rfl]
  · rw [if_neg e, if_neg e]
theorem left_val (l : List Nat) (s w : Nat) : valF (leftF l s w l.length) (l.length + w + 1) = val l * 2 ^ (32 * w + s) := by
  have hd : dLeft (fun i => l.getD i 0) s l.length = hiLeft (fun i => l.getD i 0) s l.length := by
    rw [dLeft_eq, getD_out (Nat.le_refl _)]; simp
  have e1 : valF (leftF l s w l.length) (l.length + w + 1) = valF (fun j => if j < w then 0 else dLeft (fun i => l.getD i 0) s (j - w)) (w + (l.length + 1)) := by
    rw [show l.length + w + 1 = w + (l.length + 1) by omega]
    refine valF_congr fun i hi => ?_
    unfold leftF
    by_cases h1 : i < l.length + w
    · rw [if_pos h1]
    · rw [if_neg h1, if_pos (by omega), if_neg (by omega), show i - w = l.length by omega, hd]
  have h2 := left_law (fun i => l.getD i 0) s l.length
  rw [valF_val (Nat.le_refl _)] at h2
  rw [e1, valF_shift, valF_succ, hd, h2, Nat.pow_add, pw_two, Nat.mul_assoc, Nat.mul_comm (2 ^ s)]
theorem left_any (A : Option Addr) (c : Nat) (l : List Nat) (n wd s : Nat) (B : Nat) (w : World) (hB : B ≤ w.heap.size) (h : Wd w B A c l) (hsz : l.length ≤ 1000000) (hn : n = 32 * wd + s) (hs : s < 32) (hw : wd ≤ 1000000) :
    Calls Tryz.prog 181 #[.slice A l.length c, .int .u64 (n : Int)] w fun e w' => GaveW w w' (val l * 2 ^ n) e := by
  have hq : (n : Int) / 32 = (wd : Int) := by omega
  have hr : (n : Int) % 32 = (s : Int) := by omega
  have HN := Lib.hid hn
  have H := Lib.hid h
  clear hn h
  by_cases hz : l.length = 0
  · have hz' : ((l.length : Int) == 0) = true := by simp [hz]
    have HZ := Lib.hid (show val l = 0 by rw [List.eq_nil_of_length_eq_zero hz]; rfl)
    clear hz
    go_enter Tryz.func181, Tryz.ntmps181
    go_wp2_with fail
    go_ret
    exact ⟨none, 0, [], rfl, Wd.nil _ _, fun h => by simp at h, by rw [HZ.out]; simp [val_nil], Below.refl _ _⟩
  · have hz' : ((l.length : Int) == 0) = false := by rw [beq_eq_false_iff_ne]; omega
    clear hz
    have hlim : n ≤ 32000031 := by have := HN.out; omega
    go_enter Tryz.func181, Tryz.ntmps181
    go_wp2_with (refine wpList_make_row rfl _ _ _ rfl elemU32 (l.length + wd + 1) rfl rfl (by go_num) (by go_num) (by omega) (by omega) ?_)
    go_loopw [8] (fun i wr => ∃ k : Nat, k ≤ l.length ∧ i = .int .i64 k ∧ Blk wr w.heap.size 173 (rowF .u32 (l.length + wd + 1) fun j => (leftF l s wd k j : Int)) ∧ Below w.heap.size w wr) (fun i _ => l.length - (intOf i).toNat)
    case atStart =>
      refine ⟨0, by omega, rfl, ?_, (Below.refl _ _).alloc (Nat.le_refl _) _⟩
      rw [rowF_congr (f := fun j => (leftF l s wd 0 j : Int)) (g := fun _ => 0) (fun i hi => by unfold leftF; (repeat' split) <;> first | rfl | omega)]
      exact Blk.new rfl
    case round =>
      obtain ⟨k, hk, rfl, hblk, hb⟩ := hrel
      by_cases hlt : k < l.length
      · obtain ⟨b, o, rfl, hbB, hcx⟩ := (H.out.keep (w' := wr) (fun b o hb' => below_cell hb b o (by omega))).at_ hlt
        have hx := getD_lt H.out.small k
        have hlt1 : (k : Int) < (l.length : Int) := by omega
        have c1 := hblk.cell (k + wd)
        rw [rowF_at _ _ _ _ (by omega)] at c1
        have e1 : leftF l s wd k (k + wd) = hiLeft (fun i => l.getD i 0) s k := by unfold leftF; rw [if_neg (by omega), if_pos rfl]
        rw [e1] at c1
        have c2 := hblk.cell (k + wd + 1)
        rw [rowF_at _ _ _ _ (by omega)] at c2
        have e2 : leftF l s wd k (k + wd + 1) = 0 := by unfold leftF; rw [if_neg (by omega), if_neg (by omega)]
        rw [e2] at c2
        have t1 := hblk.thaw (k + wd)
        have t2 := hblk.thaw (k + wd + 1)
        have hhi := hiLeft_lt hs (fun i => getD_lt H.out.small i) k
        have hroom := low_room (l.getD k 0) s hs
        have hm := low_mult (l.getD k 0) s hs
        have HD := Lib.hid (show dLeft (fun i => l.getD i 0) s k = l.getD k 0 * 2 ^ s % 4294967296 + hiLeft (fun i => l.getD i 0) s k from dLeft_eq _ _ _)
        have HH := Lib.hid (show hiLeft (fun i => l.getD i 0) s (k + 1) = l.getD k 0 * 2 ^ s / 4294967296 from rfl)
        have hsh : ((l.getD k 0 : Nat) : Int) * 2 ^ s = ((l.getD k 0 * 2 ^ s : Nat) : Int) := by push_cast; rfl
        have hvlt : l.getD k 0 * 2 ^ s < 18446744073709551616 := by
          have : l.getD k 0 * 2 ^ s < 4294967296 * 2 ^ s := Nat.mul_lt_mul_of_pos_right hx (Nat.two_pow_pos s)
          have h2 : 2 ^ s ≤ 2 ^ 32 := Nat.pow_le_pow_right (by omega) (by omega)
          omega
        generalize hv : l.getD k 0 * 2 ^ s = v at hsh hvlt HD HH hm hroom
        have hor := or_low (hiLeft (fun i => l.getD i 0) s k) (v % 4294967296) s hhi hm
        have hor1 : bits .or .u32 ((hiLeft (fun i => l.getD i 0) s k : Nat) : Int) ((v : Int) % 4294967296) = ((v % 4294967296 + hiLeft (fun i => l.getD i 0) s k : Nat) : Int) := by
          have := u32_or_nat (hiLeft (fun i => l.getD i 0) s k) (v % 4294967296) (by have : 2 ^ s ≤ 2 ^ 32 := Nat.pow_le_pow_right (by omega) (by omega); omega) (by omega)
          rw [hor] at this
          simpa using this
        have hor2 : bits .or .u32 0 ((v : Int) / 4294967296) = ((v / 4294967296 : Nat) : Int) := by
          have := u32_or_nat 0 (v / 4294967296) (by omega) (by omega)
          simpa using this
        generalize l.getD k 0 = x at hcx hx hsh hv
        have hsh' : IntKind.u64.wrap ((x : Int) * 2 ^ s) = (v : Int) := by rw [hsh, u64wrap]; omega
        rw [← HD.out] at hor1
        rw [← HH.out] at hor2
        clear hsh hm hroom hor hhi hv HD HH
        have HK := Lib.hid (And.intro e1 e2)
        clear e1 e2
        generalize hhk : hiLeft (fun i => l.getD i 0) s k = h0 at c1 hor1
        generalize hhk1 : hiLeft (fun i => l.getD i 0) s (k + 1) = h1 at hor2
        generalize hhd : dLeft (fun i => l.getD i 0) s k = d at hor1
        have H1 := Lib.hid hhk1
        have HD := Lib.hid hhd
        clear hhk hhk1 hhd
        go_wp2_with fail
        refine ⟨⟨k + 1, by omega, by go_num, ?_, (hb.setCell (Nat.le_refl _) _).setCell (Nat.le_refl _) _⟩, by simp [intOf] <;> omega⟩
        have := (hblk.set (k + wd) (.int .u32 d)).set (k + wd + 1) (.int .u32 h1)
        rw [← HD.out, left_mid, ← H1.out, left_end] at this
        rw [← HD.out, ← H1.out]
        exact this
      · have hkl : k = l.length := by omega
        rw [hkl] at hblk ⊢
        have hg := hblk.lt
        have HW := Lib.hid (wd_of_blk hblk (by omega) (fun i _ => by
          unfold leftF
          have h1 := dLeft_lt (f := fun i => l.getD i 0) hs (fun i => getD_lt H.out.small i) (i - wd)
          have h2 := hiLeft_lt hs (fun i => getD_lt H.out.small i) l.length
          have h3 : 2 ^ s ≤ 2 ^ 32 := Nat.pow_le_pow_right (by omega) (by omega)
          (repeat' split) <;> omega))
        have hT := trim_any _ _ _ _ _ HW.out
        rw [List.length_map, List.length_range] at hT
        have HT := Lib.hid hT
        clear hkl hlt hT
        go_wp2_with fail
        refine HT.out.mono ?_
        rintro e w' ⟨ht, rfl⟩
        obtain ⟨A, c, l1, rfl, h2⟩ := gave_of_trim (n := val l * 2 ^ n) HW.out (by omega) hb (by rw [val_map, left_val, HN.out]) ht
        have H2 := Lib.hid h2
        clear h2 ht
        go_wp2_with fail
        go_ret
        exact ⟨A, c, l1, rfl, H2.out⟩
theorem length_any (A : Option Addr) (c : Nat) (l : List Nat) (B : Nat) (w : World) (h : Wd w B A c l) (ht : trimd l) (hsz : l.length ≤ 1000000) :
    Calls Tryz.prog 191 #[.slice A l.length c] w fun e w' => (∃ n : Nat, e = .returned (.int .i64 n) ∧ IsLen (val l) n ∧ n ≤ 32 * l.length) ∧ w' = w := by
  by_cases hz : l.length = 0
  · have hz' : ((l.length : Int) == 0) = true := by simp [hz]
    have HZ := Lib.hid (show val l = 0 by rw [List.eq_nil_of_length_eq_zero hz]; rfl)
    clear hz
    go_enter Tryz.func191, Tryz.ntmps191
    go_wp2_with fail
    go_ret
    exact ⟨⟨0, rfl, by rw [HZ.out]; exact ⟨fun _ => rfl, fun h => by omega⟩, by omega⟩, rfl⟩
  · have hz' : ((l.length : Int) == 0) = false := by rw [beq_eq_false_iff_ne]; omega
    obtain ⟨q, hq⟩ : ∃ q, l.length = q + 1 := ⟨l.length - 1, by omega⟩
    obtain ⟨b, o, rfl, hbB, hcx⟩ := h.at_ (show q < l.length by omega)
    have hx := getD_lt h.small q
    have h0 : l.getD q 0 ≠ 0 := by have := ht (by omega); rwa [hq, Nat.add_sub_cancel] at this
    have HV := Lib.hid (show ∀ b, IsLen (l.getD q 0) b → IsLen (val l) (q * 32 + b) from fun b hb => by
      have := isLen_val (f := fun i => l.getD i 0) (n := q) (fun i => getD_lt h.small i) h0 hb
      rw [← hq, valF_val (Nat.le_refl _)] at this
      exact this)
    generalize l.getD q 0 = x at hcx hx h0 HV
    have e1 : (l.length : Int) = (q : Int) + 1 := by omega
    have hq2 : q ≤ 1000000 := by omega
    have H0 := Lib.hid h0
    have HQ := Lib.hid hq
    clear h ht hz h0 hq hsz
    rw [HQ.out] at hz' ⊢
    go_enter Tryz.func191, Tryz.ntmps191
    go_wp2_with fail
    go_loop [3, 4] (fun n t => ∃ m r : Nat, m ≤ 32 ∧ r < 2 ^ (32 - m) ∧ n = .int .i64 m ∧ t = .int .u32 r ∧ ∀ b, IsLen r b → IsLen x (m + b)) (fun _ t => (intOf t).toNat)
    case atStart => exact ⟨0, x, by omega, hx, rfl, rfl, fun b hb => by rwa [Nat.zero_add]⟩
    case round =>
      obtain ⟨m, r, hm, hr, rfl, rfl, hI⟩ := hrel
      have HI := Lib.hid hI
      have HR := Lib.hid hr
      have hr2 : r < 4294967296 := Nat.lt_of_lt_of_le hr (Nat.pow_le_pow_right (n := 2) (by omega) (show 32 - m ≤ 32 by omega))
      have hm2 : r ≠ 0 → m ≤ 31 := fun h => by
        rcases Nat.lt_or_ge m 32 with h1 | h1
        · omega
        · have : 32 - m = 0 := by omega
          rw [this] at hr; omega
      clear hI hr
      by_cases hr0 : r = 0
      · subst hr0
        have h2 := HI.out 0 ⟨fun _ => rfl, fun h => by omega⟩
        have H2 := Lib.hid (HV.out _ h2)
        clear h2 hm2
        go_wp2_with fail
        go_ret
        exact ⟨⟨q * 32 + m, by congr 1, H2.out, by omega⟩, rfl⟩
      · have hr1 : ((r : Int) != 0) = true := by simp; omega
        have hm3 := hm2 hr0
        have HR0 := Lib.hid hr0
        clear hr0 hm2
        go_wp2_with fail
        refine ⟨⟨m + 1, r / 2, by omega, ?_, by go_num, by go_num, fun b hb => ?_⟩, by simp [intOf]; have := HR0.out; omega⟩
        · have := HR.out
          rw [show 32 - m = (32 - (m + 1)) + 1 by omega, Nat.pow_succ] at this
          omega
        · have := HI.out _ (isLen_half hb HR0.out)
          rwa [show m + 1 + b = m + (b + 1) by omega]
theorem val_le2 {l : List Nat} (h : l.length ≤ 2) : val l = l.getD 0 0 + l.getD 1 0 * 4294967296 := by
  rw [← valF_val h]
  show 0 + l.getD 0 0 * pw 0 + l.getD 1 0 * pw 1 = _
  rw [pw_succ, pw_zero]; omega
theorem or64 (x y : Nat) (hx : x < 4294967296) (hy : y < 4294967296) : bits .or .u64 (x : Int) ((y : Int) * 4294967296) = (x : Int) + (y : Int) * 4294967296 := by
  have h := u64_or_nat x (y * 4294967296) (by omega) (by omega)
  rw [or_low x (y * 4294967296) 32 (by omega) (by omega)] at h
  have e : ((y * 4294967296 : Nat) : Int) = (y : Int) * 4294967296 := by omega
  rw [e] at h
  rw [h, Int.natCast_add, e]
  exact Int.add_comm _ _
theorem plain_any (A : Option Addr) (c : Nat) (l : List Nat) (B : Nat) (w : World) (h : Wd w B A c l) (h2 : l.length ≤ 2) :
    Calls Tryz.prog 189 #[.slice A l.length c] w fun e w' => e = .returned (.int .u64 (val l : Nat)) ∧ w' = w := by
  have HV := Lib.hid (val_le2 h2)
  by_cases h0 : 0 < l.length
  · obtain ⟨b, o, rfl, hbB, hcx⟩ := h.at_ h0
    rw [Nat.add_zero] at hcx
    have hx := getD_lt h.small 0
    have h0' : (0 : Int) < (l.length : Int) := by omega
    by_cases h1 : 1 < l.length
    · obtain ⟨b', o', e, _, hcy⟩ := h.at_ h1
      injection e with e
      injection e with e1 e2
      subst e1 e2
      have hy := getD_lt h.small 1
      have h1' : (1 : Int) < (l.length : Int) := by omega
      generalize l.getD 0 0 = x at hcx hx HV
      generalize l.getD 1 0 = y at hcy hy HV
      have hor := or64 x y hx hy
      clear h
      go_enter Tryz.func189, Tryz.ntmps189
      go_wp2_with fail
      go_ret
      exact ⟨by rw [HV.out]; go_num, rfl⟩
    · have h1' : ¬ (1 : Int) < (l.length : Int) := by omega
      have HY := Lib.hid (getD_out (l := l) (i := 1) (by omega))
      generalize l.getD 0 0 = x at hcx hx HV
      rw [HY.out] at HV
      clear h h1
      go_enter Tryz.func189, Tryz.ntmps189
      go_wp2_with fail
      go_ret
      exact ⟨by rw [HV.out]; go_num, rfl⟩
  · have h0' : ¬ (0 : Int) < (l.length : Int) := by omega
    have h1' : ¬ (1 : Int) < (l.length : Int) := by omega
    have HX := Lib.hid (getD_out (l := l) (i := 0) (by omega))
    have HY := Lib.hid (getD_out (l := l) (i := 1) (by omega))
    rw [HX.out, HY.out] at HV
    clear h h0
    go_enter Tryz.func189, Tryz.ntmps189
    go_wp2_with fail
    go_ret
    exact ⟨by rw [HV.out]; go_num, rfl⟩
theorem wd_of_own {w : World} {base : Nat} {A : Option Addr} {c : Nat} {l : List Nat} (h : w.ownsRow base 173 1 (.slice A l.length c) l.length (wordsV l)) (hs : small l) : Wd w w.heap.size A c l := by
  obtain ⟨A', c', e, h1, h2, h3, h4, h5⟩ := own_form h
  injection e with ea eb ec
  subst ea ec
  exact ⟨h1, h2, fun hA => (h3 hA).2, h5, hs⟩
theorem twin_any (A : Option Addr) (c : Nat) (l : List Nat) (B : Nat) (w : World) (hB : B ≤ w.heap.size) (h : Wd w B A c l) (hsz : l.length ≤ 1000000) :
    Calls Tryz.prog 176 #[.slice A l.length c] w fun e w' => ∃ A' c', e = .returned (.slice A' l.length c') ∧ Wd w' w'.heap.size A' c' l ∧ Below w.heap.size w w' := by
  have H := Lib.hid h
  clear h
  go_enter Tryz.func176, Tryz.ntmps176
  go_wp2_with (at_builtin; refine wpList_append_rd _ rfl _ _ _ rfl (base := w.heap.size) elemU32 rfl (World.ownsRow_nil _ _ _ _) rfl (fun hA => ⟨by have := H.out.none_ hA; have := H.out.len; omega, H.out.none_ hA⟩) H.out.rd (wordsV_one l) (by unfold maxLen; omega) (by omega) (Nat.le_refl _) ?_)
  intro A' c' w' hA hown hg
  have HW := Lib.hid (wd_of_own hown H.out.small)
  have HG := Lib.hid hg
  clear hg hown
  go_wp2_with fail
  go_ret
  exact ⟨A', c', rfl, HW.out, HG.out.os, HG.out.tape, HG.out.output, HG.out.size, fun g hg => HG.out.block g hg (by simp [Value.ownBlock])⟩
end Go.Proofs.YtjfllpmiajkenaaGreat.BigW
