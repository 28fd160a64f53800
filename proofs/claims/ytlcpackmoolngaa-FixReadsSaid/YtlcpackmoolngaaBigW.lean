/- Contracts of the word functions of fourwatchbig: trim, words, twin, plain, cmp, add, sub, left, length, bit. -/
import Derived.Test.YtlcpackmoolngaaMem
import Derived.Test.YtlcpackmoolngaaBigLaw
import Derived.Test.YtlcpackmoolngaaProg
import Derived.WalkSpells
import Derived.WalkLawsBesides
import Derived.Deep.RegionHeld3
import Derived.StillTailTactics
namespace Go.Proofs.Ytlcpackmoolngaa.BigW
open Go.RowKit Go.Proofs.Ytlcpackmoolngaa.Mem Go.Proofs.Ytlcpackmoolngaa.BigLaw
set_option linter.unusedVariables false

/-- words, as cells -/
def wordsV (l : List Nat) : List Value := l.map fun (x : Nat) => Value.int .u32 (x : Int)
theorem wordsV_at {l : List Nat} {k : Nat} (hk : k < l.length) : (wordsV l)[k]? = some (.int .u32 (l.getD k 0 : Int)) := by
  simp [wordsV, hk]
theorem wordsV_length (l : List Nat) : (wordsV l).length = l.length := by simp [wordsV]
theorem wordsV_one (l : List Nat) : ∀ u ∈ wordsV l, u.oneCell' = true := fun u hu => by
  obtain ⟨z, _, rfl⟩ := List.mem_map.1 hu
  rfl

/-- the slice (A, l.length, c) reads as the words l, below block B -/
structure Wd (w : World) (B : Nat) (A : Option Addr) (c : Nat) (l : List Nat) : Prop where
  len : l.length ≤ c
  cap : c ≤ 9223372036854775807
  none_ : A = none → c = 0
  rd : Rd w B 1 A l.length (wordsV l)
  small : small l

theorem Wd.below {w w' : World} {B : Nat} {A : Option Addr} {c : Nat} {l : List Nat} (h : Wd w B A c l) (hb : Below B w w') : Wd w' B A c l := ⟨h.len, h.cap, h.none_, h.rd.below hb, h.small⟩
theorem Wd.more {w : World} {B B' : Nat} {A : Option Addr} {c : Nat} {l : List Nat} (h : Wd w B A c l) (hb : B ≤ B') : Wd w B' A c l := ⟨h.len, h.cap, h.none_, h.rd.more hb, h.small⟩
theorem Wd.keep {w w' : World} {B : Nat} {A : Option Addr} {c : Nat} {l : List Nat} (h : Wd w B A c l) (hk : ∀ b o, b < B → w'.cell? ⟨b, o, none⟩ = w.cell? ⟨b, o, none⟩) : Wd w' B A c l := ⟨h.len, h.cap, h.none_, h.rd.keep hk, h.small⟩
theorem Wd.nil (w : World) (B : Nat) : Wd w B none 0 [] := ⟨Nat.le_refl _, by omega, fun _ => rfl, Rd.nil _ _ _ _, fun _ h => by cases h⟩
theorem Wd.at_ {w : World} {B : Nat} {A : Option Addr} {c : Nat} {l : List Nat} (h : Wd w B A c l) {k : Nat} (hk : k < l.length) : ∃ b o, A = some ⟨b, o, none⟩ ∧ b < B ∧ w.cell? ⟨b, o + k, none⟩ = some (.int .u32 (l.getD k 0 : Int)) := by
  obtain ⟨b, o, u, e, hb, hu, hc⟩ := h.rd.at hk
  rw [wordsV_at hk] at hu
  injection hu with hu
  subst hu
  exact ⟨b, o, e, hb, hc⟩
theorem Wd.take {w : World} {B : Nat} {A : Option Addr} {c : Nat} {l : List Nat} (h : Wd w B A c l) {n : Nat} (hn : n ≤ l.length) : Wd w B A c (l.take n) := by
  have hl : (l.take n).length = n := by rw [List.length_take]; omega
  refine ⟨by have := h.len; omega, h.cap, h.none_, ?_, small_take h.small n⟩
  rw [hl]
  refine ⟨by rw [wordsV_length, hl, Nat.mul_one], fun hp => ?_⟩
  obtain ⟨b, o, e, hb, hc⟩ := h.rd.2 (by omega)
  refine ⟨b, o, e, hb, fun j u hu => hc j u ?_⟩
  have hj : j < n := by have := (List.getElem?_eq_some_iff.1 hu).1; rw [wordsV_length, hl] at this; exact this
  have : (wordsV (l.take n))[j]? = (wordsV l)[j]? := by
    simp [wordsV, hj]
  rw [← this]; exact hu

def Trimmed (A : Option Addr) (c : Nat) (l : List Nat) (e : Ending) : Prop := ∃ n, n ≤ l.length ∧ e = .returned (.slice A n c) ∧ trimd (l.take n) ∧ val (l.take n) = val l

theorem cut_all {A : Option Addr} {c : Nat} (hA : ∀ ad, A = some ad → ad.spot = none) : (if c = 0 then A else A.map fun x => x.add 0) = A := by
  split
  · rfl
  · cases A with
    | none => rfl
    | some ad => simp [Addr.add]

theorem trim_any (A : Option Addr) (c : Nat) (l : List Nat) (B : Nat) (w : World) (h : Wd w B A c l) :
    Calls Try.prog 82 #[.slice A l.length c] w fun e w' => Trimmed A c l e ∧ w = w' := by
  have hlen := h.len
  have hcap := h.cap
  have H := Lib.hid h
  clear h
  go_enter Try.func82, Try.ntmps82
  go_wp2_with fail
  go_loop [3] (fun i => ∃ n : Nat, n ≤ l.length ∧ i = .int .i64 n ∧ val (l.take n) = val l) (fun i => (intOf i).toNat)
  case atStart => exact ⟨l.length, Nat.le_refl _, rfl, by rw [List.take_of_length_le (Nat.le_refl _)]⟩
  case round =>
    obtain ⟨n, hn, rfl, hv⟩ := hrel
    have HV := Lib.hid hv
    clear hv
    by_cases hpos : 0 < n
    · obtain ⟨k, rfl⟩ : ∃ k, n = k + 1 := ⟨n - 1, by omega⟩
      obtain ⟨b, o, rfl, hb, hc⟩ := H.out.at_ (show k < l.length by omega)
      have HK := Lib.hid (show val (l.take (k + 1)) = val (l.take k) + l.getD k 0 * pw k by rw [val_take (by omega), val_take (by omega), valF_succ])
      have HT := Lib.hid (show ∀ (hz : l.getD k 0 ≠ 0), trimd (l.take (k + 1)) from fun hz _ => by
        rw [List.length_take, Nat.min_eq_left (by omega), Nat.add_sub_cancel]
        rw [List.getD_eq_getElem?_getD, List.getElem?_take, if_pos (by omega), ← List.getD_eq_getElem?_getD]
        exact hz)
      generalize l.getD k 0 = x at hc HK HT
      have e1 : ((k + 1 : Nat) : Int) - 1 = (k : Int) := by omega
      by_cases hz : x = 0
      · have hz' : ((x : Int) == 0) = true := by simp [hz]
        have HZ := Lib.hid hz
        clear hz
        go_wp2_with fail
        exact ⟨⟨k, by omega, rfl, by rw [← HV.out, HK.out, HZ.out]; simp⟩, by simp [intOf]⟩
      · have hz' : ((x : Int) == 0) = false := by simp [hz]
        have HZ := Lib.hid hz
        clear hz
        go_wp2_with fail
        go_ret
        exact ⟨⟨k + 1, by omega, rfl, HT.out HZ.out, HV.out⟩, rfl⟩
    · obtain rfl : n = 0 := by omega
      go_wp2_with fail
      go_ret
      exact ⟨⟨0, by omega, rfl, fun h => by simp at h, HV.out⟩, rfl⟩

/-- a call that gives words: trimmed, in memory of its own, of this value -/
def GaveW (w w' : World) (n : Nat) (e : Ending) : Prop := ∃ A c l, e = .returned (.slice A l.length c) ∧ Wd w' w'.heap.size A c l ∧ trimd l ∧ val l = n ∧ Below w.heap.size w w'

/-- a trim of words at the end of a call -/
theorem gave_of_trim {w w1 : World} {A : Option Addr} {c : Nat} {l : List Nat} {B n : Nat} (h : Wd w1 B A c l) (hB : B ≤ w1.heap.size) (hb : Below w.heap.size w w1) (hv : val l = n) {e : Ending} (ht : Trimmed A c l e) : GaveW w w1 n e := by
  obtain ⟨k, hk, rfl, h1, h2⟩ := ht
  refine ⟨A, c, l.take k, ?_, (h.take hk).more hB, h1, h2.trans hv, hb⟩
  rw [List.length_take, Nat.min_eq_left hk]

theorem wordsV_eq2 (a b : Nat) : wordsV [a, b] = [.int .u32 (a : Int), .int .u32 (b : Int)] := rfl

/-- a block of words, whole -/
theorem wd_of_blk {w : World} {g : Nat} {t : TypeId} {f : Nat → Nat} {n : Nat} (h : Blk w g t (rowF .u32 n fun i => (f i : Int))) (hn : n ≤ 9223372036854775807) (hs : ∀ i, i < n → f i < 4294967296) : Wd w (g + 1) (some ⟨g, 0, none⟩) n ((List.range n).map f) := by
  refine ⟨by simp, hn, by simp, ⟨by simp [wordsV], fun _ => ⟨g, 0, rfl, by omega, fun j u hu => ?_⟩⟩, ?_⟩
  · have hj : j < n := by have := (List.getElem?_eq_some_iff.1 hu).1; simpa [wordsV] using this
    rw [Nat.zero_add, h.cell j, rowF_at _ _ _ _ hj]
    simpa [wordsV, hj] using hu
  · intro x hx
    obtain ⟨i, hi, rfl⟩ := List.mem_map.1 hx
    exact hs i (List.mem_range.1 hi)
theorem val_map (f : Nat → Nat) (n : Nat) : val ((List.range n).map f) = valF f n := by
  unfold val
  rw [List.length_map, List.length_range]
  refine valF_congr fun i hi => ?_
  simp [List.getD_eq_getElem?_getD, hi]

theorem words_any (x : Nat) (hx : x < 18446744073709551616) (w : World) :
    Calls Try.prog 71 #[.int .u64 (x : Int)] w fun e w' => GaveW w w' x e := by
  have hb : Blk (w.alloc (.cells #[.int .u32 ((x : Int) % 4294967296), .int .u32 ((x : Int) / 4294967296)] 90)) w.heap.size 90 (rowF .u32 2 fun i => (([x % 4294967296, x / 4294967296].getD i 0 : Nat) : Int)) := by
    have e : rowF .u32 2 (fun i => (([x % 4294967296, x / 4294967296].getD i 0 : Nat) : Int)) = #[.int .u32 ((x : Int) % 4294967296), .int .u32 ((x : Int) / 4294967296)] := rfl
    rw [e]; exact Blk.new rfl
  have hW := wd_of_blk hb (by omega) (fun i hi => by
    obtain rfl | rfl : i = 0 ∨ i = 1 := by omega
    · exact Nat.mod_lt _ (by omega)
    · exact Nat.div_lt_of_lt_mul (by omega))
  have hv : val ((List.range 2).map fun i => [x % 4294967296, x / 4294967296].getD i 0) = x := by
    rw [val_map]
    show 0 + x % 4294967296 * 1 + x / 4294967296 * (4294967296 ^ 1) = x
    omega
  have HW := Lib.hid hW
  have HV := Lib.hid hv
  clear hb hW hv
  go_enter Try.func71, Try.ntmps71
  go_wp2_with fail
  refine (trim_any _ 2 ((List.range 2).map fun i => [x % 4294967296, x / 4294967296].getD i 0) _ _ HW.out).mono ?_
  rintro e w' ⟨ht, rfl⟩
  have hg := gave_of_trim (w := w) HW.out (by simp) ((Below.refl _ _).alloc (Nat.le_refl _) _) HV.out ht
  obtain ⟨A, c, l, rfl, h2⟩ := hg
  have H2 := Lib.hid h2
  clear h2 ht
  go_wp2_with fail
  go_ret
  exact ⟨A, c, l, rfl, H2.out⟩

theorem cmp_any (A A' : Option Addr) (c c' : Nat) (l l' : List Nat) (B : Nat) (w : World) (hB : B ≤ w.heap.size) (h : Wd w B A c l) (h' : Wd w B A' c' l') (t : trimd l) (t' : trimd l') :
    Calls Try.prog 84 #[.slice A l.length c, .slice A' l'.length c'] w fun e w' => e = .returned (.int .i64 (sgn (val l) (val l'))) ∧ Below w.heap.size w w' := by
  have hlen := h.len
  have hcap := h.cap
  have hlen' := h'.len
  have hcap' := h'.cap
  have H := Lib.hid h
  have H' := Lib.hid h'
  have T := Lib.hid t
  have T' := Lib.hid t'
  clear h h' t t'
  by_cases h1 : l.length = l'.length
  · have HE := Lib.hid h1
    have hne : ((l.length : Int) != (l'.length : Int)) = false := by simp [h1]
    clear h1
    go_enter Try.func84, Try.ntmps84
    go_wp2_with fail
    go_loopw [5] (fun i wr => ∃ k : Nat, k ≤ l.length ∧ i = .int .i64 ((k : Int) - 1) ∧ (∀ j, k ≤ j → j < l.length → l.getD j 0 = l'.getD j 0) ∧ Below w.heap.size w wr) (fun i _ => (intOf i + 1).toNat)
    case atStart => exact ⟨l.length, Nat.le_refl _, rfl, fun j h1 h2 => by omega, Below.refl _ _⟩
    case round =>
      obtain ⟨k, hk, rfl, hj, hb⟩ := hrel
      have HJ := Lib.hid hj
      clear hj
      by_cases hpos : 0 < k
      · obtain ⟨q, rfl⟩ : ∃ q, k = q + 1 := ⟨k - 1, by omega⟩
        rw [show ((q + 1 : Nat) : Int) - 1 = (q : Int) by omega]
        obtain ⟨b, o, rfl, hbB, hc⟩ := (H.out.keep (w' := wr) (fun b o hb' => below_cell hb b o (by omega))).at_ (show q < l.length by omega)
        obtain ⟨b', o', rfl, hbB', hc'⟩ := (H'.out.keep (w' := wr) (fun b o hb' => below_cell hb b o (by omega))).at_ (show q < l'.length by have := HE.out; omega)
        have hq1 : (q : Int) < (l.length : Int) := by omega
        have hq2 : (q : Int) < (l'.length : Int) := by have := HE.out; omega
        have HX := Lib.hid (show l.getD q 0 < l'.getD q 0 → val l < val l' from fun hx => by
          have := cmp_top (f := fun i => l.getD i 0) (g := fun i => l'.getD i 0) (n := l.length) (i := q) (by omega) (fun j _ => getD_lt H.out.small j) hx (fun j h1 h2 => HJ.out j (by omega) h2)
          unfold val; rw [← HE.out]; exact this)
        have HY := Lib.hid (show l'.getD q 0 < l.getD q 0 → val l' < val l from fun hx => by
          have := cmp_top (f := fun i => l'.getD i 0) (g := fun i => l.getD i 0) (n := l.length) (i := q) (by omega) (fun j _ => getD_lt H'.out.small j) hx (fun j h1 h2 => (HJ.out j (by omega) h2).symm)
          unfold val; rw [← HE.out]; exact this)
        have HZ := Lib.hid (show l.getD q 0 = l'.getD q 0 → ∀ j, q ≤ j → j < l.length → l.getD j 0 = l'.getD j 0 from fun hx j h1 h2 => by
          by_cases e : j = q
          · subst e; exact hx
          · exact HJ.out j (by omega) h2)
        generalize l.getD q 0 = x at hc HX HY HZ
        generalize l'.getD q 0 = y at hc' HX HY HZ
        by_cases hxy : x = y
        · have hn : ((x : Int) != (y : Int)) = false := by simp [hxy]
          have HXY := Lib.hid hxy
          clear hxy
          go_wp2_with fail
          go_quiet (fail)
          go_wp2_with fail
          exact ⟨⟨q, by omega, rfl, HZ.out HXY.out, below_drewN hb nq⟩, by simp [intOf]⟩
        · have hn : ((x : Int) != (y : Int)) = true := by simp; omega
          by_cases hlt : x < y
          · have HF := Lib.hid (show sgn (val l) (val l') = -1 by unfold sgn; rw [if_pos (HX.out hlt)])
            clear hxy
            have hlt' : (x : Int) < (y : Int) := by omega
            go_wp2_with fail
            go_quiet (fail)
            go_wp2_with fail
            go_quiet (fail)
            go_wp2_with fail
            go_ret
            exact ⟨by rw [HF.out]; rfl, below_drewN (below_drewN hb _) _⟩
          · have HF := Lib.hid (show sgn (val l) (val l') = 1 by unfold sgn; have := HY.out (by omega); rw [if_neg (by omega), if_pos this])
            clear hxy
            have hlt' : decide ((x : Int) < (y : Int)) = false := by simp; omega
            go_wp2_with fail
            go_quiet (fail)
            go_wp2_with fail
            go_quiet (fail)
            go_wp2_with fail
            go_ret
            exact ⟨by rw [HF.out]; rfl, below_drewN (below_drewN hb _) _⟩
      · have HF := Lib.hid (show sgn (val l) (val l') = 0 by
          have : val l = val l' := by
            unfold val; rw [← HE.out]; exact valF_congr fun i hi => HJ.out i (by omega) hi
          unfold sgn; rw [this]; simp)
        obtain rfl : k = 0 := by omega
        go_wp2_with fail
        go_ret
        exact ⟨by rw [HF.out]; rfl, hb⟩
  · have hne : ((l.length : Int) != (l'.length : Int)) = true := by simp; omega
    by_cases h2 : l.length < l'.length
    · have HF := Lib.hid (show sgn (val l) (val l') = -1 by unfold sgn; rw [if_pos (cmp_len H.out.small T'.out h2)])
      clear h1
      go_enter Try.func84, Try.ntmps84
      go_wp2_with fail
      go_ret
      exact ⟨by rw [HF.out]; rfl, Below.refl _ _⟩
    · have HF := Lib.hid (show sgn (val l) (val l') = 1 by
        have := cmp_len H'.out.small T.out (show l'.length < l.length by omega)
        unfold sgn; rw [if_neg (by omega), if_pos this])
      clear h1
      go_enter Try.func84, Try.ntmps84
      go_wp2_with fail
      go_ret
      exact ⟨by rw [HF.out]; rfl, Below.refl _ _⟩
end Go.Proofs.Ytlcpackmoolngaa.BigW
