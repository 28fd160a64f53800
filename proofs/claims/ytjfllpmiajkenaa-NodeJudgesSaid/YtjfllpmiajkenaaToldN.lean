/- Contract: node.told: what two others told of a number. -/
import Derived.Test.YtjfllpmiajkenaaMsgAs
import Derived.Test.YtjfllpmiajkenaaAgrLaw
namespace Go.Proofs.Ytjfllpmiajkenaa.Nd
open Go.RowKit Go.Proofs.Ytjfllpmiajkenaa.Mem Go.Proofs.Ytjfllpmiajkenaa.Rws Go.Proofs.Ytjfllpmiajkenaa.Flat Go.Proofs.Ytjfllpmiajkenaa.Av
set_option linter.unusedVariables false
set_option linter.unusedSimpArgs false

/-- the number at k of a message; nought of none -/
def numAt (k : Nat) : Option Ms.Msg → Int
  | some m => m.zs.getD k 0
  | none => 0
/-- what the first r told, but for two of them -/
def toldL (id ab k : Nat) (o : Nat → Option Ms.Msg) (r : Nat) : List Int := toldF id ab (fun p _ => numAt k (o p)) r
theorem toldL_succ (id ab k : Nat) (o : Nat → Option Ms.Msg) (r : Nat) : toldL id ab k o (r + 1) = toldL id ab k o r ++ if r ≠ id ∧ r ≠ ab then [numAt k (o r)] else [] := toldF_succ id ab _ r
theorem toldL_two {id ab : Nat} (k : Nat) (o : Nat → Option Ms.Msg) (h1 : id < 4) (h2 : ab < 4) (hne : ab ≠ id) : (toldL id ab k o 4).length = 2 := toldF_length id ab h1 h2 hne _
theorem toldL_mono (id ab k : Nat) (o : Nat → Option Ms.Msg) (r : Nat) : ∀ d, (toldL id ab k o r).length ≤ (toldL id ab k o (r + d)).length
  | 0 => Nat.le_refl _
  | d + 1 => by
    have h := toldL_mono id ab k o r d
    rw [← Nat.add_assoc, toldL_succ, List.length_append]
    omega
theorem toldL_room {id ab k : Nat} {o : Nat → Option Ms.Msg} (h1 : id < 4) (h2 : ab < 4) (hne : ab ≠ id) {r : Nat} (hr : r < 4) (ht : r ≠ id ∧ r ≠ ab) : (toldL id ab k o r).length < 2 := by
  have h := toldL_mono id ab k o (r + 1) (4 - (r + 1))
  rw [show r + 1 + (4 - (r + 1)) = 4 by omega, toldL_two k o h1 h2 hne, toldL_succ, if_pos ht, List.length_append, List.length_singleton] at h
  omega
theorem toldL_le (id ab k : Nat) (o : Nat → Option Ms.Msg) (r : Nat) : (toldL id ab k o r).length ≤ r := by
  unfold toldL toldF
  rw [List.length_map]
  exact Nat.le_trans (List.length_filter_le _ _) (by simp)

def pairF (l : List Int) (i : Nat) : Int := l.getD i 0
theorem pair_put {l : List Int} (x : Int) (j : Nat) : pairF (l ++ [x]) j = if j = l.length then x else pairF l j := by
  unfold pairF
  rw [List.getD_eq_getElem?_getD, List.getD_eq_getElem?_getD]
  by_cases e : j = l.length
  · rw [if_pos e, e]; simp
  · rw [if_neg e]
    by_cases h : j < l.length
    · rw [List.getElem?_append_left h]
    · rw [List.getElem?_eq_none (by simp; omega), List.getElem?_eq_none (by omega)]
theorem pair_nought {l : List Int} (j : Nat) : pairF (l ++ [0]) j = pairF l j := by
  rw [pair_put]
  by_cases e : j = l.length
  · rw [if_pos e, e]; simp [pairF, List.getD_eq_getElem?_getD]
  · rw [if_neg e]

/-- what was heard of a node, told by reading -/
def HeardRd (w : World) (B : Nat) (o : Option Ms.Msg) (v : Value) : Prop :=
  match o with
  | some m => ∃ a c, v = .slice (some a) m.zs.length c ∧ Rd w B 1 (some a) m.zs.length (Ms.intsV m.zs)
  | none => v = .slice none 0 0
theorem HeardRd.of {w : World} {base : Nat} {o : Option Ms.Msg} {v : Value} (h : Ms.HeardAs w base o v) : HeardRd w w.heap.size o v := by
  cases o with
  | none => exact h
  | some m => obtain ⟨a, c, rfl, h2⟩ := h; exact ⟨a, c, rfl, Rd.of_own h2⟩
theorem HeardRd.below {w w' : World} {B : Nat} {o : Option Ms.Msg} {v : Value} (h : HeardRd w B o v) (hb : Below B w w') : HeardRd w' B o v := by
  cases o with
  | none => exact h
  | some m => obtain ⟨a, c, e, h2⟩ := h; exact ⟨a, c, e, h2.below hb⟩
theorem HeardRd.more {w : World} {B B' : Nat} {o : Option Ms.Msg} {v : Value} (h : HeardRd w B o v) (hB : B ≤ B') : HeardRd w B' o v := by
  cases o with
  | none => exact h
  | some m => obtain ⟨a, c, e, h2⟩ := h; exact ⟨a, c, e, h2.more hB⟩

set_option maxRecDepth 100000 in
set_option maxHeartbeats 2000000 in
theorem told_any (s : Nat → Value) (o : Nat → Option Ms.Msg) (id ab kk : Nat) (hid : id < 4) (hab : ab < 4) (hne : ab ≠ id) (w : World) (hs : ∀ i : Nat, i < 4 → HeardRd w w.heap.size (o i) (s i)) (hz : ∀ i m, o i = some m → kk < m.zs.length ∧ m.zs.length ≤ 100) :
    Calls Try.prog 43 #[.agg (row 4 s), .int .i64 (id : Int), .int .i64 (ab : Int), .int .i64 (kk : Int)] w fun e w' =>
      e = .returned (.agg (rowF .i64 2 (pairF (toldL id ab kk o 4)))) ∧ Below w.heap.size w w' := by
  have hi : (Try.prog.info? 78).map (·.size) = some (row 4 s).size := by rw [row_size]; kernel_rfl
  have hix := fun (j : Nat) (hj : j < 4) (w : World) => run_index_slices s j hj w
  have HIX := Lib.hid hix
  have HS := Lib.hid hs
  have HZ := Lib.hid hz
  clear hix hs hz
  generalize row 4 s = R4 at *
  go_enter Try.func43, Try.ntmps43
  go_upto_region 3 with fail
  have HH := Lib.hid (show Blk (((w.alloc (.cells R4 78)).alloc (.cells #[.int .i64 0, .int .i64 0] 80)).alloc (.cells #[.int .i64 0, .int .i64 0] 80)) w.heap.size 78 R4 from ((Blk.new rfl).alloc _).alloc _)
  have HR := Lib.hid (show Blk (((w.alloc (.cells R4 78)).alloc (.cells #[.int .i64 0, .int .i64 0] 80)).alloc (.cells #[.int .i64 0, .int .i64 0] 80)) (w.heap.size + 1) 80 (rowF .i64 2 fun _ => 0) from (Blk.new (by simp)).alloc _)
  have HO := Lib.hid (show Blk (((w.alloc (.cells R4 78)).alloc (.cells #[.int .i64 0, .int .i64 0] 80)).alloc (.cells #[.int .i64 0, .int .i64 0] 80)) (w.heap.size + 1 + 1) 80 (rowF .i64 2 fun _ => 0) from Blk.new (by simp))
  have HB := Lib.hid (show Below w.heap.size w (((w.alloc (.cells R4 78)).alloc (.cells #[.int .i64 0, .int .i64 0] 80)).alloc (.cells #[.int .i64 0, .int .i64 0] 80)) from (((Below.refl _ _).alloc (by omega) _).alloc (by simp) _).alloc (by simp; omega) _)
  generalize (((w.alloc (.cells R4 78)).alloc (.cells #[.int .i64 0, .int .i64 0] 80)).alloc (.cells #[.int .i64 0, .int .i64 0] 80)) = w1 at *
  obtain ⟨gb, hgb⟩ : ∃ g, w.heap.size = g := ⟨_, rfl⟩
  have HGB := Lib.hid hgb
  rw [hgb] at HH HR HO ⊢
  clear hgb
  obtain ⟨gr, hgr⟩ : ∃ g, gb + 1 = g := ⟨_, rfl⟩
  rw [hgr] at HR HO ⊢
  obtain ⟨go, hgo⟩ : ∃ g, gr + 1 = g := ⟨_, rfl⟩
  rw [hgo] at HO ⊢
  have h1 : gb < gr := by omega
  have h2 : gr < go := by omega
  clear hgr hgo
  have HB := Lib.hid (show Below gb w w1 from by have h := HB.out; rw [HGB.out] at h; exact h)
  go_wp2_with (refine wpList_whole rfl 78 _ rfl gb rfl HH.out _ Try.underlying78 rfl hi ?_)
  go_loopw [10, 14] (fun a i wr => ∃ r : Nat, r ≤ 4 ∧ i = .int .i64 (r : Int) ∧ a = .int .i64 ((toldL id ab kk o r).length : Int) ∧ Blk wr gb 78 R4 ∧ Blk wr gr 80 (rowF .i64 2 fun _ => 0) ∧ Blk wr go 80 (rowF .i64 2 (pairF (toldL id ab kk o r))) ∧ Below gb w wr) (fun _ i _ => 4 - (intOf i).toNat)
  case atStart => exact ⟨0, by omega, rfl, rfl, HH.out, HR.out, HO.out, HB.out⟩
  case round =>
    clear HH HR HO HB
    obtain ⟨r, hr, rfl, rfl, hh, hrr, ho, hb⟩ := hrel
    have HH := Lib.hid hh
    have HR := Lib.hid hrr
    have HO := Lib.hid ho
    have HB := Lib.hid hb
    clear hh hrr ho hb
    by_cases hlt : r < 4
    · have hix := fun w => HIX.out r hlt w
      have hsr := (HS.out r hlt)
      have hk0 : (0 : Int) ≤ (kk : Int) := by omega
      by_cases e1 : (r : Int) = (id : Int)
      · have e1' : ((r : Int) == (id : Int)) = true := by simpa using e1
        have HT := Lib.hid (show toldL id ab kk o (r + 1) = toldL id ab kk o r by rw [toldL_succ, if_neg (by omega), List.append_nil])
        clear e1 hsr
        go_wp2_with fail
        exact ⟨⟨r + 1, by omega, by go_num, by rw [HT.out], HH.out, HR.out, by rw [HT.out]; exact HO.out, HB.out⟩, by simp [intOf]; omega⟩
      · have e1' : ((r : Int) == (id : Int)) = false := by simpa using e1
        by_cases e2 : (r : Int) = (ab : Int)
        · have e2' : ((r : Int) == (ab : Int)) = true := by simpa using e2
          have HT := Lib.hid (show toldL id ab kk o (r + 1) = toldL id ab kk o r by rw [toldL_succ, if_neg (by omega), List.append_nil])
          clear e1 e2 hsr
          go_wp2_with fail
          exact ⟨⟨r + 1, by omega, by go_num, by rw [HT.out], HH.out, HR.out, by rw [HT.out]; exact HO.out, HB.out⟩, by simp [intOf]; omega⟩
        · have e2' : ((r : Int) == (ab : Int)) = false := by simpa using e2
          have hroom := toldL_room (k := kk) (o := o) hid hab hne hlt (show r ≠ id ∧ r ≠ ab by omega)
          have HT := Lib.hid (show toldL id ab kk o (r + 1) = toldL id ab kk o r ++ [numAt kk (o r)] by rw [toldL_succ, if_pos (by omega)])
          have hlen := toldL_le id ab kk o r
          cases hor : o r with
          | none =>
            rw [hor] at hsr HT
            have hsn : s r = .slice none 0 0 := hsr
            rw [hsn] at hix
            have HL := Lib.hid (show ((toldL id ab kk o r ++ [numAt kk none]).length : Int) = (((toldL id ab kk o r).length : Int) + 1) by simp)
            have HP := Lib.hid (fun j => show pairF (toldL id ab kk o r ++ [numAt kk none]) j = pairF (toldL id ab kk o r) j from pair_nought j)
            generalize toldL id ab kk o r = tl at *
            obtain ⟨q, hq⟩ : ∃ q, tl.length = q := ⟨_, rfl⟩
            rw [hq] at HL hroom hlen ⊢
            have HQ := Lib.hid hq
            clear hq e1 e2 hsr hsn hor
            go_wp2_with fail
            refine ⟨⟨r + 1, by omega, by go_num, ?_, HH.out, HR.out, ?_, HB.out⟩, by simp [intOf]; omega⟩
            · rw [HT.out, HL.out]
            · rw [HT.out, show pairF (tl ++ [numAt kk none]) = pairF tl from funext HP.out]
              exact HO.out
          | some m =>
            obtain ⟨hkm, hkl⟩ := HZ.out r m hor
            rw [hor] at hsr HT
            obtain ⟨a, ca, hsv, hrd⟩ := hsr
            rw [hsv] at hix
            have hrd := hrd.below (HB.out.mono (Nat.le_of_eq HGB.out))
            obtain ⟨b, of, u, e3, hbB, hu, hcell⟩ := hrd.at hkm
            injection e3 with e3
            subst e3
            obtain ⟨z, hz⟩ : ∃ z, u = .int .i64 z ∧ m.zs.getD kk 0 = z := by
              refine ⟨m.zs.getD kk 0, ?_, rfl⟩
              have : (Ms.intsV m.zs)[kk]? = some (.int .i64 (m.zs.getD kk 0)) := by
                unfold Ms.intsV
                rw [List.getElem?_map, List.getD_eq_getElem?_getD, List.getElem?_eq_getElem hkm]
                rfl
              rw [this] at hu
              exact (Option.some.inj hu).symm
            obtain ⟨rfl, hz⟩ := hz
            have HNZ := Lib.hid (show numAt kk (some m) = z from hz)
            have HL := Lib.hid (show ((toldL id ab kk o r ++ [z]).length : Int) = (((toldL id ab kk o r).length : Int) + 1) by simp)
            have HP := Lib.hid (fun j => show pairF (toldL id ab kk o r ++ [z]) j = if j = (toldL id ab kk o r).length then z else pairF (toldL id ab kk o r) j from pair_put z j)
            generalize toldL id ab kk o r = tl at *
            obtain ⟨q, hq⟩ : ∃ q, tl.length = q := ⟨_, rfl⟩
            rw [hq] at HL hroom hlen HP ⊢
            have HQ := Lib.hid hq
            have hq0 : (0 : Int) ≤ (q : Int) := by omega
            have hq1 : (q : Int) < 2 := by omega
            have hkm' : (kk : Int) < (m.zs.length : Int) := by omega
            have f1 := HO.out.thaw q
            have x1 : wr.cell? ⟨go, q, none⟩ = some (.int .i64 (pairF tl q)) := by rw [HO.out.cell]; rw [rowF_at _ _ _ _ (by omega)]
            clear hq e1 e2 hsv hor hz hu
            go_wp2_with fail
            refine ⟨⟨r + 1, by omega, by go_num, ?_, HH.out.other (p := ⟨go, q, none⟩) (by show gb ≠ go; omega) _, HR.out.other (p := ⟨go, q, none⟩) (by show gr ≠ go; omega) _, ?_, HB.out.setCell (p := ⟨go, q, none⟩) (by show gb ≤ go; omega) _⟩, by simp [intOf]; omega⟩
            · rw [HT.out, HNZ.out, HL.out]
            · rw [HT.out, HNZ.out]
              have h := HO.out.set q (.int .i64 z)
              rwa [rowF_set (g := pairF (tl ++ [z])) (fun i hi => HP.out i)] at h
    · obtain rfl : r = 4 := by omega
      clear hlt
      rw [show ((4 : Nat) : Int) = 4 from rfl]
      have i2 : (Try.prog.info? 80).map (·.size) = some (rowF .i64 2 (pairF (toldL id ab kk o 4))).size := by rw [rowF_size]; kernel_rfl
      have z2 : (rowF .i64 2 fun _ => 0).size = (rowF .i64 2 (pairF (toldL id ab kk o 4))).size := by rw [rowF_size, rowF_size]
      have o2 : (rowF .i64 2 (pairF (toldL id ab kk o 4))).all (·.oneCell') = true := rowF_one
      obtain ⟨RP, hRP⟩ : ∃ RP, rowF .i64 2 (pairF (toldL id ab kk o 4)) = RP := ⟨_, rfl⟩
      rw [hRP] at HO i2 z2 o2
      have HRP := Lib.hid hRP
      clear hRP
      go_wp2_with (first | (refine wpList_whole rfl 80 _ rfl go rfl HO.out _ Try.underlying80 rfl i2 ?_) | (refine wpList_store_row rfl 80 _ _ rfl gr RP rfl rfl 80 _ HR.out i2 z2 o2 ?_))
      exact ret_row rfl rfl (HR.out.setRow RP) Try.underlying80 rfl i2 rfl ⟨by rw [HRP.out], by rw [HGB.out]; exact below_setRow HB.out (by omega) RP⟩
end Go.Proofs.Ytjfllpmiajkenaa.Nd
