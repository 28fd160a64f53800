import Derived.Test.YtjfllpmiajkenaaGreatPk7
import Derived.Test.YtjfllpmiajkenaaGreatPk3
import Derived.WalkSpells
import Derived.WalkLawsBesides
import Derived.Deep.RegionHeld3
import Derived.Test.YtjfllpmiajkenaaGreatPk4
import Derived.Test.YtjfllpmiajkenaaGreatPk2
import Derived.Deep.DeepCutAuto
import Derived.Test.YtjfllpmiajkenaaGreatPk1
import Derived.Test.YtjfllpmiajkenaaGreatPk5
import Derived.Shelf.SortM.Plain
import Derived.Shelf.SortM.SortNone
import Derived.Test.YtjfllpmiajkenaaGreatProg
namespace Go.Proofs.YtjfllpmiajkenaaGreat.Nd
open Go.RowKit Go.Proofs.YtjfllpmiajkenaaGreat.Mem Go.Proofs.YtjfllpmiajkenaaGreat.Rws Go.Proofs.YtjfllpmiajkenaaGreat.Flat Go.Proofs.YtjfllpmiajkenaaGreat.Av
set_option linter.unusedVariables false
set_option linter.unusedSimpArgs false
def numAt (k : Nat) : Option Ms.Msg → Int
  | some m => m.zs.getD k 0
  | none => 0
def toldL (id ab k : Nat) (o : Nat → Option Ms.Msg) (r : Nat) : List Int := toldF id ab (fun p _ => numAt k (o p)) r
theorem toldL_succ (id ab k : Nat) (o : Nat → Option Ms.Msg) (r : Nat) : toldL id ab k o (r + 1) = toldL id ab k o r ++ if r ≠ id ∧ r ≠ ab then [numAt k (o r)] else [] := toldF_succ id ab _ r
theorem toldL_two {id ab : Nat} (k : Nat) (o : Nat → Option Ms.Msg) (h1 : id < 4) (h2 : ab < 4) (hne : ab ≠ id) : (toldL id ab k o 4).length = 2 := toldF_length id ab h1 h2 hne _
theorem toldL_mono (id ab k : Nat) (o : Nat → Option Ms.Msg) (r : Nat) : ∀ d, (toldL id ab k o r).length ≤ (toldL id ab k o (r + d)).length
  | 0 => Nat.le_refl _
  | d + 1 => by
    have h := toldL_mono id ab k o r d
    rw [← Nat.add_assoc, toldL_succ, List.length_append]
    omega
theorem toldL_room {id ab k : Nat} {o : Nat → Option Ms.Msg} (h1 : id < 4) (h2 : ab < 4) (hne : ab ≠ id) {r : Nat} (hr : r < 4) (ht : r ≠ id ∧ r ≠ ab) : (toldL id ab k o r).length < 2 := by
  have h := toldL_mono id ab k o (r + 1) (4 - (r + 1))
  rw [show r + 1 + (4 - (r + 1)) = 4 by omega, toldL_two k o h1 h2 hne, toldL_succ, if_pos ht, List.length_append, List.length_singleton] at h
  omega
theorem toldL_le (id ab k : Nat) (o : Nat → Option Ms.Msg) (r : Nat) : (toldL id ab k o r).length ≤ r := by
  unfold toldL toldF
  rw [List.length_map]
  exact Nat.le_trans (List.length_filter_le _ _) (by simp)
def pairF (l : List Int) (i : Nat) : Int := l.getD i 0
theorem pair_put {l : List Int} (x : Int) (j : Nat) : pairF (l ++ [x]) j = if j = l.length then x else pairF l j := by
  unfold pairF
  rw [List.getD_eq_getElem?_getD, List.getD_eq_getElem?_getD]
  by_cases e : j = l.length
  · rw [if_pos e, e]; simp
  · rw [if_neg e]
    by_cases h : j < l.length
    · rw [List.getElem?_append_left h]
    · rw [List.getElem?_eq_none (by simp; omega), List.getElem?_eq_none (by omega)]
theorem pair_nought {l : List Int} (j : Nat) : pairF (l ++ [0]) j = pairF l j := by
  rw [pair_put]
  by_cases e : j = l.length
  · rw [if_pos e, e]; simp [pairF, List.getD_eq_getElem?_getD]
  · rw [if_neg e]
def HeardRd (w : World) (B : Nat) (o : Option Ms.Msg) (v : Value) : Prop :=
  match o with
  | some m => ∃ a c, v = .slice (some a) m.zs.length c ∧ Rd w B 1 (some a) m.zs.length (Ms.intsV m.zs)
  | none => v = .slice none 0 0
theorem HeardRd.of {w : World} {base : Nat} {o : Option Ms.Msg} {v : Value} (h : Ms.HeardAs w base o v) : HeardRd w w.heap.size o v := by
  cases o with
  | none => exact h
  | some m => obtain ⟨a, c, rfl, h2⟩ := h; exact ⟨a, c, rfl, Rd.of_own h2⟩
theorem HeardRd.below {w w' : World} {B : Nat} {o : Option Ms.Msg} {v : Value} (h : HeardRd w B o v) (hb : Below B w w') : HeardRd w' B o v := by
  cases o with
  | none => exact h
  | some m => obtain ⟨a, c, e, h2⟩ := h; exact ⟨a, c, e, h2.below hb⟩
theorem HeardRd.more {w : World} {B B' : Nat} {o : Option Ms.Msg} {v : Value} (h : HeardRd w B o v) (hB : B ≤ B') : HeardRd w B' o v := by
  cases o with
  | none => exact h
  | some m => obtain ⟨a, c, e, h2⟩ := h; exact ⟨a, c, e, h2.more hB⟩
set_option maxRecDepth 100000 in
set_option maxHeartbeats 2000000 in
theorem told_any (s : Nat → Value) (o : Nat → Option Ms.Msg) (id ab kk : Nat) (hid : id < 4) (hab : ab < 4) (hne : ab ≠ id) (w : World) (hs : ∀ i : Nat, i < 4 → HeardRd w w.heap.size (o i) (s i)) (hz : ∀ i m, o i = some m → kk < m.zs.length ∧ m.zs.length ≤ 100) :
    Calls Tryz.prog 25 #[.agg (row 4 s), .int .i64 (id : Int), .int .i64 (ab : Int), .int .i64 (kk : Int)] w fun e w' =>
      e = .returned (.agg (rowF .i64 2 (pairF (toldL id ab kk o 4)))) ∧ Below w.heap.size w w' := by
  have hi : (Tryz.prog.info? 70).map (·.size) = some (row 4 s).size := by rw [row_size]; kernel_rfl
  have hix := fun (j : Nat) (hj : j < 4) (w : World) => run_index_slices s j hj w
  have HIX := Lib.hid hix
  have HS := Lib.hid hs
  have HZ := Lib.hid hz
  clear hix hs hz
  generalize row 4 s = R4 at *
  go_enter Tryz.func25, Tryz.ntmps25
  go_upto_region 3 with fail
  have HH := Lib.hid (show Blk (((w.alloc (.cells R4 70)).alloc (.cells #[.int .i64 0, .int .i64 0] 72)).alloc (.cells #[.int .i64 0, .int .i64 0] 72)) w.heap.size 70 R4 from ((Blk.new rfl).alloc _).alloc _)
  have HR := Lib.hid (show Blk (((w.alloc (.cells R4 70)).alloc (.cells #[.int .i64 0, .int .i64 0] 72)).alloc (.cells #[.int .i64 0, .int .i64 0] 72)) (w.heap.size + 1) 72 (rowF .i64 2 fun _ => 0) from (Blk.new (by simp)).alloc _)
  have HO := Lib.hid (show Blk (((w.alloc (.cells R4 70)).alloc (.cells #[.int .i64 0, .int .i64 0] 72)).alloc (.cells #[.int .i64 0, .int .i64 0] 72)) (w.heap.size + 1 + 1) 72 (rowF .i64 2 fun _ => 0) from Blk.new (by simp))
  have HB := Lib.hid (show Below w.heap.size w (((w.alloc (.cells R4 70)).alloc (.cells #[.int .i64 0, .int .i64 0] 72)).alloc (.cells #[.int .i64 0, .int .i64 0] 72)) from (((Below.refl _ _).alloc (by omega) _).alloc (by simp) _).alloc (by simp; omega) _)
  generalize (((w.alloc (.cells R4 70)).alloc (.cells #[.int .i64 0, .int .i64 0] 72)).alloc (.cells #[.int .i64 0, .int .i64 0] 72)) = w1 at *
  obtain ⟨gb, hgb⟩ : ∃ g, w.heap.size = g := ⟨_, rfl⟩
  have HGB := Lib.hid hgb
  rw [hgb] at HH HR HO ⊢
  clear hgb
  obtain ⟨gr, hgr⟩ : ∃ g, gb + 1 = g := ⟨_, rfl⟩
  rw [hgr] at HR HO ⊢
  obtain ⟨go, hgo⟩ : ∃ g, gr + 1 = g := ⟨_, rfl⟩
  rw [hgo] at HO ⊢
  have h1 : gb < gr := by omega
  have h2 : gr < go := by omega
  clear hgr hgo
  have HB := Lib.hid (show Below gb w w1 from by have h := HB.out; rw [HGB.out] at h; exact h)
  go_wp2_with (refine wpList_whole rfl 70 _ rfl gb rfl HH.out _ Tryz.underlying70 rfl hi ?_)
  go_loopw [10, 14] (fun a i wr => ∃ r : Nat, r ≤ 4 ∧ i = .int .i64 (r : Int) ∧ a = .int .i64 ((toldL id ab kk o r).length : Int) ∧ Blk wr gb 70 R4 ∧ Blk wr gr 72 (rowF .i64 2 fun _ => 0) ∧ Blk wr go 72 (rowF .i64 2 (pairF (toldL id ab kk o r))) ∧ Below gb w wr) (fun _ i _ => 4 - (intOf i).toNat)
  case atStart => exact ⟨0, by omega, rfl, rfl, HH.out, HR.out, HO.out, HB.out⟩
  case round =>
    clear HH HR HO HB
    obtain ⟨r, hr, rfl, rfl, hh, hrr, ho, hb⟩ := hrel
    have HH := Lib.hid hh
    have HR := Lib.hid hrr
    have HO := Lib.hid ho
    have HB := Lib.hid hb
    clear hh hrr ho hb
    by_cases hlt : r < 4
    · have hix := fun w => HIX.out r hlt w
      have hsr := (HS.out r hlt)
      have hk0 : (0 : Int) ≤ (kk : Int) := by omega
      by_cases e1 : (r : Int) = (id : Int)
      · have e1' : ((r : Int) == (id : Int)) = true := by simpa using e1
        have HT := Lib.hid (show toldL id ab kk o (r + 1) = toldL id ab kk o r by rw [toldL_succ, if_neg (by omega), List.append_nil])
        clear e1 hsr
        go_wp2_with fail
        exact ⟨⟨r + 1, by omega, by go_num, by rw [HT.out], HH.out, HR.out, by rw [HT.out]; exact HO.out, HB.out⟩, by simp [intOf]; omega⟩
      · have e1' : ((r : Int) == (id : Int)) = false := by simpa using e1
        by_cases e2 : (r : Int) = (ab : Int)
        · have e2' : ((r : Int) == (ab : Int)) = true := by simpa using e2
          have HT := Lib.hid (show toldL id ab kk o (r + 1) = toldL id ab kk o r by rw [toldL_succ, if_neg (by omega), List.append_nil])
          clear e1 e2 hsr
          go_wp2_with fail
          exact ⟨⟨r + 1, by omega, by go_num, by rw [HT.out], HH.out, HR.out, by rw [HT.out]; exact HO.out, HB.out⟩, by simp [intOf]; omega⟩
        · have e2' : ((r : Int) == (ab : Int)) = false := by simpa using e2
          have hroom := toldL_room (k := kk) (o := o) hid hab hne hlt (show r ≠ id ∧ r ≠ ab by omega)
          have HT := Lib.hid (show toldL id ab kk o (r + 1) = toldL id ab kk o r ++ [numAt kk (o r)] by rw [toldL_succ, if_pos (by omega)])
          have hlen := toldL_le id ab kk o r
          cases hor : o r with
          | none =>
            rw [hor] at hsr HT
            have hsn : s r = .slice none 0 0 := hsr
            rw [hsn] at hix
            have HL := Lib.hid (show ((toldL id ab kk o r ++ [numAt kk none]).length : Int) = (((toldL id ab kk o r).length : Int) + 1) by simp)
            have HP := Lib.hid (fun j => show pairF (toldL id ab kk o r ++ [numAt kk none]) j = pairF (toldL id ab kk o r) j from pair_nought j)
            generalize toldL id ab kk o r = tl at *
            obtain ⟨q, hq⟩ : ∃ q, tl.length = q := ⟨_, rfl⟩
            rw [hq] at HL hroom hlen ⊢
            have HQ := Lib.hid hq
            clear hq e1 e2 hsr hsn hor
            go_wp2_with fail
            refine ⟨⟨r + 1, by omega, by go_num, ?_, HH.out, HR.out, ?_, HB.out⟩, by simp [intOf]; omega⟩
            · rw [HT.out, HL.out]
            · rw [HT.out, show pairF (tl ++ [numAt kk none]) = pairF tl from funext HP.out]
              exact HO.out
          | some m =>
            obtain ⟨hkm, hkl⟩ := HZ.out r m hor
            rw [hor] at hsr HT
            obtain ⟨a, ca, hsv, hrd⟩ := hsr
            rw [hsv] at hix
            have hrd := hrd.below (HB.out.mono (Nat.le_of_eq HGB.out))
            obtain ⟨b, of, u, e3, hbB, hu, hcell⟩ := hrd.at hkm
            injection e3 with e3
            subst e3
            obtain ⟨z, hz⟩ : ∃ z, u = .int .i64 z ∧ m.zs.getD kk 0 = z := by
              refine ⟨m.zs.getD kk 0, ?_, rfl⟩
              have : (Ms.intsV m.zs)[kk]? = some (.int .i64 (m.zs.getD kk 0)) := by
                unfold Ms.intsV
                rw [List.getElem?_map, List.getD_eq_getElem?_getD, List.getElem?_eq_getElem hkm]
                rfl
              rw [this] at hu
              exact (Option.some.inj hu).symm
            obtain ⟨rfl, hz⟩ := hz
            have HNZ := Lib.hid (show numAt kk (some m) = z from hz)
            have HL := Lib.hid (show ((toldL id ab kk o r ++ [z]).length : Int) = (((toldL id ab kk o r).length : Int) + 1) by simp)
            have HP := Lib.hid (fun j => show pairF (toldL id ab kk o r ++ [z]) j = if j = (toldL id ab kk o r).length then z else pairF (toldL id ab kk o r) j from pair_put z j)
            generalize toldL id ab kk o r = tl at *
            obtain ⟨q, hq⟩ : ∃ q, tl.length = q := ⟨_, rfl⟩
            rw [hq] at HL hroom hlen HP ⊢
            have HQ := Lib.hid hq
            have hq0 : (0 : Int) ≤ (q : Int) := by omega
            have hq1 : (q : Int) < 2 := by omega
            have hkm' : (kk : Int) < (m.zs.length : Int) := by omega
            have f1 := HO.out.thaw q
            have x1 : wr.cell? ⟨go, q, none⟩ = some (.int .i64 (pairF tl q)) := by rw [HO.out.cell]; rw [rowF_at _ _ _ _ (by omega)]
            clear hq e1 e2 hsv hor hz hu
            go_wp2_with fail
            refine ⟨⟨r + 1, by omega, by go_num, ?_, HH.out.other (p := ⟨go, q, none⟩) (by show gb ≠ go; omega) _, HR.out.other (p := ⟨go, q, none⟩) (by show gr ≠ go; omega) _, ?_, HB.out.setCell (p := ⟨go, q, none⟩) (by show gb ≤ go; omega) _⟩, by simp [intOf]; omega⟩
            · rw [HT.out, HNZ.out, HL.out]
            · rw [HT.out, HNZ.out]
              have h := HO.out.set q (.int .i64 z)
              rwa [rowF_set (g := pairF (tl ++ [z])) (fun i hi => HP.out i)] at h
    · obtain rfl : r = 4 := by omega
      clear hlt
      rw [show ((4 : Nat) : Int) = 4 from rfl]
      have i2 : (Tryz.prog.info? 72).map (·.size) = some (rowF .i64 2 (pairF (toldL id ab kk o 4))).size := by rw [rowF_size]; kernel_rfl
      have z2 : (rowF .i64 2 fun _ => 0).size = (rowF .i64 2 (pairF (toldL id ab kk o 4))).size := by rw [rowF_size, rowF_size]
      have o2 : (rowF .i64 2 (pairF (toldL id ab kk o 4))).all (·.oneCell') = true := rowF_one
      obtain ⟨RP, hRP⟩ : ∃ RP, rowF .i64 2 (pairF (toldL id ab kk o 4)) = RP := ⟨_, rfl⟩
      rw [hRP] at HO i2 z2 o2
      have HRP := Lib.hid hRP
      clear hRP
      go_wp2_with (first | (refine wpList_whole rfl 72 _ rfl go rfl HO.out _ Tryz.underlying72 rfl i2 ?_) | (refine wpList_store_row rfl 72 _ _ rfl gr RP rfl rfl 72 _ HR.out i2 z2 o2 ?_))
      exact ret_row rfl rfl (HR.out.setRow RP) Tryz.underlying72 rfl i2 rfl ⟨by rw [HRP.out], by rw [HGB.out]; exact below_setRow HB.out (by omega) RP⟩
end Go.Proofs.YtjfllpmiajkenaaGreat.Nd
namespace Go.Proofs.YtjfllpmiajkenaaGreat.Mj
open Go.ChangeShapes Go.WideShapes Go.ChangeAt Go.RowKit Go.Proofs.YtjfllpmiajkenaaGreat.Mem Go.Proofs.YtjfllpmiajkenaaGreat.MajLaw
set_option linter.unusedVariables false
def intsV (zs : List Int) : List Value := zs.map (Value.int .i64)
theorem intsV_at (zs : List Int) (k : Nat) (hk : k < zs.length) : (intsV zs)[k]? = some (.int .i64 zs[k]) := by simp [intsV, hk]
theorem intsV_one (zs : List Int) : ∀ u ∈ intsV zs, u.oneCell' = true := fun u hu => by
  obtain ⟨z, _, rfl⟩ := List.mem_map.1 hu
  rfl
theorem elemInts : Elem Tryz.prog 39 3 (.int .i64 0) 1 8 := ⟨Tryz.underlying39, by kernel_rfl, rfl, by omega⟩
theorem rd_of_blk {w : World} {g : Nat} {t : TypeId} {cs : Array Value} (h : Blk w g t cs) : Rd w (g + 1) 1 (some ⟨g, 0, none⟩) cs.size cs.toList :=
  ⟨by simp, fun _ => ⟨g, 0, rfl, by omega, fun j u hu => by rw [Nat.zero_add, h.cell]; simpa using hu⟩⟩
theorem majority_any (A : Option Addr) (c : Nat) (zs : List Int) (o : Int) (B : Nat) (w : World) (hl : zs.length ≤ 140737488355328) (hr : Rd w B 1 A zs.length (intsV zs)) :
    Calls Tryz.prog 55 #[.slice A zs.length c, .int .i64 o] w fun e w' => e = .returned (.int .i64 (maj zs o)) ∧ w = w' := by
  have HR := Lib.hid hr
  clear hr
  go_enter Tryz.func55, Tryz.ntmps55
  go_wp2_with fail
  go_loop [5, 6, 13] (fun n a i => ∃ k : Nat, k ≤ zs.length ∧ i = .int .i64 k ∧ n = .int .i64 ((left (zs.take k)).1 : Nat) ∧ a = .int .i64 (left (zs.take k)).2) (fun _ _ i => zs.length - (intOf i).toNat)
  case atStart => exact ⟨0, by omega, rfl, rfl, rfl⟩
  case round =>
    obtain ⟨k, hk, rfl, rfl, rfl⟩ := hrel
    by_cases hlt : k < zs.length
    · obtain ⟨b, q, u, rfl, hbB, hu, hcell⟩ := HR.out.at hlt
      rw [intsV_at zs k hlt] at hu
      injection hu with hu
      subst hu
      have HS := Lib.hid (left_take zs k hlt)
      have hle := left_le (zs.take k)
      rw [List.length_take, Nat.min_eq_left hk] at hle
      generalize left (zs.take k) = s at HS hle ⊢
      generalize zs[k] = v at HS hcell
      obtain ⟨n, a⟩ := s
      simp only at hle ⊢
      have hlt1 : (k : Int) < (zs.length : Int) := by omega
      by_cases h0 : n = 0
      · have HE := Lib.hid (show vstep (n, a) v = (1, v) from vstep_zero h0)
        have hb : ((n : Int) == 0) = true := by simp [h0]
        clear h0
        go_wp2_with fail
        exact ⟨⟨k + 1, by omega, by go_num, by rw [HS.out, HE.out]; rfl, by rw [HS.out, HE.out]⟩, by simp [intOf]; omega⟩
      · have hb : ((n : Int) == 0) = false := by simp [h0]
        by_cases h1 : v = a
        · have HE := Lib.hid (show vstep (n, a) v = (n + 1, a) from vstep_same h0 h1)
          have hb1 : (v == a) = true := by simp [h1]
          clear h0 h1
          go_wp2_with fail
          exact ⟨⟨k + 1, by omega, by go_num, by rw [HS.out, HE.out]; go_num, by rw [HS.out, HE.out]⟩, by simp [intOf]; omega⟩
        · have HE := Lib.hid (show vstep (n, a) v = (n - 1, a) from vstep_other h0 h1)
          have hb1 : (v == a) = false := by simp [h1]
          have hn1 : 1 ≤ n := by omega
          clear h0 h1
          go_wp2_with fail
          exact ⟨⟨k + 1, by omega, by go_num, by rw [HS.out, HE.out]; go_num, by rw [HS.out, HE.out]⟩, by simp [intOf]; omega⟩
    · obtain rfl : k = zs.length := by omega
      clear hlt
      have HM := Lib.hid (show maj zs o = if zs.length < 2 * cnt (left (zs.take zs.length)).2 (zs.take zs.length) then (left (zs.take zs.length)).2 else o by rw [List.take_length]; rfl)
      generalize left (zs.take zs.length) = s at HM ⊢
      obtain ⟨n, a⟩ := s
      simp only at HM ⊢
      go_wp2_with fail
      go_loop [5, 32] (fun n i => ∃ k : Nat, k ≤ zs.length ∧ i = .int .i64 k ∧ n = .int .i64 (cnt a (zs.take k) : Nat)) (fun _ i => zs.length - (intOf i).toNat)
      case atStart => exact ⟨0, by omega, rfl, rfl⟩
      case round =>
        obtain ⟨k, hk, rfl, rfl⟩ := hrel
        have hle := cnt_le a (zs.take k)
        rw [List.length_take, Nat.min_eq_left hk] at hle
        by_cases hlt : k < zs.length
        · obtain ⟨b, q, u, rfl, hbB, hu, hcell⟩ := HR.out.at hlt
          rw [intsV_at zs k hlt] at hu
          injection hu with hu
          subst hu
          have HS := Lib.hid (cnt_take a zs k hlt)
          generalize cnt a (zs.take k) = m at HS hle ⊢
          generalize zs[k] = v at HS hcell
          have hlt1 : (k : Int) < (zs.length : Int) := by omega
          by_cases h1 : v = a
          · have HE := Lib.hid (show (if v = a then 1 else 0) = 1 from if_pos h1)
            have hb1 : (v == a) = true := by simp [h1]
            clear h1
            go_wp2_with fail
            exact ⟨⟨k + 1, by omega, by go_num, by rw [HS.out, HE.out]; go_num⟩, by simp [intOf]; omega⟩
          · have HE := Lib.hid (show (if v = a then 1 else 0) = 0 from if_neg h1)
            have hb1 : (v == a) = false := by simp [h1]
            clear h1
            go_wp2_with fail
            exact ⟨⟨k + 1, by omega, by go_num, by rw [HS.out, HE.out]; go_num⟩, by simp [intOf]; omega⟩
        · obtain rfl : k = zs.length := by omega
          clear hlt
          generalize cnt a (zs.take zs.length) = m at HM hle ⊢
          by_cases hm : zs.length < 2 * m
          · have HE := Lib.hid (show (if zs.length < 2 * m then a else o) = a from if_pos hm)
            go_wp2_with fail
            go_ret
            exact ⟨by rw [HM.out, HE.out]; rfl, rfl⟩
          · have HE := Lib.hid (show (if zs.length < 2 * m then a else o) = o from if_neg hm)
            go_wp2_with fail
            go_ret
            exact ⟨by rw [HM.out, HE.out]; rfl, rfl⟩
theorem majorityref_any (A : Option Addr) (c : Nat) (zs : List Int) (o : Int) (B : Nat) (w : World) (hl : zs.length ≤ 140737488355328) (hr : Rd w B 1 A zs.length (intsV zs)) :
    Calls Tryz.prog 62 #[.slice A zs.length c, .int .i64 o] w fun e w' => e = .returned (.int .i64 (maj zs o)) ∧ w = w' := by
  have HR := Lib.hid hr
  clear hr
  go_enter Tryz.func62, Tryz.ntmps62
  go_wp2_with fail
  go_loop [12] (fun i => ∃ k : Nat, k ≤ zs.length ∧ i = .int .i64 k ∧ ∀ j (hj : j < zs.length), j < k → ¬ zs.length < 2 * cnt zs[j] zs) (fun i => zs.length - (intOf i).toNat)
  case atStart => exact ⟨0, by omega, rfl, fun j _ h => by omega⟩
  case round =>
    obtain ⟨k, hk, rfl, hj⟩ := hrel
    have HJ := Lib.hid hj
    clear hj
    by_cases hlt : k < zs.length
    · obtain ⟨b, q, u, rfl, hbB, hu, hcell⟩ := HR.out.at hlt
      rw [intsV_at zs k hlt] at hu
      injection hu with hu
      subst hu
      have HF := Lib.hid (show zs.length < 2 * cnt zs[k] zs → maj zs o = zs[k] from fun h => maj_found h)
      have HN := Lib.hid (show ¬ zs.length < 2 * cnt zs[k] zs → ∀ j (hj : j < zs.length), j < k + 1 → ¬ zs.length < 2 * cnt zs[j] zs from fun h j hj h1 => by
        by_cases e : j = k
        · subst e; exact h
        · exact HJ.out j hj (by omega))
      generalize zs[k] = v at hcell HF HN
      have hlt1 : (k : Int) < (zs.length : Int) := by omega
      go_wp2_with fail
      go_loop [7, 18] (fun n i => ∃ m : Nat, m ≤ zs.length ∧ i = .int .i64 m ∧ n = .int .i64 (cnt v (zs.take m) : Nat)) (fun _ i => zs.length - (intOf i).toNat)
      case atStart => exact ⟨0, by omega, rfl, rfl⟩
      case round =>
        obtain ⟨m, hm, rfl, rfl⟩ := hrel
        have hle := cnt_le v (zs.take m)
        rw [List.length_take, Nat.min_eq_left hm] at hle
        by_cases hlm : m < zs.length
        · obtain ⟨b', q', u, eA, hbB', hu, hcell'⟩ := HR.out.at hlm
          injection eA with eA
          injection eA with eA1 eA2
          subst eA1 eA2
          rw [intsV_at zs m hlm] at hu
          injection hu with hu
          subst hu
          have HS := Lib.hid (cnt_take v zs m hlm)
          generalize cnt v (zs.take m) = n at HS hle ⊢
          generalize zs[m] = x at HS hcell'
          have hlm1 : (m : Int) < (zs.length : Int) := by omega
          by_cases h1 : v = x
          · have HE := Lib.hid (show (if x = v then 1 else 0) = 1 from if_pos h1.symm)
            have hb1 : (v == x) = true := by simp [h1]
            clear h1
            go_wp2_with fail
            exact ⟨⟨m + 1, by omega, by go_num, by rw [HS.out, HE.out]; go_num⟩, by simp [intOf]; omega⟩
          · have HE := Lib.hid (show (if x = v then 1 else 0) = 0 from if_neg (fun e => h1 e.symm))
            have hb1 : (v == x) = false := by simp [h1]
            clear h1
            go_wp2_with fail
            exact ⟨⟨m + 1, by omega, by go_num, by rw [HS.out, HE.out]; go_num⟩, by simp [intOf]; omega⟩
        · obtain rfl : m = zs.length := by omega
          clear hlm
          rw [List.take_length] at hle ⊢
          generalize cnt v zs = n at HF HN hle ⊢
          by_cases hm : zs.length < 2 * n
          · have HF2 := Lib.hid (HF.out hm)
            go_wp2_with fail
            go_ret
            exact ⟨by rw [HF2.out]; rfl, rfl⟩
          · have HN2 := Lib.hid (HN.out hm)
            go_wp2_with fail
            exact ⟨⟨k + 1, by omega, by go_num, HN2.out⟩, by simp [intOf]; omega⟩
    · obtain rfl : k = zs.length := by omega
      have HF := Lib.hid (show maj zs o = o from maj_none fun i hi => HJ.out i hi hi)
      clear hlt
      go_wp2_with fail
      go_ret
      exact ⟨by rw [HF.out]; rfl, rfl⟩
theorem decide_any (a b c : Int) (w : World) :
    Calls Tryz.prog 26 #[.int .i64 a, .int .i64 b, .int .i64 c] w fun e w' => e = .returned (.int .i64 (maj [a, b, c] 0)) ∧ Below w.heap.size w w' := by
  have HB := Lib.hid (rd_of_blk (Blk.new (w := w) (t := 3) (cs := #[.int .i64 a, .int .i64 b, .int .i64 c]) rfl))
  go_enter Tryz.func26, Tryz.ntmps26
  go_wp2_with fail
  refine (majority_any _ 3 [a, b, c] 0 _ _ (by simp) HB.out).mono ?_
  rintro e w1 ⟨rfl, rfl⟩
  go_wp2_with fail
  go_ret
  exact ⟨rfl, (Below.refl _ _).alloc (Nat.le_refl _) _⟩
end Go.Proofs.YtjfllpmiajkenaaGreat.Mj
namespace Go.Proofs.YtjfllpmiajkenaaGreat.Nd
open Go.RowKit Go.Proofs.YtjfllpmiajkenaaGreat.Mem Go.Proofs.YtjfllpmiajkenaaGreat.Rws Go.Proofs.YtjfllpmiajkenaaGreat.Flat Go.Proofs.YtjfllpmiajkenaaGreat.Av
set_option linter.unusedVariables false
set_option linter.unusedSimpArgs false
def takenZ (id ab : Nat) (hd : Int) (k : Nat) (o : Nat → Option Ms.Msg) : Int := if ab = id then hd else MajLaw.maj (hd :: toldL id ab k o 4) 0
set_option maxRecDepth 100000 in
set_option maxHeartbeats 2000000 in
theorem taken_any (R : Array Value) (hi : (Tryz.prog.info? 37).map (·.size) = some R.size) (id : Nat) (hid : id < 4) (fr : Int) (h0 : R[0]? = some (.int .i64 (id : Int))) (h1 : R[1]? = some (.int .i64 fr)) (ab : Nat) (hab : ab < 4) (hd : Int) (kk many : Nat) (hkm : kk < many) (hmm : many ≤ 100) (A : Option Addr) (c : Nat) (ms : List Ms.Msg) (B : Nat) (w : World) (hB : B ≤ w.heap.size) (hl : ms.length ≤ 140737488355328) (hr : Ms.MsgsAt w B A ms) :
    Calls Tryz.prog 33 #[.agg R, .slice A ms.length c, .int .i64 (ab : Int), .int .i64 hd, .int .i64 (kk : Int), .int .i64 (many : Int)] w fun e w' =>
      e = .returned (.int .i64 (takenZ id ab hd kk (fun i => Ms.firstOf (id : Int) fr 2 many (i : Int) ms))) ∧ Below w.heap.size w w' := by
  obtain ⟨o, ho⟩ : ∃ o, (fun i : Nat => Ms.firstOf (id : Int) fr 2 many (i : Int) ms) = o := ⟨_, rfl⟩
  have HO := Lib.hid (fun i : Nat => show Ms.firstOf (id : Int) fr 2 many (i : Int) ms = o i from congrFun ho i)
  have HLN := Lib.hid (fun (i : Nat) m (h : o i = some m) => show m.zs.length = many from fit_len (by rw [HO.out]; exact h))
  rw [ho]
  clear ho
  have HMS := Lib.hid hr
  have H0 := Lib.hid h0
  have H1 := Lib.hid h1
  have HI := Lib.hid hi
  clear hr h0 h1 hi
  go_enter Tryz.func33, Tryz.ntmps33
  go_upto_region 1 with fail
  have HN := Lib.hid (show Blk (w.alloc (.cells R 37)) w.heap.size 37 R from Blk.fresh _ _ _)
  have HB := Lib.hid ((Below.refl w.heap.size w).alloc (Nat.le_refl _) (.cells R 37))
  generalize (w.alloc (.cells R 37)) = w1 at *
  obtain ⟨gn, hgn⟩ : ∃ g, w.heap.size = g := ⟨_, rfl⟩
  have HGN := Lib.hid hgn
  rw [hgn] at HN hB ⊢
  have HB := Lib.hid (show Below gn w w1 from by have h := HB.out; rw [HGN.out] at h; exact h)
  have x0 := (HN.out.cell 0).trans H0.out
  clear hgn
  by_cases e0 : ab = id
  · have e0' : ((ab : Int) == (id : Int)) = true := by subst e0; simp
    have HT := Lib.hid (show takenZ id ab hd kk o = hd from if_pos e0)
    clear e0
    go_wp2_with fail
    go_ret
    exact ⟨ret_int HT.out.symm, by rw [HGN.out]; exact HB.out⟩
  · have e0' : ((ab : Int) == (id : Int)) = false := by simpa using (show ¬ (ab : Int) = (id : Int) by omega)
    have HTK := Lib.hid (show takenZ id ab hd kk o = MajLaw.maj (hd :: toldL id ab kk o 4) 0 from if_neg e0)
    have hne := e0
    have hc0 := HN.out.lt
    clear e0
    go_upto_region 4 with fail
    have HL := Lib.hid (show (w1.alloc (.cells #[.int .i64 hd] 3)).ownsRow (gn + 1) 3 1 (.slice (some ⟨w1.heap.size, 0, none⟩) 1 1) 1 (Mj.intsV [hd]) from World.ownsRow_lit (base := gn + 1) (size := 1) (e := 3) w1 #[.int .i64 hd] 1 (by omega) (by unfold maxLen; omega) (by simp))
    have HN := Lib.hid (HN.out.alloc (.cells #[.int .i64 hd] 3))
    have HB := Lib.hid (HB.out.alloc (by omega) (.cells #[.int .i64 hd] 3))
    clear x0
    generalize (w1.alloc (.cells #[.int .i64 hd] 3)) = w2 at *
    generalize w1.heap.size = gx at *
    go_wp2_with fail
    go_loopw [13, 14] (fun lv iv wr => ∃ (p : Nat) (A7 : Option Addr) (c7 : Nat), p ≤ 4 ∧ lv = .slice A7 ((toldL id ab kk o p).length + 1) c7 ∧ iv = .int .i64 p ∧ wr.ownsRow (gn + 1) 3 1 (.slice A7 ((toldL id ab kk o p).length + 1) c7) ((toldL id ab kk o p).length + 1) (Mj.intsV (hd :: toldL id ab kk o p)) ∧ Blk wr gn 37 R ∧ Below gn w wr) (fun _ i _ => 4 - (intOf i).toNat)
    case atStart => exact ⟨0, some ⟨gx, 0, none⟩, 1, by omega, rfl, rfl, HL.out, HN.out, HB.out⟩
    case round =>
      clear HN HB HL
      obtain ⟨p, A7, c7, hp4, rfl, rfl, hll, hn, hb⟩ := hrel
      have HL := Lib.hid hll
      have HN := Lib.hid hn
      have HB := Lib.hid hb
      have y0 := (HN.out.cell 0).trans H0.out
      clear hn hb hll
      have hgr := HN.out.lt
      by_cases hlp : p < 4
      · have hlp1 : (p : Int) < 4 := by omega
        by_cases hps : p = id
        · have m1 : ((p : Int) == (id : Int)) = true := by simp [hps]
          have HT := Lib.hid (show toldL id ab kk o (p + 1) = toldL id ab kk o p from by rw [toldL_succ, if_neg (fun h => h.1 hps), List.append_nil])
          clear hps
          go_wp2_with fail
          exact ⟨⟨p + 1, A7, c7, by omega, by rw [HT.out], by go_num, by rw [HT.out]; exact HL.out, HN.out, HB.out⟩, by simp [intOf]; omega⟩
        · have m1 : ((p : Int) == (id : Int)) = false := by simp; omega
          by_cases hpq : p = ab
          · have m2 : ((p : Int) == (ab : Int)) = true := by simp [hpq]
            have HT := Lib.hid (show toldL id ab kk o (p + 1) = toldL id ab kk o p from by rw [toldL_succ, if_neg (fun h => h.2 hpq), List.append_nil])
            clear hps hpq
            go_wp2_with fail
            exact ⟨⟨p + 1, A7, c7, by omega, by rw [HT.out], by go_num, by rw [HT.out]; exact HL.out, HN.out, HB.out⟩, by simp [intOf]; omega⟩
          · have m2 : ((p : Int) == (ab : Int)) = false := by simp; omega
            have HT := Lib.hid (show toldL id ab kk o (p + 1) = toldL id ab kk o p ++ [numAt kk (o p)] by rw [toldL_succ, if_pos ⟨hps, hpq⟩])
            have hlen := toldL_le id ab kk o p
            clear hps hpq
            generalize toldL id ab kk o p = tl at *
            obtain ⟨q, hq⟩ : ∃ q, tl.length = q := ⟨_, rfl⟩
            rw [hq] at HL hlen ⊢
            have HLQ := Lib.hid hq
            clear hq
            have hi := HI.out
            go_wp2_with (refine wpList_whole rfl 37 _ rfl gn rfl HN.out _ Tryz.underlying37 rfl hi ?_)
            refine (Ms.first_any R (id : Int) fr H0.out H1.out A c ms (p : Int) 2 many B wr (by omega) hl (HMS.out.below (HB.out.mono hB))).mono ?_
            rintro e wf ⟨hf, hb⟩
            rw [HO.out p] at hf
            have HL := Lib.hid (ownsRow_below HL.out hb)
            have HN := Lib.hid (HN.out.below hb HN.out.lt)
            have HB := Lib.hid (onward HB.out (by have := HB.out.size; have := HGN.out; omega) hb)
            clear hb y0 hgr
            cases hor : o p with
            | none =>
              rw [hor] at hf HT
              obtain rfl : e = .returned (.tuple #[.slice none 0 0, .bool false]) := hf
              clear hor
              have HNZ := Lib.hid (show numAt kk none = 0 from rfl)
              have HSG := Lib.hid (Vt.rd_one wf (.int .i64 0) 3)
              have HOW := Lib.hid (ownsRow_below HL.out ((Below.refl wf.heap.size wf).alloc (Nat.le_refl _) (.cells #[.int .i64 0] 3)))
              have HBX := Lib.hid (HB.out.alloc (by have := HB.out.size; have := HGN.out; omega) (.cells #[.int .i64 0] 3))
              have HNX := Lib.hid (HN.out.alloc (.cells #[.int .i64 0] 3))
              have hgr := HNX.out.lt
              have hgf := HN.out.lt
              go_wp2_with (at_builtin; go_loud (refine wpList_append_rd _ rfl (.tmp 53) (.tmp 54) 39 rfl (base := gn + 1) Ms.elemInts rfl HOW.out rfl (fun h => by cases h) HSG.out (by simp [Value.oneCell']) (by unfold maxLen; omega) (by omega) (by simp; omega) ?_); intro A9 c9 w5 hA9 hown2 hg2; have HO5 := Lib.hid hown2; have HN5 := Lib.hid (HNX.out.grown hg2 (fun e => by have := (HOW.out.lt _ e.symm).1; omega)); have HB5 := Lib.hid (HBX.out.grown hg2 (by omega) (fun g e => by have := (HOW.out.lt g e).1; omega)); clear hA9 hown2 hg2)
              refine ⟨⟨p + 1, A9, c9, by omega, ?_, by go_num, ?_, HN5.out, HB5.out⟩, by simp [intOf]; omega⟩
              · rw [HT.out, List.length_append, HLQ.out]; rfl
              · rw [HT.out, List.length_append, HLQ.out, HNZ.out, show Mj.intsV (hd :: (tl ++ [0])) = Mj.intsV (hd :: tl) ++ [.int .i64 0] by simp [Mj.intsV]]
                exact HO5.out
            | some m =>
              have hlz := HLN.out p m hor
              rw [hor] at hf HT
              obtain ⟨a, ca, rfl, hac, hlc, hrd⟩ := hf
              have hkm2 : kk < m.zs.length := by omega
              obtain ⟨b, of, u, e3, hbB, hu, hcell⟩ := hrd.at hkm2
              subst e3
              obtain ⟨rfl, hz⟩ : u = .int .i64 (m.zs.getD kk 0) ∧ True := by
                have : (Ms.intsV m.zs)[kk]? = some (.int .i64 (m.zs.getD kk 0)) := by
                  unfold Ms.intsV
                  rw [List.getElem?_map, List.getD_eq_getElem?_getD, List.getElem?_eq_getElem hkm2]
                  rfl
                rw [this] at hu
                exact ⟨(Option.some.inj hu).symm, trivial⟩
              obtain ⟨z, hz⟩ : ∃ z, m.zs.getD kk 0 = z := ⟨_, rfl⟩
              have HNZ := Lib.hid (show numAt kk (some m) = z from hz)
              rw [hz] at hcell
              have hkz0 : (0 : Int) ≤ (kk : Int) := by omega
              have hkz1 : (kk : Int) < (m.zs.length : Int) := by omega
              clear hor hu hz hac
              have HSG := Lib.hid (Vt.rd_one wf (.int .i64 z) 3)
              have HOW := Lib.hid (ownsRow_below HL.out ((Below.refl wf.heap.size wf).alloc (Nat.le_refl _) (.cells #[.int .i64 z] 3)))
              have HBX := Lib.hid (HB.out.alloc (by have := HB.out.size; have := HGN.out; omega) (.cells #[.int .i64 z] 3))
              have HNX := Lib.hid (HN.out.alloc (.cells #[.int .i64 z] 3))
              have hgr := HNX.out.lt
              have hgf := HN.out.lt
              go_wp2_with (at_builtin; go_loud (refine wpList_append_rd _ rfl (.tmp 46) (.tmp 51) 39 rfl (base := gn + 1) Ms.elemInts rfl HOW.out rfl (fun h => by cases h) HSG.out (by simp [Value.oneCell']) (by unfold maxLen; omega) (by omega) (by simp; omega) ?_); intro A9 c9 w5 hA9 hown2 hg2; have HO5 := Lib.hid hown2; have HN5 := Lib.hid (HNX.out.grown hg2 (fun e => by have := (HOW.out.lt _ e.symm).1; omega)); have HB5 := Lib.hid (HBX.out.grown hg2 (by omega) (fun g e => by have := (HOW.out.lt g e).1; omega)); clear hA9 hown2 hg2)
              refine ⟨⟨p + 1, A9, c9, by omega, ?_, by go_num, ?_, HN5.out, HB5.out⟩, by simp [intOf]; omega⟩
              · rw [HT.out, List.length_append, HLQ.out]; rfl
              · rw [HT.out, List.length_append, HLQ.out, HNZ.out, show Mj.intsV (hd :: (tl ++ [z])) = Mj.intsV (hd :: tl) ++ [.int .i64 z] by simp [Mj.intsV]]
                exact HO5.out
      · obtain rfl : p = 4 := by omega
        clear hlp
        rw [show ((4 : Nat) : Int) = 4 from rfl]
        have HLen := Lib.hid (toldL_two kk o hid hab hne)
        obtain ⟨tl, htl⟩ : ∃ tl, toldL id ab kk o 4 = tl := ⟨_, rfl⟩
        rw [htl] at HTK HLen HL ⊢
        clear htl
        rw [HLen.out] at HL ⊢
        go_wp2_with fail
        have cM := Mj.majorityref_any A7 c7 (hd :: tl) 0 wr.heap.size wr (by rw [List.length_cons, HLen.out]; omega) (by rw [List.length_cons, HLen.out]; exact Rd.of_own HL.out)
        rw [show (hd :: tl).length = 3 by rw [List.length_cons, HLen.out]] at cM
        refine cM.mono ?_
        rintro e w9 ⟨rfl, rfl⟩
        go_wp2_with fail
        go_ret
        refine ⟨ret_int ?_, by rw [HGN.out]; exact HB.out⟩
        rw [HTK.out]
end Go.Proofs.YtjfllpmiajkenaaGreat.Nd
namespace Go.Proofs.YtjfllpmiajkenaaGreat.Nd
open Go.RowKit Go.Proofs.YtjfllpmiajkenaaGreat.Mem Go.Proofs.YtjfllpmiajkenaaGreat.Rws
set_option linter.unusedVariables false
def upd {α : Type} (g : Nat → α) (i : Nat) (v : α) (k : Nat) : α := if k = i then v else g k
structure RS where
  f : Nat → Bool
  m : Nat → Int
  j : Nat → Int
def RS.row (s : RS) : Array Value := Rws.row 12 (rollF s.f s.m s.j)
def one (s : RS) (i : Nat) (b : Bool) : RS × List (Int × Int) :=
  if s.f i = true then
    if b = true then (⟨s.f, upd s.m i 0, s.j⟩, [])
    else if 2 ≤ s.m i + 1 ∧ 2 < cntTo s.f 4 then (⟨upd s.f i false, upd s.m i 0, s.j⟩, [(1, (i : Int))])
    else (⟨s.f, upd s.m i (min (s.m i + 1) 2), s.j⟩, [])
  else if b = false then (⟨s.f, s.m, upd s.j i 0⟩, [])
  else if 3 ≤ s.j i + 1 then (⟨upd s.f i true, s.m, upd s.j i 0⟩, [(2, (i : Int))])
  else (⟨s.f, s.m, upd s.j i (s.j i + 1)⟩, [])
def many (s : RS) (ag : Nat → Bool) : Nat → RS × List (Int × Int)
  | 0 => (s, [])
  | k + 1 => ((one (many s ag k).1 k (ag k)).1, (many s ag k).2 ++ (one (many s ag k).1 k (ag k)).2)
end Go.Proofs.YtjfllpmiajkenaaGreat.Nd
namespace Go.Proofs.YtjfllpmiajkenaaGreat.Nd
open Go.RowKit Go.Proofs.YtjfllpmiajkenaaGreat.Mem Go.Proofs.YtjfllpmiajkenaaGreat.Rws Go.Proofs.YtjfllpmiajkenaaGreat.Flat
set_option linter.unusedVariables false
set_option linter.unusedSimpArgs false
def inB (f : Nat → Value) (i : Nat) : Bool := bv (f (27 + i))
theorem in_load {f : Nat → Value} (hf : ∀ i, i < 73 → okT (nodeT i) (f i)) (S : Value) : (row 4 fun j => nodeW f S (27 + j)) = row 4 fun i => .bool (inB f i) := row_congr fun i hi => by
  unfold nodeW
  rw [if_neg (by omega)]
  exact node_bool hf (27 + i) (by omega) (by omega)
theorem maj_mem (l : List Int) (o : Int) : MajLaw.maj l o = o ∨ MajLaw.maj l o ∈ l := by
  unfold MajLaw.maj
  split
  · next h =>
    right
    refine List.count_pos_iff.1 ?_
    show 0 < MajLaw.cnt (MajLaw.left l).2 l
    omega
  · exact .inl rfl
def Wf (z : Int) : Prop := (Lit.int .i64 z).wf = true
theorem wf_zero : Wf 0 := by unfold Wf; rfl
theorem wf_numAt {k : Nat} {o : Option Ms.Msg} (h : ∀ m, o = some m → ∀ z ∈ m.zs, Wf z) : Wf (numAt k o) := by
  cases o with
  | none => exact wf_zero
  | some m =>
    show Wf (m.zs.getD k 0)
    rw [List.getD_eq_getElem?_getD]
    cases e : m.zs[k]? with
    | none => exact wf_zero
    | some z => exact h m rfl z (List.mem_of_getElem? e)
theorem wf_taken {id ab : Nat} {hd : Int} {k : Nat} {o : Nat → Option Ms.Msg} (hh : Wf hd) (h : ∀ i m, o i = some m → ∀ z ∈ m.zs, Wf z) : Wf (takenZ id ab hd k o) := by
  unfold takenZ
  split
  · exact hh
  · rcases maj_mem (hd :: toldL id ab k o 4) 0 with e | e
    · rw [e]; exact wf_zero
    · generalize MajLaw.maj (hd :: toldL id ab k o 4) 0 = x at *
      rcases List.mem_cons.1 e with e | e
      · rw [e]; exact hh
      · unfold toldL Av.toldF at e
        obtain ⟨p, hp, e⟩ := List.mem_map.1 e
        rw [← e]
        exact wf_numAt fun m hm => h p m hm
end Go.Proofs.YtjfllpmiajkenaaGreat.Nd
namespace Go.Proofs.YtjfllpmiajkenaaGreat.Sl
open Go.Shelf
def sort_lay_ren : Go.Shelf.Ren := ⟨fun | 5 => 120 | 8 => 145 | 7 => 144 | 19 => 173 | 20 => 174 | 10 => 164 | 11 => 165 | 12 => 166 | 13 => 167 | 14 => 168 | 15 => 169 | 16 => 170 | 17 => 171 | 18 => 172 | 30 => 183 | 31 => 184 | 32 => 185 | 33 => 186 | 34 => 187 | 35 => 188 | 40 => 194 | n => n, fun | 23 => 39 | 25 => 3 | 3 => 3 | 32 => 109 | 22 => 39 | 0 => 0 | 44 => 173 | 46 => 150 | 4 => 4 | 36 => 203 | 35 => 202 | 41 => 171 | 5 => 5 | 9 => 9 | 53 => 219 | 57 => 222 | 63 => 229 | 64 => 230 | n => n, fun | n => n⟩
theorem sort_lay : Go.Proofs.SlLaysM.n5 Tryz.prog sort_lay_ren := {
  mixed := by kernel_rfl
  f5 := ⟨Tryz.f120.name, by decide, Tryz.func120.trans (congrArg some (by kernel_rfl))⟩
  f7 := ⟨Tryz.f144.name, by decide, Tryz.func144.trans (congrArg some (by kernel_rfl))⟩
  f8 := Tryz.func145.trans (congrArg some (by kernel_rfl))
  f10 := ⟨Tryz.f164.name, by decide, Tryz.func164.trans (congrArg some (by kernel_rfl))⟩
  f11 := ⟨Tryz.f165.name, by decide, Tryz.func165.trans (congrArg some (by kernel_rfl))⟩
  f12 := ⟨Tryz.f166.name, by decide, Tryz.func166.trans (congrArg some (by kernel_rfl))⟩
  f13 := ⟨Tryz.f167.name, by decide, Tryz.func167.trans (congrArg some (by kernel_rfl))⟩
  f14 := ⟨Tryz.f168.name, by decide, Tryz.func168.trans (congrArg some (by kernel_rfl))⟩
  f15 := ⟨Tryz.f169.name, by decide, Tryz.func169.trans (congrArg some (by kernel_rfl))⟩
  f16 := ⟨Tryz.f170.name, by decide, Tryz.func170.trans (congrArg some (by kernel_rfl))⟩
  f17 := ⟨Tryz.f171.name, by decide, Tryz.func171.trans (congrArg some (by kernel_rfl))⟩
  f18 := ⟨Tryz.f172.name, by decide, Tryz.func172.trans (congrArg some (by kernel_rfl))⟩
  f19 := Tryz.func173.trans (congrArg some (by kernel_rfl))
  f20 := Tryz.func174.trans (congrArg some (by kernel_rfl))
  f30 := ⟨Tryz.f183.name, by decide, Tryz.func183.trans (congrArg some (by kernel_rfl))⟩
  f31 := Tryz.func184.trans (congrArg some (by kernel_rfl))
  f32 := Tryz.func185.trans (congrArg some (by kernel_rfl))
  f33 := ⟨Tryz.f186.name, by decide, Tryz.func186.trans (congrArg some (by kernel_rfl))⟩
  f34 := ⟨Tryz.f187.name, by decide, Tryz.func187.trans (congrArg some (by kernel_rfl))⟩
  f35 := ⟨Tryz.f188.name, by decide, Tryz.func188.trans (congrArg some (by kernel_rfl))⟩
  f40 := ⟨Tryz.f194.name, by decide, Tryz.func194.trans (congrArg some (by kernel_rfl))⟩
  t0 := Tryz.underlying0
  a0 := Tryz.isAgg0
  z0 := Tryz.sizeOf0
  v0 := Tryz.zeroValue0
  t3 := Tryz.underlying3
  a3 := Tryz.isAgg3
  z3 := Tryz.sizeOf3
  v3 := Tryz.zeroValue3
  t4 := Tryz.underlying4
  a4 := Tryz.isAgg4
  z4 := Tryz.sizeOf4
  v4 := Tryz.zeroValue4
  t5 := Tryz.underlying5
  a5 := Tryz.isAgg5
  z5 := Tryz.sizeOf5
  v5 := Tryz.zeroValue5
  t9 := Tryz.underlying9
  a9 := Tryz.isAgg9
  z9 := Tryz.sizeOf9
  v9 := Tryz.zeroValue9
  t22 := Tryz.underlying39
  a22 := Tryz.isAgg39
  z22 := Tryz.sizeOf39
  v22 := Tryz.zeroValue39
  t23 := Tryz.underlying39
  a23 := Tryz.isAgg39
  z23 := Tryz.sizeOf39
  v23 := Tryz.zeroValue39
  t25 := Tryz.underlying3
  a25 := Tryz.isAgg3
  z25 := Tryz.sizeOf3
  v25 := Tryz.zeroValue3
  t32 := Tryz.underlying109
  a32 := Tryz.isAgg109
  z32 := Tryz.sizeOf109
  v32 := Tryz.zeroValue109
  t35 := Tryz.underlying202
  a35 := Tryz.isAgg202
  z35 := Tryz.sizeOf202
  v35 := Tryz.zeroValue202
  t36 := Tryz.underlying203
  a36 := Tryz.isAgg203
  z36 := Tryz.sizeOf203
  v36 := Tryz.zeroValue203
  t41 := Tryz.underlying171
  a41 := Tryz.isAgg171
  z41 := Tryz.sizeOf171
  v41 := Tryz.zeroValue171
  t44 := Tryz.underlying173
  a44 := Tryz.isAgg173
  z44 := Tryz.sizeOf173
  v44 := Tryz.zeroValue173
  t46 := Tryz.underlying150
  a46 := Tryz.isAgg150
  z46 := Tryz.sizeOf150
  v46 := Tryz.zeroValue150
  t53 := Tryz.underlying219
  a53 := Tryz.isAgg219
  z53 := Tryz.sizeOf219
  v53 := Tryz.zeroValue219
  t57 := Tryz.underlying222
  a57 := Tryz.isAgg222
  z57 := Tryz.sizeOf222
  v57 := Tryz.zeroValue222
  t63 := Tryz.underlying229
  a63 := Tryz.isAgg229
  z63 := Tryz.sizeOf229
  v63 := Tryz.zeroValue229
  t64 := Tryz.underlying230
  a64 := Tryz.isAgg230
  z64 := Tryz.sizeOf230
  v64 := Tryz.zeroValue230 }
end Go.Proofs.YtjfllpmiajkenaaGreat.Sl
