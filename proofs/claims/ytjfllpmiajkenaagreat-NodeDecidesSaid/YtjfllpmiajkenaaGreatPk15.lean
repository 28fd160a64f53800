import Derived.Lib.SlKeysI
import Derived.Test.YtjfllpmiajkenaaGreatPk8
import Derived.Test.YtjfllpmiajkenaaGreatPk9
import Derived.Test.YtjfllpmiajkenaaGreatPk14
import Derived.BigQuiet
import Derived.Test.YtjfllpmiajkenaaGreatPk0
import Derived.Test.YtjfllpmiajkenaaGreatPk11
import Derived.Deep.RegionLaw
namespace Go.Proofs.YtjfllpmiajkenaaGreat.Md
open Go.RowKit Go.Sort Go.Shelf Go.Proofs.YtjfllpmiajkenaaGreat.Mem Go.Proofs.YtjfllpmiajkenaaGreat.Ms
set_option linter.unusedVariables false
theorem sort_any (g : Nat) (c : Nat) (zs : List Int) (w : World) (hl : zs.length ≤ 1000) (hH : Holds (Value.int .i64) w g 0 zs.toArray) (hg : g < w.heap.size) :
    Calls Tryz.prog 120 #[.slice (some ⟨g, 0, none⟩) zs.length c] w fun e w' => e = .returned (.tuple #[]) ∧ ∃ n os, w' = grow (putRow (Value.int .i64) (Sort.ahead w n) g 0 (srt zs).toArray) os :=
  AnyM.slices_Sort_int Sl.sort_lay g 0 c zs w hH hg (by omega)
set_option maxRecDepth 100000 in
set_option maxHeartbeats 1000000 in
theorem sorted_any (A : Option Addr) (cap : Nat) (zs : List Int) (hl : zs.length ≤ 1000) (h0 : 0 < zs.length) (Bs : Nat) (w : World) (hBs : Bs < w.heap.size) (cs : w.cell? ⟨Bs, 0, none⟩ = some (.slice A zs.length cap)) (hr : Rd w w.heap.size 1 A zs.length (intsV zs)) :
    Calls Tryz.prog 86 #[.func (.func 121) #[] #[.pointer (some ⟨Bs, 0, none⟩)]] w fun e w' => ∃ g c, e = .returned (.slice (some ⟨g, 0, none⟩) zs.length c) ∧ zs.length ≤ c ∧ c ≤ maxLen ∧ w.heap.size ≤ g ∧ (∀ j, j < zs.length → w'.cell? ⟨g, j, none⟩ = some (.int .i64 ((srt zs).getD j 0))) ∧ Below w.heap.size w w' := by
  have C := Lib.hid (So.collect_any A cap zs hl Bs w hBs cs hr)
  clear cs hr
  go_enter Tryz.func86, Tryz.ntmps86
  go_wp2_with fail
  refine C.out.mono ?_
  rintro e w1 ⟨A1, c1, rfl, hown, hb⟩
  obtain ⟨_, ⟨_, hz⟩ | ⟨gb, cp, cur, hv, hbase, hgb, r1, r2, r3, r4⟩⟩ := hown
  · omega
  cases hv
  have hH : Holds encZ w1 gb 0 zs.toArray := holds_of_block_i hgb (by rw [Nat.mul_one] at r4; exact r4)
  have C2 := Lib.hid (sort_any gb c1 zs w1 hl hH (Array.getElem?_eq_some_iff.1 hgb).1)
  have HO := Lib.hid (fun (n : Nat) (os : Array Obj) => ownsRow_sorted_i (n := n) (os := os) (ts := srt zs) (srt_len zs) hbase hgb r1 r2 r3)
  have HG := Lib.hid (fun (n : Nat) (os : Array Obj) => grownBy_sorted_i (w := w1) (g := gb) (n := n) (os := os) (srt zs).toArray)
  have HB := Lib.hid hb
  have HX := Lib.hid (And.intro hbase (And.intro r1 r2))
  clear hH hgb hb hbase r1 r2 r3 r4 C
  go_wp2_with fail
  refine C2.out.mono ?_
  rintro e w2 ⟨rfl, n, os, rfl⟩
  have HO := Lib.hid (HO.out n os)
  have HB := Lib.hid (HB.out.grown (HG.out n os) HB.out.size (fun j hj => by cases hj; exact HX.out.1))
  have HE := Lib.hid (show encZ = Value.int .i64 from rfl)
  clear C2 HG
  rw [HE.out] at HO HB
  generalize (grow (putRow (Value.int .i64) (Sort.ahead w1 n) gb 0 (srt zs).toArray) os) = w2 at *
  go_wp2_with fail
  go_ret
  refine ⟨gb, c1, rfl, HX.out.2.1, HX.out.2.2, HX.out.1, fun j hj => ?_, HB.out⟩
  have h := HO.out.cells (g := gb) (j := j) rfl (u := .int .i64 ((srt zs).getD j 0)) (by
    rw [List.getElem?_map, List.getD_eq_getElem?_getD, List.getElem?_eq_getElem (by rw [srt_len]; exact hj)]
    rfl)
  have e : (⟨gb, 0, none⟩ : Addr).add j = ⟨gb, j, none⟩ := by unfold Addr.add; split <;> simp_all
  rwa [e] at h
set_option maxRecDepth 100000 in
set_option maxHeartbeats 1000000 in
theorem middle_any (A : Option Addr) (c : Nat) (zs : List Int) (B : Nat) (w : World) (hB : B ≤ w.heap.size) (hl : zs.length ≤ 140737488355328) (ho : ∀ z ∈ zs, -9223372036854775808 ≤ z ∧ z ≤ 9223372036854775807) (hr : Rd w B 1 A zs.length (intsV zs)) :
    Calls Tryz.prog 56 #[.slice A zs.length c] w fun e w' => e = .returned (.tuple #[.int .i64 (midZ zs).1, .int .i64 (midZ zs).2]) ∧ Below w.heap.size w w' := by
  have HR := Lib.hid hr
  have HO := Lib.hid ho
  have HZ := Lib.hid (show midZ zs = if zs.length = 0 ∨ 64 < zs.length then (0, 8) else (midOf zs, 0) from rfl)
  clear hr ho
  by_cases h0 : zs.length < 1
  · have hz := HZ.out.trans (if_pos (.inl (by omega)))
    have h0' : ((zs.length : Int) == 0) = true := beq_iff_eq.2 (by omega)
    have HZ2 := Lib.hid hz
    clear hz HZ h0
    go_enter Tryz.func56, Tryz.ntmps56
    go_wp2_with fail
    go_ret2
    exact ⟨by rw [HZ2.out]; rfl, Below.refl _ _⟩
  have h0' : ((zs.length : Int) == 0) = false := beq_eq_false_iff_ne.2 (by omega)
  by_cases h1 : 64 < zs.length
  · have hz := HZ.out.trans (if_pos (.inr h1))
    have h1' : (64 : Int) < (zs.length : Int) := by omega
    have HZ2 := Lib.hid hz
    clear hz HZ h0 h1
    go_enter Tryz.func56, Tryz.ntmps56
    go_wp2_with fail
    go_ret2
    exact ⟨by rw [HZ2.out]; rfl, Below.refl _ _⟩
  have HZ2 := Lib.hid (HZ.out.trans (if_neg (by omega)))
  have h1' : (zs.length : Int) ≤ 64 := by omega
  obtain ⟨k, hk⟩ : ∃ k : Nat, (zs.length - 1) / 3 = k := ⟨_, rfl⟩
  obtain ⟨q, hq⟩ : ∃ q : Nat, zs.length - k = q := ⟨_, rfl⟩
  obtain ⟨m, hm⟩ : ∃ m : Nat, q - k = m := ⟨_, rfl⟩
  obtain ⟨r, hr⟩ : ∃ r : Nat, m - 1 = r := ⟨_, rfl⟩
  have e1 : ((zs.length : Int) - 1) / 3 = (k : Int) := by omega
  have e2 : (zs.length : Int) - (k : Int) = (q : Int) := by omega
  have e3 : (m : Int) - 1 = (r : Int) := by omega
  have hkr : k + r = zs.length - 1 - k := by omega
  have HM := Lib.hid (show midOf zs = ((srt zs).getD k 0 + (srt zs).getD (k + r) 0) / 2 by unfold midOf; rw [hk, hkr])
  have X1 := Lib.hid (HO.out _ (srt_mem (l := zs) (k := k) (by omega)))
  have X2 := Lib.hid (HO.out _ (srt_mem (l := zs) (k := k + r) (by omega)))
  have XN := Lib.hid (show k < zs.length ∧ k + r < zs.length by omega)
  have a1 : (0 : Int) ≤ (k : Int) := by omega
  have a2 : (k : Int) ≤ (q : Int) := by omega
  have a3 : (q : Int) ≤ (zs.length : Int) := by omega
  have a4 : (1 : Int) ≤ (m : Int) := by omega
  have a5 : (0 : Int) ≤ (r : Int) := by omega
  have a6 : (r : Int) < (m : Int) := by omega
  have a8 : (m : Int) ≤ 64 := by omega
  have HQ := Lib.hid hm
  have hzl : zs.length ≤ 1000 := by omega
  have hzp : 0 < zs.length := by omega
  have CS := Lib.hid (fun w1 (hb : Below w.heap.size w w1) (Bs : Nat) (h1 : Bs < w1.heap.size) (h2 : w1.cell? ⟨Bs, 0, none⟩ = some (.slice A zs.length c)) => sorted_any A c zs hzl hzp Bs w1 h1 h2 ((HR.out.below (hb.mono hB)).more (Nat.le_trans hB hb.size)))
  clear hk hq hr hm h0 h1 HZ hkr hzl hzp
  go_enter Tryz.func56, Tryz.ntmps56
  go_wp2_with fail
  refine (So.values_any A zs.length c w).mono ?_
  rintro e w' ⟨rfl, rfl⟩
  have HB := Lib.hid ((Below.refl w.heap.size w).alloc (Nat.le_refl _) (.cells #[.slice A zs.length c] 39))
  have C := Lib.hid (CS.out _ HB.out w.heap.size (by simp) (by rw [(Blk.fresh w 39 #[.slice A zs.length c]).cell]; rfl))
  clear CS
  go_wp2_with fail
  refine C.out.mono ?_
  rintro e w2 ⟨g, cc, rfl, hc1, hc2, hg, hcell, hb2⟩
  have HB := Lib.hid (onward HB.out (Nat.le_refl _) hb2)
  have c1 := hcell k XN.out.1
  have c2 := hcell (k + r) XN.out.2
  have hck : ¬ cc = k := by have := XN.out.1; omega
  have a7 : (q : Int) ≤ (cc : Int) := by omega
  clear hcell hb2 hg C
  go_upto_region 6 with fail
  rw [HQ.out]
  generalize (srt zs).getD k 0 = x at *
  generalize (srt zs).getD (k + r) 0 = y at *
  have CH := Lib.hid (fun v => half_any x y v X1.out X2.out)
  have b0 : (0 : Int) < (m : Int) := by omega
  have b1 : 0 < m := by omega
  have b2 : IntKind.i64.wrap ((m : Int) - 1) = (r : Int) := by rw [e3, IntKind.wrap_i64]; omega
  have b3 : ((r : Int)).toNat = r := by simp
  have b4 : IntKind.i64.wrap (r : Int) = (r : Int) := by rw [IntKind.wrap_i64]; omega
  go_quiet (first | (go_at_call 88; exact Calls.quiet_of_same ((CH.out _).mono fun _ _ h => ⟨h.1, h.2.symm⟩)))
  go_wp2_with fail
  go_ret2
  exact ⟨by rw [HZ2.out, HM.out]; rfl, below_drewN HB.out _⟩
end Go.Proofs.YtjfllpmiajkenaaGreat.Md
namespace Go.Proofs.YtjfllpmiajkenaaGreat.Mem
open Go.RowKit Go.Proofs.YtjfllpmiajkenaaGreat.Rws
set_option linter.unusedVariables false
end Go.Proofs.YtjfllpmiajkenaaGreat.Mem
namespace Go.Proofs.YtjfllpmiajkenaaGreat.Nd
open Go.RowKit Go.Proofs.YtjfllpmiajkenaaGreat.Mem Go.Proofs.YtjfllpmiajkenaaGreat.Rws
theorem exec_load_mid {P : Program} {op : Oper} {a : Act} {w : World} (ty : TypeId) (x : Operand) (ho : op.op = .load ty x)
    (b off m : Nat) (hx : a.eval x = .pointer (some ⟨b, off, none⟩)) (g : Nat → Value) (d : TypeDesc) (hc : w.rangeAt b off ((List.range m).map g))
    (hu : P.underlying ty = some d) (hd : d.isRow = true) (hi : (P.info? ty).map (·.size) = some m) : (execOp a.eval op).run P w = .ok (.value (.agg (row m g))) w := by
  unfold execOp
  simp only [ho, hx, Instr.loadAt, Instr.sureAddr, Sem.run_bind, Sem.run_pure, Result.andThen_ok, run_loadVar_mid w b off ty _ d hc hu hd (by rw [hi]; simp)]
  rfl
end Go.Proofs.YtjfllpmiajkenaaGreat.Nd
namespace Go.Proofs.YtjfllpmiajkenaaGreat.Nd
open Go.RowKit Go.Proofs.YtjfllpmiajkenaaGreat.Mem Go.Proofs.YtjfllpmiajkenaaGreat.Rws Go.Proofs.YtjfllpmiajkenaaGreat.Flat Go.Proofs.YtjfllpmiajkenaaGreat.Md
set_option linter.unusedVariables false
set_option linter.unusedSimpArgs false
theorem run_index_in (I : Nat → Bool) (k : Nat) (hk : k < 4) (w : World) : (Instr.index 27 (.agg (row 4 fun i => .bool (I i))) (.int .i64 (k : Int))).run Tryz.prog w = .ok (.bool (I k)) w := by
  show (Instr.index 27 (.agg #[.bool (I 0), .bool (I 1), .bool (I 2), .bool (I 3)]) (.int .i64 (k : Int))).run Tryz.prog w = .ok (.bool (I k)) w
  obtain rfl | rfl | rfl | rfl : k = 0 ∨ k = 1 ∨ k = 2 ∨ k = 3 := by omega
  all_goals kernel_rfl
theorem cell_int {f : Nat → Value} (hf : ∀ i, i < 73 → okT (nodeT i) (f i)) (i : Nat) (hi : i < 73) (e : nodeT i = true) : f i = .int .i64 (iv (f i)) := iv_of (by have h := hf i hi; rw [e] at h; exact h)
def agZ (f : Nat → Value) (s a : Nat) : Int := iv (f (55 + (s * 3 + a)))
def fuseL (I : Nat → Bool) (z : Nat → Int) : Nat → List Int
  | 0 => []
  | k + 1 => if I k then fuseL I z k ++ [z k] else fuseL I z k
theorem fuse_len (I : Nat → Bool) (z : Nat → Int) : ∀ k, (fuseL I z k).length ≤ k
  | 0 => Nat.le_refl _
  | k + 1 => by
    have := fuse_len I z k
    unfold fuseL
    split
    · rw [List.length_append]; simp; omega
    · omega
theorem fuse_mem {I : Nat → Bool} {z : Nat → Int} : ∀ {k : Nat} {x : Int}, x ∈ fuseL I z k → ∃ j, j < k ∧ I j = true ∧ x = z j
  | 0, x, h => by cases h
  | k + 1, x, h => by
    unfold fuseL at h
    split at h
    · rename_i hI
      rcases List.mem_append.1 h with h | h
      · obtain ⟨j, hj, e⟩ := fuse_mem h; exact ⟨j, by omega, e⟩
      · exact ⟨k, by omega, hI, by simpa using h⟩
    · obtain ⟨j, hj, e⟩ := fuse_mem h; exact ⟨j, by omega, e⟩
set_option maxRecDepth 100000 in
set_option maxHeartbeats 2000000 in
theorem fuse_any (f : Nat → Value) (hf : ∀ i, i < 73 → okT (nodeT i) (f i)) (a : Nat) (ha : a < 3) (hw : ∀ s, s < 4 → -9223372036854775808 ≤ agZ f s a ∧ agZ f s a ≤ 9223372036854775807) (S : Value) (w : World) :
    Calls Tryz.prog 27 #[.agg (row 74 (nodeW f S)), .int .i64 (a : Int)] w fun e w' => e = .returned (.int .i64 (midZ (fuseL (inB f) (fun s => agZ f s a) 4)).1) ∧ Below w.heap.size w w' := by
  have HF := Lib.hid hf
  have HWF := Lib.hid hw
  have HIX := Lib.hid (fun k hk w => run_index_in (inB f) k hk w)
  have H2 := Lib.hid (Blk.fresh w 37 (row 74 (nodeW f S)))
  have HB := Lib.hid ((Below.refl w.heap.size w).alloc (Nat.le_refl _) (.cells (row 74 (nodeW f S)) 37))
  have HL4 := Lib.hid (in_load hf S)
  have HCL := Lib.hid (fun s (hs : s < 4) => show (row 74 (nodeW f S))[55 + s * 3 + a]? = some (.int .i64 (agZ f s a)) from by
    rw [row_at (by omega)]
    unfold nodeW agZ
    rw [if_neg (by omega), Nat.add_assoc, ← cell_int hf (55 + (s * 3 + a)) (by omega) (by unfold nodeT; simp; omega)])
  have a0 : (0 : Int) ≤ (a : Int) := by omega
  have a3 : (a : Int) < 3 := by omega
  obtain ⟨I, hI⟩ : ∃ I, inB f = I := ⟨_, rfl⟩
  obtain ⟨z, hz⟩ : ∃ z, (fun s => agZ f s a) = z := ⟨_, rfl⟩
  have HCL := Lib.hid (fun s (hs : s < 4) => show (row 74 (nodeW f S))[55 + s * 3 + a]? = some (.int .i64 (z s)) from by rw [← hz]; exact HCL.out s hs)
  have HWF := Lib.hid (fun s (hs : s < 4) => show -9223372036854775808 ≤ z s ∧ z s ≤ 9223372036854775807 from by rw [← hz]; exact HWF.out s hs)
  rw [hI] at HIX HL4 ⊢
  rw [hz]
  clear hz
  clear hI
  obtain ⟨R, hR⟩ : ∃ R, row 74 (nodeW f S) = R := ⟨_, rfl⟩
  have HR := Lib.hid hR
  rw [hR] at H2 HB HCL ⊢
  clear hR hf hw ha
  go_enter Tryz.func27, Tryz.ntmps27
  go_upto_region 2 with fail
  have hsz : (w.alloc (.cells R 37)).heap.size = w.heap.size + 1 := by simp
  have HSZ := Lib.hid hsz
  clear hsz
  generalize (w.alloc (.cells R 37)) = W at *
  go_wp2_with (rw [← HR.out] at H2; refine wpList_mid (by rfl) 27 _ rfl w.heap.size 27 4 rfl H2.out (by omega) _ Tryz.underlying27 rfl (by kernel_rfl) ?_; rw [HL4.out]; rw [HR.out] at H2)
  go_loopw [5, 13] (fun sv si wr => ∃ (k : Nat) (A : Option Addr) (c : Nat), k ≤ 4 ∧ si = .int .i64 k ∧ sv = .slice A (fuseL I z k).length c ∧ wr.ownsRow W.heap.size 3 1 (.slice A (fuseL I z k).length c) (fuseL I z k).length (Ms.intsV (fuseL I z k)) ∧ Below W.heap.size W wr) (fun _ si _ => 4 - (intOf si).toNat)
  case atStart => exact ⟨0, none, 0, by omega, rfl, rfl, World.ownsRow_nil _ _ _ _, Below.refl _ _⟩
  case round =>
    obtain ⟨k, A, c, hk, rfl, rfl, hown, hbel⟩ := hrel
    have HO := Lib.hid hown
    have HX := Lib.hid hbel
    have hsz := hbel.size
    clear hown hbel
    have hlen := fuse_len I z k
    by_cases hlt : k < 4
    · have hx := HIX.out k hlt
      have hc2 := (H2.out.below HX.out (by rw [HSZ.out]; omega)).cell (55 + k * 3 + a)
      rw [HCL.out k hlt] at hc2
      have k0 : (0 : Int) ≤ (k : Int) := by omega
      have k4 : (k : Int) < 4 := by omega
      have HST := Lib.hid (show fuseL I z (k + 1) = if I k then fuseL I z k ++ [z k] else fuseL I z k from rfl)
      have HKL := Lib.hid hlt
      clear hlt
      obtain ⟨l, hl⟩ : ∃ l, fuseL I z k = l := ⟨_, rfl⟩
      rw [hl] at HO HST hlen ⊢
      clear hl
      generalize z k = x at *
      cases hi : I k
      · rw [hi] at hx HST
        have HS2 := Lib.hid (HST.out.trans (if_neg (by simp)))
        clear hi HST
        go_wp2_with fail
        exact ⟨⟨k + 1, A, c, by have := HKL.out; omega, by go_num, by rw [HS2.out], by rw [HS2.out]; exact HO.out, HX.out⟩, by have := HKL.out; simp [intOf]; omega⟩
      · rw [hi] at hx HST
        have HS2 := Lib.hid (HST.out.trans (if_pos rfl))
        clear hi HST
        have HV2 := Lib.hid (ownsRow_below HO.out ((Below.refl wr.heap.size wr).alloc (Nat.le_refl _) (.cells #[.int .i64 x] 3)))
        have HX2 := Lib.hid (HX.out.alloc hsz (.cells #[.int .i64 x] 3))
        have HS := Lib.hid (Fc.rd_one wr (.int .i64 x) 3)
        go_wp2_with (at_builtin; go_loud (refine wpList_append_rd _ rfl (.tmp 18) (.tmp 25) 39 rfl (base := W.heap.size) Ms.elemInts rfl HV2.out rfl (fun h => by cases h) HS.out (by simp [Value.oneCell']) (by unfold maxLen; omega) (by omega) (by simp; omega) ?_); intro A9 c9 w5 hA9 hown2 hg2; have HO5 := Lib.hid hown2; have HX5 := Lib.hid (HX2.out.grown hg2 (by have := hg2.size; simp at *; omega) (fun g e => (HV2.out.lt g e).1)); clear hown2 hg2)
        exact ⟨⟨k + 1, A9, c9, by have := HKL.out; omega, by go_num, by rw [HS2.out, List.length_append]; rfl, by rw [HS2.out, List.length_append, show Ms.intsV (l ++ [x]) = Ms.intsV l ++ [.int .i64 x] by simp [Ms.intsV]]; exact HO5.out, HX5.out⟩, by have := HKL.out; simp [intOf]; omega⟩
    · obtain rfl : k = 4 := by omega
      rw [show ((4 : Nat) : Int) = 4 from rfl]
      have C := Lib.hid (middle_any A c (fuseL I z 4) wr.heap.size wr (Nat.le_refl _) (by omega) (fun x hx => by
        obtain ⟨j, hj, _, rfl⟩ := fuse_mem hx
        exact HWF.out j hj) (Rd.of_own HO.out))
      obtain ⟨m, hm⟩ : ∃ m, midZ (fuseL I z 4) = m := ⟨_, rfl⟩
      rw [hm] at C
      have HM := Lib.hid hm
      obtain ⟨l, hl⟩ : ∃ l, (fuseL I z 4).length = l := ⟨_, rfl⟩
      rw [hl] at C ⊢
      clear hm hl hlt hlen
      go_wp2_with fail
      refine C.out.mono ?_
      rintro e w5 ⟨rfl, hb⟩
      have HB := Lib.hid (onward (HB.out.trans (HX.out.mono HB.out.size)) (Nat.le_refl _) hb)
      clear hb C
      go_wp2_with fail
      go_ret
      exact ⟨by rw [HM.out]; rfl, HB.out⟩
end Go.Proofs.YtjfllpmiajkenaaGreat.Nd
namespace Go.Proofs.YtjfllpmiajkenaaGreat.BigW
open Go.RowKit Go.Proofs.YtjfllpmiajkenaaGreat.Mem Go.Proofs.YtjfllpmiajkenaaGreat.BigLaw
set_option linter.unusedVariables false
theorem lsh_abs (X : Int) (n : Nat) : (X * 2 ^ n).natAbs = X.natAbs * 2 ^ n := by
  rw [Int.natAbs_mul, Int.natAbs_pow]; rfl
theorem lsh_sg (X : Int) (n : Nat) : Sg (decide (X < 0)) (X * 2 ^ n) := by
  have hp : (0 : Int) < 2 ^ n := Int.pow_pos (by omega)
  refine sg_mk ?_
  rcases Int.lt_trichotomy X 0 with h | h | h
  · right; left; exact ⟨by simp [h], Int.mul_neg_of_neg_of_pos h hp⟩
  · left; rw [h, Int.zero_mul]
  · right; right; exact ⟨by simp; omega, Int.mul_pos h hp⟩
set_option maxRecDepth 100000 in
set_option maxHeartbeats 8000000 in
theorem bigLsh_any (p px : Nat) (X : Int) (n wd s : Nat) (w : World) (hp : IsInt w p) (hx : BigAt w px X) (bx : X.natAbs < pw 100) (hn : n = 32 * wd + s) (hs : s < 32) (hwd : wd ≤ 1000000) :
    Calls Tryz.prog 159 #[.pointer (some ⟨p, 0, none⟩), .pointer (some ⟨px, 0, none⟩), .int .u64 (n : Int)] w fun e w' => e = .returned (.pointer (some ⟨p, 0, none⟩)) ∧ BigAt w' p (X * 2 ^ n) ∧ w.grownBy w' (some p) := by
  obtain ⟨A, c, l, x0, x1, xw, xt, xv⟩ := hx.parts
  have HL := Lib.hid (len_of xt xv bx)
  have HXW := Lib.hid xw
  have HXT := Lib.hid xt
  have HXV := Lib.hid (show val l * 2 ^ n = (X * 2 ^ n).natAbs by rw [lsh_abs, xv])
  have HP := Lib.hid hp
  have HN := Lib.hid hn
  have HS := Lib.hid hs
  have HWD := Lib.hid hwd
  have HSG := Lib.hid (lsh_sg X n)
  have HPX := Lib.hid hx.lt
  clear xw xt xv hp hx bx hn hs hwd
  generalize X * 2 ^ n = Z at HXV HSG ⊢
  go_enter Tryz.func159, Tryz.ntmps159
  go_wp2_with fail
  go_region_law (first
    | (go_simp; go_at_call 181; refine (left_any A c l n wd s _ _ (Nat.le_refl _) HXW.out.drew HL.out HN.out HS.out HWD.out).mono ?_; rintro e w1 ⟨A1, c1, l1, rfl, hw1, ht1, hv1, hb1⟩; have x0' := (below_cell hb1 px 0 HPX.out).trans x0)
    | (go_simp; go_at_call 95; refine (give_big p _ A1 l1 c1 _ Z (HP.out.drew.below hb1 HP.out.lt) hw1 ht1 (hv1.trans HXV.out) (sign_of ht1 (hv1.trans HXV.out) _ HSG.out)).mono ?_; rintro e w2 ⟨rfl, hz2, hg2⟩))
  all_goals
    have HZ := Lib.hid hz2
    clear hz2
    go_wp2_with fail
    go_ret
    exact ⟨rfl, HZ.out, (show w.grownBy w1 (some p) from ⟨hb1.os, hb1.tape, hb1.output, hb1.size, fun g hg _ => hb1.block g hg⟩).trans hg2⟩
theorem bigSign_any (p : Nat) (X : Int) (w : World) (hx : BigAt w p X) :
    Calls Tryz.prog 179 #[.pointer (some ⟨p, 0, none⟩)] w fun e w' => e = .returned (.int .i64 X.sign) ∧ w' = w := by
  obtain ⟨A, c, l, x0, x1, xw, xt, xv⟩ := hx.parts
  have HZ := Lib.hid (show l.length = 0 ↔ X = 0 by
    rw [List.length_eq_zero_iff, ← val_zero xt, xv]; omega)
  clear xw xt xv hx
  rcases Int.lt_trichotomy X 0 with h | h | h
  · have hl : ((l.length : Int) == 0) = false := by rw [beq_eq_false_iff_ne]; have := HZ.out; omega
    have HS := Lib.hid (Int.sign_eq_neg_one_of_neg h)
    rw [decide_eq_true h] at x0
    go_enter Tryz.func179, Tryz.ntmps179
    go_wp2_with fail
    go_ret
    exact ⟨by rw [HS.out]; rfl, rfl⟩
  · subst h
    have hl : ((l.length : Int) == 0) = true := by rw [beq_iff_eq]; have := HZ.out; omega
    go_enter Tryz.func179, Tryz.ntmps179
    go_wp2_with fail
    go_ret
    exact ⟨rfl, rfl⟩
  · have hl : ((l.length : Int) == 0) = false := by rw [beq_eq_false_iff_ne]; have := HZ.out; omega
    have HS := Lib.hid (Int.sign_eq_one_of_pos h)
    rw [decide_eq_false (by omega)] at x0
    go_enter Tryz.func179, Tryz.ntmps179
    go_wp2_with fail
    go_ret
    exact ⟨by rw [HS.out]; rfl, rfl⟩
end Go.Proofs.YtjfllpmiajkenaaGreat.BigW
namespace Go.Proofs.YtjfllpmiajkenaaGreat.BigW
open Go.RowKit Go.Proofs.YtjfllpmiajkenaaGreat.Mem Go.Proofs.YtjfllpmiajkenaaGreat.BigLaw
set_option linter.unusedVariables false
theorem valF_at (f : Nat → Nat) (k : Nat) : ∀ m, ∃ R, valF f (k + 1 + m) = valF f k + pw k * (f k + 4294967296 * R)
  | 0 => ⟨0, by rw [Nat.add_zero, valF_succ, Nat.mul_zero, Nat.add_zero, Nat.mul_comm]⟩
  | m + 1 => by
    obtain ⟨R, h⟩ := valF_at f k m
    refine ⟨R + pw m * f (k + 1 + m), ?_⟩
    rw [show k + 1 + (m + 1) = (k + 1 + m) + 1 by omega, valF_succ, h, pw_add, pw_succ, Nat.mul_add, Nat.mul_add, Nat.mul_add, Nat.mul_add]
    have e : f (k + 1 + m) * (4294967296 * pw k * pw m) = pw k * (4294967296 * (pw m * f (k + 1 + m))) := by
      rw [Nat.mul_comm (f (k + 1 + m)), Nat.mul_comm 4294967296 (pw k), Nat.mul_assoc (pw k), Nat.mul_assoc (pw k), Nat.mul_assoc 4294967296]
    rw [e]; omega
theorem bit_val {l : List Nat} (hs : small l) (k r : Nat) (hr : r < 32) : val l / 2 ^ (32 * k + r) % 2 = l.getD k 0 / 2 ^ r % 2 := by
  rw [Nat.pow_add, ← pw_two, ← Nat.div_div_eq_div_mul]
  have hp := pw_pos k
  rcases Nat.lt_or_ge k l.length with hk | hk
  · obtain ⟨R, h⟩ := valF_at (fun i => l.getD i 0) k (l.length - (k + 1))
    rw [show k + 1 + (l.length - (k + 1)) = l.length by omega, valF_val (Nat.le_refl _)] at h
    have hlt : valF (fun i => l.getD i 0) k < pw k := valF_lt fun i _ => getD_lt hs i
    have e1 : val l / pw k = l.getD k 0 + 4294967296 * R := by
      rw [h, Nat.add_mul_div_left _ _ hp, Nat.div_eq_of_lt hlt, Nat.zero_add]
    have e2 : (4294967296 : Nat) = 2 ^ r * (2 * 2 ^ (31 - r)) := by
      rw [show 2 * 2 ^ (31 - r) = 2 ^ (32 - r) by rw [show 32 - r = (31 - r) + 1 by omega, Nat.pow_succ, Nat.mul_comm], ← Nat.pow_add, show r + (32 - r) = 32 by omega]
    rw [e1, e2, Nat.mul_assoc, Nat.add_mul_div_left _ _ (Nat.two_pow_pos r), Nat.mul_assoc, Nat.add_mul_mod_self_left]
  · have h1 : val l < pw k := Nat.lt_of_lt_of_le (val_lt hs) (pw_le hk)
    rw [Nat.div_eq_of_lt h1, getD_out hk]
theorem and64_1 (x : Nat) (h : x < 18446744073709551616) : bits .and .u64 (x : Int) 1 = ((x % 2 : Nat) : Int) := by
  have := u64_and_nat x 1 h (by omega)
  rwa [nat_mask1] at this
theorem bit_any (A : Option Addr) (c : Nat) (l : List Nat) (B : Nat) (i : Nat) (w : World) (h : Wd w B A c l) (hi : i ≤ 1000000000) :
    Calls Tryz.prog 195 #[.slice A l.length c, .int .i64 (i : Int)] w fun e w' => e = .returned (.int .u64 (val l / 2 ^ i % 2 : Nat)) ∧ w' = w := by
  obtain ⟨k, r, hr, rfl⟩ : ∃ k r, r < 32 ∧ i = 32 * k + r := ⟨i / 32, i % 32, by omega, by omega⟩
  rw [bit_val h.small k r hr]
  have hq : ((32 * k + r : Nat) : Int) / 32 = (k : Int) := by omega
  have hm : ((32 * k + r : Nat) : Int) % 32 = (r : Int) := by omega
  generalize 32 * k + r = i at hq hm hi ⊢
  by_cases hk : k < l.length
  · obtain ⟨b, o, rfl, hbB, hcx⟩ := h.at_ hk
    have hx := getD_lt h.small k
    generalize l.getD k 0 = x at hcx hx ⊢
    have hk' : ¬ (l.length : Int) ≤ (k : Int) := by omega
    have hk2 : (k : Int) < (l.length : Int) := by omega
    have hxs : (x : Int) / 2 ^ r = ((x / 2 ^ r : Nat) : Int) := by push_cast; rfl
    have hle : x / 2 ^ r ≤ x := Nat.div_le_self _ _
    have hand := and64_1 (x / 2 ^ r) (by omega)
    generalize x / 2 ^ r = y at hxs hle hand ⊢
    clear h
    go_enter Tryz.func195, Tryz.ntmps195
    go_wp2_with fail
    go_ret
    exact ⟨rfl, rfl⟩
  · have hk' : (l.length : Int) ≤ (k : Int) := by omega
    rw [getD_out (by omega), Nat.zero_div]
    clear h
    go_enter Tryz.func195, Tryz.ntmps195
    go_wp2_with fail
    go_ret
    exact ⟨rfl, rfl⟩
def IsTz (v k : Nat) : Prop := v % 2 ^ k = 0 ∧ v / 2 ^ k % 2 = 1
theorem tz_next {v k : Nat} (h : v % 2 ^ k = 0) (h2 : v / 2 ^ k % 2 = 0) : v % 2 ^ (k + 1) = 0 := by
  rw [Nat.pow_succ, Nat.mod_mul, h, h2, Nat.mul_zero]
theorem tz_any (p : Nat) (X : Int) (w : World) (hx : BigAt w p X) (h0 : X ≠ 0) (bx : X.natAbs < pw 100) :
    Calls Tryz.prog 193 #[.pointer (some ⟨p, 0, none⟩)] w fun e w' => (∃ k : Nat, k ≤ 3200 ∧ e = .returned (.int .u64 k) ∧ IsTz X.natAbs k) ∧ w' = w := by
  obtain ⟨A, c, l, x0, x1, xw, xt, xv⟩ := hx.parts
  have hl : ((l.length : Int) == 0) = false := by
    rw [beq_eq_false_iff_ne]
    intro e
    have : l = [] := List.eq_nil_of_length_eq_zero (by omega)
    have := (val_zero xt).2 this
    omega
  have HW := Lib.hid xw
  have HV := Lib.hid xv
  obtain ⟨m, hm⟩ : ∃ m, m = 100 := ⟨_, rfl⟩
  rw [← hm, pw_two] at bx
  obtain ⟨N, hN, hNB⟩ : ∃ N, N = 3200 ∧ X.natAbs < 2 ^ N := ⟨32 * m, by omega, bx⟩
  have HB := Lib.hid hNB
  have HN := Lib.hid hN
  have HZ := Lib.hid h0
  clear xw xt xv hx h0 bx hN hNB
  go_enter Tryz.func193, Tryz.ntmps193
  go_wp2_with fail
  go_loop [3] (fun i => ∃ k : Nat, i = .int .u64 k ∧ X.natAbs % 2 ^ k = 0) (fun i => 3201 - (intOf i).toNat)
  case atStart => exact ⟨0, rfl, by simp [Nat.mod_one]⟩
  case round =>
    obtain ⟨k, rfl, hz⟩ := hrel
    have hk : k ≤ 3200 := by
      have h1 : 2 ^ k ≤ X.natAbs := Nat.le_of_dvd (by have := HZ.out; omega) (Nat.dvd_of_mod_eq_zero hz)
      have h2 : 2 ^ k < 2 ^ N := Nat.lt_of_le_of_lt h1 HB.out
      have := (Nat.pow_lt_pow_iff_right (by omega : 1 < 2)).1 h2
      have := HN.out
      omega
    have HK := Lib.hid hz
    clear hz
    go_wp2_with fail
    refine (bit_any A c l _ k w HW.out (by omega)).mono ?_
    rintro e w' ⟨rfl, rfl⟩
    rw [HV.out]
    by_cases hb : X.natAbs / 2 ^ k % 2 = 0
    · have HN := Lib.hid (tz_next HK.out hb)
      rw [hb]
      clear hb
      go_wp2_with fail
      exact ⟨⟨k + 1, by go_num, HN.out⟩, by simp [intOf]; omega⟩
    · have hb1 : X.natAbs / 2 ^ k % 2 = 1 := by omega
      have HN := Lib.hid hb1
      rw [hb1]
      clear hb hb1
      go_wp2_with fail
      go_ret
      exact ⟨⟨k, hk, rfl, HK.out, HN.out⟩, rfl⟩
def in64 (X : Int) : Bool := decide (-9223372036854775808 ≤ X ∧ X ≤ 9223372036854775807)
theorem isInt64_any (p : Nat) (X : Int) (w : World) (hx : BigAt w p X) (bx : X.natAbs < pw 100) :
    Calls Tryz.prog 178 #[.pointer (some ⟨p, 0, none⟩)] w fun e w' => e = .returned (.bool (in64 X)) ∧ w' = w := by
  obtain ⟨A, c, l, x0, x1, xw, xt, xv⟩ := hx.parts
  have HL := Lib.hid (len_of xt xv bx)
  have HW := Lib.hid xw
  have HT := Lib.hid xt
  have HV := Lib.hid xv
  have HX := Lib.hid hx
  have HB := Lib.hid bx
  clear xw xt xv hx bx
  go_enter Tryz.func178, Tryz.ntmps178
  go_wp2_with fail
  refine (length_any A c l _ w HW.out HT.out HL.out).mono ?_
  rintro e w' ⟨⟨n, rfl, hn, hnl⟩, rfl⟩
  rw [HV.out] at hn
  have HN := Lib.hid hn
  have hn2 : n ≤ 32000000 := by have := HL.out; omega
  have H63 := Lib.hid (isLen_lt (k := 63) hn)
  have H64 := Lib.hid (isLen_lt (k := 64) hn)
  clear hn hnl
  rcases Nat.lt_trichotomy n 64 with h | h | h
  · have HR := Lib.hid (show in64 X = true by
      have := H63.out.1 (by omega)
      unfold in64
      rw [decide_eq_true_eq]
      omega)
    go_wp2_with fail
    go_ret
    exact ⟨by rw [HR.out]; rfl, rfl⟩
  · subst h
    by_cases hneg : X < 0
    · rw [decide_eq_true hneg] at x0
      go_wp2_with fail
      refine (tz_any p X _ HX.out (by omega) HB.out).mono ?_
      rintro e w1 ⟨⟨k, hk, rfl, hz⟩, rfl⟩
      have HZ := Lib.hid hz
      clear hz
      have h64 := H64.out.1 (Nat.le_refl _)
      have h63 : ¬ X.natAbs < 2 ^ 63 := fun h => by have := H63.out.2 h; omega
      by_cases hk63 : k = 63
      · subst hk63
        have HR := Lib.hid (show in64 X = true by
          have h1 := HZ.out.1
          unfold in64
          rw [decide_eq_true_eq]
          omega)
        clear h64 h63
        go_wp2_with fail
        go_ret
        exact ⟨by rw [HR.out]; rfl, rfl⟩
      · have hk' : ((k : Int) == 63) = false := by rw [beq_eq_false_iff_ne]; omega
        have HR := Lib.hid (show in64 X = false by
          obtain ⟨h1, h2⟩ := HZ.out
          unfold in64
          rw [decide_eq_false_iff_not]
          intro h3
          have e : X.natAbs = 2 ^ 63 := by omega
          rw [e] at h1 h2
          rcases Nat.lt_or_ge k 63 with h4 | h4
          · rw [Nat.pow_div (by omega) (by omega), show 63 - k = (63 - k - 1) + 1 by omega, Nat.pow_succ, Nat.mul_mod_left] at h2
            omega
          · have h5 : 2 ^ 64 ≤ 2 ^ k := Nat.pow_le_pow_right (by omega) (by omega)
            rw [Nat.div_eq_of_lt (by omega)] at h2
            omega)
        clear h64 h63 hk63
        go_wp2_with fail
        go_ret
        exact ⟨by rw [HR.out]; rfl, rfl⟩
    · have HR := Lib.hid (show in64 X = false by
        have h63 : ¬ X.natAbs < 2 ^ 63 := fun h => by have := H63.out.2 h; omega
        unfold in64
        rw [decide_eq_false_iff_not]
        omega)
      rw [decide_eq_false hneg] at x0
      go_wp2_with fail
      go_ret
      exact ⟨by rw [HR.out]; rfl, rfl⟩
  · have HR := Lib.hid (show in64 X = false by
      have h64 : ¬ X.natAbs < 2 ^ 64 := fun h => by have := H64.out.2 h; omega
      unfold in64
      rw [decide_eq_false_iff_not]
      omega)
    have hne : ((n : Int) == 64) = false := by rw [beq_eq_false_iff_ne]; omega
    go_wp2_with fail
    go_ret
    exact ⟨by rw [HR.out]; show Ending.returned (.bool (decide ((n : Int) < 64))) = _; rw [decide_eq_false (by omega)], rfl⟩
def stop (X : Int) : Int × Bool := if in64 X then (X, false) else if 0 < X then (9223372036854775807, true) else (-9223372036854775808, true)
theorem stop_any (p : Nat) (X : Int) (w : World) (hx : BigAt w p X) (bx : X.natAbs < pw 100) :
    Calls Tryz.prog 156 #[.pointer (some ⟨p, 0, none⟩)] w fun e w' => e = .returned (.tuple #[.int .i64 (stop X).1, .bool (stop X).2]) ∧ w' = w := by
  have HX := Lib.hid hx
  have HB := Lib.hid bx
  clear hx bx
  go_enter Tryz.func156, Tryz.ntmps156
  go_wp2_with fail
  refine (isInt64_any p X w HX.out HB.out).mono ?_
  rintro e w' ⟨rfl, rfl⟩
  by_cases h : in64 X = true
  · have HR := Lib.hid (show stop X = (X, false) by unfold stop; rw [if_pos h])
    rw [h]
    have HI := Lib.hid (of_decide_eq_true h)
    clear h
    go_wp2_with fail
    refine (bigInt64_any p X _ HX.out HI.out).mono ?_
    rintro e w' ⟨rfl, rfl⟩
    go_wp2_with fail
    go_ret2
    exact ⟨by rw [HR.out]; rfl, rfl⟩
  · have h' : in64 X = false := by simpa using h
    have hI := of_decide_eq_false h'
    rw [h']
    go_wp2_with fail
    refine (bigSign_any p X _ HX.out).mono ?_
    rintro e w' ⟨rfl, rfl⟩
    by_cases hp : 0 < X
    · have HR := Lib.hid (show stop X = (9223372036854775807, true) by unfold stop; rw [if_neg h, if_pos hp])
      rw [Int.sign_eq_one_of_pos hp]
      clear h h' hI
      go_wp2_with fail
      go_ret2
      exact ⟨by rw [HR.out]; rfl, rfl⟩
    · have HR := Lib.hid (show stop X = (-9223372036854775808, true) by unfold stop; rw [if_neg h, if_neg hp])
      rw [Int.sign_eq_neg_one_of_neg (by omega)]
      clear h h' hI
      go_wp2_with fail
      go_ret2
      exact ⟨by rw [HR.out]; rfl, rfl⟩
end Go.Proofs.YtjfllpmiajkenaaGreat.BigW
namespace Go.Proofs.YtjfllpmiajkenaaGreat.BigW
open Go.RowKit Go.Proofs.YtjfllpmiajkenaaGreat.Mem Go.Proofs.YtjfllpmiajkenaaGreat.BigLaw
set_option linter.unusedVariables false
theorem stop_in {X s : Int} (h1 : -9223372036854775808 ≤ X) (h2 : X ≤ 9223372036854775807) (h : X = s) : stop X = (s, false) := by
  subst h; unfold stop in64; rw [if_pos (decide_eq_true ⟨h1, h2⟩)]
theorem stop_hi {X : Int} (h : 9223372036854775807 < X) : stop X = (9223372036854775807, true) := by
  unfold stop in64; rw [if_neg (by rw [decide_eq_true_eq]; omega), if_pos (by omega)]
theorem stop_lo {X : Int} (h : X < -9223372036854775808) : stop X = (-9223372036854775808, true) := by
  unfold stop in64; rw [if_neg (by rw [decide_eq_true_eq]; omega), if_neg (by omega)]
theorem three (a : Int) : (a < 0 ∧ ¬ 0 ≤ a) ∨ (0 ≤ a ∧ a ≤ 0) ∨ (0 < a ∧ ¬ a ≤ 0) := by omega
theorem fixAdd_any (a b : Int) (w : World) (ha : -9223372036854775808 ≤ a ∧ a ≤ 9223372036854775807) (hb : -9223372036854775808 ≤ b ∧ b ≤ 9223372036854775807) :
    Calls Tryz.prog 124 #[.int .i64 a, .int .i64 b] w fun e w' => e = .returned (.tuple #[.int .i64 (stop (a + b)).1, .bool (stop (a + b)).2]) ∧ w' = w := by
  have HA := Lib.hid ha
  have HB := Lib.hid hb
  obtain ⟨s, hs⟩ : ∃ s, wrap64 (a + b) = s := ⟨_, rfl⟩
  have HS := Lib.hid (show s = (a + b + 9223372036854775808) % 18446744073709551616 - 9223372036854775808 by rw [← hs]; unfold wrap64; omega)
  clear ha hb
  rcases three a with ⟨h1, h1'⟩ | ⟨h1, h1'⟩ | ⟨h1, h1'⟩ <;> rcases three b with ⟨h2, h2'⟩ | ⟨h2, h2'⟩ | ⟨h2, h2'⟩ <;> rcases three s with ⟨h3, h3'⟩ | ⟨h3, h3'⟩ | ⟨h3, h3'⟩
  all_goals
    go_enter Tryz.func124, Tryz.ntmps124
    go_wp2_with fail
    go_ret2
    refine ⟨?_, rfl⟩
    have := HA.out
    have := HB.out
    have := HS.out
    first
      | (rw [stop_in (s := s) (by omega) (by omega) (by omega)]; rfl)
      | (rw [stop_in (s := a + b) (by omega) (by omega) (by omega)]; rfl)
      | (rw [stop_in (s := a) (by omega) (by omega) (by omega)]; rfl)
      | (rw [stop_in (s := b) (by omega) (by omega) (by omega)]; rfl)
      | (rw [stop_in (s := 0) (by omega) (by omega) (by omega)]; rfl)
      | (rw [stop_hi (by omega)]; rfl)
      | (rw [stop_lo (by omega)]; rfl)
      | (exfalso; omega)
theorem fixSub_any (a b : Int) (w : World) (ha : -9223372036854775808 ≤ a ∧ a ≤ 9223372036854775807) (hb : -9223372036854775808 ≤ b ∧ b ≤ 9223372036854775807) :
    Calls Tryz.prog 123 #[.int .i64 a, .int .i64 b] w fun e w' => e = .returned (.tuple #[.int .i64 (stop (a - b)).1, .bool (stop (a - b)).2]) ∧ w' = w := by
  have HA := Lib.hid ha
  have HB := Lib.hid hb
  obtain ⟨s, hs⟩ : ∃ s, wrap64 (a - b) = s := ⟨_, rfl⟩
  have HS := Lib.hid (show s = (a - b + 9223372036854775808) % 18446744073709551616 - 9223372036854775808 by rw [← hs]; unfold wrap64; omega)
  clear ha hb
  rcases three a with ⟨h1, h1'⟩ | ⟨h1, h1'⟩ | ⟨h1, h1'⟩ <;> rcases three b with ⟨h2, h2'⟩ | ⟨h2, h2'⟩ | ⟨h2, h2'⟩ <;> rcases three s with ⟨h3, h3'⟩ | ⟨h3, h3'⟩ | ⟨h3, h3'⟩
  all_goals
    go_enter Tryz.func123, Tryz.ntmps123
    go_wp2_with fail
    go_ret2
    refine ⟨?_, rfl⟩
    have := HA.out
    have := HB.out
    have := HS.out
    first
      | (rw [stop_in (s := s) (by omega) (by omega) (by omega)]; rfl)
      | (rw [stop_in (s := a - b) (by omega) (by omega) (by omega)]; rfl)
      | (rw [stop_in (s := a) (by omega) (by omega) (by omega)]; rfl)
      | (rw [stop_in (s := -b) (by omega) (by omega) (by omega)]; rfl)
      | (rw [stop_in (s := 0) (by omega) (by omega) (by omega)]; rfl)
      | (rw [stop_hi (by omega)]; rfl)
      | (rw [stop_lo (by omega)]; rfl)
      | (exfalso; omega)
theorem small_pw {X : Int} (h : X.natAbs < 340282366920938463463374607431768211456) : X.natAbs < pw 100 := by
  have h1 : pw 4 ≤ pw 100 := pw_le (by omega)
  have h2 : pw 4 = 340282366920938463463374607431768211456 := rfl
  omega
theorem refAdd_any (a b : Int) (w : World) (ha : -9223372036854775808 ≤ a ∧ a ≤ 9223372036854775807) (hb : -9223372036854775808 ≤ b ∧ b ≤ 9223372036854775807) :
    Calls Tryz.prog 135 #[.int .i64 a, .int .i64 b] w fun e w' => e = .returned (.tuple #[.int .i64 (stop (a + b)).1, .bool (stop (a + b)).2]) ∧ Below w.heap.size w w' := by
  have HA := Lib.hid ha
  have HB := Lib.hid hb
  have HI := Lib.hid (isInt_new w)
  clear ha hb
  go_enter Tryz.func135, Tryz.ntmps135
  go_wp2_with fail
  refine (whole_any a _ HA.out).mono ?_
  rintro e w1 ⟨p1, rfl, hp1, hz1, hb1⟩
  have HZ1 := Lib.hid hz1
  have HI1 := Lib.hid (HI.out.below hb1 HI.out.lt)
  clear hz1
  go_wp2_with fail
  refine (whole_any b _ HB.out).mono ?_
  rintro e w2 ⟨p2, rfl, hp2, hz2, hb2⟩
  have HZ2 := Lib.hid hz2
  have HI2 := Lib.hid (HI1.out.below hb2 HI1.out.lt)
  have HZ1' := Lib.hid (HZ1.out.below hb2)
  clear hz2
  go_wp2_with fail
  refine (bigAdd_any w.heap.size p1 p2 a b _ HI2.out HZ1'.out HZ2.out (small_pw (by have := HA.out; omega)) (small_pw (by have := HB.out; omega))).mono ?_
  rintro e w3 ⟨rfl, hz3, hg3⟩
  have HZ3 := Lib.hid hz3
  have HB3 := Lib.hid (below_grown (onward (onward ((Below.refl w.heap.size w).alloc (Nat.le_refl _) (.cells #[.bool false, .slice none 0 0] 149)) (Nat.le_refl _) hb1) (Nat.le_refl _) hb2) (Nat.le_refl _) hg3 (fun g e => by injection e with e; omega))
  clear hz3 hg3
  go_wp2_with fail
  refine (stop_any w.heap.size (a + b) _ HZ3.out (small_pw (by have := HA.out; have := HB.out; omega))).mono ?_
  rintro e w4 ⟨rfl, rfl⟩
  generalize hss : stop (a + b) = s
  have HSS := Lib.hid hss
  clear hss
  go_wp2_with fail
  go_ret2
  exact ⟨by rw [HSS.out]; rfl, HB3.out⟩
theorem refSub_any (a b : Int) (w : World) (ha : -9223372036854775808 ≤ a ∧ a ≤ 9223372036854775807) (hb : -9223372036854775808 ≤ b ∧ b ≤ 9223372036854775807) :
    Calls Tryz.prog 133 #[.int .i64 a, .int .i64 b] w fun e w' => e = .returned (.tuple #[.int .i64 (stop (a - b)).1, .bool (stop (a - b)).2]) ∧ Below w.heap.size w w' := by
  have HA := Lib.hid ha
  have HB := Lib.hid hb
  have HI := Lib.hid (isInt_new w)
  clear ha hb
  go_enter Tryz.func133, Tryz.ntmps133
  go_wp2_with fail
  refine (whole_any a _ HA.out).mono ?_
  rintro e w1 ⟨p1, rfl, hp1, hz1, hb1⟩
  have HZ1 := Lib.hid hz1
  have HI1 := Lib.hid (HI.out.below hb1 HI.out.lt)
  clear hz1
  go_wp2_with fail
  refine (whole_any b _ HB.out).mono ?_
  rintro e w2 ⟨p2, rfl, hp2, hz2, hb2⟩
  have HZ2 := Lib.hid hz2
  have HI2 := Lib.hid (HI1.out.below hb2 HI1.out.lt)
  have HZ1' := Lib.hid (HZ1.out.below hb2)
  clear hz2
  go_wp2_with fail
  refine (bigSub_any w.heap.size p1 p2 a b _ HI2.out HZ1'.out HZ2.out (small_pw (by have := HA.out; omega)) (small_pw (by have := HB.out; omega))).mono ?_
  rintro e w3 ⟨rfl, hz3, hg3⟩
  have HZ3 := Lib.hid hz3
  have HB3 := Lib.hid (below_grown (onward (onward ((Below.refl w.heap.size w).alloc (Nat.le_refl _) (.cells #[.bool false, .slice none 0 0] 149)) (Nat.le_refl _) hb1) (Nat.le_refl _) hb2) (Nat.le_refl _) hg3 (fun g e => by injection e with e; omega))
  clear hz3 hg3
  go_wp2_with fail
  refine (stop_any w.heap.size (a + -b) _ HZ3.out (small_pw (by have := HA.out; have := HB.out; omega))).mono ?_
  rintro e w4 ⟨rfl, rfl⟩
  rw [show a + -b = a - b by omega]
  generalize hss : stop (a - b) = s
  have HSS := Lib.hid hss
  clear hss
  go_wp2_with fail
  go_ret2
  exact ⟨by rw [HSS.out]; rfl, HB3.out⟩
end Go.Proofs.YtjfllpmiajkenaaGreat.BigW
