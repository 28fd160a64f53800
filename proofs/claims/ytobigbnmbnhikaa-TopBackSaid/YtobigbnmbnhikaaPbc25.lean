import Derived.Test.YtobigbnmbnhikaaPb0
import Derived.Deep.QuietTactic
import Derived.BigQuiet
import Derived.Test.YtobigbnmbnhikaaPbc24
import Derived.Test.YtobigbnmbnhikaaPbc16
import Derived.Lib.SliceRun
import Derived.WalkSpells
set_option linter.unusedVariables false
set_option linter.unusedSimpArgs false
namespace Go.Proofs.Ytobigbnmbnhikaa
namespace Ms
open Go.ChangeShapes Go.WideShapes Go.ChangeAt Go.RowKit Mem
set_option maxHeartbeats 1000000 in
theorem same_eq (A A' : Option Addr) (c c' : Nat) (zs ys : List Int) (hn : ys.length = zs.length) (B : Nat) (w : World) (hl : zs.length ≤ 140737488355328) (hr : Rd w B 1 A zs.length (intsV zs)) (hr' : Rd w B 1 A' zs.length (intsV ys)) :
  Calls Try.prog 60 #[.slice A zs.length c, .slice A' zs.length c'] w fun e w' => e = .returned (.bool (decide (zs = ys))) ∧ Below w.heap.size w w' := by
 have HR := zz hr; have HR' := zz hr'; have HNL := zz hn
 have HD := zz (fun k (h1 : k < zs.length) (h2 : k < ys.length) (h : ¬ zs[k] = ys[k]) => show decide (zs = ys) = false from decide_eq_false fun e => h (by subst e; rfl))
 clear hr hr' hn
 go_enter Try.func60, Try.ntmps60
 go_wp2_with fail
 go_loopw [8] (fun i wr => ∃ k q : Nat, k ≤ zs.length ∧ i = .int .i64 k ∧ zs.take k = ys.take k ∧ wr = w.drewN q) (fun i _ => zs.length - (intOf i).toNat)
 case atStart => exact ⟨0, 0, by omega, rfl, rfl, rfl⟩
 case round =>
  obtain ⟨k, q, hk, rfl, htk, rfl⟩ := hrel; have HTK := zz htk; clear htk
  by_cases hlt : k < zs.length
  ·
   obtain ⟨b, o, u, rfl, hbB, hu, hcell⟩ := HR.out.at hlt; obtain ⟨b', o', u', rfl, hbB', hu', hcell'⟩ := HR'.out.at hlt
   have hlt' : k < ys.length := by rw [HNL.out]; exact hlt
   rw [intsV_at zs k hlt] at hu; rw [intsV_at ys k hlt'] at hu'; obtain rfl := Option.some.inj hu; obtain rfl := Option.some.inj hu'; have HK := zz (HD.out k hlt hlt')
   have HT1 := zz (fun (e : zs[k] = ys[k]) => show zs.take (k + 1) = ys.take (k + 1) from by
    rw [List.take_add_one, List.take_add_one, HTK.out, List.getElem?_eq_getElem hlt, List.getElem?_eq_getElem hlt', e])
   generalize zs[k] = z at *
   generalize ys[k] = y at *
   clear hu hu' hlt'
   have hl0 : (0 : Int) ≤ (k : Int) := by omega
   have hl1 : (k : Int) < (zs.length : Int) := by omega
   have hcell : (w.drewN q).cell? ⟨b, o + k, none⟩ = some (.int .i64 z) := hcell; have hcell' : (w.drewN q).cell? ⟨b', o' + k, none⟩ = some (.int .i64 y) := hcell'; go_wp2_with fail
   go_quiet (fail)
   by_cases e : z = y
   ·
    have HT2 := zz (HT1.out e); have hne : (z != y) = false := bne_eq_false_iff_eq.2 e; clear HT1 HK e; go_wp2_with fail; exact ⟨⟨k + 1, q + nq, by omega, by go_num, HT2.out, rfl⟩, by simp [intOf]; omega⟩
   ·
    have HK2 := zz (HK.out e); have hne : (z != y) = true := bne_iff_ne.2 e; clear HT1 HK e; go_wp2_with fail
    go_ret
    exact ⟨by rw [HK2.out]; rfl, below_drewN (below_drewN (Below.refl _ _) _) _⟩
  ·
   obtain rfl : k = zs.length := by omega
   clear hlt
   have HE := zz (show decide (zs = ys) = true from decide_eq_true (by have h := HTK.out; rwa [List.take_length, ← HNL.out, List.take_length] at h))
   clear HTK; go_wp2_with fail
   go_ret
   exact ⟨by rw [HE.out]; rfl, below_drewN (Below.refl _ _) _⟩
end Ms
namespace Nd
open Go.RowKit Mem Rws Flat
def AdoptAs (w w' : World) (gn : Nat) (o : Nat → Option Ms.Msg) (f : Nat → Value) (S : Value) (e : Ending) : Prop :=
 e = .returned (.tuple #[]) ∧ Blk w' gn 45 (row 74 (nodeW (adoptF o f) S)) ∧ w.grownBy w' (some gn)
set_option maxRecDepth 100000 in
set_option maxHeartbeats 4000000 in
theorem adopt_any (f : Nat → Value) (hf : ∀ i, i < 73 → okT (nodeT i) (f i)) (s : Nat → Value) (o : Nat → Option Ms.Msg) (ho : ∀ i m, o i = some m → m.zs.length = 24) (S : Value) (gn : Nat) (w : World) (hn : Blk w gn 45 (row 74 (nodeW f S))) (hs : ∀ i : Nat, i < 4 → HeardC w w.heap.size (o i) (s i)) :
  Calls Try.prog 48 #[.pointer (some ⟨gn, 0, none⟩), .agg (row 4 s)] w fun e w' => AdoptAs w w' gn o f S e := by
 have HS0 := zz hs; have HOL := zz ho; have HF := zz hf; have HN := zz hn; have hgn := hn.lt; clear hs ho hf hn
 go_enter Try.func48, Try.ntmps48
 go_upto_region 1 with fail
 have HH := zz (Blk.fresh w 101 (row 4 s)); have HB := zz ((Below.refl w.heap.size w).alloc (Nat.le_refl _) (.cells (row 4 s) 101))
 generalize (w.alloc (.cells (row 4 s) 101)) = w1 at *
 obtain ⟨gh, hgh⟩ : ∃ g, w.heap.size = g := ⟨_, rfl⟩; have HGH := zz hgh; rw [hgh] at HH hgn ⊢; clear hgh; obtain ⟨gl, hgl⟩ : ∃ g, gh + 1 = g := ⟨_, rfl⟩
 have HGN := zz (show gn < gh ∧ gh < gl ∧ gl ≤ w1.heap.size by have := HH.out.lt; omega)
 have HSW := zz (fun i hi => ((HS0.out i hi).below HB.out).more (show w.heap.size ≤ gl by have := HGH.out; omega))
 clear hgl
 have HRS := zz (fun i (hi : i < 4) => show (row 4 s)[i]? = some (s i) from row_at hi)
 generalize row 4 s = R4 at *
 go_wp2_with fail
 go_loopw [6] (fun iv wr => ∃ i : Nat, i ≤ 4 ∧ iv = .int .i64 (i : Int) ∧ NoPair o i (i + 1) ∧ Below gl w1 wr) (fun iv _ => 4 - (intOf iv).toNat)
 case atStart => exact ⟨0, by omega, rfl, NoPair.start o, Below.refl _ _⟩
 case round =>
  obtain ⟨i, hi, rfl, hnp, hbw⟩ := hrel; have HNP := zz hnp; have HBW := zz hbw; clear hnp hbw
  by_cases hlt : i < 4
  ·
   have hi1 : (i : Int) < 4 := by omega
   have hi0 : (0 : Int) ≤ (i : Int) := by omega
   go_wp2_with fail
   generalize wr = wq at *
   go_loopw [5] (fun kv wr => ∃ k : Nat, i < k ∧ k ≤ 4 ∧ kv = .int .i64 (k : Int) ∧ NoPair o i k ∧ Below gl w1 wr) (fun kv _ => 4 - (intOf kv).toNat)
   case atStart => exact ⟨i + 1, by omega, by omega, by go_num, HNP.out, HBW.out⟩
   case round =>
    clear HNP HBW; obtain ⟨k, hik, hk, rfl, hnp, hbw⟩ := hrel; have HNP := zz hnp; have HBW := zz hbw; clear hnp hbw
    by_cases hlk : k < 4
    ·
     have hk1 : (k : Int) < 4 := by omega
     have hk0 : (0 : Int) ≤ (k : Int) := by omega
     have xi := ((HH.out.below HBW.out HGN.out.2.1).cell i).trans (HRS.out i hlt); have xk := ((HH.out.below HBW.out HGN.out.2.1).cell k).trans (HRS.out k hlk); have hsi := (HSW.out i hlt).below HBW.out; have hsk := (HSW.out k hlk).below HBW.out; have hq0 : ∀ w, (binOp .eql 69 (.slice none 0 0) (.slice none 0 0)).run Try.prog w = .ok (.bool true) w := fun w => run_eql_nil_slice w 69 3 none 0 0 0 0 Try.underlying69
     cases hoi : o i with
     | none =>
      rw [hoi] at hsi
      rw [show s i = .slice none 0 0 from hsi] at xi
      have HPN := zz (HNP.out.step (pair_none1 (k := k) hoi)); have hqi := hq0; clear hoi hsi hsk xk; have HS := xi; have HBW := zz HBW.out.drew
      go_upto_region 7 with fail
      refine wp_region_noPanic ?_; refine Rg.beginR [2] (fun w' => w'.cell? ⟨gh, i, none⟩ = some (.slice none 0 0)) (by kernel_rfl) ?_
      have HS := (show wr.drew.cell? ⟨gh, i, none⟩ = some (.slice none 0 0) from HS)
      have hV0 : w1.heap.size ≤ wr.drew.heap.size := HBW.out.size
      generalize wr.drew = V0 at *
      refine Rg.tq 0 ⟨some 15, .move (.tmp 4), _, _, _, none⟩ rfl ?_; (try simp only [Rg.lp]); refine Rg.tq 1 ⟨some 16, .indexAddr 101 (.tmp 3) (.tmp 15), _, _, _, none⟩ rfl ?_; (try simp only [Rg.lp]); refine Rg.tr 2 ⟨some 17, .load 69 (.tmp 16), _, _, _, none⟩ rfl HS ?_; (try simp only [Rg.lp]); refine Rg.tp 3 ⟨some 18, .binOp .eql 69 (.tmp 17) (.const (.slice none 0 0)) 69, _, _, _, none⟩ (v := ?_) rfl ?_ ?_; rotate_left 1
      · (intro w; have hq := hqi w; go_simp; (try with_reducible rfl))
      (try simp only [Rg.lp]); refine Rg.tq 4 ⟨some 19, .move (.tmp 18), _, _, _, none⟩ rfl ?_; (try simp only [Rg.lp]); refine Rg.tn 5 ⟨some 20, .move (.tmp 5), _, _, _, some (4, false)⟩ rfl ?_; (try simp only [Rg.lp]); refine Rg.tn 6 ⟨some 21, .indexAddr 101 (.tmp 3) (.tmp 20), _, _, _, some (4, false)⟩ rfl ?_; (try simp only [Rg.lp]); refine Rg.tn 7 ⟨some 22, .load 69 (.tmp 21), _, _, _, some (4, false)⟩ rfl ?_; (try simp only [Rg.lp]); refine Rg.tn 8 ⟨some 23, .binOp .eql 69 (.tmp 22) (.const (.slice none 0 0)) 69, _, _, _, some (4, false)⟩ rfl ?_; (try simp only [Rg.lp]); refine Rg.tq 9 ⟨some 24, .pick (.tmp 19) (.const (.bool true)) (.tmp 23), _, _, _, none⟩ rfl ?_; (try simp only [Rg.lp]); refine Rg.tq 10 ⟨some 25, .move (.tmp 24), _, _, _, none⟩ rfl ?_; (try simp only [Rg.lp]); refine Rg.tn 11 ⟨some 26, .move (.tmp 4), _, _, _, some (10, false)⟩ rfl ?_; (try simp only [Rg.lp]); refine Rg.tn 12 ⟨some 27, .indexAddr 101 (.tmp 3) (.tmp 26), _, _, _, some (10, false)⟩ rfl ?_; (try simp only [Rg.lp]); refine Rg.tn 13 ⟨some 28, .load 69 (.tmp 27), _, _, _, some (10, false)⟩ rfl ?_; (try simp only [Rg.lp]); refine Rg.tn 14 ⟨some 29, .move (.tmp 5), _, _, _, some (10, false)⟩ rfl ?_; (try simp only [Rg.lp]); refine Rg.tn 15 ⟨some 30, .indexAddr 101 (.tmp 3) (.tmp 29), _, _, _, some (10, false)⟩ rfl ?_; (try simp only [Rg.lp]); refine Rg.tn 16 ⟨some 31, .load 69 (.tmp 30), _, _, _, some (10, false)⟩ rfl ?_; (try simp only [Rg.lp]); refine Rg.tn 17 ⟨some 32, .call { callee := .value (.func 60), args := #[.tmp 28, .tmp 31], argTypes := _ }, _, _, _, some (10, false)⟩ rfl ?_
      (try simp only [Rg.lp]); refine Rg.tn 18 ⟨some 33, .unOp UnOp.not 4 (.tmp 32), _, _, _, some (10, false)⟩ rfl ?_; (try simp only [Rg.lp]); refine Rg.tq 19 ⟨some 34, .pick (.tmp 25) (.const (.bool true)) (.tmp 33), _, _, _, none⟩ rfl ?_; (try simp only [Rg.lp]); refine Rg.doneR (by kernel_rfl) ?_ _; refine NoPanic.normal ?_; clear HS; go_wp2_with fail; exact ⟨⟨k + 1, by omega, by omega, by go_num, HPN.out, HBW.out⟩, by simp [intOf]; omega⟩
     | some A =>
      have hla := HOL.out i A hoi; rw [hoi] at hsi; obtain ⟨aI, cI, hsv, hri, hci⟩ := hsi; rw [hla] at hsv hri hci; rw [hsv] at xi; have hqi : ∀ w, (binOp .eql 69 (.slice (some aI) 24 cI) (.slice none 0 0)).run Try.prog w = .ok (.bool false) w := fun w => Lib.run_eql_slice_nil w 69 3 (some aI) 24 cI 0 0 Try.underlying69
      cases hok : o k with
      | none =>
       rw [hok] at hsk
       rw [show s k = .slice none 0 0 from hsk] at xk
       have HPN := zz (HNP.out.step (pair_none2 (i := i) hok)); have hqk := hq0; clear hoi hok hsk hsv hri hci; have HS := And.intro xi xk; have HBW := zz HBW.out.drew
       go_upto_region 7 with fail
       refine wp_region_noPanic ?_; refine Rg.beginR [2, 7] (fun w' => w'.cell? ⟨gh, i, none⟩ = some (.slice (some aI) 24 cI) ∧ w'.cell? ⟨gh, k, none⟩ = some (.slice none 0 0)) (by kernel_rfl) ?_
       have HS := (show wr.drew.cell? ⟨gh, i, none⟩ = some (.slice (some aI) 24 cI) ∧ wr.drew.cell? ⟨gh, k, none⟩ = some (.slice none 0 0) from HS)
       have hV0 : w1.heap.size ≤ wr.drew.heap.size := HBW.out.size
       generalize wr.drew = V0 at *
       refine Rg.tq 0 ⟨some 15, .move (.tmp 4), _, _, _, none⟩ rfl ?_; (try simp only [Rg.lp]); refine Rg.tq 1 ⟨some 16, .indexAddr 101 (.tmp 3) (.tmp 15), _, _, _, none⟩ rfl ?_; (try simp only [Rg.lp]); refine Rg.tr 2 ⟨some 17, .load 69 (.tmp 16), _, _, _, none⟩ rfl HS ?_; (try simp only [Rg.lp]); refine Rg.tp 3 ⟨some 18, .binOp .eql 69 (.tmp 17) (.const (.slice none 0 0)) 69, _, _, _, none⟩ (v := ?_) rfl ?_ ?_; rotate_left 1
       · (intro w; have hq := hqi w; go_simp; (try with_reducible rfl))
       (try simp only [Rg.lp]); refine Rg.tq 4 ⟨some 19, .move (.tmp 18), _, _, _, none⟩ rfl ?_; (try simp only [Rg.lp]); refine Rg.tq 5 ⟨some 20, .move (.tmp 5), _, _, _, some (4, false)⟩ rfl ?_; (try simp only [Rg.lp]); refine Rg.tq 6 ⟨some 21, .indexAddr 101 (.tmp 3) (.tmp 20), _, _, _, some (4, false)⟩ rfl ?_; (try simp only [Rg.lp]); refine Rg.tr 7 ⟨some 22, .load 69 (.tmp 21), _, _, _, some (4, false)⟩ rfl HS ?_; (try simp only [Rg.lp]); refine Rg.tp 8 ⟨some 23, .binOp .eql 69 (.tmp 22) (.const (.slice none 0 0)) 69, _, _, _, some (4, false)⟩ (v := ?_) rfl ?_ ?_; rotate_left 1
       · (intro w; have hq := hqk w; go_simp; (try with_reducible rfl))
       (try simp only [Rg.lp]); refine Rg.tq 9 ⟨some 24, .pick (.tmp 19) (.const (.bool true)) (.tmp 23), _, _, _, none⟩ rfl ?_; (try simp only [Rg.lp]); refine Rg.tq 10 ⟨some 25, .move (.tmp 24), _, _, _, none⟩ rfl ?_; (try simp only [Rg.lp]); refine Rg.tn 11 ⟨some 26, .move (.tmp 4), _, _, _, some (10, false)⟩ rfl ?_; (try simp only [Rg.lp]); refine Rg.tn 12 ⟨some 27, .indexAddr 101 (.tmp 3) (.tmp 26), _, _, _, some (10, false)⟩ rfl ?_; (try simp only [Rg.lp]); refine Rg.tn 13 ⟨some 28, .load 69 (.tmp 27), _, _, _, some (10, false)⟩ rfl ?_; (try simp only [Rg.lp]); refine Rg.tn 14 ⟨some 29, .move (.tmp 5), _, _, _, some (10, false)⟩ rfl ?_; (try simp only [Rg.lp]); refine Rg.tn 15 ⟨some 30, .indexAddr 101 (.tmp 3) (.tmp 29), _, _, _, some (10, false)⟩ rfl ?_; (try simp only [Rg.lp]); refine Rg.tn 16 ⟨some 31, .load 69 (.tmp 30), _, _, _, some (10, false)⟩ rfl ?_; (try simp only [Rg.lp]); refine Rg.tn 17 ⟨some 32, .call { callee := .value (.func 60), args := #[.tmp 28, .tmp 31], argTypes := _ }, _, _, _, some (10, false)⟩ rfl ?_; (try simp only [Rg.lp]); refine Rg.tn 18 ⟨some 33, .unOp UnOp.not 4 (.tmp 32), _, _, _, some (10, false)⟩ rfl ?_; (try simp only [Rg.lp]); refine Rg.tq 19 ⟨some 34, .pick (.tmp 25) (.const (.bool true)) (.tmp 33), _, _, _, none⟩ rfl ?_; (try simp only [Rg.lp]); refine Rg.doneR (by kernel_rfl) ?_ _; refine NoPanic.normal ?_; clear HS; go_wp2_with fail; exact ⟨⟨k + 1, by omega, by omega, by go_num, HPN.out, HBW.out⟩, by simp [intOf]; omega⟩
      | some Bm =>
       have hlb := HOL.out k Bm hok; rw [hok] at hsk; obtain ⟨aK, cK, hsv2, hrk, hck⟩ := hsk; rw [hlb] at hsv2 hrk hck; rw [hsv2] at xk; have hqk : ∀ w, (binOp .eql 69 (.slice (some aK) 24 cK) (.slice none 0 0)).run Try.prog w = .ok (.bool false) w := fun w => Lib.run_eql_slice_nil w 69 3 (some aK) 24 cK 0 0 Try.underlying69; have HRI := zz hri; have HRK := zz hrk; have HXI := zz hsv; have HCI := zz hci; have HLA := zz hla
       have CS := zz (fun v (h1 : Rd v gl 1 (some aI) 24 (Ms.intsV A.zs)) (h2 : Rd v gl 1 (some aK) 24 (Ms.intsV Bm.zs)) => show Calls Try.prog 60 #[.slice (some aI) 24 cI, .slice (some aK) 24 cK] v fun e w' => e = .returned (.bool (decide (A.zs = Bm.zs))) ∧ Below v.heap.size v w' from by
        have c := Ms.same_eq (some aI) (some aK) cI cK A.zs Bm.zs (hlb.trans hla.symm) gl v (by omega) (by rw [hla]; exact h1) (by rw [hla]; exact h2); rw [hla] at c
        exact c)
       have HPY := zz (fun h : A.zs = Bm.zs => HNP.out.found hik hlk (pair_some hoi hok h)); have HPX := zz (fun h : ¬ A.zs = Bm.zs => HNP.out.step (pair_other hoi hok h)); clear hoi hok hsv hsv2 hri hrk hla hlb; have HS := And.intro xi xk; have HBW := zz HBW.out.drew
       go_upto_region 7 with fail
       refine wp_region_noPanic ?_; refine Rg.beginR [2, 7, 13, 16] (fun w' => w'.cell? ⟨gh, i, none⟩ = some (.slice (some aI) 24 cI) ∧ w'.cell? ⟨gh, k, none⟩ = some (.slice (some aK) 24 cK)) (by kernel_rfl) ?_
       have HS := (show wr.drew.cell? ⟨gh, i, none⟩ = some (.slice (some aI) 24 cI) ∧ wr.drew.cell? ⟨gh, k, none⟩ = some (.slice (some aK) 24 cK) from HS)
       have HRI := zz (show Rd wr.drew gl 1 (some aI) 24 (Ms.intsV A.zs) from HRI.out)
       have HRK := zz (show Rd wr.drew gl 1 (some aK) 24 (Ms.intsV Bm.zs) from HRK.out)
       have hV0 : w1.heap.size ≤ wr.drew.heap.size := HBW.out.size
       generalize wr.drew = V0 at *
       refine Rg.tq 0 ⟨some 15, .move (.tmp 4), _, _, _, none⟩ rfl ?_; (try simp only [Rg.lp]); refine Rg.tq 1 ⟨some 16, .indexAddr 101 (.tmp 3) (.tmp 15), _, _, _, none⟩ rfl ?_; (try simp only [Rg.lp]); refine Rg.tr 2 ⟨some 17, .load 69 (.tmp 16), _, _, _, none⟩ rfl HS ?_; (try simp only [Rg.lp]); refine Rg.tp 3 ⟨some 18, .binOp .eql 69 (.tmp 17) (.const (.slice none 0 0)) 69, _, _, _, none⟩ (v := ?_) rfl ?_ ?_; rotate_left 1
       · (intro w; have hq := hqi w; go_simp; (try with_reducible rfl))
       (try simp only [Rg.lp]); refine Rg.tq 4 ⟨some 19, .move (.tmp 18), _, _, _, none⟩ rfl ?_; (try simp only [Rg.lp]); refine Rg.tq 5 ⟨some 20, .move (.tmp 5), _, _, _, some (4, false)⟩ rfl ?_; (try simp only [Rg.lp]); refine Rg.tq 6 ⟨some 21, .indexAddr 101 (.tmp 3) (.tmp 20), _, _, _, some (4, false)⟩ rfl ?_; (try simp only [Rg.lp]); refine Rg.tr 7 ⟨some 22, .load 69 (.tmp 21), _, _, _, some (4, false)⟩ rfl HS ?_; (try simp only [Rg.lp]); refine Rg.tp 8 ⟨some 23, .binOp .eql 69 (.tmp 22) (.const (.slice none 0 0)) 69, _, _, _, some (4, false)⟩ (v := ?_) rfl ?_ ?_; rotate_left 1
       · (intro w; have hq := hqk w; go_simp; (try with_reducible rfl))
       (try simp only [Rg.lp]); refine Rg.tq 9 ⟨some 24, .pick (.tmp 19) (.const (.bool true)) (.tmp 23), _, _, _, none⟩ rfl ?_; (try simp only [Rg.lp]); refine Rg.tq 10 ⟨some 25, .move (.tmp 24), _, _, _, none⟩ rfl ?_; (try simp only [Rg.lp]); refine Rg.tq 11 ⟨some 26, .move (.tmp 4), _, _, _, some (10, false)⟩ rfl ?_; (try simp only [Rg.lp]); refine Rg.tq 12 ⟨some 27, .indexAddr 101 (.tmp 3) (.tmp 26), _, _, _, some (10, false)⟩ rfl ?_; (try simp only [Rg.lp]); refine Rg.tr 13 ⟨some 28, .load 69 (.tmp 27), _, _, _, some (10, false)⟩ rfl HS ?_; (try simp only [Rg.lp]); refine Rg.tq 14 ⟨some 29, .move (.tmp 5), _, _, _, some (10, false)⟩ rfl ?_; (try simp only [Rg.lp]); refine Rg.tq 15 ⟨some 30, .indexAddr 101 (.tmp 3) (.tmp 29), _, _, _, some (10, false)⟩ rfl ?_; (try simp only [Rg.lp]); refine Rg.tr 16 ⟨some 31, .load 69 (.tmp 30), _, _, _, some (10, false)⟩ rfl HS ?_; (try simp only [Rg.lp]); refine Rg.or1 17 ⟨some 32, .call { callee := .value (.func 60), args := #[.tmp 28, .tmp 31], argTypes := _ }, _, _, _, some (10, false)⟩ rfl ?_; refine Rg.stepF ?_ ?_
       · kernel_rfl
       intro K hK; rw [if_pos (by rfl)]; go_simp
       go_at_call 60
       refine (CS.out V0 HRI.out HRK.out).mono ?_; rintro e V1 ⟨rfl, hb⟩; have HBW := zz (onward HBW.out HGN.out.2.2 hb); have HRI1 := zz (HRI.out.below (hb.mono (Nat.le_trans HGN.out.2.2 hV0))); clear hb HS; have HS := trivial; go_wp2_with fail; refine hK.out _ _ ?_; clear hK K; (try simp only [Rg.lp]); refine Rg.tq 18 ⟨some 33, .unOp UnOp.not 4 (.tmp 32), _, _, _, some (10, false)⟩ rfl ?_; (try simp only [Rg.lp]); refine Rg.tq 19 ⟨some 34, .pick (.tmp 25) (.const (.bool true)) (.tmp 33), _, _, _, none⟩ rfl ?_; (try simp only [Rg.lp]); refine Rg.doneR (by kernel_rfl) ?_ _; refine NoPanic.normal ?_; clear HS
       by_cases hze : A.zs = Bm.zs
       ·
        have HPO := zz (HPY.out hze); have hdz : decide (A.zs = Bm.zs) = true := decide_eq_true hze; clear HPY HPX hze; rw [hdz]; have xi := ((HH.out.below HBW.out HGN.out.2.1).cell i).trans (HRS.out i hlt); rw [HXI.out] at xi
        have HBT := zz (HB.out.trans (HBW.out.mono (show w.heap.size ≤ gl by have := HGH.out; have := HGN.out; omega)))
        have HN1 := zz (HN.out.below HBT.out (show gn < w.heap.size by rw [HGH.out]; exact hgn))
        have hglv : gl ≤ V1.heap.size := Nat.le_trans HGN.out.2.2 HBW.out.size; go_wp2_with fail; refine (unpack_any f A.zs HLA.out (some aI) cI HCI.out S gn _ HF.out HN1.out (by rw [HLA.out]; exact HRI1.out.more hglv)).mono ?_; rintro e V2 ⟨rfl, hn2, hg2⟩; have HN2 := zz hn2; have HG2 := zz (gr_trans (gr_below (row := some gn) HBT.out) hg2)
        have HAF := zz (show adoptF o f = if unpackOk A.zs = true then unpackF A.zs f else f by unfold adoptF; rw [HPO.out]; rfl)
        clear hn2 hg2; go_wp2_with fail; refine bodyPost_ret (results_none rfl _ _ _) rfl ?_; exact ⟨rfl, by rw [HAF.out]; exact HN2.out, HG2.out⟩
       ·
        have HPO := zz (HPX.out hze); have hdz : decide (A.zs = Bm.zs) = false := decide_eq_false hze; clear HPY HPX hze; rw [hdz]; go_wp2_with fail; exact ⟨⟨k + 1, by omega, by omega, by go_num, HPO.out, HBW.out⟩, by simp [intOf]; omega⟩
    ·
     obtain rfl : k = 4 := by omega
     clear hlk; go_wp2_with fail; exact ⟨⟨i + 1, by omega, by go_num, HNP.out.next, HBW.out⟩, by simp [intOf]; omega⟩
  ·
   obtain rfl : i = 4 := by omega
   clear hlt
   have HAF := zz (show adoptF o f = f by unfold adoptF; rw [HNP.out.all (Nat.le_refl _)])
   have HBT := zz (HB.out.trans (HBW.out.mono (show w.heap.size ≤ gl by have := HGH.out; have := HGN.out; omega)))
   have HNF := zz (HN.out.below HBT.out (show gn < w.heap.size by rw [HGH.out]; exact hgn))
   go_wp2_with fail; refine bodyPost_end (results_none rfl _ _ _) rfl ?_; exact ⟨rfl, by rw [HAF.out]; exact HNF.out, gr_below HBT.out⟩
end Nd
end Go.Proofs.Ytobigbnmbnhikaa
