import Derived.Test.YtobigbnmbnhikaaPb0
import Derived.Test.YtobigbnmbnhikaaPbc18
import Derived.Test.YtobigbnmbnhikaaPb7
import Derived.Test.YtobigbnmbnhikaaPb11
import Derived.Test.YtobigbnmbnhikaaPb13
set_option linter.unusedVariables false
set_option linter.unusedSimpArgs false
namespace Go.Proofs.Ytobigbnmbnhikaa
namespace Cl
open Go.ChangeShapes Go.WideShapes Go.ChangeAt Go.RowKit Mem Rws Nd
def Old (w W : World) (R : Nat) : Prop := w.heap.size ≤ W.heap.size ∧ ∀ b, b < w.heap.size → b ≠ R → W.heap[b]? = w.heap[b]?
def Rest (s s' : RunC) : Prop := s'.fr = s.fr ∧ s'.rd = s.rd ∧ s'.bad = s.bad ∧ s'.LA = s.LA ∧ s'.LL = s.LL ∧ s'.LC = s.LC
theorem Old.keep {w w2 wr : World} {R : Nat} {s s' : RunC} (h : Old w w2 R) (k : Keep w2 wr R s s') (hb : ∀ i, i < 4 → s.own i = none) : Old w wr R :=
 ⟨Nat.le_trans h.1 k.size, fun b hb1 hR => (k.block b (Nat.lt_of_lt_of_le hb1 h.1) hR fun i hi e => by rw [hb i hi] at e; cases e).trans (h.2 b hb1 hR)⟩
theorem RunC.boxes_range {w : World} {R b0 : Nat} {s : RunC} (h : RunAt w R b0 s) : (row 4 fun j => s.cell (311 + j)) = row 4 s.boxV := row_congr fun j hj => s.cell_box hj
structure PhAt (w2 wx : World) (R b0 : Nat) (s s' : RunC) (gn gm : Nat) (F : Nat → Value) (V : List Bool) (k f n : Int) (zs : List Int) (AN : Option Addr) (cn : Nat) (AM : Option Addr) (cm : Nat) : Prop where
 node : Blk wx gn 45 (row 74 (nodeW F (.slice AN V.length cn)))
 msg : Blk wx gm 71 (Ms.msgC k f n AM zs.length cm)
 run : RunAt wx R b0 s'
 keep : Keep w2 wx R s.bare s'
 ra : Rd wx wx.heap.size 1 AN V.length (boolsV V)
 rm : Rd wx wx.heap.size 1 AM zs.length (Ms.intsV zs)
 an : (AN = none → cn = 0) ∧ V.length ≤ cn
 lo : 0 < V.length → ∀ a, AN = some a → a.block < wx.heap.size ∧ a.block ≠ R ∧ ∀ j, j < 4 → s'.own j ≠ some a.block
 lm : 0 < zs.length → ∀ a, AM = some a → a.block < wx.heap.size ∧ a.block ≠ R
 nn : gn ≠ R
 nm : gm ≠ R
 ge : ∀ a, AN = some a → w2.heap.size ≤ a.block
set_option maxRecDepth 100000 in
set_option maxHeartbeats 4000000 in
theorem phase_any (R b0 : Nat) (s : RunC) (ph : Int) (g : Nat) (lb : Array Value) (eg : ∀ args w, (callFunc g args).run Try.prog w = .ok (.enter g args) w) (ls : List Lie) (hll : s.LL = ls.length) (hn : ls.length ≤ 400) (w : World) (h : RunAt w R b0 s) (hls : LiesAt w b0 s.LA ls)
  (G : Nat → Nat → Value) (V : Nat → List Bool) (mk mf mn : Nat → Int) (mz : Nat → List Int) (hV : ∀ i, i < 4 → (V i).length ≤ 140737488351232) (hz : ∀ i, i < 4 → (mz i).length * 8 ≤ 140737488351232) (hG : ∀ i, i < 4 → ∀ j, j < 73 → okT (nodeT j) (G i j))
  (hf : ∀ i : Nat, i < 4 → (i : Int) ≠ s.bad → ∀ (W : World) (A : Option Addr) (c : Nat) (AI : Option Addr) (ci : Nat), Old w W R → (A = none → c = 0) → (s.VL i).length ≤ c → (s.VL i).length ≤ 140737488351232 → Rd W W.heap.size 1 A (s.VL i).length (boolsV (s.VL i)) → Ms.MsgsAt W W.heap.size AI (s.bX i) →
   Calls Try.prog g (#[.agg (row 74 (nodeW (s.F i) (.slice A (s.VL i).length c))), .slice AI (s.bX i).length ci] ++ lb) W fun e w' => NodeMsg W w' (G i) (V i) (mk i) (mf i) (mn i) (mz i) e) :
  Calls Try.prog 20 #[.pointer (some ⟨R, 0, none⟩), .int .i64 ph, .func (.func g) #[] lb] w fun e w' => e = .returned (.tuple #[]) ∧ Old w w' R ∧ w'.os = w.os ∧ w'.tape = w.tape ∧ w'.output = w.output ∧ ∃ s', RunAt w' R b0 s' ∧ Rest s s' ∧ s'.F = newK s.bad G s.F 4 ∧ s'.VL = newK s.bad V s.VL 4 ∧ s'.bX = phX s.bad ph ls mk mf mn mz 4 ∧ ∀ j, j < 4 → s'.VA j = s.VA j ∨ ∀ a, s'.VA j = some a → w.heap.size ≤ a.block := by
 have HRA := zz h; have HR0 := zz h; have hRw := h.blk.lt; have HLS := zz hls; have HF := zz hf; have HG := zz hG; clear h hls hf hG
 have i4 : (Try.prog.info? 78).map (·.size) = some 4 := by kernel_rfl
 have hbr := RunC.boxes_range HRA.out
 have i4r : (Try.prog.info? 78).map (·.size) = some (row 4 s.boxV).size := by rw [row_size]; exact i4
 have z4r : (#[.slice none 0 0, .slice none 0 0, .slice none 0 0, .slice none 0 0] : Array Value).size = (row 4 s.boxV).size := by rw [row_size]; rfl
 have o4r : (row 4 s.boxV).all (·.oneCell') = true := row_one fun j hj => rfl; obtain ⟨RB, hRB⟩ : ∃ x, row 4 s.boxV = x := ⟨_, rfl⟩; rw [hRB] at i4r z4r o4r hbr; have HRB := zz hRB; clear hRB
 have D6 := zz (show Blk (w.alloc (.cells #[.slice none 0 0, .slice none 0 0, .slice none 0 0, .slice none 0 0] 78)) w.heap.size 78 #[.slice none 0 0, .slice none 0 0, .slice none 0 0, .slice none 0 0] from Blk.fresh _ _ _)
 have hb : Below w.heap.size w (w.alloc (.cells #[.slice none 0 0, .slice none 0 0, .slice none 0 0, .slice none 0 0] 78)) := (Below.refl _ _).alloc (Nat.le_refl _) _; have HRA1 := zz (HRA.out.below hb); have HB := zz (below_setRow hb (Nat.le_refl _) RB); have hsz := hb.size; clear hb
 go_enter Try.func20, Try.ntmps20
 go_upto_region 1 with (first
  | (refine wpList_mid rfl 78 _ rfl R 311 4 rfl HRA.out.blk (by omega) _ Try.underlying78 rfl i4 ?_; rw [hbr])
  | (refine wpList_mid rfl 78 _ rfl R 311 4 rfl HRA1.out.blk (by omega) _ Try.underlying78 rfl i4 ?_; rw [hbr])
  | (refine wpList_store_row rfl 78 _ _ rfl w.heap.size RB rfl rfl 78 _ D6.out i4r z4r o4r ?_))
 have D6 := zz (D6.out.setRow RB); have HRA := zz (HRA.out.below HB.out)
 generalize ((w.alloc (.cells #[.slice none 0 0, .slice none 0 0, .slice none 0 0, .slice none 0 0] 78)).setRow w.heap.size RB) = w1 at *
 obtain ⟨gl, hgl⟩ : ∃ g, w.heap.size = g := ⟨_, rfl⟩; rw [hgl] at D6 ⊢; have HGL := zz hgl; clear hgl i4r z4r o4r hbr HRA1
 go_upto_region 2 with (refine wpList_put rfl 78 _ _ rfl R 311 4 (fun _ => .slice none 0 0) rfl rfl HRA.out.blk (by omega) i4 (fun _ _ => rfl) ?_)
 obtain ⟨hba, hgr⟩ := HRA.out.bare; have HBA := zz hba; have HGR := zz hgr; have hRl := HRA.out.blk.lt
 have DL := zz (show Blk (w1.setCells R 311 (row 4 fun _ => .slice none 0 0).toList) gl 78 RB from blk_mid_other (w := w1) (by have := HGL.out; omega) _ _ _ D6.out)
 have HOW := zz (show Old w (w1.setCells R 311 (row 4 fun _ => .slice none 0 0).toList) R from ⟨Nat.le_trans HB.out.size hgr.size, fun b hb hR => (hgr.block b (Nat.lt_of_lt_of_le hb HB.out.size) fun e => by injection e with e; exact hR e).trans (HB.out.block b hb)⟩)
 have HOS := zz (And.intro (hgr.os.trans HB.out.os) (And.intro (hgr.tape.trans HB.out.tape) (hgr.output.trans HB.out.output))); clear hba hgr HGR D6 HRA
 generalize (w1.setCells R 311 (row 4 fun _ => .slice none 0 0).toList) = w2 at *
 go_wp2_with fail
 go_loopw [18] (fun x wr => ∃ i : Nat, i ≤ 4 ∧ x = .int .i64 i ∧ ∃ s', RunAt wr R b0 s' ∧ Rest s s' ∧ s'.F = newK s.bad G s.F i ∧ s'.VL = newK s.bad V s.VL i ∧ s'.bX = phX s.bad ph ls mk mf mn mz i ∧ Keep w2 wr R s.bare s' ∧ ∀ j, j < 4 → s'.VA j = s.VA j ∨ ∀ a, s'.VA j = some a → w.heap.size ≤ a.block) (fun x _ => 4 - (intOf x).toNat)
 case atStart => exact ⟨0, by omega, rfl, s.bare, HBA.out, ⟨rfl, rfl, rfl, rfl, rfl, rfl⟩, (newK_zero _ _ _).symm, (newK_zero _ _ _).symm, rfl, Keep.refl _ _ _, fun _ _ => .inl rfl⟩
 case round =>
  obtain ⟨i, hi, rfl, s', hra, hre, hF, hVL, hbX, hkp, hva⟩ := hrel; have HRJ := zz hra; have HRE := zz hre; have HFE := zz hF; have HVE := zz hVL; have HXE := zz hbX; have HKJ := zz hkp; have HVA := zz hva; have HOJ := zz (HOW.out.keep hkp fun _ _ => rfl); have y9 := hra.bad_at; rw [hre.2.2.1] at y9; clear hra hre hF hVL hbX hkp hva
  by_cases hlt : i < 4
  ·
   have hj0 : (0 : Int) ≤ (i : Int) := by omega
   have hj4 : (i : Int) < 4 := by omega
   by_cases hbd : (i : Int) = s.bad
   ·
    have hbb : ((i : Int) == s.bad) = true := by simp [hbd]
    have HPX := zz (show phX s.bad ph ls mk mf mn mz (i + 1) = lieX (phX s.bad ph ls mk mf mn mz i) s.bad ph ls from if_pos hbd)
    have HG1 := zz (newK_bad s.bad G s.F i hbd); have HV1 := zz (newK_bad s.bad V s.VL i hbd)
    have HLJ := zz (show LiesAt wr b0 s'.LA ls from by
     rw [HRE.out.2.2.2.1]; have hlow := HR0.out.low
     exact HLS.out.keep fun b o hb => cell_same (HOJ.out.2 b (by omega) (by omega)) o)
    have HLN := zz (show ∀ k, k < 4 → (s'.bX k).length ≤ 100000 from fun k hk => by
     rw [HXE.out]; have := phX_len s.bad ph ls mk mf mn mz hn k i
     omega)
    clear hbd; go_wp2_with fail; refine (lie_any R b0 s' ph ls (HRE.out.2.2.2.2.1.trans hll) wr HRJ.out HLJ.out hn HLN.out).mono ?_; rintro e w4 ⟨rfl, bA, bC, hra, hkp⟩; have HRJ2 := zz hra; have HKJ2 := zz (HKJ.out.trans hkp); clear hra hkp; go_wp2_with fail
    exact ⟨⟨i + 1, by omega, by go_num, _, HRJ2.out, HRE.out, HFE.out.trans HG1.out.symm, HVE.out.trans HV1.out.symm, (show lieX s'.bX s'.bad ph ls = _ from by rw [HPX.out, HXE.out, HRE.out.2.2.1]), HKJ2.out, HVA.out⟩, by simp [intOf]; omega⟩
   ·
    have hbb : ((i : Int) == s.bad) = false := by simp [hbd]
    have HPX := zz (show phX s.bad ph ls mk mf mn mz (i + 1) = postX (phX s.bad ph ls mk mf mn mz i) (mk i) (mf i) (mn i) (mz i) from if_neg hbd)
    have HG1 := zz (newK_good s.bad G s.F i hbd); have HV1 := zz (newK_good s.bad V s.VL i hbd); have HBD := zz hbd; clear hbd
    go_upto_region 7 with fail
    go_cut [8, 9] (fun p q wx => ∃ gn gm AN cn AM cm, p = .pointer (some ⟨gn, 0, none⟩) ∧ q = .pointer (some ⟨gm, 0, none⟩) ∧ PhAt w2 wx R b0 s s' gn gm (G i) (V i) (mk i) (mf i) (mn i) (mz i) AN cn AM cm)
    case first =>
     have y6 : True := trivial
     have HVI := zz (show s'.VL i = s.VL i from by rw [HVE.out, newK_at])
     have YB := zz (show ∀ W, Keep w2 W R s.bare s' → W.cell? ⟨gl, i, none⟩ = some (s.boxV i) from fun W hk => by
      have hgR : gl ≠ R := by have := HGL.out; omega
      have hb := hk.kept DL.out hgR (fun j hj e => by cases e); have hc := hb.cell i; rw [← HRB.out, row_at (by omega)] at hc
      exact hc)
     have YN := zz (show ∀ W, RunAt W R b0 s' → W.rangeAt R (1 + i * 74) ((List.range 74).map (nodeW (s.F i) (.slice (s'.VA i) (s.VL i).length (s'.VC i)))) from fun W hr => by
      rw [show 1 + i * 74 = 1 + 74 * i by omega]
      have h1 := row_range hr.blk (1 + 74 * i) 74 (by omega)
      rw [List.map_congr_left (g := nodeW (s.F i) (.slice (s'.VA i) (s.VL i).length (s'.VC i))) (fun j hj => by
       have hj' := List.mem_range.1 hj; rw [s'.node_at hlt hj', HFE.out, newK_at]
       unfold RunC.verV
       rw [HVE.out, newK_at])] at h1
      exact h1)
     have hb : Below wr.heap.size wr wr.drew := (Below.refl _ _).drew; have HRJ := zz (HRJ.out.below hb); have HKJ := zz (HKJ.out.trans (Keep.of_below (R := R) (s := s') hb)); clear hb y9 hbb y6; refine wp_region_noPanic ?_
     have HS := (show wr.drew.cell? ⟨gl, i, none⟩ = some (s.boxV i) ∧ wr.drew.rangeAt R (1 + i * 74) ((List.range 74).map (nodeW (s.F i) (.slice (s'.VA i) (s.VL i).length (s'.VC i)))) from ⟨YB.out wr.drew HKJ.out, YN.out wr.drew HRJ.out⟩)
     refine Rg.beginR [7, 10] (fun w' => w'.cell? ⟨gl, i, none⟩ = some (s.boxV i) ∧ w'.rangeAt R (1 + i * 74) ((List.range 74).map (nodeW (s.F i) (.slice (s'.VA i) (s.VL i).length (s'.VC i))))) (by kernel_rfl) ?_
     generalize wr.drew = wv at *
     refine Rg.tq 0 ⟨some 32, .move (.tmp 2), _, _, _, none⟩ rfl ?_; (try simp only [Rg.lp]); refine Rg.tq 1 ⟨some 33, .move (.tmp 0), _, _, _, none⟩ rfl ?_; (try simp only [Rg.lp]); refine Rg.tq 2 ⟨some 34, .move (.tmp 7), _, _, _, none⟩ rfl ?_; (try simp only [Rg.lp]); refine Rg.tq 3 ⟨some 35, .nilCheck (.tmp 33), _, _, _, none⟩ rfl ?_; (try simp only [Rg.lp]); refine Rg.tq 4 ⟨some 36, .fieldAddr 80 (.tmp 35) 0, _, _, _, none⟩ rfl ?_; (try simp only [Rg.lp]); refine Rg.tq 5 ⟨some 37, .fieldAddr 48 (.tmp 36) 1, _, _, _, none⟩ rfl ?_; (try simp only [Rg.lp]); refine Rg.tq 6 ⟨some 38, .indexAddr 46 (.tmp 37) (.tmp 34), _, _, _, none⟩ rfl ?_; (try simp only [Rg.lp]); refine Rg.ts 7 ⟨some 39, .load 45 (.tmp 38), _, _, _, none⟩ (v := .agg (row 74 (nodeW (s.F i) (.slice (s'.VA i) (s.VL i).length (s'.VC i))))) rfl HS ?_ ?_
     · (intro w' hSw; exact exec_load_mid 45 _ rfl R (1 + i * 74) 74 rfl _ _ hSw.2 Try.underlying45 rfl (by kernel_rfl))
     (try simp only [Rg.lp]); refine Rg.tq 8 ⟨some 40, .move (.tmp 7), _, _, _, none⟩ rfl ?_; (try simp only [Rg.lp]); refine Rg.tq 9 ⟨some 41, .indexAddr 78 (.tmp 6) (.tmp 40), _, _, _, none⟩ rfl ?_; (try simp only [Rg.lp]); refine Rg.tr 10 ⟨some 42, .load 77 (.tmp 41), _, _, _, none⟩ rfl HS ?_; (try simp only [Rg.lp]); refine Rg.threeR (i := 11) (j := 15) (l := 16) (oi := ⟨some 43, .call { callee := Callee.value (.tmp 32), args := #[.tmp 39, .tmp 42], argTypes := _ }, _, _, _, none⟩) (oj := ⟨some 8, .alloc 45, _, _, _, none⟩) (ol := ⟨some 9, .alloc 71, _, _, _, none⟩) (by kernel_rfl) rfl rfl rfl ?_ ?_ ?_
     ·
      refine Rg.stepF ?_ ?_
      · kernel_rfl
      intro K hK; rw [if_pos (by rfl)]; go_simp; clear HS; have hv := HRJ.out.ver i hlt; rw [HVI.out] at hv; have HOV := HOW.out.keep HKJ.out fun _ _ => rfl; have hms := (msgs_old HR0.out.blk HOV.1 HOV.2 (HR0.out.box i hlt)).at.1; refine (HF.out i hlt HBD.out wv (s'.VA i) (s'.VC i) (s.bA i) (s.bC i) HOV hv.1 hv.2.1 hv.2.2.1 hv.2.2.2.1 hms).mono ?_; rintro e w4 ⟨AN, cn, AM, cm, rfl, hra, hrm, hb, hlo, hlm, han, hnc⟩
      have iN : (Try.prog.info? 45).map (·.size) = some (row 74 (nodeW (G i) (.slice AN (V i).length cn))).size := by rw [row_size]; kernel_rfl
      have zN : (Try.zeroCells45).size = (row 74 (nodeW (G i) (.slice AN (V i).length cn))).size := by rw [row_size]; kernel_rfl
      have oN := one_of (HG.out i hlt) (A := AN) (n := (V i).length) (c := cn); obtain ⟨RN, hRN⟩ : ∃ x, (row 74 (nodeW (G i) (.slice AN (V i).length cn))) = x := ⟨_, rfl⟩; rw [hRN] at iN zN oN ⊢; have HRN := zz hRN; clear hRN; have HCN := zz (And.intro han hnc)
      have HGE := zz (show ∀ a, AN = some a → w2.heap.size ≤ a.block from fun a e => Nat.le_trans HKJ.out.size (hlo a e))
      have HLO := zz (show ∀ a, AN = some a → a.block ≠ R ∧ ∀ j, j < 4 → s'.own j ≠ some a.block from fun a e => ⟨fun e2 => by have := hlo a e; have := HRJ.out.blk.lt; omega, fun j hj e2 => by have := hlo a e; have := (HRJ.out.own_ge hj e2).2; omega⟩)
      have HLM := zz (show ∀ a, AM = some a → a.block ≠ R from fun a e e2 => by have := hlm a e; have := HRJ.out.blk.lt; omega)
      have HAN := zz hra; have HAM := zz hrm; have HRJ := zz (HRJ.out.below hb); have HKJ := zz (HKJ.out.trans (Keep.of_below (R := R) (s := s') hb)); clear hb hv hms HOV hra hrm hlo hlm han hnc
      generalize wv = wq at *
      generalize w4 = wv at *
      have HS := (show wv.cell? ⟨gl, i, none⟩ = some (s.boxV i) ∧ wv.rangeAt R (1 + i * 74) ((List.range 74).map (nodeW (s.F i) (.slice (s'.VA i) (s.VL i).length (s'.VC i)))) from ⟨YB.out wv HKJ.out, YN.out wv HRJ.out⟩)
      unfold Ms.msgV
      refine hK.out _ _ ?_; clear hK K; (try simp only [Rg.lp]); refine Rg.tq 12 ⟨some 31, .move (.tmp 43), _, _, _, none⟩ rfl ?_; (try simp only [Rg.lp]); refine Rg.tq 13 ⟨some 44, .extract (.tmp 31) 0, _, _, _, none⟩ rfl ?_; (try simp only [Rg.lp]); refine Rg.tq 14 ⟨some 45, .extract (.tmp 31) 1, _, _, _, none⟩ rfl ?_; (try simp only [Rg.lp]); refine Rg.twoR (i := 15) (j := 16) (oi := ⟨some 8, .alloc 45, _, _, _, none⟩) (oj := ⟨some 9, .alloc 71, _, _, _, none⟩) (by kernel_rfl) rfl rfl ?_ ?_
      ·
       refine Rg.stepS ?_; intro K hK; go_simp; clear HS; have hb : Below wv.heap.size wv (wv.alloc (.cells Try.zeroCells45 45)) := (Below.refl _ _).alloc (Nat.le_refl _) _
       have BN' := zz (show Blk (wv.alloc (.cells Try.zeroCells45 45)) wv.heap.size 45 Try.zeroCells45 from Blk.fresh _ _ _)
       have HVN := zz (show ∀ j, j < 4 → 0 < (s'.VL j).length → ∀ a, s'.VA j = some a → a.block ≠ wv.heap.size from fun j hj hn0 a e => Nat.ne_of_lt ((HRJ.out.ver j hj).2.2.2.2 hn0 a e).1)
       have HON := zz (show wv.heap.size ≠ R ∧ ∀ j, j < 4 → s'.own j ≠ some wv.heap.size from ⟨Nat.ne_of_gt HRJ.out.blk.lt, fun j hj e => Nat.lt_irrefl _ (HRJ.out.own_ge hj e).2⟩)
       have HSN := zz (show w2.heap.size ≤ wv.heap.size from HKJ.out.size)
       have HQN := zz (show (0 < (V i).length → ∀ a, AN = some a → a.block ≠ wv.heap.size) ∧ (0 < (mz i).length → ∀ a, AM = some a → a.block ≠ wv.heap.size) from ⟨fun hn0 a e => Nat.ne_of_lt (rd_lt HAN.out hn0 e), fun hn0 a e => Nat.ne_of_lt (rd_lt HAM.out hn0 e)⟩)
       have HRJ := zz (HRJ.out.below hb); have HKJ := zz (HKJ.out.trans (Keep.of_below (R := R) (s := s') hb)); have HAN := zz ((HAN.out.below hb).more hb.size); have HAM := zz ((HAM.out.below hb).more hb.size); have BN := BN'; clear hb BN'; obtain ⟨gn, hgn⟩ : ∃ g, wv.heap.size = g := ⟨_, rfl⟩; rw [hgn] at BN HVN HON HSN HQN ⊢; clear hgn
       generalize (wv.alloc (.cells Try.zeroCells45 45)) = wv at *
       have HS := (show wv.cell? ⟨gl, i, none⟩ = some (s.boxV i) ∧ wv.rangeAt R (1 + i * 74) ((List.range 74).map (nodeW (s.F i) (.slice (s'.VA i) (s.VL i).length (s'.VC i)))) from ⟨YB.out wv HKJ.out, YN.out wv HRJ.out⟩)
       refine hK.out _ _ HS ?_; clear hK K; (try simp only [Rg.lp]); refine Rg.or1 16 ⟨some 9, .alloc 71, _, _, _, none⟩ rfl ?_; refine Rg.stepS ?_; intro K hK; go_simp; clear HS; have hb : Below wv.heap.size wv (wv.alloc (.cells #[.int .i64 0, .int .i64 0, .int .i64 0, .slice none 0 0] 71)) := (Below.refl _ _).alloc (Nat.le_refl _) _
       have BM' := zz (show Blk (wv.alloc (.cells #[.int .i64 0, .int .i64 0, .int .i64 0, .slice none 0 0] 71)) wv.heap.size 71 #[.int .i64 0, .int .i64 0, .int .i64 0, .slice none 0 0] from Blk.fresh _ _ _)
       have HVM := zz (show ∀ j, j < 4 → 0 < (s'.VL j).length → ∀ a, s'.VA j = some a → a.block ≠ wv.heap.size from fun j hj hn0 a e => Nat.ne_of_lt ((HRJ.out.ver j hj).2.2.2.2 hn0 a e).1)
       have HOM := zz (show wv.heap.size ≠ R ∧ ∀ j, j < 4 → s'.own j ≠ some wv.heap.size from ⟨Nat.ne_of_gt HRJ.out.blk.lt, fun j hj e => Nat.lt_irrefl _ (HRJ.out.own_ge hj e).2⟩)
       have HSM := zz (show w2.heap.size ≤ wv.heap.size from HKJ.out.size)
       have HNM := zz (show gn ≠ wv.heap.size from Nat.ne_of_lt BN.out.lt)
       have HQM := zz (show (0 < (V i).length → ∀ a, AN = some a → a.block ≠ wv.heap.size) ∧ (0 < (mz i).length → ∀ a, AM = some a → a.block ≠ wv.heap.size) from ⟨fun hn0 a e => Nat.ne_of_lt (rd_lt HAN.out hn0 e), fun hn0 a e => Nat.ne_of_lt (rd_lt HAM.out hn0 e)⟩)
       have HRJ := zz (HRJ.out.below hb); have HKJ := zz (HKJ.out.trans (Keep.of_below (R := R) (s := s') hb)); have BN := zz (BN.out.below hb BN.out.lt); have HAN := zz ((HAN.out.below hb).more hb.size); have HAM := zz ((HAM.out.below hb).more hb.size); have BM := BM'; clear hb BM'; obtain ⟨gm, hgm⟩ : ∃ g, wv.heap.size = g := ⟨_, rfl⟩; rw [hgm] at BM HVM HOM HSM HNM HQM ⊢; clear hgm
       generalize (wv.alloc (.cells #[.int .i64 0, .int .i64 0, .int .i64 0, .slice none 0 0] 71)) = wv at *
       have HS := (show wv.cell? ⟨gl, i, none⟩ = some (s.boxV i) ∧ wv.rangeAt R (1 + i * 74) ((List.range 74).map (nodeW (s.F i) (.slice (s'.VA i) (s.VL i).length (s'.VC i)))) from ⟨YB.out wv HKJ.out, YN.out wv HRJ.out⟩)
       refine hK.out _ _ HS ?_; clear hK K; (try simp only [Rg.lp]); refine Rg.or1 17 ⟨none, .store 45 (.tmp 8) (.tmp 44), _, _, _, none⟩ rfl ?_; refine Rg.stepF ?_ ?_
       · kernel_rfl
       intro K hK; rw [if_pos (by rfl)]; clear HS; refine wp_store_row 45 _ _ rfl gn RN rfl rfl 45 _ BN.out iN zN oN ?_; have hgr := gr_setRowR wv gn RN; have HRJ := zz (HRJ.out.aside BN.out hgr HON.out.1 HON.out.2 (by decide) HVN.out); have HKJ := zz (HKJ.out.aside hgr HSN.out); have HAN := zz (rd_kept HAN.out hgr.size fun hn0 a e => setRow_other wv gn a.block RN (HQN.out.1 hn0 a e)); have HAM := zz (rd_kept HAM.out hgr.size fun hn0 a e => setRow_other wv gn a.block RN (HQN.out.2 hn0 a e)); have BM := zz (BM.out.setRow_other (g' := gn) (fun e => HNM.out e.symm) RN); have BN := zz (BN.out.setRow RN); clear hgr
       generalize (wv.setRow gn RN) = wv at *
       have HS := (show wv.cell? ⟨gl, i, none⟩ = some (s.boxV i) ∧ wv.rangeAt R (1 + i * 74) ((List.range 74).map (nodeW (s.F i) (.slice (s'.VA i) (s.VL i).length (s'.VC i)))) from ⟨YB.out wv HKJ.out, YN.out wv HRJ.out⟩)
       refine hK.out _ _ ?_; clear hK K; (try simp only [Rg.lp]); refine Rg.or1 18 ⟨none, .store 71 (.tmp 9) (.tmp 45), _, _, _, none⟩ rfl ?_; refine Rg.stepF ?_ ?_
       · kernel_rfl
       intro K hK; rw [if_pos (by rfl)]; clear HS; refine wp_store_row 71 _ _ rfl gm (Ms.msgC (mk i) (mf i) (mn i) AM (mz i).length cm) rfl rfl 71 _ BM.out (by kernel_rfl) rfl (by simp [Ms.msgC, Value.oneCell']) ?_; have hgr := gr_setRowR wv gm (Ms.msgC (mk i) (mf i) (mn i) AM (mz i).length cm); have HRJ := zz (HRJ.out.aside BM.out hgr HOM.out.1 HOM.out.2 (by decide) HVM.out); have HKJ := zz (HKJ.out.aside hgr HSM.out); have HAN := zz (rd_kept HAN.out hgr.size fun hn0 a e => setRow_other wv gm a.block (Ms.msgC (mk i) (mf i) (mn i) AM (mz i).length cm) (HQM.out.1 hn0 a e)); have HAM := zz (rd_kept HAM.out hgr.size fun hn0 a e => setRow_other wv gm a.block (Ms.msgC (mk i) (mf i) (mn i) AM (mz i).length cm) (HQM.out.2 hn0 a e)); have BN := zz (BN.out.setRow_other (g' := gm) HNM.out (Ms.msgC (mk i) (mf i) (mn i) AM (mz i).length cm)); have BM := zz (BM.out.setRow (Ms.msgC (mk i) (mf i) (mn i) AM (mz i).length cm)); clear hgr
       generalize (wv.setRow gm (Ms.msgC (mk i) (mf i) (mn i) AM (mz i).length cm)) = wv at *
       have HS := (show wv.cell? ⟨gl, i, none⟩ = some (s.boxV i) ∧ wv.rangeAt R (1 + i * 74) ((List.range 74).map (nodeW (s.F i) (.slice (s'.VA i) (s.VL i).length (s'.VC i)))) from ⟨YB.out wv HKJ.out, YN.out wv HRJ.out⟩)
       refine hK.out _ _ ?_; clear hK K; (try simp only [Rg.lp]); refine Rg.doneR (by kernel_rfl) ?_ _; refine NoPanic.normal ?_; clear HS; go_wp2_with fail
       go_meet
       exact ⟨gn, gm, AN, cn, AM, cm, rfl, rfl, ⟨by rw [HRN.out]; exact BN.out, BM.out, HRJ.out, HKJ.out, HAN.out, HAM.out, HCN.out, fun hn0 a e => ⟨rd_lt HAN.out hn0 e, HLO.out a e⟩, fun hn0 a e => ⟨rd_lt HAM.out hn0 e, HLM.out a e⟩, HON.out.1, HOM.out.1, HGE.out⟩⟩
      ·
       refine Rg.stepS ?_; intro K hK; go_simp; clear HS; have hb : Below wv.heap.size wv (wv.alloc (.cells #[.int .i64 0, .int .i64 0, .int .i64 0, .slice none 0 0] 71)) := (Below.refl _ _).alloc (Nat.le_refl _) _
       have BM' := zz (show Blk (wv.alloc (.cells #[.int .i64 0, .int .i64 0, .int .i64 0, .slice none 0 0] 71)) wv.heap.size 71 #[.int .i64 0, .int .i64 0, .int .i64 0, .slice none 0 0] from Blk.fresh _ _ _)
       have HVM := zz (show ∀ j, j < 4 → 0 < (s'.VL j).length → ∀ a, s'.VA j = some a → a.block ≠ wv.heap.size from fun j hj hn0 a e => Nat.ne_of_lt ((HRJ.out.ver j hj).2.2.2.2 hn0 a e).1)
       have HOM := zz (show wv.heap.size ≠ R ∧ ∀ j, j < 4 → s'.own j ≠ some wv.heap.size from ⟨Nat.ne_of_gt HRJ.out.blk.lt, fun j hj e => Nat.lt_irrefl _ (HRJ.out.own_ge hj e).2⟩)
       have HSM := zz (show w2.heap.size ≤ wv.heap.size from HKJ.out.size)
       have HQM := zz (show (0 < (V i).length → ∀ a, AN = some a → a.block ≠ wv.heap.size) ∧ (0 < (mz i).length → ∀ a, AM = some a → a.block ≠ wv.heap.size) from ⟨fun hn0 a e => Nat.ne_of_lt (rd_lt HAN.out hn0 e), fun hn0 a e => Nat.ne_of_lt (rd_lt HAM.out hn0 e)⟩)
       have HRJ := zz (HRJ.out.below hb); have HKJ := zz (HKJ.out.trans (Keep.of_below (R := R) (s := s') hb)); have HAN := zz ((HAN.out.below hb).more hb.size); have HAM := zz ((HAM.out.below hb).more hb.size); have BM := BM'; clear hb BM'; obtain ⟨gm, hgm⟩ : ∃ g, wv.heap.size = g := ⟨_, rfl⟩; rw [hgm] at BM HVM HOM HSM HQM ⊢; clear hgm
       generalize (wv.alloc (.cells #[.int .i64 0, .int .i64 0, .int .i64 0, .slice none 0 0] 71)) = wv at *
       have HS := (show wv.cell? ⟨gl, i, none⟩ = some (s.boxV i) ∧ wv.rangeAt R (1 + i * 74) ((List.range 74).map (nodeW (s.F i) (.slice (s'.VA i) (s.VL i).length (s'.VC i)))) from ⟨YB.out wv HKJ.out, YN.out wv HRJ.out⟩)
       refine hK.out _ _ HS ?_; clear hK K; (try simp only [Rg.lp]); refine Rg.or1 15 ⟨some 8, .alloc 45, _, _, _, none⟩ rfl ?_; refine Rg.stepS ?_; intro K hK; go_simp; clear HS; have hb : Below wv.heap.size wv (wv.alloc (.cells Try.zeroCells45 45)) := (Below.refl _ _).alloc (Nat.le_refl _) _
       have BN' := zz (show Blk (wv.alloc (.cells Try.zeroCells45 45)) wv.heap.size 45 Try.zeroCells45 from Blk.fresh _ _ _)
       have HVN := zz (show ∀ j, j < 4 → 0 < (s'.VL j).length → ∀ a, s'.VA j = some a → a.block ≠ wv.heap.size from fun j hj hn0 a e => Nat.ne_of_lt ((HRJ.out.ver j hj).2.2.2.2 hn0 a e).1)
       have HON := zz (show wv.heap.size ≠ R ∧ ∀ j, j < 4 → s'.own j ≠ some wv.heap.size from ⟨Nat.ne_of_gt HRJ.out.blk.lt, fun j hj e => Nat.lt_irrefl _ (HRJ.out.own_ge hj e).2⟩)
       have HSN := zz (show w2.heap.size ≤ wv.heap.size from HKJ.out.size)
       have HNM := zz (show wv.heap.size ≠ gm from Nat.ne_of_gt BM.out.lt)
       have HQN := zz (show (0 < (V i).length → ∀ a, AN = some a → a.block ≠ wv.heap.size) ∧ (0 < (mz i).length → ∀ a, AM = some a → a.block ≠ wv.heap.size) from ⟨fun hn0 a e => Nat.ne_of_lt (rd_lt HAN.out hn0 e), fun hn0 a e => Nat.ne_of_lt (rd_lt HAM.out hn0 e)⟩)
       have HRJ := zz (HRJ.out.below hb); have HKJ := zz (HKJ.out.trans (Keep.of_below (R := R) (s := s') hb)); have BM := zz (BM.out.below hb BM.out.lt); have HAN := zz ((HAN.out.below hb).more hb.size); have HAM := zz ((HAM.out.below hb).more hb.size); have BN := BN'; clear hb BN'; obtain ⟨gn, hgn⟩ : ∃ g, wv.heap.size = g := ⟨_, rfl⟩; rw [hgn] at BN HVN HON HSN HNM HQN ⊢; clear hgn
       generalize (wv.alloc (.cells Try.zeroCells45 45)) = wv at *
       have HS := (show wv.cell? ⟨gl, i, none⟩ = some (s.boxV i) ∧ wv.rangeAt R (1 + i * 74) ((List.range 74).map (nodeW (s.F i) (.slice (s'.VA i) (s.VL i).length (s'.VC i)))) from ⟨YB.out wv HKJ.out, YN.out wv HRJ.out⟩)
       refine hK.out _ _ HS ?_; clear hK K; (try simp only [Rg.lp]); refine Rg.or1 17 ⟨none, .store 45 (.tmp 8) (.tmp 44), _, _, _, none⟩ rfl ?_; refine Rg.stepF ?_ ?_
       · kernel_rfl
       intro K hK; rw [if_pos (by rfl)]; clear HS; refine wp_store_row 45 _ _ rfl gn RN rfl rfl 45 _ BN.out iN zN oN ?_; have hgr := gr_setRowR wv gn RN; have HRJ := zz (HRJ.out.aside BN.out hgr HON.out.1 HON.out.2 (by decide) HVN.out); have HKJ := zz (HKJ.out.aside hgr HSN.out); have HAN := zz (rd_kept HAN.out hgr.size fun hn0 a e => setRow_other wv gn a.block RN (HQN.out.1 hn0 a e)); have HAM := zz (rd_kept HAM.out hgr.size fun hn0 a e => setRow_other wv gn a.block RN (HQN.out.2 hn0 a e)); have BM := zz (BM.out.setRow_other (g' := gn) (fun e => HNM.out e.symm) RN); have BN := zz (BN.out.setRow RN); clear hgr
       generalize (wv.setRow gn RN) = wv at *
       have HS := (show wv.cell? ⟨gl, i, none⟩ = some (s.boxV i) ∧ wv.rangeAt R (1 + i * 74) ((List.range 74).map (nodeW (s.F i) (.slice (s'.VA i) (s.VL i).length (s'.VC i)))) from ⟨YB.out wv HKJ.out, YN.out wv HRJ.out⟩)
       refine hK.out _ _ ?_; clear hK K; (try simp only [Rg.lp]); refine Rg.or1 18 ⟨none, .store 71 (.tmp 9) (.tmp 45), _, _, _, none⟩ rfl ?_; refine Rg.stepF ?_ ?_
       · kernel_rfl
       intro K hK; rw [if_pos (by rfl)]; clear HS; refine wp_store_row 71 _ _ rfl gm (Ms.msgC (mk i) (mf i) (mn i) AM (mz i).length cm) rfl rfl 71 _ BM.out (by kernel_rfl) rfl (by simp [Ms.msgC, Value.oneCell']) ?_; have hgr := gr_setRowR wv gm (Ms.msgC (mk i) (mf i) (mn i) AM (mz i).length cm); have HRJ := zz (HRJ.out.aside BM.out hgr HOM.out.1 HOM.out.2 (by decide) HVM.out); have HKJ := zz (HKJ.out.aside hgr HSM.out); have HAN := zz (rd_kept HAN.out hgr.size fun hn0 a e => setRow_other wv gm a.block (Ms.msgC (mk i) (mf i) (mn i) AM (mz i).length cm) (HQM.out.1 hn0 a e)); have HAM := zz (rd_kept HAM.out hgr.size fun hn0 a e => setRow_other wv gm a.block (Ms.msgC (mk i) (mf i) (mn i) AM (mz i).length cm) (HQM.out.2 hn0 a e)); have BN := zz (BN.out.setRow_other (g' := gm) HNM.out (Ms.msgC (mk i) (mf i) (mn i) AM (mz i).length cm)); have BM := zz (BM.out.setRow (Ms.msgC (mk i) (mf i) (mn i) AM (mz i).length cm)); clear hgr
       generalize (wv.setRow gm (Ms.msgC (mk i) (mf i) (mn i) AM (mz i).length cm)) = wv at *
       have HS := (show wv.cell? ⟨gl, i, none⟩ = some (s.boxV i) ∧ wv.rangeAt R (1 + i * 74) ((List.range 74).map (nodeW (s.F i) (.slice (s'.VA i) (s.VL i).length (s'.VC i)))) from ⟨YB.out wv HKJ.out, YN.out wv HRJ.out⟩)
       refine hK.out _ _ ?_; clear hK K; (try simp only [Rg.lp]); refine Rg.doneR (by kernel_rfl) ?_ _; refine NoPanic.normal ?_; clear HS; go_wp2_with fail
       go_meet
       exact ⟨gn, gm, AN, cn, AM, cm, rfl, rfl, ⟨by rw [HRN.out]; exact BN.out, BM.out, HRJ.out, HKJ.out, HAN.out, HAM.out, HCN.out, fun hn0 a e => ⟨rd_lt HAN.out hn0 e, HLO.out a e⟩, fun hn0 a e => ⟨rd_lt HAM.out hn0 e, HLM.out a e⟩, HON.out.1, HOM.out.1, HGE.out⟩⟩
     ·
      refine Rg.stepS ?_; intro K hK; go_simp; clear HS; have hb : Below wv.heap.size wv (wv.alloc (.cells Try.zeroCells45 45)) := (Below.refl _ _).alloc (Nat.le_refl _) _
      have BN' := zz (show Blk (wv.alloc (.cells Try.zeroCells45 45)) wv.heap.size 45 Try.zeroCells45 from Blk.fresh _ _ _)
      have HVN := zz (show ∀ j, j < 4 → 0 < (s'.VL j).length → ∀ a, s'.VA j = some a → a.block ≠ wv.heap.size from fun j hj hn0 a e => Nat.ne_of_lt ((HRJ.out.ver j hj).2.2.2.2 hn0 a e).1)
      have HON := zz (show wv.heap.size ≠ R ∧ ∀ j, j < 4 → s'.own j ≠ some wv.heap.size from ⟨Nat.ne_of_gt HRJ.out.blk.lt, fun j hj e => Nat.lt_irrefl _ (HRJ.out.own_ge hj e).2⟩)
      have HSN := zz (show w2.heap.size ≤ wv.heap.size from HKJ.out.size)
      have HRJ := zz (HRJ.out.below hb); have HKJ := zz (HKJ.out.trans (Keep.of_below (R := R) (s := s') hb)); have BN := BN'; clear hb BN'; obtain ⟨gn, hgn⟩ : ∃ g, wv.heap.size = g := ⟨_, rfl⟩; rw [hgn] at BN HVN HON HSN ⊢; clear hgn
      generalize (wv.alloc (.cells Try.zeroCells45 45)) = wv at *
      have HS := (show wv.cell? ⟨gl, i, none⟩ = some (s.boxV i) ∧ wv.rangeAt R (1 + i * 74) ((List.range 74).map (nodeW (s.F i) (.slice (s'.VA i) (s.VL i).length (s'.VC i)))) from ⟨YB.out wv HKJ.out, YN.out wv HRJ.out⟩)
      refine hK.out _ _ HS ?_; clear hK K; (try simp only [Rg.lp]); refine Rg.twoR (i := 11) (j := 16) (oi := ⟨some 43, .call { callee := Callee.value (.tmp 32), args := #[.tmp 39, .tmp 42], argTypes := _ }, _, _, _, none⟩) (oj := ⟨some 9, .alloc 71, _, _, _, none⟩) (by kernel_rfl) rfl rfl ?_ ?_
      ·
       refine Rg.stepF ?_ ?_
       · kernel_rfl
       intro K hK; rw [if_pos (by rfl)]; go_simp; clear HS; have hv := HRJ.out.ver i hlt; rw [HVI.out] at hv; have HOV := HOW.out.keep HKJ.out fun _ _ => rfl; have hms := (msgs_old HR0.out.blk HOV.1 HOV.2 (HR0.out.box i hlt)).at.1; refine (HF.out i hlt HBD.out wv (s'.VA i) (s'.VC i) (s.bA i) (s.bC i) HOV hv.1 hv.2.1 hv.2.2.1 hv.2.2.2.1 hms).mono ?_; rintro e w4 ⟨AN, cn, AM, cm, rfl, hra, hrm, hb, hlo, hlm, han, hnc⟩
       have iN : (Try.prog.info? 45).map (·.size) = some (row 74 (nodeW (G i) (.slice AN (V i).length cn))).size := by rw [row_size]; kernel_rfl
       have zN : (Try.zeroCells45).size = (row 74 (nodeW (G i) (.slice AN (V i).length cn))).size := by rw [row_size]; kernel_rfl
       have oN := one_of (HG.out i hlt) (A := AN) (n := (V i).length) (c := cn); obtain ⟨RN, hRN⟩ : ∃ x, (row 74 (nodeW (G i) (.slice AN (V i).length cn))) = x := ⟨_, rfl⟩; rw [hRN] at iN zN oN ⊢; have HRN := zz hRN; clear hRN; have HCN := zz (And.intro han hnc)
       have HGE := zz (show ∀ a, AN = some a → w2.heap.size ≤ a.block from fun a e => Nat.le_trans HKJ.out.size (hlo a e))
       have HLO := zz (show ∀ a, AN = some a → a.block ≠ R ∧ ∀ j, j < 4 → s'.own j ≠ some a.block from fun a e => ⟨fun e2 => by have := hlo a e; have := HRJ.out.blk.lt; omega, fun j hj e2 => by have := hlo a e; have := (HRJ.out.own_ge hj e2).2; omega⟩)
       have HLM := zz (show ∀ a, AM = some a → a.block ≠ R from fun a e e2 => by have := hlm a e; have := HRJ.out.blk.lt; omega)
       have HQN := zz (show (0 < (V i).length → ∀ a, AN = some a → a.block ≠ gn) ∧ (0 < (mz i).length → ∀ a, AM = some a → a.block ≠ gn) from ⟨fun _ a e e2 => by have := hlo a e; have := BN.out.lt; omega, fun _ a e e2 => by have := hlm a e; have := BN.out.lt; omega⟩)
       have HAN := zz hra; have HAM := zz hrm; have HRJ := zz (HRJ.out.below hb); have HKJ := zz (HKJ.out.trans (Keep.of_below (R := R) (s := s') hb)); have BN := zz (BN.out.below hb BN.out.lt); clear hb hv hms HOV hra hrm hlo hlm han hnc
       generalize wv = wq at *
       generalize w4 = wv at *
       have HS := (show wv.cell? ⟨gl, i, none⟩ = some (s.boxV i) ∧ wv.rangeAt R (1 + i * 74) ((List.range 74).map (nodeW (s.F i) (.slice (s'.VA i) (s.VL i).length (s'.VC i)))) from ⟨YB.out wv HKJ.out, YN.out wv HRJ.out⟩)
       unfold Ms.msgV
       refine hK.out _ _ ?_; clear hK K; (try simp only [Rg.lp]); refine Rg.tq 12 ⟨some 31, .move (.tmp 43), _, _, _, none⟩ rfl ?_; (try simp only [Rg.lp]); refine Rg.tq 13 ⟨some 44, .extract (.tmp 31) 0, _, _, _, none⟩ rfl ?_; (try simp only [Rg.lp]); refine Rg.tq 14 ⟨some 45, .extract (.tmp 31) 1, _, _, _, none⟩ rfl ?_; (try simp only [Rg.lp]); refine Rg.or1 16 ⟨some 9, .alloc 71, _, _, _, none⟩ rfl ?_; refine Rg.stepS ?_; intro K hK; go_simp; clear HS; have hb : Below wv.heap.size wv (wv.alloc (.cells #[.int .i64 0, .int .i64 0, .int .i64 0, .slice none 0 0] 71)) := (Below.refl _ _).alloc (Nat.le_refl _) _
       have BM' := zz (show Blk (wv.alloc (.cells #[.int .i64 0, .int .i64 0, .int .i64 0, .slice none 0 0] 71)) wv.heap.size 71 #[.int .i64 0, .int .i64 0, .int .i64 0, .slice none 0 0] from Blk.fresh _ _ _)
       have HVM := zz (show ∀ j, j < 4 → 0 < (s'.VL j).length → ∀ a, s'.VA j = some a → a.block ≠ wv.heap.size from fun j hj hn0 a e => Nat.ne_of_lt ((HRJ.out.ver j hj).2.2.2.2 hn0 a e).1)
       have HOM := zz (show wv.heap.size ≠ R ∧ ∀ j, j < 4 → s'.own j ≠ some wv.heap.size from ⟨Nat.ne_of_gt HRJ.out.blk.lt, fun j hj e => Nat.lt_irrefl _ (HRJ.out.own_ge hj e).2⟩)
       have HSM := zz (show w2.heap.size ≤ wv.heap.size from HKJ.out.size)
       have HNM := zz (show gn ≠ wv.heap.size from Nat.ne_of_lt BN.out.lt)
       have HQM := zz (show (0 < (V i).length → ∀ a, AN = some a → a.block ≠ wv.heap.size) ∧ (0 < (mz i).length → ∀ a, AM = some a → a.block ≠ wv.heap.size) from ⟨fun hn0 a e => Nat.ne_of_lt (rd_lt HAN.out hn0 e), fun hn0 a e => Nat.ne_of_lt (rd_lt HAM.out hn0 e)⟩)
       have HRJ := zz (HRJ.out.below hb); have HKJ := zz (HKJ.out.trans (Keep.of_below (R := R) (s := s') hb)); have BN := zz (BN.out.below hb BN.out.lt); have HAN := zz ((HAN.out.below hb).more hb.size); have HAM := zz ((HAM.out.below hb).more hb.size); have BM := BM'; clear hb BM'; obtain ⟨gm, hgm⟩ : ∃ g, wv.heap.size = g := ⟨_, rfl⟩; rw [hgm] at BM HVM HOM HSM HNM HQM ⊢; clear hgm
       generalize (wv.alloc (.cells #[.int .i64 0, .int .i64 0, .int .i64 0, .slice none 0 0] 71)) = wv at *
       have HS := (show wv.cell? ⟨gl, i, none⟩ = some (s.boxV i) ∧ wv.rangeAt R (1 + i * 74) ((List.range 74).map (nodeW (s.F i) (.slice (s'.VA i) (s.VL i).length (s'.VC i)))) from ⟨YB.out wv HKJ.out, YN.out wv HRJ.out⟩)
       refine hK.out _ _ HS ?_; clear hK K; (try simp only [Rg.lp]); refine Rg.or1 17 ⟨none, .store 45 (.tmp 8) (.tmp 44), _, _, _, none⟩ rfl ?_; refine Rg.stepF ?_ ?_
       · kernel_rfl
       intro K hK; rw [if_pos (by rfl)]; clear HS; refine wp_store_row 45 _ _ rfl gn RN rfl rfl 45 _ BN.out iN zN oN ?_; have hgr := gr_setRowR wv gn RN; have HRJ := zz (HRJ.out.aside BN.out hgr HON.out.1 HON.out.2 (by decide) HVN.out); have HKJ := zz (HKJ.out.aside hgr HSN.out); have HAN := zz (rd_kept HAN.out hgr.size fun hn0 a e => setRow_other wv gn a.block RN (HQN.out.1 hn0 a e)); have HAM := zz (rd_kept HAM.out hgr.size fun hn0 a e => setRow_other wv gn a.block RN (HQN.out.2 hn0 a e)); have BM := zz (BM.out.setRow_other (g' := gn) (fun e => HNM.out e.symm) RN); have BN := zz (BN.out.setRow RN); clear hgr
       generalize (wv.setRow gn RN) = wv at *
       have HS := (show wv.cell? ⟨gl, i, none⟩ = some (s.boxV i) ∧ wv.rangeAt R (1 + i * 74) ((List.range 74).map (nodeW (s.F i) (.slice (s'.VA i) (s.VL i).length (s'.VC i)))) from ⟨YB.out wv HKJ.out, YN.out wv HRJ.out⟩)
       refine hK.out _ _ ?_; clear hK K; (try simp only [Rg.lp]); refine Rg.or1 18 ⟨none, .store 71 (.tmp 9) (.tmp 45), _, _, _, none⟩ rfl ?_; refine Rg.stepF ?_ ?_
       · kernel_rfl
       intro K hK; rw [if_pos (by rfl)]; clear HS; refine wp_store_row 71 _ _ rfl gm (Ms.msgC (mk i) (mf i) (mn i) AM (mz i).length cm) rfl rfl 71 _ BM.out (by kernel_rfl) rfl (by simp [Ms.msgC, Value.oneCell']) ?_; have hgr := gr_setRowR wv gm (Ms.msgC (mk i) (mf i) (mn i) AM (mz i).length cm); have HRJ := zz (HRJ.out.aside BM.out hgr HOM.out.1 HOM.out.2 (by decide) HVM.out); have HKJ := zz (HKJ.out.aside hgr HSM.out); have HAN := zz (rd_kept HAN.out hgr.size fun hn0 a e => setRow_other wv gm a.block (Ms.msgC (mk i) (mf i) (mn i) AM (mz i).length cm) (HQM.out.1 hn0 a e)); have HAM := zz (rd_kept HAM.out hgr.size fun hn0 a e => setRow_other wv gm a.block (Ms.msgC (mk i) (mf i) (mn i) AM (mz i).length cm) (HQM.out.2 hn0 a e)); have BN := zz (BN.out.setRow_other (g' := gm) HNM.out (Ms.msgC (mk i) (mf i) (mn i) AM (mz i).length cm)); have BM := zz (BM.out.setRow (Ms.msgC (mk i) (mf i) (mn i) AM (mz i).length cm)); clear hgr
       generalize (wv.setRow gm (Ms.msgC (mk i) (mf i) (mn i) AM (mz i).length cm)) = wv at *
       have HS := (show wv.cell? ⟨gl, i, none⟩ = some (s.boxV i) ∧ wv.rangeAt R (1 + i * 74) ((List.range 74).map (nodeW (s.F i) (.slice (s'.VA i) (s.VL i).length (s'.VC i)))) from ⟨YB.out wv HKJ.out, YN.out wv HRJ.out⟩)
       refine hK.out _ _ ?_; clear hK K; (try simp only [Rg.lp]); refine Rg.doneR (by kernel_rfl) ?_ _; refine NoPanic.normal ?_; clear HS; go_wp2_with fail
       go_meet
       exact ⟨gn, gm, AN, cn, AM, cm, rfl, rfl, ⟨by rw [HRN.out]; exact BN.out, BM.out, HRJ.out, HKJ.out, HAN.out, HAM.out, HCN.out, fun hn0 a e => ⟨rd_lt HAN.out hn0 e, HLO.out a e⟩, fun hn0 a e => ⟨rd_lt HAM.out hn0 e, HLM.out a e⟩, HON.out.1, HOM.out.1, HGE.out⟩⟩
      ·
       refine Rg.stepS ?_; intro K hK; go_simp; clear HS; have hb : Below wv.heap.size wv (wv.alloc (.cells #[.int .i64 0, .int .i64 0, .int .i64 0, .slice none 0 0] 71)) := (Below.refl _ _).alloc (Nat.le_refl _) _
       have BM' := zz (show Blk (wv.alloc (.cells #[.int .i64 0, .int .i64 0, .int .i64 0, .slice none 0 0] 71)) wv.heap.size 71 #[.int .i64 0, .int .i64 0, .int .i64 0, .slice none 0 0] from Blk.fresh _ _ _)
       have HVM := zz (show ∀ j, j < 4 → 0 < (s'.VL j).length → ∀ a, s'.VA j = some a → a.block ≠ wv.heap.size from fun j hj hn0 a e => Nat.ne_of_lt ((HRJ.out.ver j hj).2.2.2.2 hn0 a e).1)
       have HOM := zz (show wv.heap.size ≠ R ∧ ∀ j, j < 4 → s'.own j ≠ some wv.heap.size from ⟨Nat.ne_of_gt HRJ.out.blk.lt, fun j hj e => Nat.lt_irrefl _ (HRJ.out.own_ge hj e).2⟩)
       have HSM := zz (show w2.heap.size ≤ wv.heap.size from HKJ.out.size)
       have HNM := zz (show gn ≠ wv.heap.size from Nat.ne_of_lt BN.out.lt)
       have HRJ := zz (HRJ.out.below hb); have HKJ := zz (HKJ.out.trans (Keep.of_below (R := R) (s := s') hb)); have BN := zz (BN.out.below hb BN.out.lt); have BM := BM'; clear hb BM'; obtain ⟨gm, hgm⟩ : ∃ g, wv.heap.size = g := ⟨_, rfl⟩; rw [hgm] at BM HVM HOM HSM HNM ⊢; clear hgm
       generalize (wv.alloc (.cells #[.int .i64 0, .int .i64 0, .int .i64 0, .slice none 0 0] 71)) = wv at *
       have HS := (show wv.cell? ⟨gl, i, none⟩ = some (s.boxV i) ∧ wv.rangeAt R (1 + i * 74) ((List.range 74).map (nodeW (s.F i) (.slice (s'.VA i) (s.VL i).length (s'.VC i)))) from ⟨YB.out wv HKJ.out, YN.out wv HRJ.out⟩)
       refine hK.out _ _ HS ?_; clear hK K; (try simp only [Rg.lp]); refine Rg.or1 11 ⟨some 43, .call { callee := Callee.value (.tmp 32), args := #[.tmp 39, .tmp 42], argTypes := _ }, _, _, _, none⟩ rfl ?_; refine Rg.stepF ?_ ?_
       · kernel_rfl
       intro K hK; rw [if_pos (by rfl)]; go_simp; clear HS; have hv := HRJ.out.ver i hlt; rw [HVI.out] at hv; have HOV := HOW.out.keep HKJ.out fun _ _ => rfl; have hms := (msgs_old HR0.out.blk HOV.1 HOV.2 (HR0.out.box i hlt)).at.1; refine (HF.out i hlt HBD.out wv (s'.VA i) (s'.VC i) (s.bA i) (s.bC i) HOV hv.1 hv.2.1 hv.2.2.1 hv.2.2.2.1 hms).mono ?_; rintro e w4 ⟨AN, cn, AM, cm, rfl, hra, hrm, hb, hlo, hlm, han, hnc⟩
       have iN : (Try.prog.info? 45).map (·.size) = some (row 74 (nodeW (G i) (.slice AN (V i).length cn))).size := by rw [row_size]; kernel_rfl
       have zN : (Try.zeroCells45).size = (row 74 (nodeW (G i) (.slice AN (V i).length cn))).size := by rw [row_size]; kernel_rfl
       have oN := one_of (HG.out i hlt) (A := AN) (n := (V i).length) (c := cn); obtain ⟨RN, hRN⟩ : ∃ x, (row 74 (nodeW (G i) (.slice AN (V i).length cn))) = x := ⟨_, rfl⟩; rw [hRN] at iN zN oN ⊢; have HRN := zz hRN; clear hRN; have HCN := zz (And.intro han hnc)
       have HGE := zz (show ∀ a, AN = some a → w2.heap.size ≤ a.block from fun a e => Nat.le_trans HKJ.out.size (hlo a e))
       have HLO := zz (show ∀ a, AN = some a → a.block ≠ R ∧ ∀ j, j < 4 → s'.own j ≠ some a.block from fun a e => ⟨fun e2 => by have := hlo a e; have := HRJ.out.blk.lt; omega, fun j hj e2 => by have := hlo a e; have := (HRJ.out.own_ge hj e2).2; omega⟩)
       have HLM := zz (show ∀ a, AM = some a → a.block ≠ R from fun a e e2 => by have := hlm a e; have := HRJ.out.blk.lt; omega)
       have HQN := zz (show (0 < (V i).length → ∀ a, AN = some a → a.block ≠ gn) ∧ (0 < (mz i).length → ∀ a, AM = some a → a.block ≠ gn) from ⟨fun _ a e e2 => by have := hlo a e; have := BN.out.lt; omega, fun _ a e e2 => by have := hlm a e; have := BN.out.lt; omega⟩)
       have HQM := zz (show (0 < (V i).length → ∀ a, AN = some a → a.block ≠ gm) ∧ (0 < (mz i).length → ∀ a, AM = some a → a.block ≠ gm) from ⟨fun _ a e e2 => by have := hlo a e; have := BM.out.lt; omega, fun _ a e e2 => by have := hlm a e; have := BM.out.lt; omega⟩)
       have HAN := zz hra; have HAM := zz hrm; have HRJ := zz (HRJ.out.below hb); have HKJ := zz (HKJ.out.trans (Keep.of_below (R := R) (s := s') hb)); have BN := zz (BN.out.below hb BN.out.lt); have BM := zz (BM.out.below hb BM.out.lt); clear hb hv hms HOV hra hrm hlo hlm han hnc
       generalize wv = wq at *
       generalize w4 = wv at *
       have HS := (show wv.cell? ⟨gl, i, none⟩ = some (s.boxV i) ∧ wv.rangeAt R (1 + i * 74) ((List.range 74).map (nodeW (s.F i) (.slice (s'.VA i) (s.VL i).length (s'.VC i)))) from ⟨YB.out wv HKJ.out, YN.out wv HRJ.out⟩)
       unfold Ms.msgV
       refine hK.out _ _ ?_; clear hK K; (try simp only [Rg.lp]); refine Rg.tq 12 ⟨some 31, .move (.tmp 43), _, _, _, none⟩ rfl ?_; (try simp only [Rg.lp]); refine Rg.tq 13 ⟨some 44, .extract (.tmp 31) 0, _, _, _, none⟩ rfl ?_; (try simp only [Rg.lp]); refine Rg.tq 14 ⟨some 45, .extract (.tmp 31) 1, _, _, _, none⟩ rfl ?_; (try simp only [Rg.lp]); refine Rg.or1 17 ⟨none, .store 45 (.tmp 8) (.tmp 44), _, _, _, none⟩ rfl ?_; refine Rg.stepF ?_ ?_
       · kernel_rfl
       intro K hK; rw [if_pos (by rfl)]; clear HS; refine wp_store_row 45 _ _ rfl gn RN rfl rfl 45 _ BN.out iN zN oN ?_; have hgr := gr_setRowR wv gn RN; have HRJ := zz (HRJ.out.aside BN.out hgr HON.out.1 HON.out.2 (by decide) HVN.out); have HKJ := zz (HKJ.out.aside hgr HSN.out); have HAN := zz (rd_kept HAN.out hgr.size fun hn0 a e => setRow_other wv gn a.block RN (HQN.out.1 hn0 a e)); have HAM := zz (rd_kept HAM.out hgr.size fun hn0 a e => setRow_other wv gn a.block RN (HQN.out.2 hn0 a e)); have BM := zz (BM.out.setRow_other (g' := gn) (fun e => HNM.out e.symm) RN); have BN := zz (BN.out.setRow RN); clear hgr
       generalize (wv.setRow gn RN) = wv at *
       have HS := (show wv.cell? ⟨gl, i, none⟩ = some (s.boxV i) ∧ wv.rangeAt R (1 + i * 74) ((List.range 74).map (nodeW (s.F i) (.slice (s'.VA i) (s.VL i).length (s'.VC i)))) from ⟨YB.out wv HKJ.out, YN.out wv HRJ.out⟩)
       refine hK.out _ _ ?_; clear hK K; (try simp only [Rg.lp]); refine Rg.or1 18 ⟨none, .store 71 (.tmp 9) (.tmp 45), _, _, _, none⟩ rfl ?_; refine Rg.stepF ?_ ?_
       · kernel_rfl
       intro K hK; rw [if_pos (by rfl)]; clear HS; refine wp_store_row 71 _ _ rfl gm (Ms.msgC (mk i) (mf i) (mn i) AM (mz i).length cm) rfl rfl 71 _ BM.out (by kernel_rfl) rfl (by simp [Ms.msgC, Value.oneCell']) ?_; have hgr := gr_setRowR wv gm (Ms.msgC (mk i) (mf i) (mn i) AM (mz i).length cm); have HRJ := zz (HRJ.out.aside BM.out hgr HOM.out.1 HOM.out.2 (by decide) HVM.out); have HKJ := zz (HKJ.out.aside hgr HSM.out); have HAN := zz (rd_kept HAN.out hgr.size fun hn0 a e => setRow_other wv gm a.block (Ms.msgC (mk i) (mf i) (mn i) AM (mz i).length cm) (HQM.out.1 hn0 a e)); have HAM := zz (rd_kept HAM.out hgr.size fun hn0 a e => setRow_other wv gm a.block (Ms.msgC (mk i) (mf i) (mn i) AM (mz i).length cm) (HQM.out.2 hn0 a e)); have BN := zz (BN.out.setRow_other (g' := gm) HNM.out (Ms.msgC (mk i) (mf i) (mn i) AM (mz i).length cm)); have BM := zz (BM.out.setRow (Ms.msgC (mk i) (mf i) (mn i) AM (mz i).length cm)); clear hgr
       generalize (wv.setRow gm (Ms.msgC (mk i) (mf i) (mn i) AM (mz i).length cm)) = wv at *
       have HS := (show wv.cell? ⟨gl, i, none⟩ = some (s.boxV i) ∧ wv.rangeAt R (1 + i * 74) ((List.range 74).map (nodeW (s.F i) (.slice (s'.VA i) (s.VL i).length (s'.VC i)))) from ⟨YB.out wv HKJ.out, YN.out wv HRJ.out⟩)
       refine hK.out _ _ ?_; clear hK K; (try simp only [Rg.lp]); refine Rg.doneR (by kernel_rfl) ?_ _; refine NoPanic.normal ?_; clear HS; go_wp2_with fail
       go_meet
       exact ⟨gn, gm, AN, cn, AM, cm, rfl, rfl, ⟨by rw [HRN.out]; exact BN.out, BM.out, HRJ.out, HKJ.out, HAN.out, HAM.out, HCN.out, fun hn0 a e => ⟨rd_lt HAN.out hn0 e, HLO.out a e⟩, fun hn0 a e => ⟨rd_lt HAM.out hn0 e, HLM.out a e⟩, HON.out.1, HOM.out.1, HGE.out⟩⟩
     ·
      refine Rg.stepS ?_; intro K hK; go_simp; clear HS; have hb : Below wv.heap.size wv (wv.alloc (.cells #[.int .i64 0, .int .i64 0, .int .i64 0, .slice none 0 0] 71)) := (Below.refl _ _).alloc (Nat.le_refl _) _
      have BM' := zz (show Blk (wv.alloc (.cells #[.int .i64 0, .int .i64 0, .int .i64 0, .slice none 0 0] 71)) wv.heap.size 71 #[.int .i64 0, .int .i64 0, .int .i64 0, .slice none 0 0] from Blk.fresh _ _ _)
      have HVM := zz (show ∀ j, j < 4 → 0 < (s'.VL j).length → ∀ a, s'.VA j = some a → a.block ≠ wv.heap.size from fun j hj hn0 a e => Nat.ne_of_lt ((HRJ.out.ver j hj).2.2.2.2 hn0 a e).1)
      have HOM := zz (show wv.heap.size ≠ R ∧ ∀ j, j < 4 → s'.own j ≠ some wv.heap.size from ⟨Nat.ne_of_gt HRJ.out.blk.lt, fun j hj e => Nat.lt_irrefl _ (HRJ.out.own_ge hj e).2⟩)
      have HSM := zz (show w2.heap.size ≤ wv.heap.size from HKJ.out.size)
      have HRJ := zz (HRJ.out.below hb); have HKJ := zz (HKJ.out.trans (Keep.of_below (R := R) (s := s') hb)); have BM := BM'; clear hb BM'; obtain ⟨gm, hgm⟩ : ∃ g, wv.heap.size = g := ⟨_, rfl⟩; rw [hgm] at BM HVM HOM HSM ⊢; clear hgm
      generalize (wv.alloc (.cells #[.int .i64 0, .int .i64 0, .int .i64 0, .slice none 0 0] 71)) = wv at *
      have HS := (show wv.cell? ⟨gl, i, none⟩ = some (s.boxV i) ∧ wv.rangeAt R (1 + i * 74) ((List.range 74).map (nodeW (s.F i) (.slice (s'.VA i) (s.VL i).length (s'.VC i)))) from ⟨YB.out wv HKJ.out, YN.out wv HRJ.out⟩)
      refine hK.out _ _ HS ?_; clear hK K; (try simp only [Rg.lp]); refine Rg.twoR (i := 11) (j := 15) (oi := ⟨some 43, .call { callee := Callee.value (.tmp 32), args := #[.tmp 39, .tmp 42], argTypes := _ }, _, _, _, none⟩) (oj := ⟨some 8, .alloc 45, _, _, _, none⟩) (by kernel_rfl) rfl rfl ?_ ?_
      ·
       refine Rg.stepF ?_ ?_
       · kernel_rfl
       intro K hK; rw [if_pos (by rfl)]; go_simp; clear HS; have hv := HRJ.out.ver i hlt; rw [HVI.out] at hv; have HOV := HOW.out.keep HKJ.out fun _ _ => rfl; have hms := (msgs_old HR0.out.blk HOV.1 HOV.2 (HR0.out.box i hlt)).at.1; refine (HF.out i hlt HBD.out wv (s'.VA i) (s'.VC i) (s.bA i) (s.bC i) HOV hv.1 hv.2.1 hv.2.2.1 hv.2.2.2.1 hms).mono ?_; rintro e w4 ⟨AN, cn, AM, cm, rfl, hra, hrm, hb, hlo, hlm, han, hnc⟩
       have iN : (Try.prog.info? 45).map (·.size) = some (row 74 (nodeW (G i) (.slice AN (V i).length cn))).size := by rw [row_size]; kernel_rfl
       have zN : (Try.zeroCells45).size = (row 74 (nodeW (G i) (.slice AN (V i).length cn))).size := by rw [row_size]; kernel_rfl
       have oN := one_of (HG.out i hlt) (A := AN) (n := (V i).length) (c := cn); obtain ⟨RN, hRN⟩ : ∃ x, (row 74 (nodeW (G i) (.slice AN (V i).length cn))) = x := ⟨_, rfl⟩; rw [hRN] at iN zN oN ⊢; have HRN := zz hRN; clear hRN; have HCN := zz (And.intro han hnc)
       have HGE := zz (show ∀ a, AN = some a → w2.heap.size ≤ a.block from fun a e => Nat.le_trans HKJ.out.size (hlo a e))
       have HLO := zz (show ∀ a, AN = some a → a.block ≠ R ∧ ∀ j, j < 4 → s'.own j ≠ some a.block from fun a e => ⟨fun e2 => by have := hlo a e; have := HRJ.out.blk.lt; omega, fun j hj e2 => by have := hlo a e; have := (HRJ.out.own_ge hj e2).2; omega⟩)
       have HLM := zz (show ∀ a, AM = some a → a.block ≠ R from fun a e e2 => by have := hlm a e; have := HRJ.out.blk.lt; omega)
       have HQM := zz (show (0 < (V i).length → ∀ a, AN = some a → a.block ≠ gm) ∧ (0 < (mz i).length → ∀ a, AM = some a → a.block ≠ gm) from ⟨fun _ a e e2 => by have := hlo a e; have := BM.out.lt; omega, fun _ a e e2 => by have := hlm a e; have := BM.out.lt; omega⟩)
       have HAN := zz hra; have HAM := zz hrm; have HRJ := zz (HRJ.out.below hb); have HKJ := zz (HKJ.out.trans (Keep.of_below (R := R) (s := s') hb)); have BM := zz (BM.out.below hb BM.out.lt); clear hb hv hms HOV hra hrm hlo hlm han hnc
       generalize wv = wq at *
       generalize w4 = wv at *
       have HS := (show wv.cell? ⟨gl, i, none⟩ = some (s.boxV i) ∧ wv.rangeAt R (1 + i * 74) ((List.range 74).map (nodeW (s.F i) (.slice (s'.VA i) (s.VL i).length (s'.VC i)))) from ⟨YB.out wv HKJ.out, YN.out wv HRJ.out⟩)
       unfold Ms.msgV
       refine hK.out _ _ ?_; clear hK K; (try simp only [Rg.lp]); refine Rg.tq 12 ⟨some 31, .move (.tmp 43), _, _, _, none⟩ rfl ?_; (try simp only [Rg.lp]); refine Rg.tq 13 ⟨some 44, .extract (.tmp 31) 0, _, _, _, none⟩ rfl ?_; (try simp only [Rg.lp]); refine Rg.tq 14 ⟨some 45, .extract (.tmp 31) 1, _, _, _, none⟩ rfl ?_; (try simp only [Rg.lp]); refine Rg.or1 15 ⟨some 8, .alloc 45, _, _, _, none⟩ rfl ?_; refine Rg.stepS ?_; intro K hK; go_simp; clear HS; have hb : Below wv.heap.size wv (wv.alloc (.cells Try.zeroCells45 45)) := (Below.refl _ _).alloc (Nat.le_refl _) _
       have BN' := zz (show Blk (wv.alloc (.cells Try.zeroCells45 45)) wv.heap.size 45 Try.zeroCells45 from Blk.fresh _ _ _)
       have HVN := zz (show ∀ j, j < 4 → 0 < (s'.VL j).length → ∀ a, s'.VA j = some a → a.block ≠ wv.heap.size from fun j hj hn0 a e => Nat.ne_of_lt ((HRJ.out.ver j hj).2.2.2.2 hn0 a e).1)
       have HON := zz (show wv.heap.size ≠ R ∧ ∀ j, j < 4 → s'.own j ≠ some wv.heap.size from ⟨Nat.ne_of_gt HRJ.out.blk.lt, fun j hj e => Nat.lt_irrefl _ (HRJ.out.own_ge hj e).2⟩)
       have HSN := zz (show w2.heap.size ≤ wv.heap.size from HKJ.out.size)
       have HNM := zz (show wv.heap.size ≠ gm from Nat.ne_of_gt BM.out.lt)
       have HQN := zz (show (0 < (V i).length → ∀ a, AN = some a → a.block ≠ wv.heap.size) ∧ (0 < (mz i).length → ∀ a, AM = some a → a.block ≠ wv.heap.size) from ⟨fun hn0 a e => Nat.ne_of_lt (rd_lt HAN.out hn0 e), fun hn0 a e => Nat.ne_of_lt (rd_lt HAM.out hn0 e)⟩)
       have HRJ := zz (HRJ.out.below hb); have HKJ := zz (HKJ.out.trans (Keep.of_below (R := R) (s := s') hb)); have BM := zz (BM.out.below hb BM.out.lt); have HAN := zz ((HAN.out.below hb).more hb.size); have HAM := zz ((HAM.out.below hb).more hb.size); have BN := BN'; clear hb BN'; obtain ⟨gn, hgn⟩ : ∃ g, wv.heap.size = g := ⟨_, rfl⟩; rw [hgn] at BN HVN HON HSN HNM HQN ⊢; clear hgn
       generalize (wv.alloc (.cells Try.zeroCells45 45)) = wv at *
       have HS := (show wv.cell? ⟨gl, i, none⟩ = some (s.boxV i) ∧ wv.rangeAt R (1 + i * 74) ((List.range 74).map (nodeW (s.F i) (.slice (s'.VA i) (s.VL i).length (s'.VC i)))) from ⟨YB.out wv HKJ.out, YN.out wv HRJ.out⟩)
       refine hK.out _ _ HS ?_; clear hK K; (try simp only [Rg.lp]); refine Rg.or1 17 ⟨none, .store 45 (.tmp 8) (.tmp 44), _, _, _, none⟩ rfl ?_; refine Rg.stepF ?_ ?_
       · kernel_rfl
       intro K hK; rw [if_pos (by rfl)]; clear HS; refine wp_store_row 45 _ _ rfl gn RN rfl rfl 45 _ BN.out iN zN oN ?_; have hgr := gr_setRowR wv gn RN; have HRJ := zz (HRJ.out.aside BN.out hgr HON.out.1 HON.out.2 (by decide) HVN.out); have HKJ := zz (HKJ.out.aside hgr HSN.out); have HAN := zz (rd_kept HAN.out hgr.size fun hn0 a e => setRow_other wv gn a.block RN (HQN.out.1 hn0 a e)); have HAM := zz (rd_kept HAM.out hgr.size fun hn0 a e => setRow_other wv gn a.block RN (HQN.out.2 hn0 a e)); have BM := zz (BM.out.setRow_other (g' := gn) (fun e => HNM.out e.symm) RN); have BN := zz (BN.out.setRow RN); clear hgr
       generalize (wv.setRow gn RN) = wv at *
       have HS := (show wv.cell? ⟨gl, i, none⟩ = some (s.boxV i) ∧ wv.rangeAt R (1 + i * 74) ((List.range 74).map (nodeW (s.F i) (.slice (s'.VA i) (s.VL i).length (s'.VC i)))) from ⟨YB.out wv HKJ.out, YN.out wv HRJ.out⟩)
       refine hK.out _ _ ?_; clear hK K; (try simp only [Rg.lp]); refine Rg.or1 18 ⟨none, .store 71 (.tmp 9) (.tmp 45), _, _, _, none⟩ rfl ?_; refine Rg.stepF ?_ ?_
       · kernel_rfl
       intro K hK; rw [if_pos (by rfl)]; clear HS; refine wp_store_row 71 _ _ rfl gm (Ms.msgC (mk i) (mf i) (mn i) AM (mz i).length cm) rfl rfl 71 _ BM.out (by kernel_rfl) rfl (by simp [Ms.msgC, Value.oneCell']) ?_; have hgr := gr_setRowR wv gm (Ms.msgC (mk i) (mf i) (mn i) AM (mz i).length cm); have HRJ := zz (HRJ.out.aside BM.out hgr HOM.out.1 HOM.out.2 (by decide) HVM.out); have HKJ := zz (HKJ.out.aside hgr HSM.out); have HAN := zz (rd_kept HAN.out hgr.size fun hn0 a e => setRow_other wv gm a.block (Ms.msgC (mk i) (mf i) (mn i) AM (mz i).length cm) (HQM.out.1 hn0 a e)); have HAM := zz (rd_kept HAM.out hgr.size fun hn0 a e => setRow_other wv gm a.block (Ms.msgC (mk i) (mf i) (mn i) AM (mz i).length cm) (HQM.out.2 hn0 a e)); have BN := zz (BN.out.setRow_other (g' := gm) HNM.out (Ms.msgC (mk i) (mf i) (mn i) AM (mz i).length cm)); have BM := zz (BM.out.setRow (Ms.msgC (mk i) (mf i) (mn i) AM (mz i).length cm)); clear hgr
       generalize (wv.setRow gm (Ms.msgC (mk i) (mf i) (mn i) AM (mz i).length cm)) = wv at *
       have HS := (show wv.cell? ⟨gl, i, none⟩ = some (s.boxV i) ∧ wv.rangeAt R (1 + i * 74) ((List.range 74).map (nodeW (s.F i) (.slice (s'.VA i) (s.VL i).length (s'.VC i)))) from ⟨YB.out wv HKJ.out, YN.out wv HRJ.out⟩)
       refine hK.out _ _ ?_; clear hK K; (try simp only [Rg.lp]); refine Rg.doneR (by kernel_rfl) ?_ _; refine NoPanic.normal ?_; clear HS; go_wp2_with fail
       go_meet
       exact ⟨gn, gm, AN, cn, AM, cm, rfl, rfl, ⟨by rw [HRN.out]; exact BN.out, BM.out, HRJ.out, HKJ.out, HAN.out, HAM.out, HCN.out, fun hn0 a e => ⟨rd_lt HAN.out hn0 e, HLO.out a e⟩, fun hn0 a e => ⟨rd_lt HAM.out hn0 e, HLM.out a e⟩, HON.out.1, HOM.out.1, HGE.out⟩⟩
      ·
       refine Rg.stepS ?_; intro K hK; go_simp; clear HS; have hb : Below wv.heap.size wv (wv.alloc (.cells Try.zeroCells45 45)) := (Below.refl _ _).alloc (Nat.le_refl _) _
       have BN' := zz (show Blk (wv.alloc (.cells Try.zeroCells45 45)) wv.heap.size 45 Try.zeroCells45 from Blk.fresh _ _ _)
       have HVN := zz (show ∀ j, j < 4 → 0 < (s'.VL j).length → ∀ a, s'.VA j = some a → a.block ≠ wv.heap.size from fun j hj hn0 a e => Nat.ne_of_lt ((HRJ.out.ver j hj).2.2.2.2 hn0 a e).1)
       have HON := zz (show wv.heap.size ≠ R ∧ ∀ j, j < 4 → s'.own j ≠ some wv.heap.size from ⟨Nat.ne_of_gt HRJ.out.blk.lt, fun j hj e => Nat.lt_irrefl _ (HRJ.out.own_ge hj e).2⟩)
       have HSN := zz (show w2.heap.size ≤ wv.heap.size from HKJ.out.size)
       have HNM := zz (show wv.heap.size ≠ gm from Nat.ne_of_gt BM.out.lt)
       have HRJ := zz (HRJ.out.below hb); have HKJ := zz (HKJ.out.trans (Keep.of_below (R := R) (s := s') hb)); have BM := zz (BM.out.below hb BM.out.lt); have BN := BN'; clear hb BN'; obtain ⟨gn, hgn⟩ : ∃ g, wv.heap.size = g := ⟨_, rfl⟩; rw [hgn] at BN HVN HON HSN HNM ⊢; clear hgn
       generalize (wv.alloc (.cells Try.zeroCells45 45)) = wv at *
       have HS := (show wv.cell? ⟨gl, i, none⟩ = some (s.boxV i) ∧ wv.rangeAt R (1 + i * 74) ((List.range 74).map (nodeW (s.F i) (.slice (s'.VA i) (s.VL i).length (s'.VC i)))) from ⟨YB.out wv HKJ.out, YN.out wv HRJ.out⟩)
       refine hK.out _ _ HS ?_; clear hK K; (try simp only [Rg.lp]); refine Rg.or1 11 ⟨some 43, .call { callee := Callee.value (.tmp 32), args := #[.tmp 39, .tmp 42], argTypes := _ }, _, _, _, none⟩ rfl ?_; refine Rg.stepF ?_ ?_
       · kernel_rfl
       intro K hK; rw [if_pos (by rfl)]; go_simp; clear HS; have hv := HRJ.out.ver i hlt; rw [HVI.out] at hv; have HOV := HOW.out.keep HKJ.out fun _ _ => rfl; have hms := (msgs_old HR0.out.blk HOV.1 HOV.2 (HR0.out.box i hlt)).at.1; refine (HF.out i hlt HBD.out wv (s'.VA i) (s'.VC i) (s.bA i) (s.bC i) HOV hv.1 hv.2.1 hv.2.2.1 hv.2.2.2.1 hms).mono ?_; rintro e w4 ⟨AN, cn, AM, cm, rfl, hra, hrm, hb, hlo, hlm, han, hnc⟩
       have iN : (Try.prog.info? 45).map (·.size) = some (row 74 (nodeW (G i) (.slice AN (V i).length cn))).size := by rw [row_size]; kernel_rfl
       have zN : (Try.zeroCells45).size = (row 74 (nodeW (G i) (.slice AN (V i).length cn))).size := by rw [row_size]; kernel_rfl
       have oN := one_of (HG.out i hlt) (A := AN) (n := (V i).length) (c := cn); obtain ⟨RN, hRN⟩ : ∃ x, (row 74 (nodeW (G i) (.slice AN (V i).length cn))) = x := ⟨_, rfl⟩; rw [hRN] at iN zN oN ⊢; have HRN := zz hRN; clear hRN; have HCN := zz (And.intro han hnc)
       have HGE := zz (show ∀ a, AN = some a → w2.heap.size ≤ a.block from fun a e => Nat.le_trans HKJ.out.size (hlo a e))
       have HLO := zz (show ∀ a, AN = some a → a.block ≠ R ∧ ∀ j, j < 4 → s'.own j ≠ some a.block from fun a e => ⟨fun e2 => by have := hlo a e; have := HRJ.out.blk.lt; omega, fun j hj e2 => by have := hlo a e; have := (HRJ.out.own_ge hj e2).2; omega⟩)
       have HLM := zz (show ∀ a, AM = some a → a.block ≠ R from fun a e e2 => by have := hlm a e; have := HRJ.out.blk.lt; omega)
       have HQN := zz (show (0 < (V i).length → ∀ a, AN = some a → a.block ≠ gn) ∧ (0 < (mz i).length → ∀ a, AM = some a → a.block ≠ gn) from ⟨fun _ a e e2 => by have := hlo a e; have := BN.out.lt; omega, fun _ a e e2 => by have := hlm a e; have := BN.out.lt; omega⟩)
       have HQM := zz (show (0 < (V i).length → ∀ a, AN = some a → a.block ≠ gm) ∧ (0 < (mz i).length → ∀ a, AM = some a → a.block ≠ gm) from ⟨fun _ a e e2 => by have := hlo a e; have := BM.out.lt; omega, fun _ a e e2 => by have := hlm a e; have := BM.out.lt; omega⟩)
       have HAN := zz hra; have HAM := zz hrm; have HRJ := zz (HRJ.out.below hb); have HKJ := zz (HKJ.out.trans (Keep.of_below (R := R) (s := s') hb)); have BN := zz (BN.out.below hb BN.out.lt); have BM := zz (BM.out.below hb BM.out.lt); clear hb hv hms HOV hra hrm hlo hlm han hnc
       generalize wv = wq at *
       generalize w4 = wv at *
       have HS := (show wv.cell? ⟨gl, i, none⟩ = some (s.boxV i) ∧ wv.rangeAt R (1 + i * 74) ((List.range 74).map (nodeW (s.F i) (.slice (s'.VA i) (s.VL i).length (s'.VC i)))) from ⟨YB.out wv HKJ.out, YN.out wv HRJ.out⟩)
       unfold Ms.msgV
       refine hK.out _ _ ?_; clear hK K; (try simp only [Rg.lp]); refine Rg.tq 12 ⟨some 31, .move (.tmp 43), _, _, _, none⟩ rfl ?_; (try simp only [Rg.lp]); refine Rg.tq 13 ⟨some 44, .extract (.tmp 31) 0, _, _, _, none⟩ rfl ?_; (try simp only [Rg.lp]); refine Rg.tq 14 ⟨some 45, .extract (.tmp 31) 1, _, _, _, none⟩ rfl ?_; (try simp only [Rg.lp]); refine Rg.or1 17 ⟨none, .store 45 (.tmp 8) (.tmp 44), _, _, _, none⟩ rfl ?_; refine Rg.stepF ?_ ?_
       · kernel_rfl
       intro K hK; rw [if_pos (by rfl)]; clear HS; refine wp_store_row 45 _ _ rfl gn RN rfl rfl 45 _ BN.out iN zN oN ?_; have hgr := gr_setRowR wv gn RN; have HRJ := zz (HRJ.out.aside BN.out hgr HON.out.1 HON.out.2 (by decide) HVN.out); have HKJ := zz (HKJ.out.aside hgr HSN.out); have HAN := zz (rd_kept HAN.out hgr.size fun hn0 a e => setRow_other wv gn a.block RN (HQN.out.1 hn0 a e)); have HAM := zz (rd_kept HAM.out hgr.size fun hn0 a e => setRow_other wv gn a.block RN (HQN.out.2 hn0 a e)); have BM := zz (BM.out.setRow_other (g' := gn) (fun e => HNM.out e.symm) RN); have BN := zz (BN.out.setRow RN); clear hgr
       generalize (wv.setRow gn RN) = wv at *
       have HS := (show wv.cell? ⟨gl, i, none⟩ = some (s.boxV i) ∧ wv.rangeAt R (1 + i * 74) ((List.range 74).map (nodeW (s.F i) (.slice (s'.VA i) (s.VL i).length (s'.VC i)))) from ⟨YB.out wv HKJ.out, YN.out wv HRJ.out⟩)
       refine hK.out _ _ ?_; clear hK K; (try simp only [Rg.lp]); refine Rg.or1 18 ⟨none, .store 71 (.tmp 9) (.tmp 45), _, _, _, none⟩ rfl ?_; refine Rg.stepF ?_ ?_
       · kernel_rfl
       intro K hK; rw [if_pos (by rfl)]; clear HS; refine wp_store_row 71 _ _ rfl gm (Ms.msgC (mk i) (mf i) (mn i) AM (mz i).length cm) rfl rfl 71 _ BM.out (by kernel_rfl) rfl (by simp [Ms.msgC, Value.oneCell']) ?_; have hgr := gr_setRowR wv gm (Ms.msgC (mk i) (mf i) (mn i) AM (mz i).length cm); have HRJ := zz (HRJ.out.aside BM.out hgr HOM.out.1 HOM.out.2 (by decide) HVM.out); have HKJ := zz (HKJ.out.aside hgr HSM.out); have HAN := zz (rd_kept HAN.out hgr.size fun hn0 a e => setRow_other wv gm a.block (Ms.msgC (mk i) (mf i) (mn i) AM (mz i).length cm) (HQM.out.1 hn0 a e)); have HAM := zz (rd_kept HAM.out hgr.size fun hn0 a e => setRow_other wv gm a.block (Ms.msgC (mk i) (mf i) (mn i) AM (mz i).length cm) (HQM.out.2 hn0 a e)); have BN := zz (BN.out.setRow_other (g' := gm) HNM.out (Ms.msgC (mk i) (mf i) (mn i) AM (mz i).length cm)); have BM := zz (BM.out.setRow (Ms.msgC (mk i) (mf i) (mn i) AM (mz i).length cm)); clear hgr
       generalize (wv.setRow gm (Ms.msgC (mk i) (mf i) (mn i) AM (mz i).length cm)) = wv at *
       have HS := (show wv.cell? ⟨gl, i, none⟩ = some (s.boxV i) ∧ wv.rangeAt R (1 + i * 74) ((List.range 74).map (nodeW (s.F i) (.slice (s'.VA i) (s.VL i).length (s'.VC i)))) from ⟨YB.out wv HKJ.out, YN.out wv HRJ.out⟩)
       refine hK.out _ _ ?_; clear hK K; (try simp only [Rg.lp]); refine Rg.doneR (by kernel_rfl) ?_ _; refine NoPanic.normal ?_; clear HS; go_wp2_with fail
       go_meet
       exact ⟨gn, gm, AN, cn, AM, cm, rfl, rfl, ⟨by rw [HRN.out]; exact BN.out, BM.out, HRJ.out, HKJ.out, HAN.out, HAM.out, HCN.out, fun hn0 a e => ⟨rd_lt HAN.out hn0 e, HLO.out a e⟩, fun hn0 a e => ⟨rd_lt HAM.out hn0 e, HLM.out a e⟩, HON.out.1, HOM.out.1, HGE.out⟩⟩
    case rest =>
     obtain ⟨gn, gm, AN, cn, AM, cm, rfl, rfl, hp⟩ := hcut; have HP := zz hp; have BN := zz hp.node
     have iN : (Try.prog.info? 45).map (·.size) = some (row 74 (nodeW (G i) (.slice AN (V i).length cn))).size := by rw [row_size]; kernel_rfl
     obtain ⟨RN, hRN⟩ : ∃ x, (row 74 (nodeW (G i) (.slice AN (V i).length cn))) = x := ⟨_, rfl⟩; rw [hRN] at BN iN; have iN' := iN; have HRN := zz hRN; clear hRN hp
     go_upto_region 8 with fail
     have hb8 : Below wc.heap.size wc wc.drew := (Below.refl _ _).drew; have HRJ := zz (HP.out.run.below hb8); have BN := zz (BN.out.below hb8 BN.out.lt); have HS : Blk wc.drew gn 45 RN := BN.out; have HAN := zz ((HP.out.ra.below hb8).more hb8.size); have HAM := zz ((HP.out.rm.below hb8).more hb8.size); have BM := zz (HP.out.msg.below hb8 HP.out.msg.lt); have HKJ := zz (HP.out.keep.trans (Keep.of_below (R := R) (s := s') hb8)); refine wp_region_noPanic ?_; refine Rg.beginR [2] (fun w' => Blk w' gn 45 RN) (by kernel_rfl) ?_
     generalize wc.drew = wv at *
     refine Rg.tq 0 ⟨some 46, .move (.tmp 0), _, _, _, none⟩ rfl ?_; (try simp only [Rg.lp]); refine Rg.tq 1 ⟨some 47, .move (.tmp 7), _, _, _, none⟩ rfl ?_; (try simp only [Rg.lp]); refine Rg.ts 2 ⟨some 48, .load 45 (.tmp 8), _, _, _, none⟩ (v := .agg RN) rfl HS ?_ ?_
     · (intro w' hSw; exact exec_load_row 45 _ rfl _ rfl hSw Try.underlying45 rfl iN')
     (try simp only [Rg.lp]); refine Rg.tq 3 ⟨some 49, .nilCheck (.tmp 46), _, _, _, none⟩ rfl ?_; (try simp only [Rg.lp]); refine Rg.tq 4 ⟨some 50, .fieldAddr 80 (.tmp 49) 0, _, _, _, none⟩ rfl ?_; (try simp only [Rg.lp]); refine Rg.tq 5 ⟨some 51, .fieldAddr 48 (.tmp 50) 1, _, _, _, none⟩ rfl ?_; (try simp only [Rg.lp]); refine Rg.tq 6 ⟨some 52, .indexAddr 46 (.tmp 51) (.tmp 47), _, _, _, none⟩ rfl ?_; (try simp only [Rg.lp]); refine Rg.or1 7 ⟨none, .store 45 (.tmp 52) (.tmp 48), _, _, _, none⟩ rfl ?_; refine Rg.stepF ?_ ?_
     · kernel_rfl
     intro K hK; rw [if_pos (by rfl)]; have oN := one_of (HG.out i hlt) (A := AN) (n := (V i).length) (c := cn); rw [HRN.out] at oN; refine wp_store_mid 45 _ _ rfl R (1 + i * 74) RN rfl rfl (by rw [← HRN.out, row_size]; exact row_there HRJ.out.blk (1 + i * 74) 74 (by omega)) iN oN ?_; clear HS; refine hK.out _ _ ?_; clear hK K; (try simp only [Rg.lp]); refine Rg.doneR (by kernel_rfl) ?_ _; refine NoPanic.normal ?_; have hset := HRJ.out.setNode hlt (G i) AN (V i) cn ⟨HP.out.an.1, HP.out.an.2, hV i hlt, HAN.out, fun hn0 a e => ⟨rd_lt HAN.out hn0 e, (HP.out.lo hn0 a e).2⟩⟩
     rw [HRN.out, show 1 + 74 * i = 1 + i * 74 by omega] at hset
     have HST := zz hset; clear hset
     have BM := zz (show Blk (wv.setCells R (1 + i * 74) RN.toList) gm 71 (Ms.msgC (mk i) (mf i) (mn i) AM (mz i).length cm) from blk_mid_other (w := wv) HP.out.nm RN.toList (1 + i * 74) wv BM.out)
     have hgr := gr_setCellsR wv R RN.toList (1 + i * 74); have HAM := zz (rd_kept HAM.out hgr.size fun hn0 a e => hgr.block a.block (rd_lt HAM.out hn0 e) (fun e2 => by injection e2 with e2; exact (HP.out.lm hn0 a e).2 e2)); have HKZ := zz (HKJ.out.trans HST.out.2); have HRZ := zz HST.out.1; clear hgr HST
     generalize (wv.setCells R (1 + i * 74) RN.toList) = wz at *
     have HLN := zz (show ∀ k, k < 4 → (((s'.setNode i (G i) AN (V i) cn).bX k).length + 1) * 48 ≤ 140737488351232 from fun k hk => by
      show ((s'.bX k).length + 1) * 48 ≤ _
      rw [HXE.out]; have := phX_len s.bad ph ls mk mf mn mz hn k i
      omega)
     go_wp2_with (refine wpList_whole rfl 71 _ rfl gm rfl BM.out _ Try.underlying71 rfl (by kernel_rfl) ?_)
     refine (post_any R b0 (s'.setNode i (G i) AN (V i) cn) (mk i) (mf i) (mn i) AM cm (mz i) wz.heap.size wz HRZ.out HLN.out (Nat.le_refl _) (hz i hlt) HAM.out).mono ?_; rintro e w5 ⟨rfl, bA, bC, hra, hkp⟩; have HR5 := zz hra; have HK5 := zz (HKZ.out.trans hkp); clear hra hkp; go_wp2_with fail
     have HVN := zz (show ∀ j, j < 4 → setAt s'.VA i AN j = s.VA j ∨ ∀ a, setAt s'.VA i AN j = some a → w.heap.size ≤ a.block from fun j hj => by
      by_cases ej : j = i
      · subst ej; rw [setAt_self]; exact .inr fun a e => Nat.le_trans HOW.out.1 (HP.out.ge a e)
      · rw [setAt_ne _ _ ej]; exact HVA.out j hj)
     exact ⟨⟨i + 1, by omega, by go_num, _, HR5.out, HRE.out, (show setAt s'.F i (G i) = _ from by rw [HFE.out, HG1.out]), (show setAt s'.VL i (V i) = _ from by rw [HVE.out, HV1.out]), (show postX s'.bX _ _ _ _ = _ from by rw [HPX.out, HXE.out]), HK5.out, HVN.out⟩, by simp [intOf]; omega⟩
  ·
   obtain rfl : i = 4 := by omega
   clear hlt; go_wp2_with fail; refine bodyPost_end (results_none rfl _ _ _) rfl ?_; exact ⟨rfl, HOJ.out, HKJ.out.os.trans HOS.out.1, HKJ.out.tape.trans HOS.out.2.1, HKJ.out.output.trans HOS.out.2.2, s', HRJ.out, HRE.out, HFE.out, HVE.out, HXE.out, HVA.out⟩
end Cl
end Go.Proofs.Ytobigbnmbnhikaa
