import Derived.Test.YtljpoibnkkcjdaaGreatDoorPc15
import Derived.Test.YtljpoibnkkcjdaaGreatDoorPc17
set_option linter.unusedVariables false
set_option linter.unusedSimpArgs false
namespace Go.Proofs.YtljpoibnkkcjdaaGreatDoor
namespace Cf
open Go.ChangeShapes Go.WideShapes Go.ChangeAt Go.RowKit Mem Rws Nd Cl
set_option maxRecDepth 100000 in
set_option maxHeartbeats 4000000 in
theorem closure_any (f:Nat→Value) (hf:∀i,i<73→okT (nodeT i) (f i)) (k:Nat) (hk:k<4) (hid:f 0=.int .i64 (k:Int)) (fr:Int) (rd:Nat→Int) (A:Option Addr) (cc:Nat) (bs:List Bool) (AI:Option Addr) (n ci gC gI:Nat) (w:World) (hA:A=none→cc=0) (hnc:bs.length≤cc) (hl:bs.length≤140737488351232) (hr:Rd w w.heap.size 1 A bs.length (boolsV bs))
  (hgC:gC<w.heap.size) (hgI:gI<w.heap.size) (hc: w.cell? ⟨gC,0,none⟩=some (.int .i64 fr)) (hi:w.rangeAt gI (k*3) ((List.range 3).map fun j=>.int .i64 (rd (k*3+j)))):
  Calls Tryz.prog 14 #[.agg (row 74 (nodeW f (.slice A bs.length cc))),.slice AI n ci,.pointer (some ⟨gC,0,none⟩),.pointer (some ⟨gI,0,none⟩)] w fun e w'=>NodeMsg w w' (senseF f fr k (rd (k*3)) (rd (k*3+1)) (rd (k*3+2))) bs 1 (k:Int) fr [rd (k*3),rd (k*3+1),rd (k*3+2)] e:=by
 have HF:=Lib.hid hf
 have HID:=Lib.hid hid
 have HA:=Lib.hid hA
 have HN:=Lib.hid hnc
 have HL:=Lib.hid hl
 have iF:(Tryz.prog.info? 39).map (·.size)=some (row 74 (nodeW f (.slice A bs.length cc))).size:=by rw [row_size];kernel_rfl
 have c0:(row 74 (nodeW f (.slice A bs.length cc)))[0]?=some (.int .i64 (k:Int)):=by rw [row_at (by omega)];unfold nodeW;rw [if_neg (by omega),hid]
 obtain⟨RF,hRF⟩:∃R,row 74 (nodeW f (.slice A bs.length cc))=R:=⟨_,rfl⟩
 rw [hRF]at iF c0 ⊢
 have HRF:=Lib.hid hRF
 have hb:Below w.heap.size w (((w.alloc (.cells RF 39)).alloc (.cells Tryz.zeroCells39 39)).alloc (.cells #[.int .i64 0,.int .i64 0,.int .i64 0,.slice none 0 0] 72)):=(((Below.refl w.heap.size w).alloc (Nat.le_refl _) (.cells RF 39)).alloc (by simp) (.cells Tryz.zeroCells39 39)).alloc (by simp;omega) (.cells #[.int .i64 0,.int .i64 0,.int .i64 0,.slice none 0 0] 72)
 have HB:=Lib.hid hb
 have B4:=Lib.hid (show Blk (((w.alloc (.cells RF 39)).alloc (.cells Tryz.zeroCells39 39)).alloc (.cells #[.int .i64 0,.int .i64 0,.int .i64 0,.slice none 0 0] 72)) w.heap.size 39 RF from((Blk.fresh _ _ _).alloc _).alloc _)
 have B6:=Lib.hid (show Blk (((w.alloc (.cells RF 39)).alloc (.cells Tryz.zeroCells39 39)).alloc (.cells #[.int .i64 0,.int .i64 0,.int .i64 0,.slice none 0 0] 72)) (w.heap.size+1) 39 Tryz.zeroCells39 from(Blk.new (by simp)).alloc _)
 have B7:=Lib.hid (show Blk (((w.alloc (.cells RF 39)).alloc (.cells Tryz.zeroCells39 39)).alloc (.cells #[.int .i64 0,.int .i64 0,.int .i64 0,.slice none 0 0] 72)) (w.heap.size+1+1) 72 #[.int .i64 0,.int .i64 0,.int .i64 0,.slice none 0 0]from Blk.new (by simp))
 have HR:=Lib.hid (show Rd (((w.alloc (.cells RF 39)).alloc (.cells Tryz.zeroCells39 39)).alloc (.cells #[.int .i64 0,.int .i64 0,.int .i64 0,.slice none 0 0] 72)) ((((w.alloc (.cells RF 39)).alloc (.cells Tryz.zeroCells39 39)).alloc (.cells #[.int .i64 0,.int .i64 0,.int .i64 0,.slice none 0 0] 72))).heap.size 1 A bs.length (boolsV bs)from(hr.below hb).more hb.size)
 have YC:=Lib.hid (show(((w.alloc (.cells RF 39)).alloc (.cells Tryz.zeroCells39 39)).alloc (.cells #[.int .i64 0,.int .i64 0,.int .i64 0,.slice none 0 0] 72)).cell? ⟨gC,0,none⟩=some (.int .i64 fr)from(hb.cell (p:=⟨gC,0,none⟩) hgC).trans hc)
 have YI:=Lib.hid (show(((w.alloc (.cells RF 39)).alloc (.cells Tryz.zeroCells39 39)).alloc (.cells #[.int .i64 0,.int .i64 0,.int .i64 0,.slice none 0 0] 72)).rangeAt gI (k*3) ((List.range 3).map fun j=>.int .i64 (rd (k*3+j)))from fun j v hv=>(hb.cell (p:=⟨gI,k*3+j,none⟩) hgI).trans (hi j v hv))
 have k0:(0:Int)≤(k:Int):=by omega
 have k4:(k:Int)<4:=by omega
 clear hf hA hnc hl hRF hr hb hc hi
 go_enter Tryz.func14,Tryz.ntmps14
 go_upto_region 1 with fail
 generalize(((w.alloc (.cells RF 39)).alloc (.cells Tryz.zeroCells39 39)).alloc (.cells #[.int .i64 0,.int .i64 0,.int .i64 0,.slice none 0 0] 72))=w1 at*
 obtain⟨gN,hgN⟩:∃g,w.heap.size=g:=⟨_,rfl⟩
 have HGN:=Lib.hid hgN
 rw [hgN]at HB B4 B6 B7 hgC hgI ⊢
 clear hgN
 obtain⟨g6,hg6⟩:∃g,gN+1=g:=⟨_,rfl⟩
 rw [hg6]at B6 B7 ⊢
 obtain⟨g7,hg7⟩:∃g,g6+1=g:=⟨_,rfl⟩
 rw [hg7]at B7 ⊢
 have HG67:=Lib.hid (show gN<g6∧g6<g7 by omega)
 clear hg6 hg7
 have hb:Below w1.heap.size w1 w1.drew:=(Below.refl _ _).drew
 have HB:=Lib.hid (onward HB.out (Nat.le_of_eq HGN.out.symm) hb)
 have B4:=Lib.hid (B4.out.below hb B4.out.lt)
 have B6:=Lib.hid (B6.out.below hb B6.out.lt)
 have B7:=Lib.hid (B7.out.below hb B7.out.lt)
 have HR:=Lib.hid ((HR.out.below hb).more hb.size)
 have HG7:=Lib.hid B7.out.lt
 have y0:=B4.out.cell 0
 rw [c0]at y0
 have HSS:Blk w1.drew gN 39 RF∧ w1.drew.cell? ⟨gC,0,none⟩=some (.int .i64 fr)∧ w1.drew.cell? ⟨gN,0,none⟩=some (.int .i64 (k:Int))∧w1.drew.rangeAt gI (k*3) ((List.range 3).map fun j=>.int .i64 (rd (k*3+j))):=⟨B4.out,YC.out,y0,YI.out⟩
 clear hb y0 c0 YC YI
 refine wp_region_noPanic ?_
 refine Rg.beginR [0,2,4,7] (fun w'=>Blk w' gN 39 RF∧ w'.cell? ⟨gC,0,none⟩=some (.int .i64 fr)∧ w'.cell? ⟨gN,0,none⟩=some (.int .i64 (k:Int))∧w'.rangeAt gI (k*3) ((List.range 3).map fun j=>.int .i64 (rd (k*3+j)))) (by kernel_rfl) ?_
 generalize w1.drew=wv at*
 refine Rg.stp_s 0 (.agg RF) HSS (hy:=?_) (h:=?_)
 · (intro w' hSw;exact exec_load_row 39 _ rfl _ rfl hSw.1 Tryz.underlying39 rfl iF)
 try simp only [Rg.lp]
 refine Rg.tp 1 ⟨some 9,.fieldAddr 42 (.tmp 2) 0,_,_,_,none⟩ (v:=?_) rfl ?_ ?_
 rotate_left 1
 · (intro w;go_simp;(try with_reducible rfl))
 try simp only [Rg.lp]
 refine Rg.stp_s 2 ?_ HSS (hy:=?_) (h:=?_)
 rotate_left 1
 · (intro w hSw;(try dsimp only at hSw);(try go_split_ands);go_simp;(try with_reducible rfl))
 try simp only [Rg.lp]
 refine Rg.tp 3 ⟨some 11,.fieldAddr 39 (.tmp 4) 0,_,_,_,none⟩ (v:=?_) rfl ?_ ?_
 rotate_left 1
 · (intro w;go_simp;(try with_reducible rfl))
 try simp only [Rg.lp]
 refine Rg.stp_s 4 ?_ HSS (hy:=?_) (h:=?_)
 rotate_left 1
 · (intro w hSw;(try dsimp only at hSw);(try go_split_ands);go_simp;(try with_reducible rfl))
 try simp only [Rg.lp]
 refine Rg.tp 5 ⟨some 13,.fieldAddr 48 (.tmp 3) 0,_,_,_,none⟩ (v:=?_) rfl ?_ ?_
 rotate_left 1
 · (intro w;go_simp;(try with_reducible rfl))
 try simp only [Rg.lp]
 refine Rg.tp 6 ⟨some 14,.indexAddr 34 (.tmp 13) (.tmp 12),_,_,_,none⟩ (v:=?_) rfl ?_ ?_
 rotate_left 1
 · (intro w;go_simp;(try with_reducible rfl))
 try simp only [Rg.lp]
 refine Rg.stp_s 7 (.agg (row 3 fun j=>.int .i64 (rd (k*3+j)))) HSS (hy:=?_) (h:=?_)
 · (intro w' hSw;exact exec_load_mid 33 _ rfl gI (k*3) 3 rfl _ _ hSw.2.2.2 Tryz.underlying33 rfl (by kernel_rfl))
 try simp only [Rg.lp]
 refine Rg.stp_o 8 ?_
 refine Rg.stepF ?_ ?_
 · kernel_rfl
 intro K hK
 rw [if_pos (by rfl)]
 rw [←HRF.out,show(row 3 fun j=>Value.int .i64 (rd (k*3+j)))=#[.int .i64 (rd (k*3)),.int .i64 (rd (k*3+1)),.int .i64 (rd (k*3+2))]from rfl]
 go_simp
 clear HSS
 refine(sense_any f HF.out k hk HID.out fr (rd (k*3)) (rd (k*3+1)) (rd (k*3+2)) A cc bs wv.heap.size wv (Nat.le_refl _) HA.out HN.out HL.out HR.out).mono ?_
 rintro e w4 ⟨A2,c2,A3,c3,rfl,h1,h2,hb,h3,h4,h5,h6⟩
 have iN:(Tryz.prog.info? 39).map (·.size)=some (row 74 (nodeW (senseF f fr k (rd (k*3)) (rd (k*3+1)) (rd (k*3+2))) (.slice A2 bs.length c2))).size:=by rw [row_size];kernel_rfl
 have zN:(Tryz.zeroCells39).size=(row 74 (nodeW (senseF f fr k (rd (k*3)) (rd (k*3+1)) (rd (k*3+2))) (.slice A2 bs.length c2))).size:=by rw [row_size];kernel_rfl
 have oN:=one_of (ok_sense HF.out fr k hk (rd (k*3)) (rd (k*3+1)) (rd (k*3+2))) (A:=A2) (n:=bs.length) (c:=c2)
 obtain⟨RN,hRN⟩:∃R,row 74 (nodeW (senseF f fr k (rd (k*3)) (rd (k*3+1)) (rd (k*3+2))) (.slice A2 bs.length c2))=R:=⟨_,rfl⟩
 rw [hRN]at iN zN oN ⊢
 have HRN:=Lib.hid hRN
 clear hRN
 have B6:=Lib.hid (B6.out.below hb B6.out.lt)
 have B7:=Lib.hid (B7.out.below hb B7.out.lt)
 have HB:=Lib.hid (onward HB.out (Nat.le_of_eq HGN.out.symm) hb)
 have H1:=Lib.hid h1
 have H2:=Lib.hid h2
 have H3:=Lib.hid h3
 have H4:=Lib.hid h4
 have H5:=Lib.hid (And.intro h5 h6)
 have HZ:=Lib.hid (show g7<wv.heap.size from HG7.out)
 clear h1 h2 hb h3 h4 h5 h6 HR
 unfold Ms.msgV
 generalize wv=wq at*
 generalize w4=wv at*
 refine hK.out _ _ ?_
 clear hK K
 try simp only [Rg.lp]
 refine Rg.tp 9 ⟨some 17,.extract (.tmp 16) 0,_,_,_,none⟩ (v:=?_) rfl ?_ ?_
 rotate_left 1
 · (intro w;go_simp;(try with_reducible rfl))
 try simp only [Rg.lp]
 refine Rg.tp 10 ⟨some 18,.extract (.tmp 16) 1,_,_,_,none⟩ (v:=?_) rfl ?_ ?_
 rotate_left 1
 · (intro w;go_simp;(try with_reducible rfl))
 try simp only [Rg.lp]
 refine Rg.stp_o 11 ?_
 refine Rg.stepF ?_ ?_
 · kernel_rfl
 intro K hK
 rw [if_pos (by rfl)]
 refine wp_store_row 39 _ _ rfl g6 RN rfl rfl 39 _ B6.out iN zN oN ?_
 have B7:=Lib.hid (B7.out.setRow_other (g':=g6) (by have:=HG67.out;omega) RN)
 have B6:=Lib.hid (B6.out.setRow RN)
 have HB:=Lib.hid (below_setRow HB.out (show gN≤g6 by have:=HG67.out;omega) RN)
 have hgr:=gr_setRowR wv g6 RN
 have H1:=Lib.hid (rd_kept H1.out hgr.size fun hn0 a e=>setRow_other wv g6 a.block RN (by have:=H3.out a e;have:=HZ.out;have:=HG67.out;omega))
 have H2:=Lib.hid (rd_kept H2.out hgr.size fun hn0 a e=>setRow_other wv g6 a.block RN (by have:=H4.out a e;have:=HZ.out;have:=HG67.out;omega))
 clear hgr
 generalize(wv.setRow g6 RN)=wv at*
 refine hK.out _ _ ?_
 clear hK K
 try simp only [Rg.lp]
 refine Rg.stp_o 12 ?_
 refine Rg.stepF ?_ ?_
 · kernel_rfl
 intro K hK
 rw [if_pos (by rfl)]
 refine wp_store_row 72 _ _ rfl g7 (Ms.msgC 1 (k:Int) fr A3 ([rd (k*3),rd (k*3+1),rd (k*3+2)]:List Int).length c3) rfl rfl 72 _ B7.out (by kernel_rfl) rfl (by simp [Ms.msgC,Value.oneCell']) ?_
 have B6:=Lib.hid (B6.out.setRow_other (g':=g7) (by have:=HG67.out;omega) (Ms.msgC 1 (k:Int) fr A3 ([rd (k*3),rd (k*3+1),rd (k*3+2)]:List Int).length c3))
 have B7:=Lib.hid (B7.out.setRow (Ms.msgC 1 (k:Int) fr A3 ([rd (k*3),rd (k*3+1),rd (k*3+2)]:List Int).length c3))
 have HB:=Lib.hid (below_setRow HB.out (show gN≤g7 by have:=HG67.out;omega) (Ms.msgC 1 (k:Int) fr A3 ([rd (k*3),rd (k*3+1),rd (k*3+2)]:List Int).length c3))
 have hgr:=gr_setRowR wv g7 (Ms.msgC 1 (k:Int) fr A3 ([rd (k*3),rd (k*3+1),rd (k*3+2)]:List Int).length c3)
 have H1:=Lib.hid (rd_kept H1.out hgr.size fun hn0 a e=>setRow_other wv g7 a.block (Ms.msgC 1 (k:Int) fr A3 ([rd (k*3),rd (k*3+1),rd (k*3+2)]:List Int).length c3) (by have:=H3.out a e;have:=HZ.out;have:=HG67.out;omega))
 have H2:=Lib.hid (rd_kept H2.out hgr.size fun hn0 a e=>setRow_other wv g7 a.block (Ms.msgC 1 (k:Int) fr A3 ([rd (k*3),rd (k*3+1),rd (k*3+2)]:List Int).length c3) (by have:=H4.out a e;have:=HZ.out;have:=HG67.out;omega))
 clear hgr
 generalize(wv.setRow g7 (Ms.msgC 1 (k:Int) fr A3 ([rd (k*3),rd (k*3+1),rd (k*3+2)]:List Int).length c3))=wv at*
 refine hK.out _ _ ?_
 clear hK K
 try simp only [Rg.lp]
 refine Rg.doneR (by kernel_rfl) ?_ _
 refine NoPanic.normal ?_
 go_wp2_with fail
 refine ret_rows2 rfl rfl rfl B6.out ⟨by rw [Tryz.underlying39],iN⟩ B7.out ⟨by rw [Tryz.underlying72],by kernel_rfl⟩ rfl ⟨A2,c2,A3,c3,by rw [HRN.out];rfl,H1.out,H2.out,by rw [HGN.out];exact HB.out,fun a e=>?_,fun a e=>?_,H5.out.1,H5.out.2⟩
 · have:=H3.out a e;have:=HZ.out;have:=HG67.out;rw [HGN.out];omega
 · have:=H4.out a e;have:=HZ.out;have:=HG67.out;rw [HGN.out];omega
end Cf
namespace Nd
open Go.RowKit Mem Rws Flat
set_option maxRecDepth 100000 in
set_option maxHeartbeats 4000000 in
theorem relay_any (f:Nat→Value) (hf:∀i,i<73→okT (nodeT i) (f i)) (k:Nat) (hk:k<4) (hid:f 0=.int .i64 (k:Int)) (fr:Int) (hfr:f 1=.int .i64 fr) (A:Option Addr) (c:Nat) (bs:List Bool) (AI:Option Addr) (ci:Nat) (ms:List Ms.Msg) (B:Nat) (w:World) (hB:B≤w.heap.size) (hA:A=none→c=0) (hnc:bs.length≤c) (hl:bs.length≤140737488351232) (hr:Rd w B 1 A bs.length (boolsV bs)) (hml:ms.length≤140737488355328) (hm:Ms.MsgsAt w B AI ms):
  Calls Tryz.prog 16 #[.agg (row 74 (nodeW f (.slice A bs.length c))),.slice AI ms.length ci] w fun e w'=>NodeMsg w w' (relayK f (relayV (k:Int) fr ms) 4) bs 2 (k:Int) fr (dvs (relayK f (relayV (k:Int) fr ms) 4)) e:=by
 have hone:∀(A:Option Addr) (n c:Nat),(row 74 (nodeW f (.slice A n c))).all (·.oneCell')=true:=fun A n c=>one_of hf
 have HO:=Lib.hid hone
 have HF:=Lib.hid hf
 have HID:=Lib.hid hid
 have HFR:=Lib.hid hfr
 clear hf hone hid hfr
 go_enter Tryz.func16,Tryz.ntmps16
 go_upto_region 1 with fail
 have D3:Hid (Blk (((w.alloc (.cells (row 74 (nodeW f (.slice A bs.length c))) 39)).alloc (.cells Tryz.zeroCells39 39)).alloc (.cells #[.int .i64 0,.int .i64 0,.int .i64 0,.slice none 0 0] 72)) w.heap.size 39 (row 74 (nodeW f (.slice A bs.length c)))):=Lib.hid (((Blk.new rfl).alloc _).alloc _)
 have D6:Hid (Blk (((w.alloc (.cells (row 74 (nodeW f (.slice A bs.length c))) 39)).alloc (.cells Tryz.zeroCells39 39)).alloc (.cells #[.int .i64 0,.int .i64 0,.int .i64 0,.slice none 0 0] 72)) (w.heap.size+1) 39 Tryz.zeroCells39):=Lib.hid ((Blk.new (by simp)).alloc _)
 have D7:Hid (Blk (((w.alloc (.cells (row 74 (nodeW f (.slice A bs.length c))) 39)).alloc (.cells Tryz.zeroCells39 39)).alloc (.cells #[.int .i64 0,.int .i64 0,.int .i64 0,.slice none 0 0] 72)) (w.heap.size+1+1) 72 #[.int .i64 0,.int .i64 0,.int .i64 0,.slice none 0 0]):=Lib.hid (Blk.new (by simp))
 have HB:=Lib.hid (((((Below.refl w.heap.size w).alloc (Nat.le_refl _) (.cells (row 74 (nodeW f (.slice A bs.length c))) 39)).alloc (by simp) (.cells Tryz.zeroCells39 39)).alloc (by simp;omega) (.cells #[.int .i64 0,.int .i64 0,.int .i64 0,.slice none 0 0] 72)))
 have HR:=Lib.hid hr
 have HMS:=Lib.hid hm
 clear hr hm
 generalize(((w.alloc (.cells (row 74 (nodeW f (.slice A bs.length c))) 39)).alloc (.cells Tryz.zeroCells39 39)).alloc (.cells #[.int .i64 0,.int .i64 0,.int .i64 0,.slice none 0 0] 72))=W at*
 have hi74:∀A (n:Nat) c,(Tryz.prog.info? 39).map (·.size)=some (row 74 (nodeW f (.slice A n c))).size:=fun A n c=>by rw [row_size];kernel_rfl
 have HI:=Lib.hid hi74
 clear hi74
 have hwz:w.heap.size+1+1<W.heap.size:=D7.out.lt
 have hia:=HI.out A bs.length c
 obtain⟨R1,hR1⟩:∃R1,row 74 (nodeW f (.slice A bs.length c))=R1:=⟨_,rfl⟩
 have HR1:=Lib.hid hR1
 rw [hR1]at D3 hia
 clear hR1
 go_wp2_with(refine wpList_whole rfl 39 _ rfl w.heap.size rfl D3.out _ Tryz.underlying39 rfl hia ?_)
 rw [←HR1.out]
 refine(copied_any f HF.out A c bs B _ (Nat.le_trans hB HB.out.size) hA hnc hl (HR.out.below (HB.out.mono hB))).mono ?_
 rintro e w1 ⟨A2,c2,rfl,hown,hb1⟩
 rw [HR1.out]
 have HW1:=Lib.hid hown
 have HB1:=Lib.hid (onward HB.out (Nat.le_refl _) hb1)
 have hsz:=hb1.size
 have hi2:=HI.out A2 bs.length c2
 have h12:=HO.out A2 bs.length c2
 have h20:(row 74 (nodeW f (.slice A2 bs.length c2)))[0]?=some (.int .i64 (k:Int)):=by rw [row_at (by omega)];exact congrArg some HID.out
 have h21:(row 74 (nodeW f (.slice A2 bs.length c2)))[1]?=some (.int .i64 fr):=by rw [row_at (by omega)];exact congrArg some HFR.out
 have hs2:R1.size=(row 74 (nodeW f (.slice A2 bs.length c2))).size:=by rw [←HR1.out,row_size,row_size]
 obtain⟨R2,hR2⟩:∃R2,row 74 (nodeW f (.slice A2 bs.length c2))=R2:=⟨_,rfl⟩
 have HR2:=Lib.hid hR2
 rw [hR2]at hi2 h12 h20 h21 hs2 ⊢
 clear hR2
 have E3:=Lib.hid (D3.out.below hb1 D3.out.lt)
 have F3:=Lib.hid (E3.out.setRow R2)
 have F6:=Lib.hid ((D6.out.below hb1 D6.out.lt).setRow_other (g':=w.heap.size) (by omega) R2)
 have F7:=Lib.hid ((D7.out.below hb1 D7.out.lt).setRow_other (g':=w.heap.size) (by omega) R2)
 have HB2:=Lib.hid (below_setRow HB1.out (Nat.le_refl _) R2)
 have HW2:=Lib.hid (own_setRow HW1.out (show w.heap.size<W.heap.size by omega) R2)
 have cT:=fun w=>strange_any R2 (k:Int) h20 w
 have hk0:¬((k:Int)<0):=by omega
 have hbk:badId (k:Int)=false:=by unfold badId;simp;omega
 rw [hbk]at cT
 clear hb1 hown hbk
 go_upto_region 4 with(first
  |(refine wpList_store_row rfl 39 _ _ rfl w.heap.size R2 rfl rfl 39 _ E3.out hi2 hs2 h12 ?_)
  |(refine wpList_whole rfl 39 _ rfl w.heap.size rfl F3.out _ Tryz.underlying39 rfl hi2 ?_)
  |(go_at_call 31;refine(cT _).mono ?_;rintro e w3 ⟨rfl,hb3⟩;have G3:=Lib.hid (F3.out.below hb3 F3.out.lt);have G6:=Lib.hid (F6.out.below hb3 F6.out.lt);have G7:=Lib.hid (F7.out.below hb3 F7.out.lt);have HB3:=Lib.hid (onward HB2.out (Nat.le_refl _) hb3);have HW3:=Lib.hid (ownsRow_below HW2.out hb3);have hz3:=Nat.le_trans hsz (Nat.le_trans (show w1.heap.size≤(w1.setRow w.heap.size R2).heap.size from(below_setRow (Below.refl 0 w1) (Nat.zero_le _) R2).size) hb3.size);clear hb3))
 clear HB HB1 HB2 HW1 HW2 D3 D6 D7 E3 F3 F6 F7 cT hs2
 have cH:=Ms.hear_any R2 (k:Int) fr h20 h21 AI ci ms 1 3 (by omega) B w3 (Nat.le_trans hB HB3.out.size) hml (HMS.out.below (HB3.out.mono hB))
 rw [show((3:Nat):Int)=3 from rfl]at cH
 have CH:=Lib.hid cH
 clear cH
 go_wp2_with(refine wpList_whole rfl 39 _ rfl w.heap.size rfl G3.out _ Tryz.underlying39 rfl hi2 ?_)
 refine CH.out.mono ?_
 rintro e w4 ⟨s,rfl,hs,hb⟩
 have hix:=fun(j:Nat) (hj:j<4) (w:World)=>run_index_slices s j hj w
 have HIX:=Lib.hid hix
 generalize row 4 s=R4 at*
 have G3:=Lib.hid (G3.out.below hb G3.out.lt)
 have G6:=Lib.hid (G6.out.below hb G6.out.lt)
 have G7:=Lib.hid (G7.out.below hb G7.out.lt)
 have HW:=Lib.hid (ownsRow_below HW3.out hb)
 have HB4:=Lib.hid (onward HB3.out (Nat.le_refl _) hb)
 have HS:=Lib.hid (fun i hi=>(hs i hi).keep (base':=W.heap.size) fun n xs h=>own_weaken h hz3)
 have HWS:=Lib.hid (Nat.le_trans hz3 hb.size)
 rw [←HR2.out]at G3
 clear hs hb HW3 HB3 CH h12 hi2 hix
 obtain⟨rv,hrv⟩:∃rv,relayV (k:Int) fr ms=rv:=⟨_,rfl⟩
 have HQV:=Lib.hid hrv
 have HPV:=Lib.hid (fun j:Nat=>show rv j=(Ms.firstOf (k:Int) fr 1 3 (j:Int) ms).map (fun m=>m.zs)by rw [←hrv];rfl)
 clear hrv
 go_wp2_with fail
 go_loopw [20] (fun i wr=>∃j:Nat,j≤4∧i=.int .i64 j∧Blk wr w.heap.size 39 (row 74 (nodeW (relayK f rv j) (.slice A2 bs.length c2)))∧Blk wr (w.heap.size+1) 39 Tryz.zeroCells39∧Blk wr (w.heap.size+1+1) 72 #[.int .i64 0,.int .i64 0,.int .i64 0,.slice none 0 0]∧wr.ownsRow W.heap.size 4 1 (.slice A2 bs.length c2) bs.length (boolsV bs)∧(∀i:Nat,i<4→Ms.HeardAs wr W.heap.size (Ms.firstOf (k:Int) fr 1 3 (i:Int) ms) (s i))∧W.heap.size≤wr.heap.size∧Below w.heap.size w wr) (fun i _=>4-(intOf i).toNat)
 case atStart=>exact⟨0,by omega,rfl,by rw [relayK_zero];exact G3.out,G6.out,G7.out,HW.out,HS.out,HWS.out,HB4.out⟩
 case round=>
  clear G3 G6 G7 HW HS HB4 HWS
  obtain⟨j,hj,rfl,g3,g6,g7,hw,hs,hws,hb⟩:=hrel
  have G3:=Lib.hid g3
  have G6:=Lib.hid g6
  have G7:=Lib.hid g7
  have HW:=Lib.hid hw
  have HS:=Lib.hid hs
  have HB:=Lib.hid hb
  have HWS:=Lib.hid hws
  clear g3 g6 g7 hw hs hb hws
  by_cases hlt:j<4
  ·
   have hix:=fun w=>HIX.out j hlt w
   have hsj:=HS.out j hlt
   have hpj:=HPV.out j
   cases ho:Ms.firstOf (k:Int) fr 1 3 (j:Int) ms with
   |none=>
    rw [ho]at hsj hpj
    rw [show s j=.slice none 0 0 from hsj]at hix
    have HPJ:=Lib.hid (show rv j=none from hpj)
    clear hsj hpj ho
    go_wp2_with(refine wpList_copy_nothing rfl (.tmp 27) (.tmp 28) 70 70 rfl 3 Tryz.underlying70 (by kernel_rfl) _ _ _ _ _ _ rfl rfl (by simp) ?_)
    exact⟨⟨j+1,by omega,by go_num,by rw [relayK_none f rv j _ HPJ.out];exact G3.out,G6.out,G7.out,HW.out,HS.out,HWS.out,HB.out⟩,by simp [intOf];omega⟩
   |some m=>
    have hzl:=fit_len ho
    rw [ho]at hsj hpj
    obtain⟨a,ca,hsv,how⟩:=hsj
    rw [hsv]at hix how
    have hrd:=Rd.of_own how
    obtain⟨b,o,e1,hbB,hcell⟩:=hrd.2 (by omega)
    injection e1 with e1
    subst e1
    have HPJ:=Lib.hid (show rv j=some m.zs from hpj)
    have hsrc:∀q v,(row 3 (rz m.zs)).toList[q]?=some v→ wr.cell? ((⟨b,o,none⟩:Addr).add q)=some v:=fun q v hv=>by
     rw [Op.add_lit _ _ _ _ rfl]
     refine hcell q v ?_
     have hq:q<3:=by have:=(List.getElem?_eq_some_iff.1 hv).1;simpa [row] using this
     rw [row_toList]at hv
     simp [hq]at hv
     subst hv
     unfold Ms.intsV rz
     simp [List.getD,show q<m.zs.length by omega]
    have HSRC:=Lib.hid hsrc
    have HTH:=Lib.hid (row_there G3.out (39+j*3) 3 (by omega))
    rw [hzl]at hix
    clear hsv how hpj ho hzl hrd hcell hsrc
    go_wp2_with(refine wpList_copy_cells rfl (.tmp 27) (.tmp 28) 70 70 rfl 3 Tryz.underlying70 (by kernel_rfl) w.heap.size (39+j*3) 3 3 ⟨b,o,none⟩ 3 ca rfl rfl (row 3 (rz m.zs)).toList rfl HSRC.out (fun q hq=>(HTH.out q (by simpa [row] using hq)).1) (fun q hq=>(HTH.out q (by simpa [row] using hq)).2) (fun v hv=>by rw [row_toList]at hv;obtain⟨q,_,rfl⟩:=List.mem_map.1 hv;rfl) ?_)
    refine⟨⟨j+1,by omega,by go_num,?_,blk_mid_other (w:=wr) (b':=w.heap.size) (by omega) (row 3 (rz m.zs)).toList (39+j*3) _ G6.out,blk_mid_other (w:=wr) (b':=w.heap.size) (by omega) (row 3 (rz m.zs)).toList (39+j*3) _ G7.out,own_setCells (show w.heap.size<W.heap.size by omega) _ _ HW.out,fun i hi=>(HS.out i hi).keep fun n xs h=>own_setCells (show w.heap.size<W.heap.size by omega) _ _ h,Nat.le_trans HWS.out (below_setCells (Nat.zero_le _) _ _ (Below.refl 0 wr)).size,below_setCells (Nat.le_refl _) _ _ HB.out⟩,by simp [intOf];omega⟩
    rw [←relayK_some f rv j hlt _ HPJ.out]
    exact blk_mid G3.out (39+j*3) 3 (rz m.zs)
  ·
   obtain rfl:j=4:=by omega
   clear hlt
   rw [show((4:Nat):Int)=4 from rfl]
   have HOK:=Lib.hid (ok_relay HF.out rv 4 (Nat.le_refl _))
   have o5:=one_of HOK.out (A:=A2) (n:=bs.length) (c:=c2)
   have i5:(Tryz.prog.info? 39).map (·.size)=some (row 74 (nodeW (relayK f rv 4) (.slice A2 bs.length c2))).size:=by rw [row_size];kernel_rfl
   have z5:(Tryz.zeroCells39).size=(row 74 (nodeW (relayK f rv 4) (.slice A2 bs.length c2))).size:=by rw [row_size];kernel_rfl
   have j0:(row 74 (nodeW (relayK f rv 4) (.slice A2 bs.length c2)))[0]?=some (.int .i64 (k:Int)):=by rw [row_at (by omega)];exact congrArg some ((relayK_low f rv 4 0 (by omega)).trans HID.out)
   have j1:(row 74 (nodeW (relayK f rv 4) (.slice A2 bs.length c2)))[1]?=some (.int .i64 fr):=by rw [row_at (by omega)];exact congrArg some ((relayK_low f rv 4 1 (by omega)).trans HFR.out)
   have G3F:=G3
   obtain⟨R5,hR5⟩:∃R5,row 74 (nodeW (relayK f rv 4) (.slice A2 bs.length c2))=R5:=⟨_,rfl⟩
   rw [hR5]at o5 i5 z5 j0 j1 G3
   have HR5:=Lib.hid hR5
   clear hR5
   go_wp2_with(refine wpList_part (by rfl) 34 _ rfl w.heap.size 39 12 rfl G3F.out (by omega) _ Tryz.underlying34 rfl (by kernel_rfl) ?_)
   have hid3:=fun(i:Nat) (hi:i<4) (w:World)=>run_index_direct (fun j=>(relayK f rv 4) (39+j)) i hi w
   have HI3:=Lib.hid hid3
   clear hid3 G3F HS
   generalize(row 12 fun j=>(relayK f rv 4) (39+j))=R12 at*
   go_loopw [8,33] (fun v iw wq=>∃(i n:Nat) (AV:Option Addr) (cv:Nat),i≤4∧n=i*3∧iw=.int .i64 i∧v=.slice AV n cv∧Blk wq w.heap.size 39 R5∧Blk wq (w.heap.size+1) 39 Tryz.zeroCells39∧Blk wq (w.heap.size+1+1) 72 #[.int .i64 0,.int .i64 0,.int .i64 0,.slice none 0 0]∧wq.ownsRow W.heap.size 4 1 (.slice A2 bs.length c2) bs.length (boolsV bs)∧wq.ownsRow W.heap.size 3 1 (.slice AV n cv) n ((List.range n).map fun j=>(relayK f rv 4) (39+j))∧W.heap.size≤wq.heap.size∧Below w.heap.size w wq) (fun _ iw _=>4-(intOf iw).toNat)
   case atStart=>exact⟨0,0,none,0,by omega,rfl,rfl,rfl,G3.out,G6.out,G7.out,HW.out,World.ownsRow_nil _ _ _ _,HWS.out,HB.out⟩
   case round=>
    clear G3 G6 G7 HW HB HWS
    obtain⟨i,n,AV,cv,hi,hn,rfl,rfl,g3,g6,g7,hw,hv,hws,hb⟩:=hrel
    have G3:=Lib.hid g3
    have G6:=Lib.hid g6
    have G7:=Lib.hid g7
    have HW:=Lib.hid hw
    have HV:=Lib.hid hv
    have HB:=Lib.hid hb
    have HWS:=Lib.hid hws
    clear g3 g6 g7 hw hv hb hws
    by_cases hlt:i<4
    ·
     have hix:=fun w=>HI3.out i hlt w
     have h3:(row 3 fun a=>(relayK f rv 4) (39+(i*3+a))).size=3:=row_size _ _
     have hones:∀v∈(row 3 fun a=>(relayK f rv 4) (39+(i*3+a))).toList,v.oneCell'=true:=fun v hv=>by
      rw [row_toList]at hv
      obtain⟨q,hq,rfl⟩:=List.mem_map.1 hv
      have hq:=List.mem_range.1 hq
      have hok:=HOK.out (39+(i*3+q)) (by omega)
      unfold okT at hok
      split at hok
      · obtain⟨_,h⟩:=hok;rw [h];rfl
      · obtain⟨_,h⟩:=hok;rw [h];rfl
     have HON:=Lib.hid hones
     have HL3:=Lib.hid (show((List.range n).map fun j=>(relayK f rv 4) (39+j))++(row 3 fun a=>(relayK f rv 4) (39+(i*3+a))).toList=(List.range (n+3)).map fun j=>(relayK f rv 4) (39+j)by rw [row_toList,←hn];exact(range3 (fun j=>(relayK f rv 4) (39+j)) n).symm)
     clear hones
     obtain⟨R3,hR3⟩:∃R3,(row 3 fun a=>(relayK f rv 4) (39+(i*3+a)))=R3:=⟨_,rfl⟩
     rw [hR3]at hix h3 HON HL3
     clear hR3
     have HN3:Hid (Rd ((wr.alloc (.cells #[.int .i64 0,.int .i64 0,.int .i64 0] 33)).setRow wr.heap.size R3) (wr.heap.size+1) 1 (some ⟨wr.heap.size,0,none⟩) 3 R3.toList):=Lib.hid (by have:=rd_of_blk ((Blk.fresh wr 33 #[.int .i64 0,.int .i64 0,.int .i64 0]).setRow R3);rwa [h3]at this)
     have hb3:Below wr.heap.size wr ((wr.alloc (.cells #[.int .i64 0,.int .i64 0,.int .i64 0] 33)).setRow wr.heap.size R3):=below_setRow ((Below.refl _ _).alloc (Nat.le_refl _) _) (Nat.le_refl _) _
     have F1:Hid (Blk (wr.alloc (.cells #[.int .i64 0,.int .i64 0,.int .i64 0] 33)) wr.heap.size 33 #[.int .i64 0,.int .i64 0,.int .i64 0]):=Lib.hid (Blk.fresh _ _ _)
     have HQ:=Lib.hid (ownsRow_below HV.out hb3)
     have HWQ:=Lib.hid (ownsRow_below HW.out hb3)
     have HBQ:=Lib.hid (onward HB.out (Nat.le_refl _) hb3)
     have G3Q:=Lib.hid (G3.out.below hb3 G3.out.lt)
     have G6Q:=Lib.hid (G6.out.below hb3 G6.out.lt)
     have G7Q:=Lib.hid (G7.out.below hb3 G7.out.lt)
     have HBS:=Lib.hid (Nat.le_trans HWS.out hb3.size)
     have i3:(Tryz.prog.info? 33).map (·.size)=some R3.size:=by rw [h3];kernel_rfl
     have z3:(#[.int .i64 0,.int .i64 0,.int .i64 0]:Array Value).size=R3.size:=by rw [h3];rfl
     have o3:R3.all (·.oneCell')=true:=by rw [Array.all_eq_true_iff_forall_mem];exact fun v hv=>HON.out v (Array.mem_toList_iff.2 hv)
     have HNI:=Lib.hid hn
     have hn9:n≤9:=by omega
     clear hb3 hn
     go_wp2_with(first|(refine wpList_store_row rfl 33 _ _ rfl wr.heap.size R3 rfl rfl 33 _ F1.out i3 z3 o3 ?_)|(at_builtin;refine wpList_append_rd _ rfl (.tmp 36) (.tmp 37) 70 rfl (base:=W.heap.size) Ms.elemInts rfl HQ.out rfl (fun h=>by cases h) HN3.out HON.out (by unfold maxLen;omega) (by omega) HBS.out ?_;intro A' c' w3 hA' hown' hgr;have HO3:=Lib.hid hown';have HGR:=Lib.hid hgr;clear hown' hgr hA'))
     have hnb:=own_blk HQ.out hwz
     refine⟨⟨i+1,n+3,A',c',by omega,by have:=HNI.out;omega,by go_num,rfl,G3Q.out.grown HGR.out (hnb _ (by omega)),G6Q.out.grown HGR.out (hnb _ (by omega)),G7Q.out.grown HGR.out (hnb _ (by omega)),?_,?_,Nat.le_trans HBS.out HGR.out.size,HBQ.out.grown HGR.out HBQ.out.size (fun g e=>by have:=(HQ.out.lt g e).1;omega)⟩,by simp [intOf];omega⟩
     · exact Ms.own_kept HWQ.out HGR.out (Ms.own_is HQ.out (by decide))
     · rw [←HL3.out];exact HO3.out
    ·
     obtain rfl:i=4:=by omega
     clear hlt
     obtain rfl:n=12:=by omega
     rw [show((4:Nat):Int)=4 from rfl]
     go_upto_region 15 with fail
     have G3:=Lib.hid G3.out.drew
     have G6:=Lib.hid G6.out.drew
     have G7:=Lib.hid G7.out.drew
     have HW:=Lib.hid (ownsRow_below HW.out ((Below.refl wr.heap.size wr).drew))
     have HV:=Lib.hid (ownsRow_below HV.out ((Below.refl wr.heap.size wr).drew))
     have HB:=Lib.hid HB.out.drew
     have HS:=G3.out
     refine wp_region_noPanic ?_
     refine Rg.beginR [0,1] (fun w'=>Blk w' w.heap.size 39 R5) (by kernel_rfl) ?_
     generalize wr.drew=V0 at*
     refine Rg.stp_s 0 (.agg R5) HS (hy:=?_) (h:=?_)
     · (intro w' hSw;exact exec_load_row 39 _ rfl _ rfl hSw Tryz.underlying39 rfl i5)
     try simp only [Rg.lp]
     refine Rg.stp_s 1 (.agg R5) HS (hy:=?_) (h:=?_)
     · (intro w' hSw;exact exec_load_row 39 _ rfl _ rfl hSw Tryz.underlying39 rfl i5)
     try simp only [Rg.lp]
     refine Rg.tp 2 ⟨some 42,.move (.tmp 8),_,_,_,none⟩ (v:=?_) rfl ?_ ?_
     rotate_left 1
     · (intro w;go_simp;(try with_reducible rfl))
     try simp only [Rg.lp]
     refine Rg.stp_o 3 ?_
     refine Rg.stepS ?_
     intro K hK
     rw [if_pos (by rfl)]
     go_simp
     go_at_call 32
     refine(say_any R5 (k:Int) fr 2 AV 12 cv j0 j1 V0).mono ?_
     rintro e V1 ⟨rfl,hb⟩
     have G3:=Lib.hid (G3.out.below hb G3.out.lt)
     have G6:=Lib.hid (G6.out.below hb G6.out.lt)
     have G7:=Lib.hid (G7.out.below hb G7.out.lt)
     have HW:=Lib.hid (ownsRow_below HW.out hb)
     have HV:=Lib.hid (ownsRow_below HV.out hb)
     have HB:=Lib.hid (onward HB.out (Nat.le_refl _) hb)
     clear hb HS
     have HS:=G3.out
     go_wp2_with fail
     refine hK.out _ _ HS ?_
     clear hK K
     try simp only [Rg.lp]
     refine Rg.stp_o 4 ?_
     refine Rg.stepF ?_ ?_
     · kernel_rfl
     intro K hK
     rw [if_pos (by rfl)]
     refine wp_store_row 39 _ _ rfl (w.heap.size+1) R5 rfl rfl 39 _ G6.out i5 z5 o5 ?_
     have G3:=Lib.hid (G3.out.setRow_other (g':=w.heap.size+1) (by omega) R5)
     have G7:=Lib.hid (G7.out.setRow_other (g':=w.heap.size+1) (by omega) R5)
     have G6:=Lib.hid (G6.out.setRow R5)
     have HB:=Lib.hid (below_setRow HB.out (show w.heap.size≤w.heap.size+1 by omega) R5)
     have HW:=Lib.hid (own_setRow HW.out (show w.heap.size+1<W.heap.size by omega) R5)
     have HV:=Lib.hid (own_setRow HV.out (show w.heap.size+1<W.heap.size by omega) R5)
     generalize(V1.setRow (w.heap.size+1) R5)=V2 at*
     clear HS
     have HS:=G3.out
     refine hK.out _ _ ?_
     clear hK K
     try simp only [Rg.lp]
     refine Rg.stp_o 5 ?_
     refine Rg.stepF ?_ ?_
     · kernel_rfl
     intro K hK
     rw [if_pos (by rfl)]
     refine wp_store_row 72 _ _ rfl (w.heap.size+1+1) (Ms.msgC 2 (k:Int) fr AV 12 cv) rfl rfl 72 _ G7.out (by kernel_rfl) rfl (by simp [Ms.msgC,Value.oneCell']) ?_
     have G3:=Lib.hid (G3.out.setRow_other (g':=w.heap.size+1+1) (by omega) (Ms.msgC 2 (k:Int) fr AV 12 cv))
     have G6:=Lib.hid (G6.out.setRow_other (g':=w.heap.size+1+1) (by omega) (Ms.msgC 2 (k:Int) fr AV 12 cv))
     have G7:=Lib.hid (G7.out.setRow (Ms.msgC 2 (k:Int) fr AV 12 cv))
     have HB:=Lib.hid (below_setRow HB.out (show w.heap.size≤w.heap.size+1+1 by omega) (Ms.msgC 2 (k:Int) fr AV 12 cv))
     have HW:=Lib.hid (own_setRow HW.out (show w.heap.size+1+1<W.heap.size by omega) (Ms.msgC 2 (k:Int) fr AV 12 cv))
     have HV:=Lib.hid (own_setRow HV.out (show w.heap.size+1+1<W.heap.size by omega) (Ms.msgC 2 (k:Int) fr AV 12 cv))
     generalize(V2.setRow (w.heap.size+1+1) (Ms.msgC 2 (k:Int) fr AV 12 cv))=V3 at*
     refine hK.out _ _ ?_
     clear hK K
     try simp only [Rg.lp]
     refine Rg.doneR (by kernel_rfl) ?_ _
     refine NoPanic.normal ?_
     clear HS
     go_wp2_with fail
     have hi4:(Tryz.prog.info? 72).map (·.size)=some (Ms.msgC 2 (k:Int) fr AV 12 cv).size:=by kernel_rfl
     exact ret_rows2 rfl rfl rfl G6.out ⟨by rw [Tryz.underlying39],i5⟩ G7.out ⟨by rw [Tryz.underlying72],hi4⟩ rfl ⟨A2,c2,AV,cv,by rw [HQV.out,HR5.out];rfl,Rd.of_own HW.out,by rw [HQV.out,←dvs_row HOK.out];exact Rd.of_own HV.out,HB.out,fun a h=>Nat.le_trans (by omega) (own_lo HW.out a h),fun a h=>Nat.le_trans (by omega) (own_lo HV.out a h),own_cap HW.out⟩
end Nd
namespace Nd
open Go.RowKit Mem Rws Flat
structure NK (w:World) (g:Nat) (A:Option Addr) (c:Nat) (bs:List Bool) (wr:World):Prop where
 hb:Below g w wr
 g6:Blk wr (g+1) 39 Tryz.zeroCells39
 g7:Blk wr (g+1+1) 72 #[.int .i64 0,.int .i64 0,.int .i64 0,.slice none 0 0]
 hv:wr.ownsRow (g+1+1+1) 4 1 (.slice A bs.length c) bs.length (boolsV bs)
structure DK (w:World) (g:Nat) (A:Option Addr) (c:Nat) (bs:List Bool) (o:Nat→Option Ms.Msg) (s:Nat→Value) (gh:Nat) (R4:Array Value) (wr:World):Prop where
 nk:NK w g A c bs wr
 hh:Blk wr gh 98 R4
 hs:∀i,i<4→Ms.HeardAs wr (g+1+1+1) (o i) (s i)
section
variable {w : World} {g : Nat} {A : Option Addr} {c : Nat} {bs : List Bool} {o : Nat → Option Ms.Msg} {s : Nat → Value} {gh : Nat} {R4 : Array Value} {wr w' : World}
theorem NK.step (h:NK w g A c bs wr) (hb:Below wr.heap.size wr w'):NK w g A c bs w':=
 ⟨h.hb.trans (hb.mono (by have:=h.g7.lt;omega)),h.g6.below hb h.g6.lt,h.g7.below hb h.g7.lt,ownsRow_below h.hv hb⟩
theorem NK.grown {row:Option Nat} (h:NK w g A c bs wr) (hg:wr.grownBy w' row) (hr:∀x,row=some x→∃cur t,wr.heap[x]?=some (.cells cur t (0,0))∧t≠4) (hlo:∀x,row=some x→g+1+1<x):NK w g A c bs w':=
 ⟨h.hb.grown hg (Nat.le_of_lt (by have:=h.g7.lt;omega)) (fun x e=>by have:=hlo x e;omega),h.g6.grown hg (fun e=>by have:=hlo _ e.symm;omega),h.g7.grown hg (fun e=>by have:=hlo _ e.symm;omega),Ms.own_kept h.hv hg hr⟩
theorem NK.drew (h:NK w g A c bs wr):NK w g A c bs wr.drew:=h.step (Below.refl _ _).drew
theorem NK.set (h:NK w g A c bs wr) (i:Nat) (u:Value):NK w g A c bs (wr.setCell ⟨g,i,none⟩ u):=
 ⟨h.hb.setCell (p:=⟨g,i,none⟩) (Nat.le_refl _) u,h.g6.other (p:=⟨g,i,none⟩) (by show g+1≠g;omega) u,h.g7.other (p:=⟨g,i,none⟩) (by show g+1+1≠g;omega) u,ownsRow_setCell_below h.hv (by show g<_;omega) u⟩
theorem NK.sets (h:NK w g A c bs wr):∀(vs:List Value) (i:Nat),NK w g A c bs (wr.setCells g i vs):=by
 intro vs
 induction vs generalizing wr with
 |nil=>exact fun i=>h
 |cons v r ih=>intro i;rw [World.setCells];exact ih (h.set i v) (i+1)
theorem DK.step (h:DK w g A c bs o s gh R4 wr) (hb:Below wr.heap.size wr w'):DK w g A c bs o s gh R4 w':=⟨h.nk.step hb,h.hh.below hb h.hh.lt,fun i hi=>(h.hs i hi).below hb⟩
theorem DK.drew (h:DK w g A c bs o s gh R4 wr):DK w g A c bs o s gh R4 wr.drew:=h.step (Below.refl _ _).drew
theorem DK.set (h:DK w g A c bs o s gh R4 wr) (i:Nat) (u:Value) (hg:g<gh):DK w g A c bs o s gh R4 (wr.setCell ⟨g,i,none⟩ u):=
 ⟨h.nk.set i u,h.hh.other (p:=⟨g,i,none⟩) (by show gh≠g;omega) u,fun j hj=>(h.hs j hj).keep fun n xs hx=>ownsRow_setCell_below hx (by show g<_;omega) u⟩
end
theorem decG_P (f:Nat→Value) (z:Nat→Int) (P P':Nat→Bool) (n u:Nat) (h:∀x,x<12→P x=P' x) (S:Value):row 74 (nodeW (decG f z P n u) S)=row 74 (nodeW (decG f z P' n u) S):=row_congr fun i _=>by
 unfold nodeW decG
 by_cases h2:55≤i∧i<67
 · rw [h (i-55) (by omega)]
 · rw [if_neg (c:=55≤i∧i<67∧P (i-55)=true) (fun h=>h2 ⟨h.1,h.2.1⟩),if_neg (c:=55≤i∧i<67∧P' (i-55)=true) (fun h=>h2 ⟨h.1,h.2.1⟩)]
theorem decG_all (f:Nat→Value) (z:Nat→Int) (n u:Nat) {S:Value}:row 74 (nodeW (decG f z (fun x=>decide (x<4*3)) n u) S)=row 74 (nodeW (decG f z allP n u) S):=decG_P f z _ _ n u (fun x hx=>decide_eq_true hx) S
end Nd
end Go.Proofs.YtljpoibnkkcjdaaGreatDoor
