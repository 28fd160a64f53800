import Derived.Test.YtljpoibnkkcjdaaGreatDoorPc18
set_option linter.unusedVariables false
set_option linter.unusedSimpArgs false
namespace Go.Proofs.YtljpoibnkkcjdaaGreatDoor
namespace Nd
open Go.RowKit Mem Rws Flat BigW
set_option maxRecDepth 100000 in
set_option maxHeartbeats 8000000 in
theorem decide_any (f:Nat→Value) (hf:∀i,i<73→okT (nodeT i) (f i)) (k:Nat) (hk:k<4) (hid:f 0=.int .i64 (k:Int)) (fr:Int) (hfr:f 1=.int .i64 fr) (A:Option Addr) (c:Nat) (bs:List Bool) (AI:Option Addr) (ci:Nat) (ms:List Ms.Msg) (B:Nat) (w:World) (hB:B≤w.heap.size) (hA:A=none→c=0) (hnc:bs.length≤c) (hl:bs.length≤140737488351232) (hr:Rd w B 1 A bs.length (boolsV bs)) (hml:ms.length≤140737488355328) (hm:Ms.MsgsAt w B AI ms) (hw:∀i z,i<73→f i=.int .i64 z→Wf z) (hmw:∀m∈ms,∀z∈m.zs,Wf z):
  Calls Tryz.prog 17 #[.agg (row 74 (nodeW f (.slice A bs.length c))),.slice AI ms.length ci] w fun e w'=>NodeMsg w w' (decF k (agreedZ k fr ms f) f) bs 3 (k:Int) fr [digestZ (decG f (agreedZ k fr ms f) allP 3 3)] e:=by
 have hone:∀(A:Option Addr) (n c:Nat),(row 74 (nodeW f (.slice A n c))).all (·.oneCell')=true:=fun A n c=>one_of hf
 have HWF:=Lib.hid (wf_agreed hf hw hmw k fr)
 have HSI:=Lib.hid (fun a (ha:a<3)=>st_in hf hw a ha)
 have HTI:=Lib.hid (fun i (hi:2≤i∧i<6)=>tun_in hf hw i hi)
 clear hw hmw
 have HO:=Lib.hid hone
 have HF:=Lib.hid hf
 have HID:=Lib.hid hid
 have HFR:=Lib.hid hfr
 clear hf hone hid hfr
 go_enter Tryz.func17,Tryz.ntmps17
 go_upto_region 1 with fail
 have D3:Hid (Blk (((w.alloc (.cells (row 74 (nodeW f (.slice A bs.length c))) 39)).alloc (.cells Tryz.zeroCells39 39)).alloc (.cells #[.int .i64 0,.int .i64 0,.int .i64 0,.slice none 0 0] 72)) w.heap.size 39 (row 74 (nodeW f (.slice A bs.length c)))):=Lib.hid (((Blk.new rfl).alloc _).alloc _)
 have D6:Hid (Blk (((w.alloc (.cells (row 74 (nodeW f (.slice A bs.length c))) 39)).alloc (.cells Tryz.zeroCells39 39)).alloc (.cells #[.int .i64 0,.int .i64 0,.int .i64 0,.slice none 0 0] 72)) (w.heap.size+1) 39 Tryz.zeroCells39):=Lib.hid ((Blk.new (by simp)).alloc _)
 have D7:Hid (Blk (((w.alloc (.cells (row 74 (nodeW f (.slice A bs.length c))) 39)).alloc (.cells Tryz.zeroCells39 39)).alloc (.cells #[.int .i64 0,.int .i64 0,.int .i64 0,.slice none 0 0] 72)) (w.heap.size+1+1) 72 #[.int .i64 0,.int .i64 0,.int .i64 0,.slice none 0 0]):=Lib.hid (Blk.new (by simp))
 have HB:=Lib.hid (((((Below.refl w.heap.size w).alloc (Nat.le_refl _) (.cells (row 74 (nodeW f (.slice A bs.length c))) 39)).alloc (by simp) (.cells Tryz.zeroCells39 39)).alloc (by simp;omega) (.cells #[.int .i64 0,.int .i64 0,.int .i64 0,.slice none 0 0] 72)))
 have HR:=Lib.hid hr
 have HMS:=Lib.hid hm
 clear hr hm
 generalize(((w.alloc (.cells (row 74 (nodeW f (.slice A bs.length c))) 39)).alloc (.cells Tryz.zeroCells39 39)).alloc (.cells #[.int .i64 0,.int .i64 0,.int .i64 0,.slice none 0 0] 72))=W at*
 have hi74:∀A (n:Nat) c,(Tryz.prog.info? 39).map (·.size)=some (row 74 (nodeW f (.slice A n c))).size:=fun A n c=>by rw [row_size];kernel_rfl
 have HI:=Lib.hid hi74
 clear hi74
 have hwz:w.heap.size+1+1<W.heap.size:=D7.out.lt
 have hia:=HI.out A bs.length c
 obtain⟨R1,hR1⟩:∃R1,row 74 (nodeW f (.slice A bs.length c))=R1:=⟨_,rfl⟩
 have HR1:=Lib.hid hR1
 rw [hR1]at D3 hia
 clear hR1
 go_wp2_with(refine wpList_whole rfl 39 _ rfl w.heap.size rfl D3.out _ Tryz.underlying39 rfl hia ?_)
 rw [←HR1.out]
 refine(copied_any f HF.out A c bs B _ (Nat.le_trans hB HB.out.size) hA hnc hl (HR.out.below (HB.out.mono hB))).mono ?_
 rintro e w1 ⟨A2,c2,rfl,hown,hb1⟩
 rw [HR1.out]
 have HW1:=Lib.hid hown
 have HB1:=Lib.hid (onward HB.out (Nat.le_refl _) hb1)
 have hsz:=hb1.size
 have hi2:=HI.out A2 bs.length c2
 have h12:=HO.out A2 bs.length c2
 have h20:(row 74 (nodeW f (.slice A2 bs.length c2)))[0]?=some (.int .i64 (k:Int)):=by rw [row_at (by omega)];exact congrArg some HID.out
 have h21:(row 74 (nodeW f (.slice A2 bs.length c2)))[1]?=some (.int .i64 fr):=by rw [row_at (by omega)];exact congrArg some HFR.out
 have hs2:R1.size=(row 74 (nodeW f (.slice A2 bs.length c2))).size:=by rw [←HR1.out,row_size,row_size]
 obtain⟨R2,hR2⟩:∃R2,row 74 (nodeW f (.slice A2 bs.length c2))=R2:=⟨_,rfl⟩
 have HR2:=Lib.hid hR2
 rw [hR2]at hi2 h12 h20 h21 hs2 ⊢
 clear hR2
 have E3:=Lib.hid (D3.out.below hb1 D3.out.lt)
 have F3:=Lib.hid (E3.out.setRow R2)
 have F6:=Lib.hid ((D6.out.below hb1 D6.out.lt).setRow_other (g':=w.heap.size) (by omega) R2)
 have F7:=Lib.hid ((D7.out.below hb1 D7.out.lt).setRow_other (g':=w.heap.size) (by omega) R2)
 have HB2:=Lib.hid (below_setRow HB1.out (Nat.le_refl _) R2)
 have HW2:=Lib.hid (own_setRow HW1.out (show w.heap.size<W.heap.size by omega) R2)
 have cT:=fun w=>strange_any R2 (k:Int) h20 w
 have hk0:¬((k:Int)<0):=by omega
 have hbk:badId (k:Int)=false:=by unfold badId;simp;omega
 rw [hbk]at cT
 clear hb1 hown hbk
 go_upto_region 4 with(first
  |(refine wpList_store_row rfl 39 _ _ rfl w.heap.size R2 rfl rfl 39 _ E3.out hi2 hs2 h12 ?_)
  |(refine wpList_whole rfl 39 _ rfl w.heap.size rfl F3.out _ Tryz.underlying39 rfl hi2 ?_)
  |(go_at_call 31;refine(cT _).mono ?_;rintro e w3 ⟨rfl,hb3⟩;have G3:=Lib.hid (F3.out.below hb3 F3.out.lt);have G6:=Lib.hid (F6.out.below hb3 F6.out.lt);have G7:=Lib.hid (F7.out.below hb3 F7.out.lt);have HB3:=Lib.hid (onward HB2.out (Nat.le_refl _) hb3);have HW3:=Lib.hid (ownsRow_below HW2.out hb3);have hz3:=Nat.le_trans hsz (Nat.le_trans (show w1.heap.size≤(w1.setRow w.heap.size R2).heap.size from(below_setRow (Below.refl 0 w1) (Nat.zero_le _) R2).size) hb3.size);clear hb3))
 clear HB HB1 HB2 HW1 HW2 D3 D6 D7 E3 F3 F6 F7 cT hs2
 have cH:=Ms.hear_any R2 (k:Int) fr h20 h21 AI ci ms 2 12 (by omega) B w3 (Nat.le_trans hB HB3.out.size) hml (HMS.out.below (HB3.out.mono hB))
 rw [show((12:Nat):Int)=12 from rfl]at cH
 have CH:=Lib.hid cH
 clear cH
 go_wp2_with(refine wpList_whole rfl 39 _ rfl w.heap.size rfl G3.out _ Tryz.underlying39 rfl hi2 ?_)
 refine CH.out.mono ?_
 rintro e w4 ⟨s,rfl,hs,hb⟩
 have o4:(row 4 s).all (·.oneCell')=true:=row_one fun i hi=>(hs i hi).one
 have i4:(Tryz.prog.info? 98).map (·.size)=some (row 4 s).size:=by rw [row_size];kernel_rfl
 have z4:(#[.slice none 0 0,.slice none 0 0,.slice none 0 0,.slice none 0 0]:Array Value).size=(row 4 s).size:=by rw [row_size];rfl
 have HK3:Hid (NK w w.heap.size A2 c2 bs w3):=Lib.hid ⟨HB3.out,G6.out,G7.out,own_weaken HW3.out (by omega)⟩
 have HK:=Lib.hid (HK3.out.step hb)
 have G3:=Lib.hid (G3.out.below hb G3.out.lt)
 have HS0:=Lib.hid (fun i hi=>(hs i hi).keep (fun n xs h=>own_weaken h (show w.heap.size+1+1+1≤w3.heap.size from G7.out.lt)))
 have HZ3:=Lib.hid (show w.heap.size+1+1+1≤w4.heap.size from Nat.le_trans G7.out.lt hb.size)
 rw [←HR2.out]at G3
 clear hs hb HW3 HB3 CH h12 hi2 HR hz3 HK3 G6 G7
 obtain⟨R4,hR4⟩:∃R4,row 4 s=R4:=⟨_,rfl⟩
 rw [hR4]at o4 i4 z4 ⊢
 have HR4:=Lib.hid hR4
 clear hR4
 have HH0:=Lib.hid (Blk.fresh w4 98 #[.slice none 0 0,.slice none 0 0,.slice none 0 0,.slice none 0 0])
 go_upto_region 5 with(refine wpList_store_row rfl 98 _ _ rfl w4.heap.size R4 rfl rfl 98 _ HH0.out i4 z4 o4 ?_)
 have HH:=Lib.hid (HH0.out.setRow R4)
 have hb5:Below w4.heap.size w4 ((w4.alloc (.cells #[.slice none 0 0,.slice none 0 0,.slice none 0 0,.slice none 0 0] 98)).setRow w4.heap.size R4):=below_setRow ((Below.refl _ _).alloc (Nat.le_refl _) _) (Nat.le_refl _) R4
 have G3:=Lib.hid (G3.out.below hb5 G3.out.lt)
 have HK:=Lib.hid (HK.out.step hb5)
 have HS:=Lib.hid (fun i hi=>(HS0.out i hi).below hb5)
 clear hb5 HS0 HH0
 generalize((w4.alloc (.cells #[.slice none 0 0,.slice none 0 0,.slice none 0 0,.slice none 0 0] 98)).setRow w4.heap.size R4)=w5 at*
 obtain⟨gh,hgh⟩:∃g,w4.heap.size=g:=⟨_,rfl⟩
 rw [hgh]at HH HZ3 ⊢
 clear hgh
 have HD:Hid (DK w w.heap.size A2 c2 bs (fun i:Nat=>Ms.firstOf (k:Int) fr 2 12 (i:Int) ms) s gh R4 w5):=Lib.hid ⟨HK.out,HH.out,fun i hi=>HS.out i hi⟩
 have HOM:=Lib.hid (fun(i:Nat) m (h:Ms.firstOf (k:Int) fr 2 12 (i:Int) ms=some m)=>fit_len h)
 have HAZ:=Lib.hid (fun j:Nat=>show agreedZ k fr ms f j=takenZ k (j/3) (dirZ f j) j (fun i=>Ms.firstOf (k:Int) fr 2 12 (i:Int) ms)from rfl)
 clear HK HH HS
 obtain⟨z,hz⟩:∃z,agreedZ k fr ms f=z:=⟨_,rfl⟩
 have HZZ:=Lib.hid hz
 rw [hz]at HWF HAZ
 clear hz
 obtain⟨o,ho⟩:∃o,(fun i:Nat=>Ms.firstOf (k:Int) fr 2 12 (i:Int) ms)=o:=⟨_,rfl⟩
 rw [ho]at HD HAZ
 have HOM:=Lib.hid (fun(i:Nat) m (h:o i=some m)=>show m.zs.length=12 from HOM.out i m (by rw [←ho]at h;exact h))
 clear ho
 have G3:=Lib.hid (show Blk w5 w.heap.size 39 (row 74 (nodeW (decG f z (fun x=>decide (x<0*3)) 0 0) (.slice A2 bs.length c2)))from by rw [decG_start f z _ (fun j hj=>by simp)];exact G3.out)
 have h30:(row 74 (nodeW f (.slice A2 bs.length c2)))[0]?=some (.int .i64 (k:Int)):=by rw [HR2.out];exact h20
 clear h20 h21 h30
 go_wp2_with fail
 go_loopw [20] (fun iv wr=>∃sx:Nat,sx≤4∧iv=.int .i64 (sx:Int)∧Blk wr w.heap.size 39 (row 74 (nodeW (decG f z (fun x=>decide (x<sx*3)) 0 0) (.slice A2 bs.length c2)))∧DK w w.heap.size A2 c2 bs o s gh R4 wr) (fun iv _=>4-(intOf iv).toNat)
 case atStart=>exact⟨0,by omega,rfl,G3.out,HD.out⟩
 case round=>
  obtain⟨sx,hsx,rfl,hg3,hd⟩:=hrel
  clear G3 HD
  have G3:=Lib.hid hg3
  have HD:=Lib.hid hd
  clear hg3 hd
  by_cases hls:sx<4
  ·
   have s0:(0:Int)≤(sx:Int):=by omega
   have s4:(sx:Int)<4:=by omega
   have HSX:=Lib.hid hls
   clear hls
   go_wp2_with fail
   generalize wr=wq at*
   go_loopw [23] (fun iv wr=>∃a:Nat,a≤3∧iv=.int .i64 (a:Int)∧Blk wr w.heap.size 39 (row 74 (nodeW (decG f z (fun x=>decide (x<sx*3+a)) 0 0) (.slice A2 bs.length c2)))∧DK w w.heap.size A2 c2 bs o s gh R4 wr) (fun iv _=>3-(intOf iv).toNat)
   case atStart=>exact⟨0,by omega,rfl,G3.out,HD.out⟩
   case round=>
    obtain⟨a,ha,rfl,hg3,hd⟩:=hrel
    clear G3 HD
    have G3:=Lib.hid hg3
    have HD:=Lib.hid hd
    clear hg3 hd
    by_cases hla:a<3
    ·
     have a0:(0:Int)≤(a:Int):=by omega
     have a3:(a:Int)<3:=by omega
     have HLA:=Lib.hid hla
     have hlj:sx*3+a<12:=by have:=HSX.out;omega
     have HLJ:=Lib.hid hlj
     have x39:(row 74 (nodeW (decG f z (fun x=>decide (x<sx*3+a)) 0 0) (.slice A2 bs.length c2)))[39+sx*3+a]?=some (.int .i64 (dirZ f (sx*3+a))):=by
      rw [row_at (by omega)]
      unfold nodeW dirZ
      rw [if_neg (by omega),decG_low _ _ _ _ _ _ (by omega) (by omega) (by omega),Nat.add_assoc,←cell_int HF.out (39+(sx*3+a)) (by omega) (by unfold nodeT;simp;omega)]
     have HN39:=Lib.hid x39
     have HN0:=Lib.hid (show(row 74 (nodeW (decG f z (fun x=>decide (x<sx*3+a)) 0 0) (.slice A2 bs.length c2)))[0]?=some (.int .i64 (k:Int))from by rw [row_at (by omega)];unfold nodeW;rw [if_neg (by omega),decG_low _ _ _ _ _ _ (by omega) (by omega) (by omega),HID.out])
     have HN55:=Lib.hid (show ∃v,(row 74 (nodeW (decG f z (fun x=>decide (x<sx*3+a)) 0 0) (.slice A2 bs.length c2)))[55+sx*3+a]?=some (.int .i64 v)from by
      refine⟨iv (decG f z (fun x=>decide (x<sx*3+a)) 0 0 (55+sx*3+a)),?_⟩
      rw [row_at (by omega)]
      unfold nodeW
      rw [if_neg (by omega),←cell_int (ok_decG HF.out z _ 0 0 (by omega) (by omega)) (55+sx*3+a) (by omega) (by unfold nodeT;simp;omega)])
     have HAG:=Lib.hid (fun(v:Int) (hv:v=z (sx*3+a))=>show((row 74 (nodeW (decG f z (fun x=>decide (x<sx*3+a)) 0 0) (.slice A2 bs.length c2)))).setIfInBounds (55+sx*3+a) (.int .i64 v)=row 74 (nodeW (decG f z (fun x=>decide (x<sx*3+(a+1))) 0 0) (.slice A2 bs.length c2))from by
      rw [Nat.add_assoc]
      exact decG_agree f z _ _ 0 0 (by omega) (sx*3+a) hlj hv (fun x hx=>by rw [Bool.eq_iff_iff];simp;omega) _)
     have HTK:=Lib.hid (show z (sx*3+a)=takenZ k sx (dirZ f (sx*3+a)) (sx*3+a) o from by rw [HAZ.out,show(sx*3+a)/3=sx by omega])
     obtain⟨d,hd⟩:∃d,dirZ f (sx*3+a)=d:=⟨_,rfl⟩
     rw [hd]at HN39 HTK
     obtain⟨zj,hzj⟩:∃d,z (sx*3+a)=d:=⟨_,rfl⟩
     rw [hzj]at HTK HAG
     obtain⟨RN,hRN⟩:∃RN,(row 74 (nodeW (decG f z (fun x=>decide (x<sx*3+a)) 0 0) (.slice A2 bs.length c2)))=RN:=⟨_,rfl⟩
     rw [hRN]at G3 HN39 HN0 HN55 HAG
     clear hlj hd hzj hRN x39 hla
     go_upto_region 11 with fail
     have G3:=Lib.hid G3.out.drew
     have HD:=Lib.hid HD.out.drew
     have HS_:=(G3.out.cell (39+sx*3+a)).trans HN39.out
     refine wp_region_noPanic ?_
     refine Rg.beginR [7] (fun w'=> w'.cell? ⟨w.heap.size,39+sx*3+a,none⟩=some (.int .i64 d)) (by kernel_rfl) ?_
     generalize wr.drew=V0 at*
     obtain⟨v55,h55⟩:=HN55.out
     have x55:=(G3.out.cell (55+sx*3+a)).trans h55
     have f55:=G3.out.thaw (55+sx*3+a)
     refine Rg.tp 0 ⟨some 26,.move (.tmp 7),_,_,_,none⟩ (v:=?_) rfl ?_ ?_
     rotate_left 1
     · (intro w;go_simp;(try with_reducible rfl))
     try simp only [Rg.lp]
     refine Rg.tp 1 ⟨some 27,.move (.tmp 8),_,_,_,none⟩ (v:=?_) rfl ?_ ?_
     rotate_left 1
     · (intro w;go_simp;(try with_reducible rfl))
     try simp only [Rg.lp]
     refine Rg.tp 2 ⟨some 28,.move (.tmp 7),_,_,_,none⟩ (v:=?_) rfl ?_ ?_
     rotate_left 1
     · (intro w;go_simp;(try with_reducible rfl))
     try simp only [Rg.lp]
     refine Rg.tp 3 ⟨some 29,.move (.tmp 8),_,_,_,none⟩ (v:=?_) rfl ?_ ?_
     rotate_left 1
     · (intro w;go_simp;(try with_reducible rfl))
     try simp only [Rg.lp]
     refine Rg.tp 4 ⟨some 30,.fieldAddr 39 (.tmp 2) 5,_,_,_,none⟩ (v:=?_) rfl ?_ ?_
     rotate_left 1
     · (intro w;go_simp;(try with_reducible rfl))
     try simp only [Rg.lp]
     refine Rg.tp 5 ⟨some 31,.indexAddr 34 (.tmp 30) (.tmp 28),_,_,_,none⟩ (v:=?_) rfl ?_ ?_
     rotate_left 1
     · (intro w;go_simp;(try with_reducible rfl))
     try simp only [Rg.lp]
     refine Rg.tp 6 ⟨some 32,.indexAddr 33 (.tmp 31) (.tmp 29),_,_,_,none⟩ (v:=?_) rfl ?_ ?_
     rotate_left 1
     · (intro w;go_simp;(try with_reducible rfl))
     try simp only [Rg.lp]
     refine Rg.stp_s 7 ?_ HS_ (hy:=?_) (h:=?_)
     rotate_left 1
     · (intro w hSw;(try dsimp only at hSw);(try go_split_ands);go_simp;(try with_reducible rfl))
     try simp only [Rg.lp]
     refine Rg.tp 8 ⟨some 34,.fieldAddr 39 (.tmp 2) 7,_,_,_,none⟩ (v:=?_) rfl ?_ ?_
     rotate_left 1
     · (intro w;go_simp;(try with_reducible rfl))
     try simp only [Rg.lp]
     refine Rg.tp 9 ⟨some 35,.indexAddr 34 (.tmp 34) (.tmp 26),_,_,_,none⟩ (v:=?_) rfl ?_ ?_
     rotate_left 1
     · (intro w;go_simp;(try with_reducible rfl))
     try simp only [Rg.lp]
     refine Rg.tp 10 ⟨some 36,.indexAddr 33 (.tmp 35) (.tmp 27),_,_,_,none⟩ (v:=?_) rfl ?_ ?_
     rotate_left 1
     · (intro w;go_simp;(try with_reducible rfl))
     try simp only [Rg.lp]
     refine Rg.stp_o 11 ?_
     refine Rg.stepF ?_ ?_
     · kernel_rfl
     intro K hK
     go_simp
     refine hK.out _ _ ?_
     clear hK K
     try simp only [Rg.lp]
     refine Rg.doneR (by kernel_rfl) ?_ _
     refine NoPanic.normal ?_
     have H55:=Lib.hid h55
     clear HS_ x55 f55 h55
     have HD:=Lib.hid (HD.out.set (55+sx*3+a) (.int .i64 d) (by have:=HZ3.out;omega))
     have G3:=Lib.hid (G3.out.set (55+sx*3+a) (.int .i64 d))
     generalize(V0.setCell ⟨w.heap.size,55+sx*3+a,none⟩ (.int .i64 d))=W6 at*
     have x0: W6.cell? ⟨w.heap.size,0,none⟩=some (.int .i64 (k:Int)):=by rw [G3.out.cell,Array.getElem?_setIfInBounds_ne (by omega)];exact HN0.out
     by_cases hsk:sx=k
     ·
      have e1:((sx:Int)!=(k:Int))=false:=by simp [hsk]
      have HE:=Lib.hid (show d=zj by rw [HTK.out];unfold takenZ;rw [if_pos hsk])
      clear hsk HTK
      go_wp2_with fail
      exact⟨⟨a+1,by have:=HLA.out;omega,by go_num,by rw [←HAG.out d HE.out];exact G3.out,HD.out⟩,by have:=HLA.out;simp [intOf];omega⟩
     ·
      have e1:((sx:Int)!=(k:Int))=true:=by simp;omega
      have e2:¬((sx:Int)=(k:Int)):=by omega
      have HE:=Lib.hid (show zj=MajLaw.maj (d::toldL k sx (sx*3+a) o 4) 0 by rw [HTK.out];unfold takenZ;rw [if_neg hsk])
      have hl2:=toldL_two (sx*3+a) o hk HSX.out hsk
      have HTL:=Lib.hid (show MajLaw.maj (d::toldL k sx (sx*3+a) o 4) 0=MajLaw.maj [d,pairF (toldL k sx (sx*3+a) o 4) 0,pairF (toldL k sx (sx*3+a) o 4) 1] 0 from by
       match hq:toldL k sx (sx*3+a) o 4,hl2 with
       |[p,q],_=>rfl)
      have HTW:=Lib.hid (fun(v:World) (hv:DK w w.heap.size A2 c2 bs o s gh R4 v)=>show Calls Tryz.prog 34 #[.agg R4,.int .i64 (k:Int),.int .i64 (sx:Int),.int .i64 ((sx*3+a:Nat):Int)] v fun e w'=>e=.returned (.agg (rowF .i64 2 (pairF (toldL k sx (sx*3+a) o 4))))∧Below v.heap.size v w' from by
       rw [←HR4.out]
       exact told_any s o k sx (sx*3+a) hk HSX.out hsk v (fun i hi=>HeardRd.of (hv.hs i hi)) fun i m hm=>by have:=HOM.out i m hm;have:=HLJ.out;omega)
      rw [HTL.out]at HE
      generalize pairF (toldL k sx (sx*3+a) o 4)=P at*
      obtain⟨q,hq⟩:∃q:Nat,sx*3+a=q:=⟨_,rfl⟩
      have eq1:(sx:Int)*3+(a:Int)=(q:Int):=by omega
      have HQ:=Lib.hid hq
      rw [hq]at HTW
      have hi4:(Tryz.prog.info? 98).map (·.size)=some R4.size:=i4
      have cTW:=HTW.out W6 HD.out
      have i2:(Tryz.prog.info? 100).map (·.size)=some (rowF .i64 2 P).size:=by rw [rowF_size];kernel_rfl
      have z2:(#[.int .i64 0,.int .i64 0]:Array Value).size=(rowF .i64 2 P).size:=by rw [rowF_size];rfl
      have o2:(rowF .i64 2 P).all (·.oneCell')=true:=rowF_one
      obtain⟨RP,hRP⟩:∃R,rowF .i64 2 P=R:=⟨_,rfl⟩
      rw [hRP]at cTW i2 z2 o2
      have HRP:=Lib.hid hRP
      have CTW:=Lib.hid cTW
      have HHB:=Lib.hid HD.out.hh
      clear hsk HTK hl2 HTL HTW hq hRP cTW
      go_wp2_with(refine wpList_whole rfl 98 _ rfl gh rfl HHB.out _ Tryz.underlying98 rfl hi4 ?_)
      refine CTW.out.mono ?_
      rintro e w7 ⟨rfl,hb⟩
      have HD:=Lib.hid (HD.out.step hb)
      have G3:=Lib.hid (G3.out.below hb G3.out.lt)
      clear hb x0 CTW HHB
      have HT0:=Lib.hid (Blk.fresh w7 100 #[.int .i64 0,.int .i64 0])
      go_upto_region 14 with(refine wpList_store_row rfl 100 _ _ rfl w7.heap.size RP rfl rfl 100 _ HT0.out i2 z2 o2 ?_)
      have HT:=Lib.hid (HT0.out.setRow RP)
      have hb8:Below w7.heap.size w7 ((w7.alloc (.cells #[.int .i64 0,.int .i64 0] 100)).setRow w7.heap.size RP):=below_setRow ((Below.refl _ _).alloc (Nat.le_refl _) _) (Nat.le_refl _) RP
      have HD:=Lib.hid (HD.out.step hb8)
      have hgt0:=G3.out.lt
      have G3:=Lib.hid (G3.out.below hb8 G3.out.lt)
      clear HT0 hb8
      generalize((w7.alloc (.cells #[.int .i64 0,.int .i64 0] 100)).setRow w7.heap.size RP)=w8 at*
      obtain⟨gt,hgt⟩:∃g,w7.heap.size=g:=⟨_,rfl⟩
      rw [hgt]at HT hgt0 ⊢
      clear hgt
      rw [←HRP.out]at HT
      have G3:=Lib.hid G3.out.drew
      have HD:=Lib.hid HD.out.drew
      have HT:=Lib.hid HT.out.drew
      have hx39:(RN.setIfInBounds (55+sx*3+a) (.int .i64 d))[39+sx*3+a]?=some (.int .i64 d):=by rw [Array.getElem?_setIfInBounds_ne (by omega)];exact HN39.out
      have HS:=And.intro ((G3.out.cell (39+sx*3+a)).trans hx39) HT.out
      refine wp_region_noPanic ?_
      refine Rg.beginR [7,9,11] (fun w'=> w'.cell? ⟨w.heap.size,39+sx*3+a,none⟩=some (.int .i64 d)∧Blk w' gt 100 (rowF .i64 2 P)) (by kernel_rfl) ?_
      generalize w8.drew=V0 at*
      refine Rg.tp 0 ⟨some 50,.move (.tmp 7),_,_,_,none⟩ (v:=?_) rfl ?_ ?_
      rotate_left 1
      · (intro w;go_simp;(try with_reducible rfl))
      try simp only [Rg.lp]
      refine Rg.tp 1 ⟨some 51,.move (.tmp 8),_,_,_,none⟩ (v:=?_) rfl ?_ ?_
      rotate_left 1
      · (intro w;go_simp;(try with_reducible rfl))
      try simp only [Rg.lp]
      refine Rg.tp 2 ⟨some 52,.move (.tmp 7),_,_,_,none⟩ (v:=?_) rfl ?_ ?_
      rotate_left 1
      · (intro w;go_simp;(try with_reducible rfl))
      try simp only [Rg.lp]
      refine Rg.tp 3 ⟨some 53,.move (.tmp 8),_,_,_,none⟩ (v:=?_) rfl ?_ ?_
      rotate_left 1
      · (intro w;go_simp;(try with_reducible rfl))
      try simp only [Rg.lp]
      refine Rg.tp 4 ⟨some 54,.fieldAddr 39 (.tmp 2) 5,_,_,_,none⟩ (v:=?_) rfl ?_ ?_
      rotate_left 1
      · (intro w;go_simp;(try with_reducible rfl))
      try simp only [Rg.lp]
      refine Rg.tp 5 ⟨some 55,.indexAddr 34 (.tmp 54) (.tmp 52),_,_,_,none⟩ (v:=?_) rfl ?_ ?_
      rotate_left 1
      · (intro w;go_simp;(try with_reducible rfl))
      try simp only [Rg.lp]
      refine Rg.tp 6 ⟨some 56,.indexAddr 33 (.tmp 55) (.tmp 53),_,_,_,none⟩ (v:=?_) rfl ?_ ?_
      rotate_left 1
      · (intro w;go_simp;(try with_reducible rfl))
      try simp only [Rg.lp]
      refine Rg.stp_s 7 ?_ HS (hy:=?_) (h:=?_)
      rotate_left 1
      · (intro w' hSw;have y:=hSw.1;go_simp;(try with_reducible rfl))
      try simp only [Rg.lp]
      refine Rg.tp 8 ⟨some 58,.indexAddr 100 (.tmp 9) (.const (.int .i64 0)),_,_,_,none⟩ (v:=?_) rfl ?_ ?_
      rotate_left 1
      · (intro w;go_simp;(try with_reducible rfl))
      try simp only [Rg.lp]
      refine Rg.stp_s 9 ?_ HS (hy:=?_) (h:=?_)
      rotate_left 1
      · (intro w' hSw;have y:=(hSw.2.cell 0).trans (rowF_at _ _ _ _ (by omega));go_simp;(try with_reducible rfl))
      try simp only [Rg.lp]
      refine Rg.tp 10 ⟨some 60,.indexAddr 100 (.tmp 9) (.const (.int .i64 1)),_,_,_,none⟩ (v:=?_) rfl ?_ ?_
      rotate_left 1
      · (intro w;go_simp;(try with_reducible rfl))
      try simp only [Rg.lp]
      refine Rg.stp_s 11 ?_ HS (hy:=?_) (h:=?_)
      rotate_left 1
      · (intro w' hSw;have y:=(hSw.2.cell 1).trans (rowF_at _ _ _ _ (by omega));go_simp;(try with_reducible rfl))
      try simp only [Rg.lp]
      refine Rg.tp 13 ⟨some 63,.fieldAddr 39 (.tmp 2) 7,_,_,_,none⟩ (v:=?_) rfl ?_ ?_
      rotate_left 1
      · (intro w;go_simp;(try with_reducible rfl))
      try simp only [Rg.lp]
      refine Rg.tp 14 ⟨some 64,.indexAddr 34 (.tmp 63) (.tmp 50),_,_,_,none⟩ (v:=?_) rfl ?_ ?_
      rotate_left 1
      · (intro w;go_simp;(try with_reducible rfl))
      try simp only [Rg.lp]
      refine Rg.stp_o 12 ?_
      refine Rg.stepF ?_ ?_
      · kernel_rfl
      intro K hK
      rw [if_pos (by rfl)]
      go_simp
      go_at_call 35
      refine(Mj.decide_any d (P 0) (P 1) V0).mono ?_
      rintro e V1 ⟨rfl,hb⟩
      have HD:=Lib.hid (HD.out.step hb)
      have G3:=Lib.hid (G3.out.below hb G3.out.lt)
      clear hb HS
      have HS:=trivial
      rw [←HE.out]
      have f55:=G3.out.thaw (55+sx*3+a)
      have hsz0:=(Array.getElem?_eq_some_iff.1 H55.out).1
      have x55: V1.cell? ⟨w.heap.size,55+sx*3+a,none⟩=some (.int .i64 d):=by rw [G3.out.cell,Array.getElem?_setIfInBounds_self_of_lt hsz0]
      refine hK.out _ _ ?_
      clear hK K
      try simp only [Rg.lp]
      refine Rg.tp 15 ⟨some 65,.indexAddr 33 (.tmp 64) (.tmp 51),_,_,_,none⟩ (v:=?_) rfl ?_ ?_
      rotate_left 1
      · (intro w;go_simp;(try with_reducible rfl))
      try simp only [Rg.lp]
      refine Rg.stp_o 16 ?_
      refine Rg.stepF ?_ ?_
      · kernel_rfl
      intro K hK
      go_simp
      refine hK.out _ _ ?_
      clear hK K
      try simp only [Rg.lp]
      refine Rg.doneR (by kernel_rfl) ?_ _
      refine NoPanic.normal ?_
      go_wp2_with fail
      refine⟨⟨a+1,by have:=HLA.out;omega,by go_num,?_,HD.out.set (55+sx*3+a) (.int .i64 zj) (by have:=HZ3.out;omega)⟩,by have:=HLA.out;simp [intOf];omega⟩
      have h:=G3.out.set (55+sx*3+a) (.int .i64 zj)
      rw [Array.setIfInBounds_setIfInBounds,HAG.out zj rfl]at h
      exact h
    ·
     obtain rfl:a=3:=by omega
     rw [show((3:Nat):Int)=3 from rfl]
     clear hla
     go_wp2_with fail
     exact⟨⟨sx+1,by have:=HSX.out;omega,by go_num,by rw [show(sx+1)*3=sx*3+3 by omega];exact G3.out,HD.out⟩,by have:=HSX.out;simp [intOf];omega⟩
  ·
   obtain rfl:sx=4:=by omega
   rw [show((4:Nat):Int)=4 from rfl]
   have G3:=Lib.hid (show Blk wr w.heap.size 39 (row 74 (nodeW (decG f z allP 0 0) (.slice A2 bs.length c2)))from by rw [←decG_all f z 0 0];exact G3.out)
   clear hls
   go_wp2_with fail
   have HK:=Lib.hid HD.out.nk
   clear HD HAZ HOM
   generalize wr=wq at*
   go_loopw [68] (fun iv wr=>∃a:Nat,a≤3∧iv=.int .i64 (a:Int)∧Blk wr w.heap.size 39 (row 74 (nodeW (decG f z allP a a) (.slice A2 bs.length c2)))∧NK w w.heap.size A2 c2 bs wr) (fun iv _=>3-(intOf iv).toNat)
   case atStart=>exact⟨0,by omega,rfl,G3.out,HK.out⟩
   case round=>
    obtain⟨a,ha,rfl,hg3,hd⟩:=hrel
    clear G3 HK
    have G3:=Lib.hid hg3
    have HK:=Lib.hid hd
    clear hg3 hd
    by_cases hla:a<3
    ·
     have a0:(0:Int)≤(a:Int):=by omega
     have a3:(a:Int)<3:=by omega
     have HLA:=Lib.hid hla
     have HUI:=Lib.hid (used_in (f:=f) HWF.out a hla)
     have HCF:=Lib.hid (fun v=>show Calls Tryz.prog 36 #[.agg (row 74 (nodeW (decG f z allP a a) (.slice A2 bs.length c2))),.int .i64 (a:Int)] v fun e w'=>e=.returned (.int .i64 (usedZ f z a))∧Below v.heap.size v w' from by
      have h:=fuse_any (decG f z allP a a) (ok_decG HF.out z allP a a (by omega) (by omega)) a hla (fun sx hs=>by unfold agZ;rw [decG_ag f z allP a a (by omega) (sx*3+a) (by omega) rfl];exact HWF.out _ (by omega)) (.slice A2 bs.length c2) v
      rw [fuse_used f z allP a a (by omega) (by omega) a hla (fun _ _=>rfl)]at h
      exact h)
     have HUS:=Lib.hid (decG_used f z allP a a (by omega) hla (.slice A2 bs.length c2))
     have HN67:=Lib.hid (show ∃v,(row 74 (nodeW (decG f z allP a a) (.slice A2 bs.length c2)))[67+a]?=some (.int .i64 v)from by
      refine⟨iv (decG f z allP a a (67+a)),?_⟩
      rw [row_at (by omega)]
      unfold nodeW
      rw [if_neg (by omega),←cell_int (ok_decG HF.out z _ a a (by omega) (by omega)) (67+a) (by omega) (by unfold nodeT;simp;omega)])
     have HST:=Lib.hid (show(row 7 fun j=>nodeW (decG f z allP a (a+1)) (.slice A2 bs.length c2) (6+a*7+j))=stC (stOf f a)from by
      rw [←st_load HF.out a hla]
      exact row_congr fun j hj=>by unfold nodeW;rw [if_neg (by omega),Nat.add_assoc,decG_ax _ _ _ _ _ hla _ hj])
     have HTU:=Lib.hid (show(row 4 fun j=>nodeW (decG f z allP a (a+1)) (.slice A2 bs.length c2) (2+j))=tunC (iv (f 2)) (iv (f 3)) (iv (f 4)) (iv (f 5))from by
      have e:∀j,j<4→nodeW (decG f z allP a (a+1)) (.slice A2 bs.length c2) (2+j)=.int .i64 (iv (f (2+j))):=fun j hj=>by unfold nodeW;rw [if_neg (by omega),decG_low _ _ _ _ _ _ (by omega) (by omega) (by omega)];exact cell_int HF.out (2+j) (by omega) (by unfold nodeT;simp;omega)
      rw [row_congr (g:=fun j=>.int .i64 (iv (f (2+j)))) e]
      rfl)
     have HU67:=Lib.hid (show(row 74 (nodeW (decG f z allP a (a+1)) (.slice A2 bs.length c2)))[67+a]?=some (.int .i64 (usedZ f z a))from by rw [row_at (by omega)];unfold nodeW;rw [if_neg (by omega),decG_us _ _ _ _ _ (by omega) _ (by omega) (by omega)])
     have HCS:=Lib.hid (fun v=>show Calls Tryz.prog 37 #[.agg (stC (stOf f a)),.agg (tunC (iv (f 2)) (iv (f 3)) (iv (f 4)) (iv (f 5))),.int .i64 (usedZ f z a)] v fun e w'=>e=.returned (.tuple #[.agg (stC (newSt f z a)),.bool (fstep (stOf f a) (iv (f 2)) (iv (f 3)) (iv (f 4)) (iv (f 5)) (usedZ f z a)).2])∧Below v.heap.size v w' from
      fstep_any (stOf f a) _ _ _ _ _ v (HSI.out a hla) (HTI.out 2 (by omega)) (HTI.out 3 (by omega)) (HTI.out 4 (by omega)) (HTI.out 5 (by omega)) HUI.out)
     have HAX:=Lib.hid (decG_axis f z allP a (a+1) hla (.slice A2 bs.length c2))
     have hiN:∀u,(Tryz.prog.info? 39).map (·.size)=some (row 74 (nodeW (decG f z allP a u) (.slice A2 bs.length c2))).size:=fun u=>by rw [row_size];kernel_rfl
     have hiA:=hiN a
     clear hiN
     obtain⟨U,hU⟩:∃U,usedZ f z a=U:=⟨_,rfl⟩
     rw [hU]at HCF HUS HU67 HCS
     obtain⟨RA,hRA⟩:∃RA,(row 74 (nodeW (decG f z allP a a) (.slice A2 bs.length c2)))=RA:=⟨_,rfl⟩
     rw [hRA]at G3 HCF HUS HN67 hiA
     obtain⟨TC,hTC⟩:∃T,tunC (iv (f 2)) (iv (f 3)) (iv (f 4)) (iv (f 5))=T:=⟨_,rfl⟩
     rw [hTC]at HTU HCS
     obtain⟨SC,hSC⟩:∃T,stC (stOf f a)=T:=⟨_,rfl⟩
     rw [hSC]at HST HCS
     clear hU hRA hla hTC hSC
     go_wp2_with(refine wpList_whole rfl 39 _ rfl w.heap.size rfl G3.out _ Tryz.underlying39 rfl hiA ?_)
     refine(HCF.out _).mono ?_
     rintro e w6 ⟨rfl,hb⟩
     have G3:=Lib.hid (G3.out.below hb G3.out.lt)
     have HK:=Lib.hid (HK.out.step hb)
     clear hb HCF
     obtain⟨v67,h67⟩:=HN67.out
     have x67:=(G3.out.cell (67+a)).trans h67
     have f67:=G3.out.thaw (67+a)
     go_upto_region 21 with fail
     have HK:=Lib.hid (HK.out.set (67+a) (.int .i64 U))
     have G3:=Lib.hid (G3.out.set (67+a) (.int .i64 U))
     rw [HUS.out]at G3
     clear x67 f67 h67 HN67 HUS
     generalize(w6.setCell ⟨w.heap.size,67+a,none⟩ (.int .i64 U))=w7 at*
     have G3:=Lib.hid G3.out.drew
     have HK:=Lib.hid HK.out.drew
     have HS:=G3.out
     refine wp_region_noPanic ?_
     refine Rg.beginR [4,6,10] (fun w'=>Blk w' w.heap.size 39 (row 74 (nodeW (decG f z allP a (a+1)) (.slice A2 bs.length c2)))) (by kernel_rfl) ?_
     generalize w7.drew=V0 at*
     refine Rg.tp 0 ⟨some 78,.move (.tmp 10),_,_,_,none⟩ (v:=?_) rfl ?_ ?_
     rotate_left 1
     · (intro w;go_simp;(try with_reducible rfl))
     try simp only [Rg.lp]
     refine Rg.tp 1 ⟨some 79,.move (.tmp 10),_,_,_,none⟩ (v:=?_) rfl ?_ ?_
     rotate_left 1
     · (intro w;go_simp;(try with_reducible rfl))
     try simp only [Rg.lp]
     refine Rg.tp 2 ⟨some 80,.fieldAddr 39 (.tmp 2) 3,_,_,_,none⟩ (v:=?_) rfl ?_ ?_
     rotate_left 1
     · (intro w;go_simp;(try with_reducible rfl))
     try simp only [Rg.lp]
     refine Rg.tp 3 ⟨some 81,.indexAddr 28 (.tmp 80) (.tmp 79),_,_,_,none⟩ (v:=?_) rfl ?_ ?_
     rotate_left 1
     · (intro w;go_simp;(try with_reducible rfl))
     try simp only [Rg.lp]
     refine Rg.stp_s 4 (.agg SC) HS (hy:=?_) (h:=?_)
     · (intro w' hSw;rw [←HST.out];exact exec_load_mid 27 (.tmp 81) rfl w.heap.size (6+a*7) 7 rfl _ _ (row_range hSw (6+a*7) 7 (by have:=HLA.out;omega)) Tryz.underlying27 rfl (by kernel_rfl))
     try simp only [Rg.lp]
     refine Rg.tp 5 ⟨some 83,.fieldAddr 39 (.tmp 2) 2,_,_,_,none⟩ (v:=?_) rfl ?_ ?_
     rotate_left 1
     · (intro w;go_simp;(try with_reducible rfl))
     try simp only [Rg.lp]
     refine Rg.stp_s 6 (.agg TC) HS (hy:=?_) (h:=?_)
     · (intro w' hSw;rw [←HTU.out];exact exec_load_mid 23 (.tmp 83) rfl w.heap.size 2 4 rfl _ _ (row_range hSw 2 4 (by omega)) Tryz.underlying23 rfl (by kernel_rfl))
     try simp only [Rg.lp]
     refine Rg.tp 7 ⟨some 85,.move (.tmp 10),_,_,_,none⟩ (v:=?_) rfl ?_ ?_
     rotate_left 1
     · (intro w;go_simp;(try with_reducible rfl))
     try simp only [Rg.lp]
     refine Rg.tp 8 ⟨some 86,.fieldAddr 39 (.tmp 2) 8,_,_,_,none⟩ (v:=?_) rfl ?_ ?_
     rotate_left 1
     · (intro w;go_simp;(try with_reducible rfl))
     try simp only [Rg.lp]
     refine Rg.tp 9 ⟨some 87,.indexAddr 33 (.tmp 86) (.tmp 85),_,_,_,none⟩ (v:=?_) rfl ?_ ?_
     rotate_left 1
     · (intro w;go_simp;(try with_reducible rfl))
     try simp only [Rg.lp]
     refine Rg.stp_s 10 (.int .i64 U) HS (hy:=?_) (h:=?_)
     · (intro w' hSw;have y:=(hSw.cell (67+a)).trans HU67.out;go_simp;(try with_reducible rfl))
     try simp only [Rg.lp]
     refine Rg.tp 15 ⟨some 92,.fieldAddr 39 (.tmp 2) 3,_,_,_,none⟩ (v:=?_) rfl ?_ ?_
     rotate_left 1
     · (intro w;go_simp;(try with_reducible rfl))
     try simp only [Rg.lp]
     refine Rg.stp_o 11 ?_
     refine Rg.stepF ?_ ?_
     · kernel_rfl
     intro K hK
     rw [if_pos (by rfl)]
     go_simp
     go_at_call 37
     refine(HCS.out _).mono ?_
     rintro e V1 ⟨rfl,hb⟩
     have G3:=Lib.hid (G3.out.below hb G3.out.lt)
     have HK:=Lib.hid (HK.out.step hb)
     clear hb HS
     have HS:=trivial
     go_wp2_with fail
     refine hK.out _ _ ?_
     clear hK K
     try simp only [Rg.lp]
     refine Rg.tp 12 ⟨some 77,.move (.tmp 89),_,_,_,none⟩ (v:=?_) rfl ?_ ?_
     rotate_left 1
     · (intro w;go_simp;(try with_reducible rfl))
     try simp only [Rg.lp]
     refine Rg.tp 13 ⟨some 90,.extract (.tmp 77) 0,_,_,_,none⟩ (v:=?_) rfl ?_ ?_
     rotate_left 1
     · (intro w;go_simp;(try with_reducible rfl))
     try simp only [Rg.lp]
     refine Rg.tp 14 ⟨some 91,.extract (.tmp 77) 1,_,_,_,none⟩ (v:=?_) rfl ?_ ?_
     rotate_left 1
     · (intro w;go_simp;(try with_reducible rfl))
     try simp only [Rg.lp]
     refine Rg.tp 16 ⟨some 93,.indexAddr 28 (.tmp 92) (.tmp 78),_,_,_,none⟩ (v:=?_) rfl ?_ ?_
     rotate_left 1
     · (intro w;go_simp;(try with_reducible rfl))
     try simp only [Rg.lp]
     refine Rg.stp_o 17 ?_
     refine Rg.stepF ?_ ?_
     · kernel_rfl
     intro K hK
     rw [if_pos (by rfl)]
     refine wp_store_mid 27 (.tmp 93) (.tmp 90) rfl w.heap.size (6+a*7) (stC (newSt f z a)) rfl rfl (by rw [stC_row,row_size];exact row_there G3.out (6+a*7) 7 (by have:=HLA.out;omega)) (by rw [stC_row,row_size];kernel_rfl) (by rw [stC_row];exact row_one (stCell_one _)) ?_
     have G3:=Lib.hid (blk_mid G3.out (6+a*7) 7 (stCell (newSt f z a)))
     rw [HAX.out,←stC_row]at G3
     have HK:=Lib.hid (HK.out.sets (stC (newSt f z a)).toList (6+a*7))
     generalize(V1.setCells w.heap.size (6+a*7) (stC (newSt f z a)).toList)=V2 at*
     refine hK.out _ _ ?_
     clear hK K
     try simp only [Rg.lp]
     refine Rg.doneR (by kernel_rfl) ?_ _
     refine NoPanic.normal ?_
     go_wp2_with fail
     exact⟨⟨a+1,by have:=HLA.out;omega,by go_num,G3.out,HK.out⟩,by have:=HLA.out;simp [intOf];omega⟩
    ·
     obtain rfl:a=3:=by omega
     rw [show((3:Nat):Int)=3 from rfl]
     clear hla
     have HDG:=Lib.hid (fun v=>show Calls Tryz.prog 38 #[.agg (row 74 (nodeW (decG f z allP 3 3) (.slice A2 bs.length c2)))] v fun e w'=>e=.returned (.int .i64 (digestZ (decG f z allP 3 3)))∧Below v.heap.size v w' from digest_any (decG f z allP 3 3) (ok_decG HF.out z allP 3 3 (by omega) (by omega)) (.slice A2 bs.length c2) v)
     have HFR3:=Lib.hid (decF_row k hk z f (.slice A2 bs.length c2))
     have HN:=Lib.hid (show ∀i,i<73→∃v,(row 74 (nodeW (decG f z allP 3 3) (.slice A2 bs.length c2)))[i]?=some v from fun i hi=>⟨_,row_at (by omega)⟩)
     have HN0:=Lib.hid (show(row 74 (nodeW (decG f z allP 3 3) (.slice A2 bs.length c2)))[0]?=some (.int .i64 (k:Int))from by rw [row_at (by omega)];unfold nodeW;rw [if_neg (by omega),decG_low _ _ _ _ _ _ (by omega) (by omega) (by omega),HID.out])
     have HN51:=Lib.hid (show ∃v,(row 74 (nodeW (decG f z allP 3 3) (.slice A2 bs.length c2)))[51+k]?=some (.int .i64 v)from by
      refine⟨iv (decG f z allP 3 3 (51+k)),?_⟩
      rw [row_at (by omega)]
      unfold nodeW
      rw [if_neg (by omega),←cell_int (ok_decG HF.out z _ 3 3 (by omega) (by omega)) (51+k) (by omega) (by unfold nodeT;simp;omega)])
     have HN70:=Lib.hid (show ∃v,(row 74 (nodeW (decG f z allP 3 3) (.slice A2 bs.length c2)))[70]?=some (.int .i64 v)from by
      refine⟨iv (decG f z allP 3 3 70),?_⟩
      rw [row_at (by omega)]
      unfold nodeW
      rw [if_neg (by omega),←cell_int (ok_decG HF.out z _ 3 3 (by omega) (by omega)) 70 (by omega) (by unfold nodeT;simp)])
     have hiA:(Tryz.prog.info? 39).map (·.size)=some (row 74 (nodeW (decG f z allP 3 3) (.slice A2 bs.length c2))).size:=by rw [row_size];kernel_rfl
     have k4:(k:Int)<4:=by omega
     obtain⟨dg,hdg⟩:∃d,digestZ (decG f z allP 3 3)=d:=⟨_,rfl⟩
     have HDE:=Lib.hid hdg
     rw [hdg]at HDG HFR3
     obtain⟨RA,hRA⟩:∃RA,(row 74 (nodeW (decG f z allP 3 3) (.slice A2 bs.length c2)))=RA:=⟨_,rfl⟩
     rw [hRA]at G3 HDG HFR3 HN HN0 HN51 HN70 hiA
     clear hRA hdg
     go_wp2_with(refine wpList_whole rfl 39 _ rfl w.heap.size rfl G3.out _ Tryz.underlying39 rfl hiA ?_)
     refine(HDG.out _).mono ?_
     rintro e w6 ⟨rfl,hb⟩
     have G3:=Lib.hid (G3.out.below hb G3.out.lt)
     have HK:=Lib.hid (HK.out.step hb)
     clear hb HDG
     obtain⟨v70,h70⟩:=HN70.out
     have x70:=(G3.out.cell 70).trans h70
     have f70:=G3.out.thaw 70
     go_upto_region 24 with fail
     have HK:=Lib.hid (HK.out.set 70 (.int .i64 dg))
     have G3:=Lib.hid (G3.out.set 70 (.int .i64 dg))
     clear x70 f70
     generalize(w6.setCell ⟨w.heap.size,70,none⟩ (.int .i64 dg))=w7 at*
     have x70: w7.cell? ⟨w.heap.size,70,none⟩=some (.int .i64 dg):=by rw [G3.out.cell,Array.getElem?_setIfInBounds_self_of_lt (Array.getElem?_eq_some_iff.1 h70).1]
     have x0: w7.cell? ⟨w.heap.size,0,none⟩=some (.int .i64 (k:Int)):=by rw [G3.out.cell,Array.getElem?_setIfInBounds_ne (by omega)];exact HN0.out
     obtain⟨v51,h51⟩:=HN51.out
     have x51: w7.cell? ⟨w.heap.size,51+k,none⟩=some (.int .i64 v51):=by rw [G3.out.cell,Array.getElem?_setIfInBounds_ne (by omega)];exact h51
     have f51:=G3.out.thaw (51+k)
     go_upto_region 25 with fail
     have HK:=Lib.hid (HK.out.set (51+k) (.int .i64 dg))
     have G3:=Lib.hid (G3.out.set (51+k) (.int .i64 dg))
     rw [HFR3.out]at G3
     clear x70 x0 x51 f51 h51 h70 HN HN0 HN51 HN70 HFR3 hiA
     generalize(w7.setCell ⟨w.heap.size,51+k,none⟩ (.int .i64 dg))=w8 at*
     obtain⟨F,hF⟩:∃F,decF k z f=F:=⟨_,rfl⟩
     have HFE:=Lib.hid hF
     have HOK:=Lib.hid (show ∀i,i<73→okT (nodeT i) (F i)from by rw [←hF];exact ok_decF HF.out k hk z)
     have hF0:F 0=.int .i64 (k:Int):=by rw [←hF];unfold decF;rw [if_neg (by omega),decG_low _ _ _ _ _ _ (by omega) (by omega) (by omega)];exact HID.out
     have hF1:F 1=.int .i64 fr:=by rw [←hF];unfold decF;rw [if_neg (by omega),decG_low _ _ _ _ _ _ (by omega) (by omega) (by omega)];exact HFR.out
     have hF70:F 70=.int .i64 dg:=by rw [←hF];unfold decF;rw [if_pos (.inl rfl),HDE.out]
     rw [hF]at G3
     clear hF
     have o5:=one_of HOK.out (A:=A2) (n:=bs.length) (c:=c2)
     have i5:(Tryz.prog.info? 39).map (·.size)=some (row 74 (nodeW F (.slice A2 bs.length c2))).size:=by rw [row_size];kernel_rfl
     have z5:(Tryz.zeroCells39).size=(row 74 (nodeW F (.slice A2 bs.length c2))).size:=by rw [row_size];kernel_rfl
     have j0:(row 74 (nodeW F (.slice A2 bs.length c2)))[0]?=some (.int .i64 (k:Int)):=by rw [row_at (by omega)];exact congrArg some hF0
     have j1:(row 74 (nodeW F (.slice A2 bs.length c2)))[1]?=some (.int .i64 fr):=by rw [row_at (by omega)];exact congrArg some hF1
     have J70:=Lib.hid (show(row 74 (nodeW F (.slice A2 bs.length c2)))[70]?=some (.int .i64 dg)from by rw [row_at (by omega)];exact congrArg some hF70)
     obtain⟨R5,hR5⟩:∃R5,row 74 (nodeW F (.slice A2 bs.length c2))=R5:=⟨_,rfl⟩
     rw [hR5]at o5 i5 z5 j0 j1 G3 J70
     have HR5:=Lib.hid hR5
     clear hR5 hF0 hF1 hF70
     have G3:=Lib.hid G3.out.drew
     have G6:=Lib.hid HK.out.g6.drew
     have G7:=Lib.hid HK.out.g7.drew
     have HV:=Lib.hid HK.out.drew.hv
     have HB:=Lib.hid HK.out.hb.drew
     have HG7:=Lib.hid (show w.heap.size+1+1<w8.drew.heap.size from G7.out.lt)
     have HS:=G3.out
     clear HK
     refine wp_region_noPanic ?_
     refine Rg.beginR [0,1,3] (fun w'=>Blk w' w.heap.size 39 R5) (by kernel_rfl) ?_
     generalize w8.drew=V0 at*
     refine Rg.stp_s 0 (.agg R5) HS (hy:=?_) (h:=?_)
     · (intro w' hSw;exact exec_load_row 39 _ rfl _ rfl hSw Tryz.underlying39 rfl i5)
     try simp only [Rg.lp]
     refine Rg.stp_s 1 (.agg R5) HS (hy:=?_) (h:=?_)
     · (intro w' hSw;exact exec_load_row 39 _ rfl _ rfl hSw Tryz.underlying39 rfl i5)
     try simp only [Rg.lp]
     refine Rg.tp 2 ⟨some 106,.fieldAddr 39 (.tmp 2) 9,_,_,_,none⟩ (v:=?_) rfl ?_ ?_
     rotate_left 1
     · (intro w;go_simp;(try with_reducible rfl))
     try simp only [Rg.lp]
     refine Rg.stp_s 3 (.int .i64 dg) HS (hy:=?_) (h:=?_)
     · (intro w' hSw;have y:=(hSw.cell 70).trans J70.out;go_simp;(try with_reducible rfl))
     try simp only [Rg.lp]
     refine Rg.stp_o 4 ?_
     refine Rg.stepS ?_
     intro K hK
     go_simp
     have HP:=Lib.hid (Blk.fresh V0 3 #[.int .i64 dg])
     have G3:=Lib.hid (G3.out.alloc (.cells #[.int .i64 dg] 3))
     have G6:=Lib.hid (G6.out.alloc (.cells #[.int .i64 dg] 3))
     have G7:=Lib.hid (G7.out.alloc (.cells #[.int .i64 dg] 3))
     have HV:=Lib.hid (ownsRow_below HV.out ((Below.refl V0.heap.size V0).alloc (Nat.le_refl _) (.cells #[.int .i64 dg] 3)))
     have HGP:=Lib.hid (show w.heap.size+1+1<V0.heap.size from HG7.out)
     have HB:=Lib.hid (HB.out.alloc HB.out.size (.cells #[.int .i64 dg] 3))
     clear HS
     generalize(V0.alloc (.cells #[.int .i64 dg] 3))=V1 at*
     have HS:=G3.out
     obtain⟨gp,hgp⟩:∃g,V0.heap.size=g:=⟨_,rfl⟩
     rw [hgp]at HP HGP ⊢
     clear hgp
     refine hK.out _ _ HS ?_
     clear hK K
     try simp only [Rg.lp]
     refine Rg.stp_o 5 ?_
     refine Rg.stepS ?_
     intro K hK
     rw [if_pos (by rfl)]
     go_simp
     go_at_call 32
     refine(say_any R5 (k:Int) fr 3 (some ⟨gp,0,none⟩) 1 1 j0 j1 V1).mono ?_
     rintro e V2 ⟨rfl,hb⟩
     have G3:=Lib.hid (G3.out.below hb G3.out.lt)
     have G6:=Lib.hid (G6.out.below hb G6.out.lt)
     have G7:=Lib.hid (G7.out.below hb G7.out.lt)
     have HP:=Lib.hid (HP.out.below hb HP.out.lt)
     have HV:=Lib.hid (ownsRow_below HV.out hb)
     have HB:=Lib.hid (onward HB.out (Nat.le_refl _) hb)
     clear hb HS
     have HS:=G3.out
     go_wp2_with fail
     refine hK.out _ _ HS ?_
     clear hK K
     try simp only [Rg.lp]
     refine Rg.stp_o 6 ?_
     refine Rg.stepF ?_ ?_
     · kernel_rfl
     intro K hK
     rw [if_pos (by rfl)]
     refine wp_store_row 39 _ _ rfl (w.heap.size+1) R5 rfl rfl 39 _ G6.out i5 z5 o5 ?_
     have G3:=Lib.hid (G3.out.setRow_other (g':=w.heap.size+1) (by have:=HGP.out;omega) R5)
     have G7:=Lib.hid (G7.out.setRow_other (g':=w.heap.size+1) (by have:=HGP.out;omega) R5)
     have HP:=Lib.hid (HP.out.setRow_other (g':=w.heap.size+1) (by have:=HGP.out;omega) R5)
     have G6:=Lib.hid (G6.out.setRow R5)
     have HB:=Lib.hid (below_setRow HB.out (show w.heap.size≤w.heap.size+1 by omega) R5)
     have HV:=Lib.hid (own_setRow HV.out (show w.heap.size+1<w.heap.size+1+1+1 by omega) R5)
     generalize(V2.setRow (w.heap.size+1) R5)=V3 at*
     refine hK.out _ _ ?_
     clear hK K
     try simp only [Rg.lp]
     refine Rg.stp_o 7 ?_
     refine Rg.stepF ?_ ?_
     · kernel_rfl
     intro K hK
     rw [if_pos (by rfl)]
     refine wp_store_row 72 _ _ rfl (w.heap.size+1+1) (Ms.msgC 3 (k:Int) fr (some ⟨gp,0,none⟩) 1 1) rfl rfl 72 _ G7.out (by kernel_rfl) rfl (by simp [Ms.msgC,Value.oneCell']) ?_
     have G6:=Lib.hid (G6.out.setRow_other (g':=w.heap.size+1+1) (by omega) (Ms.msgC 3 (k:Int) fr (some ⟨gp,0,none⟩) 1 1))
     have HP:=Lib.hid (HP.out.setRow_other (g':=w.heap.size+1+1) (by have:=HGP.out;omega) (Ms.msgC 3 (k:Int) fr (some ⟨gp,0,none⟩) 1 1))
     have G7:=Lib.hid (G7.out.setRow (Ms.msgC 3 (k:Int) fr (some ⟨gp,0,none⟩) 1 1))
     have HB:=Lib.hid (below_setRow HB.out (show w.heap.size≤w.heap.size+1+1 by omega) (Ms.msgC 3 (k:Int) fr (some ⟨gp,0,none⟩) 1 1))
     have HV:=Lib.hid (own_setRow HV.out (show w.heap.size+1+1<w.heap.size+1+1+1 by omega) (Ms.msgC 3 (k:Int) fr (some ⟨gp,0,none⟩) 1 1))
     generalize(V3.setRow (w.heap.size+1+1) (Ms.msgC 3 (k:Int) fr (some ⟨gp,0,none⟩) 1 1))=V4 at*
     refine hK.out _ _ ?_
     clear hK K
     try simp only [Rg.lp]
     refine Rg.doneR (by kernel_rfl) ?_ _
     refine NoPanic.normal ?_
     clear HS
     go_wp2_with fail
     have hi4:(Tryz.prog.info? 72).map (·.size)=some (Ms.msgC 3 (k:Int) fr (some ⟨gp,0,none⟩) 1 1).size:=by kernel_rfl
     have HPR:=Lib.hid ((Mj.rd_of_blk HP.out).more (show gp+1≤V4.heap.size from HP.out.lt))
     exact ret_rows2 rfl rfl rfl G6.out ⟨by rw [Tryz.underlying39],i5⟩ G7.out ⟨by rw [Tryz.underlying72],hi4⟩ rfl (by rw [HZZ.out,HFE.out,HDE.out];exact⟨A2,c2,some ⟨gp,0,none⟩,1,by rw [←HR5.out];rfl,Rd.of_own HV.out,HPR.out,HB.out,fun a h=>Nat.le_trans (by omega) (own_lo HV.out a h),fun a h=>by cases h;show w.heap.size≤gp;have:=HGP.out;omega,(own_cap HV.out).1,(own_cap HV.out).2⟩)
end Nd
end Go.Proofs.YtljpoibnkkcjdaaGreatDoor
