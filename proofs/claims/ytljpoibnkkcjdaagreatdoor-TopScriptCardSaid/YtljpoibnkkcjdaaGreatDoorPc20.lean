import Derived.Test.YtljpoibnkkcjdaaGreatDoorPc11
set_option linter.unusedVariables false
set_option linter.unusedSimpArgs false
namespace Go.Proofs.YtljpoibnkkcjdaaGreatDoor
namespace Nd
open Go.RowKit Mem Rws Flat
set_option maxRecDepth 100000 in
set_option maxHeartbeats 4000000 in
theorem judge_any (f:Nat→Value) (hf:∀i,i<73→okT (nodeT i) (f i)) (k:Nat) (hk:k<4) (hid:f 0=.int .i64 (k:Int)) (fr:Int) (hfr:f 1=.int .i64 fr) (A:Option Addr) (c:Nat) (bs:List Bool) (AI:Option Addr) (ci:Nat) (ms:List Ms.Msg) (B:Nat) (w:World) (hB:B≤w.heap.size) (hA:A=none→c=0) (hnc:bs.length≤c) (hl:bs.length≤140737488351232) (hr:Rd w B 1 A bs.length (boolsV bs)) (hml:ms.length≤140737488355328) (hm:Ms.MsgsAt w B AI ms) (hw:∀i z,i<73→f i=.int .i64 z→Wf z) (hmw:∀m∈ms,∀z∈m.zs,Wf z):
  Calls Tryz.prog 19 #[.agg (row 74 (nodeW f (.slice A bs.length c))),.slice AI ms.length ci] w fun e w'=>NodeMsg w w' (judgeF (digestsZ k fr ms f) f) (agreeL (digestsZ k fr ms f) (inB f)) 5 (k:Int) fr (packZ (judgeF (digestsZ k fr ms f) f)) e:=by
 have hone:∀(A:Option Addr) (n c:Nat),(row 74 (nodeW f (.slice A n c))).all (·.oneCell')=true:=fun A n c=>one_of hf
 have HWF:=Lib.hid (wf_digests hf hw hmw k fr)
 clear hw hmw
 have HO:=Lib.hid hone
 have HF:=Lib.hid hf
 have HID:=Lib.hid hid
 have HFR:=Lib.hid hfr
 clear hf hone hid hfr
 go_enter Tryz.func19,Tryz.ntmps19
 go_upto_region 1 with fail
 have D3:Hid (Blk (((w.alloc (.cells (row 74 (nodeW f (.slice A bs.length c))) 39)).alloc (.cells Tryz.zeroCells39 39)).alloc (.cells #[.int .i64 0,.int .i64 0,.int .i64 0,.slice none 0 0] 72)) w.heap.size 39 (row 74 (nodeW f (.slice A bs.length c)))):=Lib.hid (((Blk.new rfl).alloc _).alloc _)
 have D6:Hid (Blk (((w.alloc (.cells (row 74 (nodeW f (.slice A bs.length c))) 39)).alloc (.cells Tryz.zeroCells39 39)).alloc (.cells #[.int .i64 0,.int .i64 0,.int .i64 0,.slice none 0 0] 72)) (w.heap.size+1) 39 Tryz.zeroCells39):=Lib.hid ((Blk.new (by simp)).alloc _)
 have D7:Hid (Blk (((w.alloc (.cells (row 74 (nodeW f (.slice A bs.length c))) 39)).alloc (.cells Tryz.zeroCells39 39)).alloc (.cells #[.int .i64 0,.int .i64 0,.int .i64 0,.slice none 0 0] 72)) (w.heap.size+1+1) 72 #[.int .i64 0,.int .i64 0,.int .i64 0,.slice none 0 0]):=Lib.hid (Blk.new (by simp))
 have HB:=Lib.hid (((((Below.refl w.heap.size w).alloc (Nat.le_refl _) (.cells (row 74 (nodeW f (.slice A bs.length c))) 39)).alloc (by simp) (.cells Tryz.zeroCells39 39)).alloc (by simp;omega) (.cells #[.int .i64 0,.int .i64 0,.int .i64 0,.slice none 0 0] 72)))
 have HR:=Lib.hid hr
 have HMS:=Lib.hid hm
 clear hr hm
 generalize(((w.alloc (.cells (row 74 (nodeW f (.slice A bs.length c))) 39)).alloc (.cells Tryz.zeroCells39 39)).alloc (.cells #[.int .i64 0,.int .i64 0,.int .i64 0,.slice none 0 0] 72))=W at*
 have hi74:∀A (n:Nat) c,(Tryz.prog.info? 39).map (·.size)=some (row 74 (nodeW f (.slice A n c))).size:=fun A n c=>by rw [row_size];kernel_rfl
 have HI:=Lib.hid hi74
 clear hi74
 have hwz:w.heap.size+1+1<W.heap.size:=D7.out.lt
 have hia:=HI.out A bs.length c
 obtain⟨R1,hR1⟩:∃R1,row 74 (nodeW f (.slice A bs.length c))=R1:=⟨_,rfl⟩
 have HR1:=Lib.hid hR1
 rw [hR1]at D3 hia
 clear hR1
 go_wp2_with(refine wpList_whole rfl 39 _ rfl w.heap.size rfl D3.out _ Tryz.underlying39 rfl hia ?_)
 rw [←HR1.out]
 refine(copied_any f HF.out A c bs B _ (Nat.le_trans hB HB.out.size) hA hnc hl (HR.out.below (HB.out.mono hB))).mono ?_
 rintro e w1 ⟨A2,c2,rfl,hown,hb1⟩
 rw [HR1.out]
 have HW1:=Lib.hid hown
 have HB1:=Lib.hid (onward HB.out (Nat.le_refl _) hb1)
 have hsz:=hb1.size
 have hi2:=HI.out A2 bs.length c2
 have h12:=HO.out A2 bs.length c2
 have h20:(row 74 (nodeW f (.slice A2 bs.length c2)))[0]?=some (.int .i64 (k:Int)):=by rw [row_at (by omega)];exact congrArg some HID.out
 have h21:(row 74 (nodeW f (.slice A2 bs.length c2)))[1]?=some (.int .i64 fr):=by rw [row_at (by omega)];exact congrArg some HFR.out
 have hs2:R1.size=(row 74 (nodeW f (.slice A2 bs.length c2))).size:=by rw [←HR1.out,row_size,row_size]
 obtain⟨R2,hR2⟩:∃R2,row 74 (nodeW f (.slice A2 bs.length c2))=R2:=⟨_,rfl⟩
 have HR2:=Lib.hid hR2
 rw [hR2]at hi2 h12 h20 h21 hs2 ⊢
 clear hR2
 have E3:=Lib.hid (D3.out.below hb1 D3.out.lt)
 have F3:=Lib.hid (E3.out.setRow R2)
 have F6:=Lib.hid ((D6.out.below hb1 D6.out.lt).setRow_other (g':=w.heap.size) (by omega) R2)
 have F7:=Lib.hid ((D7.out.below hb1 D7.out.lt).setRow_other (g':=w.heap.size) (by omega) R2)
 have HB2:=Lib.hid (below_setRow HB1.out (Nat.le_refl _) R2)
 have HW2:=Lib.hid (own_setRow HW1.out (show w.heap.size<W.heap.size by omega) R2)
 have cT:=fun w=>strange_any R2 (k:Int) h20 w
 have hk0:¬((k:Int)<0):=by omega
 have hbk:badId (k:Int)=false:=by unfold badId;simp;omega
 rw [hbk]at cT
 clear hb1 hown hbk
 go_upto_region 4 with(first
  |(refine wpList_store_row rfl 39 _ _ rfl w.heap.size R2 rfl rfl 39 _ E3.out hi2 hs2 h12 ?_)
  |(refine wpList_whole rfl 39 _ rfl w.heap.size rfl F3.out _ Tryz.underlying39 rfl hi2 ?_)
  |(go_at_call 31;refine(cT _).mono ?_;rintro e w3 ⟨rfl,hb3⟩;have G3:=Lib.hid (F3.out.below hb3 F3.out.lt);have G6:=Lib.hid (F6.out.below hb3 F6.out.lt);have G7:=Lib.hid (F7.out.below hb3 F7.out.lt);have HB3:=Lib.hid (onward HB2.out (Nat.le_refl _) hb3);have HW3:=Lib.hid (ownsRow_below HW2.out hb3);have hz3:=Nat.le_trans hsz (Nat.le_trans (show w1.heap.size≤(w1.setRow w.heap.size R2).heap.size from(below_setRow (Below.refl 0 w1) (Nat.zero_le _) R2).size) hb3.size);clear hb3))
 clear HB HB1 HB2 HW1 HW2 D3 D6 D7 E3 F3 F6 F7 cT hs2
 have cH:=Ms.hear_any R2 (k:Int) fr h20 h21 AI ci ms 2 4 (by omega) B w3 (Nat.le_trans hB HB3.out.size) hml (HMS.out.below (HB3.out.mono hB))
 rw [show((4:Nat):Int)=4 from rfl]at cH
 have CH:=Lib.hid cH
 clear cH
 go_wp2_with(refine wpList_whole rfl 39 _ rfl w.heap.size rfl G3.out _ Tryz.underlying39 rfl hi2 ?_)
 refine CH.out.mono ?_
 rintro e w4 ⟨s,rfl,hs,hb⟩
 have G3:=Lib.hid (G3.out.below hb G3.out.lt)
 have G6:=Lib.hid (G6.out.below hb G6.out.lt)
 have G7:=Lib.hid (G7.out.below hb G7.out.lt)
 have HB:=Lib.hid (onward HB3.out (Nat.le_refl _) hb)
 have HS0:=Lib.hid (fun i hi=>HeardRd.of (hs i hi))
 have HX4:=Lib.hid (G7.out.lt)
 have o4:(row 4 s).all (·.oneCell')=true:=row_one fun i hi=>(hs i hi).one
 have i4:(Tryz.prog.info? 98).map (·.size)=some (row 4 s).size:=by rw [row_size];kernel_rfl
 have z4:(#[.slice none 0 0,.slice none 0 0,.slice none 0 0,.slice none 0 0]:Array Value).size=(row 4 s).size:=by rw [row_size];rfl
 rw [←HR2.out]at G3
 clear hs hb HW3 HB3 CH h12 hi2 HR hz3
 obtain⟨R4,hR4⟩:∃R4,row 4 s=R4:=⟨_,rfl⟩
 rw [hR4]at o4 i4 z4 ⊢
 have HR4:=Lib.hid hR4
 clear hR4
 have HH0:=Lib.hid (Blk.fresh w4 98 #[.slice none 0 0,.slice none 0 0,.slice none 0 0,.slice none 0 0])
 go_upto_region 6 with(refine wpList_store_row rfl 98 _ _ rfl w4.heap.size R4 rfl rfl 98 _ HH0.out i4 z4 o4 ?_)
 have HH:=Lib.hid (show Blk (((w4.alloc (.cells #[.slice none 0 0,.slice none 0 0,.slice none 0 0,.slice none 0 0] 98)).setRow w4.heap.size R4).alloc (.cells #[.int .i64 0,.int .i64 0,.int .i64 0,.int .i64 0] 30)) w4.heap.size 98 R4 from(HH0.out.setRow R4).alloc _)
 have HL:=Lib.hid (show Blk (((w4.alloc (.cells #[.slice none 0 0,.slice none 0 0,.slice none 0 0,.slice none 0 0] 98)).setRow w4.heap.size R4).alloc (.cells #[.int .i64 0,.int .i64 0,.int .i64 0,.int .i64 0] 30)) (w4.heap.size+1) 30 (rowF .i64 4 fun _=>0)from Blk.new (by simp))
 have hb5:Below w4.heap.size w4 (((w4.alloc (.cells #[.slice none 0 0,.slice none 0 0,.slice none 0 0,.slice none 0 0] 98)).setRow w4.heap.size R4).alloc (.cells #[.int .i64 0,.int .i64 0,.int .i64 0,.int .i64 0] 30)):=(below_setRow ((Below.refl _ _).alloc (Nat.le_refl _) _) (Nat.le_refl _) R4).alloc (by simp) _
 have G3:=Lib.hid (G3.out.below hb5 G3.out.lt)
 have G6:=Lib.hid (G6.out.below hb5 G6.out.lt)
 have G7:=Lib.hid (G7.out.below hb5 G7.out.lt)
 have HB:=Lib.hid (onward HB.out (Nat.le_refl _) hb5)
 have HS:=Lib.hid (fun i hi=>(HS0.out i hi).below hb5)
 clear hb5 HS0 HH0
 generalize(((w4.alloc (.cells #[.slice none 0 0,.slice none 0 0,.slice none 0 0,.slice none 0 0] 98)).setRow w4.heap.size R4).alloc (.cells #[.int .i64 0,.int .i64 0,.int .i64 0,.int .i64 0] 30))=w5 at*
 have hgl2:=HB.out.size
 have hw4:w.heap.size+1+1<w4.heap.size:=HX4.out
 obtain⟨gh,hgh⟩:∃g,w4.heap.size=g:=⟨_,rfl⟩
 rw [hgh]at HH HL HS hw4 ⊢
 clear hgh
 obtain⟨gl,hgl⟩:∃g,gh+1=g:=⟨_,rfl⟩
 rw [hgl]at HL ⊢
 have hhl:gh<gl:=by omega
 have hll:=HL.out.lt
 have HS:=Lib.hid (fun i hi=>(HS.out i hi).more (Nat.le_of_lt hhl))
 clear hgl
 obtain⟨LD,hLD⟩:∃L,digestsZ k fr ms f=L:=⟨_,rfl⟩
 have HLD:=Lib.hid hLD
 have HDJ:=Lib.hid (fun j:Nat=>show LD j=takenZ k j (heardZ f j) j (fun i=>Ms.firstOf (k:Int) fr 2 4 (i:Int) ms)from by rw [←hLD];rfl)
 rw [hLD]at HWF
 clear hLD
 have HOM:=Lib.hid (fun(i:Nat) m (h:Ms.firstOf (k:Int) fr 2 4 (i:Int) ms=some m)=>fit_len h)
 obtain⟨o,ho⟩:∃o,(fun i:Nat=>Ms.firstOf (k:Int) fr 2 4 (i:Int) ms)=o:=⟨_,rfl⟩
 have HS:=Lib.hid (fun(i:Nat) hi=>show HeardRd w5 gl (o i) (s i)from by rw [←ho];exact HS.out i hi)
 have HOM:=Lib.hid (fun(i:Nat) m (h:o i=some m)=>show m.zs.length=4 from HOM.out i m (by rw [←ho]at h;exact h))
 have HDJ:=Lib.hid (fun j:Nat=>show LD j=takenZ k j (heardZ f j) j o from by rw [←ho];exact HDJ.out j)
 clear ho
 have HH5:=HH
 have hst:∀j,j<4→(row 74 (nodeW f (.slice A2 bs.length c2)))[51+j]?=some (.int .i64 (heardZ f j)):=fun j hj=>by
  rw [row_at (by omega)]
  unfold nodeW heardZ
  rw [if_neg (by omega),←iv_of (by have h:=HF.out (51+j) (by omega);have e:nodeT (51+j)=true:=(by unfold nodeT;simp;omega);rw [e]at h;exact h)]
 have HST:=Lib.hid hst
 have h30:(row 74 (nodeW f (.slice A2 bs.length c2)))[0]?=some (.int .i64 (k:Int)):=by rw [HR2.out];exact h20
 have H30:=Lib.hid h30
 clear hst h30
 go_wp2_with fail
 go_loopw [22] (fun i wr=>∃j:Nat,j≤4∧i=.int .i64 (j:Int)∧Blk wr gl 30 (rowF .i64 4 fun i=>if i<j then LD i else 0)∧Below gl w5 wr) (fun i _=>4-(intOf i).toNat)
 case atStart=>exact⟨0,by omega,rfl,HL.out.none,Below.refl _ _⟩
 case round=>
  clear HL
  obtain⟨j,hj,rfl,hl_,hb⟩:=hrel
  have HL:=Lib.hid hl_
  have HBG:=Lib.hid hb
  clear hl_ hb
  have HN5:=Lib.hid G3
  have G3:=Lib.hid (G3.out.below HBG.out (by omega))
  by_cases hlt:j<4
  ·
   have x1:=(G3.out.cell (51+j)).trans (HST.out j hlt)
   have x0:=(G3.out.cell 0).trans H30.out
   have fl:=HL.out.thaw j
   have xl: wr.cell? ⟨gl,j,none⟩=some (.int .i64 0):=HL.out.upto_cell hlt
   have HX1:=Lib.hid (HST.out j hlt)
   have HDj:=Lib.hid (HDJ.out j)
   have hj1:(j:Int)<4:=by omega
   have hj0:(0:Int)≤(j:Int):=by omega
   obtain⟨h,hh⟩:∃h,heardZ f j=h:=⟨_,rfl⟩
   rw [hh]at x1 HX1 HDj
   clear hh
   by_cases hjk:j=k
   ·
    have e1:((j:Int)!=(k:Int))=false:=by simp [hjk]
    have HLJ:=Lib.hid (show h=LD j by rw [HDj.out];unfold takenZ;rw [if_pos hjk])
    clear hjk HDj
    go_wp2_with fail
    exact⟨⟨j+1,by omega,by go_num,HL.out.upto HLJ.out,HBG.out.setCell (p:=⟨gl,j,none⟩) (Nat.le_refl _) _⟩,by simp [intOf];omega⟩
   ·
    have e1:((j:Int)!=(k:Int))=true:=by simp;omega
    have HLJ:=Lib.hid (show LD j=MajLaw.maj (h::toldL k j j o 4) 0 by rw [HDj.out];unfold takenZ;rw [if_neg hjk])
    have HSW:=Lib.hid (fun(v:World) (hv:Below gl w5 v) (i:Nat) hi=>((HS.out i hi).below hv).more (Nat.le_trans (Nat.le_of_lt hll) hv.size))
    have HTW:=Lib.hid (fun(v:World) (hv:Below gl w5 v)=>show Calls Tryz.prog 34 #[.agg R4,.int .i64 (k:Int),.int .i64 (j:Int),.int .i64 (j:Int)] v fun e w'=>e=.returned (.agg (rowF .i64 2 (pairF (toldL k j j o 4))))∧Below v.heap.size v w' from by
     rw [←HR4.out]
     exact told_any s o k j j hk hlt hjk v (HSW.out v hv) fun i m hm=>by have:=HOM.out i m hm;omega)
    have HTL:=Lib.hid (show MajLaw.maj (h::toldL k j j o 4) 0=MajLaw.maj [h,pairF (toldL k j j o 4) 0,pairF (toldL k j j o 4) 1] 0 from by
     have hl2:=toldL_two j o hk hlt hjk
     match hq:toldL k j j o 4,hl2 with
     |[a,b],_=>rfl)
    rw [HTL.out]at HLJ
    generalize pairF (toldL k j j o 4)=P at*
    have e2:¬((j:Int)=(k:Int)):=by omega
    clear hjk HDj HTL HSW
    go_upto_region 11 with fail
    have HB9:=Lib.hid ((Below.refl gl wr).setCell (p:=⟨gl,j,none⟩) (Nat.le_refl _) (.int .i64 h))
    have HL:=Lib.hid (show Blk (wr.setCell ⟨gl,j,none⟩ (.int .i64 h)) gl 30 (rowF .i64 4 fun i=>if i=j then h else if i<j then LD i else 0)from by
     rw [←rowF_set (f:=fun i=>if i<j then LD i else 0) (j:=j) (v:=h) (fun i hi=>rfl)]
     exact HL.out.set _ _)
    have HBG:=Lib.hid (HBG.out.trans HB9.out)
    have G3:=Lib.hid (G3.out.below HB9.out (by omega))
    have HH:=Lib.hid (HH.out.below HBG.out hhl)
    clear x1 x0 fl xl HB9
    generalize(wr.setCell ⟨gl,j,none⟩ (.int .i64 h))=w6 at*
    have x0:=(G3.out.cell 0).trans H30.out
    have hi4:(Tryz.prog.info? 98).map (·.size)=some R4.size:=i4
    have hglw:=HL.out.lt
    have cTW:=HTW.out w6 HBG.out
    have i2:(Tryz.prog.info? 100).map (·.size)=some (rowF .i64 2 P).size:=by rw [rowF_size];kernel_rfl
    have z2:(#[.int .i64 0,.int .i64 0]:Array Value).size=(rowF .i64 2 P).size:=by rw [rowF_size];rfl
    have o2:(rowF .i64 2 P).all (·.oneCell')=true:=rowF_one
    obtain⟨RP,hRP⟩:∃R,rowF .i64 2 P=R:=⟨_,rfl⟩
    rw [hRP]at cTW i2 z2 o2
    have HRP:=Lib.hid hRP
    have CTW:=Lib.hid cTW
    clear hRP cTW
    go_wp2_with(refine wpList_whole rfl 98 _ rfl gh rfl HH.out _ Tryz.underlying98 rfl hi4 ?_)
    refine CTW.out.mono ?_
    rintro e w7 ⟨rfl,hb⟩
    have HL:=Lib.hid (HL.out.below hb HL.out.lt)
    have G3:=Lib.hid (G3.out.below hb G3.out.lt)
    have HBG:=Lib.hid (onward HBG.out (Nat.le_of_lt hll) hb)
    have hglw:=HL.out.lt
    clear hb x0 CTW
    have HT0:=Lib.hid (Blk.fresh w7 100 #[.int .i64 0,.int .i64 0])
    go_upto_region 12 with(refine wpList_store_row rfl 100 _ _ rfl w7.heap.size RP rfl rfl 100 _ HT0.out i2 z2 o2 ?_)
    have HT:=Lib.hid (HT0.out.setRow RP)
    have hb8:Below w7.heap.size w7 ((w7.alloc (.cells #[.int .i64 0,.int .i64 0] 100)).setRow w7.heap.size RP):=below_setRow ((Below.refl _ _).alloc (Nat.le_refl _) _) (Nat.le_refl _) RP
    have HL:=Lib.hid (HL.out.below hb8 HL.out.lt)
    have G3:=Lib.hid (G3.out.below hb8 G3.out.lt)
    have HBG:=Lib.hid (onward HBG.out (Nat.le_of_lt hll) hb8)
    clear HT0 hb8
    generalize((w7.alloc (.cells #[.int .i64 0,.int .i64 0] 100)).setRow w7.heap.size RP)=w8 at*
    obtain⟨gt,hgt⟩:∃g,w7.heap.size=g:=⟨_,rfl⟩
    rw [hgt]at HT hglw ⊢
    clear hgt
    rw [←HRP.out]at HT
    have HS:=And.intro G3.out.drew HT.out.drew
    have HL:=Lib.hid HL.out.drew
    have HBG:=Lib.hid HBG.out.drew
    have hgt2:=HT.out.lt
    refine wp_region_noPanic ?_
    refine Rg.beginR [4,6,8] (fun w'=>Blk w' w.heap.size 39 (row 74 (nodeW f (.slice A2 bs.length c2)))∧Blk w' gt 100 (rowF .i64 2 P)) (by kernel_rfl) ?_
    generalize w8.drew=V0 at*
    refine Rg.tp 0 ⟨some 41,.move (.tmp 8),_,_,_,none⟩ (v:=?_) rfl ?_ ?_
    rotate_left 1
    · (intro w;go_simp;(try with_reducible rfl))
    try simp only [Rg.lp]
    refine Rg.tp 1 ⟨some 42,.move (.tmp 8),_,_,_,none⟩ (v:=?_) rfl ?_ ?_
    rotate_left 1
    · (intro w;go_simp;(try with_reducible rfl))
    try simp only [Rg.lp]
    refine Rg.tp 2 ⟨some 43,.fieldAddr 39 (.tmp 2) 6,_,_,_,none⟩ (v:=?_) rfl ?_ ?_
    rotate_left 1
    · (intro w;go_simp;(try with_reducible rfl))
    try simp only [Rg.lp]
    refine Rg.tp 3 ⟨some 44,.indexAddr 30 (.tmp 43) (.tmp 42),_,_,_,none⟩ (v:=?_) rfl ?_ ?_
    rotate_left 1
    · (intro w;go_simp;(try with_reducible rfl))
    try simp only [Rg.lp]
    refine Rg.stp_s 4 ?_ HS (hy:=?_) (h:=?_)
    rotate_left 1
    · (intro w' hSw;have y:=(hSw.1.cell (51+j)).trans HX1.out;go_simp;(try with_reducible rfl))
    try simp only [Rg.lp]
    refine Rg.tp 5 ⟨some 46,.indexAddr 100 (.tmp 9) (.const (.int .i64 0)),_,_,_,none⟩ (v:=?_) rfl ?_ ?_
    rotate_left 1
    · (intro w;go_simp;(try with_reducible rfl))
    try simp only [Rg.lp]
    refine Rg.stp_s 6 ?_ HS (hy:=?_) (h:=?_)
    rotate_left 1
    · (intro w' hSw;have y:=(hSw.2.cell 0).trans (rowF_at _ _ _ _ (by omega));go_simp;(try with_reducible rfl))
    try simp only [Rg.lp]
    refine Rg.tp 7 ⟨some 48,.indexAddr 100 (.tmp 9) (.const (.int .i64 1)),_,_,_,none⟩ (v:=?_) rfl ?_ ?_
    rotate_left 1
    · (intro w;go_simp;(try with_reducible rfl))
    try simp only [Rg.lp]
    refine Rg.stp_s 8 ?_ HS (hy:=?_) (h:=?_)
    rotate_left 1
    · (intro w' hSw;have y:=(hSw.2.cell 1).trans (rowF_at _ _ _ _ (by omega));go_simp;(try with_reducible rfl))
    try simp only [Rg.lp]
    refine Rg.stp_o 9 ?_
    refine Rg.stepF ?_ ?_
    · kernel_rfl
    intro K hK
    rw [if_pos (by rfl)]
    go_simp
    go_at_call 35
    refine(Mj.decide_any h (P 0) (P 1) V0).mono ?_
    rintro e V1 ⟨rfl,hb⟩
    have HL:=Lib.hid (HL.out.below hb HL.out.lt)
    have HBG:=Lib.hid (onward HBG.out (Nat.le_of_lt hll) hb)
    clear hb HS
    have HS:=trivial
    have fl:=HL.out.thaw j
    have xl: V1.cell? ⟨gl,j,none⟩=some (.int .i64 h):=by rw [HL.out.cell,rowF_at _ _ _ _ hlt,if_pos rfl]
    refine hK.out _ _ ?_
    clear hK K
    try simp only [Rg.lp]
    refine Rg.tp 10 ⟨some 51,.indexAddr 30 (.tmp 7) (.tmp 41),_,_,_,none⟩ (v:=?_) rfl ?_ ?_
    rotate_left 1
    · (intro w;go_simp;(try with_reducible rfl))
    try simp only [Rg.lp]
    refine Rg.stp_o 11 ?_
    refine Rg.stepF ?_ ?_
    · kernel_rfl
    intro K hK
    go_simp
    refine hK.out _ _ ?_
    clear hK K
    try simp only [Rg.lp]
    refine Rg.doneR (by kernel_rfl) ?_ _
    refine NoPanic.normal ?_
    go_wp2_with fail
    refine⟨⟨j+1,by omega,by go_num,?_,HBG.out.setCell (p:=⟨gl,j,none⟩) (Nat.le_refl _) _⟩,by simp [intOf];omega⟩
    rw [←rowF_set (f:=fun i=>if i=j then h else if i<j then LD i else 0) (j:=j) (v:=MajLaw.maj [h,P 0,P 1] 0) (fun i hi=>?_)]
    · exact HL.out.set _ _
    ·
     by_cases e:i=j
     · subst e;rw [if_pos (by omega),if_pos rfl,HLJ.out]
     ·
      rw [if_neg e,if_neg e]
      by_cases h1:i<j
      · rw [if_pos h1,if_pos (by omega)]
      · rw [if_neg h1,if_neg (by omega)]
  ·
   obtain rfl:j=4:=by omega
   clear hlt
   have G6:=Lib.hid (G6.out.below HBG.out (by omega))
   have G7:=Lib.hid (G7.out.below HBG.out (by omega))
   have HB:=Lib.hid (HB.out.trans (HBG.out.mono (by omega)))
   have HL:=Lib.hid HL.out.all
   have hwl:gl≤wr.heap.size:=Nat.le_of_lt HL.out.lt
   clear HS HOM HDJ HH HBG
   have iL:(Tryz.prog.info? 30).map (·.size)=some (rowF .i64 4 LD).size:=by rw [rowF_size];kernel_rfl
   obtain⟨VV,hVV⟩:∃x,Vt.val LD (inB f)=x:=⟨_,rfl⟩
   obtain⟨VS,hVS⟩:∃x,Vt.strong LD (inB f)=x:=⟨_,rfl⟩
   have HVE:=Lib.hid (And.intro hVV hVS)
   have cV:=fun w=>show Calls Tryz.prog 39 #[.agg (rowF .i64 4 LD),.agg (row 4 fun i=>.bool (inB f i))] w fun e w'=>∃A c,e=.returned (.agg (verC VV VS A 4 c))∧Rd w' w'.heap.size 1 A 4 (boolsV (agreeL LD (inB f)))∧Below w.heap.size w w'∧(∀a,A=some a→w.heap.size≤a.block)∧(A=none→c=0)∧4≤c from by rw [←hVV,←hVS];exact Vt.vote_any LD (inB f) HWF.out w
   clear hVV hVS
   have CV:=Lib.hid cV
   clear cV
   have HIB:=Lib.hid (in_load HF.out (.slice A2 bs.length c2))
   go_upto_region 15 with(first
    |(refine wpList_whole rfl 30 _ rfl gl rfl HL.out _ Tryz.underlying30 rfl iL ?_)
    |(refine wpList_mid rfl 29 _ rfl w.heap.size 27 4 rfl G3.out (by omega) _ Tryz.underlying29 rfl (by kernel_rfl) ?_;rw [HIB.out])
    |(go_at_call 39;refine(CV.out _).mono ?_;rintro e wv ⟨AV,cv,rfl,hvr,hb,hlo,hvn,hvc⟩;have G3:=Lib.hid (G3.out.below hb G3.out.lt);have G6:=Lib.hid (G6.out.below hb G6.out.lt);have G7:=Lib.hid (G7.out.below hb G7.out.lt);have HB:=Lib.hid (onward HB.out (Nat.le_refl _) hb);have HVR:=Lib.hid hvr;have HVL:=Lib.hid (fun a (h:AV=some a)=>Nat.le_trans hwl (hlo a h));have HVC:=Lib.hid (And.intro hvn hvc);clear hvr hb hlo hvn hvc)
    |(refine wpList_put rfl 37 _ _ rfl w.heap.size 71 3 (fun i=>if i=0 then .int .i64 VV else if i=1 then .bool VS else .slice AV 4 cv) rfl rfl G3.out (by omega) (by kernel_rfl) (fun i hi=>ver_one VV VS AV 4 cv i) ?_))
   have G3:=Lib.hid (blk_mid G3.out 71 3 (fun i=>if i=0 then .int .i64 VV else if i=1 then .bool VS else .slice AV 4 cv))
   rw [vote_row]at G3
   have G6:=Lib.hid (blk_mid_other (w:=wv) (b':=w.heap.size) (by omega) (row 3 (fun i=>if i=0 then .int .i64 VV else if i=1 then .bool VS else .slice AV 4 cv)).toList 71 _ G6.out)
   have G7:=Lib.hid (blk_mid_other (w:=wv) (b':=w.heap.size) (by omega) (row 3 (fun i=>if i=0 then .int .i64 VV else if i=1 then .bool VS else .slice AV 4 cv)).toList 71 _ G7.out)
   have HB:=Lib.hid (below_setCells (Nat.le_refl _) (row 3 (fun i=>if i=0 then .int .i64 VV else if i=1 then .bool VS else .slice AV 4 cv)).toList 71 HB.out)
   have HVR:=Lib.hid ((Rd.setCells_lo HVL.out (show w.heap.size<gl by omega) (row 3 (fun i=>if i=0 then .int .i64 VV else if i=1 then .bool VS else .slice AV 4 cv)).toList 71 HVR.out).more (below_setCells (B:=0) (Nat.zero_le w.heap.size) (row 3 (fun i=>if i=0 then .int .i64 VV else if i=1 then .bool VS else .slice AV 4 cv)).toList 71 (Below.refl 0 wv)).size)
   generalize(wv.setCells w.heap.size 71 (row 3 (fun i=>if i=0 then .int .i64 VV else if i=1 then .bool VS else .slice AV 4 cv)).toList)=wx at*
   have HRL:=Lib.hid (roll_load HF.out VV VS (.slice AV 4 cv))
   have HVE2:=Lib.hid (show judgeR LD f=stepR (rollOf f) VS (agreeL LD (inB f))by unfold judgeR;rw [HVE.out.2])
   have HJF:=Lib.hid (show judgeF LD f=if(judgeR LD f).2.2=0 then rollW (voteF f VV VS) (judgeR LD f).1 else voteF f VV VS by unfold judgeF;rw [HVE.out.1,HVE.out.2])
   have cS:=fun w (h:Rd w w.heap.size 1 AV 4 (boolsV (agreeL LD (inB f))))=>show Calls Tryz.prog 40 #[.agg (rollOf f).row,.agg (verC VV VS AV 4 cv)] w fun e w'=>StepAs w w' (judgeR LD f) e from by rw [HVE2.out];exact step_any (rollOf f) VV VS AV cv (agreeL LD (inB f)) w.heap.size w (Nat.le_refl _) (show(4:Nat)≤140737488351232 by omega) h
   have CS:=Lib.hid cS
   clear cS HVE2 CV HL
   obtain⟨JR,hJR⟩:∃r,judgeR LD f=r:=⟨_,rfl⟩
   rw [hJR]at HJF CS
   clear hJR
   obtain⟨⟨r,chs,E⟩,rfl⟩:∃x,JR=x:=⟨_,rfl⟩
   dsimp only at HJF
   have ir:(Tryz.prog.info? 32).map (·.size)=some r.row.size:=by unfold RS.row;rw [row_size];kernel_rfl
   have zr:(#[.bool false,.bool false,.bool false,.bool false,.int .i64 0,.int .i64 0,.int .i64 0,.int .i64 0,.int .i64 0,.int .i64 0,.int .i64 0,.int .i64 0]:Array Value).size=r.row.size:=by unfold RS.row;rw [row_size];rfl
   have or_:r.row.all (·.oneCell')=true:=row_one fun i hi=>rollF_one _ _ _ _
   go_wp2_with(first
    |(refine wpList_mid rfl 32 _ rfl w.heap.size 27 12 rfl G3.out (by omega) _ Tryz.underlying32 rfl (by kernel_rfl) ?_;rw [HRL.out])
    |(refine wpList_mid rfl 37 _ rfl w.heap.size 71 3 rfl G3.out (by omega) _ Tryz.underlying37 rfl (by kernel_rfl) ?_;rw [ver_load]))
   refine(CS.out _ HVR.out).mono ?_
   rintro e wy ⟨AC,cc,rfl,hcr,hb,hcn⟩
   dsimp only
   have G3:=Lib.hid (G3.out.below hb G3.out.lt)
   have G6:=Lib.hid (G6.out.below hb G6.out.lt)
   have G7:=Lib.hid (G7.out.below hb G7.out.lt)
   have HB:=Lib.hid (onward HB.out (Nat.le_refl _) hb)
   have HVR:=Lib.hid ((HVR.out.below hb).more hb.size)
   have HZ0:=Lib.hid (Blk.fresh wy 32 #[.bool false,.bool false,.bool false,.bool false,.int .i64 0,.int .i64 0,.int .i64 0,.int .i64 0,.int .i64 0,.int .i64 0,.int .i64 0,.int .i64 0])
   clear hcr hb hcn CS
   go_upto_region 16 with(refine wpList_store_row rfl 32 _ _ rfl wy.heap.size r.row rfl rfl 32 _ HZ0.out ir zr or_ ?_)
   have hb8:Below wy.heap.size wy ((wy.alloc (.cells #[.bool false,.bool false,.bool false,.bool false,.int .i64 0,.int .i64 0,.int .i64 0,.int .i64 0,.int .i64 0,.int .i64 0,.int .i64 0,.int .i64 0] 32)).setRow wy.heap.size r.row):=below_setRow ((Below.refl _ _).alloc (Nat.le_refl _) _) (Nat.le_refl _) _
   have HZR:=Lib.hid (HZ0.out.setRow r.row)
   have G3:=Lib.hid (G3.out.below hb8 G3.out.lt)
   have G6:=Lib.hid (G6.out.below hb8 G6.out.lt)
   have G7:=Lib.hid (G7.out.below hb8 G7.out.lt)
   have HB:=Lib.hid (onward HB.out (Nat.le_refl _) hb8)
   have HVR:=Lib.hid ((HVR.out.below hb8).more hb8.size)
   clear hb8 HZ0
   generalize((wy.alloc (.cells #[.bool false,.bool false,.bool false,.bool false,.int .i64 0,.int .i64 0,.int .i64 0,.int .i64 0,.int .i64 0,.int .i64 0,.int .i64 0,.int .i64 0] 32)).setRow wy.heap.size r.row)=wz at*
   obtain⟨gz,hgz⟩:∃g,wy.heap.size=g:=⟨_,rfl⟩
   rw [hgz]at HZR ⊢
   clear hgz
   by_cases hE:E=0
   ·
    subst hE
    have HJF:=Lib.hid (show judgeF LD f=rollW (voteF f VV VS) r from HJF.out.trans (if_pos rfl))
    have HRW:=Lib.hid (show r.row=row 12 (rollF r.f r.m r.j)from rfl)
    go_upto_region 18 with(first
     |(refine wpList_whole rfl 32 _ rfl gz rfl HZR.out _ Tryz.underlying32 rfl ir ?_)
     |(refine wpList_put rfl 32 _ _ rfl w.heap.size 27 12 (rollF r.f r.m r.j) rfl rfl G3.out (by omega) (by kernel_rfl) (fun i hi=>rollF_one _ _ _ _) ?_))
    have G3:=Lib.hid (blk_mid G3.out 27 12 (rollF r.f r.m r.j))
    rw [roll_store,←HJF.out]at G3
    have G6:=Lib.hid (blk_mid_other (w:=wz) (b':=w.heap.size) (by omega) (row 12 (rollF r.f r.m r.j)).toList 27 _ G6.out)
    have G7:=Lib.hid (blk_mid_other (w:=wz) (b':=w.heap.size) (by omega) (row 12 (rollF r.f r.m r.j)).toList 27 _ G7.out)
    have HB:=Lib.hid (below_setCells (Nat.le_refl _) (row 12 (rollF r.f r.m r.j)).toList 27 HB.out)
    have HVR:=Lib.hid ((Rd.setCells_lo HVL.out (show w.heap.size<gl by omega) (row 12 (rollF r.f r.m r.j)).toList 27 HVR.out).more (below_setCells (B:=0) (Nat.zero_le w.heap.size) (row 12 (rollF r.f r.m r.j)).toList 27 (Below.refl 0 wz)).size)
    generalize(wz.setCells w.heap.size 27 (row 12 (rollF r.f r.m r.j)).toList)=wz at*
    obtain⟨F,hF⟩:∃F,judgeF LD f=F:=⟨_,rfl⟩
    have HFE:=Lib.hid hF
    have HOK:=Lib.hid (show ∀i,i<73→okT (nodeT i) (F i)from by rw [←hF];exact ok_judge HF.out LD)
    have hF0:F 0=.int .i64 (k:Int):=by rw [←hF];exact(judge_low LD f 0 (by omega)).trans HID.out
    have hF1:F 1=.int .i64 fr:=by rw [←hF];exact(judge_low LD f 1 (by omega)).trans HFR.out
    rw [hF]at G3
    clear hF
    have o5:=one_of HOK.out (A:=AV) (n:=4) (c:=cv)
    have i5:(Tryz.prog.info? 39).map (·.size)=some (row 74 (nodeW F (.slice AV 4 cv))).size:=by rw [row_size];kernel_rfl
    have z5:(Tryz.zeroCells39).size=(row 74 (nodeW F (.slice AV 4 cv))).size:=by rw [row_size];kernel_rfl
    have j0:(row 74 (nodeW F (.slice AV 4 cv)))[0]?=some (.int .i64 (k:Int)):=by rw [row_at (by omega)];exact congrArg some hF0
    have j1:(row 74 (nodeW F (.slice AV 4 cv)))[1]?=some (.int .i64 fr):=by rw [row_at (by omega)];exact congrArg some hF1
    obtain⟨R5,hR5⟩:∃R5,row 74 (nodeW F (.slice AV 4 cv))=R5:=⟨_,rfl⟩
    rw [hR5]at o5 i5 z5 j0 j1 G3
    have HR5:=Lib.hid hR5
    clear hR5 hF0 hF1
    go_upto_region 18 with fail
    have G3:=Lib.hid G3.out.drew
    have G6:=Lib.hid G6.out.drew
    have G7:=Lib.hid G7.out.drew
    have HVR:=Lib.hid (show Rd wz.drew wz.drew.heap.size 1 AV 4 (boolsV (agreeL LD (inB f)))from HVR.out.drew)
    have HB:=Lib.hid HB.out.drew
    have HS:=G3.out
    refine wp_region_noPanic ?_
    refine Rg.beginR [0,1,2] (fun w'=>Blk w' w.heap.size 39 R5) (by kernel_rfl) ?_
    generalize wz.drew=V0 at*
    refine Rg.stp_s 0 (.agg R5) HS (hy:=?_) (h:=?_)
    · (intro w' hSw;exact exec_load_row 39 _ rfl _ rfl hSw Tryz.underlying39 rfl i5)
    try simp only [Rg.lp]
    refine Rg.stp_s 1 (.agg R5) HS (hy:=?_) (h:=?_)
    · (intro w' hSw;exact exec_load_row 39 _ rfl _ rfl hSw Tryz.underlying39 rfl i5)
    try simp only [Rg.lp]
    refine Rg.stp_s 2 (.agg R5) HS (hy:=?_) (h:=?_)
    · (intro w' hSw;exact exec_load_row 39 _ rfl _ rfl hSw Tryz.underlying39 rfl i5)
    try simp only [Rg.lp]
    refine Rg.stp_o 3 ?_
    refine Rg.stepS ?_
    intro K hK
    rw [if_pos (by rfl)]
    go_simp
    go_at_call 41
    rw [←HR5.out]
    refine(pack_any F HOK.out (.slice AV 4 cv) V0).mono ?_
    rintro e V1 ⟨AP,cp,rfl,hpo,hb⟩
    rw [HR5.out]
    have hv0:=G6.out.lt
    have hv7:=G7.out.lt
    have HP:=Lib.hid hpo
    have G3:=Lib.hid (G3.out.below hb G3.out.lt)
    have G6:=Lib.hid (G6.out.below hb G6.out.lt)
    have G7:=Lib.hid (G7.out.below hb G7.out.lt)
    have HVR:=Lib.hid ((HVR.out.below hb).more hb.size)
    have HB:=Lib.hid (onward HB.out (Nat.le_refl _) hb)
    clear hb hpo HS
    have HS:=G3.out
    obtain⟨gp,hgp⟩:∃g,V0.heap.size=g:=⟨_,rfl⟩
    rw [hgp]at HP hv0 hv7
    clear hgp
    refine hK.out _ _ HS ?_
    clear hK K
    try simp only [Rg.lp]
    refine Rg.stp_o 4 ?_
    refine Rg.stepS ?_
    intro K hK
    rw [if_pos (by rfl)]
    go_simp
    go_at_call 32
    refine(say_any R5 (k:Int) fr 5 AP 24 cp j0 j1 V1).mono ?_
    rintro e V2 ⟨rfl,hb⟩
    have G3:=Lib.hid (G3.out.below hb G3.out.lt)
    have G6:=Lib.hid (G6.out.below hb G6.out.lt)
    have G7:=Lib.hid (G7.out.below hb G7.out.lt)
    have HVR:=Lib.hid ((HVR.out.below hb).more hb.size)
    have HP:=Lib.hid (ownsRow_below HP.out hb)
    have HB:=Lib.hid (onward HB.out (Nat.le_refl _) hb)
    clear hb HS
    have HS:=G3.out
    go_wp2_with fail
    refine hK.out _ _ HS ?_
    clear hK K
    try simp only [Rg.lp]
    refine Rg.stp_o 5 ?_
    refine Rg.stepF ?_ ?_
    · kernel_rfl
    intro K hK
    rw [if_pos (by rfl)]
    refine wp_store_row 39 _ _ rfl (w.heap.size+1) R5 rfl rfl 39 _ G6.out i5 z5 o5 ?_
    have G3:=Lib.hid (G3.out.setRow_other (g':=w.heap.size+1) (by omega) R5)
    have G7:=Lib.hid (G7.out.setRow_other (g':=w.heap.size+1) (by omega) R5)
    have G6:=Lib.hid (G6.out.setRow R5)
    have HB:=Lib.hid (below_setRow HB.out (show w.heap.size≤w.heap.size+1 by omega) R5)
    have HVR:=Lib.hid ((HVR.out.setRow_lo HVL.out (show w.heap.size+1<gl by omega) R5).more (below_setRow (Below.refl 0 V2) (Nat.zero_le (w.heap.size+1)) R5).size)
    have HP:=Lib.hid (own_setRow HP.out (show w.heap.size+1<gp by omega) R5)
    generalize(V2.setRow (w.heap.size+1) R5)=V3 at*
    refine hK.out _ _ ?_
    clear hK K
    try simp only [Rg.lp]
    refine Rg.stp_o 6 ?_
    refine Rg.stepF ?_ ?_
    · kernel_rfl
    intro K hK
    rw [if_pos (by rfl)]
    refine wp_store_row 72 _ _ rfl (w.heap.size+1+1) (Ms.msgC 5 (k:Int) fr AP 24 cp) rfl rfl 72 _ G7.out (by kernel_rfl) rfl (by simp [Ms.msgC,Value.oneCell']) ?_
    have G6:=Lib.hid (G6.out.setRow_other (g':=w.heap.size+1+1) (by omega) (Ms.msgC 5 (k:Int) fr AP 24 cp))
    have G7:=Lib.hid (G7.out.setRow (Ms.msgC 5 (k:Int) fr AP 24 cp))
    have HB:=Lib.hid (below_setRow HB.out (show w.heap.size≤w.heap.size+1+1 by omega) (Ms.msgC 5 (k:Int) fr AP 24 cp))
    have HVR:=Lib.hid ((HVR.out.setRow_lo HVL.out (show w.heap.size+1+1<gl by omega) (Ms.msgC 5 (k:Int) fr AP 24 cp)).more (below_setRow (Below.refl 0 V3) (Nat.zero_le (w.heap.size+1+1)) (Ms.msgC 5 (k:Int) fr AP 24 cp)).size)
    have HP:=Lib.hid (own_setRow HP.out (show w.heap.size+1+1<gp by omega) (Ms.msgC 5 (k:Int) fr AP 24 cp))
    generalize(V3.setRow (w.heap.size+1+1) (Ms.msgC 5 (k:Int) fr AP 24 cp))=V4 at*
    refine hK.out _ _ ?_
    clear hK K
    try simp only [Rg.lp]
    refine Rg.doneR (by kernel_rfl) ?_ _
    refine NoPanic.normal ?_
    clear HS
    go_wp2_with fail
    have hi4:(Tryz.prog.info? 72).map (·.size)=some (Ms.msgC 5 (k:Int) fr AP 24 cp).size:=by kernel_rfl
    exact ret_rows2 rfl rfl rfl G6.out ⟨by rw [Tryz.underlying39],i5⟩ G7.out ⟨by rw [Tryz.underlying72],hi4⟩ rfl (by rw [HLD.out];exact⟨AV,cv,AP,cp,by rw [HFE.out,packZ_len,←HR5.out];rfl,HVR.out,by rw [HFE.out,packZ_len];exact Rd.of_own HP.out,HB.out,fun a h=>Nat.le_trans (by omega) (HVL.out a h),fun a h=>Nat.le_trans (by omega) (own_lo HP.out a h),HVC.out⟩)
   ·
    have hE':(E==0)=false:=by simpa using hE
    have HJF:=Lib.hid (show judgeF LD f=voteF f VV VS from HJF.out.trans (if_neg hE))
    rw [←HJF.out]at G3
    clear hE
    obtain⟨F,hF⟩:∃F,judgeF LD f=F:=⟨_,rfl⟩
    have HFE:=Lib.hid hF
    have HOK:=Lib.hid (show ∀i,i<73→okT (nodeT i) (F i)from by rw [←hF];exact ok_judge HF.out LD)
    have hF0:F 0=.int .i64 (k:Int):=by rw [←hF];exact(judge_low LD f 0 (by omega)).trans HID.out
    have hF1:F 1=.int .i64 fr:=by rw [←hF];exact(judge_low LD f 1 (by omega)).trans HFR.out
    rw [hF]at G3
    clear hF
    have o5:=one_of HOK.out (A:=AV) (n:=4) (c:=cv)
    have i5:(Tryz.prog.info? 39).map (·.size)=some (row 74 (nodeW F (.slice AV 4 cv))).size:=by rw [row_size];kernel_rfl
    have z5:(Tryz.zeroCells39).size=(row 74 (nodeW F (.slice AV 4 cv))).size:=by rw [row_size];kernel_rfl
    have j0:(row 74 (nodeW F (.slice AV 4 cv)))[0]?=some (.int .i64 (k:Int)):=by rw [row_at (by omega)];exact congrArg some hF0
    have j1:(row 74 (nodeW F (.slice AV 4 cv)))[1]?=some (.int .i64 fr):=by rw [row_at (by omega)];exact congrArg some hF1
    obtain⟨R5,hR5⟩:∃R5,row 74 (nodeW F (.slice AV 4 cv))=R5:=⟨_,rfl⟩
    rw [hR5]at o5 i5 z5 j0 j1 G3
    have HR5:=Lib.hid hR5
    clear hR5 hF0 hF1
    go_upto_region 18 with fail
    have G3:=Lib.hid G3.out.drew
    have G6:=Lib.hid G6.out.drew
    have G7:=Lib.hid G7.out.drew
    have HVR:=Lib.hid (show Rd wz.drew wz.drew.heap.size 1 AV 4 (boolsV (agreeL LD (inB f)))from HVR.out.drew)
    have HB:=Lib.hid HB.out.drew
    have HS:=G3.out
    refine wp_region_noPanic ?_
    refine Rg.beginR [0,1,2] (fun w'=>Blk w' w.heap.size 39 R5) (by kernel_rfl) ?_
    generalize wz.drew=V0 at*
    refine Rg.stp_s 0 (.agg R5) HS (hy:=?_) (h:=?_)
    · (intro w' hSw;exact exec_load_row 39 _ rfl _ rfl hSw Tryz.underlying39 rfl i5)
    try simp only [Rg.lp]
    refine Rg.stp_s 1 (.agg R5) HS (hy:=?_) (h:=?_)
    · (intro w' hSw;exact exec_load_row 39 _ rfl _ rfl hSw Tryz.underlying39 rfl i5)
    try simp only [Rg.lp]
    refine Rg.stp_s 2 (.agg R5) HS (hy:=?_) (h:=?_)
    · (intro w' hSw;exact exec_load_row 39 _ rfl _ rfl hSw Tryz.underlying39 rfl i5)
    try simp only [Rg.lp]
    refine Rg.stp_o 3 ?_
    refine Rg.stepS ?_
    intro K hK
    rw [if_pos (by rfl)]
    go_simp
    go_at_call 41
    rw [←HR5.out]
    refine(pack_any F HOK.out (.slice AV 4 cv) V0).mono ?_
    rintro e V1 ⟨AP,cp,rfl,hpo,hb⟩
    rw [HR5.out]
    have hv0:=G6.out.lt
    have hv7:=G7.out.lt
    have HP:=Lib.hid hpo
    have G3:=Lib.hid (G3.out.below hb G3.out.lt)
    have G6:=Lib.hid (G6.out.below hb G6.out.lt)
    have G7:=Lib.hid (G7.out.below hb G7.out.lt)
    have HVR:=Lib.hid ((HVR.out.below hb).more hb.size)
    have HB:=Lib.hid (onward HB.out (Nat.le_refl _) hb)
    clear hb hpo HS
    have HS:=G3.out
    obtain⟨gp,hgp⟩:∃g,V0.heap.size=g:=⟨_,rfl⟩
    rw [hgp]at HP hv0 hv7
    clear hgp
    refine hK.out _ _ HS ?_
    clear hK K
    try simp only [Rg.lp]
    refine Rg.stp_o 4 ?_
    refine Rg.stepS ?_
    intro K hK
    rw [if_pos (by rfl)]
    go_simp
    go_at_call 32
    refine(say_any R5 (k:Int) fr 5 AP 24 cp j0 j1 V1).mono ?_
    rintro e V2 ⟨rfl,hb⟩
    have G3:=Lib.hid (G3.out.below hb G3.out.lt)
    have G6:=Lib.hid (G6.out.below hb G6.out.lt)
    have G7:=Lib.hid (G7.out.below hb G7.out.lt)
    have HVR:=Lib.hid ((HVR.out.below hb).more hb.size)
    have HP:=Lib.hid (ownsRow_below HP.out hb)
    have HB:=Lib.hid (onward HB.out (Nat.le_refl _) hb)
    clear hb HS
    have HS:=G3.out
    go_wp2_with fail
    refine hK.out _ _ HS ?_
    clear hK K
    try simp only [Rg.lp]
    refine Rg.stp_o 5 ?_
    refine Rg.stepF ?_ ?_
    · kernel_rfl
    intro K hK
    rw [if_pos (by rfl)]
    refine wp_store_row 39 _ _ rfl (w.heap.size+1) R5 rfl rfl 39 _ G6.out i5 z5 o5 ?_
    have G3:=Lib.hid (G3.out.setRow_other (g':=w.heap.size+1) (by omega) R5)
    have G7:=Lib.hid (G7.out.setRow_other (g':=w.heap.size+1) (by omega) R5)
    have G6:=Lib.hid (G6.out.setRow R5)
    have HB:=Lib.hid (below_setRow HB.out (show w.heap.size≤w.heap.size+1 by omega) R5)
    have HVR:=Lib.hid ((HVR.out.setRow_lo HVL.out (show w.heap.size+1<gl by omega) R5).more (below_setRow (Below.refl 0 V2) (Nat.zero_le (w.heap.size+1)) R5).size)
    have HP:=Lib.hid (own_setRow HP.out (show w.heap.size+1<gp by omega) R5)
    generalize(V2.setRow (w.heap.size+1) R5)=V3 at*
    refine hK.out _ _ ?_
    clear hK K
    try simp only [Rg.lp]
    refine Rg.stp_o 6 ?_
    refine Rg.stepF ?_ ?_
    · kernel_rfl
    intro K hK
    rw [if_pos (by rfl)]
    refine wp_store_row 72 _ _ rfl (w.heap.size+1+1) (Ms.msgC 5 (k:Int) fr AP 24 cp) rfl rfl 72 _ G7.out (by kernel_rfl) rfl (by simp [Ms.msgC,Value.oneCell']) ?_
    have G6:=Lib.hid (G6.out.setRow_other (g':=w.heap.size+1+1) (by omega) (Ms.msgC 5 (k:Int) fr AP 24 cp))
    have G7:=Lib.hid (G7.out.setRow (Ms.msgC 5 (k:Int) fr AP 24 cp))
    have HB:=Lib.hid (below_setRow HB.out (show w.heap.size≤w.heap.size+1+1 by omega) (Ms.msgC 5 (k:Int) fr AP 24 cp))
    have HVR:=Lib.hid ((HVR.out.setRow_lo HVL.out (show w.heap.size+1+1<gl by omega) (Ms.msgC 5 (k:Int) fr AP 24 cp)).more (below_setRow (Below.refl 0 V3) (Nat.zero_le (w.heap.size+1+1)) (Ms.msgC 5 (k:Int) fr AP 24 cp)).size)
    have HP:=Lib.hid (own_setRow HP.out (show w.heap.size+1+1<gp by omega) (Ms.msgC 5 (k:Int) fr AP 24 cp))
    generalize(V3.setRow (w.heap.size+1+1) (Ms.msgC 5 (k:Int) fr AP 24 cp))=V4 at*
    refine hK.out _ _ ?_
    clear hK K
    try simp only [Rg.lp]
    refine Rg.doneR (by kernel_rfl) ?_ _
    refine NoPanic.normal ?_
    clear HS
    go_wp2_with fail
    have hi4:(Tryz.prog.info? 72).map (·.size)=some (Ms.msgC 5 (k:Int) fr AP 24 cp).size:=by kernel_rfl
    exact ret_rows2 rfl rfl rfl G6.out ⟨by rw [Tryz.underlying39],i5⟩ G7.out ⟨by rw [Tryz.underlying72],hi4⟩ rfl (by rw [HLD.out];exact⟨AV,cv,AP,cp,by rw [HFE.out,packZ_len,←HR5.out];rfl,HVR.out,by rw [HFE.out,packZ_len];exact Rd.of_own HP.out,HB.out,fun a h=>Nat.le_trans (by omega) (HVL.out a h),fun a h=>Nat.le_trans (by omega) (own_lo HP.out a h),HVC.out⟩)
end Nd
end Go.Proofs.YtljpoibnkkcjdaaGreatDoor
