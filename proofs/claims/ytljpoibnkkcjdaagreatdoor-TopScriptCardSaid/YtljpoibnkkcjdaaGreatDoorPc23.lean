import Derived.Test.YtljpoibnkkcjdaaGreatDoorPc22
set_option linter.unusedVariables false
set_option linter.unusedSimpArgs false
namespace Go.Proofs.YtljpoibnkkcjdaaGreatDoor
namespace Nd
open Go.RowKit Mem Rws Flat
set_option maxRecDepth 100000 in
set_option maxHeartbeats 4000000 in
theorem close_any (f:Nat→Value) (hf:∀i,i<73→okT (nodeT i) (f i)) (k:Nat) (hk:k<4) (hid:f 0=.int .i64 (k:Int)) (fr:Int) (hfr:f 1=.int .i64 fr) (A:Option Addr) (c:Nat) (bs:List Bool) (AI:Option Addr) (ci:Nat) (ms:List Ms.Msg) (B:Nat) (w:World) (hB:B≤w.heap.size) (hA:A=none→c=0) (hnc:bs.length≤c) (hl:bs.length≤140737488351232) (hr:Rd w B 1 A bs.length (boolsV bs)) (hml:ms.length≤140737488355328) (hm:Ms.MsgsAt w B AI ms):
  Calls Tryz.prog 20 #[.agg (row 74 (nodeW f (.slice A bs.length c))),.slice AI ms.length ci] w fun e w'=>NodeRep w w' (closeF (fun i:Nat=>Ms.firstOf (k:Int) fr 5 24 (i:Int) ms) f) bs (row 14 (repF (closeF (fun i:Nat=>Ms.firstOf (k:Int) fr 5 24 (i:Int) ms) f))) e:=by
 have hone:∀(A:Option Addr) (n c:Nat),(row 74 (nodeW f (.slice A n c))).all (·.oneCell')=true:=fun A n c=>one_of hf
 have HO:=Lib.hid hone
 have HF:=Lib.hid hf
 have HID:=Lib.hid hid
 have HFR:=Lib.hid hfr
 clear hf hone hid hfr
 go_enter Tryz.func20,Tryz.ntmps20
 go_upto_region 1 with fail
 have D3:Hid (Blk (((w.alloc (.cells (row 74 (nodeW f (.slice A bs.length c))) 39)).alloc (.cells Tryz.zeroCells39 39)).alloc (.cells #[.int .i64 0,.int .i64 0,.int .i64 0,.int .i64 0,.int .i64 0,.int .i64 0,.int .i64 0,.int .i64 0,.int .i64 0,.bool false,.bool false,.bool false,.bool false,.bool false] 56)) w.heap.size 39 (row 74 (nodeW f (.slice A bs.length c)))):=Lib.hid (((Blk.new rfl).alloc _).alloc _)
 have D6:Hid (Blk (((w.alloc (.cells (row 74 (nodeW f (.slice A bs.length c))) 39)).alloc (.cells Tryz.zeroCells39 39)).alloc (.cells #[.int .i64 0,.int .i64 0,.int .i64 0,.int .i64 0,.int .i64 0,.int .i64 0,.int .i64 0,.int .i64 0,.int .i64 0,.bool false,.bool false,.bool false,.bool false,.bool false] 56)) (w.heap.size+1) 39 Tryz.zeroCells39):=Lib.hid ((Blk.new (by simp)).alloc _)
 have D7:Hid (Blk (((w.alloc (.cells (row 74 (nodeW f (.slice A bs.length c))) 39)).alloc (.cells Tryz.zeroCells39 39)).alloc (.cells #[.int .i64 0,.int .i64 0,.int .i64 0,.int .i64 0,.int .i64 0,.int .i64 0,.int .i64 0,.int .i64 0,.int .i64 0,.bool false,.bool false,.bool false,.bool false,.bool false] 56)) (w.heap.size+1+1) 56 #[.int .i64 0,.int .i64 0,.int .i64 0,.int .i64 0,.int .i64 0,.int .i64 0,.int .i64 0,.int .i64 0,.int .i64 0,.bool false,.bool false,.bool false,.bool false,.bool false]):=Lib.hid (Blk.new (by simp))
 have HB:=Lib.hid (((((Below.refl w.heap.size w).alloc (Nat.le_refl _) (.cells (row 74 (nodeW f (.slice A bs.length c))) 39)).alloc (by simp) (.cells Tryz.zeroCells39 39)).alloc (by simp;omega) (.cells #[.int .i64 0,.int .i64 0,.int .i64 0,.int .i64 0,.int .i64 0,.int .i64 0,.int .i64 0,.int .i64 0,.int .i64 0,.bool false,.bool false,.bool false,.bool false,.bool false] 56)))
 have HR:=Lib.hid hr
 have HMS:=Lib.hid hm
 clear hr hm
 generalize(((w.alloc (.cells (row 74 (nodeW f (.slice A bs.length c))) 39)).alloc (.cells Tryz.zeroCells39 39)).alloc (.cells #[.int .i64 0,.int .i64 0,.int .i64 0,.int .i64 0,.int .i64 0,.int .i64 0,.int .i64 0,.int .i64 0,.int .i64 0,.bool false,.bool false,.bool false,.bool false,.bool false] 56))=W at*
 have hi74:∀A (n:Nat) c,(Tryz.prog.info? 39).map (·.size)=some (row 74 (nodeW f (.slice A n c))).size:=fun A n c=>by rw [row_size];kernel_rfl
 have HI:=Lib.hid hi74
 clear hi74
 have hwz:w.heap.size+1+1<W.heap.size:=D7.out.lt
 have hia:=HI.out A bs.length c
 obtain⟨R1,hR1⟩:∃R1,row 74 (nodeW f (.slice A bs.length c))=R1:=⟨_,rfl⟩
 have HR1:=Lib.hid hR1
 rw [hR1]at D3 hia
 clear hR1
 go_wp2_with(refine wpList_whole rfl 39 _ rfl w.heap.size rfl D3.out _ Tryz.underlying39 rfl hia ?_)
 rw [←HR1.out]
 refine(copied_any f HF.out A c bs B _ (Nat.le_trans hB HB.out.size) hA hnc hl (HR.out.below (HB.out.mono hB))).mono ?_
 rintro e w1 ⟨A2,c2,rfl,hown,hb1⟩
 rw [HR1.out]
 have HW1:=Lib.hid hown
 have HB1:=Lib.hid (onward HB.out (Nat.le_refl _) hb1)
 have hsz:=hb1.size
 have hi2:=HI.out A2 bs.length c2
 have h12:=HO.out A2 bs.length c2
 have h20:(row 74 (nodeW f (.slice A2 bs.length c2)))[0]?=some (.int .i64 (k:Int)):=by rw [row_at (by omega)];exact congrArg some HID.out
 have h21:(row 74 (nodeW f (.slice A2 bs.length c2)))[1]?=some (.int .i64 fr):=by rw [row_at (by omega)];exact congrArg some HFR.out
 have hs2:R1.size=(row 74 (nodeW f (.slice A2 bs.length c2))).size:=by rw [←HR1.out,row_size,row_size]
 obtain⟨R2,hR2⟩:∃R2,row 74 (nodeW f (.slice A2 bs.length c2))=R2:=⟨_,rfl⟩
 have HR2:=Lib.hid hR2
 rw [hR2]at hi2 h12 h20 h21 hs2 ⊢
 clear hR2
 have E3:=Lib.hid (D3.out.below hb1 D3.out.lt)
 have F3:=Lib.hid (E3.out.setRow R2)
 have F6:=Lib.hid ((D6.out.below hb1 D6.out.lt).setRow_other (g':=w.heap.size) (by omega) R2)
 have F7:=Lib.hid ((D7.out.below hb1 D7.out.lt).setRow_other (g':=w.heap.size) (by omega) R2)
 have HB2:=Lib.hid (below_setRow HB1.out (Nat.le_refl _) R2)
 have HW2:=Lib.hid (own_setRow HW1.out (show w.heap.size<W.heap.size by omega) R2)
 have cT:=fun w=>strange_any R2 (k:Int) h20 w
 have hk0:¬((k:Int)<0):=by omega
 have hbk:badId (k:Int)=false:=by unfold badId;simp;omega
 rw [hbk]at cT
 clear hb1 hown hbk
 go_upto_region 4 with(first
  |(refine wpList_store_row rfl 39 _ _ rfl w.heap.size R2 rfl rfl 39 _ E3.out hi2 hs2 h12 ?_)
  |(refine wpList_whole rfl 39 _ rfl w.heap.size rfl F3.out _ Tryz.underlying39 rfl hi2 ?_)
  |(go_at_call 31;refine(cT _).mono ?_;rintro e w3 ⟨rfl,hb3⟩;have G3:=Lib.hid (F3.out.below hb3 F3.out.lt);have G6:=Lib.hid (F6.out.below hb3 F6.out.lt);have G7:=Lib.hid (F7.out.below hb3 F7.out.lt);have HB3:=Lib.hid (onward HB2.out (Nat.le_refl _) hb3);have HW3:=Lib.hid (ownsRow_below HW2.out hb3);have hz3:=Nat.le_trans hsz (Nat.le_trans (show w1.heap.size≤(w1.setRow w.heap.size R2).heap.size from(below_setRow (Below.refl 0 w1) (Nat.zero_le _) R2).size) hb3.size);clear hb3))
 clear HB HB1 HB2 HW1 HW2 D3 D6 D7 E3 F3 F6 F7 cT hs2
 have cH:=Ms.hear_any R2 (k:Int) fr h20 h21 AI ci ms 5 24 (by omega) B w3 (Nat.le_trans hB HB3.out.size) hml (HMS.out.below (HB3.out.mono hB))
 rw [show((24:Nat):Int)=24 from rfl]at cH
 have CH:=Lib.hid cH
 clear cH
 go_wp2_with(refine wpList_whole rfl 39 _ rfl w.heap.size rfl G3.out _ Tryz.underlying39 rfl hi2 ?_)
 refine CH.out.mono ?_
 rintro e w4 ⟨s,rfl,hs,hb⟩
 have G3:=Lib.hid (G3.out.below hb G3.out.lt)
 have G6:=Lib.hid (G6.out.below hb G6.out.lt)
 have G7:=Lib.hid (G7.out.below hb G7.out.lt)
 have HW:=Lib.hid (ownsRow_below HW3.out hb)
 have HB:=Lib.hid (onward HB3.out (Nat.le_refl _) hb)
 have HS0:=Lib.hid (fun i hi=>HeardC.of (hs i hi))
 have HX4:=Lib.hid (G7.out.lt)
 have o4:(row 4 s).all (·.oneCell')=true:=row_one fun i hi=>(hs i hi).one
 have i4:(Tryz.prog.info? 98).map (·.size)=some (row 4 s).size:=by rw [row_size];kernel_rfl
 have z4:(#[.slice none 0 0,.slice none 0 0,.slice none 0 0,.slice none 0 0]:Array Value).size=(row 4 s).size:=by rw [row_size];rfl
 rw [←HR2.out]at G3
 clear hs hb HW3 HB3 CH h12 hi2 HR h20 h21
 obtain⟨R4,hR4⟩:∃R4,row 4 s=R4:=⟨_,rfl⟩
 rw [hR4]at o4 i4 z4 ⊢
 have HR4:=Lib.hid hR4
 clear hR4
 have HH0:=Lib.hid (Blk.fresh w4 98 #[.slice none 0 0,.slice none 0 0,.slice none 0 0,.slice none 0 0])
 go_upto_region 5 with(refine wpList_store_row rfl 98 _ _ rfl w4.heap.size R4 rfl rfl 98 _ HH0.out i4 z4 o4 ?_)
 have HH:=Lib.hid (HH0.out.setRow R4)
 have hb5:Below w4.heap.size w4 ((w4.alloc (.cells #[.slice none 0 0,.slice none 0 0,.slice none 0 0,.slice none 0 0] 98)).setRow w4.heap.size R4):=below_setRow ((Below.refl _ _).alloc (Nat.le_refl _) _) (Nat.le_refl _) R4
 have G3:=Lib.hid (G3.out.below hb5 G3.out.lt)
 have G6:=Lib.hid (G6.out.below hb5 G6.out.lt)
 have G7:=Lib.hid (G7.out.below hb5 G7.out.lt)
 have HW:=Lib.hid (ownsRow_below HW.out hb5)
 have HB:=Lib.hid (onward HB.out (Nat.le_refl _) hb5)
 have HS:=Lib.hid (fun i hi=>((HS0.out i hi).below hb5).more hb5.size)
 clear hb5 HS0 HH0
 generalize((w4.alloc (.cells #[.slice none 0 0,.slice none 0 0,.slice none 0 0,.slice none 0 0] 98)).setRow w4.heap.size R4)=w5 at*
 obtain⟨gh,hgh⟩:∃g,w4.heap.size=g:=⟨_,rfl⟩
 rw [hgh]at HH ⊢
 clear hgh
 obtain⟨st,hst⟩:=HF.out 72 (by omega)
 obtain⟨vv,hvv⟩:=HF.out 71 (by omega)
 obtain⟨dd,hdd⟩:=HF.out 70 (by omega)
 have HLB:=Lib.hid (show lostB f=(st&&(vv !=dd))by unfold lostB;rw [hst,hvv,hdd];rfl)
 have HAB:=Lib.hid (fun v h1 h2=>adopt_any f HF.out s (fun i:Nat=>Ms.firstOf (k:Int) fr 5 24 (i:Int) ms) (fun i m h=>fit_len h) (.slice A2 bs.length c2) w.heap.size v h1 h2)
 have x72: w5.cell? ⟨w.heap.size,72,none⟩=some (.bool st):=by rw [G3.out.cell,row_at (by omega)];exact congrArg some hst
 have x71: w5.cell? ⟨w.heap.size,71,none⟩=some (.int .i64 vv):=by rw [G3.out.cell,row_at (by omega)];exact congrArg some hvv
 have x70: w5.cell? ⟨w.heap.size,70,none⟩=some (.int .i64 dd):=by rw [G3.out.cell,row_at (by omega)];exact congrArg some hdd
 clear hst hvv hdd
 obtain⟨o,ho⟩:∃o,(fun i:Nat=>Ms.firstOf (k:Int) fr 5 24 (i:Int) ms)=o:=⟨_,rfl⟩
 rw [ho]at HAB
 have HOO:=Lib.hid ho
 clear ho
 rw [HR4.out]at HAB
 have HC1:=Lib.hid (fun(h:lostB f=true)=>show closeF o f=adoptF o f from if_pos h)
 have HC0:=Lib.hid (fun(h:lostB f=false)=>show closeF o f=f from if_neg (by rw [h];exact Bool.false_ne_true))
 rw [HLB.out]at HC1 HC0
 obtain⟨F,hFF⟩:∃F,closeF o f=F:=⟨_,rfl⟩
 have HFE:=Lib.hid hFF
 have HOK:=Lib.hid (show ∀i,i<73→okT (nodeT i) (F i)from by rw [←hFF];exact ok_close HF.out o)
 rw [hFF]at HC1 HC0
 clear hFF
 cases st
 case' true=>cases hne:(vv !=dd)
 case' false=>
  have hfF:=HC0.out rfl
 case' true.false=>
  have hfF:=HC0.out (by rw [hne];rfl)
 case' true.true=>
  have hfF:=Lib.hid (HC1.out (by rw [hne];rfl))
  go_wp2_with(refine wpList_whole rfl 98 _ rfl gh rfl HH.out _ Tryz.underlying98 rfl i4 ?_)
  refine(HAB.out _ G3.out HS.out).mono ?_
  rintro e w5 ⟨rfl,hn6,hg6⟩
  have G6:=Lib.hid (G6.out.grown hg6 (fun h=>by injection h with h;omega))
  have G7:=Lib.hid (G7.out.grown hg6 (fun h=>by injection h with h;omega))
  have HW:=Lib.hid (Ms.own_kept HW.out hg6 (fun g e=>by injection e with e;subst e;exact⟨_,_,G3.out,by decide⟩))
  have HB:=Lib.hid (HB.out.grown hg6 HB.out.size (fun g e=>by injection e with e;omega))
  have G3:=Lib.hid hn6
  have hfF:=hfF.out
  clear hn6 hg6 HAB
 all_goals
  rw [←hfF]at G3
  clear HC1 HC0 hfF
  go_upto_region 7 with fail
  clear x70 x71 x72
  obtain⟨a0,b0,u0,u1,u2,x0,x1,x2,dg,sg,i0,i1,i2,i3,q0,q1,q67,q68,q69,q6,q13,q20,q70,q72,q27,q28,q29,q30⟩:=rep_cells HOK.out
  have HQA:=Lib.hid (fun(i:Nat) (hi:i<73)=>show(row 74 (nodeW F (.slice A2 bs.length c2)))[i]?=some (F i)from by rw [row_at (by omega)];unfold nodeW;rw [if_neg (by omega)])
  have HU:=Lib.hid (show(row 3 fun j=>nodeW F (.slice A2 bs.length c2) (67+j))=#[.int .i64 u0,.int .i64 u1,.int .i64 u2]from by rw [←q67,←q68,←q69];rfl)
  have HIn:=Lib.hid (show(row 4 fun j=>nodeW F (.slice A2 bs.length c2) (27+j))=#[.bool i0,.bool i1,.bool i2,.bool i3]from by rw [←q27,←q28,←q29,←q30];rfl)
  have HX:=Lib.hid (show(row 21 fun j=>nodeW F (.slice A2 bs.length c2) (6+j))=row 21 (fun j=>F (6+j))from row_congr fun j hj=>by unfold nodeW;rw [if_neg (by omega)])
  have HAX:=Lib.hid (And.intro q6 (And.intro q13 q20))
  have HRU:=Lib.hid (show row 14 (repU F 0)=#[.int .i64 a0,.int .i64 b0,.int .i64 u0,.int .i64 u1,.int .i64 u2,.int .i64 0,.int .i64 0,.int .i64 0,.int .i64 dg,.bool sg,.bool i0,.bool i1,.bool i2,.bool i3]from by rw [repU_row,q0,q1,q67,q68,q69,q70,q72,q27,q28,q29,q30])
  have HRF:=Lib.hid (show row 14 (repF F)=#[.int .i64 a0,.int .i64 b0,.int .i64 u0,.int .i64 u1,.int .i64 u2,.int .i64 x0,.int .i64 x1,.int .i64 x2,.int .i64 dg,.bool sg,.bool i0,.bool i1,.bool i2,.bool i3]from by rw [repF_row,q0,q1,q67,q68,q69,q6,q13,q20,q70,q72,q27,q28,q29,q30])
  have y0:=(G3.out.cell 0).trans ((HQA.out 0 (by omega)).trans (congrArg some q0))
  have y1:=(G3.out.cell 1).trans ((HQA.out 1 (by omega)).trans (congrArg some q1))
  have y70:=(G3.out.cell 70).trans ((HQA.out 70 (by omega)).trans (congrArg some q70))
  have y72:=(G3.out.cell 72).trans ((HQA.out 72 (by omega)).trans (congrArg some q72))
  clear q0 q1 q67 q68 q69 q6 q13 q20 q70 q72 q27 q28 q29 q30
  go_upto_region 8 with(first
   |(refine wpList_mid rfl 33 _ rfl w.heap.size 67 3 rfl G3.out (by omega) _ Tryz.underlying33 rfl (by kernel_rfl) ?_;rw [HU.out])
   |(refine wpList_mid rfl 29 _ rfl w.heap.size 27 4 rfl G3.out (by omega) _ Tryz.underlying29 rfl (by kernel_rfl) ?_;rw [HIn.out]))
  have HR:=Lib.hid (show Blk (w5.alloc (.cells #[.int .i64 a0,.int .i64 b0,.int .i64 u0,.int .i64 u1,.int .i64 u2,.int .i64 0,.int .i64 0,.int .i64 0,.int .i64 dg,.bool sg,.bool i0,.bool i1,.bool i2,.bool i3] 56)) w5.heap.size 56 (row 14 (repU F 0))from by rw [HRU.out];exact Blk.fresh _ _ _)
  have HWL:=Lib.hid (fun g (e:Value.ownBlock (.slice A2 bs.length c2)=some g)=>(HW.out.lt g e).2)
  have hbz:=(Below.refl w5.heap.size w5).alloc (Nat.le_refl _) (.cells #[.int .i64 a0,.int .i64 b0,.int .i64 u0,.int .i64 u1,.int .i64 u2,.int .i64 0,.int .i64 0,.int .i64 0,.int .i64 dg,.bool sg,.bool i0,.bool i1,.bool i2,.bool i3] 56)
  have hw6:=HB.out.size
  have G3:=Lib.hid (G3.out.below hbz G3.out.lt)
  have G6:=Lib.hid (G6.out.below hbz G6.out.lt)
  have hg7:=G7.out.lt
  have G7:=Lib.hid (G7.out.below hbz G7.out.lt)
  have HW:=Lib.hid (ownsRow_below HW.out hbz)
  have HB:=Lib.hid (onward HB.out (Nat.le_refl _) hbz)
  clear hbz y0 y1 y70 y72
  generalize(w5.alloc (.cells #[.int .i64 a0,.int .i64 b0,.int .i64 u0,.int .i64 u1,.int .i64 u2,.int .i64 0,.int .i64 0,.int .i64 0,.int .i64 dg,.bool sg,.bool i0,.bool i1,.bool i2,.bool i3] 56))=w9 at*
  obtain⟨gr,hgr⟩:∃g,w5.heap.size=g:=⟨_,rfl⟩
  rw [hgr]at HR hg7 HWL ⊢
  clear hgr
  have hgr9:=HR.out.lt
  have HIX:=Lib.hid (fun(k:Nat) (hk:k<3) (w:World)=>run_index_axes (fun j=>F (6+j)) k hk w)
  go_wp2_with(refine wpList_mid rfl 28 _ rfl w.heap.size 6 21 rfl G3.out (by omega) _ Tryz.underlying28 rfl (by kernel_rfl) ?_;rw [HX.out])
  generalize(row 21 fun j=>F (6+j))=R21 at*
  go_loopw [49] (fun iv wr=>∃j:Nat,j≤3∧iv=.int .i64 (j:Int)∧Blk wr gr 56 (row 14 (repU F j))∧Below gr w9 wr) (fun iv _=>3-(intOf iv).toNat)
  case atStart=>exact⟨0,by omega,rfl,HR.out,Below.refl _ _⟩
  case round=>
   clear HR
   obtain⟨j,hj,rfl,hr_,hb_⟩:=hrel
   have HR:=Lib.hid hr_
   have HBG:=Lib.hid hb_
   clear hr_ hb_
   have hgrw:=HR.out.lt
   by_cases hlt:j<3
   ·
    obtain⟨xa,xb,xc,xd,xe,xm,xt,hlit,hrp⟩:=axis_rep HOK.out j hlt
    have HRP:=Lib.hid hrp
    have hix:=fun w=>HIX.out j hlt w
    rw [hlit]at hix
    clear hlit hrp
    have hj1:(j:Int)<3:=by omega
    have hj0:(0:Int)≤(j:Int):=by omega
    go_upto_region 11 with fail
    have HZ:=Lib.hid (Blk.fresh wr 27 #[.int .i64 xa,.int .i64 xb,.int .i64 xc,.int .i64 xd,.int .i64 xe,.bool xt,.int .i64 xm])
    have HR:=Lib.hid (HR.out.alloc (.cells #[.int .i64 xa,.int .i64 xb,.int .i64 xc,.int .i64 xd,.int .i64 xe,.bool xt,.int .i64 xm] 27))
    have HBG:=Lib.hid (HBG.out.alloc (Nat.le_of_lt hgrw) (.cells #[.int .i64 xa,.int .i64 xb,.int .i64 xc,.int .i64 xd,.int .i64 xe,.bool xt,.int .i64 xm] 27))
    generalize(wr.alloc (.cells #[.int .i64 xa,.int .i64 xb,.int .i64 xc,.int .i64 xd,.int .i64 xe,.bool xt,.int .i64 xm] 27))=wa at*
    obtain⟨gs,hgs⟩:∃g,wr.heap.size=g:=⟨_,rfl⟩
    rw [hgs]at HZ ⊢
    clear hgs hix
    have z0:=HZ.out.cell 0
    simp only [List.getElem?_toArray,List.getElem?_cons_zero]at z0
    have zc:=HR.out.cell (5+j)
    rw [row_at (by omega)]at zc
    have zf:=HR.out.thaw (5+j)
    go_wp2_with fail
    exact⟨⟨j+1,by omega,by go_num,by rw [←repU_put F j hlt HRP.out];exact HR.out.set (5+j) _,HBG.out.setCell (p:=⟨gr,5+j,none⟩) (Nat.le_refl _) _⟩,by simp [intOf];omega⟩
   ·
    obtain rfl:j=3:=by omega
    clear hlt
    rw [show((3:Nat):Int)=3 from rfl]
    have hq:∀g,g<gr→∀ {t cs},Blk w9 g t cs→Blk wr g t cs:=fun g hg _ _ h=>h.below HBG.out hg
    have hn3:=G3.out.lt
    have G3:=Lib.hid (hq _ (by omega) G3.out)
    have G6:=Lib.hid (hq _ (by omega) G6.out)
    have G7:=Lib.hid (hq _ (by omega) G7.out)
    have HW:=Lib.hid (own_belowLo HW.out HBG.out HWL.out)
    have HB:=Lib.hid (HB.out.trans (HBG.out.mono (by omega)))
    have HQ:=Lib.hid (show Blk wr gr 56 (row 14 (repF F))from by rw [←repU_all];exact HR.out)
    have o5:=one_of HOK.out (A:=A2) (n:=bs.length) (c:=c2)
    have i5:(Tryz.prog.info? 39).map (·.size)=some (row 74 (nodeW F (.slice A2 bs.length c2))).size:=by rw [row_size];kernel_rfl
    have z5:(Tryz.zeroCells39).size=(row 74 (nodeW F (.slice A2 bs.length c2))).size:=by rw [row_size];kernel_rfl
    have iP:(Tryz.prog.info? 56).map (·.size)=some (row 14 (repF F)).size:=by rw [row_size];kernel_rfl
    have oP:(row 14 (repF F)).all (·.oneCell')=true:=by rw [HRF.out];simp [Value.oneCell']
    obtain⟨R5,hR5⟩:∃R,row 74 (nodeW F (.slice A2 bs.length c2))=R:=⟨_,rfl⟩
    rw [hR5]at o5 i5 z5 G3
    have HR5:=Lib.hid hR5
    clear hR5
    obtain⟨RP,hRP⟩:∃R,row 14 (repF F)=R:=⟨_,rfl⟩
    rw [hRP]at iP oP HQ HRF
    have HRP:=Lib.hid hRP
    clear hRP
    go_upto_region 13 with fail
    have G3:=Lib.hid G3.out.drew
    have G6:=Lib.hid G6.out.drew
    have G7:=Lib.hid G7.out.drew
    have HQ:=Lib.hid HQ.out.drew
    have HW:=Lib.hid (ownsRow_below HW.out ((Below.refl wr.heap.size wr).drew))
    have HB:=Lib.hid HB.out.drew
    have HS:=And.intro G3.out HQ.out
    refine wp_region_noPanic ?_
    refine Rg.beginR [0,1] (fun w'=>Blk w' w.heap.size 39 R5∧Blk w' gr 56 RP) (by kernel_rfl) ?_
    generalize wr.drew=V0 at*
    refine Rg.stp_s 0 (.agg R5) HS (hy:=?_) (h:=?_)
    · (intro w' hSw;exact exec_load_row 39 _ rfl _ rfl hSw.1 Tryz.underlying39 rfl i5)
    try simp only [Rg.lp]
    refine Rg.stp_s 1 (.agg RP) HS (hy:=?_) (h:=?_)
    · (intro w' hSw;exact exec_load_row 56 _ rfl _ rfl hSw.2 Tryz.underlying56 rfl iP)
    try simp only [Rg.lp]
    refine Rg.stp_o 2 ?_
    refine Rg.stepS ?_
    intro K hK
    rw [if_pos (by rfl)]
    refine wp_store_row 39 _ _ rfl (w.heap.size+1) R5 rfl rfl 39 _ G6.out i5 z5 o5 ?_
    have G3:=Lib.hid (G3.out.setRow_other (g':=w.heap.size+1) (by omega) R5)
    have G7:=Lib.hid (G7.out.setRow_other (g':=w.heap.size+1) (by omega) R5)
    have HQ:=Lib.hid (HQ.out.setRow_other (g':=w.heap.size+1) (by omega) R5)
    have G6:=Lib.hid (G6.out.setRow R5)
    have HB:=Lib.hid (below_setRow HB.out (show w.heap.size≤w.heap.size+1 by omega) R5)
    have HW:=Lib.hid (own_setRow HW.out (show w.heap.size+1<W.heap.size by omega) R5)
    clear HS
    generalize(V0.setRow (w.heap.size+1) R5)=V1 at*
    have HS:=And.intro G3.out HQ.out
    refine hK.out _ _ HS ?_
    clear hK K
    try simp only [Rg.lp]
    refine Rg.stp_o 3 ?_
    refine Rg.stepF ?_ ?_
    · kernel_rfl
    intro K hK
    rw [if_pos (by rfl)]
    refine wp_store_row 56 _ _ rfl (w.heap.size+1+1) RP rfl rfl 56 _ G7.out iP (by rw [←HRP.out,repF_row];rfl) oP ?_
    have G6:=Lib.hid (G6.out.setRow_other (g':=w.heap.size+1+1) (by omega) RP)
    have G7:=Lib.hid (G7.out.setRow RP)
    have HB:=Lib.hid (below_setRow HB.out (show w.heap.size≤w.heap.size+1+1 by omega) RP)
    have HW:=Lib.hid (own_setRow HW.out (show w.heap.size+1+1<W.heap.size by omega) RP)
    clear HS
    generalize(V1.setRow (w.heap.size+1+1) RP)=V2 at*
    refine hK.out _ _ ?_
    clear hK K
    try simp only [Rg.lp]
    refine Rg.doneR (by kernel_rfl) ?_ _
    refine NoPanic.normal ?_
    go_wp2_with fail
    exact ret_rows2 rfl rfl rfl G6.out ⟨by rw [Tryz.underlying39],i5⟩ G7.out ⟨by rw [Tryz.underlying56],iP⟩ rfl ⟨A2,c2,by rw [HOO.out,HFE.out,HR5.out,HRP.out],Rd.of_own HW.out,HB.out,fun a h=>Nat.le_trans (by omega) (own_lo HW.out a h),own_cap HW.out⟩
end Nd
end Go.Proofs.YtljpoibnkkcjdaaGreatDoor
