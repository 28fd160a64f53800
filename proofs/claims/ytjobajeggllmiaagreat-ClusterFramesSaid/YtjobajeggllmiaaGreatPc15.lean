import Derived.Test.YtjobajeggllmiaaGreatPc0
import Derived.Test.YtjobajeggllmiaaGreatPc14
set_option linter.all false
set_option maxHeartbeats 100000000
set_option maxRecDepth 100000
namespace Go.Proofs.YtjobajeggllmiaaGreat
open Ms Rg _root_.Go.Proofs.Tryz
namespace Cl
open Go.ChangeShapes Go.WideShapes Go.ChangeAt Go.RowKit Mem Rws Nd
def ZF(w W:World)(R:Nat):Prop:=w.heap.size<=W.heap.size/\∀b,b<w.heap.size->b≠R->W.heap[b]?=w.heap[b]?
def Rest(s Z:Bl):Prop:=Z.fr=s.fr/\Z.rd=s.rd/\Z.bad=s.bad/\Z.LA=s.LA/\Z.LL=s.LL/\Z.LC=s.LC
def ZF.keep{w X wr:World}{R:Nat}{s W:Bl}(h:ZF w X R)(k:Keep X wr R s W)(hb:∀i,i<4->s.own i=none):ZF w wr R:=
 ⟨Nat.le_trans h.1 k.size,fun b Z Y=>(k.block b (Nat.lt_of_lt_of_le Z h.1) Y fun i hi e=>by rw[hb i hi]at e;cases e).trans (h.2 b Z Y)⟩
def Bl.WK{w:World}{R Y:Nat}{s:Bl}(h:Cj w R Y s):(row 4 fun j=>s.cell (311+j))=row 4 s.EU:=AA fun j Z=>s.K7 Z
structure qh(w2 wx:World)(R b0:Nat)(s s':Bl)(gn gm:Nat)(F:Nat->Value)(V:List Bool)(k f n:Int)(zs:List Int)(AN:Option Addr)(cn:Nat)(AM:Option Addr)(cm:Nat):Prop where
 node:Ae wx gn 37 (row 74 (Ab F (.slice AN V.length cn)))
 msg:Ae wx gm 65 (Ms.AR k f n AM zs.length cm)
 run:Cj wx R b0 s'
 keep:Keep w2 wx R s.bare s'
 ra:Rd wx wx.heap.size 1 AN V.length (Au V)
 rm:Rd wx wx.heap.size 1 AM zs.length (Ms.AQ zs)
 an:(AN=none->cn=0)/\V.length<=cn
 lo:0<V.length->∀a,AN=some a->a.block<wx.heap.size/\a.block≠R/\∀j,j<4->s'.own j≠some a.block
 lm:0<zs.length->∀a,AM=some a->a.block<wx.heap.size/\a.block≠R
 nn:gn≠R
 nm:gm≠R
 ge:∀a,AN=some a->w2.heap.size<=a.block
def aF(R b0:Nat)(s:Bl)(ph:Int)(g:Nat)(lb:Array Value)(eg:∀rJ w,(callFunc g rJ).run prog w=.ok (.enter g rJ) w)(ls:List IC)(uj:s.LL=ls.length)(hn:ls.length<=400)(w:World)(h:Cj w R b0 s)(tC:Co w b0 s.LA ls)(G:Nat->Nat->Value)(V:Nat->List Bool)(mk mf mn:Nat->Int)(mz:Nat->List Int)(hV:∀i,i<4->(V i).length<=140737488351232)(hz:∀i,i<4->(mz i).length*8<=140737488351232)(hG:∀i,i<4->∀j,j<73->C9 (Ar j) (G i j))(hf:∀i:Nat,i<4->(i:Int)≠s.bad->∀(W:World) (A:Option Addr) (c:Nat) (AI:Option Addr) (ci:Nat),ZF w W R->(A=none->c=0)->(s.VL i).length<=c->(s.VL i).length<=140737488351232->Rd W W.heap.size 1 A (s.VL i).length (Au (s.VL i))->Cc W W.heap.size AI (s.bX i)->
   Calls prog g (#[.agg (row 74 (Ab (s.F i) (.slice A (s.VL i).length c))),.slice AI (s.bX i).length ci]++lb) W fun e w'=>Ej W w' (G i) (V i) (mk i) (mf i) (mn i) (mz i) e):
  Calls prog 14 #[.pointer (some ⟨R,0,none⟩),.int .i64 ph,.func (.func g) #[] lb] w fun e w'=>e=.returned (.tuple #[])/\ZF w w' R/\w'.os=w.os/\w'.tape=w.tape/\w'.output=w.output/\∃Z,Cj w' R b0 Z/\Rest s Z/\Z.F=Dv s.bad G s.F 4/\Z.VL=Dv s.bad V s.VL 4/\Z.bX=LZ s.bad ph ls mk mf mn mz 4/\∀j,j<4->Z.VA j=s.VA j\/∀a,Z.VA j=some a->w.heap.size<=a.block:=by
 have C:=zz h;have rM:=zz h;have uD:=h.blk.lt;have um:=zz tC;have HF:=zz hf;have HG:=zz hG;clear h tC hf hG;have i4:(prog.info? 59).map (·.size)=some 4:=Ap;have qY:=Bl.WK C.o
 have rZ:(prog.info? 59).map (·.size)=some (row 4 s.EU).size:=by rw[Ag];exact i4
 have rR:(VS:Array Value).size=(row 4 s.EU).size:=by rw[Ag];rfl
 have rO:(row 4 s.EU).all (·.oneCell')=true:=row_one fun j r=>rfl;obtain⟨RB,rW⟩:=AJ (row 4 s.EU);rw[rW]at rZ rR rO qY;have uq:=zz rW;clear rW
 have D6:=zz (show Ae (w.alloc (.cells VS 59)) w.heap.size 59 VS from Ae.fresh _ _ _)
 have hb:Below w.heap.size w (w.alloc (.cells VS 59)):=DC;have rH:=zz (C.o.below hb);have HB:=zz (below_setRow hb Nr RB);have uH:=hb.size;clear hb
 go_in
 go_upto_region 1 with(first
  |(refine Cb rfl 59 _ rfl R 311 4 rfl C.o.blk Aa _ underlying59 rfl i4 ?_;rw[qY])
  |(refine Cb rfl 59 _ rfl R 311 4 rfl rH.o.blk Aa _ underlying59 rfl i4 ?_;rw[qY])
  |(refine wpList_store_row rfl 59 _ _ rfl w.heap.size RB rfl rfl 59 _ D6.o rZ rR rO ?_))
 have D6:=zz (D6.o.setRow RB);have C:=zz (C.o.below HB.o)
 generalize((w.alloc (.cells VS 59)).setRow w.heap.size RB)=w1 at*
 obtain⟨gl,rT⟩:=AJ (w.heap.size);rw[rT]at D6 ⊢;have sM:=zz rT;clear rT rZ rR rO qY rH
 go_upto_region 2 with(refine Hr rfl 59 _ _ rfl R 311 4 (fun _=>.slice none 0 0) rfl rfl C.o.blk Aa i4 (fun _ _=>rfl) ?_)
 obtain⟨sI,T⟩:=C.o.bare;have ug:=zz sI;have tL:=zz T;have uE:=C.o.blk.lt
 have DL:=zz (show Ae (w1.setCells R 311 (row 4 fun _=>.slice none 0 0).toList) gl 59 RB from Al (w:=w1) (by have:=sM.o;omega) _ _ _ D6.o)
 have sw:=zz (show ZF w (w1.setCells R 311 (row 4 fun _=>.slice none 0 0).toList) R from⟨Nat.le_trans HB.o.size T.size,fun b hb hR=>(T.block b (Nat.lt_of_lt_of_le hb HB.o.size) fun e=>by injection e with e;exact hR e).trans (HB.o.block b hb)⟩)
 have r9:=zz (And.intro (T.os.trans HB.o.os) (And.intro (T.tape.trans HB.o.tape) (T.output.trans HB.o.output)));clear sI T tL D6 C
 generalize(w1.setCells R 311 (row 4 fun _=>.slice none 0 0).toList)=w2 at*
 go_wp2_with fail
 go_loopw[18] (fun x wr=>∃i:Nat,i<=4/\x=.int .i64 i/\∃Z,Cj wr R b0 Z/\Rest s Z/\Z.F=Dv s.bad G s.F i/\Z.VL=Dv s.bad V s.VL i/\Z.bX=LZ s.bad ph ls mk mf mn mz i/\Keep w2 wr R s.bare Z/\∀j,j<4->Z.VA j=s.VA j\/∀a,Z.VA j=some a->w.heap.size<=a.block) (fun x _=>4-(intOf x).toNat)
 .exact⟨0,Aa,rfl,s.bare,ug.o,⟨rfl,rfl,rfl,rfl,rfl,rfl⟩,(IY _ _ _).symm,(IY _ _ _).symm,rfl,Keep.refl _ _ _,fun _ _=>.inl rfl⟩
 obtain⟨i,hi,rfl,Z,M,rQ,hF,sQ,sO,D,sK⟩:=hrel;have Y:=zz M;have d:=zz rQ;have rC:=zz hF;have qU:=zz sQ;have qQ:=zz sO;have U:=zz D;have rV:=zz sK;have sP:=zz (sw.o.keep D fun _ _=>rfl);have y9:=M.jP;rw[rQ.2.2.1]at y9;clear M rQ hF sQ sO D sK
 by_cases E:i<4
 .have uF:(0:Int)<=(i:Int):=Aa;have uG:(i:Int)<4:=Aa
  by_cases L:(i:Int)=s.bad
  .have tu:((i:Int)==s.bad)=true:=by simp[L]
   have rY:=zz (show LZ s.bad ph ls mk mf mn mz (i+1)=Fg (LZ s.bad ph ls mk mf mn mz i) s.bad ph ls from Ao L)
   have rU:=zz (Dw s.bad G s.F i L);have sD:=zz (Dw s.bad V s.VL i L)
   have tX:=zz (show Co wr b0 Z.LA ls from by
    rw[d.o.2.2.2.1];have uz:=rM.o.low
    exact um.o.keep fun b o hb=>IW (sP.o.2 b Aa Aa) o)
   have su:=zz (show ∀k,k<4->(Z.bX k).length<=100000 from fun k hk=>by
    rw[qQ.o];have:=NH s.bad ph ls mk mf mn mz hn k i
    omega)
   clear L;go_wp2_with fail;refine(mE R b0 Z ph ls (d.o.2.2.2.2.1.trans uj) wr Y.o tX.o hn su.o).mono ?_;rintro e w4 ⟨rfl,bA,bC,M,D⟩;have sG:=zz M;have tH:=zz (U.o.trans D);clear M D;go_wp2_with fail
   exact⟨⟨i+1,Aa,BG,_,sG.o,d.o,rC.o.trans rU.o.symm,qU.o.trans sD.o.symm,(show Fg Z.bX Z.bad ph ls=_ from by rw[rY.o,qQ.o,d.o.2.2.1]),tH.o,rV.o⟩,Ck⟩
  have tu:((i:Int)==s.bad)=false:=by simp[L]
  have rY:=zz (show LZ s.bad ph ls mk mf mn mz (i+1)=J5 (LZ s.bad ph ls mk mf mn mz i) (mk i) (mf i) (mn i) (mz i)from Aj L)
  have rU:=zz (DV s.bad G s.F i L);have sD:=zz (DV s.bad V s.VL i L);have tZ:=zz L;clear L
  go_upto_region 7 with fail
  go_cut[8,9] (fun p q wx=>∃v u J m B l,p=.pointer (some ⟨v,0,none⟩)/\q=.pointer (some ⟨u,0,none⟩)/\qh w2 wx R b0 s Z v u (G i) (V i) (mk i) (mf i) (mn i) (mz i) J m B l)
  case first=>
   have y6:True:=trivial
   have tY:=zz (show Z.VL i=s.VL i from by rw[qU.o,Er])
   have YB:=zz (show ∀W,Keep w2 W R s.bare Z-> W.cell? ⟨gl,i,none⟩=some (s.EU i)from fun W hk=>by
    have tK:gl≠R:=by have:=sM.o;omega
    have hb:=hk.kept DL.o tK (fun j r e=>by cases e);have hc:=hb.cell i;rw[←uq.o,Ah Aa]at hc
    exact hc)
   have YN:=zz (show ∀W,Cj W R b0 Z->W.rangeAt R (1+i*74) ((List.range 74).map (Ab (s.F i) (.slice (Z.VA i) (s.VL i).length (Z.VC i))))from fun W hr=>by
    rw[show 1+i*74=1+74*i by omega]
    have h1:=Dx hr.blk (1+74*i) 74 Aa
    rw[List.map_congr_left (g:=Ab (s.F i) (.slice (Z.VA i) (s.VL i).length (Z.VC i))) (fun j r=>by
     have tO:=List.mem_range.1 r;rw[Z.TN E tO,rC.o,Er]
     unfold Bl.Rp
     rw[qU.o,Er])]at h1
    exact h1)
   have hb:Below wr.heap.size wr wr.drew:=(Below.refl _ _).drew;have Y:=zz (Y.o.below hb);have U:=zz (U.o.trans (Keep.of_below (R:=R) (s:=Z) hb));clear hb y9 tu y6;refine wp_region_noPanic ?_
   have z:=(show wr.drew.cell? ⟨gl,i,none⟩=some (s.EU i)/\wr.drew.rangeAt R (1+i*74) ((List.range 74).map (Ab (s.F i) (.slice (Z.VA i) (s.VL i).length (Z.VC i))))from⟨YB.o wr.drew U.o,YN.o wr.drew Y.o⟩)
   refine A8 [7,10] (fun w'=> w'.cell? ⟨gl,i,none⟩=some (s.EU i)/\w'.rangeAt R (1+i*74) ((List.range 74).map (Ab (s.F i) (.slice (Z.VA i) (s.VL i).length (Z.VC i))))) Ap ?_
   generalize wr.drew=wv at*
   repeat' (first
    |(refine KO 7 (.agg (row 74 (Ab (s.F i) (.slice (Z.VA i) (s.VL i).length (Z.VC i))))) z (hy:=?_) (h:=?_);· (intro w' rX;exact BK 37 _ rfl R (1+i*74) 74 rfl _ _ rX.2 underlying37 rfl Ap))
    |(refine fK 10 z ?_)
    |(refine BJ 0 ?_)|(refine BJ 1 ?_)|(refine BJ 2 ?_)|(refine BJ 3 ?_)|(refine BJ 4 ?_)|(refine BJ 5 ?_)|(refine BJ 6 ?_)|(refine BJ 8 ?_)|(refine BJ 9 ?_)|(refine BJ 12 ?_)|(refine BJ 13 ?_)|(refine BJ 14 ?_)
    |(refine DR 11 ?_)
    |(refine EG 11 15 ?_ ?_)
    |(refine Uf 11 15 16 ?_ ?_ ?_)
    |(refine EG 11 16 ?_ ?_)
    |(refine DR 15 ?_)
    |(refine EG 15 16 ?_ ?_)
    |(refine DR 16 ?_)
    |(refine DR 17 ?_)
    |(refine DR 18 ?_)
    |(refine Bt ?_;intro K hK;rw[Ao Bb];(first
     |(clear z;refine wp_store_row 37 _ _ rfl v RN rfl rfl 37 _ I.o iN zN oN ?_;have T:=CK wv v RN;have Y:=zz (Y.o.aside I.o T rF.o.1 rF.o.2 El rA.o);have U:=zz (U.o.aside T tF.o);have N:=zz (Cr N.o T.size fun X a e=>setRow_other wv v a.block RN (rE.o.1 X a e));have O:=zz (Cr O.o T.size fun X a e=>setRow_other wv v a.block RN (rE.o.2 X a e));have H:=zz (H.o.setRow_other (g':=v) (fun e=>qV.o e.symm) RN);have I:=zz (I.o.setRow RN);clear T;generalize(wv.setRow v RN)=wv at*;have z:=(show wv.cell? ⟨gl,i,none⟩=some (s.EU i)/\wv.rangeAt R (1+i*74) ((List.range 74).map (Ab (s.F i) (.slice (Z.VA i) (s.VL i).length (Z.VC i))))from⟨YB.o wv U.o,YN.o wv Y.o⟩))
     |(clear z;refine wp_store_row 65 _ _ rfl u (Ms.AR (mk i) (mf i) (mn i) B (mz i).length l) rfl rfl 65 _ H.o Ap rfl (by simp[Ms.AR,Value.oneCell']) ?_;have T:=CK wv u (Ms.AR (mk i) (mf i) (mn i) B (mz i).length l);have Y:=zz (Y.o.aside H.o T rG.o.1 rG.o.2 El sS.o);have U:=zz (U.o.aside T sW.o);have N:=zz (Cr N.o T.size fun X a e=>setRow_other wv u a.block (Ms.AR (mk i) (mf i) (mn i) B (mz i).length l) (rD.o.1 X a e));have O:=zz (Cr O.o T.size fun X a e=>setRow_other wv u a.block (Ms.AR (mk i) (mf i) (mn i) B (mz i).length l) (rD.o.2 X a e));have I:=zz (I.o.setRow_other (g':=u) qV.o (Ms.AR (mk i) (mf i) (mn i) B (mz i).length l));have H:=zz (H.o.setRow (Ms.AR (mk i) (mf i) (mn i) B (mz i).length l));clear T;generalize(wv.setRow u (Ms.AR (mk i) (mf i) (mn i) B (mz i).length l))=wv at*;have z:=(show wv.cell? ⟨gl,i,none⟩=some (s.EU i)/\wv.rangeAt R (1+i*74) ((List.range 74).map (Ab (s.F i) (.slice (Z.VA i) (s.VL i).length (Z.VC i))))from⟨YB.o wv U.o,YN.o wv Y.o⟩))
     |(refine Rg.Gv 37 zeroCells37 rfl Ap ?_;clear z;have hb:Below wv.heap.size wv (wv.alloc (.cells zeroCells37 37)):=DC;have sN:=zz (show Ae (wv.alloc (.cells zeroCells37 37)) wv.heap.size 37 zeroCells37 from Ae.fresh _ _ _);have rA:=zz (show ∀j,j<4->0<(Z.VL j).length->∀a,Z.VA j=some a->a.block≠wv.heap.size from fun j r X a e=>Nat.ne_of_lt ((Y.o.ver j r).2.2.2.2 X a e).1);have rF:=zz (show wv.heap.size≠R/\∀j,j<4->Z.own j≠some wv.heap.size from⟨Nat.ne_of_gt Y.o.blk.lt,fun j r e=>Nat.lt_irrefl _ (Y.o.Ju r e).2⟩);have tF:=zz (show w2.heap.size<=wv.heap.size from U.o.size);(try(have qV:=zz (show wv.heap.size≠u from Nat.ne_of_gt H.o.lt)));(try(have rE:=zz (show(0<(V i).length->∀a,J=some a->a.block≠wv.heap.size)/\(0<(mz i).length->∀a,B=some a->a.block≠wv.heap.size)from⟨fun X a e=>Nat.ne_of_lt (FV N.o X e),fun X a e=>Nat.ne_of_lt (FV O.o X e)⟩)));have Y:=zz (Y.o.below hb);have U:=zz (U.o.trans (Keep.of_below (R:=R) (s:=Z) hb));(try(have I:=AU I hb));(try(have H:=AU H hb));(try(have N:=Iz N hb));(try(have O:=Iz O hb));have I:=sN;clear hb sN;obtain⟨v,ru⟩:∃g,wv.heap.size=g:=⟨_,rfl⟩;rw[ru]at I rA rF tF ⊢;(try rw[ru]at qV);(try rw[ru]at rE);clear ru;generalize(wv.alloc (.cells zeroCells37 37))=wv at*;have z:=(show wv.cell? ⟨gl,i,none⟩=some (s.EU i)/\wv.rangeAt R (1+i*74) ((List.range 74).map (Ab (s.F i) (.slice (Z.VA i) (s.VL i).length (Z.VC i))))from⟨YB.o wv U.o,YN.o wv Y.o⟩))
     |(refine Rg.Gv 65 QV rfl Ap ?_;clear z;have hb:Below wv.heap.size wv (wv.alloc (.cells QV 65)):=DC;have sU:=zz (show Ae (wv.alloc (.cells QV 65)) wv.heap.size 65 QV from Ae.fresh _ _ _);have sS:=zz (show ∀j,j<4->0<(Z.VL j).length->∀a,Z.VA j=some a->a.block≠wv.heap.size from fun j r X a e=>Nat.ne_of_lt ((Y.o.ver j r).2.2.2.2 X a e).1);have rG:=zz (show wv.heap.size≠R/\∀j,j<4->Z.own j≠some wv.heap.size from⟨Nat.ne_of_gt Y.o.blk.lt,fun j r e=>Nat.lt_irrefl _ (Y.o.Ju r e).2⟩);have sW:=zz (show w2.heap.size<=wv.heap.size from U.o.size);(try(have qV:=zz (show v≠wv.heap.size from Nat.ne_of_lt I.o.lt)));(try(have rD:=zz (show(0<(V i).length->∀a,J=some a->a.block≠wv.heap.size)/\(0<(mz i).length->∀a,B=some a->a.block≠wv.heap.size)from⟨fun X a e=>Nat.ne_of_lt (FV N.o X e),fun X a e=>Nat.ne_of_lt (FV O.o X e)⟩)));have Y:=zz (Y.o.below hb);have U:=zz (U.o.trans (Keep.of_below (R:=R) (s:=Z) hb));(try(have I:=AU I hb));(try(have H:=AU H hb));(try(have N:=Iz N hb));(try(have O:=Iz O hb));have H:=sU;clear hb sU;obtain⟨u,rq⟩:∃g,wv.heap.size=g:=⟨_,rfl⟩;rw[rq]at H sS rG sW ⊢;(try rw[rq]at qV);(try rw[rq]at rD);clear rq;generalize(wv.alloc (.cells QV 65))=wv at*;have z:=(show wv.cell? ⟨gl,i,none⟩=some (s.EU i)/\wv.rangeAt R (1+i*74) ((List.range 74).map (Ab (s.F i) (.slice (Z.VA i) (s.VL i).length (Z.VC i))))from⟨YB.o wv U.o,YN.o wv Y.o⟩))
     |(go_simp;clear z;have hv:=Y.o.ver i E;rw[tY.o]at hv;(have qZ:=sw.o.keep U.o fun _ _=>rfl);have tJ:=(jU rM.o.blk qZ.1 qZ.2 (rM.o.box i E)).at.1;refine(HF.o i E tZ.o wv (Z.VA i) (Z.VC i) (s.bA i) (s.bC i) qZ hv.1 hv.2.1 hv.2.2.1 hv.2.2.2.1 tJ).mono ?_;rintro e w4 ⟨J,m,B,l,rfl,M,sJ,hb,f,qX,sZ,sH⟩;(have iN:(prog.info? 37).map (·.size)=some (row 74 (Ab (G i) (.slice J (V i).length m))).size:=by rw[Ag];kernel_rfl);(have zN:(zeroCells37).size=(row 74 (Ab (G i) (.slice J (V i).length m))).size:=by rw[Ag];kernel_rfl);have oN:=Cv (HG.o i E) (A:=J) (n:=(V i).length) (c:=m);obtain⟨RN,t⟩:∃x,(row 74 (Ab (G i) (.slice J (V i).length m)))=x:=⟨_,rfl⟩;rw[t]at iN zN oN ⊢;have qR:=zz t;clear t;have uw:=zz (And.intro sZ sH);have uy:=zz (show ∀a,J=some a->w2.heap.size<=a.block from fun a e=>Nat.le_trans U.o.size (f a e));have uh:=zz (show ∀a,J=some a->a.block≠R/\∀j,j<4->Z.own j≠some a.block from fun a e=>⟨fun e2=>by have:=f a e;have:=Y.o.blk.lt;omega,fun j r e2=>by have:=f a e;have:=(Y.o.Ju r e2).2;omega⟩);have uf:=zz (show ∀a,B=some a->a.block≠R from fun a e e2=>by have:=qX a e;have:=Y.o.blk.lt;omega);(try(have rE:=zz (show(0<(V i).length->∀a,J=some a->a.block≠v)/\(0<(mz i).length->∀a,B=some a->a.block≠v)from⟨fun _ a e e2=>by have:=f a e;have:=I.o.lt;omega,fun _ a e e2=>by have:=qX a e;have:=I.o.lt;omega⟩)));(try(have rD:=zz (show(0<(V i).length->∀a,J=some a->a.block≠u)/\(0<(mz i).length->∀a,B=some a->a.block≠u)from⟨fun _ a e e2=>by have:=f a e;have:=H.o.lt;omega,fun _ a e e2=>by have:=qX a e;have:=H.o.lt;omega⟩)));have N:=zz M;have O:=zz sJ;have Y:=zz (Y.o.below hb);have U:=zz (U.o.trans (Keep.of_below (R:=R) (s:=Z) hb));(try(have I:=AU I hb));(try(have H:=AU H hb));clear hb hv tJ qZ M sJ f qX sZ sH;generalize wv=wq at*;generalize w4=wv at*;have z:=(show wv.cell? ⟨gl,i,none⟩=some (s.EU i)/\wv.rangeAt R (1+i*74) ((List.range 74).map (Ab (s.F i) (.slice (Z.VA i) (s.VL i).length (Z.VC i))))from⟨YB.o wv U.o,YN.o wv Y.o⟩);unfold Ms.Jg));refine hK.o _ _ z ?_;(try simp only[Rg.lp]))
    |(refine Bg Ap ?_ _;refine NoPanic.normal ?_;clear z;go_wp2_with fail;go_meet;exact⟨v,u,J,m,B,l,rfl,rfl,⟨by rw[qR.o];exact I.o,H.o,Y.o,U.o,N.o,O.o,uw.o,fun X a e=>⟨FV N.o X e,uh.o a e⟩,fun X a e=>⟨FV O.o X e,uf.o a e⟩,rF.o.1,rG.o.1,uy.o⟩⟩))
  obtain⟨v,u,J,m,B,l,rfl,rfl,hp⟩:=hcut;have HP:=zz hp;have I:=zz hp.node;have iN:(prog.info? 37).map (·.size)=some (row 74 (Ab (G i) (.slice J (V i).length m))).size:=Eg;obtain⟨RN,t⟩:=AJ (row 74 (Ab (G i) (.slice J (V i).length m)));rw[t]at I iN;have ul:=iN;have qR:=zz t;clear t hp
  go_upto_region 8 with fail
  have y:Below wc.heap.size wc wc.drew:=(Below.refl _ _).drew;have Y:=zz (HP.o.run.below y);have I:=AU I y;have z:Ae wc.drew v 37 RN:=I.o;have N:=zz ((HP.o.ra.below y).more y.size);have O:=zz ((HP.o.rm.below y).more y.size);have H:=zz (HP.o.msg.below y HP.o.msg.lt);have U:=zz (HP.o.keep.trans (Keep.of_below (R:=R) (s:=Z) y));refine wp_region_noPanic ?_;refine A8 [2] (fun w'=>Ae w' v 37 RN) Ap ?_
  generalize wc.drew=wv at*
  refine Ac 0 ?_;refine Ac 1 ?_;refine Ba 2 (.agg RN) z (hy:=?_) (h:=?_)
  . (intro w' rX;exact Az 37 _ rfl _ rfl rX underlying37 rfl ul)
  refine Ac 3 ?_;refine Ac 4 ?_;refine Ac 5 ?_;refine Ac 6 ?_;refine Aw 7 ?_;refine AX ?_ ?_
  . kernel_rfl
  intro K hK;rw[Ao Bb];have oN:=Cv (HG.o i E) (A:=J) (n:=(V i).length) (c:=m);rw[qR.o]at oN;refine wp_store_mid 37 _ _ rfl R (1+i*74) RN rfl rfl (by rw[←qR.o,Ag];exact Cg Y.o.blk (1+i*74) 74 Aa) iN oN ?_;clear z;refine hK.o _ _ ?_;(try simp only[Rg.lp]);refine Bg Ap ?_ _;refine NoPanic.normal ?_;have qW:=Y.o.setNode E (G i) J (V i) m ⟨HP.o.an.1,HP.o.an.2,hV i E,N.o,fun X a e=>⟨FV N.o X e,(HP.o.lo X a e).2⟩⟩
  rw[qR.o,show 1+74*i=1+i*74 by omega]at qW
  have rP:=zz qW;clear qW
  have H:=zz (show Ae (wv.setCells R (1+i*74) RN.toList) u 65 (Ms.AR (mk i) (mf i) (mn i) B (mz i).length l)from Al (w:=wv) HP.o.nm RN.toList (1+i*74) wv H.o)
  have T:=FQ wv R RN.toList (1+i*74);have O:=zz (Cr O.o T.size fun X a e=>T.block a.block (FV O.o X e) (fun e2=>by injection e2 with e2;exact(HP.o.lm X a e).2 e2));have tV:=zz (U.o.trans rP.o.2);have tT:=zz rP.o.1;clear T rP
  generalize(wv.setCells R (1+i*74) RN.toList)=wz at*
  have su:=zz (show ∀k,k<4->(((Z.setNode i (G i) J (V i) m).bX k).length+1)*48<=140737488351232 from fun k hk=>by
   show((Z.bX k).length+1)*48<=_
   rw[qQ.o];have:=NH s.bad ph ls mk mf mn mz hn k i
   omega)
  go_wp2_with(refine Ad rfl 65 _ rfl u rfl H.o _ underlying65 rfl Ap ?_)
  refine(iX R b0 (Z.setNode i (G i) J (V i) m) (mk i) (mf i) (mn i) B l (mz i) wz.heap.size wz tT.o su.o Nr (hz i E) O.o).mono ?_;rintro e w5 ⟨rfl,bA,bC,M,D⟩;have tQ:=zz M;have uo:=zz (tV.o.trans D);clear M D;go_wp2_with fail
  have rA:=zz (show ∀j,j<4->setAt Z.VA i J j=s.VA j\/∀a,setAt Z.VA i J j=some a->w.heap.size<=a.block from fun j r=>by
   by_cases ej:j=i
   . subst ej;rw[AY];exact .inr fun a e=>Nat.le_trans sw.o.1 (HP.o.ge a e)
   rw[Bj _ _ ej];exact rV.o j r)
  exact⟨⟨i+1,Aa,BG,_,tQ.o,d.o,(show setAt Z.F i (G i)=_ from by rw[rC.o,rU.o]),(show setAt Z.VL i (V i)=_ from by rw[qU.o,sD.o]),(show J5 Z.bX _ _ _ _=_ from by rw[rY.o,qQ.o]),uo.o,rA.o⟩,Ck⟩
 obtain rfl:i=4:=Aa;clear E;go_wp2_with fail;refine bodyPost_end (results_none rfl _ _ _) rfl ?_;exact⟨rfl,sP.o,U.o.os.trans r9.o.1,U.o.tape.trans r9.o.2.1,U.o.output.trans r9.o.2.2,Z,Y.o,d.o,rC.o,qU.o,qQ.o,rV.o⟩
end Cl
namespace Nd
open Go.RowKit Mem Rws Flat
def rz(Z:List Int)(j:Nat):Value:=.int .i64 (Z.getD j 0)
def Bp(f:Nat->Value)(rv:Nat->Option (List Int))(k i:Nat):Value:=if 39<=i/\i<39+k*3 then(match rv ((i-39)/3)with|some zs=>rz zs ((i-39)%3)|none=>f i)else f i
def O5(f:Nat->Value)(rv:Nat->Option (List Int))(S:Value):row 74 (Ab (Bp f rv 0) S)=row 74 (Ab f S):=AA fun i hi=>by
 unfold Ab Bp
 rw[Aj (show ¬(39<=i/\i<39+0*3)by omega)]
def OH(f:Nat->Value)(rv:Nat->Option (List Int))(k:Nat)(S:Value)(h:rv k=none):row 74 (Ab (Bp f rv (k+1)) S)=row 74 (Ab (Bp f rv k) S):=AA fun i hi=>by
 unfold Ab Bp
 by_cases Z:39<=i/\i<39+k*3
 . rw[Ao Z,Ao (show 39<=i/\i<39+(k+1)*3 by omega)]
 by_cases Y:39<=i/\i<39+(k+1)*3
 . rw[Aj Z,Ao Y,show(i-39)/3=k by omega,h]
 rw[Aj Z,Aj Y]
def OM(f:Nat->Value)(rv:Nat->Option (List Int))(k:Nat)(W:k<4)(S:Value){Z:List Int}(h:rv k=some Z):row 74 (over (39+k*3) 3 (rz Z) (Ab (Bp f rv k) S))=row 74 (Ab (Bp f rv (k+1)) S):=AA fun i hi=>by
 by_cases X:39+k*3<=i/\i<39+k*3+3
 .rw[Jl X.1 X.2]
  unfold Ab Bp
  rw[Aj (show ¬(i=73)by omega),Ao (show 39<=i/\i<39+(k+1)*3 by omega),show(i-39)/3=k by omega,h,show i-(39+k*3)=(i-39)%3 by omega]
 rw[Cx Aa]
 unfold Ab Bp
 by_cases Y:39<=i/\i<39+k*3
 . rw[Ao Y,Ao (show 39<=i/\i<39+(k+1)*3 by omega)]
 rw[Aj Y,Aj (show ¬(39<=i/\i<39+(k+1)*3)by omega)]
def Hz(f:Nat->Value)(rv:Nat->Option (List Int))(k i:Nat)(h:i<39):Bp f rv k i=f i:=Aj Aa
def Im{f:Nat->Value}(Y:∀i,i<73->C9 (Ar i) (f i))(rv:Nat->Option (List Int))(k:Nat)(X:k<=4):∀i,i<73->C9 (Ar i) (Bp f rv k i):=fun i hi=>by
 unfold Bp
 by_cases Z:39<=i/\i<39+k*3
 .rw[Ao Z]
  have e:Ar i=true:=by
   obtain⟨a,b⟩:=Z
   unfold Ar
   simp
   omega
  cases rv ((i-39)/3)with
  |some z=>rw[e];exact⟨_,rfl⟩
  |none=>exact Y i hi
 rw[Aj Z];exact Y i hi
def dD(f:Nat->Value):List Int:=(List.range 12).map fun j=>iv (f (39+j))
def YT{f:Nat->Value}(Y:∀i,i<73->C9 (Ar i) (f i)):((List.range 12).map fun j=>f (39+j))=Ms.AQ (dD f):=by
 unfold Ms.AQ dD
 rw[List.map_map];refine List.map_congr_left fun j Z=>?_;have Z:=List.mem_range.1 Z
 have e:Ar (39+j)=true:=by unfold Ar;simp;omega
 have:=Y (39+j) Aa;rw[e]at this;exact KP this
def KX(id Y:Int)(Z:List Cw)(i:Nat):Option (List Int):=(Be id Y 1 3 (i:Int) Z).map fun m=>m.zs
def M4{P:Program}{w:World}{ops:Array Oper}{rest:List Oper}{o:Oper}{a:Act}{Q:Exit->Act->World->Prop}(X:o.guard=none)(d s:Operand)(Y W:TypeId)(ho:o.op=.call { callee:=.builtin .copy,args:=#[d,s],argTypes:=#[Y,W] })(elem:TypeId)(hu:P.underlying Y=some (.slice elem))(hsz:(P.info? elem).map (·.size)=some 1)(b off dLen dCap:Nat)(ad:Addr)(sLen sCap:Nat)(hd:a.eval d=.slice (some ⟨b,off,none⟩) dLen dCap)(hs:a.eval s=.slice (some ad) sLen sCap)(cs:List Value)(hn:cs.length=Nat.min sLen dLen)(hsrc:∀j v,cs[j]?=some v-> w.cell? (ad.add j)=some v)(hc:∀j,j<cs.length->(w.cell? ⟨b,off+j,none⟩).isSome=true)(hf:∀j,j<cs.length-> w.frozen? ⟨b,off+j,none⟩=false)(h1:∀v∈cs,v.oneCell'=true)(h:wpList P ops Q rest (a.put o.dst (goInt cs.length)) (w.setCells b off cs)):wpList P ops Q (o::rest) a w:=by
 refine wpList_plain X fun K hK=>?_;have Z:=run_copy_cells (P:=P) w Y W o.type elem b off dLen dCap ad sLen sCap cs hu hsz hn hsrc hc hf h1
 unfold Oper.wp
 simp[execOp,ho,resolve,invoke,builtin,hd,hs,Z,Result.andThen]
 exact hK _ _ h
def mK{w:World}{base:Nat}{e:TypeId}{size n B:Nat}{v:Value}{Z:List Value}(h:w.ownsRow base e size v n Z)(X:B+1+1<base):∀g,g<=B+1+1->some g≠v.ownBlock:=fun g Y e=>by
 have:=(h.lt g e.symm).1;omega
def nU(F:Nat->Value)(n:Nat):(List.range (n+3)).map F=(List.range n).map F++(List.range 3).map fun a=>F (n+a):=by
 simp[List.range_succ]
def Ob(F:Nat->Value)(k:Nat)(Z:k<4)(w:World):(Instr.index 32 (.agg (row 12 F)) (.int .i64 (k:Int))).run prog w=.ok (.agg (row 3 fun a=>F (k*3+a))) w:=by
 obtain rfl|rfl|rfl|rfl:k=0\/k=1\/k=2\/k=3:=Aa
 all_goals kernel_rfl
end Nd
namespace Nd
open Go.RowKit Mem Rws Flat
def O9(f:Nat->Value):Nat->Nat
 |0=>0
 |d+1=>O9 f d*2+if bv (f (27+(3-d)))then 1 else 0
def Zu(f:Nat->Value):∀k,O9 f k<2 ^ k
 |0=>Nat.zero_lt_one
 |k+1=>by
  have h:=Zu f k
  unfold O9
  rw[Nat.pow_succ]
  split<;>omega
def fI(f:Nat->Value):O9 f 4=SH f 4:=by
 simp only[O9,SH]
 cases bv (f 27)<;>cases bv (f (27+1))<;>cases bv (f (27+2))<;>cases bv (f (27+3))<;>rfl
def Z0{f:Nat->Value}{S:Value}{L:Array Value}(k:Nat)(Z:k<3)(h:(row 7 fun j=>f (6+(k*7+j)))=L):(row 7 fun j=>Ab f S (6+k*7+j))=L:=by
 rw[←h];refine AA fun j Y=>?_
 unfold Ab
 rw[Aj Aa,Nat.add_assoc]
def MO(f:Nat->Value)(hf:∀i,i<73->C9 (Ar i) (f i))(S:Value)(w:World):
  Calls prog 59 #[.agg (row 74 (Ab f S))] w fun e w'=>jY w w' f e:=by
 have l:∀i,i<73->(row 74 (Ab f S))[i]?=some (f i):=fun i hi=>by rw[Ah Aa];unfold Ab;rw[Aj Aa]
 have HC:=zz l;have HF:=zz hf;clear l hf
 go_in
 go_upto_region 2 with fail
 have U:=zz (show Ae (w.alloc (.cells (row 74 (Ab f S)) 37)) w.heap.size 37 (row 74 (Ab f S))from Ae.fresh _ _ _)
 have E:=zz ((Below.refl w.heap.size w).alloc Nr (.cells (row 74 (Ab f S)) 37))
 generalize(w.alloc (.cells (row 74 (Ab f S)) 37))=w1 at*
 obtain⟨O,N⟩:=AJ (w.heap.size);have r:=zz N;rw[N]at U ⊢
 have E:=zz (show Below O w w1 from by have h:=E.o;rw[r.o]at h;exact h)
 clear N;go_wp2_with fail;obtain⟨R,hR⟩:=AJ (row 74 (Ab f S));rw[hR]at U
 have HC:=zz (fun i hi=>show R[i]?=some (f i)by rw[←hR];exact HC.o i hi)
 have rH:=zz hR;clear hR
 go_loopw[3,4] (fun lv iv wr=>∃(k n:Nat) (A:Option Addr) (c:Nat),k<=3/\n=k*7/\iv=.int .i64 (k:Int)/\lv=.slice A n c/\wr.ownsRow (O+1) 3 1 (.slice A n c) n (Ms.AQ (GY f k))/\Ae wr O 37 R/\Below O w wr) (fun _ iv _=>3-(intOf iv).toNat)
 .exact⟨0,0,none,0,Aa,rfl,rfl,rfl,World.ownsRow_nil _ _ _ _,U.o,E.o⟩
 clear U E;obtain⟨k,n,A,c,hk,hn,rfl,rfl,ho,qU,hb⟩:=hrel;have HO:=zz ho;have U:=zz qU;have E:=zz hb;have C:=zz hn;clear ho qU hb hn
 by_cases q:k<3
 .obtain⟨a,b,F,d,e,m,t,z,qV⟩:=Ki HF.o k q
  have qY:=zz (show GY f (k+1)=GY f k++[a,b,F,d,e,Qw t,m]by show GY f k++kr f k=_;rw[qV])
  have rA:=zz (Z0 (S:=S) k q z)
  have rC:=zz (show Ae wr O 37 (row 74 (Ab f S))from by rw[rH.o];exact U.o)
  have rD:=U.o.lt
  have rU:n<=14:=by have:=C.o;omega
  clear z qV
  go_upto_region 6 with(refine Cb rfl 25 _ rfl O (6+k*7) 7 rfl rC.o Aa _ underlying25 rfl Ap ?_;rw[rA.o])
  go_upto_region 7 with fail
  have X:=zz (Ae.fresh wr 25 (AZ a b F d e t m));have x:=zz ((Below.refl wr.heap.size wr).alloc Nr (.cells (AZ a b F d e t m) 25));have HO:=zz (ownsRow_below HO.o x.o);have U:=zz (U.o.below x.o U.o.lt);have E:=zz (E.o.alloc Aa (.cells (AZ a b F d e t m) 25))
  generalize(wr.alloc (.cells (AZ a b F d e t m) 25))=w2 at*
  obtain⟨gs,qR⟩:=AJ (wr.heap.size);rw[qR]at X rD ⊢;have rR:=X.o.lt;have y0:=X.o.cell 0;have y1:=X.o.cell 1;have y2:=X.o.cell 2;have y3:=X.o.cell 3;have y4:=X.o.cell 4;have y5:=X.o.cell 5;have y6:=X.o.cell 6;simp only[List.getElem?_toArray,List.getElem?_cons_zero,List.getElem?_cons_succ]at y0 y1 y2 y3 y4 y5 y6;clear qR x X;obtain⟨be,T⟩:=AJ (Qw t);rw[T]at qY;have B:=zz (DU (Ae.fresh w2 3 (PV a b F d e be m)));have W:=zz (ownsRow_below HO.o ((Below.refl w2.heap.size w2).alloc Nr (.cells (PV a b F d e be m) 3)));have D:=zz (E.o.alloc Aa (.cells (PV a b F d e be m) 3));have j:=zz (U.o.alloc (.cells (PV a b F d e be m) 3));have N:=U.o.lt
  have qQ:=zz (show(n+7:Nat)=(k+1)*7 by have:=C.o;omega)
  have qX:=zz (show Ms.AQ (GY f (k+1))=Ms.AQ (GY f k)++[.int .i64 a,.int .i64 b,.int .i64 F,.int .i64 d,.int .i64 e,.int .i64 be,.int .i64 m]by rw[qY.o];simp[Ms.AQ])
  rcases t with _|_
  .have T:(0:Int)=be:=T;subst T
   go_wp2_with(at_builtin;go_loud (refine Aq _ rfl (.tmp 24) (.tmp 38) 63 rfl (base:=O+1) Ms.C8 rfl W.o rfl (fun h=>by cases h) B.o GR GX Aa Ec ?_);intro A9 p w5 G Z Y;have L:=zz Z;have v:=zz (j.o.grown Y (fun e=>by have:=(W.o.lt _ e.symm).1;omega));have H:=zz (D.o.grown Y Ec (fun g e=>by have:=(W.o.lt g e).1;omega));clear G Z Y)
   refine⟨⟨k+1,n+7,A9,p,Aa,qQ.o,BG,rfl,by rw[qX.o];exact L.o,v.o,H.o⟩,Ck⟩
  have T:(1:Int)=be:=T;subst T
  go_wp2_with(at_builtin;go_loud (refine Aq _ rfl (.tmp 24) (.tmp 38) 63 rfl (base:=O+1) Ms.C8 rfl W.o rfl (fun h=>by cases h) B.o GR GX Aa Ec ?_);intro A9 p w5 G Z Y;have L:=zz Z;have v:=zz (j.o.grown Y (fun e=>by have:=(W.o.lt _ e.symm).1;omega));have H:=zz (D.o.grown Y Ec (fun g e=>by have:=(W.o.lt g e).1;omega));clear G Z Y)
  refine⟨⟨k+1,n+7,A9,p,Aa,qQ.o,BG,rfl,by rw[qX.o];exact L.o,v.o,H.o⟩,Ck⟩
 obtain rfl:k=3:=Aa;clear q
 rw[show((3:Nat):Int)=3 from rfl]
 obtain rfl:n=21:=C.o;go_wp2_with fail
 go_loop[7,10] (fun ru y=>∃d n:Nat,d+n=4/\y=.int .i64 ((n:Int)-1)/\ru=.int .i64 ((O9 f d:Nat):Int)) (fun _ y=>(intOf y+1).toNat)
 .exact⟨0,4,rfl,rfl,rfl⟩
 obtain⟨d,n,rO,rfl,rfl⟩:=hrel
 rcases n with _|n
 .obtain rfl:d=4:=Aa;rw[fI];go_wp2_with fail
  go_loop[8,9,11] (fun mv jv y=>∃k:Nat,k<=4/\y=.int .i64 (k:Int)/\mv=.int .i64 (Fq 31 f k)/\jv=.int .i64 (Fq 35 f k)) (fun _ _ y=>4-(intOf y).toNat)
  .exact⟨0,Aa,rfl,rfl,rfl⟩
  obtain⟨k,rP,rfl,rfl,rfl⟩:=hrel
  by_cases qZ:k<4
  .have c2: wr.cell? ⟨O,31+k,none⟩=some (.int .i64 (iv (f (31+k)))):=by rw[U.o.cell,HC.o _ Aa,←JU HF.o (31+k) Aa Aa]
   have c3: wr.cell? ⟨O,35+k,none⟩=some (.int .i64 (iv (f (35+k)))):=by rw[U.o.cell,HC.o _ Aa,←JU HF.o (35+k) Aa Aa]
   have u:=zz (show Fq 31 f (k+1)=IntKind.i64.wrap (IntKind.i64.wrap (8*Fq 31 f k)+iv (f (31+k)))by rw[Int.mul_comm];rfl)
   have s:=zz (show Fq 35 f (k+1)=IntKind.i64.wrap (IntKind.i64.wrap (8*Fq 35 f k)+iv (f (35+k)))by rw[Int.mul_comm];rfl)
   generalize Fq 31 f k=M at*
   generalize Fq 35 f k=J at*
   generalize iv (f (31+k))=x1 at*
   generalize iv (f (35+k))=x2 at*
   obtain⟨p1,rE⟩:=AJ (IntKind.i64.wrap (8*M));rw[rE]at u;obtain⟨p2,rJ⟩:=AJ (IntKind.i64.wrap (p1+x1));rw[rJ]at u;obtain⟨p3,rq⟩:=AJ (IntKind.i64.wrap (8*J));rw[rq]at s;obtain⟨p4,rG⟩:=AJ (IntKind.i64.wrap (p3+x2));rw[rG]at s;go_wp2_with fail;exact⟨⟨k+1,Aa,BG,by rw[u.o],by rw[s.o]⟩,Ck⟩
  obtain rfl:k=4:=Aa;clear qZ
  rw[show((4:Nat):Int)=4 from rfl]
  have qW:=zz (show Ms.AQ (Fy f)=Ms.AQ (GY f 3)++[.int .i64 ((SH f 4:Nat):Int),.int .i64 (Fq 31 f 4),.int .i64 (Fq 35 f 4)]by unfold Fy;simp[Ms.AQ])
  obtain⟨I,hI⟩:∃I:Int,((SH f 4:Nat):Int)=I:=⟨_,rfl⟩;obtain⟨M,hM⟩:∃I:Int,Fq 31 f 4=I:=⟨_,rfl⟩;obtain⟨J,hJ⟩:∃I:Int,Fq 35 f 4=I:=⟨_,rfl⟩;rw[hI,hM,hJ]at qW;rw[hI,hM,hJ];clear hI hM hJ C;have N:=U.o.lt;have B:=zz (DU (Ae.fresh wr 3 (G9 I M J)));have W:=zz (ownsRow_below HO.o ((Below.refl wr.heap.size wr).alloc Nr (.cells (G9 I M J) 3)));have D:=zz (E.o.alloc Aa (.cells (G9 I M J) 3))
  go_wp2_with(at_builtin;go_loud (refine Aq _ rfl (.tmp 73) (.tmp 77) 63 rfl (base:=O+1) Ms.C8 rfl W.o rfl (fun h=>by cases h) B.o GR GX Aa Ec ?_);intro A9 p w5 G Z Y;have L:=zz Z;have H:=zz (D.o.grown Y Ec (fun g e=>by have:=(W.o.lt g e).1;omega));clear G Z Y)
  go_ret
  refine⟨A9,p,rfl,?_,by rw[r.o];exact H.o⟩;rw[qW.o,r.o];exact Bf L.o Aa
 have c1: wr.cell? ⟨O,27+n,none⟩=some (.bool (bv (f (27+n)))):=by rw[U.o.cell,HC.o _ Aa,←Kb HF.o (27+n) Aa Aa]
 have rF:=zz (Zu f d)
 have V:=zz (show O9 f (d+1)=O9 f d*2+if bv (f (27+n))then 1 else 0 by show O9 f d*2+(if bv (f (27+(3-d)))then 1 else 0)=_;rw[show 3-d=n by omega])
 generalize O9 f d=I at*
 have rV:I<8:=Nat.lt_of_lt_of_le rF.o (Nat.pow_le_pow_right Aa (show d<=3 by omega))
 have rQ:(I:Int)<8:=Aa
 rw[show(((n+1:Nat):Int)-1)=(n:Int)by omega]
 have rT:(n:Int)<4:=Aa;have rM:(0:Int)<=(n:Int):=Aa
 cases hbv:bv (f (27+n))with
 |false=>
  rw[hbv]at c1 V
  have V:=zz (show O9 f (d+1)=I*2 by rw[V.o];rfl)
  clear hbv;go_wp2_with fail;exact⟨⟨d+1,n,Aa,BG,by rw[V.o];go_num⟩,by simp[intOf]⟩
 |true=>
  rw[hbv]at c1 V
  have V:=zz (show O9 f (d+1)=I*2+1 by rw[V.o];rfl)
  clear hbv;go_wp2_with fail;exact⟨⟨d+1,n,Aa,BG,by rw[V.o];go_num⟩,by simp[intOf]⟩
end Nd
end Go.Proofs.YtjobajeggllmiaaGreat
