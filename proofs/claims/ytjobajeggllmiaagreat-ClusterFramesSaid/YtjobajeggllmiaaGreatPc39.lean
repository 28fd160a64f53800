import Derived.Test.YtjobajeggllmiaaGreatPc0
import Derived.Test.YtjobajeggllmiaaGreatPc38
set_option linter.all false
set_option maxHeartbeats 100000000
set_option maxRecDepth 100000
namespace Go.Proofs.YtjobajeggllmiaaGreat
open Ms Rg _root_.Go.Proofs.Tryz
namespace Nd
open Go.RowKit Mem Rws Flat
def aC(f:Nat->Value)(hf:∀i,i<73->C9 (Ar i) (f i))(k:Nat)(hk:k<4)(sZ:f 0=.int .i64 (k:Int))(fr:Int)(sI:f 1=.int .i64 fr)(A:Option Addr)(c:Nat)(Z:List Bool)(AI:Option Addr)(ci:Nat)(ms:List Cw)(B:Nat)(w:World)(hB:B<=w.heap.size)(hA:A=none->c=0)(tJ:Z.length<=c)(hl:Z.length<=140737488351232)(hr:Rd w B 1 A Z.length (Au Z))(tH:ms.length<=140737488355328)(hm:Cc w B AI ms):
  Calls prog 21 #[.agg (row 74 (Ab f (.slice A Z.length c))),.slice AI ms.length ci] w fun e w'=>Uh w w' (Dy (fun i:Nat=>Be (k:Int) fr 5 24 (i:Int) ms) f) Z (row 14 (EQ (Dy (fun i:Nat=>Be (k:Int) fr 5 24 (i:Int) ms) f))) e:=by
 have rA:∀(A:Option Addr) (n c:Nat),(row 74 (Ab f (.slice A n c))).all (·.oneCell')=true:=fun A n c=>Cv hf;have HO:=zz rA;have HF:=zz hf;have tZ:=zz sZ;have uy:=zz sI;clear hf rA sZ sI
 go_in
 go_upto_region 1 with fail
 have D3:Hid (Ae (((w.alloc (.cells (row 74 (Ab f (.slice A Z.length c))) 37)).alloc (.cells zeroCells37 37)).alloc (.cells #[.int .i64 0,.int .i64 0,.int .i64 0,.int .i64 0,.int .i64 0,.int .i64 0,.int .i64 0,.int .i64 0,.int .i64 0,.bool false,.bool false,.bool false,.bool false,.bool false] 70)) w.heap.size 37 (row 74 (Ab f (.slice A Z.length c)))):=zz (((Ae.new rfl).alloc _).alloc _);have D6:Hid (Ae (((w.alloc (.cells (row 74 (Ab f (.slice A Z.length c))) 37)).alloc (.cells zeroCells37 37)).alloc (.cells #[.int .i64 0,.int .i64 0,.int .i64 0,.int .i64 0,.int .i64 0,.int .i64 0,.int .i64 0,.int .i64 0,.int .i64 0,.bool false,.bool false,.bool false,.bool false,.bool false] 70)) (w.heap.size+1) 37 zeroCells37):=zz ((Ae.new Bq).alloc _);have D7:Hid (Ae (((w.alloc (.cells (row 74 (Ab f (.slice A Z.length c))) 37)).alloc (.cells zeroCells37 37)).alloc (.cells #[.int .i64 0,.int .i64 0,.int .i64 0,.int .i64 0,.int .i64 0,.int .i64 0,.int .i64 0,.int .i64 0,.int .i64 0,.bool false,.bool false,.bool false,.bool false,.bool false] 70)) (w.heap.size+1+1) 70 #[.int .i64 0,.int .i64 0,.int .i64 0,.int .i64 0,.int .i64 0,.int .i64 0,.int .i64 0,.int .i64 0,.int .i64 0,.bool false,.bool false,.bool false,.bool false,.bool false]):=zz (Ae.new Bq);have Y:=zz (((((Below.refl w.heap.size w).alloc Nr (.cells (row 74 (Ab f (.slice A Z.length c))) 37)).alloc Bq (.cells zeroCells37 37)).alloc Ec (.cells #[.int .i64 0,.int .i64 0,.int .i64 0,.int .i64 0,.int .i64 0,.int .i64 0,.int .i64 0,.int .i64 0,.int .i64 0,.bool false,.bool false,.bool false,.bool false,.bool false] 70)))
 have O:=zz hr;have uq:=zz hm;clear hr hm
 generalize(((w.alloc (.cells (row 74 (Ab f (.slice A Z.length c))) 37)).alloc (.cells zeroCells37 37)).alloc (.cells #[.int .i64 0,.int .i64 0,.int .i64 0,.int .i64 0,.int .i64 0,.int .i64 0,.int .i64 0,.int .i64 0,.int .i64 0,.bool false,.bool false,.bool false,.bool false,.bool false] 70))=W at*
 have rC:∀A (n:Nat) c,(prog.info? 37).map (·.size)=some (row 74 (Ab f (.slice A n c))).size:=fun A n c=>by rw[Ag];kernel_rfl
 have HI:=zz rC;clear rC;have uL:w.heap.size+1+1<W.heap.size:=D7.o.lt;have sW:=HI.o A Z.length c;obtain⟨R1,rJ⟩:=AJ (row 74 (Ab f (.slice A Z.length c)));have rH:=zz rJ;rw[rJ]at D3 sW;clear rJ
 go_wp2_with(refine Ad rfl 37 _ rfl w.heap.size rfl D3.o _ underlying37 rfl sW ?_)
 rw[←rH.o];refine(Ho f HF.o A c Z B _ (Nat.le_trans hB Y.o.size) hA tJ hl (O.o.below (Y.o.mono hB))).mono ?_;rintro e w1 ⟨T,R,rfl,ru,L⟩;rw[rH.o];have sU:=zz ru;have sH:=CU Y L;have uj:=L.size;have G:=HI.o T Z.length R;have rM:=HO.o T Z.length R
 have qR:(row 74 (Ab f (.slice T Z.length R)))[0]?=some (.int .i64 (k:Int)):=by rw[Ah Aa];exact congrArg some tZ.o
 have rW:(row 74 (Ab f (.slice T Z.length R)))[1]?=some (.int .i64 fr):=by rw[Ah Aa];exact congrArg some uy.o
 have rR:R1.size=(row 74 (Ab f (.slice T Z.length R))).size:=by rw[←rH.o,Ag,Ag]
 obtain⟨z,rO⟩:=AJ (row 74 (Ab f (.slice T Z.length R)));have uf:=zz rO;rw[rO]at G rM qR rW rR ⊢;clear rO;have E3:=AU D3 L;have F3:=zz (E3.o.setRow z);have F6:=zz ((D6.o.below L D6.o.lt).setRow_other (g':=w.heap.size) Aa z);have F7:=zz ((D7.o.below L D7.o.lt).setRow_other (g':=w.heap.size) Aa z);have sP:=zz (below_setRow sH.o Nr z)
 have sG:=zz (Ay sU.o (show w.heap.size<W.heap.size by omega) z)
 have cT:=fun w=>Gu z (k:Int) qR w;have uG:¬((k:Int)<0):=Aa
 have tF:Dt (k:Int)=false:=by unfold Dt;simp;omega
 rw[tF]at cT;clear L ru tF
 go_upto_region 4 with(first
  |(refine wpList_store_row rfl 37 _ _ rfl w.heap.size z rfl rfl 37 _ E3.o G rR rM ?_)
  |(refine Ad rfl 37 _ rfl w.heap.size rfl F3.o _ underlying37 rfl G ?_)
  |(go_at_call 37;refine(cT _).mono ?_;rintro e w3 ⟨rfl,N⟩;have G3:=AU F3 N;have G6:=AU F6 N;have X:=AU F7 N;have y:=CU sP N;have sK:=GJ sG N;have uD:=Nat.le_trans uj (Nat.le_trans (show w1.heap.size<=(w1.setRow w.heap.size z).heap.size from(below_setRow (Below.refl 0 w1) (Nat.zero_le _) z).size) N.size);clear N))
 clear Y sH sP sU sG D3 D6 D7 E3 F3 F6 F7 cT rR;have cH:=La z (k:Int) fr qR rW AI ci ms 5 24 Aa B w3 (Nat.le_trans hB y.o.size) tH (uq.o.below (y.o.mono hB))
 rw[show((24:Nat):Int)=24 from rfl]at cH
 have CH:=zz cH;clear cH
 go_wp2_with(refine Ad rfl 37 _ rfl w.heap.size rfl G3.o _ underlying37 rfl G ?_)
 refine CH.o.mono ?_;rintro e w4 ⟨s,rfl,hs,hb⟩;have G3:=AU G3 hb;have G6:=AU G6 hb;have X:=AU X hb;have V:=GJ sK hb;have Y:=CU y hb;have sQ:=zz (fun i hi=>Jt.of (hs i hi));have uE:=zz (X.o.lt);have o4:(row 4 s).all (·.oneCell')=true:=row_one fun i hi=>(hs i hi).one;have i4:(prog.info? 88).map (·.size)=some (row 4 s).size:=Eg
 have z4:(#[.slice none 0 0,.slice none 0 0,.slice none 0 0,.slice none 0 0]:Array Value).size=(row 4 s).size:=by rw[Ag];rfl
 rw[←uf.o]at G3;clear hs hb sK y CH rM G O qR rW;obtain⟨R4,rY⟩:=AJ (row 4 s);rw[rY]at o4 i4 z4 ⊢;have ul:=zz rY;clear rY;have rV:=zz (Ae.fresh w4 88 #[.slice none 0 0,.slice none 0 0,.slice none 0 0,.slice none 0 0])
 go_upto_region 5 with(refine wpList_store_row rfl 88 _ _ rfl w4.heap.size R4 rfl rfl 88 _ rV.o i4 z4 o4 ?_)
 have HH:=zz (rV.o.setRow R4);have U:Below w4.heap.size w4 ((w4.alloc (.cells #[.slice none 0 0,.slice none 0 0,.slice none 0 0,.slice none 0 0] 88)).setRow w4.heap.size R4):=below_setRow (DC) Nr R4;have G3:=AU G3 U;have G6:=AU G6 U;have X:=AU X U;have V:=GJ V U;have Y:=CU Y U;have HS:=zz (fun i hi=>((sQ.o i hi).below U).more U.size);clear U sQ rV
 generalize((w4.alloc (.cells #[.slice none 0 0,.slice none 0 0,.slice none 0 0,.slice none 0 0] 88)).setRow w4.heap.size R4)=D at*
 obtain⟨gh,r9⟩:=AJ (w4.heap.size);rw[r9]at HH ⊢;clear r9;obtain⟨st,rE⟩:=HF.o 72 Aa;obtain⟨vv,rZ⟩:=HF.o 71 Aa;obtain⟨dd,rF⟩:=HF.o 70 Aa
 have tV:=zz (show Jd f=(st&&(vv !=dd))by unfold Jd;rw[rE,rZ,rF];rfl)
 have r:=zz (fun v h1 h2=>af f HF.o s (fun i:Nat=>Be (k:Int) fr 5 24 (i:Int) ms) (fun i m h=>IE h) (.slice T Z.length R) w.heap.size v h1 h2)
 have tX: D.cell? ⟨w.heap.size,72,none⟩=some (.bool st):=by rw[G3.o.cell,Ah Aa];exact congrArg some rE
 have tQ: D.cell? ⟨w.heap.size,71,none⟩=some (.int .i64 vv):=by rw[G3.o.cell,Ah Aa];exact congrArg some rZ
 have uh: D.cell? ⟨w.heap.size,70,none⟩=some (.int .i64 dd):=by rw[G3.o.cell,Ah Aa];exact congrArg some rF
 clear rE rZ rF;obtain⟨o,ho⟩:=AJ (fun i:Nat=>Be (k:Int) fr 5 24 (i:Int) ms);rw[ho]at r;have tT:=zz ho;clear ho;rw[ul.o]at r
 have x:=zz (fun(h:Jd f=true)=>show Dy o f=Gc o f from Ao h)
 have H:=zz (fun(h:Jd f=false)=>show Dy o f=f from Aj (by rw[h];exact Bool.false_ne_true))
 rw[tV.o]at x H;obtain⟨F,qX⟩:=AJ (Dy o f);have tY:=zz qX
 have rG:=zz (show ∀i,i<73->C9 (Ar i) (F i)from by rw[←qX];exact Nv HF.o o)
 rw[qX]at x H;clear qX
 cases st
 case' true=>cases hne:(vv !=dd)
 case' false=>
  have I:=H.o rfl
 case' true.false=>
  have I:=H.o (by rw[hne];rfl)
 case' true.true=>
  have I:=zz (x.o (by rw[hne];rfl))
  go_wp2_with(refine Ad rfl 88 _ rfl gh rfl HH.o _ underlying88 rfl i4 ?_)
  refine(r.o _ G3.o HS.o).mono ?_;rintro e D ⟨rfl,sD,E⟩;have G6:=zz (G6.o.grown E (fun h=>by injection h with h;omega));have X:=zz (X.o.grown E (fun h=>by injection h with h;omega));have V:=zz (Ew V.o E (fun g e=>by injection e with e;subst e;exact⟨_,_,G3.o,El⟩));have Y:=zz (Y.o.grown E Y.o.size (fun g e=>by injection e with e;omega));have G3:=zz sD;have I:=I.o;clear sD E r
 all_goals
  rw[←I]at G3;clear x H I
  go_upto_region 7 with fail
  clear uh tQ tX;obtain⟨a0,b0,u0,u1,u2,x0,x1,x2,dg,sg,i0,i1,i2,i3,q0,q1,qU,qW,b,q6,rX,rQ,qY,qQ,qV,d,l,q⟩:=Oy rG.o
  have qZ:=zz (fun(i:Nat) (hi:i<73)=>show(row 74 (Ab F (.slice T Z.length R)))[i]?=some (F i)from by rw[Ah Aa];unfold Ab;rw[Aj Aa])
  have HU:=zz (show(row 3 fun j=>Ab F (.slice T Z.length R) (67+j))=#[.int .i64 u0,.int .i64 u1,.int .i64 u2]from by rw[←qU,←qW,←b];rfl)
  have tL:=zz (show(row 4 fun j=>Ab F (.slice T Z.length R) (27+j))=#[.bool i0,.bool i1,.bool i2,.bool i3]from by rw[←qV,←d,←l,←q];rfl)
  have HX:=zz (show(row 21 fun j=>Ab F (.slice T Z.length R) (6+j))=row 21 (fun j=>F (6+j))from AA fun j hj=>by unfold Ab;rw[Aj Aa])
  have uM:=zz (And.intro q6 (And.intro rX rQ))
  have um:=zz (show row 14 (VZ F 0)=#[.int .i64 a0,.int .i64 b0,.int .i64 u0,.int .i64 u1,.int .i64 u2,.int .i64 0,.int .i64 0,.int .i64 0,.int .i64 dg,.bool sg,.bool i0,.bool i1,.bool i2,.bool i3]from by rw[gT,q0,q1,qU,qW,b,qY,qQ,qV,d,l,q])
  have sN:=zz (show row 14 (EQ F)=#[.int .i64 a0,.int .i64 b0,.int .i64 u0,.int .i64 u1,.int .i64 u2,.int .i64 x0,.int .i64 x1,.int .i64 x2,.int .i64 dg,.bool sg,.bool i0,.bool i1,.bool i2,.bool i3]from by rw[JO,q0,q1,qU,qW,b,q6,rX,rQ,qY,qQ,qV,d,l,q])
  have y0:=(G3.o.cell 0).trans ((qZ.o 0 Aa).trans (congrArg some q0));have y1:=(G3.o.cell 1).trans ((qZ.o 1 Aa).trans (congrArg some q1));have tK:=(G3.o.cell 70).trans ((qZ.o 70 Aa).trans (congrArg some qY));have ug:=(G3.o.cell 72).trans ((qZ.o 72 Aa).trans (congrArg some qQ));clear q0 q1 qU qW b q6 rX rQ qY qQ qV d l q
  go_upto_region 8 with(first
   |(refine Cb rfl 31 _ rfl w.heap.size 67 3 rfl G3.o Aa _ underlying31 rfl Ap ?_;rw[HU.o])
   |(refine Cb rfl 27 _ rfl w.heap.size 27 4 rfl G3.o Aa _ underlying27 rfl Ap ?_;rw[tL.o]))
  have O:=zz (show Ae (D.alloc (.cells #[.int .i64 a0,.int .i64 b0,.int .i64 u0,.int .i64 u1,.int .i64 u2,.int .i64 0,.int .i64 0,.int .i64 0,.int .i64 dg,.bool sg,.bool i0,.bool i1,.bool i2,.bool i3] 70)) D.heap.size 70 (row 14 (VZ F 0))from by rw[um.o];exact Ae.fresh _ _ _)
  have tC:=zz (fun g (e:Value.ownBlock (.slice T Z.length R)=some g)=>(V.o.lt g e).2);have M:=(Below.refl D.heap.size D).alloc Nr (.cells #[.int .i64 a0,.int .i64 b0,.int .i64 u0,.int .i64 u1,.int .i64 u2,.int .i64 0,.int .i64 0,.int .i64 0,.int .i64 dg,.bool sg,.bool i0,.bool i1,.bool i2,.bool i3] 70);have uH:=Y.o.size;have G3:=AU G3 M;have G6:=AU G6 M;have uo:=X.o.lt;have X:=AU X M;have V:=GJ V M;have Y:=CU Y M;clear M y0 y1 tK ug
  generalize(D.alloc (.cells #[.int .i64 a0,.int .i64 b0,.int .i64 u0,.int .i64 u1,.int .i64 u2,.int .i64 0,.int .i64 0,.int .i64 0,.int .i64 dg,.bool sg,.bool i0,.bool i1,.bool i2,.bool i3] 70))=w9 at*
  obtain⟨gr,su⟩:=AJ (D.heap.size);rw[su]at O uo tC ⊢;clear su;have uz:=O.o.lt;have uw:=zz (fun(k:Nat) (hk:k<3) (w:World)=>K8 (fun j=>F (6+j)) k hk w)
  go_wp2_with(refine Cb rfl 26 _ rfl w.heap.size 6 21 rfl G3.o Aa _ underlying26 rfl Ap ?_;rw[HX.o])
  generalize(row 21 fun j=>F (6+j))=uJ at*
  go_loopw[49] (fun iv wr=>∃j:Nat,j<=3/\iv=.int .i64 (j:Int)/\Ae wr gr 70 (row 14 (VZ F j))/\Below gr w9 wr) (fun iv _=>3-(intOf iv).toNat)
  case atStart=>exact⟨0,Aa,rfl,O.o,Below.refl _ _⟩
  clear O;obtain⟨j,hj,rfl,sM,tu⟩:=hrel;have O:=zz sM;have J:=zz tu;clear sM tu;have sS:=O.o.lt
  by_cases rq:j<3
  .obtain⟨xa,xb,xc,xd,xe,xm,xt,rD,sw⟩:=jO rG.o j rq;have u:=zz sw;have sJ:=fun w=>uw.o j rq w;rw[rD]at sJ;clear rD sw;have uF:(j:Int)<3:=Aa;have uI:(0:Int)<=(j:Int):=Aa
   go_upto_region 11 with fail
   have HZ:=zz (Ae.fresh wr 25 #[.int .i64 xa,.int .i64 xb,.int .i64 xc,.int .i64 xd,.int .i64 xe,.bool xt,.int .i64 xm]);have O:=zz (O.o.alloc (.cells #[.int .i64 xa,.int .i64 xb,.int .i64 xc,.int .i64 xd,.int .i64 xe,.bool xt,.int .i64 xm] 25));have J:=zz (J.o.alloc (Nat.le_of_lt sS) (.cells #[.int .i64 xa,.int .i64 xb,.int .i64 xc,.int .i64 xd,.int .i64 xe,.bool xt,.int .i64 xm] 25))
   generalize(wr.alloc (.cells #[.int .i64 xa,.int .i64 xb,.int .i64 xc,.int .i64 xd,.int .i64 xe,.bool xt,.int .i64 xm] 25))=wa at*
   obtain⟨gs,sO⟩:=AJ (wr.heap.size);rw[sO]at HZ ⊢;clear sO sJ;have z0:=HZ.o.cell 0;simp only[List.getElem?_toArray,List.getElem?_cons_zero]at z0;have zc:=O.o.cell (5+j);rw[Ah Aa]at zc;have zf:=O.o.thaw (5+j);go_wp2_with fail;exact⟨⟨j+1,Aa,BG,by rw[←fZ F j rq u.o];exact O.o.set (5+j) _,J.o.setCell (p:=⟨gr,5+j,none⟩) Nr _⟩,Ck⟩
  obtain rfl:j=3:=Aa;clear rq
  rw[show((3:Nat):Int)=3 from rfl]
  have hq:∀g,g<gr->∀ {t cs},Ae w9 g t cs->Ae wr g t cs:=fun g hg _ _ h=>h.below J.o hg;have uK:=G3.o.lt;have G3:=zz (hq _ Aa G3.o);have G6:=zz (hq _ Aa G6.o);have X:=zz (hq _ Aa X.o);have V:=zz (Vv V.o J.o tC.o);have Y:=zz (Y.o.trans (J.o.mono Aa))
  have HQ:=zz (show Ae wr gr 70 (row 14 (EQ F))from by rw[←dI];exact O.o)
  have o5:=Cv rG.o (A:=T) (n:=Z.length) (c:=R);have i5:(prog.info? 37).map (·.size)=some (row 74 (Ab F (.slice T Z.length R))).size:=Eg;have z5:(zeroCells37).size=(row 74 (Ab F (.slice T Z.length R))).size:=Eg;have iP:(prog.info? 70).map (·.size)=some (row 14 (EQ F)).size:=Eg
  have oP:(row 14 (EQ F)).all (·.oneCell')=true:=by rw[sN.o];simp[Value.oneCell']
  obtain⟨C,rP⟩:=AJ (row 74 (Ab F (.slice T Z.length R)));rw[rP]at o5 i5 z5 G3;have tO:=zz rP;clear rP;obtain⟨RP,rU⟩:=AJ (row 14 (EQ F));rw[rU]at iP oP HQ sN;have u:=zz rU;clear rU
  go_upto_region 13 with fail
  have G3:=zz G3.o.drew;have G6:=zz G6.o.drew;have X:=zz X.o.drew;have HQ:=zz HQ.o.drew;have V:=zz (ownsRow_below V.o ((Below.refl wr.heap.size wr).drew));have Y:=zz Y.o.drew;have HS:=And.intro G3.o HQ.o;refine wp_region_noPanic ?_;refine A8 [0,1] (fun w'=>Ae w' w.heap.size 37 C/\Ae w' gr 70 RP) Ap ?_
  generalize wr.drew=V0 at*
  refine Ba 0 (.agg C) HS (hy:=?_) (h:=?_)
  . (intro w' rT;exact Az 37 _ rfl _ rfl rT.1 underlying37 rfl i5)
  refine Ba 1 (.agg RP) HS (hy:=?_) (h:=?_)
  . (intro w' rT;exact Az 70 _ rfl _ rfl rT.2 underlying70 rfl iP)
  refine Aw 2 ?_;refine Bt ?_;intro K hK;rw[Ao Bb];refine wp_store_row 37 _ _ rfl (w.heap.size+1) C rfl rfl 37 _ G6.o i5 z5 o5 ?_;have G3:=zz (G3.o.setRow_other (g':=w.heap.size+1) Aa C);have X:=zz (X.o.setRow_other (g':=w.heap.size+1) Aa C);have HQ:=zz (HQ.o.setRow_other (g':=w.heap.size+1) Aa C);have G6:=zz (G6.o.setRow C)
  have Y:=zz (below_setRow Y.o (show w.heap.size<=w.heap.size+1 by omega) C)
  have V:=zz (Ay V.o (show w.heap.size+1<W.heap.size by omega) C)
  clear HS
  generalize(V0.setRow (w.heap.size+1) C)=V1 at*
  have HS:=And.intro G3.o HQ.o;refine hK.o _ _ HS ?_;clear hK K;refine Aw 3 ?_;refine AX ?_ ?_
  . kernel_rfl
  intro K hK;rw[Ao Bb];refine wp_store_row 70 _ _ rfl (w.heap.size+1+1) RP rfl rfl 70 _ X.o iP (by rw[←u.o,JO];rfl) oP ?_;have G6:=zz (G6.o.setRow_other (g':=w.heap.size+1+1) Aa RP);have X:=zz (X.o.setRow RP)
  have Y:=zz (below_setRow Y.o (show w.heap.size<=w.heap.size+1+1 by omega) RP)
  have V:=zz (Ay V.o (show w.heap.size+1+1<W.heap.size by omega) RP)
  clear HS
  generalize(V1.setRow (w.heap.size+1+1) RP)=V2 at*
  refine hK.o _ _ ?_;clear hK K;(try simp only[Rg.lp]);refine Bg Ap ?_ _;refine NoPanic.normal ?_;go_wp2_with fail;exact Da rfl rfl rfl G6.o ⟨by rw[underlying37],i5⟩ X.o ⟨by rw[underlying70],iP⟩ rfl ⟨T,R,by rw[tT.o,tY.o,tO.o,u.o],Rd.Bu V.o,Y.o,fun a h=>Nat.le_trans Aa (Db V.o a h),BU V.o⟩
end Nd
end Go.Proofs.YtjobajeggllmiaaGreat
