import Derived.Test.YtjobajeggllmiaaGreatPc0
import Derived.Test.YtjobajeggllmiaaGreatPc45
set_option linter.all false
set_option maxHeartbeats 100000000
set_option maxRecDepth 100000
namespace Go.Proofs.YtjobajeggllmiaaGreat
open _root_.Go.Proofs.Tryz
namespace Cf
open Go.ChangeShapes Go.WideShapes Go.ChangeAt Go.RowKit Mem Rws Nd Cl
def l7(l:IC)(a:Option Addr)(c:Nat):∀u∈Ov l a c,u.oneCell'=true:=fun u Z=>by
 unfold Ov at Z
 simp at Z
 rcases Z with rfl|rfl|rfl<;>rfl
def Q7(A:Option Addr)(c:Nat)(Y:List He)(w:World)(hl:Y.length*128<=140737488351232)(rU:∀x∈Y,x.ls.length*40<=140737488351232)(h:Gn w w.heap.size A Y):
  Calls prog 7 #[.slice A Y.length c] w fun e w'=>∃A' R,e=.returned (.slice A' Y.length R)/\(A'=none->R=0)/\Y.length<=R/\Gn w' w'.heap.size A' Y/\Below w.heap.size w w':=by
 have tu:=zz h;have sP:=zz rU;clear h rU
 go_in
 go_wp2_with fail
 go_loopw[3,4] (fun u v wr=>∃(i:Nat) (A':Option Addr) (R:Nat) (cs:List Value),i<=Y.length/\v=.int .i64 (i:Int)/\u=.slice A' i R/\wr.ownsRow w.heap.size 43 14 (.slice A' i R) i cs/\(∀j,j<i->∃V U,(cs.drop (j*14)).take 14=nu (Y.getD j default) V U/\DT wr w.heap.size V U (Y.getD j default).ls)/\Below w.heap.size w wr) (fun _ v _=>Y.length-(intOf v).toNat)
 .exact⟨0,none,0,[],Aa,rfl,rfl,World.ownsRow_nil _ _ _ _,fun j hj=>by omega,Below.refl _ _⟩
 obtain⟨i,A',R,cs,hi,rfl,rfl,ho,sw,hb⟩:=hrel;have r:=zz ho;have r9:=zz sw;have HB:=zz hb;clear ho sw hb
 by_cases tV:i<Y.length
 .have hx:Y[i]?=some (Y.getD i default):=by rw[List.getD_eq_getElem?_getD,List.getElem?_eq_getElem tV];rfl
  obtain⟨x,qZ⟩:=AJ (Y.getD i default);rw[qZ]at hx;have sQ:=zz qZ;have ru:=zz (sP.o x (List.mem_of_getElem? hx));clear qZ;obtain⟨b,o,V,U,rfl,qX,rE,tT,tL,sN,G⟩:=tu.o.at hx;have tO:=zz G;have rR:=zz qX
  have sI:=zz (show wr.rangeAt b (o+i*14) ((List.range 14).map (BP x.rd x.bad (.slice V x.ls.length U)))from fun j v hv=>(HB.o.cell (p:=⟨b,o+i*14+j,none⟩) qX).trans (rE j v hv))
  have sW:=zz (show w.cell? ⟨b,o+i*14+13,none⟩=some (.slice V x.ls.length U)from rE 13 _ (by rw[List.getElem?_map,List.getElem?_range Aa];rfl))
  have uh:(0:Int)<=(i:Int):=Aa;have ug:(i:Int)<(Y.length:Int):=Aa;clear hx qX rE tT G tL sN;have F1:Hid (Ae (wr.alloc (.cells VB 43)) wr.heap.size 43 VB):=zz (Ae.fresh _ _ _);have Z:Below wr.heap.size wr (wr.alloc (.cells VB 43)):=DC;obtain⟨R1,M⟩:=AJ (row 14 (BP x.rd x.bad (.slice V x.ls.length U)))
  have i1:(prog.info? 43).map (·.size)=some R1.size:=by rw[←M,Ag];kernel_rfl
  have z1:(VB:Array Value).size=R1.size:=by rw[←M,Ag];rfl
  have o1:R1.all (·.oneCell')=true:=by rw[←M];exact row_one fun j _=>MF _ _ _ _ _ j
  have rM:=zz M
  go_upto_region 6 with(first
   |(refine Qb rfl 43 _ rfl b (o+i*14) 14 rfl (BP x.rd x.bad (.slice V x.ls.length U)) sI.o _ underlying43 rfl Ap ?_;rw[M])
   |(refine wpList_store_row rfl 43 _ _ rfl wr.heap.size R1 rfl rfl 43 _ F1.o i1 z1 o1 ?_))
  have BV:=zz (F1.o.setRow R1);have HBV:=zz (below_setRow Z Nr R1);clear F1 Z M i1 z1 o1 sI
  generalize((wr.alloc (.cells VB 43)).setRow wr.heap.size R1)=wu at*
  rw[←rM.o]at BV;have W:=BV.o.cell 13
  rw[Ah Aa,show BP x.rd x.bad (.slice V x.ls.length U) 13=.slice V x.ls.length U from rfl]at W
  have rD:=BV.o.thaw 13
  go_upto_region 7 with fail
  have hs:=BV.o.set 13 (.slice none 0 0);rw[OU]at hs;replace BV:=zz hs;replace HBV:=zz (HBV.o.setCell (p:=⟨wr.heap.size,13,none⟩) Nr (.slice none 0 0));clear hs W rD rM
  generalize(wu.setCell ⟨wr.heap.size,13,none⟩ (.slice none 0 0))=wt at*
  obtain⟨F,d⟩:=AJ (wr.heap.size);have E:=zz d
  have qV:=zz (show w.heap.size<=F by rw[←d];exact HB.o.size)
  rw[d]at BV HBV ⊢;clear d
  generalize wr=wb at*
  go_wp2_with fail
  go_loopw[6] (fun v wr=>∃(k:Nat) (q:Option Addr) (LD:Nat),k<=x.ls.length/\v=.int .i64 (k:Int)/\Ae wr F 43 (row 14 (BP x.rd x.bad (.slice q k LD)))/\DT wr (F+1) q LD (x.ls.take k)/\Below F wb wr) (fun v _=>x.ls.length-(intOf v).toNat)
  .exact⟨0,none,0,Aa,rfl,BV.o,DT.nil _ _,HBV.o⟩
  clear BV HBV;obtain⟨k,q,LD,hk,rfl,rT,L,rX⟩:=hrel;have BX:=zz rT;have T:=zz L;have D:=zz rX;clear rT L rX;have sO:=(((D.o.mono qV.o).cell (p:=⟨b,o+i*14+13,none⟩) rR.o).trans (HB.o.cell (p:=⟨b,o+i*14+13,none⟩) rR.o)).trans sW.o;have tZ:(0:Int)<=(k:Int):=Aa
  by_cases rJ:k<x.ls.length
  .have tY:(k:Int)<(x.ls.length:Int):=Aa;have hm:x.ls[k]?=some x.ls[k]:=List.getElem?_eq_getElem rJ
   have rO:=zz (show x.ls.take (k+1)=x.ls.take k++[x.ls[k]]from by rw[List.take_add_one,hm];rfl)
   generalize x.ls[k]=l at hm rO;have sD:=zz ((tO.o.below HB.o).below (D.o.mono qV.o));obtain⟨b2,o2,a,ca,e2,tQ,x0,x1,x2,h2,h3,h4,h5,h6⟩:=sD.o.at hm;have tC:=zz h2;have sH:=zz h6;have rY:=zz h4;have tH:=zz h5;have sS:=zz h3;subst e2;clear hm h2 h3 h4 h5 h6 sD tQ;have Z:Below wr.heap.size wr (wr.alloc (.cells (J7 l.p l.t a l.bs.length ca) 76)):=DC
   have BY:=zz (show Ae (wr.alloc (.cells (J7 l.p l.t a l.bs.length ca) 76)) wr.heap.size 76 (J7 l.p l.t a l.bs.length ca)from Ae.fresh _ _ _)
   have su:=zz (show w.heap.size<=wr.heap.size from Nat.le_trans qV.o (Nat.le_of_lt BX.o.lt))
   have sG:=zz (sH.o.below (Z.mono su.o))
   have qQ:=zz (show wr.heap.size<(wr.alloc (.cells (J7 l.p l.t a l.bs.length ca) 76)).heap.size by simp)
   go_upto_region 11 with fail
   have rG:=zz Z;clear Z x0 x1 x2 sO
   generalize(wr.alloc (.cells (J7 l.p l.t a l.bs.length ca) 76))=wy at*
   obtain⟨gy,rA⟩:=AJ (wr.heap.size);have rC:=zz rA;rw[rA]at BY qQ ⊢;clear rA;have z2:=BY.o.cell 2;simp only[List.getElem?_toArray,List.getElem?_cons_zero,List.getElem?_cons_succ]at z2;go_wp2_with fail;refine(Sm.aR a ca l.bs w.heap.size wy (by have:=su.o;have:=rC.o;have:=qQ.o;omega) tC.o sS.o (by have:=rY.o;omega) sG.o).mono ?_;rintro e w5 ⟨A3,X,rfl,H,hb⟩;have B5:=AU BY hb;have z2:=B5.o.cell 2;simp only[List.getElem?_toArray,List.getElem?_cons_zero,List.getElem?_cons_succ]at z2;have f2:=B5.o.thaw 2;have HOB:=zz (H.kept (Gj w5 gy 2 (.slice A3 l.bs.length X)) (.inr fun e=>by have:=(H.lt _ e).1;have:=qQ.o;omega))
   have n:=zz ((Bh rG.o Nr hb).setCell (p:=⟨gy,2,none⟩) (by have:=rC.o;show wr.heap.size<=gy;omega) (.slice A3 l.bs.length X))
   have B6:=zz (show Ae (w5.setCell ⟨gy,2,none⟩ (.slice A3 l.bs.length X)) gy 76 (J7 l.p l.t A3 l.bs.length X)from B5.o.set 2 (.slice A3 l.bs.length X))
   go_upto_region 12 with fail
   clear z2 f2 H hb B5 BY sH sG
   generalize(w5.setCell ⟨gy,2,none⟩ (.slice A3 l.bs.length X))=s at*
   have BX6:=zz (BX.o.below n.o BX.o.lt);have HBW6:=zz (Bh D.o (Nat.le_of_eq E.o.symm) n.o)
   have rF:=Bf HOB.o (show F+1<=wy.heap.size by have:=qQ.o;have:=rC.o;have:=BX.o.lt;omega)
   have HOB:=zz rF;obtain⟨zs,qY,sJ⟩:=T.o.below n.o
   have C:(x.ls.take k).length=k:=by rw[List.length_take];omega
   rw[C]at qY;have HOZ:=zz qY;have HXZ:=zz sJ;have tF:=zz C;clear rF qY sJ C T BX D n rG;have W:=BX6.o.cell 13
   rw[Ah Aa,show BP x.rd x.bad (.slice q k LD) 13=.slice q k LD from rfl]at W
   have iL:(prog.info? 76).map (·.size)=some ((J7 l.p l.t A3 l.bs.length X):Array Value).size:=Ap;refine wp_region_list ?_
   iterate 2 (refine Af Bb (fun K hK=>?_);go_simp;refine hK _ _ ?_;try simp only[Rg.lp])
   refine Ad Bb 76 _ rfl gy rfl B6.o _ underlying76 rfl iL ?_;(try simp only[Rg.lp]);refine Mx rfl 41 76 _ rfl (.agg (J7 l.p l.t A3 l.bs.length X)) rfl 3 underlying41 Ap Ap Aa Aa rfl ?_;(try simp only[Rg.lp])
   rw[show(Value.agg (J7 l.p l.t A3 l.bs.length X)).cells=(J7 l.p l.t A3 l.bs.length X)from rfl]
   have Z:Below s.heap.size s (s.alloc (.cells (J7 l.p l.t A3 l.bs.length X) 76)):=DC
   have O:=zz (show ∀j u,(Ov l A3 X)[j]?=some u->(s.alloc (.cells (J7 l.p l.t A3 l.bs.length X) 76)).cell? (Addr.add ⟨s.heap.size,0,none⟩ j)=some u from fun j u hu=>Jm s (Ov l A3 X) 76 j u hu)
   replace BX6:=AU BX6 Z;replace HOZ:=GJ HOZ Z;replace HOB:=GJ HOB Z;replace HXZ:=zz (fun i m hm=>(by obtain⟨a,R,h1,h2,h3,h4⟩:=HXZ.o i m hm;exact⟨a,R,h1,ownsRow_below h2 Z,h3,h4⟩:∃a R,(zs.drop (i*3)).take 3=Ov m a R/\(s.alloc (.cells (J7 l.p l.t A3 l.bs.length X) 76)).ownsRow (F+1) 5 1 (.slice a m.bs.length R) m.bs.length (Sm.Br m.bs)/\m.bs.length<=140737488351232/\∀x∈m.bs,x<256));replace HBW6:=zz (Bh HBW6.o (Nat.le_of_eq E.o.symm) Z)
   have rP:=zz (show F+1<=(s.alloc (.cells (J7 l.p l.t A3 l.bs.length X) 76)).heap.size from BX6.o.lt)
   clear Z W;obtain⟨gq,rV⟩:=AJ (s.heap.size);rw[rV]at O ⊢;clear rV
   generalize(s.alloc (.cells (J7 l.p l.t A3 l.bs.length X) 76))=ws at*
   refine EJ _ rfl (.tmp 42) (.tmp 44) 41 rfl (base:=F+1) jy rfl HOZ.o rfl (news:=Ov l A3 X) rfl O.o (l7 l A3 X) (by have:=ru.o;unfold maxLen;omega) (by have:=ru.o;omega) rP.o ?_;intro A5 C5 w7 z qU rQ;(try simp only[Rg.lp]);have f:=zz (BX6.o.grown qU (fun e=>UM HOZ.o BX6.o El e.symm));have sM:=zz (DT.snoc tF.o HOZ.o HXZ.o HOB.o rY.o.1 tH.o qU z);have qW:=zz (HBW6.o.grown qU (Nat.le_trans (Nat.le_of_eq E.o.symm) HBW6.o.size) (fun g e=>by have:=(HOZ.o.lt g e).1;omega));clear z qU rQ rP O HOZ HXZ HOB BX6 HBW6 B6;have rD:=f.o.thaw 13;have W:=f.o.cell 13
   rw[Ah Aa,show BP x.rd x.bad (.slice q k LD) 13=.slice q k LD from rfl]at W
   have uj:=ru.o
   have uf:IntKind.i64.wrap ((k:Int)+1)=((k+1:Nat):Int):=by rw[IntKind.wrap_i64];omega
   go_wp2_with fail;clear rD W;have hs:=f.o.set 13 (.slice A5 (k+1) C5);rw[OU]at hs;have rW:=Gj w7 F 13 (.slice A5 (k+1) C5);exact⟨⟨k+1,A5,C5,Aa,BG,hs,by rw[rO.o];exact sM.o.kept rW (fun g e=>by injection e with e;subst e;exact⟨_,_,f.o,El,El⟩),qW.o.grown rW (Nat.le_trans (Nat.le_of_eq E.o.symm) qW.o.size) (fun g e=>by injection e with e;omega)⟩,Ck⟩
  obtain rfl:k=x.ls.length:=Aa;clear rJ;have L:=T.o;rw[List.take_length]at L
  have T:=zz (L.weaken (show w.heap.size<=F+1 by have:=qV.o;omega))
  clear L
  have sK:=zz (show Below wb.heap.size wb wr by rw[E.o];exact D.o)
  obtain⟨J,N⟩:=AJ (row 14 (BP x.rd x.bad (.slice q x.ls.length LD)))
  have oV:J.all (·.oneCell')=true:=by rw[←N];exact row_one fun j _=>MF _ _ _ _ _ j
  have iV:(prog.info? 43).map (·.size)=some J.size:=by rw[←N,Ag];kernel_rfl
  have sV:J.size=14:=by rw[←N,Ag]
  rw[N]at BX;have tJ:=zz N;clear N;have Z:Below wr.heap.size wr (wr.alloc (.cells J 43)):=DC;have rq:=CU sK Z;have r:=zz (ownsRow_below r.o rq.o);have T:=zz (T.o.below Z);have HBV:=zz (Bh HB.o Nr rq.o)
  have O:=zz (show ∀j u,J.toList[j]?=some u->(wr.alloc (.cells J 43)).cell? (Addr.add ⟨wr.heap.size,0,none⟩ j)=some u from fun j u hu=>by
   have:=Jm wr J.toList 43 j u hu
   rwa[Array.toArray_toList]at this)
  have rZ:=zz (show ∀u∈J.toList,u.oneCell'=true from fun u hu=>by rw[Array.all_eq_true']at oV;exact oV u (by simpa using hu))
  clear Z oV
  go_upto_region 13 with fail
  refine wp_region_list ?_;refine Af Bb (fun K hK=>?_);go_simp;refine hK _ _ ?_;(try simp only[Rg.lp]);refine Ad Bb 43 _ rfl F rfl BX.o _ underlying43 rfl iV ?_;(try simp only[Rg.lp]);refine Mx rfl 49 43 _ rfl (.agg J) rfl 14 underlying49 Ap Ap Aa Aa sV ?_;(try simp only[Rg.lp]);refine EJ _ rfl (.tmp 47) (.tmp 49) 49 rfl (base:=w.heap.size) l8 rfl r.o rfl (news:=J.toList) (by rw[Array.length_toList,sV]) O.o rZ.o GX Aa HBV.o.size ?_;intro A4 c4 w9 I qR _;(try simp only[Rg.lp])
  have B:∀g,(Value.slice A' i R).ownBlock=some g->∃rH t,(wr.alloc (.cells J 43)).heap[g]?=some (.cells rH t (0,0))/\t≠76/\t≠5:=fun g e=>by
   obtain⟨_,hv⟩:=r.o
   rcases hv with⟨hv,hn⟩|⟨g2,ul,rH,hv,hb,hh,_⟩
   . rw[hv]at e;cases e
   rw[hv]at e;injection e with e;subst e;exact⟨_,_,hh,El,El⟩
  have tX:=zz (show Below w.heap.size w w9 from HBV.o.grown qR HBV.o.size (fun g e=>(r.o.lt g e).1))
  have sZ:=zz (T.o.kept qR B);have tK:=zz (fun j (hj:j<i)=>(by obtain⟨V,U,h1,h2⟩:=r9.o j hj;exact⟨V,U,h1,(h2.below rq.o).kept qR B⟩:∃V U,(cs.drop (j*14)).take 14=nu (Y.getD j default) V U/\DT w9 w.heap.size V U (Y.getD j default).ls));have sU:=zz I;clear I qR B O rZ;refine Af Bb (fun K hK=>?_);go_simp;refine hK _ _ ?_;(try simp only[Rg.lp]);go_wp2_with fail;have hl:cs.length=i*14:=r.o.1;refine⟨⟨i+1,A4,c4,cs++J.toList,Aa,BG,rfl,sU.o,fun j hj=>?_,tX.o⟩,Ck⟩
  by_cases ej:j=i
  .subst ej;rw[MU hl (by rw[Array.length_toList,sV]),sQ.o];exact⟨q,LD,by rw[←tJ.o];rfl,sZ.o⟩
  rw[MS hl j Aa];exact tK.o j Aa
 obtain rfl:i=Y.length:=Aa;go_wp2_with fail
 go_ret
 refine⟨A',R,rfl,(BU r.o).1,(BU r.o).2,⟨cs,Rd.Bu r.o,fun j y hy=>?_⟩,HB.o⟩;have hj:j<Y.length:=(List.getElem?_eq_some_iff.1 hy).1;obtain⟨V,U,h1,h2⟩:=r9.o j hj;rw[List.getD_eq_getElem?_getD,hy]at h1 h2;obtain⟨g1,g2,g3,g4⟩:=h2.at;exact⟨V,U,h1,g2,g3,g4,g1⟩
end Cf
namespace Nd
open Go.RowKit Mem Rws Flat
def Gw(Z Y X W:Int)(k i:Nat):Value:=if i=0 then .int .i64 0 else if(i-1)/74<k then Cq ((i-1)/74:Nat) Z Y X W 3 ((i-1)%74)else JM ((i-1)%74)
def SE(Y X W V:Int)(k:Nat)(i:Nat):over (1+k*74) 74 (Cq (k:Int) Y X W V 3) (Gw Y X W V k) i=Gw Y X W V (k+1) i:=by
 by_cases h:1+k*74<=i/\i<1+k*74+74
 .rw[Jl h.1 h.2];have R:(i-1)/74=k:=Aa;have T:(i-1)%74=i-(1+k*74):=Aa
  unfold Gw
  rw[Aj Aa,R,T,Ao Aa]
 rw[Cx Aa]
 unfold Gw
 by_cases Z:i=0
 . rw[Ao Z,Ao Z]
 rw[Aj Z,Aj Z]
 by_cases U:(i-1)/74<k
 . rw[Ao U,Ao Aa]
 rw[Aj U,Aj (show ¬(i-1)/74<k+1 by omega)]
def ZX(i:Nat):(JM i).oneCell'=true:=by unfold JM;(repeat' split)<;>rfl
def U5(Z Y X W:Int)(k i:Nat):(Gw Z Y X W k i).oneCell'=true:=by
 unfold Gw
 split
 . rfl
 split
 . exact FP _ _ _ _ _ _ _
 exact ZX _
def IG(Y X W V:Int):zeroCells40=row 297 (Gw Y X W V 0):=by
 have h:zeroCells40=row 297 fun i=>if i=0 then .int .i64 0 else JM ((i-1)%74):=Ap
 rw[h];refine AA fun i _=>?_
 unfold Gw
 by_cases Z:i=0
 . rw[Ao Z,Ao Z]
 rw[Aj Z,Aj Z,Aj Aa]
def Lg(Y X V Z:Int)(w:World):
  Calls prog 9 #[.agg (Bn Y X V Z)] w fun e w'=>e=.returned (.agg (row 297 (Gw Y X V Z 4)))/\Below w.heap.size w w':=by
 go_in
 go_wp2_with fail;have G:Hid (Ae (((w.alloc (.cells (Bn Y X V Z) 23)).alloc (.cells zeroCells40 40)).alloc (.cells zeroCells40 40)) w.heap.size 23 (Bn Y X V Z)):=zz (((Ae.new rfl).alloc _).alloc _);have L:Hid (Ae (((w.alloc (.cells (Bn Y X V Z) 23)).alloc (.cells zeroCells40 40)).alloc (.cells zeroCells40 40)) (w.heap.size+1) 40 (row 297 (Gw Y X V Z 0))):=zz (by rw[IG Y X V Z];exact(Ae.new Bq).alloc _);have D3:Hid (Ae (((w.alloc (.cells (Bn Y X V Z) 23)).alloc (.cells zeroCells40 40)).alloc (.cells zeroCells40 40)) (w.heap.size+1+1) 40 (row 297 (Gw Y X V Z 0))):=zz (by rw[IG Y X V Z];exact Ae.new Bq);have I:=zz (((((Below.refl w.heap.size w).alloc Nr (.cells (Bn Y X V Z) 23)).alloc Bq (.cells zeroCells40 40)).alloc Ec (.cells zeroCells40 40)))
 generalize(((w.alloc (.cells (Bn Y X V Z) 23)).alloc (.cells zeroCells40 40)).alloc (.cells zeroCells40 40))=W at*
 go_loopw[5] (fun i wr=>∃k:Nat,k<=4/\i=.int .i64 k/\Ae wr w.heap.size 23 (Bn Y X V Z)/\Ae wr (w.heap.size+1) 40 (row 297 (Gw Y X V Z 0))/\Ae wr (w.heap.size+1+1) 40 (row 297 (Gw Y X V Z k))/\Below w.heap.size w wr) (fun i _=>4-(intOf i).toNat)
 .exact⟨0,Aa,rfl,G.o,L.o,D3.o,I.o⟩
 clear G L D3 I;obtain⟨k,q,rfl,J,x,y,hb⟩:=hrel;have G:=zz J;have L:=zz x;have D3:=zz y;have I:=zz hb;have D:=J.cell 0;have E:=J.cell 1;have F:=J.cell 2;have B:=J.cell 3;simp only[List.getElem?_toArray,List.getElem?_cons_zero,List.getElem?_cons_succ]at D E F B;clear J x y hb
 by_cases A:k<4
 .go_wp2_with fail;refine(Ub (k:Int) Y X V Z _ Aa Aa).mono ?_;rintro e z ⟨rfl,T⟩;have s:=AU G T;have r:=AU L T;have u:=AU D3 T;have C:=CU I T;have O:(prog.info? 37).map (·.size)=some (row 74 (Cq (k:Int) Y X V Z 3)).size:=Eg
  have H:z.there (w.heap.size+1+1) (1+k*74) (row 74 (Cq (k:Int) Y X V Z 3)).size:=by rw[Ag];exact Cg u.o (1+k*74) 74 Aa
  have N:(row 74 (Cq (k:Int) Y X V Z 3)).all (·.oneCell')=true:=row_one fun i _=>FP _ _ _ _ _ _ i;obtain⟨R,U⟩:=AJ (row 74 (Cq (k:Int) Y X V Z 3));have M:=zz U;rw[U]at O H N ⊢;clear U T D E F B
  go_wp2_with(refine Af rfl (fun K hK=>?_);refine wp_store_mid 37 _ _ rfl (w.heap.size+1+1) (1+k*74) R rfl rfl H O N (hK _ _ ?_))
  rw[←M.o];refine⟨⟨k+1,Aa,BG,Al (w:=z) Aa _ _ _ s.o,Al (w:=z) Aa _ _ _ r.o,?_,below_setCells Aa _ _ C.o⟩,Ck⟩;have:=DI u.o (1+k*74) 74 (Cq (k:Int) Y X V Z 3);rw[AA (fun i _=>SE Y X V Z k i)]at this;exact this
 obtain rfl:k=4:=Aa;clear A D E F B;have hi:(prog.info? 40).map (·.size)=some (row 297 (Gw Y X V Z 4)).size:=Eg;have t:(row 297 (Gw Y X V Z 4)).all (·.oneCell')=true:=row_one fun i _=>U5 _ _ _ _ _ i
 have v:(row 297 (Gw Y X V Z 0)).size=(row 297 (Gw Y X V Z 4)).size:=by rw[Ag,Ag]
 obtain⟨R,U⟩:=AJ (row 297 (Gw Y X V Z 4));have M:=zz U;rw[U]at D3 hi t v;clear U
 go_wp2_with(first
  |(refine Ad rfl 40 _ rfl (w.heap.size+1+1) rfl D3.o _ underlying40 rfl hi ?_)
  |(refine wpList_store_row rfl 40 _ _ rfl (w.heap.size+1) R rfl rfl 40 _ L.o hi v t ?_))
 exact Fs rfl rfl (L.o.setRow R) underlying40 rfl hi rfl ⟨by rw[M.o],below_setRow I.o Aa _⟩
end Nd
namespace Cf
open Go.ChangeShapes Go.WideShapes Go.ChangeAt Go.RowKit Mem Rws Nd Cl
def Bw(Z Y X W:Int):Du:=⟨0,fun i=>Cq (i:Int) Z Y X W 3,fun _=>[]⟩
def ZO(id X W V Y:Int)(R:0<=id/\id<4)(h:Wf X/\Wf W/\Wf V/\Wf Y):OP (Cq id X W V Y 3):=fun i z hi e=>by
 have T:∀v:Value,v∈(List.range 73).map (Cq id X W V Y 3)->∀z,v=.int .i64 z->z=id\/z=X\/z=W\/z=V\/z=Y\/z=0\/z=4294967296:=by
  rw[show(List.range 73).map (Cq id X W V Y 3)=([.int .i64 id,.int .i64 0,.int .i64 X,.int .i64 W,.int .i64 V,.int .i64 Y,.int .i64 0,.int .i64 0,.int .i64 4294967296,.int .i64 0,.int .i64 4294967296,.bool false,.int .i64 0,.int .i64 0,.int .i64 0,.int .i64 4294967296,.int .i64 0,.int .i64 4294967296,.bool false,.int .i64 0,.int .i64 0,.int .i64 0,.int .i64 4294967296,.int .i64 0,.int .i64 4294967296,.bool false,.int .i64 0,.bool true,.bool true,.bool true,.bool true,.int .i64 0,.int .i64 0,.int .i64 0,.int .i64 0,.int .i64 0,.int .i64 0,.int .i64 0,.int .i64 0,.int .i64 0,.int .i64 0,.int .i64 0,.int .i64 0,.int .i64 0,.int .i64 0,.int .i64 0,.int .i64 0,.int .i64 0,.int .i64 0,.int .i64 0,.int .i64 0,.int .i64 0,.int .i64 0,.int .i64 0,.int .i64 0,.int .i64 0,.int .i64 0,.int .i64 0,.int .i64 0,.int .i64 0,.int .i64 0,.int .i64 0,.int .i64 0,.int .i64 0,.int .i64 0,.int .i64 0,.int .i64 0,.int .i64 0,.int .i64 0,.int .i64 0,.int .i64 0,.int .i64 0,.bool false]:List Value)from by kernel_rfl]
  intro v U z e;simp only[List.mem_cons,List.mem_nil_iff,or_false]at U
  (rcases U with rfl|rfl|rfl|rfl|rfl|rfl|rfl|rfl|rfl|rfl|rfl|rfl|rfl|rfl|rfl|rfl|rfl|rfl|rfl|rfl|rfl|rfl|rfl|rfl|rfl|rfl|rfl|rfl|rfl|rfl|rfl|rfl|rfl|rfl|rfl|rfl|rfl|rfl|rfl|rfl|rfl|rfl|rfl|rfl|rfl|rfl|rfl|rfl|rfl|rfl|rfl|rfl|rfl|rfl|rfl|rfl|rfl|rfl|rfl|rfl|rfl|rfl|rfl|rfl|rfl|rfl|rfl|rfl|rfl|rfl|rfl|rfl|rfl)<;>first|(cases e;done)|(have:=int_inj e;omega)
 rcases T _ (List.mem_map.2 ⟨i,List.mem_range.2 hi,rfl⟩) z e with Z|Z|Z|Z|Z|Z|Z<;>rw[Z]
 . exact JQ Aa
 . exact h.1
 . exact h.2.1
 . exact h.2.2.1
 . exact h.2.2.2
 . exact Ei
 exact JQ Aa
def Rf:Value->Option Bool
 | .int .i64 _=>some true
 | .bool _=>some false
 |_=>none
def Uc{v:Value}{b:Bool}(h:Rf v=some b):C9 b v:=by
 unfold Rf at h
 split at h
 . cases h;exact⟨_,rfl⟩
 . cases h;exact⟨_,rfl⟩
 cases h
def TW{f:Nat->Value}(h:(List.range 73).map (fun i=>Rf (f i))=(List.range 73).map (fun i=>some (Ar i))):∀i,i<73->C9 (Ar i) (f i):=fun i hi=>by
 have Z:=congrArg (·[i]?) h
 simp[hi]at Z
 exact Uc Z
def Zp(id Z Y X W:Int):∀i,i<73->C9 (Ar i) (Cq id Z Y X W 3 i):=TW Ap
def Ko{Y X W Z:Int}(h:Wf Y/\Wf X/\Wf W/\Wf Z):Gi (Bw Y X W Z):=
 ⟨fun i hi=>rfl,fun i hi=>Zp _ _ _ _ _,fun i hi=>ZO _ _ _ _ _ Aa h,by show(0:Int)<=0/\(0:Int)<1073741824;omega,fun i hi=>by show(([]:List Bool)).length<=_;simp⟩
def Ow(X W U Y:Int):row 297 (Gw X W U Y 4)=row 297 (Ak (Bw X W U Y).fr (Bw X W U Y).F (AO (fun _=>none) (Bw X W U Y).V (fun _=>0))):=AA fun i hi=>by
 unfold Gw Ak
 by_cases Z:i=0
 . rw[Ao Z,Ao Z];rfl
 rw[Aj Z,Aj Z,Ao Aa]
 unfold Ab
 by_cases h:(i-1)%74=73
 . rw[Ao h,h];rfl
 rw[Aj h];rfl
def Jh(w:World)(c:Du)(Z:Nat->Option Addr)(Y:Nat->Nat)(X:Nat->Prop):Prop:=∀j,j<4->(Z j=none->Y j=0)/\(c.V j).length<=Y j/\Rd w w.heap.size 1 (Z j) (c.V j).length (Au (c.V j))/\(0<(c.V j).length->∀a,Z j=some a->¬X a.block)
def Jh.grown{w w':World}{c:Du}{T:Nat->Option Addr}{Y:Nat->Nat}{X:Nat->Prop}(h:Jh w c T Y X){row:Option Nat}(Z:w.grownBy w' row)(O:∀g,row=some g->X g):Jh w' c T Y X:=fun j L=>by
 obtain⟨M,N,W,U⟩:=h j L;exact⟨M,N,Cr W Z.size (fun V a e=>Z.block a.block (FV W V e) (fun R=>U V a e (O _ R.symm))),U⟩
def Jh.below{w w':World}{c:Du}{Y:Nat->Option Addr}{Z:Nat->Nat}{X:Nat->Prop}(h:Jh w c Y Z X)(hb:Below w.heap.size w w'):Jh w' c Y Z X:=fun j T=>by
 obtain⟨U,V,R,W⟩:=h j T;exact⟨U,V,(R.below hb).more hb.size,W⟩
def Iy(w:World)(cs:List Value)(Z:Nat->Du)(n:Nat)(X:Nat->Prop):Prop:=∀j,j<n->∃W Y,(cs.drop (j*297)).take 297=(row 297 (Ak (Z j).fr (Z j).F (AO W (Z j).V Y))).toList/\Jh w (Z j) W Y X
def Iy.grown{w w':World}{cs:List Value}{Z:Nat->Du}{n:Nat}{X:Nat->Prop}(h:Iy w cs Z n X){row:Option Nat}(W:w.grownBy w' row)(T:∀g,row=some g->X g):Iy w' cs Z n X:=fun j O=>by
 obtain⟨V,Y,R,U⟩:=h j O;exact⟨V,Y,R,U.grown W T⟩
def Iy.below{w w':World}{cs:List Value}{Z:Nat->Du}{n:Nat}{X:Nat->Prop}(h:Iy w cs Z n X)(hb:Below w.heap.size w w'):Iy w' cs Z n X:=fun j T=>by
 obtain⟨W,Y,U,V⟩:=h j T;exact⟨W,Y,U,V.below hb⟩
def Iy.snoc{w:World}{cs new:List Value}{Z:Nat->Du}{n:Nat}{X:Nat->Prop}(h:Iy w cs Z n X)(U:cs.length=n*297){W:Nat->Option Addr}{Y:Nat->Nat}(T:new=(row 297 (Ak (Z n).fr (Z n).F (AO W (Z n).V Y))).toList)(R:Jh w (Z n) W Y X):Iy w (cs++new) Z (n+1) X:=fun j O=>by
 by_cases e:j=n
 .subst e;rw[MU U (by rw[T,Array.length_toList,Ag])];exact⟨W,Y,T,R⟩
 rw[MS U j Aa];exact h j Aa
def KF(w:World)(os:List Value)(Z:Nat->List Value×Nat)(n:Nat)(X:Nat->Prop):Prop:=∀j,j<n->∃Y W,os[j]?=some (.slice Y (Z j).2 W)/\(Y=none->W=0)/\(Z j).2<=W/\Rd w w.heap.size 14 Y (Z j).2 (Z j).1/\(0<(Z j).2->∀a,Y=some a->¬X a.block)
def KF.grown{w w':World}{os:List Value}{Y:Nat->List Value×Nat}{n:Nat}{X:Nat->Prop}(h:KF w os Y n X){row:Option Nat}(Z:w.grownBy w' row)(R:∀g,row=some g->X g):KF w' os Y n X:=fun j I=>by
 obtain⟨O,M,L,N,J,V,U⟩:=h j I;exact⟨O,M,L,N,J,Cr V Z.size (fun W a e=>Z.block a.block (FV V W e) (fun T=>U W a e (R _ T.symm))),U⟩
def KF.below{w w':World}{os:List Value}{Z:Nat->List Value×Nat}{n:Nat}{X:Nat->Prop}(h:KF w os Z n X)(hb:Below w.heap.size w w'):KF w' os Z n X:=fun j R=>by
 obtain⟨N,U,T,V,O,Y,W⟩:=h j R;exact⟨N,U,T,V,O,(Y.below hb).more hb.size,W⟩
def KF.snoc{w:World}{os:List Value}{Z:Nat->List Value×Nat}{n:Nat}{X:Nat->Prop}(h:KF w os Z n X)(J:os.length=n){Y:Option Addr}{W:Nat}(R:Y=none->W=0)(O:(Z n).2<=W)(N:Rd w w.heap.size 14 Y (Z n).2 (Z n).1)(L:0<(Z n).2->∀a,Y=some a->¬X a.block):KF w (os++[.slice Y (Z n).2 W]) Z (n+1) X:=fun j I=>by
 by_cases e:j=n
 .subst e;exact⟨Y,W,by rw[←J,List.getElem?_append_right Nr,Nat.sub_self];rfl,R,O,N,L⟩
 obtain⟨V,U,M,T⟩:=h j Aa;exact⟨V,U,by rw[List.getElem?_append_left Aa];exact M,T⟩
structure qJ(wr wx:World)(c':Du)(gd:Nat)(VA2:Nat->Option Addr)(VC2:Nat->Nat)(RA:Option Addr)(RC n:Nat)(xs:List Value):Prop where
 d:Ae wx gd 40 (row 297 (Ak c'.fr c'.F (AO VA2 c'.V VC2)))
 v:∀j,j<4->(VA2 j=none->VC2 j=0)/\(c'.V j).length<=VC2 j/\Rd wx wx.heap.size 1 (VA2 j) (c'.V j).length (Au (c'.V j))/\(0<(c'.V j).length->∀a,VA2 j=some a->wr.heap.size<=a.block)
 r:wx.ownsRow wr.heap.size 70 14 (.slice RA n RC) n xs
 b:Below wr.heap.size wr wx
 g:wr.heap.size<=gd
end Cf
end Go.Proofs.YtjobajeggllmiaaGreat
