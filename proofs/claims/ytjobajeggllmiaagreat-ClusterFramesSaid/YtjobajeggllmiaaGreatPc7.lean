import Derived.Test.YtjobajeggllmiaaGreatPc0
import Derived.Test.YtjobajeggllmiaaGreatPc6
set_option linter.all false
set_option maxHeartbeats 100000000
set_option maxRecDepth 100000
namespace Go.Proofs.YtjobajeggllmiaaGreat
open Rg _root_.Go.Proofs.Tryz
namespace Ms
open Go.ChangeShapes Go.WideShapes Go.ChangeAt Go.RowKit Mem Rws
attribute [local go_sem] Oper.semAt_some
def bP{w:World}{base:Nat}{A:Option Addr}{n c:Nat}{Z:List Nat}(h:w.ownsRow base 5 1 (.slice A n c) n (Sm.Br (Z.take n)))(N:0<n)(I:n<=Z.length):
  ∃g o,A=some ⟨g,o,none⟩/\base<=g/\g<w.heap.size/\n<=c/\c<=maxLen/\∀j,j<n-> w.cell? ⟨g,o+j,none⟩=some (.int .u8 (Ef Z j:Nat)):=by
 obtain⟨H,⟨e,L⟩|⟨g,O,T,e,hb,X,U,V,M,W⟩⟩:=h
 . omega
 cases e
 refine⟨g,0,rfl,hb,(Array.getElem?_eq_some_iff.1 X).1,U,V,fun j R=>?_⟩
 have Y:(Sm.Br (Z.take n))[j]?=some (.int .u8 (Ef Z j:Nat)):=by
  unfold Sm.Br Ef
  rw[List.getElem?_map,List.getElem?_take_of_lt R,List.getD_eq_getElem?_getD,List.getElem?_eq_getElem (show j<Z.length by omega)]
  rfl
 rw[←W,List.getElem?_take_of_lt Aa]at Y;rw[Nat.zero_add];have J:(⟨g,j,none⟩:Addr).block=g:=rfl;simp only[World.cell?,X];rw[Array.getElem?_toList]at Y
 simpa using Y
def _root_.Go.Proofs.YtjobajeggllmiaaGreat.Fc.lH{g B:Nat}{W V:World}(h:Below B W V)(i:Nat)(u:Value):Fc.But g B W (V.setCell ⟨g,i,none⟩ u):=
 ⟨by rw[World.size_setCell];exact h.size,fun k Z Y=>(Below.heap_setCell V ⟨g,i,none⟩ u k Y).trans (h.block k Z)⟩
def kV{w:World}{base:Nat}{A:Option Addr}{c n:Nat}{Z:List Int}{z:Int}(h:w.ownsRow base 3 1 (.slice A (n+1) c) (n+1) (AQ Z++[.int .i64 z])){g:Nat}(Y:g<base){i:Nat}{u:Value}:(w.setCell ⟨g,i,none⟩ u).ownsRow base 3 1 (.slice A (n+1) c) (n+1) (AQ (Z++[z])):=by
 rw[show AQ (Z++[z])=AQ Z++[.int .i64 z]by simp[AQ]]
 exact ownsRow_setCell_below h (by show g<base;omega) _
def mU{w:World}{base:Nat}{e:TypeId}{size:Nat}{v:Value}{n:Nat}{xs:List Value}(h:w.ownsRow base e size v n xs){D:Nat}(Y:w.heap[D]?=some (.deferred (some []))):(w.putObj D (.deferred none)).ownsRow base e size v n xs:=by
 have X:=h;obtain⟨_,⟨Z,_⟩|⟨g,U,V,Z,_,W,_⟩⟩:=h
 . exact X.kept (grownBy_putObj' w D _) (.inl (by rw[Z];rfl))
 refine X.kept (grownBy_putObj' w D _) (.inr fun e=>?_);rw[Z]at e
 cases e
 rw[W]at Y
 cases Y
def LK{W Z:World}{row:Option Nat}{B g:Nat}{t:TypeId}{cs:Array Value}(h:Ae W g t cs)(X:W.grownBy Z row)(V:∀r,row=some r->B<=r/\∃o:Obj,W.heap[r]?=some o/\o.isCells=false):Ae Z g t cs:=
 h.grown X fun e=>by
  obtain⟨_,o,Y,U⟩:=V g e.symm
  unfold Ae at h
  rw[h]at Y
  cases Y
  cases U
def pF(V:List Nat)(w X Y:World)(U T O R N:Nat){k:Nat}(Z:List (Fin k))(W:World):Prop:=
 ∃A c,Ae W T 65 (BL O R N A Z.length c)/\W.ownsRow Y.heap.size 3 1 (.slice A Z.length c) Z.length (AQ (Z.map fun x:Fin k=>GQ (Dn V (8+8*x.val) 8)))/\
  Ae W U 65 QV/\Below w.heap.size w W/\Below X.heap.size X W/\Y.heap.size<=W.heap.size
def dG(E:List Nat)(w O U:World)(J D F C u:Nat){k:Nat}(z:w.heap.size<=U.heap.size)(B:O.heap.size<=U.heap.size):OwnFrom U.heap.size (pF E w O U J D F C u (k:=k)):=by
 intro s X Y r ⟨A,c,v,R,I,x,G,L⟩ Z W;refine⟨A,c,LK v Z W,?_,LK I Z W,ownFrom_below (β:=Unit) Nr z () X Y r x Z W,ownFrom_below (β:=Unit) Nr B () X Y r G Z W,Nat.le_trans L Z.size⟩;have V:=R;obtain⟨_,⟨T,_⟩|⟨g,t,H,T,_,y,_⟩⟩:=R
 . exact V.kept Z (.inl (by rw[T];rfl))
 refine V.kept Z (.inr fun e=>?_);rw[T]at e;obtain⟨_,o,N,M⟩:=W g (by rw[←e];rfl);rw[y]at N
 cases N
 cases M
def qj(w Y:World)(X b g V W U:Nat)(Z:World):Prop:=
 X<g/\b<g/\Y.heap.size<=g/\Ae Z X 65 QV/\Ae Z g 65 (JV V W U)/\Below w.heap.size w Z/\Below Y.heap.size Y Z
def Xc(A:Option Addr)(c:Nat)(Z:List Nat)(B:Nat)(w:World)(hB:B<=w.heap.size)(hA:A=none->c=0)(tY:Z.length<=c)(um:c<=maxLen)(hc:Z.length<=140737488351232)(sZ:∀x∈Z,x<256)(hr:Rd w B 1 A Z.length (Sm.Br Z)):
  Calls prog 96 #[.slice A Z.length c] w fun e w'=>FX w w' Z e:=by
 have HR:=zz hr;have HS:=zz sZ;have m:(prog.info? 65).map (·.size)=some (QV:Array Value).size:=Ap;have oZ:(QV:Array Value).all (·.oneCell')=true:=GR;clear hr sZ;refine(callsIn_wide (n:=3)).1 ?_;refine callsIn_of_wp_marks func96 rfl trivial ?_ rfl;simp only[ntmps96,List.size_toArray,List.length_cons,List.length_nil,Nat.reduceAdd,Nat.reduceSub,Array.replicate_succ,Array.replicate_zero,List.push_toArray,List.append_toArray,List.nil_append,List.cons_append];refine wpIn_wide.2 ?_
 go_upto_region 1 with fail
 have U:=zz (show Ae (w.alloc (.cells QV 65)) w.heap.size 65 QV from Ae.new rfl)
 have V:=zz (show Below w.heap.size w (w.alloc (.cells QV 65))from DC)
 generalize(w.alloc (.cells QV 65))=w1 at*
 have tT:=HR;have HR:=zz (HR.o.below (V.o.mono hB));obtain⟨E,rT⟩:=AJ (w.heap.size);have sQ:=zz rT
 have HG:=zz (show w.heap.size<=E by omega)
 rw[rT]at U hB ⊢;clear rT
 by_cases q1:220<Z.length
 .have z:=zz (show GU Z=1 from Ao q1)
  have rZ:(220:Int)<(Z.length:Int):=Aa;clear q1
  go_wp2_with(refine wpList_store_row rfl 65 _ _ rfl E QV rfl rfl 65 _ U.o m rfl oZ ?_)
  refine Fc.Kc _ _ _ ?_;refine Ci (x:=.int .i64 1) rfl rfl rfl (U.o.setRow QV) ⟨by rw[underlying65],m⟩ rfl ?_
  unfold FX
  rw[Aj (by rw[z.o];decide)];exact⟨by rw[z.o];rfl,below_setRow V.o HG.o _⟩
 have rq:=zz (show GU Z=if Z.length<12\/Ef Z 0≠87 then 2 else if Sm.okB Z=false then 5 else if 24<E5 Z then 6 else if Z.length≠12+8*E5 Z then 2 else wrong (Ef Z 1) (Ef Z 2) (Dn Z 3 4) (E5 Z)from Aj q1)
 by_cases q2:Z.length<12
 .have z:=zz (show GU Z=2 by rw[rq.o,Ao (.inl q2)])
  have tC:(Z.length:Int)<12:=Aa;have rZ:(Z.length:Int)<=220:=Aa;clear q1 q2
  go_wp2_with(refine wpList_store_row rfl 65 _ _ rfl E QV rfl rfl 65 _ U.o m rfl oZ ?_)
  refine Fc.Kc _ _ _ ?_;refine Ci (x:=.int .i64 2) rfl rfl rfl (U.o.setRow QV) ⟨by rw[underlying65],m⟩ rfl ?_
  unfold FX
  rw[Aj (by rw[z.o];decide)];exact⟨by rw[z.o];rfl,below_setRow V.o HG.o _⟩
 obtain⟨b0,o0,rfl,uQ,qX⟩:=O4 tT.o Aa
 have x0:=(V.o.cell (p:=⟨b0,o0+0,none⟩) (show b0<w.heap.size by rw[sQ.o];omega)).trans (qX 0 Aa)
 rw[Nat.add_zero]at x0;clear qX
 by_cases q3:Ef Z 0=87
 case neg=>
  have z:=zz (show GU Z=2 by rw[rq.o,Ao (.inr q3)])
  have uI:(((Ef Z 0:Nat):Int)!=87)=true:=bne_iff_ne.2 Aa;have tC:¬(Z.length:Int)<12:=Aa;have rZ:(Z.length:Int)<=220:=Aa
  generalize Ef Z 0=y0 at*
  clear q3 q2 q1
  go_wp2_with(refine wpList_store_row rfl 65 _ _ rfl E QV rfl rfl 65 _ U.o m rfl oZ ?_)
  refine Fc.Kc _ _ _ ?_;refine Ci (x:=.int .i64 2) rfl rfl rfl (U.o.setRow QV) ⟨by rw[underlying65],m⟩ rfl ?_
  unfold FX
  rw[Aj (by rw[z.o];decide)];exact⟨by rw[z.o];rfl,below_setRow V.o HG.o _⟩
 have rH:=zz (rq.o.trans (Aj (show ¬(Z.length<12\/Ef Z 0≠87)by omega)))
 have uI:(((Ef Z 0:Nat):Int)!=87)=false:=bne_eq_false_iff_eq.2 Aa;have tC:¬(Z.length:Int)<12:=Aa;have rZ:(Z.length:Int)<=220:=Aa
 generalize Ef Z 0=y0 at*
 clear q3;go_wp2_with fail;have sO:=Sm.gX (some ⟨b0,o0,none⟩) c Z B w1 (Nat.le_trans hB (by rw[←sQ.o];exact V.o.size)) hA tY um hc HS.o HR.o;refine sO.mono ?_;intro e H uy;clear sO x0;have ug:=U.o.lt
 rcases uy with⟨hk,A2,c2,rfl,ho,r⟩|⟨hk,rfl,r⟩
 case inr=>
  have z:=zz (show GU Z=5 by rw[rH.o,Ao hk])
  have U:=AU U r;have V:=CU V r;clear hk r rH rq
  go_wp2_with(refine wpList_store_row rfl 65 _ _ rfl E QV rfl rfl 65 _ U.o m rfl oZ ?_)
  refine Fc.Kc _ _ _ ?_;refine Ci (x:=.int .i64 5) rfl rfl rfl (U.o.setRow QV) ⟨by rw[underlying65],m⟩ rfl ?_
  unfold FX
  rw[Aj (by rw[z.o];decide)];exact⟨by rw[z.o];rfl,below_setRow V.o HG.o _⟩
 have qQ:=zz (rH.o.trans (Aj (by rw[hk];simp)));obtain⟨b,o,rfl,uq,tX,uz,rO,qX⟩:=bP ho Aa Aa;have U:=AU U r;have V:=CU V r;have HC:=zz qX
 have sH:=zz (show E<b/\b<H.heap.size by omega)
 have uM:=zz rO;clear hk r rH rq ho qX uq tX rO ug;obtain⟨L,hL⟩:=AJ (Z.length-4);rw[hL]at HC uz ⊢
 have rU:=zz (show Z.length=L+4 by omega)
 have uO:(8:Int)<=(L:Int):=Aa;have x7:=HC.o 7 Aa;have uj:=zz (JA HS.o 7)
 have tJ:=zz (show E5 Z=Ef Z 7 from rfl)
 generalize Ef Z 7=N at*
 rw[tJ.o]at qQ;have uR:(0:Int)<=(N:Int):=Aa
 have u6:(N:Int)<256:=by have:=uj.o;omega
 have uV:IntKind.i64.wrap (N:Int)=(N:Int):=wrap_small Aa Aa
 by_cases q4:24<N
 .have z:=zz (show GU Z=6 by rw[qQ.o,Ao q4])
  have uh:(24:Int)<(N:Int):=Aa;clear q4 qQ rU
  go_wp2_with(refine wpList_store_row rfl 65 _ _ rfl E QV rfl rfl 65 _ U.o m rfl oZ ?_)
  refine Fc.Kc _ _ _ ?_;refine Ci (x:=.int .i64 6) rfl rfl rfl (U.o.setRow QV) ⟨by rw[underlying65],m⟩ rfl ?_
  unfold FX
  rw[Aj (by rw[z.o];decide)];exact⟨by rw[z.o];rfl,below_setRow V.o HG.o _⟩
 have rD:=zz (qQ.o.trans (Aj q4));have uh:(N:Int)<=24:=Aa;have uZ:(8:Int)+8*(N:Int)=((8+8*N:Nat):Int):=Aa
 by_cases q5:L=8+8*N
 case neg=>
  have z:=zz (show GU Z=2 by rw[rD.o,Ao (by have:=rU.o;omega)])
  have uD:((L:Int)!=((8+8*N:Nat):Int))=true:=bne_iff_ne.2 Aa
  generalize 8+8*N=L' at*
  clear q5 q4 rD qQ
  go_wp2_with(refine wpList_store_row rfl 65 _ _ rfl E QV rfl rfl 65 _ U.o m rfl oZ ?_)
  refine Fc.Kc _ _ _ ?_;refine Ci (x:=.int .i64 2) rfl rfl rfl (U.o.setRow QV) ⟨by rw[underlying65],m⟩ rfl ?_
  unfold FX
  rw[Aj (by rw[z.o];decide)];exact⟨by rw[z.o];rfl,below_setRow V.o HG.o _⟩
 have sK:=zz (rD.o.trans (Aj (by have:=rU.o;omega)));have uD:((L:Int)!=((8+8*N:Nat):Int))=false:=bne_eq_false_iff_eq.2 Aa;have rX:=zz q5
 have qZ:=zz (show N<=24 by omega)
 generalize tK:8+8*N=L' at*
 have rQ:=zz tK;clear q5 q4 rD qQ tK
 go_upto_region 13 with fail
 have x1:=HC.o 1 Aa;have x2:=HC.o 2 Aa;have sw:=zz (JA HS.o 1);have sJ:=zz (JA HS.o 2);obtain⟨M,rY⟩:=AJ (Ef Z 1);obtain⟨O,rR⟩:=AJ (Ef Z 2);have rA:=zz rY;have rE:=zz rR;rw[rY]at x1 sw;rw[rR]at x2 sJ;have uX:(0:Int)<=(M:Int):=Aa
 have uS:(M:Int)<256:=by have:=sw.o;omega
 have uU:(0:Int)<=(O:Int):=Aa
 have uY:(O:Int)<256:=by have:=sJ.o;omega
 have uT:IntKind.i64.wrap (M:Int)=(M:Int):=wrap_small Aa Aa;have uK:IntKind.i64.wrap (O:Int)=(O:Int):=wrap_small Aa Aa;have uL:(7:Int)<=(c2:Int):=Aa;have uP:¬c2=3:=Aa;have b1:(1:Int)<(L:Int):=Aa;have b2:(2:Int)<(L:Int):=Aa;obtain⟨J,rC⟩:=AJ (Dn Z 3 4);have sM:=zz rC
 have uE:=zz (show J<256 ^ 4 from by rw[←rC];exact Nc HS.o 3 4)
 have uo:=zz (show GQ (Dn Z 3 4)=(J:Int)from by rw[rC];exact Yh (by have h:J<256 ^ 4:=uE.o;have:J<4294967296:=h;omega))
 have qV:=zz (fun v (hv:Below H.heap.size H v) j (hj:j<L)=>(hv.cell (p:=⟨b,o+j,none⟩) sH.o.2).trans (HC.o j hj))
 have CG:=zz (fun v (hv:Below H.heap.size H v) (k:Nat)=>show Calls prog 120 #[.slice (some ⟨b,o+3,none⟩) 4 k] v (fun e w'=>e=.returned (.int .i64 (J:Nat))/\v=w')from by
  have h:=Zn Z HS.o 3 4 b (o+3) k v Aa (fun j hj=>by rw[Nat.add_assoc];exact qV.o v hv (3+j) Aa);rw[uo.o]at h
  exact h)
 have uf:=zz (And.intro x1 x2);clear rY rR x1 x2 x7 rC
 go_cut[7]from 48 to 59 (fun s7 wx=>∃g,s7=.pointer (some ⟨g,0,none⟩)/\qj w H E b g M O J wx)
 case first=>
  have X:=zz (Below.refl H.heap.size H).drew
  have Y:=zz (show E<H.drew.heap.size/\b<H.drew.heap.size/\H.heap.size<=H.drew.heap.size from⟨U.o.lt,sH.o.2,Nat.le_refl _⟩)
  have T:=uf.o;have U:=zz U.o.drew;have V:=zz V.o.drew;refine wp_region_noPanic ?_;refine A8 [2,6] (fun w'=> w'.cell? ⟨b,o+1,none⟩=some (.int .u8 M)/\ w'.cell? ⟨b,o+2,none⟩=some (.int .u8 O)) Ap ?_
  have T:=(show H.drew.cell? ⟨b,o+1,none⟩=some (.int .u8 M)/\ H.drew.cell? ⟨b,o+2,none⟩=some (.int .u8 O)from T)
  generalize H.drew=u at*
  refine Ac 0 ?_;refine Ac 1 ?_;refine Bc 2 T ?_;refine Rg.tp 3 ⟨some 51,.convert 5 3 (.tmp 50),_,_,_,none⟩ (v:=.int .i64 (M:Nat)) rfl ?_ ?_
  . (intro w;go_simp)
  refine Ac 4 ?_;refine Ac 5 ?_;refine Bc 6 T ?_;refine Rg.tp 7 ⟨some 55,.convert 5 3 (.tmp 54),_,_,_,none⟩ (v:=.int .i64 (O:Nat)) rfl ?_ ?_
  . (intro w;go_simp)
  refine Ac 8 ?_;refine Ac 9 ?_;refine XY (i:=10) (j:=12) (oi:=⟨some 58,.call { callee:=.value (.func 120),args:=#[.tmp 57],argTypes:=_ },_,_,_,none⟩) (oj:=⟨some 7,.alloc 65,_,_,_,none⟩) Ap rfl rfl ?_ ?_
  .refine Bt ?_;intro K hK;rw[Ao Bb];go_simp
   go_at_call 120
   refine(CG.o u X.o _).mono ?_;rintro e w' ⟨rfl,rfl⟩;go_wp2_with fail;refine hK.o _ _ T ?_;(try simp only[Rg.lp]);refine Rg.tp 11 ⟨some 59,.build 65 #[(0,.tmp 51),(1,.tmp 55),(2,.tmp 58)],_,_,_,none⟩ (v:=.agg (JV M O J)) rfl ?_ ?_
   . (intro w;go_simp)
   refine Aw 12 ?_;refine Bt ?_;intro K hK;go_simp;have U:=zz (U.o.alloc (.cells QV 65));have G:=zz (Ae.fresh u 65 QV);have V:=zz (V.o.alloc V.o.size (.cells QV 65));have X:=zz (X.o.alloc X.o.size (.cells QV 65))
   generalize(u.alloc (.cells QV 65))=f at*
   obtain⟨R,s⟩:=AJ (u.heap.size);rw[s]at G Y ⊢;clear s T;have T: f.cell? ⟨b,o+1,none⟩=some (.int .u8 M)/\ f.cell? ⟨b,o+2,none⟩=some (.int .u8 O):=⟨by rw[←rA.o];exact qV.o f X.o 1 Aa,by rw[←rE.o];exact qV.o f X.o 2 Aa⟩;refine hK.o _ _ T ?_;refine Aw 13 ?_;refine AX ?_ ?_
   . kernel_rfl
   intro K hK;rw[Ao Bb];refine wp_store_row 65 _ _ rfl R (JV M O J) rfl rfl 65 _ G.o Ap rfl GR ?_;have U:=zz (U.o.setRow_other (g':=R) (by have:=Y.o;omega) (JV M O J));have G:=zz (G.o.setRow (JV M O J))
   have V:=zz (below_setRow V.o (show w.heap.size<=R by have:=HG.o;have:=Y.o;omega) (JV M O J))
   have X:=zz (below_setRow X.o (show H.heap.size<=R by have:=Y.o;omega) (JV M O J))
   generalize(f.setRow R (JV M O J))=V2 at*
   refine hK.o _ _ ?_;(try simp only[Rg.lp]);refine Bg Ap ?_ _;refine NoPanic.normal ?_;go_wp2_with fail
   go_meet
   case rel=>exact⟨R,rfl,Y.o.1,Y.o.2.1,Y.o.2.2,U.o,G.o,V.o,X.o⟩
  refine Bt ?_;intro K hK;go_simp;have U:=zz (U.o.alloc (.cells QV 65));have G:=zz (Ae.fresh u 65 QV);have V:=zz (V.o.alloc V.o.size (.cells QV 65));have X:=zz (X.o.alloc X.o.size (.cells QV 65))
  generalize(u.alloc (.cells QV 65))=f at*
  obtain⟨R,s⟩:=AJ (u.heap.size);rw[s]at G Y ⊢;clear s T;have T: f.cell? ⟨b,o+1,none⟩=some (.int .u8 M)/\ f.cell? ⟨b,o+2,none⟩=some (.int .u8 O):=⟨by rw[←rA.o];exact qV.o f X.o 1 Aa,by rw[←rE.o];exact qV.o f X.o 2 Aa⟩;refine hK.o _ _ T ?_;refine Aw 10 ?_;refine Bt ?_;intro K hK;rw[Ao Bb];go_simp
  go_at_call 120
  refine(CG.o f X.o _).mono ?_;rintro e w' ⟨rfl,rfl⟩;go_wp2_with fail;refine hK.o _ _ T ?_;(try simp only[Rg.lp]);refine Rg.tp 11 ⟨some 59,.build 65 #[(0,.tmp 51),(1,.tmp 55),(2,.tmp 58)],_,_,_,none⟩ (v:=.agg (JV M O J)) rfl ?_ ?_
  . (intro w;go_simp)
  refine Aw 13 ?_;refine AX ?_ ?_
  . kernel_rfl
  intro K hK;rw[Ao Bb];refine wp_store_row 65 _ _ rfl R (JV M O J) rfl rfl 65 _ G.o Ap rfl GR ?_;have U:=zz (U.o.setRow_other (g':=R) (by have:=Y.o;omega) (JV M O J));have G:=zz (G.o.setRow (JV M O J))
  have V:=zz (below_setRow V.o (show w.heap.size<=R by have:=HG.o;have:=Y.o;omega) (JV M O J))
  have X:=zz (below_setRow X.o (show H.heap.size<=R by have:=Y.o;omega) (JV M O J))
  generalize(f.setRow R (JV M O J))=V2 at*
  refine hK.o _ _ ?_;(try simp only[Rg.lp]);refine Bg Ap ?_ _;refine NoPanic.normal ?_;go_wp2_with fail
  go_meet
  case rel=>exact⟨R,rfl,Y.o.1,Y.o.2.1,Y.o.2.2,U.o,G.o,V.o,X.o⟩
 obtain⟨R,rfl,sP,tH,sW,su,r9,sG,rM⟩:=hcut;have U:=zz su;have G:=zz r9;have V:=zz sG;have X:=zz rM
 have Y:=zz (show E<R/\b<R/\H.heap.size<=R from⟨sP,tH,sW⟩)
 clear su r9 sG rM sP tH sW
 obtain⟨q,hq,sS⟩:∃q,(if c2=8 then(some ⟨b,o,none⟩:Option Addr)else some ⟨b,o+8,none⟩)=some ⟨b,q,none⟩/\(0<N->q=o+8):=by
  by_cases h:c2=8
  . exact⟨o,Ao h,fun h0=>by have:=rX.o;have:=rQ.o;omega⟩
  exact⟨o+8,Aj h,fun _=>rfl⟩
 have tZ:=zz sS;clear sS
 go_wp2_with(go_at_call 121;refine(Fc.dU _ _ _ _).mono ?_;rintro e w' ⟨rfl,rfl⟩)
 clear hq;have s:=G.o.lt
 have tF:=zz (show L-8=8*N by have:=rX.o;have:=rQ.o;omega)
 have U:=zz ((U.o.alloc (.cells #[.slice (some ⟨b,q,none⟩) (L-8) (c2-8)] 74)).alloc (.cells (LB 8) 3));have G:=zz ((G.o.alloc (.cells #[.slice (some ⟨b,q,none⟩) (L-8) (c2-8)] 74)).alloc (.cells (LB 8) 3));have V:=zz ((V.o.alloc V.o.size (.cells #[.slice (some ⟨b,q,none⟩) (L-8) (c2-8)] 74)).alloc (by have:=V.o.size;simp;omega) (.cells (LB 8) 3));have X:=zz ((X.o.alloc X.o.size (.cells #[.slice (some ⟨b,q,none⟩) (L-8) (c2-8)] 74)).alloc (by have:=X.o.size;simp;omega) (.cells (LB 8) 3));have sU:=zz (Ae.cell ((Ae.fresh wc 74 #[.slice (some ⟨b,q,none⟩) (L-8) (c2-8)]).alloc (.cells (LB 8) 3)) 0);have rW:=zz (Ae.cell (Ae.fresh (wc.alloc (.cells #[.slice (some ⟨b,q,none⟩) (L-8) (c2-8)] 74)) 3 (LB 8)) 0)
 have qU:=zz (show((wc.alloc (.cells #[.slice (some ⟨b,q,none⟩) (L-8) (c2-8)] 74)).alloc (.cells (LB 8) 3)).heap.size=wc.heap.size+2 by simp)
 rw[show(wc.alloc (.cells #[.slice (some ⟨b,q,none⟩) (L-8) (c2-8)] 74)).heap.size=wc.heap.size+1 by simp]at rW
 have qW:=zz V.o.size
 generalize((wc.alloc (.cells #[.slice (some ⟨b,q,none⟩) (L-8) (c2-8)] 74)).alloc (.cells (LB 8) 3))=W0 at*
 obtain⟨B0,uH⟩:=AJ (wc.heap.size);rw[uH]at sU rW qU s ⊢;refine(wpIn_wide (n:=3)).1 ?_
 refine Fc.dJ (F:=Fence.wide) (n:=3) (t:=63) (d:=8) rfl Aa (gf:=141) (lb:=#[.pointer (some ⟨B0,0,none⟩),.pointer (some ⟨B0+1,0,none⟩)]) rfl trivial (enters_of func141 Ap rfl) (fun x:Fin N=>Fc.P8 b q x)
  (Fc.Vz 2 Aa B0 (B0+1) b q N (c2-8) R (B0+2) (by have:=qZ.o;omega) (by have:=tF.o;omega) ⟨by have:=Y.o;omega,by have:=Y.o;omega⟩ ⟨Aa,Aa⟩ ⟨Aa,Aa⟩ W0 (by rw[qU.o];omega) (by rw[sU.o,tF.o];rfl) (by rw[rW.o];rfl))
  Fc.But.trans (Fc.But.turn (by rw[qU.o];omega)) (pF Z w H W0 E R M O J) (dG Z w H W0 E R M O J V.o.size X.o.size) ?start ?assign ?body ?done
 case start=>exact⟨none,0,G.o,World.ownsRow_nil _ _ _ _,U.o,V.o,X.o,Nat.le_refl _⟩
 case assign=>
  intro l x W K hK;simp only[List.setIfInBounds_toArray,List.set_cons_zero,List.set_cons_succ]at hK ⊢
  gi_wp2
  exact hK
 case body=>
  rintro l rG ⟨i,hi⟩ W ⟨A,c3,y,C,J2,JB,JW,tQ⟩ uJ
  have qY:=zz (show R<W0.heap.size/\E<W0.heap.size by have:=qU.o;have:=Y.o;omega)
  have qW:=zz (show w.heap.size<=W0.heap.size/\H.heap.size<=W0.heap.size from⟨V.o.size,X.o.size⟩)
  have rF:=zz (show W0.heap.size<=W.heap.size from tQ)
  have tu:N<=24:=qZ.o
  have HZ:=zz (show GQ (Dn Z (8+8*(⟨i,hi⟩:Fin N).val) 8)=GQ (Dn Z (8+8*i) 8)from rfl)
  have tL:=zz (fun v (hv:Below H.heap.size H v) (k:Nat)=>show Calls prog 120 #[.slice (some ⟨b,q+8*i,none⟩) 8 k] v (fun e w'=>e=.returned (.int .i64 (GQ (Dn Z (8+8*i) 8)))/\v=w')from
   Zn Z HS.o (8+8*i) 8 b (q+8*i) k v Aa (fun j hj=>by
    have h:=qV.o v hv (8+8*i+j) (by have:=rX.o;have:=rQ.o;omega);have hq:=tZ.o Aa
    rw[show q+8*i+j=o+(8+8*i+j)by omega]
    exact h))
  obtain⟨Zv,rV⟩:=AJ (GQ (Dn Z (8+8*i) 8));rw[rV]at tL;have uF:=zz rV;clear rV HZ tQ;have y:=zz y.drew;have J2:=zz J2.drew;have JB:=zz JB.drew;have JW:=zz JW.drew;have C:=zz (Nd.ownsRow_below C (Below.refl W.heap.size W).drew);have JK:=zz (KeepsOthers.drew W);have JX:=zz (Below.refl W0.heap.size W).drew;refine wpIn_block ?_;refine Fc.kM [1] (fun w'=> w'.cell? ⟨R,3,none⟩=some (.slice A rG.length c3)) Ap (Fc.jF Bb) ?_
  have T: W.drew.cell? ⟨R,3,none⟩=some (.slice A rG.length c3):=by rw[y.o.cell];rfl
  generalize W.drew=u at*
  simp only[Fc.P8,List.setIfInBounds_toArray,List.set_cons_zero,List.set_cons_succ];refine Ac 0 ?_;refine Ba 1 (.slice A rG.length c3) T (hy:=?_) (h:=?_)
  . (intro w uw;(try dsimp only at uw);(try go_split_ands);go_simp)
  refine Ac 2 ?_;refine Aw 3 ?_;refine Bt ?_;intro K hK;rw[Ao Bb];go_simp
  go_at_call 120
  refine(tL.o _ JW.o _).mono ?_;rintro e w' ⟨rfl,rfl⟩;go_wp2_with fail;refine hK.o _ _ T ?_;refine Aw 4 ?_;refine Bt ?_;intro K hK;go_simp;have J2:=zz (J2.o.alloc (.cells (LB Zv) 3));have y:=zz (y.o.alloc (.cells (LB Zv) 3));have JB:=zz (JB.o.alloc JB.o.size (.cells (LB Zv) 3));have JW:=zz (JW.o.alloc JW.o.size (.cells (LB Zv) 3));have C:=zz (Nd.ownsRow_below C.o ((Below.refl u.heap.size u).alloc Nr (.cells (LB Zv) 3)));have JK:=zz (JK.o.trans (KeepsOthers.alloc u (.cells (LB Zv) 3)));have JX:=zz (JX.o.alloc (Nat.le_trans rF.o JX.o.size) (.cells (LB Zv) 3));have JS:=zz (UJ u (.int .i64 Zv) 3)
  have JZ:=zz (show W0.heap.size<=(u.alloc (.cells (LB Zv) 3)).heap.size by have:=JX.o.size;have:=rF.o;omega)
  generalize(u.alloc (.cells (LB Zv) 3))=f at*
  obtain⟨g9,sD⟩:=AJ (u.heap.size);rw[sD]at JS ⊢;clear sD T
  have T: f.cell? ⟨R,3,none⟩=some (.slice A rG.length c3):=by rw[y.o.cell];rfl
  refine hK.o _ _ T ?_;refine Aw 5 ?_;refine AX ?_ ?_
  . kernel_rfl
  intro K hK;rw[Ao Bb];refine Ea _ (.tmp 65) (.tmp 68) 63 rfl C8 rfl C.o rfl (fun h=>by cases h) JS.o GR GX Aa JZ.o ?_;intro A5 c5 w5 u7 ru I;have y:=zz (y.o.grown I (fun e=>by have:=(C.o.lt _ e.symm).1;have:=qY.o;omega));have J2:=zz (J2.o.grown I (fun e=>by have:=(C.o.lt _ e.symm).1;have:=qY.o;omega));have JB:=zz (JB.o.grown I (by have:=JB.o.size;omega) (fun g e=>by have:=(C.o.lt g e).1;have:=qW.o;omega));have JW:=zz (JW.o.grown I (by have:=JW.o.size;omega) (fun g e=>by have:=(C.o.lt g e).1;have:=qW.o;omega));have JX:=zz (JX.o.grown I (by have:=JX.o.size;have:=rF.o;omega) (fun g e=>(C.o.lt g e).1));have JK:=zz (JK.o.trans (KeepsOthers.of_grownBy I (fun j o e ho=>by obtain⟨uN,t,h,_⟩:=Fb C.o (t':=0) El j e;rw[h]at ho;cases ho;rfl)));have C:=zz ru;clear ru I T JS JZ;have v5:=y.o.cell 3;have f5:=y.o.thaw 3;simp only[List.getElem?_toArray,List.getElem?_cons_zero,List.getElem?_cons_succ]at v5;have n5:R<w5.heap.size:=y.o.lt;refine hK.o _ _ ?_;refine Ac 6 ?_;refine Aw 7 ?_;refine AX ?_ ?_
  . kernel_rfl
  intro K hK;go_simp;refine hK.o _ _ ?_;(try simp only[Rg.lp]);refine Bg Ap ?_ _
  exact⟨JK.o.trans (KeepsOthers.setCell _ _ _),Fc.lH (by rw[←qU.o];exact JX.o) 3 _,A5,c5,by rw[List.length_append];exact y.o.set 3 _,by rw[List.length_append,List.map_append,List.map_singleton,show GQ (Dn Z (8+8*(⟨i,hi⟩:Fin N).val) 8)=Zv from uF.o];exact kV C.o qY.o.1,J2.o.other (p:=⟨R,3,none⟩) (by show E≠R;have:=Y.o;omega) _,JB.o.setCell (p:=⟨R,3,none⟩) (by show w.heap.size<=R;have:=Y.o;have:=HG.o;omega) _,JW.o.setCell (p:=⟨R,3,none⟩) Y.o.2.2 _,by rw[World.size_setCell];have:=JX.o.size;have:=rF.o;omega⟩
 intro D xs W hD tV hI rP;obtain⟨AV,cv,y,C,J2,JB,JW,JS⟩:=hI;subst tV;have tO:(List.finRange N).length=N:=Bq
 have sN:(List.finRange N).map (fun x:Fin N=>GQ (Dn Z (8+8*x.val) 8))=Ka Z N:=by
  refine List.ext_getElem (by simp[Ka]) fun i h1 h2=>?_
  simp[Ka]
 rw[tO]at y C;rw[sN]at C;clear tO sN;have G:=zz y;have HV:=zz C;have U:=zz J2;have V:=zz JB
 have HD:=zz (show W0.heap.size<=D from hD)
 have HK:=zz rP
 have ul:=zz (show D<W.heap.size from(Array.getElem?_eq_some_iff.1 rP).1)
 have qR:=zz (show R<W0.heap.size by have:=qU.o;have:=Y.o;omega)
 have rJ:=zz (show GU Z=wrong (M:Int) (O:Int) (J:Int) N from by rw[sK.o,rA.o,rE.o,sM.o])
 clear y C J2 JB JW JS rP hD sK;have tu:N<=24:=qZ.o;have iC:(prog.info? 65).map (·.size)=some ((BL M O (J:Nat) AV N cv):Array Value).size:=Ap;have CW:=zz (fun v=>Lu (M:Int) (O:Int) (J:Int) AV N cv v Aa);obtain⟨Ev,sI⟩:=AJ (wrong (M:Int) (O:Int) (J:Int) N);rw[sI]at rJ CW;clear sI
 unfold Jg at CW
 go_wp2_with(refine Ad rfl 65 _ rfl R rfl G.o _ underlying65 rfl iC ?_)
 refine(CW.o _).mono ?_;rintro e w9 ⟨rfl,hb⟩;have U:=AU U hb;have G:=AU G hb;have HV:=zz (Nd.ownsRow_below HV.o hb);have V:=CU V hb;have HK:=zz ((hb.block D ul.o).trans HK.o);clear hb CW
 by_cases hE:Ev=0
 .subst hE
  go_wp2_with(first|(refine Ad rfl 65 _ rfl R rfl G.o _ underlying65 rfl iC ?_)|(refine wpList_store_row rfl 65 _ _ rfl E (BL M O (J:Nat) AV N cv) rfl rfl 65 _ U.o iC rfl GR ?_))
  refine Fc.TQ ((setRow_other _ E D _ (by have:=HD.o;have:=qR.o;have:=Y.o;omega)).trans HK.o) ?_;refine Ci (x:=.int .i64 0) rfl rfl rfl ((U.o.setRow _).grown (grownBy_putObj' _ D _) (by intro e;cases e;have:=HD.o;have:=qR.o;have:=Y.o;omega)) ⟨by rw[underlying65],iC⟩ rfl ?_
  unfold FX
  rw[Ao rJ.o,tJ.o]
  exact⟨AV,cv,by rw[rA.o,rE.o,sM.o];rfl,mU (Bf (Nd.Ay HV.o (show E<W0.heap.size by have:=qR.o;have:=Y.o;omega) _) qW.o) (by rw[setRow_other _ E D _ (by have:=HD.o;have:=qR.o;have:=Y.o;omega)];exact HK.o),Below.grown (below_setRow V.o HG.o _) (grownBy_putObj' _ D _) (by rw[size_setRow];exact V.o.size) (fun k e=>by cases e;have:=HD.o;have:=qW.o;omega)⟩
 have uW:(Ev !=0)=true:=bne_iff_ne.2 hE;have uG:=zz hE;clear hE
 go_wp2_with(refine wpList_store_row rfl 65 _ _ rfl E QV rfl rfl 65 _ U.o m rfl oZ ?_)
 refine Fc.TQ ((setRow_other _ E D _ (by have:=HD.o;have:=qR.o;have:=Y.o;omega)).trans HK.o) ?_;refine Ci (x:=.int .i64 Ev) rfl rfl rfl ((U.o.setRow QV).grown (grownBy_putObj' _ D _) (by intro e;cases e;have:=HD.o;have:=qR.o;have:=Y.o;omega)) ⟨by rw[underlying65],m⟩ rfl ?_
 unfold FX
 rw[Aj (by rw[rJ.o];exact uG.o)];exact⟨by rw[rJ.o];rfl,Below.grown (below_setRow V.o HG.o _) (grownBy_putObj' _ D _) (by rw[size_setRow];exact V.o.size) (fun k e=>by cases e;have:=HD.o;have:=qW.o;omega)⟩
end Ms
end Go.Proofs.YtjobajeggllmiaaGreat
