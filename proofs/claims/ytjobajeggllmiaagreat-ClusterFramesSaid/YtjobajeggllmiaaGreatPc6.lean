import Derived.Test.YtjobajeggllmiaaGreatPc0
import Derived.Deep.CutBlock
import Derived.LoopIn
import Derived.LoopNIn
import Derived.OwnWalkIn
import Derived.RangeFuncBound
import Derived.RangeFuncNested
import Derived.Shelf.RegionOpen
import Derived.Test.YtjobajeggllmiaaGreatPc5
set_option linter.all false
set_option maxHeartbeats 100000000
set_option maxRecDepth 100000
namespace Go.Proofs.YtjobajeggllmiaaGreat
open Rg _root_.Go.Proofs.Tryz
namespace Ms
open Go.ChangeShapes Go.WideShapes Go.ChangeAt Go.RowKit Mem Rws
def UJ(w:World)(v:Value)(e:TypeId):Rd (w.alloc (.cells #[v] e)) (w.heap.size+1) 1 (some ⟨w.heap.size,0,none⟩) 1 [v]:=by
 refine⟨rfl,fun _=>⟨w.heap.size,0,rfl,Aa,fun j u Z=>?_⟩⟩;have h:=(Ae.fresh w e #[v]).cell j;rw[Nat.zero_add,h]
 simpa using Z
def O4{w:World}{B:Nat}{A:Option Addr}{Z:List Nat}(h:Rd w B 1 A Z.length (Sm.Br Z))(Y:0<Z.length):∃b o,A=some ⟨b,o,none⟩/\b<B/\∀j,j<Z.length-> w.cell? ⟨b,o+j,none⟩=some (.int .u8 (Ef Z j:Nat)):=by
 obtain⟨b,o,e,hb,W⟩:=h.2 Y;refine⟨b,o,e,hb,fun j X=>W j _ ?_⟩
 unfold Sm.Br Ef
 rw[List.getElem?_map,List.getD_eq_getElem?_getD,List.getElem?_eq_getElem X];rfl
def Mk(A:Option Addr)(c:Nat)(Z:List Nat)(B:Nat)(w:World)(hB:B<=w.heap.size)(hA:A=none->c=0)(sP:Z.length<=c)(tF:c<=maxLen)(hc:Z.length<=140737488351232)(su:∀x∈Z,x<256)(hr:Rd w B 1 A Z.length (Sm.Br Z)):
  Calls prog 50 #[.slice A Z.length c] w fun e w'=>FX w w' Z e:=by
 have HR:=zz hr;have HS:=zz su;have H:(prog.info? 65).map (·.size)=some (QV:Array Value).size:=Ap;have oZ:(QV:Array Value).all (·.oneCell')=true:=GR;clear hr su
 go_in
 go_upto_region 2 with fail
 have X:=zz (show Ae ((w.alloc (.cells QV 65)).alloc (.cells QV 65)) w.heap.size 65 QV from(Ae.new rfl).alloc _)
 have O:=zz (show Ae ((w.alloc (.cells QV 65)).alloc (.cells QV 65)) (w.heap.size+1) 65 QV from Ae.new Bq)
 have Y:=zz (show Below w.heap.size w ((w.alloc (.cells QV 65)).alloc (.cells QV 65))from(DC).alloc Bq _)
 generalize((w.alloc (.cells QV 65)).alloc (.cells QV 65))=w1 at*
 have sM:=HR;have HR:=zz (HR.o.below (Y.o.mono hB));obtain⟨r,C⟩:=AJ (w.heap.size);have rF:=zz C;rw[C]at X O hB ⊢;clear C;obtain⟨g4,rX⟩:=AJ (r+1);rw[rX]at O ⊢
 have t:=zz (show w.heap.size<=r/\r<g4 by have:=rF.o;omega)
 clear rX
 by_cases q1:220<Z.length
 .have D:=zz (show GU Z=1 from Ao q1)
  have rJ:(220:Int)<(Z.length:Int):=Aa;clear q1
  go_wp2_with(first|(refine Ad rfl 65 _ rfl g4 rfl O.o _ underlying65 rfl H ?_)|(refine wpList_store_row rfl 65 _ _ rfl r QV rfl rfl 65 _ X.o H rfl oZ ?_))
  refine Ci (x:=.int .i64 1) rfl rfl rfl (X.o.setRow QV) ⟨by rw[underlying65],H⟩ rfl ?_
  unfold FX
  rw[Aj (by rw[D.o];decide)];exact⟨by rw[D.o];rfl,below_setRow Y.o t.o.1 _⟩
 have d:=zz (show GU Z=if Z.length<12\/Ef Z 0≠87 then 2 else if Sm.okB Z=false then 5 else if 24<E5 Z then 6 else if Z.length≠12+8*E5 Z then 2 else wrong (Ef Z 1) (Ef Z 2) (Dn Z 3 4) (E5 Z)from Aj q1)
 by_cases q2:Z.length<12
 .have D:=zz (show GU Z=2 by rw[d.o,Ao (.inl q2)])
  have sD:(Z.length:Int)<12:=Aa;have rJ:(Z.length:Int)<=220:=Aa;clear q1 q2
  go_wp2_with(first|(refine Ad rfl 65 _ rfl g4 rfl O.o _ underlying65 rfl H ?_)|(refine wpList_store_row rfl 65 _ _ rfl r QV rfl rfl 65 _ X.o H rfl oZ ?_))
  refine Ci (x:=.int .i64 2) rfl rfl rfl (X.o.setRow QV) ⟨by rw[underlying65],H⟩ rfl ?_
  unfold FX
  rw[Aj (by rw[D.o];decide)];exact⟨by rw[D.o];rfl,below_setRow Y.o t.o.1 _⟩
 obtain⟨b,o,rfl,hb,rU⟩:=O4 sM.o Aa
 have E:=zz (fun v (hv:Below w.heap.size w v) j (hj:j<Z.length)=>(hv.cell (p:=⟨b,o+j,none⟩) (show b<w.heap.size by rw[rF.o];omega)).trans (rU j hj))
 have x0:=E.o w1 Y.o 0 Aa;rw[Nat.add_zero]at x0;clear rU
 by_cases q3:Ef Z 0=87
 case neg=>
  have D:=zz (show GU Z=2 by rw[d.o,Ao (.inr q3)])
  have sK:(((Ef Z 0:Nat):Int)!=87)=true:=bne_iff_ne.2 Aa;have sD:¬(Z.length:Int)<12:=Aa;have rJ:(Z.length:Int)<=220:=Aa
  generalize Ef Z 0=y0 at*
  clear q3 q2 q1
  go_wp2_with(first|(refine Ad rfl 65 _ rfl g4 rfl O.o _ underlying65 rfl H ?_)|(refine wpList_store_row rfl 65 _ _ rfl r QV rfl rfl 65 _ X.o H rfl oZ ?_))
  refine Ci (x:=.int .i64 2) rfl rfl rfl (X.o.setRow QV) ⟨by rw[underlying65],H⟩ rfl ?_
  unfold FX
  rw[Aj (by rw[D.o];decide)];exact⟨by rw[D.o];rfl,below_setRow Y.o t.o.1 _⟩
 have qW:=zz (d.o.trans (Aj (show ¬(Z.length<12\/Ef Z 0≠87)by omega)))
 have sK:(((Ef Z 0:Nat):Int)!=87)=false:=bne_eq_false_iff_eq.2 Aa;have sD:¬(Z.length:Int)<12:=Aa;have rJ:(Z.length:Int)<=220:=Aa
 generalize Ef Z 0=y0 at*
 clear q3;go_wp2_with fail;have rZ:=Sm.WO (some ⟨b,o,none⟩) c Z B w1 (Nat.le_trans hB (by rw[←rF.o];exact Y.o.size)) hA sP tF hc HS.o HR.o;refine rZ.mono ?_;intro e w2 tT;clear rZ x0
 rcases tT with⟨hk,A2,c2,rfl,ho,G⟩|⟨hk,rfl,G⟩
 case inr=>
  have D:=zz (show GU Z=5 by rw[qW.o,Ao hk])
  have X:=AU X G;have O:=AU O G;have Y:=CU Y G;clear hk G qW d
  go_wp2_with(first|(refine Ad rfl 65 _ rfl g4 rfl O.o _ underlying65 rfl H ?_)|(refine wpList_store_row rfl 65 _ _ rfl r QV rfl rfl 65 _ X.o H rfl oZ ?_))
  refine Ci (x:=.int .i64 5) rfl rfl rfl (X.o.setRow QV) ⟨by rw[underlying65],H⟩ rfl ?_
  unfold FX
  rw[Aj (by rw[D.o];decide)];exact⟨by rw[D.o];rfl,below_setRow Y.o t.o.1 _⟩
 have s:=zz (qW.o.trans (Aj (by rw[hk];simp)));have X:=AU X G;have O:=AU O G;have Y:=CU Y G;clear hk G qW d ho;have x7:=E.o w2 Y.o 7 Aa;have sW:=zz (JA HS.o 7)
 have sI:=zz (show E5 Z=Ef Z 7 from rfl)
 generalize Ef Z 7=N at*
 rw[sI.o]at s;have ul:(0:Int)<=(N:Int):=Aa
 have uK:(N:Int)<256:=by have:=sW.o;omega
 by_cases q4:24<N
 .have D:=zz (show GU Z=6 by rw[s.o,Ao q4])
  have sU:(24:Int)<(N:Int):=Aa;clear q4 s
  go_wp2_with(first|(refine Ad rfl 65 _ rfl g4 rfl O.o _ underlying65 rfl H ?_)|(refine wpList_store_row rfl 65 _ _ rfl r QV rfl rfl 65 _ X.o H rfl oZ ?_))
  refine Ci (x:=.int .i64 6) rfl rfl rfl (X.o.setRow QV) ⟨by rw[underlying65],H⟩ rfl ?_
  unfold FX
  rw[Aj (by rw[D.o];decide)];exact⟨by rw[D.o];rfl,below_setRow Y.o t.o.1 _⟩
 have qR:=zz (s.o.trans (Aj q4));have sU:(N:Int)<=24:=Aa;have hL:(12:Int)+8*(N:Int)=((12+8*N:Nat):Int):=Aa
 by_cases q5:Z.length=12+8*N
 case neg=>
  have D:=zz (show GU Z=2 by rw[qR.o,Ao q5])
  have r9:((Z.length:Int)!=((12+8*N:Nat):Int))=true:=bne_iff_ne.2 Aa
  generalize 12+8*N=L at*
  clear q5 q4 qR s
  go_wp2_with(first|(refine Ad rfl 65 _ rfl g4 rfl O.o _ underlying65 rfl H ?_)|(refine wpList_store_row rfl 65 _ _ rfl r QV rfl rfl 65 _ X.o H rfl oZ ?_))
  refine Ci (x:=.int .i64 2) rfl rfl rfl (X.o.setRow QV) ⟨by rw[underlying65],H⟩ rfl ?_
  unfold FX
  rw[Aj (by rw[D.o];decide)];exact⟨by rw[D.o];rfl,below_setRow Y.o t.o.1 _⟩
 have rD:=zz (qR.o.trans (Aj Aa));have r9:((Z.length:Int)!=((12+8*N:Nat):Int))=false:=bne_eq_false_iff_eq.2 Aa;have sH:=zz q5
 have tZ:=zz (show N<=24 by omega)
 generalize sJ:12+8*N=L at*
 have rP:=zz sJ;clear q5 q4 qR s sJ
 go_upto_region 14 with fail
 have x1:=E.o w2 Y.o 1 Aa;have x2:=E.o w2 Y.o 2 Aa;have rQ:=zz (JA HS.o 1);have rW:=zz (JA HS.o 2)
 have HK:=zz (show Ef Z 1=Ef Z 1/\Ef Z 2=Ef Z 2 from⟨rfl,rfl⟩)
 obtain⟨I,qY⟩:=AJ (Ef Z 1);obtain⟨J,rA⟩:=AJ (Ef Z 2);have qZ:=zz qY;have rE:=zz rA;rw[qY]at x1 rQ;rw[rA]at x2 rW;have uF:(0:Int)<=(I:Int):=Aa
 have uo:(I:Int)<256:=by have:=rQ.o;omega
 have uq:(0:Int)<=(J:Int):=Aa
 have uI:(J:Int)<256:=by have:=rW.o;omega
 have b1:(1:Int)<(Z.length:Int):=Aa
 have tC:IntKind.i64.wrap (I:Int)=(I:Int):=by rw[IntKind.wrap_i64];omega
 have sN:IntKind.i64.wrap (J:Int)=(J:Int):=by rw[IntKind.wrap_i64];omega
 have b2:(2:Int)<(Z.length:Int):=Aa;clear qY rA x7;have sw:g4<w2.drew.heap.size:=O.o.lt;have W:=And.intro x1 x2;have X:=zz X.o.drew;have O:=zz O.o.drew;have Y:=zz Y.o.drew;clear x1 x2;refine wp_region_noPanic ?_;refine A8 [2,6] (fun w'=> w'.cell? ⟨b,o+1,none⟩=some (.int .u8 I)/\ w'.cell? ⟨b,o+2,none⟩=some (.int .u8 J)) Ap ?_
 have W:=(show w2.drew.cell? ⟨b,o+1,none⟩=some (.int .u8 I)/\ w2.drew.cell? ⟨b,o+2,none⟩=some (.int .u8 J)from W)
 generalize w2.drew=V0 at*
 refine Ac 0 ?_;refine Ac 1 ?_;refine Bc 2 W ?_;refine Rg.tp 3 ⟨some 54,.convert 5 3 (.tmp 53),_,_,_,none⟩ (v:=.int .i64 (I:Nat)) rfl ?_ ?_
 . (intro w;go_simp)
 refine Ac 4 ?_;refine Ac 5 ?_;refine Bc 6 W ?_;refine Rg.tp 7 ⟨some 58,.convert 5 3 (.tmp 57),_,_,_,none⟩ (v:=.int .i64 (J:Nat)) rfl ?_ ?_
 . (intro w;go_simp)
 (try simp only[Rg.lp]);refine Rg.tp 8 ⟨some 59,.build 65 #[(0,.tmp 54),(1,.tmp 58)],_,_,_,none⟩ (v:=.agg (JV I J 0)) rfl ?_ ?_
 . (intro w;go_simp)
 refine Aw 9 ?_;refine Bt ?_;intro K hK;go_simp;have X:=zz (X.o.alloc (.cells QV 65));have O:=zz (O.o.alloc (.cells QV 65));have R:=zz (Ae.fresh V0 65 QV);have Y:=zz (Y.o.alloc Y.o.size (.cells QV 65))
 generalize(V0.alloc (.cells QV 65))=V1 at*
 obtain⟨M,rC⟩:=AJ (V0.heap.size);rw[rC]at R sw ⊢;clear rC W;have W: V1.cell? ⟨b,o+1,none⟩=some (.int .u8 I)/\ V1.cell? ⟨b,o+2,none⟩=some (.int .u8 J):=⟨by rw[←qZ.o];exact E.o V1 Y.o 1 Aa,by rw[←rE.o];exact E.o V1 Y.o 2 Aa⟩;refine hK.o _ _ W ?_;refine Aw 10 ?_;refine AX ?_ ?_
 . kernel_rfl
 intro K hK;rw[Ao Bb];refine wp_store_row 65 _ _ rfl M (JV I J 0) rfl rfl 65 _ R.o Ap rfl GR ?_;have X:=zz (X.o.setRow_other (g':=M) (by have:=t.o;omega) (JV I J 0));have O:=zz (O.o.setRow_other (g':=M) (by have:=t.o;omega) (JV I J 0));have R:=zz (R.o.setRow (JV I J 0))
 have Y:=zz (below_setRow Y.o (show w.heap.size<=M by have:=t.o;omega) (JV I J 0))
 generalize(V1.setRow M (JV I J 0))=V2 at*
 refine hK.o _ _ ?_;(try simp only[Rg.lp]);refine Bg Ap ?_ _;refine NoPanic.normal ?_;clear W;go_wp2_with fail;have rC:=R.o.lt
 have F:=zz (show g4<M/\w.heap.size<=M by have:=t.o;omega)
 clear b1 b2 tC sN r9 hL q1 q2 sK
 go_loopw[9] (fun iv wr=>∃n:Nat,3<=n/\n<=7/\iv=.int .i64 (n:Int)/\Ae wr M 65 (JV I J (Dn Z 3 (n-3):Nat))/\Below M V2 wr) (fun iv _=>7-(intOf iv).toNat)
 .exact⟨3,Aa,Aa,rfl,R.o,Below.refl _ _⟩
 clear R;obtain⟨n,uG,uJ,rfl,h8,qQ⟩:=hrel;have R:=zz h8;have T:=zz qQ;clear h8 qQ;have u:=zz (Y.o.trans (T.o.mono F.o.2))
 by_cases rH:n<7
 .have xn:=E.o _ u.o n Aa;have c2:=R.o.cell 2;simp only[List.getElem?_toArray,List.getElem?_cons_zero,List.getElem?_cons_succ]at c2
  have HV:=zz (show Dn Z 3 (n+1-3)=Dn Z 3 (n-3)*256+Ef Z n from by rw[show n+1-3=(n-3)+1 by omega];show Dn Z 3 (n-3)*256+Ef Z (3+(n-3))=_;rw[show 3+(n-3)=n by omega])
  have f:=zz (Nat.lt_of_lt_of_le (Nc HS.o 3 (n-3)) (Nat.pow_le_pow_right (show 0<256 by omega) (show n-3<=3 by omega)))
  have z:=zz (JA HS.o n)
  generalize Dn Z 3 (n-3)=V at*
  generalize Ef Z n=y at*
  go_upto_region 18 with fail
  have uz:(0:Int)<=(V:Int):=Aa
  have uH:(V:Int)<16777216:=by have h:V<256 ^ 3:=f.o;have:V<16777216:=h;omega
  have tJ:(0:Int)<=(y:Int):=Aa
  have qY:(y:Int)<256:=by have:=z.o;omega
  have ug:(0:Int)<=(n:Int):=Aa;have um:(n:Int)<(Z.length:Int):=Aa;have tu:IntKind.i64.wrap (y:Int)=(y:Int):=wrap_small tJ Aa;obtain⟨P,hP⟩:=AJ (IntKind.i64.wrap ((V:Int)*256));obtain⟨U,hU⟩:=AJ (IntKind.i64.wrap (P+(y:Int)))
  have rY:P=(V:Int)*256:=by rw[←hP];exact wrap_small Aa Aa
  have HU:=zz (show U=((V*256+y:Nat):Int)from by
   have h:=wrap_small (x:=P+(y:Int)) Aa Aa;rw[hU]at h;rw[h,rY]
   omega)
  clear rY;have W:=And.intro c2 xn;have R:=zz R.o.drew;have T:=zz T.o.drew;have f2:=R.o.thaw 2;clear c2 xn;refine wp_region_noPanic ?_;refine A8 [1,6] (fun w'=> w'.cell? ⟨M,2,none⟩=some (.int .i64 V)/\ w'.cell? ⟨b,o+n,none⟩=some (.int .u8 y)) Ap ?_
  have W:=(show wr.drew.cell? ⟨M,2,none⟩=some (.int .i64 V)/\ wr.drew.cell? ⟨b,o+n,none⟩=some (.int .u8 y)from W)
  have c2:=W.1
  generalize wr.drew=V0 at*
  refine Ac 0 ?_;refine Bc 1 W ?_;refine Ac 2 ?_;refine Ac 3 ?_;refine Ac 4 ?_;refine Ac 5 ?_;refine Bc 6 W ?_;refine Ac 7 ?_;refine Ac 8 ?_;refine Ac 9 ?_;refine Aw 10 ?_;refine AX ?_ ?_
  . kernel_rfl
  intro K hK;go_simp;refine hK.o _ _ ?_;(try simp only[Rg.lp]);refine Bg Ap ?_ _;refine NoPanic.normal ?_;clear W;go_wp2_with fail;exact⟨⟨n+1,Aa,Aa,BG,by rw[HV.o,←HU.o];exact R.o.set 2 _,T.o.setCell (p:=⟨M,2,none⟩) Nr _⟩,Ck⟩
 obtain rfl:n=7:=Aa;clear rH;have uL:=zz (Nc HS.o 3 4)
 have R:=zz (show Ae wr M 65 (JV I J (Dn Z 3 4:Nat))from R.o)
 obtain⟨FR,rq⟩:=AJ (Dn Z 3 4);rw[rq]at R rD;have tK:=zz rq;have X:=zz (X.o.below T.o (by have:=t.o;have:=F.o;omega));have O:=zz (O.o.below T.o F.o.1);have Y:=u;have uj:=R.o.lt;clear rq T u
 generalize wr=w7 at*
 go_wp2_with fail
 go_loopw[10] (fun iv wr=>∃(i:Nat) (AV:Option Addr) (cv:Nat),i<=N/\iv=.int .i64 (i:Int)/\Ae wr M 65 (BL I J (FR:Nat) AV i cv)/\wr.ownsRow (M+1) 3 1 (.slice AV i cv) i (AQ (Ka Z i))/\Below M w7 wr) (fun iv _=>N-(intOf iv).toNat)
 .exact⟨0,none,0,Aa,rfl,R.o,World.ownsRow_nil _ _ _ _,Below.refl _ _⟩
 clear R;obtain⟨i,AV,cv,uy,rfl,h8,rT,qQ⟩:=hrel;have R:=zz h8;have HV:=zz rT;have T:=zz qQ;clear h8 rT qQ;have u:=zz (Y.o.trans (T.o.mono F.o.2));have rM:=R.o.lt
 by_cases rH:i<N
 .have uD:(i:Int)<(N:Int):=Aa
  have rO:=zz (show i<24 by omega)
  go_wp2_with fail
  go_loop[11,12] (fun v k=>∃m:Nat,m<=8/\k=.int .i64 (m:Int)/\v=.int .u64 (Dn Z (8+8*i) m:Nat)) (fun _ k=>8-(intOf k).toNat)
  .exact⟨0,Aa,rfl,rfl⟩
  obtain⟨m,uw,rfl,rfl⟩:=hrel
  by_cases sO:m<8
  .have xp:=E.o _ u.o (8+8*i+m) (by have:=sH.o;have:=rP.o;omega)
   have qU:=zz (show Dn Z (8+8*i) (m+1)=Dn Z (8+8*i) m*256+Ef Z (8+8*i+m)from rfl)
   have f:=zz (Nat.lt_of_lt_of_le (Nc HS.o (8+8*i) m) (Nat.pow_le_pow_right (show 0<256 by omega) (show m<=7 by omega)))
   have z:=zz (JA HS.o (8+8*i+m))
   have qV:=zz (show 8+8*i+m<Z.length by have:=sH.o;have:=rP.o;omega)
   obtain⟨q1,sG⟩:=AJ (8*i);have e1:(8:Int)*(i:Int)=(q1:Int):=Aa;rw[sG]at xp qU f z qV;obtain⟨q2,rR⟩:=AJ (8+q1);have e2:(8:Int)+(q1:Int)=(q2:Int):=Aa;rw[rR]at xp qU f z qV;obtain⟨p,hp⟩:=AJ (q2+m);have e3:(q2:Int)+(m:Int)=(p:Int):=Aa;rw[hp]at xp qU z qV
   have HQ:=zz (show 8+8*i=q2 by omega)
   clear sG rR hp;rw[HQ.o]
   generalize Dn Z q2 m=V at*
   generalize Ef Z p=y at*
   have uh:(0:Int)<=(p:Int):=Aa
   have uf:(p:Int)<(Z.length:Int):=by have:=qV.o;omega
   obtain⟨P,hP⟩:=AJ (IntKind.u64.wrap ((V:Int)*256));obtain⟨U,hU⟩:=AJ (IntKind.u64.wrap (P+(y:Int)));have HU:=zz (fH V y (by have h:V<256 ^ 7:=f.o;exact h) z.o hP hU);have tu:IntKind.u64.wrap (y:Int)=(y:Int):=N9 (by have:=z.o;omega);go_wp2_with fail;exact⟨⟨m+1,Aa,BG,by rw[qU.o,HU.o]⟩,Ck⟩
  obtain rfl:m=8:=Aa;clear sO
  rw[show((8:Nat):Int)=8 from rfl]
  have HD:=zz (dx Z i)
  have sZ:=zz (show GQ (Dn Z (8+8*i) 8)=IntKind.i64.wrap ((Dn Z (8+8*i) 8:Nat):Int)from rfl)
  generalize Dn Z (8+8*i) 8=V at*
  obtain⟨Zv,hZ⟩:=AJ (IntKind.i64.wrap (V:Int));rw[sZ.o,hZ]at HD;have tX:=zz (UJ wr (.int .i64 Zv) 3);have rG:=zz (Nd.ownsRow_below HV.o ((Below.refl wr.heap.size wr).alloc Nr (.cells (LB Zv) 3)));have sS:=zz (T.o.alloc (Nat.le_of_lt rM) (.cells (LB Zv) 3));have tL:=zz (R.o.alloc (.cells (LB Zv) 3));have c3:=R.o.cell 3;simp only[List.getElem?_toArray,List.getElem?_cons_zero,List.getElem?_cons_succ]at c3;have tY:i<24:=rO.o
  go_wp2_with(at_builtin;go_loud (refine Aq _ rfl (.tmp 96) (.tmp 99) 63 rfl (base:=M+1) C8 rfl rG.o rfl (fun h=>by cases h) tX.o GR GX Aa Ec ?_);intro A9 c9 w5 tO q C;have tH:=zz q;have ru:=zz (tL.o.grown C (fun e=>by have:=(rG.o.lt _ e.symm).1;omega));have tQ:=zz (sS.o.grown C Ec (fun g e=>by have:=(rG.o.lt g e).1;omega));have f3:=ru.o.thaw 3;have sQ:=ru.o.cell 3;simp only[List.getElem?_toArray,List.getElem?_cons_zero,List.getElem?_cons_succ]at sQ;clear tO q C)
  refine⟨⟨i+1,Aa,Aa,A9,c9,ru.o.set 3 _,?_,tQ.o.setCell (p:=⟨M,3,none⟩) Nr _⟩,Ck⟩
  rw[HD.o,show AQ (Ka Z i++[Zv])=AQ (Ka Z i)++[.int .i64 Zv]by simp[AQ]]
  exact ownsRow_setCell_below tH.o (by show M<M+1;omega) _
 obtain rfl:i=N:=Aa;clear rH
 have qX:=zz (show GU Z=wrong (I:Int) (J:Int) (FR:Int) i from by rw[rD.o,qZ.o,rE.o])
 have X:=zz (X.o.below T.o (by have:=t.o;have:=F.o;omega));have O:=zz (O.o.below T.o F.o.1);have Y:=u;have iC:(prog.info? 65).map (·.size)=some ((BL I J (FR:Nat) AV i cv):Array Value).size:=Ap;have CW:=zz (fun v=>Nu (I:Int) (J:Int) (FR:Int) AV i cv v Aa);obtain⟨Ev,rV⟩:=AJ (wrong (I:Int) (J:Int) (FR:Int) i);rw[rV]at qX CW;clear rV T u rD
 unfold Jg at CW
 go_wp2_with(refine Ad rfl 65 _ rfl M rfl R.o _ underlying65 rfl iC ?_)
 refine(CW.o _).mono ?_;rintro e w9 ⟨rfl,hb⟩;have X:=AU X hb;have O:=AU O hb;have R:=AU R hb;have HV:=zz (Nd.ownsRow_below HV.o hb);have Y:=CU Y hb;clear hb CW
 by_cases hE:Ev=0
 .subst hE
  go_wp2_with(first|(refine Ad rfl 65 _ rfl M rfl R.o _ underlying65 rfl iC ?_)|(refine wpList_store_row rfl 65 _ _ rfl r (BL I J (FR:Nat) AV i cv) rfl rfl 65 _ X.o iC rfl GR ?_))
  refine Ci (x:=.int .i64 0) rfl rfl rfl (X.o.setRow _) ⟨by rw[underlying65],iC⟩ rfl ?_
  unfold FX
  rw[Ao qX.o,sI.o]
  exact⟨AV,cv,by rw[qZ.o,rE.o,tK.o];rfl,Bf (Nd.Ay HV.o (show r<M+1 by have:=t.o;have:=F.o;omega) _) (by have:=F.o;omega),below_setRow Y.o t.o.1 _⟩
 have uE:(Ev !=0)=true:=bne_iff_ne.2 hE;have tV:=zz hE;clear hE
 go_wp2_with(first|(refine Ad rfl 65 _ rfl g4 rfl O.o _ underlying65 rfl H ?_)|(refine wpList_store_row rfl 65 _ _ rfl r QV rfl rfl 65 _ X.o H rfl oZ ?_))
 refine Ci (x:=.int .i64 Ev) rfl rfl rfl (X.o.setRow QV) ⟨by rw[underlying65],H⟩ rfl ?_
 unfold FX
 rw[Aj (by rw[qX.o];exact tV.o)];exact⟨by rw[qX.o];rfl,below_setRow Y.o t.o.1 _⟩
end Ms
namespace Ms
open Go.ChangeShapes Go.WideShapes Go.ChangeAt Go.RowKit Mem
def Zn(Z:List Nat)(X:∀x∈Z,x<256)(o n:Nat)(b q c:Nat)(w:World)(F:n<=140737488351232)(U:∀j,j<n-> w.cell? ⟨b,q+j,none⟩=some (.int .u8 (Ef Z (o+j):Nat))):
  Calls prog 120 #[.slice (some ⟨b,q,none⟩) n c] w fun e w'=>e=.returned (.int .i64 (GQ (Dn Z o n)))/\w=w':=by
 have J:=zz U;have T:=zz X;clear U X
 go_in
 go_wp2_with fail
 go_loop[3,8] (fun v i=>∃k:Nat,k<=n/\i=.int .i64 k/\v=.int .i64 (GQ (Dn Z o k))) (fun _ i=>n-(intOf i).toNat)
 .exact⟨0,Aa,rfl,rfl⟩
 obtain⟨k,H,rfl,rfl⟩:=hrel
 by_cases Y:k<n
 .have G:=J.o k Y;have L:(0:Int)<=(k:Int):=Aa;have M:(k:Int)<(n:Int):=Aa
  have R:=zz (show Dn Z o (k+1)=Dn Z o k*256+Ef Z (o+k)from rfl)
  have O:=zz (JA T.o (o+k))
  generalize Ef Z (o+k)=y at*
  have hy:y<256:=O.o
  generalize Dn Z o k=V at*
  have W:=zz (Xm V y hy);obtain⟨p,I⟩:=AJ (IntKind.i64.wrap (GQ V*256));rw[I]at W;obtain⟨u,N⟩:=AJ (bits .or .i64 p (y:Int));rw[N]at W;go_wp2_with fail;exact⟨⟨k+1,Aa,BG,by rw[R.o,W.o]⟩,Ck⟩
 obtain rfl:k=n:=Aa;clear Y;go_wp2_with fail
 go_ret
 exact⟨rfl,rfl⟩
end Ms
namespace Fc
open Go.RowKit
section
variable {n l : Nat} {P : Program} {ops : Array Oper} {Q : Exit -> Act -> World -> Prop} {md : Region.Mode}
def Pz{o:Oper}{a:Act}{w:World}{K:Act->World->Prop}(Z:∀c,o.op≠ .defer c)(h:o.wp P a w K Q):o.wpIn (Fence.wide.inRound l) n P a w K Q:=by
 unfold Oper.wp at h
 unfold Oper.wpIn
 refine⟨fun _ _=>trivial,?_⟩;rw[Oper.semAt_eq _ _ _ Z]
 generalize(execOp a.eval o).run P w=r at*
 cases r with
 |ok x w'=>
  cases x<;>simp only[Oper.upon,Oper.uponIn]at h ⊢ <;>
   first
    |exact h
    |exact h.elim
    |exact⟨fun e=>(by cases e),CallsIn.inRound l (callsIn_wide.2 h)⟩
    |exact⟨fun e=>(by cases e),fun c cs _=>let ⟨v,w',r,s⟩:=h c cs;⟨v,w',r,stepsIn_wide.2 s⟩⟩
 |halt x w'=>cases x<;>simp only[Oper.upon,Oper.uponIn]at h ⊢ <;>exact h
def aN{i:Nat}{a:Act}{w:World}{K Y:Act->World->Prop}(Z:¬LetsOut Q)(X:∀(j:Nat) (o:Oper),ops[j]?=some o->∀c,o.op≠ .defer c)(hK:∀a w,K a w->Y a w)(h:wpOp P ops Q i K a w):wpOpIn (Fence.wide.inRound l) n P ops Q i Y a w:=by
 refine wpOpIn_mono hK ?_
 unfold wpOp at h
 unfold wpOpIn
 cases ho:ops[i]? with
 |none=>rw[ho]at h;exact h
 |some o=>
  rw[ho]at h
  simp only at h ⊢
  split
  .rename_i hw
   rw[Ao hw]at h;exact Pz (X i o ho) (h.resolve_right fun x=>Z x.2)
  rename_i hw
  rw[Aj hw]at h;exact⟨fun _ _=>trivial,h⟩
def Py(X:¬LetsOut Q)(W:∀(j:Nat) (o:Oper),ops[j]?=some o->∀c,o.op≠ .defer c):∀(Z:Nat) (Y:Array Bool) (a:Act) (w:World),wpAny P md ops Q Z Y a w->wpAnyIn (Fence.wide.inRound l) n P md ops Q Z Y a w
 |0,_,_,_,h=>h
 |Z+1,_,_,_,h=>⟨h.1,fun i hi=>aN X W (fun U w' V=>Py X W Z _ U w' V) (h.2 i hi)⟩
def Norm(K:Act->World->Prop):Exit->Act->World->Prop
 | .normal,a,w=>K a w
 |_,_,_=>False
def Zf(K:Act->World->Prop):¬LetsOut (Norm K):=fun⟨_,_,h⟩=>h
def Ww{Q:Exit->Act->World->Prop}:∀(e:Exit) (a:Act) (w:World),Norm (Q .normal) e a w->Q e a w:=fun e a w h=>by
 cases e<;>first|exact h|exact(h:False).elim
def kM{id:Nat}{a:Act}{w:World}(reads:List Nat)(S:World->Prop)(Z:P.follows .mixedOrders=true)(Y:∀(j:Nat) (o:Oper),ops[j]?=some o->∀c,o.op≠ .defer c)(h:BO P .any ops (Norm (Q .normal)) reads S ops.size (Array.replicate ops.size false) a w.drew):(Code.region id ops true).wpIn (Fence.wide.inRound l) n P Q a w:=
 wpIn_mono (wpIn_region_any Z (Py (Zf _) Y _ _ _ _ (MN _ _ _ _ h))) Ww
def jF(h:ops.toList.all (fun o=>match o.op with| .defer _=>false|_=>true)=true):∀(j:Nat) (o:Oper),ops[j]?=some o->∀c,o.op≠ .defer c:=by
 intro j o Y c e;have Z:=List.all_eq_true.1 h o (Array.mem_toList_iff.2 (Array.mem_of_getElem? Y));rw[e]at Z
 cases Z
end
def OV{P:Program}{Z:Func}{tmps:Array Value}{R:Ending->World->Prop}{n:Nat}{w:World}(h:∃v,(results Z tmps).run P w=.ok v w/\R (.returned v) w):LeavesInM Fence.wide n P Z tmps R [] .returning w:=h
def Kc{P:Program}{X:Func}{R:Ending->World->Prop}{n:Nat}:∀(e:Exit) (a:Act) (w:World),bodyPost P X R e a w->bodyPostM Fence.wide n P X R e a w:=fun e a w h=>by
 cases e with
 |normal=>obtain⟨Y,v,W,Z⟩:=h;show LeavesInM Fence.wide n P X a.tmps R a.defers .returning w;rw[Y];exact OV ⟨v,W,Z⟩
 |ret=>obtain⟨Y,v,W,Z⟩:=h;show LeavesInM Fence.wide n P X a.tmps R a.defers .returning w;rw[Y];exact OV ⟨v,W,Z⟩
 |panic c=>obtain⟨Y,Z⟩:=h;show LeavesInM Fence.wide n P X a.tmps R a.defers (.panicking c) w;rw[Y];exact Z
 |outgrown=>exact h
 |exit i=>exact h
 |goto i=>exact h
def dJ{α:Type}{n:Nat}{P:Program}{F:Fence}{g:Operand}{t d:Tmp}{Z body:Code}{Q:Exit->Act->World->Prop}{a:Act}{w:World}(hro:F.round=none)(h1:1<=n){gf:Nat}{lb:Array Value}(hg:a.eval g=.func (.func gf) #[] lb)(hFg:F.fn gf)(eg:∀args w,(callFunc gf args).run P w=.ok (.enter gf args) w)(enc:α->Value){Kp:World->World->Prop}{S Sp:List α->Prop}{N:Nat}(hseq:SeqStopsK F (n-1) P gf lb (fun x=>#[enc x]) Kp S Sp N w)(hKt:∀ {A B C:World},Kp A B->Kp B C->Kp A C)(hKb:∀(W:World) (l:Nat) (o V:Obj),w.heap.size<=l->W.heap[l]?=some o->o.isCells=false->o.isWalk=false->Kp W (W.putObj l V))(I:List α->World->Prop)(hI:OwnFrom w.heap.size I)(h0:I [] w)(hassign:∀(l:Nat) (x:α) (W:World) (K:Act->World->Prop),K { tmps:=(a.tmps.setIfInBounds t (enc x)).setIfInBounds d (enc x),defers:=[] } W->
   Z.wpIn (F.inRound l) (n-1-1) P (Exit.then K (fun _ _ _=>False)) { tmps:=a.tmps.setIfInBounds t (enc x),defers:=[] } W)(hbody:∀(l:Nat) (Y:List α) (x:α) (W:World),I Y W->Y.length<N->body.wpIn (F.inRound l) (n-1-1) P (ownPostK Kp I (fun _ _ _=>False) (Y++[x]) W) { tmps:=(a.tmps.setIfInBounds t (enc x)).setIfInBounds d (enc x),defers:=[] } W)(hdone:∀(D:Nat) (X:List α) (W:World),w.heap.size<=D->S X->I X W->W.heap[D]?=some (.deferred (some []))->Q .normal { a with defers:={ target:=.collected D,args:=#[] }::a.defers } W):
  (Code.rangeFunc g #[t] Z body).wpIn F n P Q a w:=
 wpIn_rangeFunc_ownF hro h1 hg hFg eg hseq hKt hKb (Below.refl _ _) (fun _=>rfl) I (fun _ _ _=>False) hI (fun _ _ _ _ _ h _ _=>h) h0 (fun x=>{ tmps:=(a.tmps.setIfInBounds t (enc x)).setIfInBounds d (enc x),defers:=[] })
  (fun l x W K hK=>by have h:=hassign l x W K hK;have e:(#[t].zip #[enc x])=#[(t,enc x)]:=Bq;rw[e];simpa using h) hbody hdone (fun _ _ _ _ _ _ h _=>h.elim)
def TQ{P:Program}{Z:Func}{R:Ending->World->Prop}{n D:Nat}{tmps:Array Value}{w:World}(hK:w.heap[D]?=some (.deferred (some [])))(h:bodyPost P Z R .ret { tmps:=tmps,defers:=[] } (w.putObj D (.deferred none))):
  bodyPostM Fence.wide n P Z R .ret { tmps:=tmps,defers:=[{ target:=.collected D,args:=#[] }] } w:=by
 obtain⟨_,Y⟩:=h;exact⟨Bq,.inl ⟨_,_,rfl,run_takeDeferred hK,Y⟩⟩
end Fc
namespace Fc
open Go.RowKit Go.Shelf
attribute [local go_sem] Oper.semAt_some
def But(g B:Nat)(W Z:World):Prop:=W.heap.size<=Z.heap.size/\∀k,k<B->k≠g->Z.heap[k]?=W.heap[k]?
def But.refl(g B:Nat)(W:World):But g B W W:=⟨Nat.le_refl _,fun _ _ _=>rfl⟩
def But.trans{g B:Nat}{A C D:World}(h:But g B A C)(k:But g B C D):But g B A D:=⟨Nat.le_trans h.1 k.1,fun i hi Z=>(k.2 i hi Z).trans (h.2 i hi Z)⟩
def But.cell{g B:Nat}{W Z:World}(h:But g B W Z){p:Addr}(X:p.block<B)(Y:p.block≠g): Z.cell? p= W.cell? p:=by
 have e:=h.2 p.block X Y
 unfold World.cell?
 rw[e]
def But.turn{g B:Nat}{w:World}(V:B<=w.heap.size)(W:World)(l:Nat)(o Z:Obj)(Y:w.heap.size<=l)(h:W.heap[l]?=some o)(_:o.isCells=false)(_:o.isWalk=false):But g B W (W.putObj l Z):=
 ⟨by have:=belowK_b (Nat.le_refl w.heap.size) W l o Z Y h ‹_› ‹_›;exact this.size,fun k X _=>World.putObj_heap_other Aa⟩
def take_one{k i:Nat}(h:i<k):(List.finRange k).take (i+1)=(List.finRange k).take i++[⟨i,h⟩]:=by
 rw[List.take_add_one,List.getElem?_eq_getElem (by simpa using h)]
 simp
def take_len{k i:Nat}(h:i<=k):((List.finRange k).take i).length=i:=by simp[h]
def gD(k:Nat):(List.finRange k).take k=List.finRange k:=List.take_of_length_le Bq
abbrev P8(b q:Nat)(x:Nat):Value:=.slice (some ⟨b,q+8*x,none⟩) 8 8
def aG(n:Nat)(f:1<=n)(l M R b q k I g B:Nat)(o:k<=100)(E:8*k<=I)(hb:b<B/\b≠g)(O:M<B/\M≠g)(Y:R<B/\R≠g)(J C:List (Fin k)->World->Prop)(s:∀Z W,J Z W->J Z W.drew)(hY:∀(Z:List (Fin k)) (x:Fin k) (W:World),J Z W->Z.length<k->YieldAt Fence.wide (n-1) prog l #[P8 b q x] W fun e T=>
   (e=.returned (.bool true)/\J (Z++[x]) T/\But g B W T)\/(e=.returned (.bool false)/\C (Z++[x]) T))(W:World)(cs: W.cell? ⟨M,0,none⟩=some (.slice (some ⟨b,q,none⟩) (8*k:Nat) I))(cn: W.cell? ⟨R,0,none⟩=some (.int .i64 8))(h0:J [] W):
  CallsIn Fence.wide n prog 141 #[.func (.yield l) #[] #[],.pointer (some ⟨M,0,none⟩),.pointer (some ⟨R,0,none⟩)] W fun e T=>(∃v,e=.returned v)/\
   ((∃A,A=List.finRange k/\J A T)\/(∃Z,(∃i,i<=k/\Z=(List.finRange k).take i)/\C Z T)):=by
 refine callsIn_of_wp func141 rfl trivial ?_ rfl;simp only[ntmps141,List.size_toArray,List.length_cons,List.length_nil,Nat.reduceAdd,Nat.reduceSub,Array.replicate_succ,Array.replicate_zero,List.push_toArray,List.append_toArray,List.nil_append,List.cons_append]
 gi_wp2
 gi_loopw [4] (fun iv wr=>∃i:Nat,i<=k/\iv=.int .i64 (8*i:Nat)/\J ((List.finRange k).take i) wr/\But g B W wr)
  (fun iv _=>8*k-(intOf iv).toNat)
 .exact⟨0,Nat.zero_le _,rfl,h0,But.refl _ _ _⟩
 obtain⟨i,hi,rfl,U,V⟩:=hrel;have t:=(V.cell (p:=⟨M,0,none⟩) O.1 O.2).trans cs;have F:=(V.cell (p:=⟨R,0,none⟩) Y.1 Y.2).trans cn
 by_cases X:i<k
 .obtain⟨m,tmps,H,body,hy,y⟩:=hY _ ⟨i,X⟩ wr.drew (s _ _ U) (by rw[take_len hi];exact X);dsimp only[P8]at hy;have D:((8*i:Nat):Int)<((8*k:Nat):Int):=Aa;have u:(0:Int)<=((8*i:Nat):Int):=Aa;have r:((8*i:Nat):Int)<=((8*k:Nat):Int):=Aa
  gi_wp2
  gi_region
  gi_wp2
  refine y.mono ?_;rintro e j (⟨rfl,G,N⟩|⟨rfl,L⟩)
  .have z:=(N.cell (p:=⟨R,0,none⟩) Y.1 Y.2).trans F
   gi_wp2
   go_roundw
   case rel=>exact⟨i+1,Aa,BG,by rw[take_one X];exact G,V.trans (But.trans ⟨Nat.le_refl _,fun _ _ _=>rfl⟩ N)⟩
   case measure=>simp[intOf];omega
  gi_wp2
  refine bodyPost_ret (results_none rfl _ _ _) rfl ?_;exact⟨⟨_,rfl⟩,.inr ⟨_,⟨i+1,Aa,(take_one X).symm⟩,L⟩⟩
 obtain rfl:i=k:=Aa
 gi_wp2
 go_end0
 exact⟨⟨_,rfl⟩,.inl ⟨_,rfl,by rw[gD]at U;exact U⟩⟩
def dU(a:Option Addr)(Z Y:Nat)(w:World):
  Calls prog 121 #[.slice a Z Y,.int .i64 8] w fun e w'=>e=.returned (.func (.func 141) #[] #[.pointer (some ⟨w.heap.size,0,none⟩),.pointer (some ⟨w.heap.size+1,0,none⟩)])/\w'=(w.alloc (.cells #[.slice a Z Y] 74)).alloc (.cells (LB 8) 3):=by
 go_in
 go_wp2_with fail
 go_ret
 exact⟨Bq,rfl⟩
def Vz(n:Nat)(F:1<=n)(X V b q k Y g B:Nat)(M:k<=100)(R:8*k<=Y)(hb:b<B/\b≠g)(U:X<B/\X≠g)(T:V<B/\V≠g)(w:World)(O:B<=w.heap.size)(cs: w.cell? ⟨X,0,none⟩=some (.slice (some ⟨b,q,none⟩) (8*k:Nat) Y))(cn: w.cell? ⟨V,0,none⟩=some (.int .i64 8)):
  SeqStopsK Fence.wide n prog 141 #[.pointer (some ⟨X,0,none⟩),.pointer (some ⟨V,0,none⟩)] (fun x:Fin k=>#[P8 b q x]) (But g B) (fun E=>E=List.finRange k) (fun Z=>∃i,i<=k/\Z=(List.finRange k).take i) k w:=fun l J G W N L _ H I=>
 aG n F l X V b q k Y g B M R hb U T J G (fun Z W h=>L Z W W.drew none h ⟨rfl,rfl,rfl,Nat.le_refl _,fun _ _ _=>rfl⟩ (fun r e=>by cases e)) H W ((N.cell (p:=⟨X,0,none⟩) (Nat.lt_of_lt_of_le U.1 O)).trans cs) ((N.cell (p:=⟨V,0,none⟩) (Nat.lt_of_lt_of_le T.1 O)).trans cn) I
end Fc
end Go.Proofs.YtjobajeggllmiaaGreat
