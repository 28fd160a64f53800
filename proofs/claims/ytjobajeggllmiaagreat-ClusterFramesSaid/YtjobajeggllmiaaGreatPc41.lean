import Derived.Test.YtjobajeggllmiaaGreatPc0
import Derived.Test.YtjobajeggllmiaaGreatPc26
set_option linter.all false
set_option maxHeartbeats 100000000
set_option maxRecDepth 100000
namespace Go.Proofs.YtjobajeggllmiaaGreat
open Rg _root_.Go.Proofs.Tryz
namespace Nd
open Go.RowKit Mem Rws Flat
def Pp{f:Nat->Value}(Z:∀i,i<73->C9 (Ar i) (f i)){S:Value}(Y:S.oneCell'=true):(row 74 (Ab f S)).all (·.oneCell')=true:=row_one fun i hi=>by
 unfold Ab
 by_cases e:i=73
 . rw[Ao e];exact Y
 rw[Aj e];have h:=Z i Aa
 cases hn:Ar i with
 |true=>rw[hn]at h;obtain⟨n,h⟩:=h;rw[h];rfl
 |false=>rw[hn]at h;obtain⟨n,h⟩:=h;rw[h];rfl
def Xw(w w':World)(Z:List Int)(f:Nat->Value)(S:Value)(e:Ending):Prop:=
 ∃g:Nat->Value,e=.returned (.tuple #[.agg (row 74 (Ab g S)),.bool (CQ Z)])/\(∀i,i<73->C9 (Ar i) (g i))/\(CQ Z=true->row 74 (Ab g S)=row 74 (Ab (EX Z f) S))/\Below w.heap.size w w'
def TR(f:Nat->Value)(hf:∀i,i<73->C9 (Ar i) (f i))(Z:List Int)(hl:Z.length=24)(a:Option Addr)(c:Nat)(hc:24<=c)(S:Value)(hS:S.oneCell'=true)(w:World)(hr:Rd w w.heap.size 1 a Z.length (Ms.AQ Z)):
  Calls prog 61 #[.agg (row 74 (Ab f S)),.slice a 24 c] w fun e w'=>Xw w w' Z f S e:=by
 obtain⟨b,o,rfl,hb,hz⟩:=nD hr hl;have HZ:=zz hz;have HF:=zz hf;have qR:=zz hS;clear hr hz hf hS
 go_in
 go_upto_region 1 with fail
 have Y:=zz (show Ae ((w.alloc (.cells (row 74 (Ab f S)) 37)).alloc (.cells zeroCells37 37)) w.heap.size 37 (row 74 (Ab f S))from(Ae.new rfl).alloc _)
 have X:=zz (show Ae ((w.alloc (.cells (row 74 (Ab f S)) 37)).alloc (.cells zeroCells37 37)) (w.heap.size+1) 37 zeroCells37 from Ae.new Bq)
 have W:=zz (show Below w.heap.size w ((w.alloc (.cells (row 74 (Ab f S)) 37)).alloc (.cells zeroCells37 37))from(DC).alloc Bq _)
 generalize((w.alloc (.cells (row 74 (Ab f S)) 37)).alloc (.cells zeroCells37 37))=w1 at*
 obtain⟨M,qU⟩:=AJ (w.heap.size);have qV:=zz qU;rw[qU]at Y X hb ⊢;clear qU;obtain⟨A,rG⟩:=AJ (M+1);rw[rG]at X ⊢
 have R:=zz (show w.heap.size<=M/\M<A by have:=qV.o;omega)
 clear rG;rw[←lg Z]at Y
 generalize row 74 (Ab f S)=R0 at*
 go_wp2_with fail
 go_loopw[6] (fun i wr=>∃k:Nat,k<=3/\i=.int .i64 (k:Int)/\JC Z k=true/\Ae wr M 37 (row 74 (Ab (MP Z k f) S))/\Ae wr A 37 zeroCells37/\Below w.heap.size w wr) (fun i _=>3-(intOf i).toNat)
 .exact⟨0,Aa,rfl,rfl,Y.o,X.o,W.o⟩
 clear Y X W;obtain⟨k,hk,rfl,rH,hn,h4,D⟩:=hrel;have Y:=zz hn;have X:=zz h4;have W:=zz D;have rJ:=zz rH;clear hn h4 D rH
 have HC:=zz (fun j hj=>(W.o.cell (p:=⟨b,o+j,none⟩) (by show b<w.heap.size;rw[qV.o];exact hb)).trans (HZ.o j hj))
 by_cases d:k<3
 .have rE:=YP Z k d;have ru:Ox Z k=decide (GN Z (k*7+5)=0\/GN Z (k*7+5)=1):=rfl;obtain⟨q,hq⟩:=AJ (o+k*7)
  have hx:∀j,j<7-> wr.cell? ⟨b,q+j,none⟩=some (.int .i64 (GN Z (k*7+j))):=fun j hj=>by rw[←hq,Nat.add_assoc];exact HC.o (k*7+j) Aa
  have x0:=hx 0 Aa;have x1:=hx 1 Aa;have x2:=hx 2 Aa;have x3:=hx 3 Aa;have x4:=hx 4 Aa;have x5:=hx 5 Aa;have x6:=hx 6 Aa;rw[Nat.add_zero,Nat.add_zero]at x0
  generalize GN Z (k*7)=p0 at*
  generalize GN Z (k*7+1)=p1 at*
  generalize GN Z (k*7+2)=p2 at*
  generalize GN Z (k*7+3)=p3 at*
  generalize GN Z (k*7+4)=p4 at*
  generalize GN Z (k*7+5)=p5 at*
  generalize GN Z (k*7+6)=p6 at*
  have HQ:=zz hq;clear hx hq
  have I:=zz (fun(hp:p5=0\/p5=1)=>(show(JC Z k&&Ox Z k)=true by rw[rJ.o,ru,decide_eq_true hp];rfl:JC Z (k+1)=true))
  have rF:=zz (fun(hp:¬(p5=0\/p5=1))=>(by unfold CQ;rw[Qi (k:=k) (by rw[ru];exact decide_eq_false hp) d,Bool.and_false]:CQ Z=false))
  have sw:=zz (show ∀V V':World,V'=V.setCells M (6+k*7) ((AZ p0 p1 p2 p3 p4 (p5==1) p6):Array Value).toList->Ae V M 37 (row 74 (Ab (MP Z k f) S))->Ae V' M 37 (row 74 (Ab (MP Z (k+1) f) S))from fun V V' e h=>by have h:=DI h (6+k*7) 7 (fun j=>MZ Z (k*7+j));rwa[oK Z k d,rE,←e]at h)
  have qY:=zz (Cg Y.o (6+k*7) 7 Aa)
  have T:=zz (show ∀i,i<73->C9 (Ar i) (MP Z k f i)from UD HF.o Z _ Aa)
  have N:(prog.info? 37).map (·.size)=some (row 74 (Ab (MP Z k f) S)).size:=Eg;have u:(zeroCells37).size=(row 74 (Ab (MP Z k f) S)).size:=Eg;have s:=Pp T.o qR.o;have L:=Y;obtain⟨RB,O⟩:=AJ (row 74 (Ab (MP Z k f) S));rw[O]at L N u s;have r:=zz O;clear O;clear rE ru;obtain rfl|rfl|rfl:k=0\/k=1\/k=2:=Aa
  all_goals go_upto_region 5 with fail
  (have e:q=o:=HQ.o.symm;subst e)
  rotate_left 1
  rw[show o+7=q from HQ.o]
  rotate_left 1
  rw[show o+14=q from HQ.o]
  all_goals
   by_cases hp:p5=0\/p5=1
   .have I:=zz (I.o hp)
    have rR:=zz (show decide (0<p5)=(p5==1)by rcases hp with rfl|rfl<;>rfl)
    have C:¬p5<0:=Aa;have l:¬1<p5:=Aa;clear hp rF L r T N u s
    go_upto_region 7 with fail
    have U:=And.intro x0 (And.intro x1 (And.intro x2 (And.intro x3 (And.intro x4 (And.intro x5 x6)))));clear C l x0 x1 x2 x3 x4 x5 x6;refine wp_region_noPanic ?_;refine A8 [3,6,9,12,15,18,22] (fun w'=> w'.cell? ⟨b,q,none⟩=some (.int .i64 p0)/\ w'.cell? ⟨b,q+1,none⟩=some (.int .i64 p1)/\ w'.cell? ⟨b,q+2,none⟩=some (.int .i64 p2)/\ w'.cell? ⟨b,q+3,none⟩=some (.int .i64 p3)/\ w'.cell? ⟨b,q+4,none⟩=some (.int .i64 p4)/\ w'.cell? ⟨b,q+5,none⟩=some (.int .i64 p5)/\ w'.cell? ⟨b,q+6,none⟩=some (.int .i64 p6)) Ap ?_;have Y:=zz Y.o.drew;have X:=zz X.o.drew;have W:=zz W.o.drew;have qY:=zz ((World.there_drew _ _ _ _).2 qY.o)
    have U:=(show wr.drew.cell? ⟨b,q,none⟩=some (.int .i64 p0)/\ wr.drew.cell? ⟨b,q+1,none⟩=some (.int .i64 p1)/\ wr.drew.cell? ⟨b,q+2,none⟩=some (.int .i64 p2)/\ wr.drew.cell? ⟨b,q+3,none⟩=some (.int .i64 p3)/\ wr.drew.cell? ⟨b,q+4,none⟩=some (.int .i64 p4)/\ wr.drew.cell? ⟨b,q+5,none⟩=some (.int .i64 p5)/\ wr.drew.cell? ⟨b,q+6,none⟩=some (.int .i64 p6)from U)
    generalize wr.drew=V0 at*
    refine Ac 0 ?_;refine Ac 1 ?_;refine Ac 2 ?_;refine Bc 3 U ?_;refine Ac 4 ?_;refine Ac 5 ?_;refine Bc 6 U ?_;refine Ac 7 ?_;refine Ac 8 ?_;refine Bc 9 U ?_;refine Ac 10 ?_;refine Ac 11 ?_;refine Bc 12 U ?_;refine Ac 13 ?_;refine Ac 14 ?_;refine Bc 15 U ?_;refine Ac 16 ?_;refine Ac 17 ?_;refine Bc 18 U ?_;refine Ac 19 ?_;refine Ac 20 ?_;refine Ac 21 ?_;refine Bc 22 U ?_;refine Ac 23 ?_;refine Ac 24 ?_;refine Ac 25 ?_;refine Aw 26 ?_;refine AX ?_ ?_
    . kernel_rfl
    intro K hK;rw[Ao Bb];refine Mt 25 (.tmp 58) (.tmp 56) rfl M _ (AZ p0 p1 p2 p3 p4 (p5==1) p6) rfl (by rw[←rR.o];rfl) qY.o Ap GR (fun V1 hV=>?_);have Y:=zz (sw.o _ _ hV Y.o);have W:=zz (QT (by have:=R.o;omega) hV W.o);have X:=zz (Yg (by have:=R.o;omega) hV X.o);clear hV;refine hK.o _ _ ?_;(try simp only[Rg.lp]);refine Bg Ap ?_ _;refine NoPanic.normal ?_;clear U;go_wp2_with fail;exact⟨⟨_+1,Aa,Bb,I.o,Y.o,X.o,W.o⟩,by simp[intOf]⟩
   have B:=zz (rF.o hp);have hq:p5<0\/(¬p5<0/\1<p5):=Aa;clear hp
   rcases hq with C|⟨C,l⟩
   all_goals
    go_wp2_with(first|(refine Ad rfl 37 _ rfl M rfl L.o _ underlying37 rfl N ?_)|(refine wpList_store_row rfl 37 _ _ rfl A RB rfl rfl 37 _ X.o N u s ?_))
    refine Ci (x:=.bool false) rfl rfl rfl (X.o.setRow RB) ⟨by rw[underlying37],N⟩ rfl ⟨_,by rw[B.o,r.o],T.o,fun h=>absurd (h.symm.trans B.o) Bq,below_setRow W.o (by have:=R.o;omega) RB⟩
 obtain rfl:k=3:=Aa;clear d
 rw[show((3:Nat):Int)=3 from rfl]
 have qW:=zz (show Oq Z=decide (0<=GN Z 21/\GN Z 21<16/\0<=GN Z 22/\GN Z 22<4096/\0<=GN Z 23/\GN Z 23<4096)from rfl)
 have G:=HC.o 21 Aa;have rA:=HC.o 22 Aa;have qQ:=HC.o 23 Aa;obtain⟨z1,t⟩:=AJ (GN Z 21);obtain⟨z2,y⟩:=AJ (GN Z 22);obtain⟨z3,z⟩:=AJ (GN Z 23);rw[t,y,z]at qW;rw[t]at G;rw[y]at rA;rw[z]at qQ;have rD:=zz t;have su:=zz y;have rY:=zz z;clear t y z
 by_cases ht:0<=z1/\z1<16/\0<=z2/\z2<4096/\0<=z3/\z3<4096
 .have rO:=zz (show Oq Z=true by rw[qW.o];exact decide_eq_true ht)
  have C:¬z1<0:=Aa;have l:¬15<z1:=Aa;have q2:¬z2<0:=Aa;have q3:¬4095<z2:=Aa;have q4:¬z3<0:=Aa;have q5:¬4095<z3:=Aa
  go_upto_region 10 with fail
  obtain⟨v1,rfl⟩:∃v:Nat,z1=(v:Int):=⟨z1.toNat,Aa⟩;obtain⟨v2,rfl⟩:∃v:Nat,z2=(v:Int):=⟨z2.toNat,Aa⟩;obtain⟨v3,rfl⟩:∃v:Nat,z3=(v:Int):=⟨z3.toNat,Aa⟩;have r9:v2<4096:=Aa;have rW:v3<4096:=Aa;have sI:v1<16:=Aa;have U:=And.intro rA qQ;have Y:=zz Y.o.drew;have X:=zz X.o.drew;have W:=zz W.o.drew;clear ht C l q2 q3 q4 q5 G rA qQ HC;refine wp_region_noPanic ?_;refine A8 [2,5] (fun w'=> w'.cell? ⟨b,o+22,none⟩=some (.int .i64 v2)/\ w'.cell? ⟨b,o+23,none⟩=some (.int .i64 v3)) Ap ?_
  have U:=(show wr.drew.cell? ⟨b,o+22,none⟩=some (.int .i64 v2)/\ wr.drew.cell? ⟨b,o+23,none⟩=some (.int .i64 v3)from U)
  generalize wr.drew=V0 at*
  refine Ac 0 ?_;refine Ac 1 ?_;refine Bc 2 U ?_;refine Ac 3 ?_;refine Ac 4 ?_;refine Bc 5 U ?_;refine Ac 6 ?_;refine Ac 7 ?_;refine Bg Ap ?_ _;refine NoPanic.normal ?_;clear U;go_wp2_with fail
  go_loopw[8,9,10] (fun mv jv iv wr=>∃n:Nat,n<=4/\iv=.int .i64 ((n:Int)-1)/\mv=.int .i64 ((v2/8 ^ (4-n):Nat):Int)/\jv=.int .i64 ((v3/8 ^ (4-n):Nat):Int)/\Ae wr M 37 (row 74 (Ab (KL (CZ Z) n (MP Z 3 f)) S))/\Ae wr A 37 zeroCells37/\Below w.heap.size w wr) (fun _ _ iv _=>(intOf iv+1).toNat)
  .exact⟨4,Aa,rfl,Bq,Bq,by rw[dn];exact Y.o,X.o,W.o⟩
  clear Y X W;obtain⟨n,sH,rfl,rfl,rfl,hn,h4,D⟩:=hrel;have Y:=zz hn;have X:=zz h4;have W:=zz D;clear hn h4 D
  have G:=(W.o.cell (p:=⟨b,o+21,none⟩) (by show b<w.heap.size;rw[qV.o];exact hb)).trans (HZ.o 21 Aa)
  rw[rD.o]at G
  rcases Nat.eq_zero_or_pos n with rfl|rM
  .have rX:=zz (ZT (CZ Z) (MP Z 3 f) S);rw[rX.o]at Y
   have H:=zz (show ∀i,i<73->C9 (Ar i) (EW (MP Z 3 f) (CZ Z) i)from Qj (UD HF.o Z 3 Aa) _)
   have N:(prog.info? 37).map (·.size)=some (row 74 (Ab (EW (MP Z 3 f) (CZ Z)) S)).size:=Eg;have u:(zeroCells37).size=(row 74 (Ab (EW (MP Z 3 f) (CZ Z)) S)).size:=Eg;have s:(row 74 (Ab (EW (MP Z 3 f) (CZ Z)) S)).all (·.oneCell')=true:=Pp H.o qR.o;have rC:=zz (XT (CZ Z) (MP Z 3 f) S)
   have CG:=zz (fun w=>show Calls prog 92 #[.agg (CZ Z).row] w fun e w'=>e=.returned (.bool (Sj Z))/\Below w.heap.size w w' from OX (CZ Z).f (CZ Z).m (CZ Z).j w)
   have rU:=zz (show CQ Z=Sj Z by unfold CQ;rw[rO.o,rJ.o,Bool.true_and,Bool.and_true])
   obtain⟨F,rq⟩:=AJ (EW (MP Z 3 f) (CZ Z));rw[rq]at Y H N u s rC
   have rV:=zz (show EX Z f=F from rq)
   clear rq G;go_wp2_with fail
   go_upto_region 17 with fail
   have Y:=zz Y.o.drew;have X:=zz X.o.drew;have W:=zz W.o.drew;have U:=Y.o;refine wp_region_noPanic ?_;refine A8 [0,2] (fun w'=>Ae w' M 37 (row 74 (Ab F S))) Ap ?_
   generalize wr.drew=V0 at*
   refine Ba 0 (.agg (row 74 (Ab F S))) U (hy:=?_) (h:=?_)
   . (intro w' qZ;exact Az 37 _ rfl _ rfl qZ underlying37 rfl N)
   refine Ac 1 ?_;refine Ba 2 (.agg (CZ Z).row) U (hy:=?_) (h:=?_)
   . (intro w' qZ;rw[←rC.o];exact BK 30 _ rfl _ 27 12 rfl _ _ (Dx qZ 27 12 Aa) underlying30 rfl Ap)
   refine Aw 3 ?_;refine Bt ?_;intro K hK;rw[Ao Bb];go_simp
   go_at_call 92
   refine(CG.o V0).mono ?_;rintro e V1 ⟨rfl,g⟩;have Y:=AU Y g;have X:=AU X g;have W:=CU W g;clear g U;have U:=Y.o;go_wp2_with fail;refine hK.o _ _ U ?_;refine Aw 4 ?_;refine AX ?_ ?_
   . kernel_rfl
   intro K hK;rw[Ao Bb];refine wp_store_row 37 _ _ rfl A (row 74 (Ab F S)) rfl rfl 37 _ X.o N u s ?_;have X:=zz (X.o.setRow (row 74 (Ab F S)))
   have W:=zz (below_setRow W.o (show w.heap.size<=A by have:=R.o;omega) (row 74 (Ab F S)))
   clear U Y
   generalize(V1.setRow A (row 74 (Ab F S)))=V2 at*
   refine hK.o _ _ ?_;refine Ac 5 ?_;refine Bg Ap ?_ _;refine NoPanic.normal ?_;go_wp2_with fail;refine Ci (x:=.bool (Sj Z)) rfl rfl rfl X.o ⟨by rw[underlying37],N⟩ rfl ⟨F,by rw[rU.o],H.o,fun _=>by rw[rV.o],W.o⟩
  obtain⟨j,rfl⟩:∃j,n=j+1:=⟨n-1,Aa⟩;have c0:=Y.o.cell (27+j);have t0:=Y.o.thaw (27+j);have c1:=Y.o.cell (31+j);have t1:=Y.o.thaw (31+j);have c2:=Y.o.cell (35+j);have t2:=Y.o.thaw (35+j);rw[Ah Aa]at c0 c1 c2
  rw[show 4-(j+1)=3-j by omega,show(((j+1:Nat):Int)-1)=(j:Int)by omega]
  obtain⟨m2,J⟩:∃m:Nat,v2/8 ^ (3-j)=m:=⟨_,rfl⟩;obtain⟨m3,E⟩:∃m:Nat,v3/8 ^ (3-j)=m:=⟨_,rfl⟩;rw[J,E]
  have rQ:=zz (show(m2:Int)=((v2/8 ^ (3-j):Nat):Int)by rw[J])
  have rT:=zz (show(m3:Int)=((v3/8 ^ (3-j):Nat):Int)by rw[E])
  have rZ:=zz (show v2/8 ^ (4-j)=m2/8 by rw[←J,Nat.div_div_eq_div_mul,←Nat.pow_succ,show(3-j).succ=4-j by omega])
  have rP:=zz (show v3/8 ^ (4-j)=m3/8 by rw[←E,Nat.div_div_eq_div_mul,←Nat.pow_succ,show(3-j).succ=4-j by omega])
  have sD:m2<4096:=by rw[←J];exact Nat.lt_of_le_of_lt (Nat.div_le_self _ _) r9
  have sG:m3<4096:=by rw[←E];exact Nat.lt_of_le_of_lt (Nat.div_le_self _ _) rW
  have qX:=zz (show A≠M by have:=R.o;omega)
  clear J E rM;obtain rfl|rfl|rfl|rfl:j=0\/j=1\/j=2\/j=3:=Aa
  rw[show((0:Nat):Int)=0 from rfl]
  rotate_left 1
  rw[show((1:Nat):Int)=1 from rfl]
  rotate_left 1
  rw[show((2:Nat):Int)=2 from rfl]
  rotate_left 1
  rw[show((3:Nat):Int)=3 from rfl]
  all_goals
   simp only[Nat.reduceAdd]at c0 t0 c1 t1 c2 t2;go_wp2_with fail;exact⟨⟨_,Aa,Bb,by rw[rZ.o];rfl,by rw[rP.o];rfl,dh (CZ Z) _ Aa _ _ Y.o (by rw[Zm,rD.o];exact ZB v1 _ Aa) (by rw[Zh,su.o];exact Uw v2 _ rQ.o) (by rw[ZL,rY.o];exact Uw v3 _ rT.o),((X.o.other (by exact qX.o) _).other (by exact qX.o) _).other (by exact qX.o) _,((W.o.setCell (by exact R.o.1) _).setCell (by exact R.o.1) _).setCell (by exact R.o.1) _⟩,by simp[intOf]⟩
 have B:=zz (show CQ Z=false by unfold CQ;rw[qW.o,decide_eq_false ht,Bool.false_and,Bool.false_and])
 have T:=zz (show ∀i,i<73->C9 (Ar i) (MP Z 3 f i)from UD HF.o Z _ Aa)
 have N:(prog.info? 37).map (·.size)=some (row 74 (Ab (MP Z 3 f) S)).size:=Eg;have u:(zeroCells37).size=(row 74 (Ab (MP Z 3 f) S)).size:=Eg;have s:=Pp T.o qR.o;have L:=Y;obtain⟨RB,O⟩:=AJ (row 74 (Ab (MP Z 3 f) S));rw[O]at L N u s;have r:=zz O;clear O;have hq:(z1<0)\/(¬z1<0/\15<z1)\/(¬z1<0/\¬15<z1/\z2<0)\/(¬z1<0/\¬15<z1/\¬z2<0/\4095<z2)\/(¬z1<0/\¬15<z1/\¬z2<0/\¬4095<z2/\z3<0)\/(¬z1<0/\¬15<z1/\¬z2<0/\¬4095<z2/\¬z3<0/\4095<z3):=Aa;clear ht
 rcases hq with C|⟨C,l⟩|⟨C,l,q2⟩|⟨C,l,q2,q3⟩|⟨C,l,q2,q3,q4⟩|⟨C,l,q2,q3,q4,q5⟩
 all_goals
  go_wp2_with(first|(refine Ad rfl 37 _ rfl M rfl L.o _ underlying37 rfl N ?_)|(refine wpList_store_row rfl 37 _ _ rfl A RB rfl rfl 37 _ X.o N u s ?_))
  refine Ci (x:=.bool false) rfl rfl rfl (X.o.setRow RB) ⟨by rw[underlying37],N⟩ rfl ⟨_,by rw[B.o,r.o],T.o,fun h=>absurd (h.symm.trans B.o) Bq,below_setRow W.o (by have:=R.o;omega) RB⟩
end Nd
end Go.Proofs.YtjobajeggllmiaaGreat
