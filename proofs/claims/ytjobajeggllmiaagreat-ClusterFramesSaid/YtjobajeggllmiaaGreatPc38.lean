import Derived.Test.YtjobajeggllmiaaGreatPc0
import Derived.Test.YtjobajeggllmiaaGreatPc37
set_option linter.all false
set_option maxHeartbeats 100000000
set_option maxRecDepth 100000
namespace Go.Proofs.YtjobajeggllmiaaGreat
namespace Ms
end Ms
open Ms Rg _root_.Go.Proofs.Tryz
namespace Ms
open Go.ChangeShapes Go.WideShapes Go.ChangeAt Go.RowKit Mem
def same_eq(A v:Option Addr)(c l:Nat)(Z V:List Int)(x:V.length=Z.length)(B:Nat)(w:World)(hl:Z.length<=140737488355328)(D:Rd w B 1 A Z.length (AQ Z))(N:Rd w B 1 v Z.length (AQ V)):
  Calls prog 76 #[.slice A Z.length c,.slice v Z.length l] w fun e w'=>e=.returned (.bool (decide (Z=V)))/\Below w.heap.size w w':=by
 have m:=zz D;have I:=zz N;have L:=zz x
 have n:=zz (fun k (d:k<Z.length) (f:k<V.length) (h:¬Z[k]=V[k])=>show decide (Z=V)=false from decide_eq_false fun e=>h (by subst e;rfl))
 clear D N x
 go_in
 go_wp2_with fail
 go_loopw[8] (fun i wr=>∃k q:Nat,k<=Z.length/\i=.int .i64 k/\Z.take k=V.take k/\wr=w.drewN q) (fun i _=>Z.length-(intOf i).toNat)
 .exact⟨0,0,Aa,rfl,rfl,rfl⟩
 obtain⟨k,q,g,rfl,M,rfl⟩:=hrel;have T:=zz M;clear M
 by_cases Y:k<Z.length
 .obtain⟨b,o,u,rfl,t,F,U⟩:=m.o.at Y;obtain⟨b',s,u',rfl,C,R,X⟩:=I.o.at Y
  have W:k<V.length:=by rw[L.o];exact Y
  rw[DJ Z k Y]at F;rw[DJ V k W]at R;obtain rfl:=Option.some.inj F;obtain rfl:=Option.some.inj R;have E:=zz (n.o k Y W)
  have O:=zz (fun(e:Z[k]=V[k])=>show Z.take (k+1)=V.take (k+1)from by
   rw[List.take_add_one,List.take_add_one,T.o,List.getElem?_eq_getElem Y,List.getElem?_eq_getElem W,e])
  generalize Z[k]=z at*
  generalize V[k]=y at*
  clear F R W;have p:(0:Int)<=(k:Int):=Aa;have r:(k:Int)<(Z.length:Int):=Aa;have U:(w.drewN q).cell? ⟨b,o+k,none⟩=some (.int .i64 z):=U;have X:(w.drewN q).cell? ⟨b',s+k,none⟩=some (.int .i64 y):=X;go_wp2_with fail
  go_quiet (fail)
  by_cases e:z=y
  .have J:=zz (O.o e);have H:(z !=y)=false:=bne_eq_false_iff_eq.2 e;clear O E e;go_wp2_with fail;exact⟨⟨k+1,q+nq,Aa,BG,J.o,rfl⟩,Ck⟩
  have G:=zz (E.o e);have H:(z !=y)=true:=bne_iff_ne.2 e;clear O E e;go_wp2_with fail
  go_ret
  exact⟨by rw[G.o];rfl,below_drewN (below_drewN (Below.refl _ _) _) _⟩
 obtain rfl:k=Z.length:=Aa;clear Y
 have j:=zz (show decide (Z=V)=true from decide_eq_true (by have h:=T.o;rwa[List.take_length,←L.o,List.take_length]at h))
 clear T;go_wp2_with fail
 go_ret
 exact⟨by rw[j.o];rfl,below_drewN (Below.refl _ _) _⟩
def Wo(A v:Option Addr)(c l:Nat)(Z V:List Int)(x:V.length=Z.length)(B:Nat)(w:World)(hl:Z.length<=140737488355328)(D:Rd w B 1 A Z.length (AQ Z))(N:Rd w B 1 v Z.length (AQ V)):
  Calls prog 60 #[.slice A Z.length c,.slice v Z.length l] w fun e w'=>e=.returned (.bool (decide (Z=V)))/\Below w.heap.size w w':=by
 have m:=zz D;have I:=zz N;have L:=zz x
 have n:=zz (fun k (d:k<Z.length) (f:k<V.length) (h:¬Z[k]=V[k])=>show decide (Z=V)=false from decide_eq_false fun e=>h (by subst e;rfl))
 clear D N x
 go_in
 go_wp2_with fail
 go_loopw[13] (fun i wr=>∃k q:Nat,k<=Z.length/\i=.int .i64 k/\Z.take k=V.take k/\wr=w.drewN q) (fun i _=>Z.length-(intOf i).toNat)
 .exact⟨0,0,Aa,rfl,rfl,rfl⟩
 obtain⟨k,q,g,rfl,M,rfl⟩:=hrel;have T:=zz M;clear M
 by_cases Y:k<Z.length
 .obtain⟨b,o,u,rfl,t,F,U⟩:=m.o.at Y;obtain⟨b',s,u',rfl,C,R,X⟩:=I.o.at Y
  have W:k<V.length:=by rw[L.o];exact Y
  rw[DJ Z k Y]at F;rw[DJ V k W]at R;obtain rfl:=Option.some.inj F;obtain rfl:=Option.some.inj R;have E:=zz (n.o k Y W)
  have O:=zz (fun(e:Z[k]=V[k])=>show Z.take (k+1)=V.take (k+1)from by
   rw[List.take_add_one,List.take_add_one,T.o,List.getElem?_eq_getElem Y,List.getElem?_eq_getElem W,e])
  generalize Z[k]=z at*
  generalize V[k]=y at*
  clear F R W;have p:(0:Int)<=(k:Int):=Aa;have r:(k:Int)<(Z.length:Int):=Aa;have U:(w.drewN q).cell? ⟨b,o+k,none⟩=some (.int .i64 z):=U;have X:(w.drewN q).cell? ⟨b',s+k,none⟩=some (.int .i64 y):=X;go_wp2_with fail
  go_quiet (fail)
  by_cases e:z=y
  .have J:=zz (O.o e);have H:(z !=y)=false:=bne_eq_false_iff_eq.2 e;clear O E e;go_wp2_with fail;exact⟨⟨k+1,q+nq,Aa,BG,J.o,rfl⟩,Ck⟩
  have G:=zz (E.o e);have H:(z !=y)=true:=bne_iff_ne.2 e;clear O E e;go_wp2_with fail
  go_ret
  exact⟨by rw[G.o];rfl,below_drewN (below_drewN (Below.refl _ _) _) _⟩
 obtain rfl:k=Z.length:=Aa;clear Y
 have j:=zz (show decide (Z=V)=true from decide_eq_true (by have h:=T.o;rwa[List.take_length,←L.o,List.take_length]at h))
 clear T;go_wp2_with fail
 go_ret
 exact⟨by rw[j.o];rfl,below_drewN (Below.refl _ _) _⟩
end Ms
namespace Nd
open Go.RowKit Mem Rws Flat
def mq(w w':World)(Z:Nat)(o:Nat->Option Cw)(f:Nat->Value)(S:Value)(e:Ending):Prop:=
 e=.returned (.tuple #[])/\Ae w' Z 37 (row 74 (Ab (Gc o f) S))/\w.grownBy w' (some Z)
def af(f:Nat->Value)(hf:∀i,i<73->C9 (Ar i) (f i))(s:Nat->Value)(o:Nat->Option Cw)(ho:∀i m,o i=some m->m.zs.length=24)(S:Value)(x:Nat)(w:World)(hn:Ae w x 37 (row 74 (Ab f S)))(hs:∀i:Nat,i<4->Jt w w.heap.size (o i) (s i)):
  Calls prog 48 #[.pointer (some ⟨x,0,none⟩),.agg (row 4 s)] w fun e w'=>mq w w' x o f S e:=by
 have rQ:=zz hs;have rA:=zz ho;have HF:=zz hf;have HN:=zz hn;have g:=hn.lt;clear hs ho hf hn
 go_in
 go_upto_region 1 with fail
 have HH:=zz (Ae.fresh w 88 (row 4 s));have HB:=zz ((Below.refl w.heap.size w).alloc Nr (.cells (row 4 s) 88))
 generalize(w.alloc (.cells (row 4 s) 88))=w1 at*
 obtain⟨T,t⟩:=AJ (w.heap.size);have L:=zz t;rw[t]at HH g ⊢;clear t;obtain⟨O,rG⟩:=AJ (T+1)
 have W:=zz (show x<T/\T<O/\O<=w1.heap.size by have:=HH.o.lt;omega)
 have ru:=zz (fun i hi=>((rQ.o i hi).below HB.o).more (show w.heap.size<=O by have:=L.o;omega))
 clear rG
 have qW:=zz (fun i (hi:i<4)=>show(row 4 s)[i]?=some (s i)from Ah hi)
 generalize row 4 s=R4 at*
 go_wp2_with fail
 go_loopw[6] (fun iv wr=>∃i:Nat,i<=4/\iv=.int .i64 (i:Int)/\Fe o i (i+1)/\Below O w1 wr) (fun iv _=>4-(intOf iv).toNat)
 .exact⟨0,Aa,rfl,Fe.start o,Below.refl _ _⟩
 obtain⟨i,hi,rfl,F,J⟩:=hrel;have X:=zz F;have Z:=zz J;clear F J
 by_cases y:i<4
 .have rW:(i:Int)<4:=Aa;have rX:(0:Int)<=(i:Int):=Aa;go_wp2_with fail
  generalize wr=wq at*
  go_loopw[5] (fun kv wr=>∃k:Nat,i<k/\k<=4/\kv=.int .i64 (k:Int)/\Fe o i k/\Below O w1 wr) (fun kv _=>4-(intOf kv).toNat)
  .exact⟨i+1,Aa,Aa,BG,X.o,Z.o⟩
  clear X Z;obtain⟨k,rH,hk,rfl,F,J⟩:=hrel;have X:=zz F;have Z:=zz J;clear F J
  by_cases C:k<4
  .have rU:(k:Int)<4:=Aa;have rV:(0:Int)<=(k:Int):=Aa;have r:=((HH.o.below Z.o W.o.2.1).cell i).trans (qW.o i y);have xk:=((HH.o.below Z.o W.o.2.1).cell k).trans (qW.o k C);have N:=(ru.o i y).below Z.o;have U:=(ru.o k C).below Z.o;have rq:∀w,(binOp .eql 63 (.slice none 0 0) (.slice none 0 0)).run prog w=.ok (.bool true) w:=fun w=>run_eql_nil_slice w 63 3 none 0 0 0 0 underlying63
   cases hoi:o i with
   |none=>
    rw[hoi]at N
    rw[show s i=.slice none 0 0 from N]at r
    have j:=zz (X.o.step (QF (k:=k) hoi));have E:=rq;clear hoi N U xk;have Y:=r;have Z:=zz Z.o.drew
    go_upto_region 7 with fail
    refine wp_region_noPanic ?_;refine A8 [2] (fun w'=> w'.cell? ⟨T,i,none⟩=some (.slice none 0 0)) Ap ?_
    have Y:=(show wr.drew.cell? ⟨T,i,none⟩=some (.slice none 0 0)from Y)
    have qQ:w1.heap.size<=wr.drew.heap.size:=Z.o.size
    generalize wr.drew=V0 at*
    refine Ac 0 ?_;refine Ac 1 ?_;refine Bc 2 Y ?_;refine Rg.tp 3 ⟨some 18,.binOp .eql 63 (.tmp 17) (.const (.slice none 0 0)) 63,_,_,_,none⟩ (v:=?_) rfl ?_ ?_;rotate_left 1
    . (intro w;have hq:=E w;go_simp;(try with_reducible rfl))
    refine Ac 4 ?_;refine DN 5 ?_;refine DN 6 ?_;refine DN 7 ?_;refine DN 8 ?_;refine Ac 9 ?_;refine Ac 10 ?_;refine DN 11 ?_;refine DN 12 ?_;refine DN 13 ?_;refine DN 14 ?_;refine DN 15 ?_;refine DN 16 ?_;refine DN 17 ?_;refine DN 18 ?_;refine Ac 19 ?_;refine Bg Ap ?_ _;refine NoPanic.normal ?_;clear Y;go_wp2_with fail;exact⟨⟨k+1,Aa,Aa,BG,j.o,Z.o⟩,Ck⟩
   |some A=>
    have V:=rA.o i A hoi;rw[hoi]at N;obtain⟨M,z,G,D,q⟩:=N;rw[V]at G D q;rw[G]at r;have E:∀w,(binOp .eql 63 (.slice (some M) 24 z) (.slice none 0 0)).run prog w=.ok (.bool false) w:=fun w=>Lib.run_eql_slice_nil w 63 3 (some M) 24 z 0 0 underlying63
    cases hok:o k with
    |none=>
     rw[hok]at U
     rw[show s k=.slice none 0 0 from U]at xk
     have j:=zz (X.o.step (Qp (i:=i) hok));have b:=rq;clear hoi hok U G D q;have Y:=And.intro r xk;have Z:=zz Z.o.drew
     go_upto_region 7 with fail
     refine wp_region_noPanic ?_;refine A8 [2,7] (fun w'=> w'.cell? ⟨T,i,none⟩=some (.slice (some M) 24 z)/\ w'.cell? ⟨T,k,none⟩=some (.slice none 0 0)) Ap ?_
     have Y:=(show wr.drew.cell? ⟨T,i,none⟩=some (.slice (some M) 24 z)/\ wr.drew.cell? ⟨T,k,none⟩=some (.slice none 0 0)from Y)
     have qQ:w1.heap.size<=wr.drew.heap.size:=Z.o.size
     generalize wr.drew=V0 at*
     refine Ac 0 ?_;refine Ac 1 ?_;refine Bc 2 Y ?_;refine Rg.tp 3 ⟨some 18,.binOp .eql 63 (.tmp 17) (.const (.slice none 0 0)) 63,_,_,_,none⟩ (v:=?_) rfl ?_ ?_;rotate_left 1
     . (intro w;have hq:=E w;go_simp;(try with_reducible rfl))
     refine Ac 4 ?_;refine Ac 5 ?_;refine Ac 6 ?_;refine Bc 7 Y ?_;refine Rg.tp 8 ⟨some 23,.binOp .eql 63 (.tmp 22) (.const (.slice none 0 0)) 63,_,_,_,some (4,false)⟩ (v:=?_) rfl ?_ ?_;rotate_left 1
     . (intro w;have hq:=b w;go_simp;(try with_reducible rfl))
     refine Ac 9 ?_;refine Ac 10 ?_;refine DN 11 ?_;refine DN 12 ?_;refine DN 13 ?_;refine DN 14 ?_;refine DN 15 ?_;refine DN 16 ?_;refine DN 17 ?_;refine DN 18 ?_;refine Ac 19 ?_;refine Bg Ap ?_ _;refine NoPanic.normal ?_;clear Y;go_wp2_with fail;exact⟨⟨k+1,Aa,Aa,BG,j.o,Z.o⟩,Ck⟩
    |some Bm=>
     have qV:=rA.o k Bm hok;rw[hok]at U;obtain⟨u,cK,H,p,rO⟩:=U;rw[qV]at H p rO;rw[H]at xk;have b:∀w,(binOp .eql 63 (.slice (some u) 24 cK) (.slice none 0 0)).run prog w=.ok (.bool false) w:=fun w=>Lib.run_eql_slice_nil w 63 3 (some u) 24 cK 0 0 underlying63;have B:=zz D;have d:=zz p;have rT:=zz G;have rJ:=zz q;have rE:=zz V
     have CS:=zz (fun v (h1:Rd v O 1 (some M) 24 (Ms.AQ A.zs)) (h2:Rd v O 1 (some u) 24 (Ms.AQ Bm.zs))=>show Calls prog 76 #[.slice (some M) 24 z,.slice (some u) 24 cK] v fun e w'=>e=.returned (.bool (decide (A.zs=Bm.zs)))/\Below v.heap.size v w' from by
      have c:=Ms.same_eq (some M) (some u) z cK A.zs Bm.zs (qV.trans V.symm) O v Aa (by rw[V];exact h1) (by rw[V];exact h2);rw[V]at c
      exact c)
     have l:=zz (fun h:A.zs=Bm.zs=>X.o.found rH C (Ta hoi hok h));have qU:=zz (fun h:¬A.zs=Bm.zs=>X.o.step (Qf hoi hok h));clear hoi hok G H D p V qV;have Y:=And.intro r xk;have Z:=zz Z.o.drew
     go_upto_region 7 with fail
     refine wp_region_noPanic ?_;refine A8 [2,7,13,16] (fun w'=> w'.cell? ⟨T,i,none⟩=some (.slice (some M) 24 z)/\ w'.cell? ⟨T,k,none⟩=some (.slice (some u) 24 cK)) Ap ?_
     have Y:=(show wr.drew.cell? ⟨T,i,none⟩=some (.slice (some M) 24 z)/\ wr.drew.cell? ⟨T,k,none⟩=some (.slice (some u) 24 cK)from Y)
     have B:=zz (show Rd wr.drew O 1 (some M) 24 (Ms.AQ A.zs)from B.o)
     have d:=zz (show Rd wr.drew O 1 (some u) 24 (Ms.AQ Bm.zs)from d.o)
     have qQ:w1.heap.size<=wr.drew.heap.size:=Z.o.size
     generalize wr.drew=V0 at*
     refine Ac 0 ?_;refine Ac 1 ?_;refine Bc 2 Y ?_;refine Rg.tp 3 ⟨some 18,.binOp .eql 63 (.tmp 17) (.const (.slice none 0 0)) 63,_,_,_,none⟩ (v:=?_) rfl ?_ ?_;rotate_left 1
     . (intro w;have hq:=E w;go_simp;(try with_reducible rfl))
     refine Ac 4 ?_;refine Ac 5 ?_;refine Ac 6 ?_;refine Bc 7 Y ?_;refine Rg.tp 8 ⟨some 23,.binOp .eql 63 (.tmp 22) (.const (.slice none 0 0)) 63,_,_,_,some (4,false)⟩ (v:=?_) rfl ?_ ?_;rotate_left 1
     . (intro w;have hq:=b w;go_simp;(try with_reducible rfl))
     refine Ac 9 ?_;refine Ac 10 ?_;refine Ac 11 ?_;refine Ac 12 ?_;refine Bc 13 Y ?_;refine Ac 14 ?_;refine Ac 15 ?_;refine Bc 16 Y ?_;refine Aw 17 ?_;refine AX ?_ ?_
     . kernel_rfl
     intro K hK;rw[Ao Bb];go_simp
     go_at_call 76
     refine(CS.o V0 B.o d.o).mono ?_;rintro e V1 ⟨rfl,hb⟩;have Z:=zz (Bh Z.o W.o.2.2 hb);have qY:=zz (B.o.below (hb.mono (Nat.le_trans W.o.2.2 qQ)));clear hb Y;have Y:=trivial;go_wp2_with fail;refine hK.o _ _ ?_;refine Ac 18 ?_;refine Ac 19 ?_;refine Bg Ap ?_ _;refine NoPanic.normal ?_;clear Y
     by_cases R:A.zs=Bm.zs
     .have n:=zz (l.o R);have qX:decide (A.zs=Bm.zs)=true:=decide_eq_true R;clear l qU R;rw[qX];have r:=((HH.o.below Z.o W.o.2.1).cell i).trans (qW.o i y);rw[rT.o]at r
      have I:=zz (HB.o.trans (Z.o.mono (show w.heap.size<=O by have:=L.o;have:=W.o;omega)))
      have rM:=zz (HN.o.below I.o (show x<w.heap.size by rw[L.o];exact g))
      have rD:O<=V1.heap.size:=Nat.le_trans W.o.2.2 Z.o.size;go_wp2_with fail;refine(Yy f A.zs rE.o (some M) z rJ.o S x _ HF.o rM.o (by rw[rE.o];exact qY.o.more rD)).mono ?_;rintro e V2 ⟨rfl,rC,qZ⟩;have rF:=zz rC;have rP:=zz (Df (JE (row:=some x) I.o) qZ)
      have qR:=zz (show Gc o f=if CQ A.zs=true then EX A.zs f else f by unfold Gc;rw[n.o];rfl)
      clear rC qZ;go_wp2_with fail;refine bodyPost_ret (results_none rfl _ _ _) rfl ?_;exact⟨rfl,by rw[qR.o];exact rF.o,rP.o⟩
     have n:=zz (qU.o R);have qX:decide (A.zs=Bm.zs)=false:=decide_eq_false R;clear l qU R;rw[qX];go_wp2_with fail;exact⟨⟨k+1,Aa,Aa,BG,n.o,Z.o⟩,Ck⟩
  obtain rfl:k=4:=Aa;clear C;go_wp2_with fail;exact⟨⟨i+1,Aa,BG,X.o.next,Z.o⟩,Ck⟩
 obtain rfl:i=4:=Aa;clear y
 have qR:=zz (show Gc o f=f by unfold Gc;rw[X.o.all Nr])
 have I:=zz (HB.o.trans (Z.o.mono (show w.heap.size<=O by have:=L.o;have:=W.o;omega)))
 have rR:=zz (HN.o.below I.o (show x<w.heap.size by rw[L.o];exact g))
 go_wp2_with fail;refine bodyPost_end (results_none rfl _ _ _) rfl ?_;exact⟨rfl,by rw[qR.o];exact rR.o,JE I.o⟩
end Nd
end Go.Proofs.YtjobajeggllmiaaGreat
