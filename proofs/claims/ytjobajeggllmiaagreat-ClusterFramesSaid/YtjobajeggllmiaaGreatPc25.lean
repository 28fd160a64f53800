import Derived.Test.YtjobajeggllmiaaGreatPc0
import Derived.Test.YtjobajeggllmiaaGreatPc24
set_option linter.all false
set_option maxHeartbeats 100000000
set_option maxRecDepth 100000
namespace Go.Proofs.YtjobajeggllmiaaGreat
open Rg _root_.Go.Proofs.Tryz
namespace BigW
open Go.RowKit Mem BigLaw Rws
def Rl(s:St)(z r qR:Int)(w:World)(hs:Mi s)(sI:In64 z)(sH:In64 r)(rA:In64 qR):
  Calls prog 88 #[SI s,.int .i64 z,.int .i64 r,.int .i64 qR] w fun e w'=>Ps w w' (update s z r qR) e:=by
 obtain⟨X,V,N,O,F,Y,U⟩:=s;obtain⟨rF,rZ,qU,qV,qZ⟩:=hs
 simp only at rF rZ qU qV qZ
 unfold SI ME
 obtain⟨R,qW⟩:=AJ (((w.alloc (.cells (AZ X V N O F Y U) 25)).alloc (.cells VD 25)).alloc (.cells #[.bool Y] 163))
 have E:=zz (show Below w.heap.size w R from by rw[←qW];exact((DC).alloc Bq _).alloc Ec _)
 have Z:=zz (show ED R w.heap.size ⟨X,V,N,O,F,Y,U⟩from by rw[←qW];exact((Ae.new rfl).alloc _).alloc _)
 have B:=zz (show Nq R 163 (w.heap.size+1+1) Y from by rw[←qW];exact Ae.new Bq)
 have G:=zz (show Ae R (w.heap.size+1) 25 VD from by rw[←qW];exact(Ae.new Bq).alloc _)
 have hsz:w.heap.size+3<=R.heap.size:=by rw[←qW];simp
 have rY:=zz qW;clear qW;obtain⟨y,yb,Y_,rD⟩:=Iu Eh z X;obtain⟨wd,l,ru,qY⟩:=Iu BZ N r;obtain⟨yy,i,rC,sM⟩:=Iu Ce y y;obtain⟨gq,k,rq,sP⟩:=Iu Ce qR wd;obtain⟨kq,f,sD,qX⟩:=Iu Kw N wd;obtain⟨lq,d,rW,rE⟩:=Iu Kw O wd;obtain⟨m1,c,rJ,rR⟩:=Iu Ce kq y;obtain⟨x,xb,X_,sZ⟩:=Iu BZ X m1;obtain⟨m2,b,rP,rG⟩:=Iu Ce lq y;obtain⟨v,vb,V_,sU⟩:=Iu BZ V m2;obtain⟨m3,n,su,sw⟩:=Iu Ce kq N;obtain⟨p0,qQ,r9,sO⟩:=Iu Eh N m3;obtain⟨m4,j,rQ,rX⟩:=Iu Ce kq O;obtain⟨p1,g,rT,sQ⟩:=Iu Eh O m4;obtain⟨m5,m,rV,rU⟩:=Iu Ce lq O;obtain⟨p2,q,rH,sN⟩:=Iu Eh F m5;obtain⟨mw,rM⟩:=AJ (IntKind.i64.wrap (U+1))
 go_in
 go_upto_region 2 with fail
 rw[rY.o];clear rY;obtain⟨gk,sG⟩:=AJ (w.heap.size+1+1);rw[sG]at B ⊢;obtain⟨gr,sJ⟩:=AJ (w.heap.size+1);rw[sJ]at G ⊢
 (try clear J M L H I C D)
 (try clear kh)
 obtain⟨J,M,L,H,I,C,D⟩:=Ai Z.o;go_wp2_with fail;refine(NU gk _ z X _ B.o sI rF).mono ?_;intro e R u;rw[Y_.o]at u;obtain⟨rfl,W,T⟩:=u;dsimp only at W;have B:=zz W;have G:=Hg G T Aa;have Z:=Hg Z T Aa;have E:=Hb E T Nr Aa;replace hsz:=Nat.le_trans hsz T.size;clear W T
 (try clear J M L H I C D)
 (try clear kh)
 obtain⟨J,M,L,H,I,C,D⟩:=Ai Z.o;go_wp2_with fail;refine(GI gk _ N r _ B.o qU sH).mono ?_;intro e R u;rw[ru.o]at u;obtain⟨rfl,W,T⟩:=u;dsimp only at W;have B:=zz W;have G:=Hg G T Aa;have Z:=Hg Z T Aa;have E:=Hb E T Nr Aa;replace hsz:=Nat.le_trans hsz T.size;clear W T
 (try clear J M L H I C D)
 (try clear kh)
 obtain⟨J,M,L,H,I,C,D⟩:=Ai Z.o
 by_cases hA:wd<=0
 .have sK:wd<1:=Aa
  go_upto_region 5 with fail
  obtain⟨f0,f1,f2,f3,f4,f5,f6⟩:=Cs Z.o;obtain⟨j0,j1,j2,j3,j4,j5,j6⟩:=Ai Z.o
  go_upto_region 6 with fail
  have HG:=zz (show Ae (R.setCell ⟨w.heap.size,6,none⟩ (.int .i64 mw)) w.heap.size 25 (AZ X V N O F Y mw)from Ae.set Z.o 6 (.int .i64 mw))
  have G:=zz (G.o.other (p:=⟨w.heap.size,6,none⟩) (by show _≠w.heap.size;omega) (.int .i64 mw))
  have E:=zz (E.o.setCell (p:=⟨w.heap.size,6,none⟩) (by show _<=w.heap.size;omega) (.int .i64 mw))
  clear f0 f1 f2 f3 f4 f5 f6 j0 j1 j2 j3 j4 j5 j6 J M L H I C D
  (try clear kh)
  generalize(R.setCell ⟨w.heap.size,6,none⟩ (.int .i64 mw))=R at*
  have HF:=zz (show update ⟨X,V,N,O,F,Y,U⟩ z r qR=(⟨X,V,N,O,F,Y,mw⟩,false)by simp only[update,Y_.o,ru.o,rC.o,rq.o];rw[Ao (Or.inl hA),rM])
  go_wp2_with(first|(refine Ad rfl 25 _ rfl w.heap.size rfl HG.o _ underlying25 rfl Ap ?_)|(refine wpList_store_row rfl 25 _ _ rfl gr (AZ X V N O F Y mw) rfl rfl 25 _ G.o Ap rfl GR ?_))
  refine Ci (x:=.bool false) rfl rfl rfl (G.o.setRow (AZ X V N O F Y mw)) ⟨by rw[underlying25],Ap⟩ rfl ?_;rw[HF.o];exact⟨rfl,below_setRow E.o Aa _⟩
 have sK:1<=wd:=Aa;go_wp2_with fail;refine(FM gk _ y y _ B.o rD rD).mono ?_;intro e R u;rw[rC.o]at u;obtain⟨rfl,W,T⟩:=u;dsimp only at W;have B:=zz W;have G:=Hg G T Aa;have Z:=Hg Z T Aa;have E:=Hb E T Nr Aa;replace hsz:=Nat.le_trans hsz T.size;clear W T
 (try clear J M L H I C D)
 (try clear kh)
 obtain⟨J,M,L,H,I,C,D⟩:=Ai Z.o;go_wp2_with fail;refine(FM gk _ qR wd _ B.o rA qY).mono ?_;intro e R u;rw[rq.o]at u;obtain⟨rfl,W,T⟩:=u;dsimp only at W;have B:=zz W;have G:=Hg G T Aa;have Z:=Hg Z T Aa;have E:=Hb E T Nr Aa;replace hsz:=Nat.le_trans hsz T.size;clear W T
 (try clear J M L H I C D)
 (try clear kh)
 obtain⟨J,M,L,H,I,C,D⟩:=Ai Z.o
 by_cases hC:gq<yy
 .go_upto_region 5 with fail
  obtain⟨f0,f1,f2,f3,f4,f5,f6⟩:=Cs Z.o;obtain⟨j0,j1,j2,j3,j4,j5,j6⟩:=Ai Z.o
  go_upto_region 6 with fail
  have HG:=zz (show Ae (R.setCell ⟨w.heap.size,6,none⟩ (.int .i64 mw)) w.heap.size 25 (AZ X V N O F Y mw)from Ae.set Z.o 6 (.int .i64 mw))
  have G:=zz (G.o.other (p:=⟨w.heap.size,6,none⟩) (by show _≠w.heap.size;omega) (.int .i64 mw))
  have E:=zz (E.o.setCell (p:=⟨w.heap.size,6,none⟩) (by show _<=w.heap.size;omega) (.int .i64 mw))
  clear f0 f1 f2 f3 f4 f5 f6 j0 j1 j2 j3 j4 j5 j6 J M L H I C D
  (try clear kh)
  generalize(R.setCell ⟨w.heap.size,6,none⟩ (.int .i64 mw))=R at*
  have HF:=zz (show update ⟨X,V,N,O,F,Y,U⟩ z r qR=(⟨X,V,N,O,F,Y,mw⟩,false)by simp only[update,Y_.o,ru.o,rC.o,rq.o];rw[Ao (Or.inr hC),rM])
  go_wp2_with(first|(refine Ad rfl 25 _ rfl w.heap.size rfl HG.o _ underlying25 rfl Ap ?_)|(refine wpList_store_row rfl 25 _ _ rfl gr (AZ X V N O F Y mw) rfl rfl 25 _ G.o Ap rfl GR ?_))
  refine Ci (x:=.bool false) rfl rfl rfl (G.o.setRow (AZ X V N O F Y mw)) ⟨by rw[underlying25],Ap⟩ rfl ?_;rw[HF.o];exact⟨rfl,below_setRow E.o Aa _⟩
 have sW:yy<=gq:=Aa;go_wp2_with fail;refine(Wp gk _ N wd _ B.o qU qY).mono ?_;intro e R u;rw[sD.o]at u;obtain⟨rfl,W,T⟩:=u;dsimp only at W;have B:=zz W;have G:=Hg G T Aa;have Z:=Hg Z T Aa;have E:=Hb E T Nr Aa;replace hsz:=Nat.le_trans hsz T.size;clear W T
 (try clear J M L H I C D)
 (try clear kh)
 obtain⟨J,M,L,H,I,C,D⟩:=Ai Z.o;go_wp2_with fail;refine(Wp gk _ O wd _ B.o qV qY).mono ?_;intro e R u;rw[rW.o]at u;obtain⟨rfl,W,T⟩:=u;dsimp only at W;have B:=zz W;have G:=Hg G T Aa;have Z:=Hg Z T Aa;have E:=Hb E T Nr Aa;replace hsz:=Nat.le_trans hsz T.size;clear W T
 (try clear J M L H I C D)
 (try clear kh)
 obtain⟨J,M,L,H,I,C,D⟩:=Ai Z.o
 have HG:=zz (show Ae R w.heap.size 25 (AZ X V N O F Y U)from Z.o)
 go_upto_region 10 with(refine Ad rfl 25 _ rfl w.heap.size rfl HG.o _ underlying25 rfl Ap ?_)
 clear HG
 have A:=zz (show ED (R.alloc (.cells (AZ X V N O F Y U) 25)) R.heap.size ⟨X,V,N,O,F,Y,U⟩from Ae.fresh _ _ _)
 have Z:=zz (show ED (R.alloc (.cells (AZ X V N O F Y U) 25)) w.heap.size ⟨X,V,N,O,F,Y,U⟩from Ae.alloc Z.o _)
 have B:=zz (Ae.alloc B.o (.cells (AZ X V N O F Y U) 25));have G:=zz (G.o.alloc (.cells (AZ X V N O F Y U) 25));have E:=zz (E.o.alloc Aa (.cells (AZ X V N O F Y U) 25));obtain⟨gn,rO⟩:=AJ (R.heap.size);have sS:w.heap.size+3<=gn:=Aa;replace hsz:w.heap.size+3<=(R.alloc (.cells (AZ X V N O F Y U) 25)).heap.size:=Ec;rw[rO]at A ⊢;clear rO
 generalize(R.alloc (.cells (AZ X V N O F Y U) 25))=R at*
 (try clear J M L H I C D)
 (try clear kh)
 obtain⟨J,M,L,H,I,C,D⟩:=Ai Z.o;have Z:=zz (Ae.drew Z.o);have G:=zz (G.o.drew);have B:=zz (Ae.drew B.o);have A:=zz (Ae.drew A.o);have E:=zz E.o.drew;have hsz:w.heap.size+3<=R.drew.heap.size:=hsz
 (try clear J M L H I C D)
 (try clear kh)
 obtain⟨J,M,L,H,I,C,D⟩:=Ai Z.o;have t:=And.intro J (And.intro M (And.intro L (And.intro H I)));refine wp_region_noPanic ?_;refine A8 [2] (fun w'=> w'.cell? ⟨w.heap.size,0,none⟩=some (.int .i64 X)/\ w'.cell? ⟨w.heap.size,1,none⟩=some (.int .i64 V)/\ w'.cell? ⟨w.heap.size,2,none⟩=some (.int .i64 N)/\ w'.cell? ⟨w.heap.size,3,none⟩=some (.int .i64 O)/\ w'.cell? ⟨w.heap.size,4,none⟩=some (.int .i64 F)) Ap ?_
 generalize R.drew=R at*
 refine Ac 0 ?_;refine Ac 1 ?_;refine Bc 2 t ?_;refine Ac 3 ?_;refine Ac 4 ?_;refine Ac 5 ?_;refine Aw 6 ?_;refine Bt ?_;intro K hK;rw[Ao Bb];go_simp
 go_at_call 116
 refine(FM gk _ kq y _ B.o qX rD).mono ?_;intro e R u;rw[rJ.o]at u;obtain⟨rfl,W,T⟩:=u;dsimp only at W;have B:=zz W;have G:=Hg G T Aa;have Z:=Hg Z T Aa;have A:=Hg A T Aa;have E:=Hb E T Nr Aa;replace hsz:=Nat.le_trans hsz T.size;clear W T
 (try clear J M L H I C D)
 (try clear kh)
 obtain⟨J,M,L,H,I,C,D⟩:=Ai Z.o;clear t;have t:=And.intro J (And.intro M (And.intro L (And.intro H I)));go_wp2_with fail;refine hK.o _ _ t ?_;refine Aw 7 ?_;refine AX ?_ ?_
 . kernel_rfl
 intro K hK;rw[Ao Bb];go_simp
 go_at_call 115
 refine(GI gk _ X m1 _ B.o rF rR).mono ?_;intro e R u;rw[X_.o]at u;obtain⟨rfl,W,T⟩:=u;dsimp only at W;have B:=zz W;have G:=Hg G T Aa;have Z:=Hg Z T Aa;have A:=Hg A T Aa;have E:=Hb E T Nr Aa;replace hsz:=Nat.le_trans hsz T.size;clear W T
 (try clear J M L H I C D)
 (try clear kh)
 obtain⟨J,M,L,H,I,C,D⟩:=Ai Z.o;clear t;have t:=And.intro J (And.intro M (And.intro L (And.intro H I)));obtain⟨f0,f1,f2,f3,f4,f5,f6⟩:=Cs A.o;obtain⟨j0,j1,j2,j3,j4,j5,j6⟩:=Ai A.o;go_wp2_with fail;refine hK.o _ _ ?_;refine Ac 8 ?_;refine Aw 9 ?_;refine AX ?_ ?_
 . kernel_rfl
 intro K hK;go_simp;refine hK.o _ _ ?_;(try simp only[Rg.lp]);refine Bg Ap ?_ _;refine NoPanic.normal ?_;clear t;clear f0 f1 f2 f3 f4 f5 f6;clear j0 j1 j2 j3 j4 j5 j6
 have HP:=zz (show ED (R.setCell ⟨gn,0,none⟩ (.int .i64 x)) gn ⟨x,V,N,O,F,Y,U⟩from Ae.set A.o 0 (.int .i64 x))
 have G:=zz (G.o.other (p:=⟨gn,0,none⟩) (by show _≠gn;omega) (.int .i64 x))
 have Z:=zz (Ae.other Z.o (p:=⟨gn,0,none⟩) (by show _≠gn;omega) (.int .i64 x))
 have B:=zz (Ae.other B.o (p:=⟨gn,0,none⟩) (by show _≠gn;omega) (.int .i64 x))
 have E:=zz (E.o.setCell (p:=⟨gn,0,none⟩) (by show _<=gn;omega) (.int .i64 x))
 replace hsz:w.heap.size+3<=(R.setCell ⟨gn,0,none⟩ (.int .i64 x)).heap.size:=by simpa using hsz
 have A:=HP;clear HP
 generalize(R.setCell ⟨gn,0,none⟩ (.int .i64 x))=R at*
 (try clear J M L H I C D)
 (try clear kh)
 obtain⟨J,M,L,H,I,C,D⟩:=Ai Z.o
 go_upto_region 11 with fail
 have Z:=zz (Ae.drew Z.o);have G:=zz (G.o.drew);have B:=zz (Ae.drew B.o);have A:=zz (Ae.drew A.o);have E:=zz E.o.drew;have hsz:w.heap.size+3<=R.drew.heap.size:=hsz
 (try clear J M L H I C D)
 (try clear kh)
 obtain⟨J,M,L,H,I,C,D⟩:=Ai Z.o;have t:=And.intro J (And.intro M (And.intro L (And.intro H I)));refine wp_region_noPanic ?_;refine A8 [2] (fun w'=> w'.cell? ⟨w.heap.size,0,none⟩=some (.int .i64 X)/\ w'.cell? ⟨w.heap.size,1,none⟩=some (.int .i64 V)/\ w'.cell? ⟨w.heap.size,2,none⟩=some (.int .i64 N)/\ w'.cell? ⟨w.heap.size,3,none⟩=some (.int .i64 O)/\ w'.cell? ⟨w.heap.size,4,none⟩=some (.int .i64 F)) Ap ?_
 generalize R.drew=R at*
 refine Ac 0 ?_;refine Ac 1 ?_;refine Bc 2 t ?_;refine Ac 3 ?_;refine Ac 4 ?_;refine Ac 5 ?_;refine Aw 6 ?_;refine Bt ?_;intro K hK;rw[Ao Bb];go_simp
 go_at_call 116
 refine(FM gk _ lq y _ B.o rE rD).mono ?_;intro e R u;rw[rP.o]at u;obtain⟨rfl,W,T⟩:=u;dsimp only at W;have B:=zz W;have G:=Hg G T Aa;have Z:=Hg Z T Aa;have A:=Hg A T Aa;have E:=Hb E T Nr Aa;replace hsz:=Nat.le_trans hsz T.size;clear W T
 (try clear J M L H I C D)
 (try clear kh)
 obtain⟨J,M,L,H,I,C,D⟩:=Ai Z.o;clear t;have t:=And.intro J (And.intro M (And.intro L (And.intro H I)));go_wp2_with fail;refine hK.o _ _ t ?_;refine Aw 7 ?_;refine AX ?_ ?_
 . kernel_rfl
 intro K hK;rw[Ao Bb];go_simp
 go_at_call 115
 refine(GI gk _ V m2 _ B.o rZ rG).mono ?_;intro e R u;rw[V_.o]at u;obtain⟨rfl,W,T⟩:=u;dsimp only at W;have B:=zz W;have G:=Hg G T Aa;have Z:=Hg Z T Aa;have A:=Hg A T Aa;have E:=Hb E T Nr Aa;replace hsz:=Nat.le_trans hsz T.size;clear W T
 (try clear J M L H I C D)
 (try clear kh)
 obtain⟨J,M,L,H,I,C,D⟩:=Ai Z.o;clear t;have t:=And.intro J (And.intro M (And.intro L (And.intro H I)));obtain⟨f0,f1,f2,f3,f4,f5,f6⟩:=Cs A.o;obtain⟨j0,j1,j2,j3,j4,j5,j6⟩:=Ai A.o;go_wp2_with fail;refine hK.o _ _ ?_;refine Ac 8 ?_;refine Aw 9 ?_;refine AX ?_ ?_
 . kernel_rfl
 intro K hK;go_simp;refine hK.o _ _ ?_;(try simp only[Rg.lp]);refine Bg Ap ?_ _;refine NoPanic.normal ?_;clear t;clear f0 f1 f2 f3 f4 f5 f6;clear j0 j1 j2 j3 j4 j5 j6
 have HP:=zz (show ED (R.setCell ⟨gn,1,none⟩ (.int .i64 v)) gn ⟨x,v,N,O,F,Y,U⟩from Ae.set A.o 1 (.int .i64 v))
 have G:=zz (G.o.other (p:=⟨gn,1,none⟩) (by show _≠gn;omega) (.int .i64 v))
 have Z:=zz (Ae.other Z.o (p:=⟨gn,1,none⟩) (by show _≠gn;omega) (.int .i64 v))
 have B:=zz (Ae.other B.o (p:=⟨gn,1,none⟩) (by show _≠gn;omega) (.int .i64 v))
 have E:=zz (E.o.setCell (p:=⟨gn,1,none⟩) (by show _<=gn;omega) (.int .i64 v))
 replace hsz:w.heap.size+3<=(R.setCell ⟨gn,1,none⟩ (.int .i64 v)).heap.size:=by simpa using hsz
 have A:=HP;clear HP
 generalize(R.setCell ⟨gn,1,none⟩ (.int .i64 v))=R at*
 (try clear J M L H I C D)
 (try clear kh)
 obtain⟨J,M,L,H,I,C,D⟩:=Ai Z.o
 go_upto_region 12 with fail
 have Z:=zz (Ae.drew Z.o);have G:=zz (G.o.drew);have B:=zz (Ae.drew B.o);have A:=zz (Ae.drew A.o);have E:=zz E.o.drew;have hsz:w.heap.size+3<=R.drew.heap.size:=hsz
 (try clear J M L H I C D)
 (try clear kh)
 obtain⟨J,M,L,H,I,C,D⟩:=Ai Z.o;have t:=And.intro J (And.intro M (And.intro L (And.intro H I)));refine wp_region_noPanic ?_;refine A8 [2,6] (fun w'=> w'.cell? ⟨w.heap.size,0,none⟩=some (.int .i64 X)/\ w'.cell? ⟨w.heap.size,1,none⟩=some (.int .i64 V)/\ w'.cell? ⟨w.heap.size,2,none⟩=some (.int .i64 N)/\ w'.cell? ⟨w.heap.size,3,none⟩=some (.int .i64 O)/\ w'.cell? ⟨w.heap.size,4,none⟩=some (.int .i64 F)) Ap ?_
 generalize R.drew=R at*
 refine Ac 0 ?_;refine Ac 1 ?_;refine Bc 2 t ?_;refine Ac 3 ?_;refine Ac 4 ?_;refine Ac 5 ?_;refine Bc 6 t ?_;refine Aw 7 ?_;refine Bt ?_;intro K hK;rw[Ao Bb];go_simp
 go_at_call 116
 refine(FM gk _ kq N _ B.o qX qU).mono ?_;intro e R u;rw[su.o]at u;obtain⟨rfl,W,T⟩:=u;dsimp only at W;have B:=zz W;have G:=Hg G T Aa;have Z:=Hg Z T Aa;have A:=Hg A T Aa;have E:=Hb E T Nr Aa;replace hsz:=Nat.le_trans hsz T.size;clear W T
 (try clear J M L H I C D)
 (try clear kh)
 obtain⟨J,M,L,H,I,C,D⟩:=Ai Z.o;clear t;have t:=And.intro J (And.intro M (And.intro L (And.intro H I)));go_wp2_with fail;refine hK.o _ _ t ?_;refine Aw 8 ?_;refine AX ?_ ?_
 . kernel_rfl
 intro K hK;rw[Ao Bb];go_simp
 go_at_call 114
 refine(NU gk _ N m3 _ B.o qU sw).mono ?_;intro e R u;rw[r9.o]at u;obtain⟨rfl,W,T⟩:=u;dsimp only at W;have B:=zz W;have G:=Hg G T Aa;have Z:=Hg Z T Aa;have A:=Hg A T Aa;have E:=Hb E T Nr Aa;replace hsz:=Nat.le_trans hsz T.size;clear W T
 (try clear J M L H I C D)
 (try clear kh)
 obtain⟨J,M,L,H,I,C,D⟩:=Ai Z.o;clear t;have t:=And.intro J (And.intro M (And.intro L (And.intro H I)));obtain⟨f0,f1,f2,f3,f4,f5,f6⟩:=Cs A.o;obtain⟨j0,j1,j2,j3,j4,j5,j6⟩:=Ai A.o;go_wp2_with fail;refine hK.o _ _ ?_;refine Ac 9 ?_;refine Aw 10 ?_;refine AX ?_ ?_
 . kernel_rfl
 intro K hK;go_simp;refine hK.o _ _ ?_;(try simp only[Rg.lp]);refine Bg Ap ?_ _;refine NoPanic.normal ?_;clear t;clear f0 f1 f2 f3 f4 f5 f6;clear j0 j1 j2 j3 j4 j5 j6
 have HP:=zz (show ED (R.setCell ⟨gn,2,none⟩ (.int .i64 p0)) gn ⟨x,v,p0,O,F,Y,U⟩from Ae.set A.o 2 (.int .i64 p0))
 have G:=zz (G.o.other (p:=⟨gn,2,none⟩) (by show _≠gn;omega) (.int .i64 p0))
 have Z:=zz (Ae.other Z.o (p:=⟨gn,2,none⟩) (by show _≠gn;omega) (.int .i64 p0))
 have B:=zz (Ae.other B.o (p:=⟨gn,2,none⟩) (by show _≠gn;omega) (.int .i64 p0))
 have E:=zz (E.o.setCell (p:=⟨gn,2,none⟩) (by show _<=gn;omega) (.int .i64 p0))
 replace hsz:w.heap.size+3<=(R.setCell ⟨gn,2,none⟩ (.int .i64 p0)).heap.size:=by simpa using hsz
 have A:=HP;clear HP
 generalize(R.setCell ⟨gn,2,none⟩ (.int .i64 p0))=R at*
 (try clear J M L H I C D)
 (try clear kh)
 obtain⟨J,M,L,H,I,C,D⟩:=Ai Z.o
 go_upto_region 13 with fail
 have Z:=zz (Ae.drew Z.o);have G:=zz (G.o.drew);have B:=zz (Ae.drew B.o);have A:=zz (Ae.drew A.o);have E:=zz E.o.drew;have hsz:w.heap.size+3<=R.drew.heap.size:=hsz
 (try clear J M L H I C D)
 (try clear kh)
 obtain⟨J,M,L,H,I,C,D⟩:=Ai Z.o;have t:=And.intro J (And.intro M (And.intro L (And.intro H I)));refine wp_region_noPanic ?_;refine A8 [2,6] (fun w'=> w'.cell? ⟨w.heap.size,0,none⟩=some (.int .i64 X)/\ w'.cell? ⟨w.heap.size,1,none⟩=some (.int .i64 V)/\ w'.cell? ⟨w.heap.size,2,none⟩=some (.int .i64 N)/\ w'.cell? ⟨w.heap.size,3,none⟩=some (.int .i64 O)/\ w'.cell? ⟨w.heap.size,4,none⟩=some (.int .i64 F)) Ap ?_
 generalize R.drew=R at*
 refine Ac 0 ?_;refine Ac 1 ?_;refine Bc 2 t ?_;refine Ac 3 ?_;refine Ac 4 ?_;refine Ac 5 ?_;refine Bc 6 t ?_;refine Aw 7 ?_;refine Bt ?_;intro K hK;rw[Ao Bb];go_simp
 go_at_call 116
 refine(FM gk _ kq O _ B.o qX qV).mono ?_;intro e R u;rw[rQ.o]at u;obtain⟨rfl,W,T⟩:=u;dsimp only at W;have B:=zz W;have G:=Hg G T Aa;have Z:=Hg Z T Aa;have A:=Hg A T Aa;have E:=Hb E T Nr Aa;replace hsz:=Nat.le_trans hsz T.size;clear W T
 (try clear J M L H I C D)
 (try clear kh)
 obtain⟨J,M,L,H,I,C,D⟩:=Ai Z.o;clear t;have t:=And.intro J (And.intro M (And.intro L (And.intro H I)));go_wp2_with fail;refine hK.o _ _ t ?_;refine Aw 8 ?_;refine AX ?_ ?_
 . kernel_rfl
 intro K hK;rw[Ao Bb];go_simp
 go_at_call 114
 refine(NU gk _ O m4 _ B.o qV rX).mono ?_;intro e R u;rw[rT.o]at u;obtain⟨rfl,W,T⟩:=u;dsimp only at W;have B:=zz W;have G:=Hg G T Aa;have Z:=Hg Z T Aa;have A:=Hg A T Aa;have E:=Hb E T Nr Aa;replace hsz:=Nat.le_trans hsz T.size;clear W T
 (try clear J M L H I C D)
 (try clear kh)
 obtain⟨J,M,L,H,I,C,D⟩:=Ai Z.o;clear t;have t:=And.intro J (And.intro M (And.intro L (And.intro H I)));obtain⟨f0,f1,f2,f3,f4,f5,f6⟩:=Cs A.o;obtain⟨j0,j1,j2,j3,j4,j5,j6⟩:=Ai A.o;go_wp2_with fail;refine hK.o _ _ ?_;refine Ac 9 ?_;refine Aw 10 ?_;refine AX ?_ ?_
 . kernel_rfl
 intro K hK;go_simp;refine hK.o _ _ ?_;(try simp only[Rg.lp]);refine Bg Ap ?_ _;refine NoPanic.normal ?_;clear t;clear f0 f1 f2 f3 f4 f5 f6;clear j0 j1 j2 j3 j4 j5 j6
 have HP:=zz (show ED (R.setCell ⟨gn,3,none⟩ (.int .i64 p1)) gn ⟨x,v,p0,p1,F,Y,U⟩from Ae.set A.o 3 (.int .i64 p1))
 have G:=zz (G.o.other (p:=⟨gn,3,none⟩) (by show _≠gn;omega) (.int .i64 p1))
 have Z:=zz (Ae.other Z.o (p:=⟨gn,3,none⟩) (by show _≠gn;omega) (.int .i64 p1))
 have B:=zz (Ae.other B.o (p:=⟨gn,3,none⟩) (by show _≠gn;omega) (.int .i64 p1))
 have E:=zz (E.o.setCell (p:=⟨gn,3,none⟩) (by show _<=gn;omega) (.int .i64 p1))
 replace hsz:w.heap.size+3<=(R.setCell ⟨gn,3,none⟩ (.int .i64 p1)).heap.size:=by simpa using hsz
 have A:=HP;clear HP
 generalize(R.setCell ⟨gn,3,none⟩ (.int .i64 p1))=R at*
 (try clear J M L H I C D)
 (try clear kh)
 obtain⟨J,M,L,H,I,C,D⟩:=Ai Z.o
 go_upto_region 14 with fail
 have Z:=zz (Ae.drew Z.o);have G:=zz (G.o.drew);have B:=zz (Ae.drew B.o);have A:=zz (Ae.drew A.o);have E:=zz E.o.drew;have hsz:w.heap.size+3<=R.drew.heap.size:=hsz
 (try clear J M L H I C D)
 (try clear kh)
 obtain⟨J,M,L,H,I,C,D⟩:=Ai Z.o;have t:=And.intro J (And.intro M (And.intro L (And.intro H I)));refine wp_region_noPanic ?_;refine A8 [2,6] (fun w'=> w'.cell? ⟨w.heap.size,0,none⟩=some (.int .i64 X)/\ w'.cell? ⟨w.heap.size,1,none⟩=some (.int .i64 V)/\ w'.cell? ⟨w.heap.size,2,none⟩=some (.int .i64 N)/\ w'.cell? ⟨w.heap.size,3,none⟩=some (.int .i64 O)/\ w'.cell? ⟨w.heap.size,4,none⟩=some (.int .i64 F)) Ap ?_
 generalize R.drew=R at*
 refine Ac 0 ?_;refine Ac 1 ?_;refine Bc 2 t ?_;refine Ac 3 ?_;refine Ac 4 ?_;refine Ac 5 ?_;refine Bc 6 t ?_;refine Aw 7 ?_;refine Bt ?_;intro K hK;rw[Ao Bb];go_simp
 go_at_call 116
 refine(FM gk _ lq O _ B.o rE qV).mono ?_;intro e R u;rw[rV.o]at u;obtain⟨rfl,W,T⟩:=u;dsimp only at W;have B:=zz W;have G:=Hg G T Aa;have Z:=Hg Z T Aa;have A:=Hg A T Aa;have E:=Hb E T Nr Aa;replace hsz:=Nat.le_trans hsz T.size;clear W T
 (try clear J M L H I C D)
 (try clear kh)
 obtain⟨J,M,L,H,I,C,D⟩:=Ai Z.o;clear t;have t:=And.intro J (And.intro M (And.intro L (And.intro H I)));go_wp2_with fail;refine hK.o _ _ t ?_;refine Aw 8 ?_;refine AX ?_ ?_
 . kernel_rfl
 intro K hK;rw[Ao Bb];go_simp
 go_at_call 114
 refine(NU gk _ F m5 _ B.o qZ rU).mono ?_;intro e R u;rw[rH.o]at u;obtain⟨rfl,W,T⟩:=u;dsimp only at W;have B:=zz W;have G:=Hg G T Aa;have Z:=Hg Z T Aa;have A:=Hg A T Aa;have E:=Hb E T Nr Aa;replace hsz:=Nat.le_trans hsz T.size;clear W T
 (try clear J M L H I C D)
 (try clear kh)
 obtain⟨J,M,L,H,I,C,D⟩:=Ai Z.o;clear t;have t:=And.intro J (And.intro M (And.intro L (And.intro H I)));obtain⟨f0,f1,f2,f3,f4,f5,f6⟩:=Cs A.o;obtain⟨j0,j1,j2,j3,j4,j5,j6⟩:=Ai A.o;go_wp2_with fail;refine hK.o _ _ ?_;refine Ac 9 ?_;refine Aw 10 ?_;refine AX ?_ ?_
 . kernel_rfl
 intro K hK;go_simp;refine hK.o _ _ ?_;(try simp only[Rg.lp]);refine Bg Ap ?_ _;refine NoPanic.normal ?_;clear t;clear f0 f1 f2 f3 f4 f5 f6;clear j0 j1 j2 j3 j4 j5 j6
 have HP:=zz (show ED (R.setCell ⟨gn,4,none⟩ (.int .i64 p2)) gn ⟨x,v,p0,p1,p2,Y,U⟩from Ae.set A.o 4 (.int .i64 p2))
 have G:=zz (G.o.other (p:=⟨gn,4,none⟩) (by show _≠gn;omega) (.int .i64 p2))
 have Z:=zz (Ae.other Z.o (p:=⟨gn,4,none⟩) (by show _≠gn;omega) (.int .i64 p2))
 have B:=zz (Ae.other B.o (p:=⟨gn,4,none⟩) (by show _≠gn;omega) (.int .i64 p2))
 have E:=zz (E.o.setCell (p:=⟨gn,4,none⟩) (by show _<=gn;omega) (.int .i64 p2))
 replace hsz:w.heap.size+3<=(R.setCell ⟨gn,4,none⟩ (.int .i64 p2)).heap.size:=by simpa using hsz
 have A:=HP;clear HP
 generalize(R.setCell ⟨gn,4,none⟩ (.int .i64 p2))=R at*
 (try clear J M L H I C D)
 (try clear kh)
 obtain⟨J,M,L,H,I,C,D⟩:=Ai Z.o
 go_upto_region 15 with fail
 obtain⟨f0,f1,f2,f3,f4,f5,f6⟩:=Cs A.o;obtain⟨j0,j1,j2,j3,j4,j5,j6⟩:=Ai A.o
 go_upto_region 16 with fail
 clear f0 f1 f2 f3 f4 f5 f6 j0 j1 j2 j3 j4 j5 j6
 have HP:=zz (show ED (R.setCell ⟨gn,6,none⟩ (.int .i64 0)) gn ⟨x,v,p0,p1,p2,Y,0⟩from Ae.set A.o 6 (.int .i64 0))
 have G:=zz (G.o.other (p:=⟨gn,6,none⟩) (by show _≠gn;omega) (.int .i64 0))
 have Z:=zz (Ae.other Z.o (p:=⟨gn,6,none⟩) (by show _≠gn;omega) (.int .i64 0))
 have B:=zz (Ae.other B.o (p:=⟨gn,6,none⟩) (by show _≠gn;omega) (.int .i64 0))
 have E:=zz (E.o.setCell (p:=⟨gn,6,none⟩) (by show _<=gn;omega) (.int .i64 0))
 replace hsz:w.heap.size+3<=(R.setCell ⟨gn,6,none⟩ (.int .i64 0)).heap.size:=by simpa using hsz
 have A:=HP;clear HP
 generalize(R.setCell ⟨gn,6,none⟩ (.int .i64 0))=R at*
 (try clear J M L H I C D)
 (try clear kh)
 obtain⟨J,M,L,H,I,C,D⟩:=Ai Z.o;obtain⟨f0,f1,f2,f3,f4,f5,f6⟩:=Cs A.o;obtain⟨j0,j1,j2,j3,j4,j5,j6⟩:=Ai A.o;have kb:=one_cell B.o
 go_upto_region 17 with fail
 clear f0 f1 f2 f3 f4 f5 f6 j0 j1 j2 j3 j4 j5 j6 kb
 have HP:=zz (show ED (R.setCell ⟨gn,5,none⟩ (.bool ((((((((((((((((Y||yb)||l)||i)||k)||f)||d)||c)||xb)||b)||vb)||n)||qQ)||j)||g)||m)||q))) gn ⟨x,v,p0,p1,p2,((((((((((((((((Y||yb)||l)||i)||k)||f)||d)||c)||xb)||b)||vb)||n)||qQ)||j)||g)||m)||q),0⟩from Ae.set A.o 5 (.bool ((((((((((((((((Y||yb)||l)||i)||k)||f)||d)||c)||xb)||b)||vb)||n)||qQ)||j)||g)||m)||q)))
 have G:=zz (G.o.other (p:=⟨gn,5,none⟩) (by show _≠gn;omega) (.bool ((((((((((((((((Y||yb)||l)||i)||k)||f)||d)||c)||xb)||b)||vb)||n)||qQ)||j)||g)||m)||q)))
 have Z:=zz (Ae.other Z.o (p:=⟨gn,5,none⟩) (by show _≠gn;omega) (.bool ((((((((((((((((Y||yb)||l)||i)||k)||f)||d)||c)||xb)||b)||vb)||n)||qQ)||j)||g)||m)||q)))
 have B:=zz (Ae.other B.o (p:=⟨gn,5,none⟩) (by show _≠gn;omega) (.bool ((((((((((((((((Y||yb)||l)||i)||k)||f)||d)||c)||xb)||b)||vb)||n)||qQ)||j)||g)||m)||q)))
 have E:=zz (E.o.setCell (p:=⟨gn,5,none⟩) (by show _<=gn;omega) (.bool ((((((((((((((((Y||yb)||l)||i)||k)||f)||d)||c)||xb)||b)||vb)||n)||qQ)||j)||g)||m)||q)))
 replace hsz:w.heap.size+3<=(R.setCell ⟨gn,5,none⟩ (.bool ((((((((((((((((Y||yb)||l)||i)||k)||f)||d)||c)||xb)||b)||vb)||n)||qQ)||j)||g)||m)||q))).heap.size:=by simpa using hsz
 have A:=HP;clear HP
 generalize(R.setCell ⟨gn,5,none⟩ (.bool ((((((((((((((((Y||yb)||l)||i)||k)||f)||d)||c)||xb)||b)||vb)||n)||qQ)||j)||g)||m)||q)))=R at*
 (try clear J M L H I C D)
 (try clear kh)
 obtain⟨J,M,L,H,I,C,D⟩:=Ai Z.o
 have HG:=zz (show Ae R gn 25 #[.int .i64 x,.int .i64 v,.int .i64 p0,.int .i64 p1,.int .i64 p2,.bool ((((((((((((((((Y||yb)||l)||i)||k)||f)||d)||c)||xb)||b)||vb)||n)||qQ)||j)||g)||m)||q),.int .i64 0]from A.o)
 clear J M L H I C D
 have HF:=zz (show update ⟨X,V,N,O,F,Y,U⟩ z r qR=(⟨x,v,p0,p1,p2,((((((((((((((((Y||yb)||l)||i)||k)||f)||d)||c)||xb)||b)||vb)||n)||qQ)||j)||g)||m)||q),0⟩,true)by simp only[update,Y_.o,ru.o,rC.o,rq.o,sD.o,rW.o,rJ.o,X_.o,rP.o,V_.o,su.o,r9.o,rQ.o,rT.o,rV.o,rH.o];rw[Aj Aa])
 go_wp2_with(first|(refine Ad rfl 25 _ rfl gn rfl HG.o _ underlying25 rfl Ap ?_)|(refine wpList_store_row rfl 25 _ _ rfl gr #[.int .i64 x,.int .i64 v,.int .i64 p0,.int .i64 p1,.int .i64 p2,.bool ((((((((((((((((Y||yb)||l)||i)||k)||f)||d)||c)||xb)||b)||vb)||n)||qQ)||j)||g)||m)||q),.int .i64 0] rfl rfl 25 _ G.o Ap rfl GR ?_))
 refine Ci (x:=.bool true) rfl rfl rfl (G.o.setRow #[.int .i64 x,.int .i64 v,.int .i64 p0,.int .i64 p1,.int .i64 p2,.bool ((((((((((((((((Y||yb)||l)||i)||k)||f)||d)||c)||xb)||b)||vb)||n)||qQ)||j)||g)||m)||q),.int .i64 0]) ⟨by rw[underlying25],Ap⟩ rfl ?_;rw[HF.o];exact⟨rfl,below_setRow E.o Aa _⟩
end BigW
end Go.Proofs.YtjobajeggllmiaaGreat
