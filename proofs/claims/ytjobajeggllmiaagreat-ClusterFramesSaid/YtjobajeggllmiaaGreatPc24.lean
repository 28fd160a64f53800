import Derived.Test.YtjobajeggllmiaaGreatPc0
import Derived.Test.YtjobajeggllmiaaGreatPc23
set_option linter.all false
set_option maxHeartbeats 100000000
set_option maxRecDepth 100000
namespace Go.Proofs.YtjobajeggllmiaaGreat
open Rg _root_.Go.Proofs.Tryz
namespace BigW
open Go.RowKit Mem BigLaw Rws
def XE(s:St)(z r n:Int)(w:World)(hs:Mi s)(sJ:In64 z)(sI:In64 r)(qY:In64 n):
  Calls prog 70 #[SI s,.int .i64 z,.int .i64 r,.int .i64 n] w fun e w'=>Ps w w' (update s z r n) e:=by
 obtain⟨X,V,u,B,t,G,A⟩:=s;obtain⟨rH,r9,m,l,rE⟩:=hs
 simp only at rH r9 m l rE
 unfold SI ME
 obtain⟨J,qR⟩:=AJ ((((w.alloc (.cells (AZ X V u B t G A) 25)).alloc (.cells VD 25)).alloc (.cells (AZ X V u B t G A) 25)).alloc (.cells #[.pointer (some ⟨w.heap.size,0,none⟩)] 151))
 have F:=zz (show Below w.heap.size w J from by rw[←qR];exact(((DC).alloc Bq _).alloc Ec _).alloc Ec _)
 have Z:=zz (show ED J w.heap.size ⟨X,V,u,B,t,G,A⟩from by rw[←qR];exact(((Ae.new rfl).alloc _).alloc _).alloc _)
 have H:=zz (show Ae J (w.heap.size+1) 25 VD from by rw[←qR];exact((Ae.new Bq).alloc _).alloc _)
 have E:=zz (show ED J (w.heap.size+1+1) ⟨X,V,u,B,t,G,A⟩from by rw[←qR];exact(Ae.new Bq).alloc _)
 have U:=zz (show Ae J (w.heap.size+1+1+1) 151 #[.pointer (some ⟨w.heap.size,0,none⟩)]from by rw[←qR];exact Ae.new Bq)
 have hsz:w.heap.size+4<=J.heap.size:=by rw[←qR];simp
 have rZ:=zz qR;clear qR;obtain⟨y,yb,Y_,ru⟩:=Iu Eh z X;obtain⟨wd,k,rF,qX⟩:=Iu BZ u r;obtain⟨yy,i,rD,sN⟩:=Iu Ce y y;obtain⟨gq,j,rC,sQ⟩:=Iu Ce n wd;obtain⟨kq,g,sG,rA⟩:=Iu Kw u wd;obtain⟨lq,f,rX,rG⟩:=Iu Kw B wd;obtain⟨m1,d,rO,rT⟩:=Iu Ce kq y;obtain⟨x,xb,X_,sZ⟩:=Iu BZ X m1;obtain⟨m2,c,rQ,rJ⟩:=Iu Ce lq y;obtain⟨v,vb,V_,sU⟩:=Iu BZ V m2;obtain⟨m3,qQ,sw,sD⟩:=Iu Ce kq u;obtain⟨b,qU,su,sP⟩:=Iu Eh u m3;obtain⟨m4,qV,rR,rY⟩:=Iu Ce kq B;obtain⟨p1,qW,rU,sS⟩:=Iu Eh B m4;obtain⟨m5,rq,rW,rV⟩:=Iu Ce lq B;obtain⟨p2,qZ,rM,sO⟩:=Iu Eh t m5;obtain⟨mw,rP⟩:=AJ (IntKind.i64.wrap (A+1))
 go_in
 go_upto_region 3 with fail
 rw[rZ.o];clear rZ;obtain⟨gh,sH⟩:=AJ (w.heap.size+1+1+1);rw[sH]at U ⊢;obtain⟨gw,sM⟩:=AJ (w.heap.size+1+1);rw[sM]at E ⊢;obtain⟨gr,sK⟩:=AJ (w.heap.size+1);rw[sK]at H ⊢
 (try clear N R O L M C D)
 (try clear T)
 obtain⟨N,R,O,L,M,C,D⟩:=Ai Z.o;have T:=one_cell U.o;go_wp2_with fail;refine(NA w.heap.size _ z X _ Z.o sJ rH).mono ?_;intro e J q;rw[Y_.o]at q;obtain⟨rfl,Y,W⟩:=q;dsimp only at Y;have Z:=zz Y;have H:=Hg H W Aa;have U:=Hg U W Aa;have E:=Hg E W Aa;have F:=Hb F W Nr Aa;replace hsz:=Nat.le_trans hsz W.size;clear Y W
 (try clear N R O L M C D)
 (try clear T)
 obtain⟨N,R,O,L,M,C,D⟩:=Ai Z.o;have T:=one_cell U.o;go_wp2_with fail;refine(GA w.heap.size _ u r _ Z.o m sI).mono ?_;intro e J q;rw[rF.o]at q;obtain⟨rfl,Y,W⟩:=q;dsimp only at Y;have Z:=zz Y;have H:=Hg H W Aa;have U:=Hg U W Aa;have E:=Hg E W Aa;have F:=Hb F W Nr Aa;replace hsz:=Nat.le_trans hsz W.size;clear Y W
 (try clear N R O L M C D)
 (try clear T)
 obtain⟨N,R,O,L,M,C,D⟩:=Ai Z.o;have T:=one_cell U.o
 go_upto_region 5 with fail
 by_cases hA:wd<=0
 .have Z:=zz (Ae.drew Z.o);have H:=zz (H.o.drew);have U:=zz (U.o.drew);have E:=zz (E.o.drew);have F:=zz F.o.drew;have hsz:w.heap.size+4<=J.drew.heap.size:=hsz
  (try clear N R O L M C D)
  (try clear T)
  obtain⟨N,R,O,L,M,C,D⟩:=Ai Z.o;have T:=one_cell U.o;have I:=And.intro N (And.intro R (And.intro O (And.intro L (And.intro M T))));refine wp_region_noPanic ?_;refine A8 [] (fun w'=> w'.cell? ⟨w.heap.size,0,none⟩=some (.int .i64 X)/\ w'.cell? ⟨w.heap.size,1,none⟩=some (.int .i64 V)/\ w'.cell? ⟨w.heap.size,2,none⟩=some (.int .i64 u)/\ w'.cell? ⟨w.heap.size,3,none⟩=some (.int .i64 B)/\ w'.cell? ⟨w.heap.size,4,none⟩=some (.int .i64 t)/\ w'.cell? ⟨gh,0,none⟩=some (.pointer (some ⟨w.heap.size,0,none⟩))) Ap ?_
  generalize J.drew=J at*
  refine Ac 0 ?_;refine Ac 1 ?_;refine Ac 2 ?_;refine DN 3 ?_;refine DN 4 ?_;refine DN 5 ?_;refine DN 6 ?_;refine DN 7 ?_;refine DN 8 ?_;refine DN 9 ?_;refine DN 10 ?_;refine DN 11 ?_;refine Ac 12 ?_;refine Bg Ap ?_ _;refine NoPanic.normal ?_;clear I
  go_upto_region 6 with fail
  obtain⟨f0,f1,f2,f3,f4,f5,f6⟩:=Cs E.o;obtain⟨j0,j1,j2,j3,j4,j5,j6⟩:=Ai E.o
  go_upto_region 7 with fail
  have HG:=zz (show Ae (J.setCell ⟨gw,6,none⟩ (.int .i64 mw)) gw 25 (AZ X V u B t G mw)from Ae.set E.o 6 (.int .i64 mw))
  have H:=zz (H.o.other (p:=⟨gw,6,none⟩) (by show _≠gw;omega) (.int .i64 mw))
  have F:=zz (F.o.setCell (p:=⟨gw,6,none⟩) (by show _<=gw;omega) (.int .i64 mw))
  clear f0 f1 f2 f3 f4 f5 f6 j0 j1 j2 j3 j4 j5 j6 N R O L M C D
  (try clear T)
  generalize(J.setCell ⟨gw,6,none⟩ (.int .i64 mw))=J at*
  have HF:=zz (show update ⟨X,V,u,B,t,G,A⟩ z r n=(⟨X,V,u,B,t,G,mw⟩,false)by simp only[update,Y_.o,rF.o,rD.o,rC.o];rw[Ao (Or.inl hA),rP])
  go_wp2_with(first|(refine Ad rfl 25 _ rfl gw rfl HG.o _ underlying25 rfl Ap ?_)|(refine wpList_store_row rfl 25 _ _ rfl gr (AZ X V u B t G mw) rfl rfl 25 _ H.o Ap rfl GR ?_))
  refine Ci (x:=.bool false) rfl rfl rfl (H.o.setRow (AZ X V u B t G mw)) ⟨by rw[underlying25],Ap⟩ rfl ?_;rw[HF.o];exact⟨rfl,below_setRow F.o Aa _⟩
 have tu:0<wd:=Aa
 by_cases hC:gq<yy
 .have Z:=zz (Ae.drew Z.o);have H:=zz (H.o.drew);have U:=zz (U.o.drew);have E:=zz (E.o.drew);have F:=zz F.o.drew;have hsz:w.heap.size+4<=J.drew.heap.size:=hsz
  (try clear N R O L M C D)
  (try clear T)
  obtain⟨N,R,O,L,M,C,D⟩:=Ai Z.o;have T:=one_cell U.o;have I:=And.intro N (And.intro R (And.intro O (And.intro L (And.intro M T))));refine wp_region_noPanic ?_;refine A8 [3,7] (fun w'=> w'.cell? ⟨w.heap.size,0,none⟩=some (.int .i64 X)/\ w'.cell? ⟨w.heap.size,1,none⟩=some (.int .i64 V)/\ w'.cell? ⟨w.heap.size,2,none⟩=some (.int .i64 u)/\ w'.cell? ⟨w.heap.size,3,none⟩=some (.int .i64 B)/\ w'.cell? ⟨w.heap.size,4,none⟩=some (.int .i64 t)/\ w'.cell? ⟨gh,0,none⟩=some (.pointer (some ⟨w.heap.size,0,none⟩))) Ap ?_
  generalize J.drew=J at*
  refine Ac 0 ?_;refine Ac 1 ?_;refine Ac 2 ?_;refine Bc 3 I ?_;refine Ac 4 ?_;refine Ac 5 ?_;refine Bc 7 I ?_;refine Ac 8 ?_;refine Ac 9 ?_;refine Aw 6 ?_;refine Bt ?_;intro K hK;rw[Ao Bb];go_simp
  go_at_call 105
  refine(EM w.heap.size _ y y _ Z.o ru ru).mono ?_;intro e J q;rw[rD.o]at q;obtain⟨rfl,Y,W⟩:=q;dsimp only at Y;have Z:=zz Y;have H:=Hg H W Aa;have U:=Hg U W Aa;have E:=Hg E W Aa;have F:=Hb F W Nr Aa;replace hsz:=Nat.le_trans hsz W.size;clear Y W
  (try clear N R O L M C D)
  (try clear T)
  obtain⟨N,R,O,L,M,C,D⟩:=Ai Z.o;have T:=one_cell U.o;clear I;have I:=And.intro N (And.intro R (And.intro O (And.intro L (And.intro M T))));go_wp2_with fail;refine hK.o _ _ I ?_;refine Aw 10 ?_;refine AX ?_ ?_
  . kernel_rfl
  intro K hK;rw[Ao Bb];go_simp
  go_at_call 105
  refine(EM w.heap.size _ n wd _ Z.o qY qX).mono ?_;intro e J q;rw[rC.o]at q;obtain⟨rfl,Y,W⟩:=q;dsimp only at Y;have Z:=zz Y;have H:=Hg H W Aa;have U:=Hg U W Aa;have E:=Hg E W Aa;have F:=Hb F W Nr Aa;replace hsz:=Nat.le_trans hsz W.size;clear Y W
  (try clear N R O L M C D)
  (try clear T)
  obtain⟨N,R,O,L,M,C,D⟩:=Ai Z.o;have T:=one_cell U.o;clear I;have I:=And.intro N (And.intro R (And.intro O (And.intro L (And.intro M T))));go_wp2_with fail;refine hK.o _ _ ?_;refine Ac 11 ?_;refine Ac 12 ?_;refine Bg Ap ?_ _;refine NoPanic.normal ?_;clear I
  go_upto_region 6 with fail
  obtain⟨f0,f1,f2,f3,f4,f5,f6⟩:=Cs E.o;obtain⟨j0,j1,j2,j3,j4,j5,j6⟩:=Ai E.o
  go_upto_region 7 with fail
  have HG:=zz (show Ae (J.setCell ⟨gw,6,none⟩ (.int .i64 mw)) gw 25 (AZ X V u B t G mw)from Ae.set E.o 6 (.int .i64 mw))
  have H:=zz (H.o.other (p:=⟨gw,6,none⟩) (by show _≠gw;omega) (.int .i64 mw))
  have F:=zz (F.o.setCell (p:=⟨gw,6,none⟩) (by show _<=gw;omega) (.int .i64 mw))
  clear f0 f1 f2 f3 f4 f5 f6 j0 j1 j2 j3 j4 j5 j6 N R O L M C D
  (try clear T)
  generalize(J.setCell ⟨gw,6,none⟩ (.int .i64 mw))=J at*
  have HF:=zz (show update ⟨X,V,u,B,t,G,A⟩ z r n=(⟨X,V,u,B,t,G,mw⟩,false)by simp only[update,Y_.o,rF.o,rD.o,rC.o];rw[Ao (Or.inr hC),rP])
  go_wp2_with(first|(refine Ad rfl 25 _ rfl gw rfl HG.o _ underlying25 rfl Ap ?_)|(refine wpList_store_row rfl 25 _ _ rfl gr (AZ X V u B t G mw) rfl rfl 25 _ H.o Ap rfl GR ?_))
  refine Ci (x:=.bool false) rfl rfl rfl (H.o.setRow (AZ X V u B t G mw)) ⟨by rw[underlying25],Ap⟩ rfl ?_;rw[HF.o];exact⟨rfl,below_setRow F.o Aa _⟩
 have sW:yy<=gq:=Aa;have Z:=zz (Ae.drew Z.o);have H:=zz (H.o.drew);have U:=zz (U.o.drew);have E:=zz (E.o.drew);have F:=zz F.o.drew;have hsz:w.heap.size+4<=J.drew.heap.size:=hsz
 (try clear N R O L M C D)
 (try clear T)
 obtain⟨N,R,O,L,M,C,D⟩:=Ai Z.o;have T:=one_cell U.o;have I:=And.intro N (And.intro R (And.intro O (And.intro L (And.intro M T))));refine wp_region_noPanic ?_;refine A8 [3,7] (fun w'=> w'.cell? ⟨w.heap.size,0,none⟩=some (.int .i64 X)/\ w'.cell? ⟨w.heap.size,1,none⟩=some (.int .i64 V)/\ w'.cell? ⟨w.heap.size,2,none⟩=some (.int .i64 u)/\ w'.cell? ⟨w.heap.size,3,none⟩=some (.int .i64 B)/\ w'.cell? ⟨w.heap.size,4,none⟩=some (.int .i64 t)/\ w'.cell? ⟨gh,0,none⟩=some (.pointer (some ⟨w.heap.size,0,none⟩))) Ap ?_
 generalize J.drew=J at*
 refine Ac 0 ?_;refine Ac 1 ?_;refine Ac 2 ?_;refine Bc 3 I ?_;refine Ac 4 ?_;refine Ac 5 ?_;refine Bc 7 I ?_;refine Ac 8 ?_;refine Ac 9 ?_;refine Aw 6 ?_;refine Bt ?_;intro K hK;rw[Ao Bb];go_simp
 go_at_call 105
 refine(EM w.heap.size _ y y _ Z.o ru ru).mono ?_;intro e J q;rw[rD.o]at q;obtain⟨rfl,Y,W⟩:=q;dsimp only at Y;have Z:=zz Y;have H:=Hg H W Aa;have U:=Hg U W Aa;have E:=Hg E W Aa;have F:=Hb F W Nr Aa;replace hsz:=Nat.le_trans hsz W.size;clear Y W
 (try clear N R O L M C D)
 (try clear T)
 obtain⟨N,R,O,L,M,C,D⟩:=Ai Z.o;have T:=one_cell U.o;clear I;have I:=And.intro N (And.intro R (And.intro O (And.intro L (And.intro M T))));go_wp2_with fail;refine hK.o _ _ I ?_;refine Aw 10 ?_;refine AX ?_ ?_
 . kernel_rfl
 intro K hK;rw[Ao Bb];go_simp
 go_at_call 105
 refine(EM w.heap.size _ n wd _ Z.o qY qX).mono ?_;intro e J q;rw[rC.o]at q;obtain⟨rfl,Y,W⟩:=q;dsimp only at Y;have Z:=zz Y;have H:=Hg H W Aa;have U:=Hg U W Aa;have E:=Hg E W Aa;have F:=Hb F W Nr Aa;replace hsz:=Nat.le_trans hsz W.size;clear Y W
 (try clear N R O L M C D)
 (try clear T)
 obtain⟨N,R,O,L,M,C,D⟩:=Ai Z.o;have T:=one_cell U.o;clear I;have I:=And.intro N (And.intro R (And.intro O (And.intro L (And.intro M T))));go_wp2_with fail;refine hK.o _ _ ?_;refine Ac 11 ?_;refine Ac 12 ?_;refine Bg Ap ?_ _;refine NoPanic.normal ?_;clear I
 go_upto_region 8 with fail
 have Z:=zz (Ae.drew Z.o);have H:=zz (H.o.drew);have U:=zz (U.o.drew);have E:=zz (E.o.drew);have F:=zz F.o.drew;have hsz:w.heap.size+4<=J.drew.heap.size:=hsz
 (try clear N R O L M C D)
 (try clear T)
 obtain⟨N,R,O,L,M,C,D⟩:=Ai Z.o;have T:=one_cell U.o;have I:=And.intro N (And.intro R (And.intro O (And.intro L (And.intro M T))));refine wp_region_noPanic ?_;refine A8 [0,2,5,7] (fun w'=> w'.cell? ⟨w.heap.size,0,none⟩=some (.int .i64 X)/\ w'.cell? ⟨w.heap.size,1,none⟩=some (.int .i64 V)/\ w'.cell? ⟨w.heap.size,2,none⟩=some (.int .i64 u)/\ w'.cell? ⟨w.heap.size,3,none⟩=some (.int .i64 B)/\ w'.cell? ⟨w.heap.size,4,none⟩=some (.int .i64 t)/\ w'.cell? ⟨gh,0,none⟩=some (.pointer (some ⟨w.heap.size,0,none⟩))) Ap ?_
 generalize J.drew=J at*
 refine Bc 0 I ?_;refine Ac 1 ?_;refine Bc 2 I ?_;refine Ac 3 ?_;refine Bc 5 I ?_;refine Ac 6 ?_;refine Bc 7 I ?_;refine Ac 8 ?_;refine Aw 4 ?_;refine Bt ?_;intro K hK;rw[Ao Bb];go_simp
 go_at_call 106
 refine(Vq w.heap.size _ u wd _ Z.o m qX).mono ?_;intro e J q;rw[sG.o]at q;obtain⟨rfl,Y,W⟩:=q;dsimp only at Y;have Z:=zz Y;have H:=Hg H W Aa;have U:=Hg U W Aa;have E:=Hg E W Aa;have F:=Hb F W Nr Aa;replace hsz:=Nat.le_trans hsz W.size;clear Y W
 (try clear N R O L M C D)
 (try clear T)
 obtain⟨N,R,O,L,M,C,D⟩:=Ai Z.o;have T:=one_cell U.o;clear I;have I:=And.intro N (And.intro R (And.intro O (And.intro L (And.intro M T))));go_wp2_with fail;refine hK.o _ _ I ?_;refine Aw 9 ?_;refine AX ?_ ?_
 . kernel_rfl
 intro K hK;rw[Ao Bb];go_simp
 go_at_call 106
 refine(Vq w.heap.size _ B wd _ Z.o l qX).mono ?_;intro e J q;rw[rX.o]at q;obtain⟨rfl,Y,W⟩:=q;dsimp only at Y;have Z:=zz Y;have H:=Hg H W Aa;have U:=Hg U W Aa;have E:=Hg E W Aa;have F:=Hb F W Nr Aa;replace hsz:=Nat.le_trans hsz W.size;clear Y W
 (try clear N R O L M C D)
 (try clear T)
 obtain⟨N,R,O,L,M,C,D⟩:=Ai Z.o;have T:=one_cell U.o;clear I;have I:=And.intro N (And.intro R (And.intro O (And.intro L (And.intro M T))));go_wp2_with fail;refine hK.o _ _ ?_;refine Ac 10 ?_;refine Ac 11 ?_;refine Bg Ap ?_ _;refine NoPanic.normal ?_;clear I
 go_upto_region 9 with fail
 have Z:=zz (Ae.drew Z.o);have H:=zz (H.o.drew);have U:=zz (U.o.drew);have E:=zz (E.o.drew);have F:=zz F.o.drew;have hsz:w.heap.size+4<=J.drew.heap.size:=hsz
 (try clear N R O L M C D)
 (try clear T)
 obtain⟨N,R,O,L,M,C,D⟩:=Ai Z.o;have T:=one_cell U.o;have I:=And.intro N (And.intro R (And.intro O (And.intro L (And.intro M T))));refine wp_region_noPanic ?_;refine A8 [0,2,3] (fun w'=> w'.cell? ⟨w.heap.size,0,none⟩=some (.int .i64 X)/\ w'.cell? ⟨w.heap.size,1,none⟩=some (.int .i64 V)/\ w'.cell? ⟨w.heap.size,2,none⟩=some (.int .i64 u)/\ w'.cell? ⟨w.heap.size,3,none⟩=some (.int .i64 B)/\ w'.cell? ⟨w.heap.size,4,none⟩=some (.int .i64 t)/\ w'.cell? ⟨gh,0,none⟩=some (.pointer (some ⟨w.heap.size,0,none⟩))) Ap ?_
 generalize J.drew=J at*
 refine Bc 0 I ?_;refine Ac 1 ?_;refine Bc 2 I ?_;refine Bc 3 I ?_;refine Ac 4 ?_;refine Ac 5 ?_;refine Aw 6 ?_;refine Bt ?_;intro K hK;rw[Ao Bb];go_simp
 go_at_call 105
 refine(EM w.heap.size _ kq y _ Z.o rA ru).mono ?_;intro e J q;rw[rO.o]at q;obtain⟨rfl,Y,W⟩:=q;dsimp only at Y;have Z:=zz Y;have H:=Hg H W Aa;have U:=Hg U W Aa;have E:=Hg E W Aa;have F:=Hb F W Nr Aa;replace hsz:=Nat.le_trans hsz W.size;clear Y W
 (try clear N R O L M C D)
 (try clear T)
 obtain⟨N,R,O,L,M,C,D⟩:=Ai Z.o;have T:=one_cell U.o;clear I;have I:=And.intro N (And.intro R (And.intro O (And.intro L (And.intro M T))));go_wp2_with fail;refine hK.o _ _ I ?_;refine Aw 7 ?_;refine AX ?_ ?_
 . kernel_rfl
 intro K hK;rw[Ao Bb];go_simp
 go_at_call 104
 refine(GA w.heap.size _ X m1 _ Z.o rH rT).mono ?_;intro e J q;rw[X_.o]at q;obtain⟨rfl,Y,W⟩:=q;dsimp only at Y;have Z:=zz Y;have H:=Hg H W Aa;have U:=Hg U W Aa;have E:=Hg E W Aa;have F:=Hb F W Nr Aa;replace hsz:=Nat.le_trans hsz W.size;clear Y W
 (try clear N R O L M C D)
 (try clear T)
 obtain⟨N,R,O,L,M,C,D⟩:=Ai Z.o;have T:=one_cell U.o;clear I;have I:=And.intro N (And.intro R (And.intro O (And.intro L (And.intro M T))));obtain⟨f0,f1,f2,f3,f4,f5,f6⟩:=Cs Z.o;go_wp2_with fail;refine hK.o _ _ ?_;refine Ac 8 ?_;refine Aw 9 ?_;refine AX ?_ ?_
 . kernel_rfl
 intro K hK;go_simp;refine hK.o _ _ ?_;(try simp only[Rg.lp]);refine Bg Ap ?_ _;refine NoPanic.normal ?_;clear I;clear f0 f1 f2 f3 f4 f5 f6
 have HP:=zz (show ED (J.setCell ⟨w.heap.size,0,none⟩ (.int .i64 x)) w.heap.size ⟨x,V,u,B,t,((((((((G||yb)||k)||i)||j)||g)||f)||d)||xb),A⟩from Ae.set Z.o 0 (.int .i64 x))
 have H:=zz (H.o.other (p:=⟨w.heap.size,0,none⟩) (by show _≠w.heap.size;omega) (.int .i64 x))
 have U:=zz (U.o.other (p:=⟨w.heap.size,0,none⟩) (by show _≠w.heap.size;omega) (.int .i64 x))
 have E:=zz (E.o.other (p:=⟨w.heap.size,0,none⟩) (by show _≠w.heap.size;omega) (.int .i64 x))
 have F:=zz (F.o.setCell (p:=⟨w.heap.size,0,none⟩) (by show _<=w.heap.size;omega) (.int .i64 x))
 replace hsz:w.heap.size+4<=(J.setCell ⟨w.heap.size,0,none⟩ (.int .i64 x)).heap.size:=by simpa using hsz
 have Z:=HP;clear HP
 generalize(J.setCell ⟨w.heap.size,0,none⟩ (.int .i64 x))=J at*
 (try clear N R O L M C D)
 (try clear T)
 obtain⟨N,R,O,L,M,C,D⟩:=Ai Z.o;have T:=one_cell U.o
 go_upto_region 10 with fail
 have Z:=zz (Ae.drew Z.o);have H:=zz (H.o.drew);have U:=zz (U.o.drew);have E:=zz (E.o.drew);have F:=zz F.o.drew;have hsz:w.heap.size+4<=J.drew.heap.size:=hsz
 (try clear N R O L M C D)
 (try clear T)
 obtain⟨N,R,O,L,M,C,D⟩:=Ai Z.o;have T:=one_cell U.o;have I:=And.intro N (And.intro R (And.intro O (And.intro L (And.intro M T))));refine wp_region_noPanic ?_;refine A8 [0,2,3] (fun w'=> w'.cell? ⟨w.heap.size,0,none⟩=some (.int .i64 x)/\ w'.cell? ⟨w.heap.size,1,none⟩=some (.int .i64 V)/\ w'.cell? ⟨w.heap.size,2,none⟩=some (.int .i64 u)/\ w'.cell? ⟨w.heap.size,3,none⟩=some (.int .i64 B)/\ w'.cell? ⟨w.heap.size,4,none⟩=some (.int .i64 t)/\ w'.cell? ⟨gh,0,none⟩=some (.pointer (some ⟨w.heap.size,0,none⟩))) Ap ?_
 generalize J.drew=J at*
 refine Bc 0 I ?_;refine Ac 1 ?_;refine Bc 2 I ?_;refine Bc 3 I ?_;refine Ac 4 ?_;refine Ac 5 ?_;refine Aw 6 ?_;refine Bt ?_;intro K hK;rw[Ao Bb];go_simp
 go_at_call 105
 refine(EM w.heap.size _ lq y _ Z.o rG ru).mono ?_;intro e J q;rw[rQ.o]at q;obtain⟨rfl,Y,W⟩:=q;dsimp only at Y;have Z:=zz Y;have H:=Hg H W Aa;have U:=Hg U W Aa;have E:=Hg E W Aa;have F:=Hb F W Nr Aa;replace hsz:=Nat.le_trans hsz W.size;clear Y W
 (try clear N R O L M C D)
 (try clear T)
 obtain⟨N,R,O,L,M,C,D⟩:=Ai Z.o;have T:=one_cell U.o;clear I;have I:=And.intro N (And.intro R (And.intro O (And.intro L (And.intro M T))));go_wp2_with fail;refine hK.o _ _ I ?_;refine Aw 7 ?_;refine AX ?_ ?_
 . kernel_rfl
 intro K hK;rw[Ao Bb];go_simp
 go_at_call 104
 refine(GA w.heap.size _ V m2 _ Z.o r9 rJ).mono ?_;intro e J q;rw[V_.o]at q;obtain⟨rfl,Y,W⟩:=q;dsimp only at Y;have Z:=zz Y;have H:=Hg H W Aa;have U:=Hg U W Aa;have E:=Hg E W Aa;have F:=Hb F W Nr Aa;replace hsz:=Nat.le_trans hsz W.size;clear Y W
 (try clear N R O L M C D)
 (try clear T)
 obtain⟨N,R,O,L,M,C,D⟩:=Ai Z.o;have T:=one_cell U.o;clear I;have I:=And.intro N (And.intro R (And.intro O (And.intro L (And.intro M T))));obtain⟨f0,f1,f2,f3,f4,f5,f6⟩:=Cs Z.o;go_wp2_with fail;refine hK.o _ _ ?_;refine Ac 8 ?_;refine Aw 9 ?_;refine AX ?_ ?_
 . kernel_rfl
 intro K hK;go_simp;refine hK.o _ _ ?_;(try simp only[Rg.lp]);refine Bg Ap ?_ _;refine NoPanic.normal ?_;clear I;clear f0 f1 f2 f3 f4 f5 f6
 have HP:=zz (show ED (J.setCell ⟨w.heap.size,1,none⟩ (.int .i64 v)) w.heap.size ⟨x,v,u,B,t,((((((((((G||yb)||k)||i)||j)||g)||f)||d)||xb)||c)||vb),A⟩from Ae.set Z.o 1 (.int .i64 v))
 have H:=zz (H.o.other (p:=⟨w.heap.size,1,none⟩) (by show _≠w.heap.size;omega) (.int .i64 v))
 have U:=zz (U.o.other (p:=⟨w.heap.size,1,none⟩) (by show _≠w.heap.size;omega) (.int .i64 v))
 have E:=zz (E.o.other (p:=⟨w.heap.size,1,none⟩) (by show _≠w.heap.size;omega) (.int .i64 v))
 have F:=zz (F.o.setCell (p:=⟨w.heap.size,1,none⟩) (by show _<=w.heap.size;omega) (.int .i64 v))
 replace hsz:w.heap.size+4<=(J.setCell ⟨w.heap.size,1,none⟩ (.int .i64 v)).heap.size:=by simpa using hsz
 have Z:=HP;clear HP
 generalize(J.setCell ⟨w.heap.size,1,none⟩ (.int .i64 v))=J at*
 (try clear N R O L M C D)
 (try clear T)
 obtain⟨N,R,O,L,M,C,D⟩:=Ai Z.o;have T:=one_cell U.o
 go_upto_region 11 with fail
 have Z:=zz (Ae.drew Z.o);have H:=zz (H.o.drew);have U:=zz (U.o.drew);have E:=zz (E.o.drew);have F:=zz F.o.drew;have hsz:w.heap.size+4<=J.drew.heap.size:=hsz
 (try clear N R O L M C D)
 (try clear T)
 obtain⟨N,R,O,L,M,C,D⟩:=Ai Z.o;have T:=one_cell U.o;have I:=And.intro N (And.intro R (And.intro O (And.intro L (And.intro M T))));refine wp_region_noPanic ?_;refine A8 [1,3] (fun w'=> w'.cell? ⟨w.heap.size,0,none⟩=some (.int .i64 x)/\ w'.cell? ⟨w.heap.size,1,none⟩=some (.int .i64 v)/\ w'.cell? ⟨w.heap.size,2,none⟩=some (.int .i64 u)/\ w'.cell? ⟨w.heap.size,3,none⟩=some (.int .i64 B)/\ w'.cell? ⟨w.heap.size,4,none⟩=some (.int .i64 t)/\ w'.cell? ⟨gh,0,none⟩=some (.pointer (some ⟨w.heap.size,0,none⟩))) Ap ?_
 generalize J.drew=J at*
 refine Ac 0 ?_;refine Bc 1 I ?_;refine Ac 2 ?_;refine Bc 3 I ?_;refine Ac 4 ?_;refine Ac 5 ?_;refine Bg Ap ?_ _;refine NoPanic.normal ?_;clear I
 go_upto_region 12 with fail
 have Z:=zz (Ae.drew Z.o);have H:=zz (H.o.drew);have U:=zz (U.o.drew);have E:=zz (E.o.drew);have F:=zz F.o.drew;have hsz:w.heap.size+4<=J.drew.heap.size:=hsz
 (try clear N R O L M C D)
 (try clear T)
 obtain⟨N,R,O,L,M,C,D⟩:=Ai Z.o;have T:=one_cell U.o;have I:=And.intro N (And.intro R (And.intro O (And.intro L (And.intro M T))));refine wp_region_noPanic ?_;refine A8 [0,2,3] (fun w'=> w'.cell? ⟨w.heap.size,0,none⟩=some (.int .i64 x)/\ w'.cell? ⟨w.heap.size,1,none⟩=some (.int .i64 v)/\ w'.cell? ⟨w.heap.size,2,none⟩=some (.int .i64 u)/\ w'.cell? ⟨w.heap.size,3,none⟩=some (.int .i64 B)/\ w'.cell? ⟨w.heap.size,4,none⟩=some (.int .i64 t)/\ w'.cell? ⟨gh,0,none⟩=some (.pointer (some ⟨w.heap.size,0,none⟩))) Ap ?_
 generalize J.drew=J at*
 refine Bc 0 I ?_;refine Ac 1 ?_;refine Bc 2 I ?_;refine Bc 3 I ?_;refine Ac 4 ?_;refine Ac 5 ?_;refine Aw 6 ?_;refine Bt ?_;intro K hK;rw[Ao Bb];go_simp
 go_at_call 105
 refine(EM w.heap.size _ kq u _ Z.o rA m).mono ?_;intro e J q;rw[sw.o]at q;obtain⟨rfl,Y,W⟩:=q;dsimp only at Y;have Z:=zz Y;have H:=Hg H W Aa;have U:=Hg U W Aa;have E:=Hg E W Aa;have F:=Hb F W Nr Aa;replace hsz:=Nat.le_trans hsz W.size;clear Y W
 (try clear N R O L M C D)
 (try clear T)
 obtain⟨N,R,O,L,M,C,D⟩:=Ai Z.o;have T:=one_cell U.o;clear I;have I:=And.intro N (And.intro R (And.intro O (And.intro L (And.intro M T))));go_wp2_with fail;refine hK.o _ _ I ?_;refine Aw 7 ?_;refine AX ?_ ?_
 . kernel_rfl
 intro K hK;rw[Ao Bb];go_simp
 go_at_call 103
 refine(NA w.heap.size _ u m3 _ Z.o m sD).mono ?_;intro e J q;rw[su.o]at q;obtain⟨rfl,Y,W⟩:=q;dsimp only at Y;have Z:=zz Y;have H:=Hg H W Aa;have U:=Hg U W Aa;have E:=Hg E W Aa;have F:=Hb F W Nr Aa;replace hsz:=Nat.le_trans hsz W.size;clear Y W
 (try clear N R O L M C D)
 (try clear T)
 obtain⟨N,R,O,L,M,C,D⟩:=Ai Z.o;have T:=one_cell U.o;clear I;have I:=And.intro N (And.intro R (And.intro O (And.intro L (And.intro M T))));obtain⟨f0,f1,f2,f3,f4,f5,f6⟩:=Cs Z.o;go_wp2_with fail;refine hK.o _ _ ?_;refine Ac 8 ?_;refine Aw 9 ?_;refine AX ?_ ?_
 . kernel_rfl
 intro K hK;go_simp;refine hK.o _ _ ?_;(try simp only[Rg.lp]);refine Bg Ap ?_ _;refine NoPanic.normal ?_;clear I;clear f0 f1 f2 f3 f4 f5 f6
 have HP:=zz (show ED (J.setCell ⟨w.heap.size,2,none⟩ (.int .i64 b)) w.heap.size ⟨x,v,b,B,t,((((((((((((G||yb)||k)||i)||j)||g)||f)||d)||xb)||c)||vb)||qQ)||qU),A⟩from Ae.set Z.o 2 (.int .i64 b))
 have H:=zz (H.o.other (p:=⟨w.heap.size,2,none⟩) (by show _≠w.heap.size;omega) (.int .i64 b))
 have U:=zz (U.o.other (p:=⟨w.heap.size,2,none⟩) (by show _≠w.heap.size;omega) (.int .i64 b))
 have E:=zz (E.o.other (p:=⟨w.heap.size,2,none⟩) (by show _≠w.heap.size;omega) (.int .i64 b))
 have F:=zz (F.o.setCell (p:=⟨w.heap.size,2,none⟩) (by show _<=w.heap.size;omega) (.int .i64 b))
 replace hsz:w.heap.size+4<=(J.setCell ⟨w.heap.size,2,none⟩ (.int .i64 b)).heap.size:=by simpa using hsz
 have Z:=HP;clear HP
 generalize(J.setCell ⟨w.heap.size,2,none⟩ (.int .i64 b))=J at*
 (try clear N R O L M C D)
 (try clear T)
 obtain⟨N,R,O,L,M,C,D⟩:=Ai Z.o;have T:=one_cell U.o
 go_upto_region 13 with fail
 have Z:=zz (Ae.drew Z.o);have H:=zz (H.o.drew);have U:=zz (U.o.drew);have E:=zz (E.o.drew);have F:=zz F.o.drew;have hsz:w.heap.size+4<=J.drew.heap.size:=hsz
 (try clear N R O L M C D)
 (try clear T)
 obtain⟨N,R,O,L,M,C,D⟩:=Ai Z.o;have T:=one_cell U.o;have I:=And.intro N (And.intro R (And.intro O (And.intro L (And.intro M T))));refine wp_region_noPanic ?_;refine A8 [0,2,3] (fun w'=> w'.cell? ⟨w.heap.size,0,none⟩=some (.int .i64 x)/\ w'.cell? ⟨w.heap.size,1,none⟩=some (.int .i64 v)/\ w'.cell? ⟨w.heap.size,2,none⟩=some (.int .i64 b)/\ w'.cell? ⟨w.heap.size,3,none⟩=some (.int .i64 B)/\ w'.cell? ⟨w.heap.size,4,none⟩=some (.int .i64 t)/\ w'.cell? ⟨gh,0,none⟩=some (.pointer (some ⟨w.heap.size,0,none⟩))) Ap ?_
 generalize J.drew=J at*
 refine Bc 0 I ?_;refine Ac 1 ?_;refine Bc 2 I ?_;refine Bc 3 I ?_;refine Ac 4 ?_;refine Ac 5 ?_;refine Aw 6 ?_;refine Bt ?_;intro K hK;rw[Ao Bb];go_simp
 go_at_call 105
 refine(EM w.heap.size _ kq B _ Z.o rA l).mono ?_;intro e J q;rw[rR.o]at q;obtain⟨rfl,Y,W⟩:=q;dsimp only at Y;have Z:=zz Y;have H:=Hg H W Aa;have U:=Hg U W Aa;have E:=Hg E W Aa;have F:=Hb F W Nr Aa;replace hsz:=Nat.le_trans hsz W.size;clear Y W
 (try clear N R O L M C D)
 (try clear T)
 obtain⟨N,R,O,L,M,C,D⟩:=Ai Z.o;have T:=one_cell U.o;clear I;have I:=And.intro N (And.intro R (And.intro O (And.intro L (And.intro M T))));go_wp2_with fail;refine hK.o _ _ I ?_;refine Aw 7 ?_;refine AX ?_ ?_
 . kernel_rfl
 intro K hK;rw[Ao Bb];go_simp
 go_at_call 103
 refine(NA w.heap.size _ B m4 _ Z.o l rY).mono ?_;intro e J q;rw[rU.o]at q;obtain⟨rfl,Y,W⟩:=q;dsimp only at Y;have Z:=zz Y;have H:=Hg H W Aa;have U:=Hg U W Aa;have E:=Hg E W Aa;have F:=Hb F W Nr Aa;replace hsz:=Nat.le_trans hsz W.size;clear Y W
 (try clear N R O L M C D)
 (try clear T)
 obtain⟨N,R,O,L,M,C,D⟩:=Ai Z.o;have T:=one_cell U.o;clear I;have I:=And.intro N (And.intro R (And.intro O (And.intro L (And.intro M T))));obtain⟨f0,f1,f2,f3,f4,f5,f6⟩:=Cs Z.o;go_wp2_with fail;refine hK.o _ _ ?_;refine Ac 8 ?_;refine Aw 9 ?_;refine AX ?_ ?_
 . kernel_rfl
 intro K hK;go_simp;refine hK.o _ _ ?_;(try simp only[Rg.lp]);refine Bg Ap ?_ _;refine NoPanic.normal ?_;clear I;clear f0 f1 f2 f3 f4 f5 f6
 have HP:=zz (show ED (J.setCell ⟨w.heap.size,3,none⟩ (.int .i64 p1)) w.heap.size ⟨x,v,b,p1,t,((((((((((((((G||yb)||k)||i)||j)||g)||f)||d)||xb)||c)||vb)||qQ)||qU)||qV)||qW),A⟩from Ae.set Z.o 3 (.int .i64 p1))
 have H:=zz (H.o.other (p:=⟨w.heap.size,3,none⟩) (by show _≠w.heap.size;omega) (.int .i64 p1))
 have U:=zz (U.o.other (p:=⟨w.heap.size,3,none⟩) (by show _≠w.heap.size;omega) (.int .i64 p1))
 have E:=zz (E.o.other (p:=⟨w.heap.size,3,none⟩) (by show _≠w.heap.size;omega) (.int .i64 p1))
 have F:=zz (F.o.setCell (p:=⟨w.heap.size,3,none⟩) (by show _<=w.heap.size;omega) (.int .i64 p1))
 replace hsz:w.heap.size+4<=(J.setCell ⟨w.heap.size,3,none⟩ (.int .i64 p1)).heap.size:=by simpa using hsz
 have Z:=HP;clear HP
 generalize(J.setCell ⟨w.heap.size,3,none⟩ (.int .i64 p1))=J at*
 (try clear N R O L M C D)
 (try clear T)
 obtain⟨N,R,O,L,M,C,D⟩:=Ai Z.o;have T:=one_cell U.o
 go_upto_region 14 with fail
 have Z:=zz (Ae.drew Z.o);have H:=zz (H.o.drew);have U:=zz (U.o.drew);have E:=zz (E.o.drew);have F:=zz F.o.drew;have hsz:w.heap.size+4<=J.drew.heap.size:=hsz
 (try clear N R O L M C D)
 (try clear T)
 obtain⟨N,R,O,L,M,C,D⟩:=Ai Z.o;have T:=one_cell U.o;have I:=And.intro N (And.intro R (And.intro O (And.intro L (And.intro M T))));refine wp_region_noPanic ?_;refine A8 [0,2,3] (fun w'=> w'.cell? ⟨w.heap.size,0,none⟩=some (.int .i64 x)/\ w'.cell? ⟨w.heap.size,1,none⟩=some (.int .i64 v)/\ w'.cell? ⟨w.heap.size,2,none⟩=some (.int .i64 b)/\ w'.cell? ⟨w.heap.size,3,none⟩=some (.int .i64 p1)/\ w'.cell? ⟨w.heap.size,4,none⟩=some (.int .i64 t)/\ w'.cell? ⟨gh,0,none⟩=some (.pointer (some ⟨w.heap.size,0,none⟩))) Ap ?_
 generalize J.drew=J at*
 refine Bc 0 I ?_;refine Ac 1 ?_;refine Bc 2 I ?_;refine Bc 3 I ?_;refine Ac 4 ?_;refine Ac 5 ?_;refine Aw 6 ?_;refine Bt ?_;intro K hK;rw[Ao Bb];go_simp
 go_at_call 105
 refine(EM w.heap.size _ lq B _ Z.o rG l).mono ?_;intro e J q;rw[rW.o]at q;obtain⟨rfl,Y,W⟩:=q;dsimp only at Y;have Z:=zz Y;have H:=Hg H W Aa;have U:=Hg U W Aa;have E:=Hg E W Aa;have F:=Hb F W Nr Aa;replace hsz:=Nat.le_trans hsz W.size;clear Y W
 (try clear N R O L M C D)
 (try clear T)
 obtain⟨N,R,O,L,M,C,D⟩:=Ai Z.o;have T:=one_cell U.o;clear I;have I:=And.intro N (And.intro R (And.intro O (And.intro L (And.intro M T))));go_wp2_with fail;refine hK.o _ _ I ?_;refine Aw 7 ?_;refine AX ?_ ?_
 . kernel_rfl
 intro K hK;rw[Ao Bb];go_simp
 go_at_call 103
 refine(NA w.heap.size _ t m5 _ Z.o rE rV).mono ?_;intro e J q;rw[rM.o]at q;obtain⟨rfl,Y,W⟩:=q;dsimp only at Y;have Z:=zz Y;have H:=Hg H W Aa;have U:=Hg U W Aa;have E:=Hg E W Aa;have F:=Hb F W Nr Aa;replace hsz:=Nat.le_trans hsz W.size;clear Y W
 (try clear N R O L M C D)
 (try clear T)
 obtain⟨N,R,O,L,M,C,D⟩:=Ai Z.o;have T:=one_cell U.o;clear I;have I:=And.intro N (And.intro R (And.intro O (And.intro L (And.intro M T))));obtain⟨f0,f1,f2,f3,f4,f5,f6⟩:=Cs Z.o;go_wp2_with fail;refine hK.o _ _ ?_;refine Ac 8 ?_;refine Aw 9 ?_;refine AX ?_ ?_
 . kernel_rfl
 intro K hK;go_simp;refine hK.o _ _ ?_;(try simp only[Rg.lp]);refine Bg Ap ?_ _;refine NoPanic.normal ?_;clear I;clear f0 f1 f2 f3 f4 f5 f6
 have HP:=zz (show ED (J.setCell ⟨w.heap.size,4,none⟩ (.int .i64 p2)) w.heap.size ⟨x,v,b,p1,p2,((((((((((((((((G||yb)||k)||i)||j)||g)||f)||d)||xb)||c)||vb)||qQ)||qU)||qV)||qW)||rq)||qZ),A⟩from Ae.set Z.o 4 (.int .i64 p2))
 have H:=zz (H.o.other (p:=⟨w.heap.size,4,none⟩) (by show _≠w.heap.size;omega) (.int .i64 p2))
 have U:=zz (U.o.other (p:=⟨w.heap.size,4,none⟩) (by show _≠w.heap.size;omega) (.int .i64 p2))
 have E:=zz (E.o.other (p:=⟨w.heap.size,4,none⟩) (by show _≠w.heap.size;omega) (.int .i64 p2))
 have F:=zz (F.o.setCell (p:=⟨w.heap.size,4,none⟩) (by show _<=w.heap.size;omega) (.int .i64 p2))
 replace hsz:w.heap.size+4<=(J.setCell ⟨w.heap.size,4,none⟩ (.int .i64 p2)).heap.size:=by simpa using hsz
 have Z:=HP;clear HP
 generalize(J.setCell ⟨w.heap.size,4,none⟩ (.int .i64 p2))=J at*
 (try clear N R O L M C D)
 (try clear T)
 obtain⟨N,R,O,L,M,C,D⟩:=Ai Z.o;have T:=one_cell U.o;obtain⟨f0,f1,f2,f3,f4,f5,f6⟩:=Cs Z.o
 go_upto_region 16 with fail
 clear f0 f1 f2 f3 f4 f5 f6
 have HP:=zz (show ED (J.setCell ⟨w.heap.size,6,none⟩ (.int .i64 0)) w.heap.size ⟨x,v,b,p1,p2,((((((((((((((((G||yb)||k)||i)||j)||g)||f)||d)||xb)||c)||vb)||qQ)||qU)||qV)||qW)||rq)||qZ),0⟩from Ae.set Z.o 6 (.int .i64 0))
 have H:=zz (H.o.other (p:=⟨w.heap.size,6,none⟩) (by show _≠w.heap.size;omega) (.int .i64 0))
 have U:=zz (U.o.other (p:=⟨w.heap.size,6,none⟩) (by show _≠w.heap.size;omega) (.int .i64 0))
 have E:=zz (E.o.other (p:=⟨w.heap.size,6,none⟩) (by show _≠w.heap.size;omega) (.int .i64 0))
 have F:=zz (F.o.setCell (p:=⟨w.heap.size,6,none⟩) (by show _<=w.heap.size;omega) (.int .i64 0))
 replace hsz:w.heap.size+4<=(J.setCell ⟨w.heap.size,6,none⟩ (.int .i64 0)).heap.size:=by simpa using hsz
 have Z:=HP;clear HP
 generalize(J.setCell ⟨w.heap.size,6,none⟩ (.int .i64 0))=J at*
 (try clear N R O L M C D)
 (try clear T)
 obtain⟨N,R,O,L,M,C,D⟩:=Ai Z.o;have T:=one_cell U.o
 have HG:=zz (show Ae J w.heap.size 25 #[.int .i64 x,.int .i64 v,.int .i64 b,.int .i64 p1,.int .i64 p2,.bool ((((((((((((((((G||yb)||k)||i)||j)||g)||f)||d)||xb)||c)||vb)||qQ)||qU)||qV)||qW)||rq)||qZ),.int .i64 0]from Z.o)
 clear N R O L M C D T
 have HF:=zz (show update ⟨X,V,u,B,t,G,A⟩ z r n=(⟨x,v,b,p1,p2,((((((((((((((((G||yb)||k)||i)||j)||g)||f)||d)||xb)||c)||vb)||qQ)||qU)||qV)||qW)||rq)||qZ),0⟩,true)by simp only[update,Y_.o,rF.o,rD.o,rC.o,sG.o,rX.o,rO.o,X_.o,rQ.o,V_.o,sw.o,su.o,rR.o,rU.o,rW.o,rM.o];rw[Aj Aa])
 go_wp2_with(first|(refine Ad rfl 25 _ rfl w.heap.size rfl HG.o _ underlying25 rfl Ap ?_)|(refine wpList_store_row rfl 25 _ _ rfl gr #[.int .i64 x,.int .i64 v,.int .i64 b,.int .i64 p1,.int .i64 p2,.bool ((((((((((((((((G||yb)||k)||i)||j)||g)||f)||d)||xb)||c)||vb)||qQ)||qU)||qV)||qW)||rq)||qZ),.int .i64 0] rfl rfl 25 _ H.o Ap rfl GR ?_))
 refine Ci (x:=.bool true) rfl rfl rfl (H.o.setRow #[.int .i64 x,.int .i64 v,.int .i64 b,.int .i64 p1,.int .i64 p2,.bool ((((((((((((((((G||yb)||k)||i)||j)||g)||f)||d)||xb)||c)||vb)||qQ)||qU)||qV)||qW)||rq)||qZ),.int .i64 0]) ⟨by rw[underlying25],Ap⟩ rfl ?_;rw[HF.o];exact⟨rfl,below_setRow F.o Aa _⟩
end BigW
end Go.Proofs.YtjobajeggllmiaaGreat
