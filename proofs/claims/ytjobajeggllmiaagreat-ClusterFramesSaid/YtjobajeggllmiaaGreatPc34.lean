import Derived.Test.YtjobajeggllmiaaGreatPc0
import Derived.Test.YtjobajeggllmiaaGreatPc3
set_option linter.all false
set_option maxHeartbeats 100000000
set_option maxRecDepth 100000
namespace Go.Proofs.YtjobajeggllmiaaGreat
open Rg _root_.Go.Proofs.Tryz
namespace Vt
open Go.RowKit Go.Maps Go.WideShapes Mem Rws Nd
def QH(L:Nat->Int)(I:Nat->Bool)(V W:Array Value)(U:∀k,k<4->V[k]?=some (.int .i64 (L k)))(hi:∀k,k<4->W[k]?=some (.bool (I k)))(gl gi:Nat)(v:Int)(w:World)(bl:Ae w gl 28 V)(bi:Ae w gi 27 W):
  Calls prog 91 #[.int .i64 v,.pointer (some ⟨gi,0,none⟩),.pointer (some ⟨gl,0,none⟩)] w fun e w'=>e=.returned (.int .i64 (cnt L I v 4))/\w=w':=by
 have R:=zz bl;have O:=zz bi;have N:=zz U;have T:=zz hi;clear bl bi U hi
 go_in
 go_wp2_with fail
 go_loop[5,7] (fun n i=>∃k:Nat,k<=4/\i=.int .i64 k/\n=.int .i64 (cnt L I v k)) (fun _ i=>4-(intOf i).toNat)
 .exact⟨0,Aa,rfl,rfl⟩
 obtain⟨k,J,rfl,rfl⟩:=hrel
 by_cases Z:k<4
 .have ci: w.cell? ⟨gi,k,none⟩=some (.bool (I k)):=(O.o.cell k).trans (T.o k Z);have F: w.cell? ⟨gl,k,none⟩=some (.int .i64 (L k)):=(R.o.cell k).trans (N.o k Z);have G:=Lb L I v k;have H:IntKind.i64.wrap ((cnt L I v k:Int)+1)=(cnt L I v k:Int)+1:=IntWalk.i64_in _ Aa
  have Y:=zz (show cnt L I v (k+1)=cnt L I v k+(if I k=true/\L k=v then 1 else 0)from rfl)
  cases hI:I k with
  |false=>
   rw[hI]at ci;have X:=zz (Y.o.trans (by rw[Aj (by simp[hI])]));clear Y hI;go_wp2_with fail;exact⟨⟨k+1,Aa,BG,by rw[X.o];rfl⟩,Ck⟩
  |true=>
   rw[hI]at ci
   by_cases e:L k=v
   .have X:=zz (Y.o.trans (by rw[Ao ⟨hI,e⟩]))
    have M:(L k==v)=true:=by simp[e]
    clear Y hI e;go_wp2_with fail;exact⟨⟨k+1,Aa,BG,by rw[X.o];rfl⟩,Ck⟩
   have X:=zz (Y.o.trans (by rw[Aj (fun h=>e h.2)]))
   have M:(L k==v)=false:=by simp[e]
   clear Y hI e;go_wp2_with fail;exact⟨⟨k+1,Aa,BG,by rw[X.o];rfl⟩,Ck⟩
 obtain rfl:k=4:=Aa;clear Z;go_wp2_with fail
 go_ret
 exact⟨rfl,rfl⟩
def Oh{P:Program}{F:FuncId}{Z:Array Value}{v:Value}{w:World}(h:∀n,Calls P F Z (w.drewN n) fun e w'=>e=.returned v/\w.drewN n=w')(n:Nat):Calls P F Z (w.drewN n) fun e Y=>e=.returned v/\∃n,Y=w.drewN n:=
 (h n).mono fun e w' X=>⟨X.1,n,X.2.symm⟩
def UX(L:Nat->Int)(I:Nat->Bool)(w:World):
  Calls prog 57 #[.agg (row 4 fun i=>.int .i64 (L i)),.agg (row 4 fun i=>.bool (I i))] w fun e w'=>∃A c,e=.returned (.agg (Gx (val L I) (strong L I) A 4 c))/\
   Rd w' w'.heap.size 1 A 4 ((List.range 4).map fun i=>.bool (agrees L I i))/\Below w.heap.size w w'/\(∀a,A=some a->w.heap.size<=a.block)/\(A=none->c=0)/\4<=c:=by
 have qX:∀k:Nat,k<4->(row 4 fun i=>Value.int .i64 (L i))[k]?=some (.int .i64 (L k)):=fun k hk=>Ah hk;have qU:∀k:Nat,k<4->(row 4 fun i=>Value.bool (I i))[k]?=some (.bool (I k)):=fun k hk=>Ah hk
 generalize(row 4 fun i=>Value.int .i64 (L i))=RL at*
 generalize(row 4 fun i=>Value.bool (I i))=RI at*
 have B:=zz qX;have s:=zz qU;clear qX qU
 go_in
 go_wp2_with fail
 go_loopw[7,11] (fun t i wr=>∃k:Nat,k<=4/\i=.int .i64 k/\t=.int .i64 (tot I k)/\Ae wr w.heap.size 28 RL/\Ae wr (w.heap.size+1) 27 RI/\Ae wr (w.heap.size+1+1) 35 bT/\Ae wr (w.heap.size+1+1+1) 35 #[.int .i64 (rv L I k),.bool false,.slice none 0 0]/\Below w.heap.size w wr) (fun _ i _=>4-(intOf i).toNat)
 .exact⟨0,Aa,rfl,rfl,((Ae.new rfl).alloc _).alloc _|>.alloc _,((Ae.new Bq).alloc _).alloc _,(Ae.new Bq).alloc _,Ae.new Bq,(((Below.refl w.heap.size w).alloc Nr _).alloc Bq _).alloc Ec _|>.alloc Ec _⟩
 obtain⟨k,hk,rfl,rfl,h1,h2,h3,h4,hb⟩:=hrel;have Z:=zz h1;have q:=zz h2;have M:=zz h3;have E:=zz h4;have Y:=zz hb;clear h1 h2 h3 h4 hb;have f:=UA I k
 by_cases C:k<4
 .have ci: wr.cell? ⟨w.heap.size+1,k,none⟩=some (.bool (I k)):=(q.o.cell k).trans (s.o k C);have et:IntKind.i64.wrap ((tot I k:Int)+1)=(tot I k:Int)+1:=IntWalk.i64_in _ Aa
  have J:=zz (show rv L I (k+1)=if I k=true/\(cnt L I (rv L I k) 4<cnt L I (L k) 4\/tot I k=0)then L k else rv L I k from rfl)
  cases hI:I k with
  |false=>
   rw[hI]at ci
   have HT:=zz (show tot I (k+1)=tot I k by simp[tot,hI])
   have HV:=zz (J.o.trans (Aj (by simp[hI])));clear hI J;go_wp2_with fail;exact⟨⟨k+1,Aa,BG,by rw[HT.o],Z.o,q.o,M.o,by rw[HV.o];exact E.o,Y.o⟩,Ck⟩
  |true=>
   rw[hI]at ci
   have HT:=zz (show(tot I (k+1):Int)=(tot I k:Int)+1 by simp[tot,hI])
   have qW:=zz hI;clear hI;have y0: wr.cell? ⟨w.heap.size+1+1+1,0,none⟩=some (.int .i64 (rv L I k)):=E.o.cell 0;have yk: wr.cell? ⟨w.heap.size,k,none⟩=some (.int .i64 (L k)):=(Z.o.cell k).trans (B.o k C);have g0:=E.o.thaw 0;obtain⟨T,r⟩:∃T:Int,(tot I k:Int)=T:=⟨_,rfl⟩;obtain⟨N1,m⟩:∃N:Int,(cnt L I (L k) 4:Int)=N:=⟨_,rfl⟩;obtain⟨N2,H⟩:∃N:Int,(cnt L I (rv L I k) 4:Int)=N:=⟨_,rfl⟩;have c1:=fun n=>QH L I RL RI B.o s.o w.heap.size (w.heap.size+1) (L k) (wr.drewN n) (Z.o.drewN n) (q.o.drewN n);have d:=fun n=>QH L I RL RI B.o s.o w.heap.size (w.heap.size+1) (rv L I k) (wr.drewN n) (Z.o.drewN n) (q.o.drewN n);rw[m]at c1;rw[H]at d;obtain⟨X,hX⟩:=AJ (L k);obtain⟨V,hV⟩:=AJ (rv L I k);rw[hX]at c1 yk;rw[hV]at d y0;have HX:=zz hX;have b:=zz hV;clear hX hV;rw[r]at et ⊢;have C1:=zz c1;have C2:=zz d;have D:=zz r;clear c1 d
   go_upto_region 9 with fail
   by_cases hc:cnt L I (rv L I k) 4<cnt L I (L k) 4
   .have u:decide (N2<N1)=true:=decide_eq_true Aa;have HV:=zz (J.o.trans (Ao ⟨qW.o,.inl hc⟩));clear hc J r m H f
    go_quiet (first|with_reducible exact Oh C1.o _|with_reducible exact Oh C2.o _)
    go_wp2_with fail
    refine⟨⟨k+1,Aa,BG,by rw[HT.o,D.o],(Z.o.drewN _).other (by show w.heap.size≠w.heap.size+1+1+1;omega) _,(q.o.drewN _).other (by show w.heap.size+1≠w.heap.size+1+1+1;omega) _,(M.o.drewN _).other (by show w.heap.size+1+1≠w.heap.size+1+1+1;omega) _,?_,(below_drewN Y.o _).setCell (by show w.heap.size<=w.heap.size+1+1+1;omega) _⟩,Ck⟩
    rw[HV.o,HX.o];exact(E.o.drewN _).set 0 _
   have u:decide (N2<N1)=false:=decide_eq_false Aa
   by_cases hz:tot I k=0
   .have he:(T+1==1)=true:=Ec;have HV:=zz (J.o.trans (Ao ⟨qW.o,.inr hz⟩));clear hc J r m H f hz
    go_quiet (first|with_reducible exact Oh C1.o _|with_reducible exact Oh C2.o _)
    go_wp2_with fail
    refine⟨⟨k+1,Aa,BG,by rw[HT.o,D.o],(Z.o.drewN _).other (by show w.heap.size≠w.heap.size+1+1+1;omega) _,(q.o.drewN _).other (by show w.heap.size+1≠w.heap.size+1+1+1;omega) _,(M.o.drewN _).other (by show w.heap.size+1+1≠w.heap.size+1+1+1;omega) _,?_,(below_drewN Y.o _).setCell (by show w.heap.size<=w.heap.size+1+1+1;omega) _⟩,Ck⟩
    rw[HV.o,HX.o];exact(E.o.drewN _).set 0 _
   have he:(T+1==1)=false:=Ec;have HV:=zz (J.o.trans (Aj (fun h=>h.2.elim hc hz)));clear hc J r m H f hz
   go_quiet (first|with_reducible exact Oh C1.o _|with_reducible exact Oh C2.o _)
   go_wp2_with fail;refine⟨⟨k+1,Aa,BG,by rw[HT.o,D.o],Z.o.drewN _,q.o.drewN _,M.o.drewN _,?_,below_drewN Y.o _⟩,Ck⟩;rw[HV.o];exact E.o.drewN _
 obtain rfl:k=4:=Aa;clear C
 rw[show((4:Nat):Int)=4 from rfl]
 have qZ:=zz (QW L I);have hn:=Lb L I (rv L I 4) 4;have qR:val L I=rv L I 4:=rfl;obtain⟨V,hV⟩:=AJ (rv L I 4);rw[hV]at E qR;have E:Hid (Ae wr (w.heap.size+1+1+1) 35 #[.int .i64 V,.bool false,.slice none 0 0]):=E;obtain⟨T,r⟩:∃T:Int,(tot I 4:Int)=T:=⟨_,rfl⟩;obtain⟨N2,H⟩:∃N:Int,(cnt L I (rv L I 4) 4:Int)=N:=⟨_,rfl⟩;have d:=QH L I RL RI B.o s.o w.heap.size (w.heap.size+1) (rv L I 4) wr Z.o q.o;rw[H,hV]at d;have C2:=zz d;rw[r];have D:=zz r;have qY:IntKind.i64.wrap (2*N2)=2*N2:=IntWalk.i64_in _ Aa
 have qV:strong L I=(decide (0<T)&&decide (T<2*N2)):=by
  rw[←QW L I]
  congr 1
  . exact decide_eq_decide.2 Aa
  exact decide_eq_decide.2 Aa
 have z:=zz qV;clear d qV qZ r H hn;have b:=zz qR;clear hV qR
 go_upto_region 12 with fail
 go_cut[49] (fun ru wx=>wx=wr.setCell ⟨w.heap.size+1+1+1,1,none⟩ (.bool (strong L I)))
 case first=>
  have y0: wr.cell? ⟨w.heap.size+1+1+1,0,none⟩=some (.int .i64 V):=E.o.cell 0;have y1: wr.cell? ⟨w.heap.size+1+1+1,1,none⟩=some (.bool false):=E.o.cell 1;have g1:=E.o.thaw 1
  by_cases hp:0<T
  .have u:decide (0<T)=true:=decide_eq_true hp;rw[u,Bool.true_and]at z;clear hp;refine wp_region_list ?_
   iterate 3
    refine Af Bb (fun K hK=>?_);go_simp
    try simp only[u]
    refine hK _ _ ?_;(try simp only[Rg.lp])
   iterate 3
    refine Af Bb (fun K hK=>?_);go_simp;refine hK _ _ ?_;(try simp only[Rg.lp])
   refine Af Bb (fun K hK=>?_);go_simp;refine C2.o.mono ?_;rintro e w' ⟨rfl,rfl⟩;go_wp2_with fail
   go_meet
   rw[z.o]
  have u:decide (0<T)=false:=decide_eq_false hp;rw[u,Bool.false_and]at z;clear hp;go_wp2_with fail
  go_meet
  rw[z.o]
 obtain rfl:=hcut;have G4:=zz (E.o.set 1 (.bool (strong L I)))
 have G1:=zz (Z.o.other (p:=⟨w.heap.size+1+1+1,1,none⟩) (by show w.heap.size≠w.heap.size+1+1+1;omega) (.bool (strong L I)))
 have G3:=zz (M.o.other (p:=⟨w.heap.size+1+1+1,1,none⟩) (by show w.heap.size+1+1≠w.heap.size+1+1+1;omega) (.bool (strong L I)))
 have GB:=zz (Y.o.setCell (p:=⟨w.heap.size+1+1+1,1,none⟩) (by show w.heap.size<=w.heap.size+1+1+1;omega) (.bool (strong L I)))
 clear Z q M E Y C2 qY z
 generalize(wr.setCell ⟨w.heap.size+1+1+1,1,none⟩ (.bool (strong L I)))=w2 at*
 go_wp2_with fail
 go_loopw[51] (fun i wq=>∃(j:Nat) (A:Option Addr) (c:Nat),j<=4/\i=.int .i64 j/\Ae wq w.heap.size 28 RL/\Ae wq (w.heap.size+1+1) 35 bT/\Ae wq (w.heap.size+1+1+1) 35 (PX V (strong L I) A j c)/\wq.ownsRow (w.heap.size+1+1+1+1) 4 1 (.slice A j c) j ((List.range j).map fun i=>.bool (agrees L I i))/\Below w.heap.size w wq) (fun i _=>4-(intOf i).toNat)
 .exact⟨0,none,0,Aa,rfl,G1.o,G3.o,G4.o,World.ownsRow_nil _ _ _ _,GB.o⟩
 clear G1 G3 G4 GB;obtain⟨j,A,c,hj,rfl,h1,h3,hg,l,hb⟩:=hrel;have Z:=zz h1;have M:=zz h3;have O:=zz hg;have U:=zz l;have Y:=zz hb;clear h1 h3 hg l hb
 by_cases C:j<4
 .go_upto_region 16 with fail
  have Z:=zz Z.o.drew;have M:=zz M.o.drew;have O:=zz O.o.drew;have U:=zz (ownsRow_below U.o ((Below.refl wr.heap.size wr).drew));have Y:=zz Y.o.drew;have x:=And.intro Z.o O.o;refine wp_region_noPanic ?_
  by_cases f:0<T
  .have u:decide (0<T)=true:=decide_eq_true f
   have HA:=zz (show agrees L I j=(L j==V)by unfold agrees;rw[b.o,decide_eq_true (show 0<tot I 4 by have:=D.o;omega),Bool.true_and];by_cases e:L j=V<;>simp[e])
   clear f;refine A8 [1,7,9] (fun w'=>Ae w' w.heap.size 28 RL/\Ae w' (w.heap.size+1+1+1) 35 (PX V (strong L I) A j c)) Ap ?_
   generalize wr.drew=G at*
   refine Ac 0 ?_;refine Ba 1 ?_ x (hy:=?_) (h:=?_);rotate_left 1
   . (intro w' F;have y:=F.2.cell 2;(try simp only[List.getElem?_toArray,List.getElem?_cons_zero,List.getElem?_cons_succ]at y);go_simp;(try with_reducible rfl))
   refine Ac 2 ?_;refine Rg.tp 3 ⟨some 57,.binOp .gtr 3 (.tmp 56) (.const (.int .i64 0)) 3,_,_,_,none⟩ (v:=?_) rfl ?_ ?_;rotate_left 1
   . (intro w;go_simp;(try simp only[u]);(try with_reducible rfl))
   refine Ac 4 ?_;refine Ac 5 ?_;refine Ac 6 ?_;refine Ba 7 ?_ x (hy:=?_) (h:=?_);rotate_left 1
   . (intro w' F;have y:=(F.1.cell j).trans (B.o j C);(try simp only[List.getElem?_toArray,List.getElem?_cons_zero,List.getElem?_cons_succ]at y);go_simp;(try with_reducible rfl))
   refine Ac 8 ?_;refine Ba 9 ?_ x (hy:=?_) (h:=?_);rotate_left 1
   . (intro w' F;have y:=F.2.cell 0;(try simp only[List.getElem?_toArray,List.getElem?_cons_zero,List.getElem?_cons_succ]at y);go_simp;(try with_reducible rfl))
   refine Ac 10 ?_;refine Ac 11 ?_;refine Aw 12 ?_;refine Bt ?_;intro K hK;go_simp;have HN:Hid (Rd (G.alloc (.cells #[.bool (L j==V)] 4)) (G.heap.size+1) 1 (some ⟨G.heap.size,0,none⟩) 1 [.bool (L j==V)]):=zz (Ff _ _ _);have U:=zz (ownsRow_below U.o ((Below.refl G.heap.size G).alloc Nr (.cells #[.bool (L j==V)] 4)));have Y:=zz (Y.o.alloc Y.o.size (.cells #[.bool (L j==V)] 4));have Z:=zz (Z.o.alloc (.cells #[.bool (L j==V)] 4));have M:=zz (M.o.alloc (.cells #[.bool (L j==V)] 4));have O:=zz (O.o.alloc (.cells #[.bool (L j==V)] 4));have rq:=O.o.lt
   generalize(G.alloc (.cells #[.bool (L j==V)] 4))=V1 at*
   generalize G.heap.size=nb at*
   clear x;have x:=And.intro Z.o O.o;refine hK.o _ _ x ?_;refine Aw 13 ?_;refine AX ?_ ?_
   . kernel_rfl
   intro K hK;rw[Ao Bb];refine Ea _ (.tmp 55) (.tmp 66) 33 rfl (base:=w.heap.size+1+1+1+1) H9 rfl U.o rfl (fun h=>by cases h) HN.o GR GX Aa Aa ?_;intro A' c' V2 qQ R W;have Y:=zz (Y.o.grown W Y.o.size (fun g e=>Nat.le_trans Aa (U.o.lt g e).1));have Z:=zz (Z.o.grown W (fun e=>by have:=(U.o.lt _ e.symm).1;omega));have M:=zz (M.o.grown W (fun e=>by have:=(U.o.lt _ e.symm).1;omega));have O:=zz (O.o.grown W (fun e=>by have:=(U.o.lt _ e.symm).1;omega));have U:=zz R;clear R W qQ;have y2:=O.o.cell 2;have f2:=O.o.thaw 2;refine hK.o _ _ ?_;refine Ac 14 ?_;refine Aw 15 ?_;refine AX ?_ ?_
   . kernel_rfl
   intro K hK;go_simp;refine hK.o _ _ ?_;(try simp only[Rg.lp]);refine Bg Ap ?_ _;refine NoPanic.normal ?_;go_wp2_with fail
   refine⟨⟨j+1,A',c',Aa,BG,Z.o.other (p:=⟨w.heap.size+1+1+1,2,none⟩) (by show w.heap.size≠w.heap.size+1+1+1;omega) _,M.o.other (p:=⟨w.heap.size+1+1+1,2,none⟩) (by show w.heap.size+1+1≠w.heap.size+1+1+1;omega) _,O.o.set 2 _,?_,Y.o.setCell (p:=⟨w.heap.size+1+1+1,2,none⟩) (by show w.heap.size<=w.heap.size+1+1+1;omega) _⟩,Ck⟩
   rw[List.range_succ,List.map_append,List.map_singleton,HA.o];exact Ch (g:=w.heap.size+1+1+1) U.o Aa _
  have u:decide (0<T)=false:=decide_eq_false f
  have HA:=zz (show agrees L I j=false by unfold agrees;rw[show tot I 4=0 by have:=D.o;omega];rfl)
  clear f;refine A8 [1] (fun w'=>Ae w' w.heap.size 28 RL/\Ae w' (w.heap.size+1+1+1) 35 (PX V (strong L I) A j c)) Ap ?_
  generalize wr.drew=G at*
  refine Ac 0 ?_;refine Ba 1 ?_ x (hy:=?_) (h:=?_);rotate_left 1
  . (intro w' F;have y:=F.2.cell 2;(try simp only[List.getElem?_toArray,List.getElem?_cons_zero,List.getElem?_cons_succ]at y);go_simp;(try with_reducible rfl))
  refine Ac 2 ?_;refine Rg.tp 3 ⟨some 57,.binOp .gtr 3 (.tmp 56) (.const (.int .i64 0)) 3,_,_,_,none⟩ (v:=?_) rfl ?_ ?_;rotate_left 1
  . (intro w;go_simp;(try simp only[u]);(try with_reducible rfl))
  refine Ac 4 ?_;refine DN 5 ?_;refine DN 6 ?_;refine DN 7 ?_;refine DN 8 ?_;refine DN 9 ?_;refine DN 10 ?_;refine Ac 11 ?_;refine Aw 12 ?_;refine Bt ?_;intro K hK;go_simp;have HN:Hid (Rd (G.alloc (.cells eZ 4)) (G.heap.size+1) 1 (some ⟨G.heap.size,0,none⟩) 1 [.bool false]):=zz (Ff _ _ _);have U:=zz (ownsRow_below U.o ((Below.refl G.heap.size G).alloc Nr (.cells eZ 4)));have Y:=zz (Y.o.alloc Y.o.size (.cells eZ 4));have Z:=zz (Z.o.alloc (.cells eZ 4));have M:=zz (M.o.alloc (.cells eZ 4));have O:=zz (O.o.alloc (.cells eZ 4));have rq:=O.o.lt
  generalize(G.alloc (.cells eZ 4))=V1 at*
  generalize G.heap.size=nb at*
  clear x;have x:=And.intro Z.o O.o;refine hK.o _ _ x ?_;refine Aw 13 ?_;refine AX ?_ ?_
  . kernel_rfl
  intro K hK;rw[Ao Bb];refine Ea _ (.tmp 55) (.tmp 66) 33 rfl (base:=w.heap.size+1+1+1+1) H9 rfl U.o rfl (fun h=>by cases h) HN.o GR GX Aa Aa ?_;intro A' c' V2 qQ R W;have Y:=zz (Y.o.grown W Y.o.size (fun g e=>Nat.le_trans Aa (U.o.lt g e).1));have Z:=zz (Z.o.grown W (fun e=>by have:=(U.o.lt _ e.symm).1;omega));have M:=zz (M.o.grown W (fun e=>by have:=(U.o.lt _ e.symm).1;omega));have O:=zz (O.o.grown W (fun e=>by have:=(U.o.lt _ e.symm).1;omega));have U:=zz R;clear R W qQ;have y2:=O.o.cell 2;have f2:=O.o.thaw 2;refine hK.o _ _ ?_;refine Ac 14 ?_;refine Aw 15 ?_;refine AX ?_ ?_
  . kernel_rfl
  intro K hK;go_simp;refine hK.o _ _ ?_;(try simp only[Rg.lp]);refine Bg Ap ?_ _;refine NoPanic.normal ?_;go_wp2_with fail
  refine⟨⟨j+1,A',c',Aa,BG,Z.o.other (p:=⟨w.heap.size+1+1+1,2,none⟩) (by show w.heap.size≠w.heap.size+1+1+1;omega) _,M.o.other (p:=⟨w.heap.size+1+1+1,2,none⟩) (by show w.heap.size+1+1≠w.heap.size+1+1+1;omega) _,O.o.set 2 _,?_,Y.o.setCell (p:=⟨w.heap.size+1+1+1,2,none⟩) (by show w.heap.size<=w.heap.size+1+1+1;omega) _⟩,Ck⟩
  rw[List.range_succ,List.map_append,List.map_singleton,HA.o];exact Ch (g:=w.heap.size+1+1+1) U.o Aa _
 obtain rfl:j=4:=Aa;clear C
 go_wp2_with(first
  |(refine Ad rfl 35 _ rfl (w.heap.size+1+1+1) rfl O.o _ underlying35 rfl Ap ?_)
  |(refine wpList_store_row rfl 35 _ _ rfl (w.heap.size+1+1) (PX V (strong L I) A 4 c) rfl rfl 35 _ M.o Ap rfl GR ?_))
 have hw:=Ay U.o (show w.heap.size+1+1<w.heap.size+1+1+1+1 by omega) (PX V (strong L I) A 4 c)
 exact Fs rfl rfl (M.o.setRow _) underlying35 rfl Ap rfl ⟨A,c,by rw[b.o];rfl,Rd.Bu hw,below_setRow Y.o Aa _,fun a h=>Nat.le_trans Aa (Db U.o a h),BU U.o⟩
end Vt
end Go.Proofs.YtjobajeggllmiaaGreat
