import Derived.Test.YtjobajeggllmiaaGreatPc0
import Derived.Test.YtjobajeggllmiaaGreatPr0
set_option linter.all false
set_option maxHeartbeats 100000000
set_option maxRecDepth 100000
namespace Go.Proofs.YtjobajeggllmiaaGreat
open Rg _root_.Go.Proofs.Tryz
namespace Cf
open Go.ChangeShapes Go.WideShapes Go.ChangeAt Go.RowKit Mem Rws Nd Cl
def Xb(R N M O:Int)(ht:Wf R/\Wf N/\Wf M/\Wf O)(A:Option Addr)(c:Nat)(T:List He)(su:∀x∈T,∀i,i<12->Wf (x.rd i))(w:World)(h:Gn w w.heap.size A T):
  Calls prog 12 #[.agg (Bn R N M O),.slice A T.length c] w fun e w'=>Qg w.heap.size w w' (I5 R N M O T).c (I5 R N M O T).n (I5 R N M O T).L (I5 R N M O T).k e:=by
 have ru:=zz h;have uD:=zz su;have HT:=zz ht;clear h su ht;have sI:=zz (fun w=>(by kernel_rfl:(Instr.build 40 #[]).run prog w=.ok (.agg zeroCells40) w));have uI:=zz (fun(w:World)=>(by kernel_rfl:(Instr.alloc 40 true (.tuple #[])).run prog w=.ok (.pointer (some ⟨w.heap.size,0,none⟩)) (w.alloc (.cells zeroCells40 40))));have iZ:(prog.info? 40).map (·.size)=some (zeroCells40).size:=Ap;have oZ:(zeroCells40).all (·.oneCell')=true:=Ap
 have B2:=zz (show Ae ((w.alloc (.cells (Bn R N M O) 23)).alloc (.cells zeroCells40 40)) w.heap.size 23 (Bn R N M O)from(Ae.fresh _ _ _).alloc _)
 have J:=zz (show Ae ((w.alloc (.cells (Bn R N M O) 23)).alloc (.cells zeroCells40 40)) (w.heap.size+1) 40 zeroCells40 from Ae.new Bq)
 have HB:=zz (((Below.refl w.heap.size w).alloc Nr (.cells (Bn R N M O) 23)).alloc Bq (.cells zeroCells40 40))
 go_in
 go_upto_region 1 with fail
 generalize((w.alloc (.cells (Bn R N M O) 23)).alloc (.cells zeroCells40 40))=w1 at*
 obtain⟨gt,rT⟩:=AJ (w.heap.size);have p:=zz rT;rw[rT]at B2 J HB ⊢;clear rT;obtain⟨gr,H⟩:=AJ (gt+1);have rG:=zz H;rw[H]at J ⊢;clear H
 by_cases d:200<T.length
 .have uq:decide ((200:Int)<(T.length:Int))=true:=decide_eq_true Aa
  have C:=zz (show I5 R N M O T=⟨Ld,[],0,6⟩from Ao d)
  clear d
  go_wp2_with(first
   |(refine Dj rfl 40 _ rfl (.agg zeroCells40) (sI.o _) ?_)
   |(refine wpList_store_row rfl 40 _ _ rfl gr zeroCells40 rfl rfl 40 _ J.o iZ rfl oZ ?_))
  refine CR (x:=.slice none 0 0) (y:=.int .i64 6) rfl rfl rfl rfl (J.o.setRow zeroCells40) ⟨by rw[underlying40],iZ⟩ rfl ?_;rw[C.o];exact Kk _ (by rw[p.o];exact below_setRow HB.o (by have:=rG.o;omega) _) _
 have rC:=zz (show T.length<=200 by omega)
 have uq:decide ((200:Int)<(T.length:Int))=false:=decide_eq_false Aa
 have C:=zz (show I5 R N M O T=UF T (Bw R N M O) [] 0 from Aj d)
 have sZ:=zz (Ko HT.o);clear d
 go_upto_region 3 with fail
 go_wp2_with(refine Ad rfl 23 _ rfl gt rfl B2.o _ underlying23 rfl Ap ?_)
 refine(UW R N M O w1).mono ?_;rintro e w2 ⟨rfl,hb⟩;rw[Ow];have i0:(prog.info? 40).map (·.size)=some (row 297 (Ak (Bw R N M O).fr (Bw R N M O).F (AO (fun _=>none) (Bw R N M O).V (fun _=>0)))).size:=Eg;have z0:(zeroCells40).size=(row 297 (Ak (Bw R N M O).fr (Bw R N M O).F (AO (fun _=>none) (Bw R N M O).V (fun _=>0)))).size:=Eg;have o0:=row_one (CP sZ.o.ok (Bw R N M O).fr (Bw R N M O).V (fun _=>none) (fun _=>0));obtain⟨R0,rJ⟩:=AJ (row 297 (Ak (Bw R N M O).fr (Bw R N M O).F (AO (fun _=>none) (Bw R N M O).V (fun _=>0))));rw[rJ]at i0 z0 o0 ⊢;have tZ:=zz rJ;clear rJ;have F1:Hid (Ae (w2.alloc (.cells zeroCells40 40)) w2.heap.size 40 zeroCells40):=zz (Ae.fresh _ _ _);have rV:gt<=w1.heap.size:=Nat.le_of_lt B2.o.lt;have rM:gt<=w2.heap.size:=Nat.le_trans rV hb.size;have J:=AU J hb
 have qX:=zz (show gr<w2.heap.size from J.o.lt)
 have HB:=zz (HB.o.trans (hb.mono rV));have qU:=zz rM;have G:=(Below.refl w2.heap.size w2).alloc Nr (.cells zeroCells40 40)
 go_upto_region 4 with(refine wpList_store_row rfl 40 _ _ rfl w2.heap.size R0 rfl rfl 40 _ F1.o i0 z0 o0 ?_)
 have Z:=below_setRow G Nr R0;have I:=zz (F1.o.setRow R0);have J:=AU J Z;have HB:=zz (HB.o.trans (Z.mono rM))
 have ru:=zz ((ru.o.below (by rw[p.o];exact HB.o)).more (show w.heap.size<=w2.heap.size by rw[p.o];exact qU.o))
 clear F1 i0 z0 o0 hb rV rM G Z B2
 generalize((w2.alloc (.cells zeroCells40 40)).setRow w2.heap.size R0)=w3 at*
 obtain⟨E,tT⟩:=AJ (w2.heap.size);rw[tT]at I qU qX ru ⊢;clear tT
 have z:=zz (show E<=w3.heap.size from Nat.le_of_lt I.o.lt)
 go_wp2_with fail
 go_loopw[22,8] (fun v u wr=>∃(i:Nat) (s:Du) (L:List Value) (n:Nat) (VA:Nat->Option Addr) (VC:Nat->Nat) (OA:Option Addr) (OC:Nat),i<=T.length/\v=.int .i64 (i:Int)/\u=.slice OA n OC/\(Gi s/\s.fr=(i:Int)/\n<=4*i/\UF (T.drop i) s L n=UF T (Bw R N M O) [] 0)/\Ae wr E 40 (row 297 (Ak s.fr s.F (AO VA s.V VC)))/\Jh wr s VA VC (WW gt E gr OA n OC)/\wr.ownsRow E 70 14 (.slice OA n OC) n L/\Below E w3 wr) (fun v _ _=>T.length-(intOf v).toNat)
 .exact⟨0,Bw R N M O,[],0,fun _=>none,fun _=>0,none,0,Aa,rfl,rfl,⟨sZ.o,rfl,Nat.le_refl _,rfl⟩,by rw[tZ.o];exact I.o,fun j hj=>⟨fun _=>rfl,by show(([]:List Bool)).length<=_;simp,Rd.nil _ _ _ _,fun hn=>absurd hn (by show ¬0<(([]:List Bool)).length;simp)⟩,World.ownsRow_nil _ _ _ _,Below.refl _ _⟩
 clear I;obtain⟨i,s,L,n,VA,VC,OA,OC,hi,rfl,rfl,⟨hs,sN,tJ,sH⟩,tH,sU,tO,rR⟩:=hrel;have I:=zz tH;have t:=zz sU;have U:=zz tO;have W:=zz rR;have qR:=zz hs;have tY:=zz sN;have rH:=zz tJ;have rU:=zz sH;have J:=zz (J.o.below rR qX.o);clear tH sU tO rR hs sN tJ sH
 by_cases rX:i<T.length
 .have hx:T[i]?=some (T.getD i default):=by rw[List.getD_eq_getElem?_getD,List.getElem?_eq_getElem rX];rfl
  obtain⟨y,sO⟩:=AJ (T.getD i default);rw[sO]at hx
  have tL:=zz (show T.drop i=y::T.drop (i+1)by
   rw[List.drop_eq_getElem_cons rX];have h2:=hx;rw[List.getElem?_eq_getElem rX]at h2
   injection h2 with h2
   rw[h2])
  have tX:=zz (uD.o y (List.mem_of_getElem? hx));clear sO;have sQ:=ru.o.below W.o;obtain⟨bi,oi,LA,LC,rfl,rF,tQ,uz,uw,ug,qW⟩:=sQ.at hx;have uL:(0:Int)<=(i:Int):=Aa;have uJ:(i:Int)<(T.length:Int):=Aa;have tV:=zz tQ;have rW:=zz (Eo qW (Nat.le_trans z.o W.o.size));have uK:=zz rF
  have uG:=zz (show bi<wr.heap.size from Nat.lt_of_lt_of_le rF (Nat.le_trans z.o W.o.size))
  clear tQ qW sQ hx rF uz uw ug
  have tF:=zz (show ∀b,WW gt E gr OA n OC b->b<wr.heap.size from fun b h=>by
   have h0:=I.o.lt;have h1:=qX.o;have h2:=qU.o
   rcases h with h|(h|h)|h
   . omega
   . omega
   . omega
   exact(U.o.lt b h).2)
  have F1:Hid (Ae (wr.alloc (.cells VB 43)) wr.heap.size 43 VB):=zz (Ae.fresh _ _ _);have G:Below wr.heap.size wr (wr.alloc (.cells VB 43)):=DC;obtain⟨R1,qQ⟩:=AJ (row 14 (BP y.rd y.bad (.slice LA y.ls.length LC)))
  have i1:(prog.info? 43).map (·.size)=some R1.size:=by rw[←qQ,Ag];kernel_rfl
  have z1:(VB:Array Value).size=R1.size:=by rw[←qQ,Ag];rfl
  have o1:R1.all (·.oneCell')=true:=by rw[←qQ];exact row_one fun j _=>MF _ _ _ _ _ j
  have uf:=zz qQ
  go_upto_region 8 with(first
   |(refine Qb rfl 43 _ rfl bi (oi+i*14) 14 rfl (BP y.rd y.bad (.slice LA y.ls.length LC)) tV.o _ underlying43 rfl Ap ?_;rw[qQ])
   |(refine wpList_store_row rfl 43 _ _ rfl wr.heap.size R1 rfl rfl 43 _ F1.o i1 z1 o1 ?_))
  have Z:=below_setRow G Nr R1;have uE:=zz Z.size;have BI:=zz (F1.o.setRow R1);have I:=AU I Z;have J:=AU J Z;have t:=zz (t.o.below Z);have U:=GJ U Z;have W:=zz (Bh W.o z.o Z);have rW:=zz (Eo (rW.o.below Z) Z.size);clear F1 G Z qQ z1 o1 tV
  generalize((wr.alloc (.cells VB 43)).setRow wr.heap.size R1)=wp at*
  obtain⟨gi,sD⟩:=AJ (wr.heap.size);rw[sD]at BI ⊢;clear sD;have iJ:(prog.info? 40).map (·.size)=some (row 297 (Ak s.fr s.F (AO VA s.V VC))).size:=Eg;obtain⟨RJ,l⟩:=AJ (row 297 (Ak s.fr s.F (AO VA s.V VC)));rw[l]at I iJ;have rq:=zz l;clear l
  go_wp2_with(first
   |(refine Ad rfl 40 _ rfl E rfl I.o _ underlying40 rfl iJ ?_)
   |(refine Ad rfl 43 _ rfl gi rfl BI.o _ underlying43 rfl i1 ?_))
  rw[←rq.o,←uf.o]
  by_cases B:codeOf s y=0
  .obtain⟨_,r9,sP⟩:=Ic qR.o.typ B
   have uy:=zz (show UF (T.drop (i+1)) (next s y) (L++Gy s y 4) (n+(Bz y.bad 4).length)=UF T (Bw R N M O) [] 0 by rw[←rU.o,tL.o];exact(Ao B).symm)
   have rQ:=zz (Ls qR.o tX.o (by have:=tY.o;have:=rC.o;omega));clear B;refine(Oj s y qR.o r9 tX.o sP VA VC LA LC wp (fun j hj=>⟨(t.o j hj).1,(t.o j hj).2.1,(t.o j hj).2.2.1⟩) rW.o).mono ?_;rintro e D ⟨q,r,RA,RC,rfl,qY,qV,hb⟩;have iN:(prog.info? 40).map (·.size)=some (row 297 (Ak (next s y).fr (next s y).F (AO q (next s y).V r))).size:=Eg;have zN:(zeroCells40).size=(row 297 (Ak (next s y).fr (next s y).F (AO q (next s y).V r))).size:=Eg
   have zM:RJ.size=(row 297 (Ak (next s y).fr (next s y).F (AO q (next s y).V r))).size:=by rw[←rq.o,Ag,Ag]
   have oN:=row_one (CP rQ.o.ok (next s y).fr (next s y).V q r);obtain⟨RN,rO⟩:=AJ (row 297 (Ak (next s y).fr (next s y).F (AO q (next s y).V r)));rw[rO]at iN zN zM oN ⊢;have uo:=zz rO;clear rO r9 sP
   have m:=zz (show Jh D (next s y) q r (WW gt E gr OA n OC)from fun j hj=>⟨(qY j hj).1,(qY j hj).2.1,(qY j hj).2.2.1,fun hn a e hx=>by have h1:=(qY j hj).2.2.2 hn a e;have h2:=tF.o _ hx;have h3:=uE.o;omega⟩)
   have f:=zz (Bf qV (show E<=wp.heap.size from Nat.le_of_lt I.o.lt))
   have sJ:=zz (show(Value.slice RA (Bz y.bad 4).length RC).ownBlock≠some E from fun e=>by have h1:=(qV.lt _ e).1;have h2:=I.o.lt;omega)
   have I:=AU I hb;have J:=AU J hb;have U:=GJ U hb;have W:=zz (Bh W.o z.o hb);clear qY qV hb;have F1:Hid (Ae (D.alloc (.cells zeroCells40 40)) D.heap.size 40 zeroCells40):=zz (Ae.fresh _ _ _);have G:Below D.heap.size D (D.alloc (.cells zeroCells40 40)):=DC
   go_upto_region 9 with(refine wpList_store_row rfl 40 _ _ rfl D.heap.size RN rfl rfl 40 _ F1.o iN zN oN ?_)
   have Z:=below_setRow G Nr RN;have BD:=zz (F1.o.setRow RN);have I:=AU I Z;have J:=AU J Z;have m:=zz (m.o.below Z);have U:=GJ U Z;have f:=GJ f Z;have W:=zz (Bh W.o z.o Z);clear F1 G Z zN
   generalize((D.alloc (.cells zeroCells40 40)).setRow D.heap.size RN)=w5 at*
   obtain⟨gd,tC⟩:=AJ (D.heap.size);rw[tC]at BD ⊢;clear tC
   have uM:IntKind.i64.wrap ((i:Int)+1)=((i+1:Nat):Int):=by rw[IntKind.wrap_i64];have:=rC.o;omega
   go_upto_region 11 with fail
   go_upto_region 12 with(first
    |(refine Ad rfl 40 _ rfl gd rfl BD.o _ underlying40 rfl iN ?_)
    |(refine wpList_store_row rfl 40 _ _ rfl E RN rfl rfl 40 _ I.o iN zM oN ?_))
   clear BD;have H:=CK w5 E RN;have sM:∀g,some E=some g->WW gt E gr OA n OC g:=fun g e=>.inr (.inl (.inl (by injection e with e;exact e.symm)));have U:=zz (U.o.kept H (.inr (Hy U.o I.o El)));have f:=zz (f.o.kept H (.inr sJ.o));have J:=zz (J.o.setRow_other (g':=E) (by have:=qX.o;omega) RN);have I:=zz (I.o.setRow RN);have m:=zz (m.o.grown H sM);have W:=zz (below_setRow W.o Nr RN);clear H sM iN zM oN
   generalize(w5.setRow E RN)=w6 at*
   obtain⟨br,uj,ul,uh,sS⟩:=(Rd.Bu f.o).2 (Oo y.bad)
   have rZ:=zz (show ∀j u,(Gy s y 4)[j]?=some u-> w6.cell? (Addr.add ⟨br,uj,none⟩ j)=some u from fun j u hu=>by rw[Addr.add_lit];exact sS j u hu)
   have rY:=zz (show(Gy s y 4).length=(Bz y.bad 4).length*14 from f.o.1)
   have sG:(Bz y.bad 4).length<=4:=Hl _ 4;have rP:=zz sG
   have sw:=zz (show E<=w6.heap.size from Nat.le_of_lt I.o.lt)
   have tu:=zz (Vn s y rQ.o);clear uh sS sG;subst ul;refine wp_region_list ?_
   iterate 2 (refine Af Bb (fun K hK=>?_);go_simp;refine hK _ _ ?_;(try simp only[Rg.lp]))
   refine EJ _ rfl (.tmp 38) (.tmp 39) 44 rfl (base:=E) NQ rfl U.o rfl (news:=Gy s y 4) rY.o rZ.o tu.o (by have:=rC.o;have:=rH.o;have:=rP.o;unfold maxLen;omega) (by have:=rC.o;have:=rH.o;have:=rP.o;omega) sw.o ?_;intro A5 C5 w7 qZ rA rD;(try simp only[Rg.lp]);have sW:=UN (X:=WW gt E gr OA n OC) rD (fun b e=>.inr (.inr e));have tK:∀g,(Value.slice OA n OC).ownBlock=some g->WZ (WW gt E gr OA n OC) (Value.slice A5 (n+(Bz y.bad 4).length) C5).ownBlock g:=fun g e=>.inl (.inr (.inr e))
   have m:=zz (((m.o.wider sW).grown rA tK).wider (Y:=WW gt E gr A5 (n+(Bz y.bad 4).length) C5) (fun b _ h=>by
    rcases h with h|h|h
    . exact .inl (.inl h)
    . exact .inl (.inr (.inl h))
    exact .inr h))
   have I:=zz (I.o.grown rA (fun e=>Hy U.o I.o El e.symm));have W:=zz (W.o.grown rA (Nat.le_trans z.o W.o.size) (fun g e=>(U.o.lt g e).1));have um:=zz qZ;clear qZ rA rD sW tK sw rZ rY tu f U tF sJ;refine Af Bb (fun K hK=>?_);go_simp;refine hK _ _ ?_;(try simp only[Rg.lp]);go_wp2_with fail
   refine⟨⟨i+1,(next s y),L++Gy s y 4,n+(Bz y.bad 4).length,q,r,A5,C5,Aa,BG,rfl,⟨rQ.o,by show s.fr+1=_;rw[tY.o];omega,by have:=rH.o;have:=rP.o;omega,uy.o⟩,by rw[uo.o];exact I.o,m.o,um.o,W.o⟩,Ck⟩
  have C:=zz (show I5 R N M O T=⟨Ld,[],0,codeOf s y⟩by rw[C.o,←rU.o,tL.o];exact Aj B)
  refine(WH s y qR.o.ok VA VC LA LC wp _ (Pd qR.o.typ B)).mono ?_;rintro e D ⟨rfl,hb⟩;obtain⟨kk,sK⟩:=AJ (codeOf s y);rw[sK]at C B ⊢
  have uH:(kk !=0)=true:=by simpa using B
  have J:=AU J hb;have W:=zz (Bh W.o z.o hb);clear sK B hb;have F1:Hid (Ae (D.alloc (.cells zeroCells40 40)) D.heap.size 40 zeroCells40):=zz (Ae.fresh _ _ _);have G:Below D.heap.size D (D.alloc (.cells zeroCells40 40)):=DC
  go_upto_region 9 with(refine wpList_store_row rfl 40 _ _ rfl D.heap.size zeroCells40 rfl rfl 40 _ F1.o iZ rfl oZ ?_)
  have Z:=below_setRow G Nr (zeroCells40);have J:=AU J Z;have W:=zz (Bh W.o z.o Z);clear F1 G Z
  generalize((D.alloc (.cells zeroCells40 40)).setRow D.heap.size zeroCells40)=w5 at*
  go_wp2_with(first
   |(refine Dj rfl 40 _ rfl (.agg zeroCells40) (sI.o _) ?_)
   |(refine wpList_store_row rfl 40 _ _ rfl gr zeroCells40 rfl rfl 40 _ J.o iZ rfl oZ ?_))
  refine CR (x:=.slice none 0 0) (y:=.int .i64 kk) rfl rfl rfl rfl (J.o.setRow zeroCells40) ⟨by rw[underlying40],iZ⟩ rfl ?_;rw[C.o];exact Kk _ (by rw[p.o];exact below_setRow (HB.o.trans (W.o.mono qU.o)) (by have:=rG.o;omega) _) _
 obtain rfl:i=T.length:=Aa;have uF:decide ((T.length:Int)<(T.length:Int))=false:=decide_eq_false Aa
 have C:=zz (show I5 R N M O T=⟨s,L,n,0⟩by rw[C.o,←rU.o,List.drop_length];rfl)
 have iJ:(prog.info? 40).map (·.size)=some (row 297 (Ak s.fr s.F (AO VA s.V VC))).size:=Eg;have zJ:(zeroCells40).size=(row 297 (Ak s.fr s.F (AO VA s.V VC))).size:=Eg;have oJ:=row_one (CP qR.o.ok s.fr s.V VA VC);obtain⟨RJ,l⟩:=AJ (row 297 (Ak s.fr s.F (AO VA s.V VC)));rw[l]at I iJ zJ oJ;have rq:=zz l;clear l
 go_wp2_with(first
  |(refine Ad rfl 40 _ rfl E rfl I.o _ underlying40 rfl iJ ?_)
  |(refine wpList_store_row rfl 40 _ _ rfl gr RJ rfl rfl 40 _ J.o iJ zJ oJ ?_))
 have H:=CK wr gr RJ
 have rE:=zz (Bf (U.o.kept H (.inr (fun e=>by have:=(U.o.lt _ e).1;have:=qX.o;omega))) (show w.heap.size<=E by rw[p.o];exact qU.o))
 refine CR rfl rfl rfl rfl (J.o.setRow RJ) ⟨by rw[underlying40],iJ⟩ rfl ?_;rw[C.o];refine⟨VA,VC,OA,OC,by rw[rq.o];rfl,fun j hj=>?_,Rd.Bu rE.o,?_,fun j hj hn a e=>?_,Db rE.o⟩
 .obtain⟨h1,h2,h3,h4⟩:=(t.o.grown H (fun g e=>.inr (.inl (.inr (by injection e with e;exact e.symm))))) j hj;exact⟨h1,h2,h3⟩
 .rw[p.o];exact below_setRow (HB.o.trans (W.o.mono qU.o)) (by have:=rG.o;omega) RJ
 rw[p.o];exact Nat.le_of_not_lt fun h=>(t.o j hj).2.2.2 hn a e (.inl h)
end Cf
namespace Cf
open Go.ChangeShapes Go.WideShapes Go.ChangeAt Go.RowKit Mem Rws Nd Cl
def XU(U N M O:Int)(ht:Wf U/\Wf N/\Wf M/\Wf O)(A:Option Addr)(c:Nat)(W:List He)(sG:∀x∈W,∀i,i<12->Wf (x.rd i))(w:World)(h:Gn w w.heap.size A W):
  Calls prog 13 #[.agg (Bn U N M O),.slice A W.length c] w fun e w'=>Qg w.heap.size w w' (I5 U N M O W).c (I5 U N M O W).n (I5 U N M O W).L (I5 U N M O W).k e:=by
 have rE:=zz h;have uI:=zz sG;have HT:=zz ht;clear h sG ht;have sJ:=zz (fun w=>(by kernel_rfl:(Instr.build 40 #[]).run prog w=.ok (.agg zeroCells40) w));have uj:=zz (fun(w:World)=>(by kernel_rfl:(Instr.alloc 40 true (.tuple #[])).run prog w=.ok (.pointer (some ⟨w.heap.size,0,none⟩)) (w.alloc (.cells zeroCells40 40))));have iZ:(prog.info? 40).map (·.size)=some (zeroCells40).size:=Ap;have oZ:(zeroCells40).all (·.oneCell')=true:=Ap
 have B2:=zz (show Ae ((w.alloc (.cells (Bn U N M O) 23)).alloc (.cells zeroCells40 40)) w.heap.size 23 (Bn U N M O)from(Ae.fresh _ _ _).alloc _)
 have B4:=zz (show Ae ((w.alloc (.cells (Bn U N M O) 23)).alloc (.cells zeroCells40 40)) (w.heap.size+1) 40 zeroCells40 from Ae.new Bq)
 have HB:=zz (((Below.refl w.heap.size w).alloc Nr (.cells (Bn U N M O) 23)).alloc Bq (.cells zeroCells40 40))
 go_in
 go_upto_region 1 with fail
 generalize((w.alloc (.cells (Bn U N M O) 23)).alloc (.cells zeroCells40 40))=w1 at*
 obtain⟨gt,r9⟩:=AJ (w.heap.size);have B:=zz r9;rw[r9]at B2 B4 HB ⊢;clear r9;obtain⟨gr,T⟩:=AJ (gt+1);have rO:=zz T;rw[T]at B4 ⊢;clear T
 by_cases t:200<W.length
 .have uy:decide ((200:Int)<(W.length:Int))=true:=decide_eq_true Aa
  have G:=zz (show I5 U N M O W=⟨Ld,[],0,6⟩from Ao t)
  clear t
  go_wp2_with(first
   |(refine Dj rfl 40 _ rfl (.agg zeroCells40) (sJ.o _) ?_)
   |(refine wpList_store_row rfl 40 _ _ rfl gr zeroCells40 rfl rfl 40 _ B4.o iZ rfl oZ ?_))
  refine CR (x:=.slice none 0 0) (y:=.int .i64 6) rfl rfl rfl rfl (B4.o.setRow zeroCells40) ⟨by rw[underlying40],iZ⟩ rfl ?_;rw[G.o];exact Kk _ (by rw[B.o];exact below_setRow HB.o (by have:=rO.o;omega) _) _
 have rF:=zz (show W.length<=200 by omega)
 have uy:decide ((200:Int)<(W.length:Int))=false:=decide_eq_false Aa
 have G:=zz (show I5 U N M O W=UF W (Bw U N M O) [] 0 from Aj t)
 have sU:=zz (Ko HT.o);clear t
 go_upto_region 3 with fail
 go_wp2_with(refine Ad rfl 23 _ rfl gt rfl B2.o _ underlying23 rfl Ap ?_)
 refine(Lg U N M O w1).mono ?_;rintro e w2 ⟨rfl,hb⟩;rw[Ow];have i0:(prog.info? 40).map (·.size)=some (row 297 (Ak (Bw U N M O).fr (Bw U N M O).F (AO (fun _=>none) (Bw U N M O).V (fun _=>0)))).size:=Eg;have z0:(zeroCells40).size=(row 297 (Ak (Bw U N M O).fr (Bw U N M O).F (AO (fun _=>none) (Bw U N M O).V (fun _=>0)))).size:=Eg;have o0:=row_one (CP sU.o.ok (Bw U N M O).fr (Bw U N M O).V (fun _=>none) (fun _=>0));obtain⟨R0,rT⟩:=AJ (row 297 (Ak (Bw U N M O).fr (Bw U N M O).F (AO (fun _=>none) (Bw U N M O).V (fun _=>0))));rw[rT]at i0 z0 o0 ⊢;have tV:=zz rT;clear rT;have F1:Hid (Ae (w2.alloc (.cells zeroCells40 40)) w2.heap.size 40 zeroCells40):=zz (Ae.fresh _ _ _);have sw:gt<=w1.heap.size:=Nat.le_of_lt B2.o.lt;have rU:gt<=w2.heap.size:=Nat.le_trans sw hb.size;have B4:=AU B4 hb
 have qV:=zz (show gr<w2.heap.size from B4.o.lt)
 have HB:=zz (HB.o.trans (hb.mono sw));have qR:=zz rU;have sW:=(Below.refl w2.heap.size w2).alloc Nr (.cells zeroCells40 40)
 go_upto_region 4 with(refine wpList_store_row rfl 40 _ _ rfl w2.heap.size R0 rfl rfl 40 _ F1.o i0 z0 o0 ?_)
 have rZ:=below_setRow sW Nr R0;have BC:=zz (F1.o.setRow R0);have B4:=AU B4 rZ;have HB:=zz (HB.o.trans (rZ.mono rU))
 have rE:=zz ((rE.o.below (by rw[B.o];exact HB.o)).more (show w.heap.size<=w2.heap.size by rw[B.o];exact qR.o))
 clear F1 i0 z0 o0 hb sw rU sW rZ B2
 generalize((w2.alloc (.cells zeroCells40 40)).setRow w2.heap.size R0)=w3 at*
 obtain⟨J,tL⟩:=AJ (w2.heap.size);rw[tL]at BC qR qV rE ⊢;clear tL
 have rD:=zz (show J<=w3.heap.size from Nat.le_of_lt BC.o.lt)
 go_wp2_with fail
 go_loopw[21,8] (fun v u wr=>∃(i:Nat) (s:Du) (L:List Value) (n:Nat) (m:Nat->Option Addr) (VC:Nat->Nat) (OA:Option Addr) (OC:Nat),i<=W.length/\v=.int .i64 (i:Int)/\u=.slice OA n OC/\(Gi s/\s.fr=(i:Int)/\n<=4*i/\UF (W.drop i) s L n=UF W (Bw U N M O) [] 0)/\Ae wr J 40 (row 297 (Ak s.fr s.F (AO m s.V VC)))/\Jh wr s m VC (WW gt J gr OA n OC)/\wr.ownsRow J 70 14 (.slice OA n OC) n L/\Below J w3 wr) (fun v _ _=>W.length-(intOf v).toNat)
 .exact⟨0,Bw U N M O,[],0,fun _=>none,fun _=>0,none,0,Aa,rfl,rfl,⟨sU.o,rfl,Nat.le_refl _,rfl⟩,by rw[tV.o];exact BC.o,fun j Z=>⟨fun _=>rfl,by show(([]:List Bool)).length<=_;simp,Rd.nil _ _ _ _,fun hn=>absurd hn (by show ¬0<(([]:List Bool)).length;simp)⟩,World.ownsRow_nil _ _ _ _,Below.refl _ _⟩
 clear BC;obtain⟨i,s,L,n,m,VC,OA,OC,hi,rfl,rfl,⟨hs,sN,tC,sI⟩,tu,sQ,tJ,rX⟩:=hrel;have BC:=zz tu;have E:=zz sQ;have HOO:=zz tJ;have HBW:=zz rX;have qZ:=zz hs;have tQ:=zz sN;have rQ:=zz tC;have su:=zz sI;have B4:=zz (B4.o.below rX qV.o);clear tu sQ tJ rX hs sN tC sI
 by_cases sD:i<W.length
 .have hx:W[i]?=some (W.getD i default):=by rw[List.getD_eq_getElem?_getD,List.getElem?_eq_getElem sD];rfl
  obtain⟨y,sO⟩:=AJ (W.getD i default);rw[sO]at hx
  have tH:=zz (show W.drop i=y::W.drop (i+1)by
   rw[List.drop_eq_getElem_cons sD];have h2:=hx;rw[List.getElem?_eq_getElem sD]at h2
   injection h2 with h2
   rw[h2])
  have tO:=zz (uI.o y (List.mem_of_getElem? hx));clear sO;have sP:=rE.o.below HBW.o;obtain⟨bi,oi,LA,LC,rfl,rM,tK,uH,uD,tY,qU⟩:=sP.at hx;have uO:(0:Int)<=(i:Int):=Aa;have uM:(i:Int)<(W.length:Int):=Aa;have uG:=zz tK;have uF:=zz (Eo qU (Nat.le_trans rD.o HBW.o.size));have uN:=zz rM
  have uf:=zz (show bi<wr.heap.size from Nat.lt_of_lt_of_le rM (Nat.le_trans rD.o HBW.o.size))
  clear tK qU sP hx rM uH uD tY
  have sZ:=zz (show ∀b,WW gt J gr OA n OC b->b<wr.heap.size from fun b h=>by
   have h0:=BC.o.lt;have h1:=qV.o;have h2:=qR.o
   rcases h with h|(h|h)|h
   . omega
   . omega
   . omega
   exact(HOO.o.lt b h).2)
  have iJ:(prog.info? 40).map (·.size)=some (row 297 (Ak s.fr s.F (AO m s.V VC))).size:=Eg;have rP:(row 297 (Ak s.fr s.F (AO m s.V VC))).size=297:=Ag _ _;obtain⟨RJ,z⟩:=AJ (row 297 (Ak s.fr s.F (AO m s.V VC)));rw[z]at BC iJ rP;have rR:=zz z;have ug:=zz rP;clear z rP;have sH:=zz (fun j (Z:j<4) (hn:0<(s.V j).length) a (e:m j=some a)=>FV (E.o j Z).2.2.1 hn e)
  have HK:=zz (show ∀w',Below wr.heap.size wr w'->(fun w'=>Ae w' J 40 RJ/\w'.rangeAt bi (oi+i*14) ((List.range 14).map (BP y.rd y.bad (.slice LA y.ls.length LC)))) w' from fun w' h=>⟨BC.o.below h BC.o.lt,bW uG.o h uf.o⟩)
  go_upto_region 8 with fail
  go_cut[10,11,12] (fun p q r wx=>∃(gA:Nat) (D:Nat->Option Addr) (d:Nat->Nat) (RA:Option Addr) (RF:Nat),p=.pointer (some ⟨gA,0,none⟩)/\q=.slice RA (Rj s y) RF/\r=.int .i64 (codeOf s y)/\Ae wx gA 40 (row 297 (Ak (Bd s y).fr (Bd s y).F (AO D (Bd s y).V d)))/\(∀j,j<4->(D j=none->d j=0)/\((Bd s y).V j).length<=d j/\Rd wx wx.heap.size 1 (D j) ((Bd s y).V j).length (Au ((Bd s y).V j))/\(0<((Bd s y).V j).length->∀a,D j=some a->nZ s m wr.heap.size a))/\Rd wx wx.heap.size 14 RA (Rj s y) (WE s y)/\(∀a,RA=some a->wr.heap.size<=a.block)/\wr.heap.size<=gA/\Below wr.heap.size wr wx)
  case first=>
   have HWB:=zz (Below.refl wr.heap.size wr).drew;have HSS:=HK.o _ HWB.o;refine wp_region_noPanic ?_;refine A8 [0,4] (fun w'=>Ae w' J 40 RJ/\w'.rangeAt bi (oi+i*14) ((List.range 14).map (BP y.rd y.bad (.slice LA y.ls.length LC)))) Ap ?_
   generalize wr.drew=wv at*
   repeat' (first
    |(refine KO 0 (.agg RJ) HSS (hy:=?_) (h:=?_);· exact fun w' qY=>Az 40 _ rfl J rfl qY.1 underlying40 rfl iJ)
    |(refine KO 4 (.agg (row 14 (BP y.rd y.bad (.slice LA y.ls.length LC)))) HSS (hy:=?_) (h:=?_);· exact fun w' qY=>BK 43 _ rfl bi (oi+i*14) 14 rfl _ _ qY.2 underlying43 rfl Ap)
    |(refine BJ 1 ?_)|(refine BJ 2 ?_)|(refine BJ 3 ?_)|(refine BJ 6 ?_)|(refine BJ 7 ?_)|(refine BJ 8 ?_)|(refine BJ 9 ?_)|(refine BJ 12 ?_)|(refine BJ 13 ?_)
    |(refine EG 5 10 ?_ ?_)|(refine DR 5 ?_)|(refine DR 10 ?_)|(refine DR 11 ?_)
    |(refine Bt ?_;intro K hK;rw[Ao Bb];(first
     |(refine Rg.Gv 40 zeroCells40 rfl (uj.o _) ?_;have hb:Below wv.heap.size wv (wv.alloc (.cells zeroCells40 40)):=DC;have BN:=zz (show Ae (wv.alloc (.cells zeroCells40 40)) wv.heap.size 40 zeroCells40 from Ae.fresh _ _ _);have HGA:=zz (show wv.heap.size<(wv.alloc (.cells zeroCells40 40)).heap.size by simp);have rC:=zz (HWB.o.size);(try(have rA:=zz (LG (fun j Z=>(HVF.o j Z).2.2.1) HRF.o)));replace HWB:=CU HWB hb;replace HSS:=HK.o _ HWB.o;(try(replace BA:=AU BA hb));(try(replace HGA:=zz (Nat.lt_of_lt_of_le HGA.o hb.size)));(try(replace HVF:=zz (fun j (Z:j<4)=>(⟨(HVF.o j Z).1,(HVF.o j Z).2.1,((HVF.o j Z).2.2.1.below hb).more hb.size,(HVF.o j Z).2.2.2⟩:_/\_/\Rd _ _ 1 (D j) ((Bd s y).V j).length (Au ((Bd s y).V j))/\_))));(try(replace HRF:=Iz HRF hb));have BA:=BN;obtain⟨gA,rY⟩:∃g,wv.heap.size=g:=⟨_,rfl⟩;rw[rY]at BA HGA rC ⊢;(try rw[rY]at rA);clear hb rY BN;generalize(wv.alloc (.cells zeroCells40 40))=wv at*)
     |(obtain⟨RQ,qQ⟩:∃R,(row 297 (Ak (Bd s y).fr (Bd s y).F (AO D (Bd s y).V d)))=R:=⟨_,rfl⟩;(have iQ:(prog.info? 40).map (·.size)=some RQ.size:=by rw[←qQ,Ag];kernel_rfl);(have zQ:(zeroCells40).size=RQ.size:=by rw[←qQ,Ag];kernel_rfl);(have oQ:RQ.all (·.oneCell')=true:=by rw[←qQ];exact row_one (CP (Nl qZ.o.typ).1 _ _ _ _));rw[qQ];refine wp_store_row 40 _ _ rfl gA RQ rfl rfl 40 _ BA.o iQ zQ oQ ?_;have T:=CK wv gA RQ;replace BA:=zz (BA.o.setRow RQ);replace HWB:=zz (below_setRow HWB.o rC.o RQ);replace HSS:=HK.o _ HWB.o;replace HVF:=zz (fun j (Z:j<4)=>(⟨(HVF.o j Z).1,(HVF.o j Z).2.1,Cr (HVF.o j Z).2.2.1 T.size (fun hn a e=>setRow_other wv gA a.block RQ (rA.o.1 j Z hn a e)),(HVF.o j Z).2.2.2⟩:_/\_/\Rd _ _ 1 (D j) ((Bd s y).V j).length (Au ((Bd s y).V j))/\_));replace HRF:=zz (Cr HRF.o T.size (fun hn a e=>setRow_other wv gA a.block RQ (rA.o.2 hn a e)));clear T iQ zQ oQ;generalize(wv.setRow gA RQ)=wv at*;rw[←qQ]at BA;clear qQ)
     |(go_simp;(go_at_call 8);have qW:=TM s y qZ.o.typ tO.o m VC LA LC wv (fun j Z=>⟨(E.o j Z).1,(E.o j Z).2.1,((E.o j Z).2.2.1.below HWB.o).more HWB.o.size⟩) (Eo (uF.o.below HWB.o) HWB.o.size);rw[rR.o]at qW;refine qW.mono ?_;rintro e wn ⟨D,d,RA,RF,rfl,H,ru,f,hb⟩;(try(have rA:=zz (ow (n:=(Rj s y)) sH.o H f rC.o HGA.o)));have rG:=zz (fun a e=>Nat.le_trans HWB.o.size (f a e));have HVF:=zz (fun j (Z:j<4)=>(⟨(H j Z).1,(H j Z).2.1,(H j Z).2.2.1,fun hn a e=>((H j Z).2.2.2 hn a e).imp id (Nat.le_trans HWB.o.size)⟩:_/\_/\_/\_));have HRF:=zz ru;replace HWB:=CU HWB hb;replace HSS:=HK.o _ HWB.o;(try(replace BA:=AU BA hb));clear H ru f hb qW;generalize wn=wv at*));refine hK.o _ _ HSS ?_;(try simp only[Rg.lp]))
    |(refine Bg Ap ?_ _;refine NoPanic.normal ?_;clear HSS;go_wp2_with fail;go_meet;exact⟨gA,D,d,RA,RF,rfl,rfl,rfl,BA.o,HVF.o,HRF.o,rG.o,rC.o,HWB.o⟩))
  obtain⟨gd,D,d,RA,RF,rfl,rfl,rfl,bd,H,ru,f,uq,hb⟩:=hcut;have BD:=zz bd;have rG:=zz f
  have uh:=zz (show J≠gd from fun e=>by have:=BC.o.lt;omega)
  have C:=zz H;have HRF:=zz ru;have uQ:=zz hb.size;have B4:=AU B4 hb;have HBW:=zz (Bh HBW.o rD.o hb)
  have uw:=zz (show J<wr.heap.size from BC.o.lt)
  have BC:=AU BC hb;have HOO:=GJ HOO hb;clear bd H ru f uq hb
  by_cases I:codeOf s y=0
  .obtain⟨_,tX,ul⟩:=Ic qZ.o.typ I
   have uE:=zz (show UF (W.drop (i+1)) (next s y) (L++Gy s y 4) (n+(Bz y.bad 4).length)=UF W (Bw U N M O) [] 0 by rw[←su.o,tH.o];exact(Ao I).symm)
   have rW:=zz (Ls qZ.o tO.o (by have:=tQ.o;have:=rF.o;omega));have e1:Bd s y=next s y:=Ao I;have e2:Rj s y=(Bz y.bad 4).length:=Ao I;have e3:WE s y=Gy s y 4:=Ao I;rw[e1]at BD C;rw[e2,e3]at HRF;rw[e2,I];clear e1 e2 e3 I tX ul;obtain⟨br,uK,sM,tZ,_⟩:=HRF.o.2 (Oo y.bad)
   have uz:=zz (show br≠J from fun e=>by have h1:=rG.o _ sM;have h2:=uw.o;have h3:wr.heap.size<=br:=h1;omega)
   subst sM;have iN:(prog.info? 40).map (·.size)=some (row 297 (Ak (next s y).fr (next s y).F (AO D (next s y).V d))).size:=Eg
   have zM:RJ.size=(row 297 (Ak (next s y).fr (next s y).F (AO D (next s y).V d))).size:=by rw[ug.o,Ag]
   have oN:=row_one (CP rW.o.ok (next s y).fr (next s y).V D d);obtain⟨RN,rV⟩:=AJ (row 297 (Ak (next s y).fr (next s y).F (AO D (next s y).V d)));rw[rV]at iN zM oN BD;have uo:=zz rV;clear rV tZ
   have HVN:=zz (show Jh wc (next s y) D d (WW gt J gr OA n OC)from fun j Z=>⟨(C.o j Z).1,(C.o j Z).2.1,(C.o j Z).2.2.1,fun hn a e hx=>by
    rcases(C.o j Z).2.2.2 hn a e with⟨j0,a0,h1,h2,h3,h4⟩|h
    . exact(E.o j0 h1).2.2.2 h2 a0 h3 (by rw[h4];exact hx)
    have:=sZ.o _ hx;omega⟩)
   have tT:=zz (show(Gy s y 4).length=(Bz y.bad 4).length*14 from HRF.o.1)
   have qX:=zz (Hl y.bad 4);have um:=zz (Vn s y rW.o)
   have uP:IntKind.i64.wrap ((i:Int)+1)=((i+1:Nat):Int):=by rw[IntKind.wrap_i64];have:=rF.o;omega
   clear C E sZ
   go_upto_region 11 with fail
   have BD:=zz BD.o.drew;have BC:=zz BC.o.drew;have B4:=zz B4.o.drew;have HOO:=zz HOO.o.drew;have HRF:=zz HRF.o.drew;have HBW:=zz HBW.o.drew;have HVN:=zz (HVN.o.below ((Below.refl _ _).drew));have HSS:=BD.o;refine wp_region_noPanic ?_;refine A8 [0] (fun w'=>Ae w' gd 40 RN) Ap ?_
   generalize wc.drew=wv at*
   repeat' (first
    |(refine KO 0 (.agg RN) HSS (hy:=?_) (h:=?_);· exact fun w' qY=>Az 40 _ rfl gd rfl qY underlying40 rfl iN)
    |(refine BJ 1 ?_)|(refine BJ 2 ?_)|(refine BJ 5 ?_)
    |(refine EG 3 4 ?_ ?_)|(refine DR 3 ?_)|(refine DR 4 ?_)
    |(refine Bt ?_;intro K hK;rw[Ao Bb];(first
     |(refine wp_store_row 40 _ _ rfl J RN rfl rfl 40 _ BC.o iN zM oN ?_;have T:=CK wv J RN;replace HOO:=zz (HOO.o.kept T (.inr (Hy HOO.o BC.o El)));replace B4:=zz (B4.o.setRow_other (g':=J) (by have:=qV.o;omega) RN);replace BD:=zz (BD.o.setRow_other (g':=J) (by have:=uh.o;omega) RN);replace BC:=zz (BC.o.setRow RN);replace HVN:=zz (HVN.o.grown T qd);replace HBW:=zz (below_setRow HBW.o Nr RN);(try(replace HRF:=zz (Cr HRF.o T.size (fun _ a e=>setRow_other wv J a.block RN (by injection e with e;subst e;exact uz.o)))));replace HSS:=BD.o;clear T;generalize(wv.setRow J RN)=wv at*)
     |(refine Kl wv (.tmp 39) (.tmp 40) 44 rfl (base:=J) NQ rfl HOO.o rfl tT.o (lT HRF.o (Oo y.bad)) um.o (by have:=rF.o;have:=rQ.o;have:=qX.o;unfold maxLen;omega) (by have:=rF.o;have:=rQ.o;have:=qX.o;omega) (Nat.le_of_lt BC.o.lt) ?_;intro A5 C5 wn rq l rH;have sS:=UN (X:=WW gt J gr OA n OC) rH (fun b e=>.inr (.inr e));(have tF:∀g,(Value.slice OA n OC).ownBlock=some g->WZ (WW gt J gr OA n OC) (Value.slice A5 (n+(Bz y.bad 4).length) C5).ownBlock g:=fun g e=>.inl (.inr (.inr e)));replace HVN:=zz (((HVN.o.wider sS).grown l tF).wider (Y:=WW gt J gr A5 (n+(Bz y.bad 4).length) C5) jL);replace HBW:=zz (HBW.o.grown l (Nat.le_trans rD.o HBW.o.size) (fun g e=>(HOO.o.lt g e).1));replace BD:=zz (BD.o.grown l (fun e=>Hy HOO.o BD.o El e.symm));replace B4:=zz (B4.o.grown l (fun e=>Hy HOO.o B4.o El e.symm));replace BC:=zz (BC.o.grown l (fun e=>Hy HOO.o BC.o El e.symm));replace HOO:=zz rq;replace HSS:=BD.o;clear rq l rH sS tF HRF;generalize wn=wv at*));refine hK.o _ _ HSS ?_;(try simp only[Rg.lp]))
    |(refine Bg Ap ?_ _;refine NoPanic.normal ?_;clear HSS;go_wp2_with fail;refine⟨⟨i+1,next s y,L++Gy s y 4,n+(Bz y.bad 4).length,D,d,A5,C5,Aa,BG,rfl,⟨rW.o,by show s.fr+1=_;rw[tQ.o];omega,by have:=rQ.o;have:=qX.o;omega,uE.o⟩,by rw[uo.o];exact BC.o,HVN.o,HOO.o,HBW.o⟩,Ck⟩))
  have G:=zz (show I5 U N M O W=⟨Ld,[],0,codeOf s y⟩by rw[G.o,←su.o,tH.o];exact Aj I)
  obtain⟨kk,sK⟩:=AJ (codeOf s y);rw[sK]at G I ⊢
  have uL:(kk !=0)=true:=by simpa using I
  clear sK I C HRF rG
  go_wp2_with(first
   |(refine Dj rfl 40 _ rfl (.agg zeroCells40) (sJ.o _) ?_)
   |(refine wpList_store_row rfl 40 _ _ rfl gr zeroCells40 rfl rfl 40 _ B4.o iZ rfl oZ ?_))
  refine CR (x:=.slice none 0 0) (y:=.int .i64 kk) rfl rfl rfl rfl (B4.o.setRow zeroCells40) ⟨by rw[underlying40],iZ⟩ rfl ?_;rw[G.o];exact Kk _ (by rw[B.o];exact below_setRow (HB.o.trans (HBW.o.mono qR.o)) (by have:=rO.o;omega) _) _
 obtain rfl:i=W.length:=Aa;have uJ:decide ((W.length:Int)<(W.length:Int))=false:=decide_eq_false Aa
 have G:=zz (show I5 U N M O W=⟨s,L,n,0⟩by rw[G.o,←su.o,List.drop_length];rfl)
 have iJ:(prog.info? 40).map (·.size)=some (row 297 (Ak s.fr s.F (AO m s.V VC))).size:=Eg;have zJ:(zeroCells40).size=(row 297 (Ak s.fr s.F (AO m s.V VC))).size:=Eg;have oJ:=row_one (CP qZ.o.ok s.fr s.V m VC);obtain⟨RJ,z⟩:=AJ (row 297 (Ak s.fr s.F (AO m s.V VC)));rw[z]at BC iJ zJ oJ;have rR:=zz z;clear z
 go_wp2_with(first
  |(refine Ad rfl 40 _ rfl J rfl BC.o _ underlying40 rfl iJ ?_)
  |(refine wpList_store_row rfl 40 _ _ rfl gr RJ rfl rfl 40 _ B4.o iJ zJ oJ ?_))
 have T:=CK wr gr RJ
 have rJ:=zz (Bf (HOO.o.kept T (.inr (fun e=>by have:=(HOO.o.lt _ e).1;have:=qV.o;omega))) (show w.heap.size<=J by rw[B.o];exact qR.o))
 refine CR rfl rfl rfl rfl (B4.o.setRow RJ) ⟨by rw[underlying40],iJ⟩ rfl ?_;rw[G.o];refine⟨m,VC,OA,OC,by rw[rR.o];rfl,fun j Z=>?_,Rd.Bu rJ.o,?_,fun j Z hn a e=>?_,Db rJ.o⟩
 .obtain⟨h1,h2,h3,h4⟩:=(E.o.grown T (fun g e=>.inr (.inl (.inr (by injection e with e;exact e.symm))))) j Z;exact⟨h1,h2,h3⟩
 .rw[B.o];exact below_setRow (HB.o.trans (HBW.o.mono qR.o)) (by have:=rO.o;omega) RJ
 rw[B.o];exact Nat.le_of_not_lt fun h=>(E.o j Z).2.2.2 hn a e (.inl h)
end Cf
end Go.Proofs.YtjobajeggllmiaaGreat
