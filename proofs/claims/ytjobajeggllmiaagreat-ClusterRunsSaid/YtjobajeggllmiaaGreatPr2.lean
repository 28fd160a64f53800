/- The law ClusterRuns returns true: cluster.Run and the reference's Run answer one and the same for every tuning and every list of inputs, what is refused too. Conditions: none. -/
import Derived.Test.YtjobajeggllmiaaGreatPc0
import Derived.Test.YtjobajeggllmiaaGreatPr1
set_option linter.all false
set_option maxHeartbeats 100000000
set_option maxRecDepth 100000
namespace Go.Proofs.YtjobajeggllmiaaGreat
open Rg _root_.Go.Proofs.Tryz
namespace lawClusterRuns
open Go.ChangeShapes Go.WideShapes Go.ChangeAt Go.RowKit Mem Rws Nd Cl Cf
def walk(U N M T:Int)(ht:Wf U/\Wf N/\Wf M/\Wf T)(A:Option Addr)(c:Nat)(z:List He)(rq:z.length*128<=140737488351232)(qU:∀y∈z,y.ls.length*40<=140737488351232)(u:∀y∈z,∀i,i<12->Wf (y.rd i))(w:World)(h:Gn w w.heap.size A z):
  Calls prog 4 #[.agg (Bn U N M T),.slice A z.length c] w fun e w'=>e=.returned (.bool true)/\Below w.heap.size w w':=by
 have HT:=zz ht;have ru:=zz u;have qR:=zz h;have rE:=zz rq;have rA:=zz qU;obtain⟨O,hO⟩:=AJ (I5 U N M T z);have m:=mV ht u;rw[hO]at m;have J:=zz m;have HO:=zz hO;clear ht u h rq qU m hO;have iT:(prog.info? 23).map (·.size)=some ((Bn U N M T):Array Value).size:=Ap;have rC:=zz (fun(w:World)=>(by kernel_rfl:(Instr.alloc 40 true (.tuple #[])).run prog w=.ok (.pointer (some ⟨w.heap.size,0,none⟩)) (w.alloc (.cells zeroCells40 40))))
 have BT:=zz (show Ae (w.alloc (.cells (Bn U N M T) 23)) w.heap.size 23 (Bn U N M T)from Ae.new rfl)
 have HB:=zz ((Below.refl w.heap.size w).alloc Nr (.cells (Bn U N M T) 23))
 go_in
 go_upto_region 1 with fail
 generalize(w.alloc (.cells (Bn U N M T) 23))=w1 at*
 go_cut[5,6,7] (fun p q r l=>∃(I:Nat) (W:Nat->Option Addr) (v:Nat->Nat) (d:Option Addr) (RF:Nat),p=.pointer (some ⟨I,0,none⟩)/\q=.slice d O.n RF/\r=.int .i64 O.k/\Ae l I 40 (row 297 (Ak O.c.fr O.c.F (AO W O.c.V v)))/\(∀i,i<4->(W i=none->v i=0)/\(O.c.V i).length<=v i/\Rd l l.heap.size 1 (W i) (O.c.V i).length (Au (O.c.V i)))/\Rd l l.heap.size 14 d O.n O.L/\Ae l w.heap.size 23 (Bn U N M T)/\Below w.heap.size w l)
 case first=>
  have BT:=zz BT.o.drew;have HB:=zz HB.o.drew;have HSS:(fun w'=>Ae w' w.heap.size 23 (Bn U N M T)) w1.drew:=BT.o;refine wp_region_noPanic ?_;refine A8 [0] (fun w'=>Ae w' w.heap.size 23 (Bn U N M T)) Ap ?_
  generalize w1.drew=wv at*
  repeat' (first
   |(refine KO 0 (.agg (Bn U N M T)) HSS (hy:=?_) (h:=?_);· exact fun w' rD=>Az 23 _ rfl w.heap.size rfl rD underlying23 rfl iT)
   |(refine BJ 1 ?_)|(refine BJ 4 ?_)|(refine BJ 5 ?_)|(refine BJ 6 ?_)|(refine BJ 7 ?_)|(refine BJ 10 ?_)|(refine BJ 11 ?_)
   |(refine EG 2 8 ?_ ?_)|(refine EG 3 8 ?_ ?_)|(refine DR 2 ?_)|(refine DR 3 ?_)|(refine DR 8 ?_)|(refine DR 9 ?_)
   |(refine Bt ?_;intro K hK;rw[Ao Bb];(first
    |(refine Rg.Gv 40 zeroCells40 rfl (rC.o _) ?_;have hb:Below wv.heap.size wv (wv.alloc (.cells zeroCells40 40)):=DC;have BN:=zz (show Ae (wv.alloc (.cells zeroCells40 40)) wv.heap.size 40 zeroCells40 from Ae.fresh _ _ _);have HGA:=zz (show wv.heap.size<(wv.alloc (.cells zeroCells40 40)).heap.size by simp);have s:=zz (BT.o.lt);(try(have B:=zz (LG (fun i hi=>(HVF.o i hi).2.2) HRF.o)));replace BT:=AU BT hb;replace HB:=CU HB hb;replace HSS:=BT.o;(try(replace HI4:=zz ((HI4.o.below hb).more hb.size)));(try(replace BA:=AU BA hb));(try(replace HGA:=zz (Nat.lt_of_lt_of_le HGA.o hb.size)));(try(replace HVF:=zz (fun i (hi:i<4)=>(⟨(HVF.o i hi).1,(HVF.o i hi).2.1,((HVF.o i hi).2.2.below hb).more hb.size⟩:_/\_/\Rd _ _ 1 (W i) (O.c.V i).length (Au (O.c.V i))))));(try(replace HRF:=Iz HRF hb));have BA:=BN;obtain⟨I,j⟩:∃g,wv.heap.size=g:=⟨_,rfl⟩;rw[j]at BA HGA s ⊢;(try rw[j]at B);clear hb j BN;generalize(wv.alloc (.cells zeroCells40 40))=wv at*)
    |(obtain⟨X,Z⟩:∃R,(row 297 (Ak O.c.fr O.c.F (AO W O.c.V v)))=R:=⟨_,rfl⟩;(have b:(prog.info? 40).map (·.size)=some X.size:=by rw[←Z,Ag];kernel_rfl);(have zQ:(zeroCells40).size=X.size:=by rw[←Z,Ag];kernel_rfl);(have oQ:X.all (·.oneCell')=true:=by rw[←Z];exact row_one (CP J.o.1 _ _ _ _));rw[Z];refine wp_store_row 40 _ _ rfl I X rfl rfl 40 _ BA.o b zQ oQ ?_;have t:=CK wv I X;replace BA:=zz (BA.o.setRow X);replace BT:=zz (BT.o.setRow_other (g':=I) (by have:=s.o;omega) X);replace HSS:=BT.o;replace HB:=zz (below_setRow HB.o (show w.heap.size<=I by have:=s.o;omega) X);replace HVF:=zz (fun i (hi:i<4)=>(⟨(HVF.o i hi).1,(HVF.o i hi).2.1,Cr (HVF.o i hi).2.2 t.size (fun hn a e=>setRow_other wv I a.block X (B.o.1 i hi hn a e))⟩:_/\_/\Rd _ _ 1 (W i) (O.c.V i).length (Au (O.c.V i))));replace HRF:=zz (Cr HRF.o t.size (fun hn a e=>setRow_other wv I a.block X (B.o.2 hn a e)));clear t b zQ oQ;generalize(wv.setRow I X)=wv at*;rw[←Z]at BA;clear Z)
    |(go_simp;(first
     |((go_at_call 7);refine(Q7 A c z wv rE.o rA.o ((qR.o.below HB.o).more HB.o.size)).mono ?_;rintro e wv ⟨A4,c4,rfl,_,_,qQ,hb⟩;replace BT:=AU BT hb;replace HB:=CU HB hb;replace HSS:=BT.o;(try(replace HI4:=zz ((HI4.o.below hb).more hb.size)));(try(replace BA:=AU BA hb));(try(replace HGA:=zz (Nat.lt_of_lt_of_le HGA.o hb.size)));(try(replace HVF:=zz (fun i (hi:i<4)=>(⟨(HVF.o i hi).1,(HVF.o i hi).2.1,((HVF.o i hi).2.2.below hb).more hb.size⟩:_/\_/\Rd _ _ 1 (W i) (O.c.V i).length (Au (O.c.V i))))));(try(replace HRF:=Iz HRF hb));have HI4:=zz qQ;clear qQ hb)
     |((go_at_call 12);have H:=Xb U N M T HT.o A4 c4 z ru.o wv HI4.o;rw[HO.o]at H;refine H.mono ?_;rintro e wv ⟨W,v,d,RF,rfl,G,C,hb,qX,qW⟩;(try(have B:=zz (Qz (n:=O.n) qX qW HGA.o)));replace BT:=AU BT hb;replace HB:=CU HB hb;replace HSS:=BT.o;(try(replace HI4:=zz ((HI4.o.below hb).more hb.size)));(try(replace BA:=AU BA hb));(try(replace HGA:=zz (Nat.lt_of_lt_of_le HGA.o hb.size)));(try(replace HVF:=zz (fun i (hi:i<4)=>(⟨(HVF.o i hi).1,(HVF.o i hi).2.1,((HVF.o i hi).2.2.below hb).more hb.size⟩:_/\_/\Rd _ _ 1 (W i) (O.c.V i).length (Au (O.c.V i))))));(try(replace HRF:=Iz HRF hb));have HVF:=zz G;have HRF:=zz C;clear G C hb qX qW H))));refine hK.o _ _ HSS ?_;(try simp only[Rg.lp]))
   |(refine Bg Ap ?_ _;refine NoPanic.normal ?_;clear HSS;go_wp2_with fail;go_meet;exact⟨I,W,v,d,RF,rfl,rfl,rfl,BA.o,HVF.o,HRF.o,BT.o,HB.o⟩))
 clear BT HB;obtain⟨I,W,v,d,RF,rfl,rfl,rfl,ba,G,C,bt,hb⟩:=hcut;have BA:=zz ba;have BT:=zz bt;have HB:=zz hb;have HVF:=zz G;have HRF:=zz C;clear ba bt hb G C
 go_wp2_with(refine Ad rfl 23 _ rfl w.heap.size rfl BT.o _ underlying23 rfl iT ?_)
 have f:=zz (XU U N M T HT.o A c z ru.o wc ((qR.o.below HB.o).more HB.o.size));rw[HO.o]at f;refine f.o.mono ?_;rintro e x ⟨VG,VE,RB,RG,rfl,qZ,qY,hb,_,_⟩;have BA:=AU BA hb;have HVF:=zz (fun i (hi:i<4)=>(⟨(HVF.o i hi).1,(HVF.o i hi).2.1,((HVF.o i hi).2.2.below hb).more hb.size⟩:_/\_/\Rd _ _ 1 (W i) (O.c.V i).length (Au (O.c.V i))));have HRF:=Iz HRF hb;have HB:=CU HB hb;have E:=zz qZ;have D:=zz qY;clear qZ qY hb BT f;obtain⟨X,Z⟩:=AJ (row 297 (Ak O.c.fr O.c.F (AO VG O.c.V VE)))
 have b:(prog.info? 40).map (·.size)=some X.size:=by rw[←Z,Ag];kernel_rfl
 have zQ:(zeroCells40).size=X.size:=by rw[←Z,Ag];kernel_rfl
 have oQ:X.all (·.oneCell')=true:=by rw[←Z];exact row_one (CP J.o.1 _ _ _ _)
 rw[Z];have qV:=zz Z;have F1:Hid (Ae (x.alloc (.cells zeroCells40 40)) x.heap.size 40 zeroCells40):=zz (Ae.fresh _ _ _)
 go_upto_region 3 with(refine wpList_store_row rfl 40 _ _ rfl x.heap.size X rfl rfl 40 _ F1.o b zQ oQ ?_)
 have Y:=below_setRow ((Below.refl x.heap.size x).alloc Nr (.cells zeroCells40 40)) Nr X;have BB:=zz (F1.o.setRow X);have BA:=AU BA Y;have HVF:=zz (fun i (hi:i<4)=>(⟨(HVF.o i hi).1,(HVF.o i hi).2.1,((HVF.o i hi).2.2.below Y).more Y.size⟩:_/\_/\Rd _ _ 1 (W i) (O.c.V i).length (Au (O.c.V i))));have HRF:=Iz HRF Y;have E:=zz (fun i (hi:i<4)=>(⟨(E.o i hi).1,(E.o i hi).2.1,((E.o i hi).2.2.below Y).more Y.size⟩:_/\_/\Rd _ _ 1 (VG i) (O.c.V i).length (Au (O.c.V i))));have D:=Iz D Y;have HB:=CU HB Y;clear F1 Y b zQ oQ Z
 generalize((x.alloc (.cells zeroCells40 40)).setRow x.heap.size X)=w6 at*
 obtain⟨gB,hg⟩:=AJ (x.heap.size);rw[hg]at BB ⊢;rw[←qV.o]at BB;clear hg qV;have rF:(O.k==O.k)=true:=Bq
 have iA:∀(VX:Nat->Option Addr) (VY:Nat->Nat),(prog.info? 40).map (·.size)=some (row 297 (Ak O.c.fr O.c.F (AO VX O.c.V VY))).size:=fun _ _=>by rw[Ag];kernel_rfl
 refine wp_region_list ?_
 iterate 4 (refine Af Bb (fun K hK=>?_);go_simp;refine hK _ _ ?_;(try simp only[Rg.lp]))
 refine Ad Bb 40 _ rfl I rfl BA.o _ underlying40 rfl (iA _ _) ?_;(try simp only[Rg.lp]);refine Ad Bb 40 _ rfl gB rfl BB.o _ underlying40 rfl (iA _ _) ?_;(try simp only[Rg.lp]);refine Af Bb (fun K hK=>?_);go_simp
 go_at_call 10
 refine(OT O.c.fr O.c.F J.o.1 O.c.V (fun i hi=>Nat.le_trans (J.o.2.1 i hi) El) W VG v VE w6 (fun i hi=>(HVF.o i hi).2.2) (fun i hi=>(E.o i hi).2.2)).mono ?_;rintro e w7 ⟨rfl,hb⟩;have HRF:=Iz HRF hb;have D:=Iz D hb;have HB:=CU HB hb;clear hb iA;refine hK _ _ ?_;(try simp only[Rg.lp])
 iterate 4 (refine Af Bb (fun K hK=>?_);go_simp;refine hK _ _ ?_;(try simp only[Rg.lp]))
 refine Af Bb (fun K hK=>?_);go_simp
 go_at_call 11
 refine(Nk O.n J.o.2.2.2 O.L J.o.2.2.1.2 d RB RF RG w7 HRF.o D.o).mono ?_;rintro e w8 ⟨rfl,hb⟩;have HB:=CU HB hb;clear hb;refine hK _ _ ?_;(try simp only[Rg.lp]);go_wp2_with fail
 go_ret
 exact⟨rfl,HB.o⟩
def lifted(os:Os)(Y:os.Started)(H:Type)(enc:TypeId×Value->H):
  ReturnsInHanded {} Tryz.checked os 4 .any (Rows.clusterRunsSpec.pre6 enc prog Tryz.f4 Rows.clusterRunsRow.domain false) (Rows.clusterRunsSpec.post enc prog Tryz.f4 false true false false):=by
 refine returnsInHanded_of_change_sized (C:=Tryz.checked) Fr.own Y Ap func4
  (ChangeSpec.witness6 (enc:=enc) (C:=Tryz.checked) false ⟨#[],#[.agg bR,.slice none 0 0],[]⟩ 8 Ap Ap Ap Ap) ?_
 intro W base Z d gs z V n _ T _;have X:∀(j:Nat) t v,Tryz.f4.params[j]?=some t->Z[j]?=some v->Value.okWide prog W .any base t v:=V;have N:(DataW.weightsEach prog (Tryz.f4.params.toList++Rows.clusterRunsSpec.plain.varTypes prog) (d++gs)).all (· <=reachBytes)=true:=T;clear V T;obtain⟨p,q,G,B,_⟩:=id n;have o:DataW.TrodAll enc prog W 0 (fun _=>true) true Tryz.f4.params.toList Z.toList d p:=G;rw[Tryz.params4]at o X N;obtain⟨m,qW,d0,qR,p0,q0,s,rfl,rfl,h0,r0⟩:=trodAll_cons o;obtain⟨c,qV,d1,qX,p1,q1,rfl,rfl,rfl,h1,r1⟩:=trodAll_cons r0;obtain⟨rfl,rfl,rfl⟩:=trodAll_nil r1
 obtain rfl:Z=#[m,c]:=by cases Z;simp_all
 obtain⟨rfl,rfl⟩:=trodVars_none B
 refine Fr.YV (f:=Tryz.f4) Fr.laidOut (by rw[Tryz.params4];intro t O;simp at O;(first|(rcases O with rfl|rfl|rfl|rfl|rfl|rfl)|(rcases O with rfl|rfl|rfl|rfl|rfl)|(rcases O with rfl|rfl|rfl|rfl)|(rcases O with rfl|rfl|rfl)|(rcases O with rfl|rfl)|(subst O))<;>exact⟨Ap,of_decide_eq_true Ap⟩) rfl rfl underlying4 (fun _=>rfl) n ?_
 clear n o G B;obtain⟨qQ,rfl⟩:=Op.MH (t:=23) Ap (X 0 23 m rfl rfl);have U:=Op.QN (ls:=[3,3,3,3]) Ap h0 (Op.Ii (j:=0) N rfl rfl);obtain⟨l,r,e0,E,U⟩:=U.cons;obtain⟨g,r,rfl,I,U⟩:=U.cons;obtain⟨k,r,rfl,A,U⟩:=U.cons;obtain⟨i,r,rfl,F,U⟩:=U.cons;obtain rfl:=U.nR;obtain rfl:=Op.nO e0;obtain⟨t0,rfl,L⟩:=E.int underlying3;obtain⟨t1,rfl,M⟩:=I.int underlying3;obtain⟨t2,rfl,J⟩:=A.int underlying3;obtain⟨t3,rfl,R⟩:=F.int underlying3;obtain⟨AI,ci,xs,rfl,qU,b,_,y,D⟩:=Cf.Wj (X 1 49 c rfl rfl) h1 (Op.Ii (j:=1) N rfl rfl);exact walk t0 t1 t2 t3 ⟨L,M,J,R⟩ AI ci xs Aa (fun x u=>(D x u).2.2) (fun x u=>(D x u).1.1) W y
def Lc:joinedFacts prog 4 Tryz.f4 Rows.clusterRunsSpec Rows.clusterRunsRow=true:=by
 unfold joinedFacts
 simp only[Bool.and_eq_true];refine⟨⟨⟨⟨⟨⟨⟨⟨⟨⟨⟨⟨⟨⟨⟨⟨⟨⟨⟨⟨⟨⟨⟨⟨⟨⟨⟨⟨⟨⟨⟨?_,?_⟩,?_⟩,?_⟩,?_⟩,?_⟩,?_⟩,?_⟩,?_⟩,?_⟩,?_⟩,?_⟩,?_⟩,?_⟩,?_⟩,?_⟩,?_⟩,?_⟩,?_⟩,?_⟩,?_⟩,?_⟩,?_⟩,?_⟩,?_⟩,?_⟩,?_⟩,?_⟩,?_⟩,?_⟩,?_⟩,?_⟩
 . as_aux_lemma=>kernel_rfl
 . exact Fr.laidOut
 . exact Facts.Qa
 . as_aux_lemma=>kernel_rfl
 . as_aux_lemma=>kernel_rfl
 . as_aux_lemma=>kernel_rfl
 . exact Facts.jG
 . as_aux_lemma=>kernel_rfl
 . exact Facts.fF
 . as_aux_lemma=>kernel_rfl
 . as_aux_lemma=>kernel_rfl
 . as_aux_lemma=>kernel_rfl
 . as_aux_lemma=>kernel_rfl
 . as_aux_lemma=>kernel_rfl
 . as_aux_lemma=>kernel_rfl
 . as_aux_lemma=>kernel_rfl
 . as_aux_lemma=>kernel_rfl
 . as_aux_lemma=>kernel_rfl
 . as_aux_lemma=>kernel_rfl
 . as_aux_lemma=>kernel_rfl
 . as_aux_lemma=>kernel_rfl
 . as_aux_lemma=>kernel_rfl
 . exact Facts.ng
 . as_aux_lemma=>kernel_rfl
 . exact Facts.fA
 . exact Facts.gW
 . exact Facts.eu
 . exact Facts.nM
 . as_aux_lemma=>kernel_rfl
 . as_aux_lemma=>kernel_rfl
 . as_aux_lemma=>kernel_rfl
 as_aux_lemma=>kernel_rfl
theorem proved:Rows.ClusterRunsSaid:=
 OpenClaim.holds_of_wide 4 Tryz.f4 rfl rfl rfl rfl rfl rfl rfl ⟨rfl,rfl,rfl,rfl,rfl⟩ rfl rfl rfl rfl rfl Ap func4 Lc
  (of_decide_eq_true Ap) (by unfold Func.isWrapper;first|(rw[Ao (by decide+kernel)];kernel_rfl)|(rw[Aj (by decide+kernel)];exact⟨rfl,rfl⟩))
  (fun os Z H enc _=>lifted os Z H enc)
end lawClusterRuns
end Go.Proofs.YtjobajeggllmiaaGreat
