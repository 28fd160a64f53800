import Derived.Test.YtjobajeggllmiaaGreatPc0
import Derived.Test.YtjobajeggllmiaaGreatPc15
set_option linter.all false
set_option maxHeartbeats 100000000
set_option maxRecDepth 100000
namespace Go.Proofs.YtjobajeggllmiaaGreat
open Ms Rg _root_.Go.Proofs.Tryz
namespace Nd
open Go.RowKit Mem Rws Flat
def dw(f:Nat->Value)(hf:∀i,i<73->C9 (Ar i) (f i))(k:Nat)(hk:k<4)(uF:f 0=.int .i64 (k:Int))(fr:Int)(uj:f 1=.int .i64 fr)(A:Option Addr)(c:Nat)(J:List Bool)(AI:Option Addr)(ci:Nat)(ms:List Cw)(B:Nat)(w:World)(hB:B<=w.heap.size)(hA:A=none->c=0)(uN:J.length<=c)(hl:J.length<=140737488351232)(hr:Rd w B 1 A J.length (Au J))(uM:ms.length<=140737488355328)(hm:Cc w B AI ms)(hw:∀i z,i<73->f i=.int .i64 z->Wf z)(tQ:∀m∈ms,∀z∈m.zs,Wf z):
  Calls prog 20 #[.agg (row 74 (Ab f (.slice A J.length c))),.slice AI ms.length ci] w fun e w'=>Ej w w' (DW (E9 k fr ms f) f) (ET (E9 k fr ms f) (Gz f)) 5 (k:Int) fr (Fy (DW (E9 k fr ms f) f)) e:=by
 have rT:∀(A:Option Addr) (n c:Nat),(row 74 (Ab f (.slice A n c))).all (·.oneCell')=true:=fun A n c=>Cv hf;have tK:=zz (PI hf hw tQ k fr);clear hw tQ;have HO:=zz rT;have HF:=zz hf;have sH:=zz uF;have sS:=zz uj;clear hf rT uF uj
 go_in
 go_upto_region 1 with fail
 have D3:Hid (Ae (((w.alloc (.cells (row 74 (Ab f (.slice A J.length c))) 37)).alloc (.cells zeroCells37 37)).alloc (.cells QV 65)) w.heap.size 37 (row 74 (Ab f (.slice A J.length c)))):=zz (((Ae.new rfl).alloc _).alloc _);have D6:Hid (Ae (((w.alloc (.cells (row 74 (Ab f (.slice A J.length c))) 37)).alloc (.cells zeroCells37 37)).alloc (.cells QV 65)) (w.heap.size+1) 37 zeroCells37):=zz ((Ae.new Bq).alloc _);have D7:Hid (Ae (((w.alloc (.cells (row 74 (Ab f (.slice A J.length c))) 37)).alloc (.cells zeroCells37 37)).alloc (.cells QV 65)) (w.heap.size+1+1) 65 QV):=zz (Ae.new Bq);have X:=zz (((((Below.refl w.heap.size w).alloc Nr (.cells (row 74 (Ab f (.slice A J.length c))) 37)).alloc Bq (.cells zeroCells37 37)).alloc Ec (.cells QV 65)));have HR:=zz hr;have u6:=zz hm;clear hr hm
 generalize(((w.alloc (.cells (row 74 (Ab f (.slice A J.length c))) 37)).alloc (.cells zeroCells37 37)).alloc (.cells QV 65))=W at*
 have rU:∀A (n:Nat) c,(prog.info? 37).map (·.size)=some (row 74 (Ab f (.slice A n c))).size:=fun A n c=>by rw[Ag];kernel_rfl
 have HI:=zz rU;clear rU;have vF:w.heap.size+1+1<W.heap.size:=D7.o.lt;have uE:=HI.o A J.length c;obtain⟨R1,rZ⟩:=AJ (row 74 (Ab f (.slice A J.length c)));have rW:=zz rZ;rw[rZ]at D3 uE;clear rZ
 go_wp2_with(refine Ad rfl 37 _ rfl w.heap.size rfl D3.o _ underlying37 rfl uE ?_)
 rw[←rW.o];refine(Ho f HF.o A c J B _ (Nat.le_trans hB X.o.size) hA uN hl (HR.o.below (X.o.mono hB))).mono ?_;rintro e w1 ⟨A2,c2,rfl,rQ,qW⟩;rw[rW.o];have uD:=zz rQ;have uh:=CU X qW;have uW:=qW.size;have rE:=HI.o A2 J.length c2;have r9:=HO.o A2 J.length c2
 have rJ:(row 74 (Ab f (.slice A2 J.length c2)))[0]?=some (.int .i64 (k:Int)):=by rw[Ah Aa];exact congrArg some sH.o
 have uG:(row 74 (Ab f (.slice A2 J.length c2)))[1]?=some (.int .i64 fr):=by rw[Ah Aa];exact congrArg some sS.o
 have sG:R1.size=(row 74 (Ab f (.slice A2 J.length c2))).size:=by rw[←rW.o,Ag,Ag]
 obtain⟨R2,su⟩:=AJ (row 74 (Ab f (.slice A2 J.length c2)));have uq:=zz su;rw[su]at rE r9 rJ uG sG ⊢;clear su;have E3:=AU D3 qW;have F3:=zz (E3.o.setRow R2);have F6:=zz ((D6.o.below qW D6.o.lt).setRow_other (g':=w.heap.size) Aa R2);have F7:=zz ((D7.o.below qW D7.o.lt).setRow_other (g':=w.heap.size) Aa R2);have uw:=zz (below_setRow uh.o Nr R2)
 have tT:=zz (Ay uD.o (show w.heap.size<W.heap.size by omega) R2)
 have cT:=fun w=>Gu R2 (k:Int) rJ w;have vw:¬((k:Int)<0):=Aa
 have uH:Dt (k:Int)=false:=by unfold Dt;simp;omega
 rw[uH]at cT;clear qW rQ uH
 go_upto_region 4 with(first
  |(refine wpList_store_row rfl 37 _ _ rfl w.heap.size R2 rfl rfl 37 _ E3.o rE sG r9 ?_)
  |(refine Ad rfl 37 _ rfl w.heap.size rfl F3.o _ underlying37 rfl rE ?_)
  |(go_at_call 37;refine(cT _).mono ?_;rintro e w3 ⟨rfl,qR⟩;have G3:=AU F3 qR;have G6:=AU F6 qR;have Y:=AU F7 qR;have rF:=CU uw qR;have uV:=GJ tT qR;have uQ:=Nat.le_trans uW (Nat.le_trans (show w1.heap.size<=(w1.setRow w.heap.size R2).heap.size from(below_setRow (Below.refl 0 w1) (Nat.zero_le _) R2).size) qR.size);clear qR))
 clear X uh uw uD tT D3 D6 D7 E3 F3 F6 F7 cT sG;have cH:=La R2 (k:Int) fr rJ uG AI ci ms 2 4 Aa B w3 (Nat.le_trans hB rF.o.size) uM (u6.o.below (rF.o.mono hB))
 rw[show((4:Nat):Int)=4 from rfl]at cH
 have CH:=zz cH;clear cH
 go_wp2_with(refine Ad rfl 37 _ rfl w.heap.size rfl G3.o _ underlying37 rfl rE ?_)
 refine CH.o.mono ?_;rintro e l ⟨s,rfl,hs,hb⟩;have G3:=AU G3 hb;have G6:=AU G6 hb;have Y:=AU Y hb;have X:=CU rF hb;have uy:=zz (fun i hi=>F8.of (hs i hi));have uR:=zz (Y.o.lt);have o4:(row 4 s).all (·.oneCell')=true:=row_one fun i hi=>(hs i hi).one;have i4:(prog.info? 88).map (·.size)=some (row 4 s).size:=Eg
 have z4:(VS:Array Value).size=(row 4 s).size:=by rw[Ag];rfl
 rw[←uq.o]at G3;clear hs hb uV rF CH r9 rE HR uQ;obtain⟨R4,sO⟩:=AJ (row 4 s);rw[sO]at o4 i4 z4 ⊢;have uY:=zz sO;clear sO;have sN:=zz (Ae.fresh l 88 VS)
 go_upto_region 6 with(refine wpList_store_row rfl 88 _ _ rfl l.heap.size R4 rfl rfl 88 _ sN.o i4 z4 o4 ?_)
 have HH:=zz (show Ae (((l.alloc (.cells VS 88)).setRow l.heap.size R4).alloc (.cells bR 28)) l.heap.size 88 R4 from(sN.o.setRow R4).alloc _)
 have M:=zz (show Ae (((l.alloc (.cells VS 88)).setRow l.heap.size R4).alloc (.cells bR 28)) (l.heap.size+1) 28 (BH .i64 4 fun _=>0)from Ae.new Bq)
 have qV:Below l.heap.size l (((l.alloc (.cells VS 88)).setRow l.heap.size R4).alloc (.cells bR 28)):=(below_setRow (DC) Nr R4).alloc Bq _;have G3:=AU G3 qV;have G6:=AU G6 qV;have Y:=AU Y qV;have X:=CU X qV;have U:=zz (fun i hi=>(uy.o i hi).below qV);clear qV uy sN
 generalize(((l.alloc (.cells VS 88)).setRow l.heap.size R4).alloc (.cells bR 28))=w5 at*
 have ve:=X.o.size;have uX:w.heap.size+1+1<l.heap.size:=uR.o;obtain⟨gh,sW⟩:=AJ (l.heap.size);rw[sW]at HH M U uX ⊢;clear sW;obtain⟨gl,tL⟩:=AJ (gh+1);rw[tL]at M ⊢;have ul:gh<gl:=Aa;have rH:=M.o.lt;have U:=zz (fun i hi=>(U.o i hi).more (Nat.le_of_lt ul));clear tL;obtain⟨T,rM⟩:=AJ (E9 k fr ms f);have ug:=zz rM
 have rO:=zz (fun j:Nat=>show T j=Fh k j (Jr f j) j (fun i=>Be (k:Int) fr 2 4 (i:Int) ms)from by rw[←rM];rfl)
 rw[rM]at tK;clear rM;have rP:=zz (fun(i:Nat) m (h:Be (k:Int) fr 2 4 (i:Int) ms=some m)=>IE h);obtain⟨o,ho⟩:=AJ (fun i:Nat=>Be (k:Int) fr 2 4 (i:Int) ms)
 have U:=zz (fun(i:Nat) hi=>show F8 w5 gl (o i) (s i)from by rw[←ho];exact U.o i hi)
 have rP:=zz (fun(i:Nat) m (h:o i=some m)=>show m.zs.length=4 from rP.o i m (by rw[←ho]at h;exact h))
 have rO:=zz (fun j:Nat=>show T j=Fh k j (Jr f j) j o from by rw[←ho];exact rO.o j)
 clear ho;have vk:=HH
 have tu:∀j,j<4->(row 74 (Ab f (.slice A2 J.length c2)))[51+j]?=some (.int .i64 (Jr f j)):=fun j hj=>by
  rw[Ah Aa]
  unfold Ab Jr
  rw[Aj Aa,←KP (by have h:=HF.o (51+j) Aa;have e:Ar (51+j)=true:=(by unfold Ar;simp;omega);rw[e]at h;exact h)]
 have tC:=zz tu
 have tJ:(row 74 (Ab f (.slice A2 J.length c2)))[0]?=some (.int .i64 (k:Int)):=by rw[uq.o];exact rJ
 have tO:=zz tJ;clear tu tJ;go_wp2_with fail
 go_loopw[22] (fun i wr=>∃j:Nat,j<=4/\i=.int .i64 (j:Int)/\Ae wr gl 28 (BH .i64 4 fun i=>if i<j then T i else 0)/\Below gl w5 wr) (fun i _=>4-(intOf i).toNat)
 .exact⟨0,Aa,rfl,M.o.none,Below.refl _ _⟩
 clear M;obtain⟨j,hj,rfl,tZ,hb⟩:=hrel;have M:=zz tZ;have V:=zz hb;clear tZ hb;have vC:=zz G3;have G3:=zz (G3.o.below V.o Aa)
 by_cases qU:j<4
 .have x1:=(G3.o.cell (51+j)).trans (tC.o j qU);have x0:=(G3.o.cell 0).trans tO.o;have fl:=M.o.thaw j;have xl: wr.cell? ⟨gl,j,none⟩=some (.int .i64 0):=M.o.IU qU;have tY:=zz (tC.o j qU);have qY:=zz (rO.o j);have vo:(j:Int)<4:=Aa;have vB:(0:Int)<=(j:Int):=Aa;obtain⟨h,hh⟩:=AJ (Jr f j);rw[hh]at x1 tY qY;clear hh
  by_cases d:j=k
  .have e1:((j:Int)!=(k:Int))=false:=by simp[d]
   have rG:=zz (show h=T j by rw[qY.o];unfold Fh;rw[Ao d])
   clear d qY;go_wp2_with fail;exact⟨⟨j+1,Aa,BG,M.o.upto rG.o,V.o.setCell (p:=⟨gl,j,none⟩) Nr _⟩,Ck⟩
  have e1:((j:Int)!=(k:Int))=true:=Ec
  have rG:=zz (show T j=MajLaw.Ri (h::Ca k j j o 4) 0 by rw[qY.o];unfold Fh;rw[Aj d])
  have uo:=zz (fun(v:World) (hv:Below gl w5 v) (i:Nat) hi=>((U.o i hi).below hv).more (Nat.le_trans (Nat.le_of_lt rH) hv.size))
  have u7:=zz (fun(v:World) (hv:Below gl w5 v)=>show Calls prog 40 #[.agg R4,.int .i64 (k:Int),.int .i64 (j:Int),.int .i64 (j:Int)] v fun e w'=>e=.returned (.agg (BH .i64 2 (EC (Ca k j j o 4))))/\Below v.heap.size v w' from by
   rw[←uY.o]
   exact VO s o k j j hk qU d v (uo.o v hv) fun i m hm=>by have:=rP.o i m hm;omega)
  have uJ:=zz (show MajLaw.Ri (h::Ca k j j o 4) 0=MajLaw.Ri [h,EC (Ca k j j o 4) 0,EC (Ca k j j o 4) 1] 0 from by
   have uT:=LM j o hk qU d
   match hq:Ca k j j o 4,uT with
   |[a,b],_=>rfl)
  rw[uJ.o]at rG
  generalize EC (Ca k j j o 4)=P at*
  have e2:¬((j:Int)=(k:Int)):=Aa;clear d qY uJ uo
  go_upto_region 11 with fail
  have sQ:=zz ((Below.refl gl wr).setCell (p:=⟨gl,j,none⟩) Nr (.int .i64 h))
  have M:=zz (show Ae (wr.setCell ⟨gl,j,none⟩ (.int .i64 h)) gl 28 (BH .i64 4 fun i=>if i=j then h else if i<j then T i else 0)from by
   rw[←Es (f:=fun i=>if i<j then T i else 0) (j:=j) (v:=h) (fun i hi=>rfl)]
   exact M.o.set _ _)
  have V:=zz (V.o.trans sQ.o);have G3:=zz (G3.o.below sQ.o Aa);have HH:=zz (HH.o.below V.o ul);clear x1 x0 fl xl sQ
  generalize(wr.setCell ⟨gl,j,none⟩ (.int .i64 h))=w6 at*
  have x0:=(G3.o.cell 0).trans tO.o;have ru:(prog.info? 88).map (·.size)=some R4.size:=i4;have rR:=M.o.lt;have sw:=u7.o w6 V.o
  have i2:(prog.info? 90).map (·.size)=some (BH .i64 2 P).size:=by rw[EL];kernel_rfl
  have z2:(bg:Array Value).size=(BH .i64 2 P).size:=by rw[EL];rfl
  have o2:(BH .i64 2 P).all (·.oneCell')=true:=Rb;obtain⟨RP,sM⟩:=AJ (BH .i64 2 P);rw[sM]at sw i2 z2 o2;have uL:=zz sM;have sZ:=zz sw;clear sM sw
  go_wp2_with(refine Ad rfl 88 _ rfl gh rfl HH.o _ underlying88 rfl ru ?_)
  refine sZ.o.mono ?_;rintro e w7 ⟨rfl,hb⟩;have M:=AU M hb;have G3:=AU G3 hb;have V:=zz (Bh V.o (Nat.le_of_lt rH) hb);have rR:=M.o.lt;clear hb x0 sZ;have rY:=zz (Ae.fresh w7 90 bg)
  go_upto_region 12 with(refine wpList_store_row rfl 90 _ _ rfl w7.heap.size RP rfl rfl 90 _ rY.o i2 z2 o2 ?_)
  have HT:=zz (rY.o.setRow RP);have I:Below w7.heap.size w7 ((w7.alloc (.cells bg 90)).setRow w7.heap.size RP):=below_setRow (DC) Nr RP;have M:=AU M I;have G3:=AU G3 I;have V:=zz (Bh V.o (Nat.le_of_lt rH) I);clear rY I
  generalize((w7.alloc (.cells bg 90)).setRow w7.heap.size RP)=w8 at*
  obtain⟨gt,uz⟩:=AJ (w7.heap.size);rw[uz]at HT rR ⊢;clear uz;rw[←uL.o]at HT;have U:=And.intro G3.o.drew HT.o.drew;have M:=zz M.o.drew;have V:=zz V.o.drew;have vg:=HT.o.lt;refine wp_region_noPanic ?_;refine A8 [4,6,8] (fun w'=>Ae w' w.heap.size 37 (row 74 (Ab f (.slice A2 J.length c2)))/\Ae w' gt 90 (BH .i64 2 P)) Ap ?_
  generalize w8.drew=V0 at*
  refine Ac 0 ?_;refine Ac 1 ?_;refine Ac 2 ?_;refine Ac 3 ?_;refine Ba 4 ?_ U (hy:=?_) (h:=?_);rotate_left 1
  . (intro w' R;have y:=(R.1.cell (51+j)).trans tY.o;go_simp;(try with_reducible rfl))
  refine Ac 5 ?_;refine Ba 6 ?_ U (hy:=?_) (h:=?_);rotate_left 1
  . (intro w' R;have y:=(R.2.cell 0).trans (Cu _ _ _ _ Aa);go_simp;(try with_reducible rfl))
  refine Ac 7 ?_;refine Ba 8 ?_ U (hy:=?_) (h:=?_);rotate_left 1
  . (intro w' R;have y:=(R.2.cell 1).trans (Cu _ _ _ _ Aa);go_simp;(try with_reducible rfl))
  refine Aw 9 ?_;refine AX ?_ ?_
  . kernel_rfl
  intro K hK;rw[Ao Bb];go_simp
  go_at_call 41
  refine(Mj.Kn h (P 0) (P 1) V0).mono ?_;rintro e V1 ⟨rfl,hb⟩;have M:=AU M hb;have V:=zz (Bh V.o (Nat.le_of_lt rH) hb);clear hb U;have U:=trivial;have fl:=M.o.thaw j
  have xl: V1.cell? ⟨gl,j,none⟩=some (.int .i64 h):=by rw[M.o.cell,Cu _ _ _ _ qU,Ao rfl]
  refine hK.o _ _ ?_;refine Ac 10 ?_;refine Aw 11 ?_;refine AX ?_ ?_
  . kernel_rfl
  intro K hK;go_simp;refine hK.o _ _ ?_;(try simp only[Rg.lp]);refine Bg Ap ?_ _;refine NoPanic.normal ?_;go_wp2_with fail;refine⟨⟨j+1,Aa,BG,?_,V.o.setCell (p:=⟨gl,j,none⟩) Nr _⟩,Ck⟩
  rw[←Es (f:=fun i=>if i=j then h else if i<j then T i else 0) (j:=j) (v:=MajLaw.Ri [h,P 0,P 1] 0) (fun i hi=>?_)]
  . exact M.o.set _ _
  by_cases e:i=j
  . subst e;rw[Ao Aa,Ao rfl,rG.o]
  rw[Aj e,Aj e]
  by_cases h1:i<j
  . rw[Ao h1,Ao Aa]
  rw[Aj h1,Aj Aa]
 obtain rfl:j=4:=Aa;clear qU;have G6:=zz (G6.o.below V.o Aa);have Y:=zz (Y.o.below V.o Aa);have X:=zz (X.o.trans (V.o.mono Aa));have M:=zz M.o.all;have uO:gl<=wr.heap.size:=Nat.le_of_lt M.o.lt;clear U rP rO HH V
 have iL:(prog.info? 28).map (·.size)=some (BH .i64 4 T).size:=by rw[EL];kernel_rfl
 obtain⟨u,sP⟩:=AJ (Vt.val T (Gz f));obtain⟨C,sD⟩:=AJ (Vt.strong T (Gz f));have sK:=zz (And.intro sP sD)
 have cV:=fun w=>show Calls prog 45 #[.agg (BH .i64 4 T),.agg (row 4 fun i=>.bool (Gz f i))] w fun e w'=>∃A c,e=.returned (.agg (Gx u C A 4 c))/\Rd w' w'.heap.size 1 A 4 (Au (ET T (Gz f)))/\Below w.heap.size w w'/\(∀a,A=some a->w.heap.size<=a.block)/\(A=none->c=0)/\4<=c from by rw[←sP,←sD];exact Vt.jA T (Gz f) tK.o w
 clear sP sD;have CV:=zz cV;clear cV;have uP:=zz (TG HF.o (.slice A2 J.length c2))
 go_upto_region 15 with(first
  |(refine Ad rfl 28 _ rfl gl rfl M.o _ underlying28 rfl iL ?_)
  |(refine Cb rfl 27 _ rfl w.heap.size 27 4 rfl G3.o Aa _ underlying27 rfl Ap ?_;rw[uP.o])
  |(go_at_call 45;refine(CV.o _).mono ?_;rintro e wv ⟨O,L,rfl,um,hb,tX,sU,uf⟩;have G3:=AU G3 hb;have G6:=AU G6 hb;have Y:=AU Y hb;have X:=CU X hb;have Z:=zz um;have q:=zz (fun a (h:O=some a)=>Nat.le_trans uO (tX a h));have uI:=zz (And.intro sU uf);clear um hb tX sU uf)
  |(refine Hr rfl 35 _ _ rfl w.heap.size 71 3 (fun i=>if i=0 then .int .i64 u else if i=1 then .bool C else .slice O 4 L) rfl rfl G3.o Aa Ap (fun i hi=>Y2 u C O 4 L i) ?_))
 have G3:=zz (DI G3.o 71 3 (fun i=>if i=0 then .int .i64 u else if i=1 then .bool C else .slice O 4 L))
 rw[Vb]at G3
 have G6:=zz (Al (w:=wv) (b':=w.heap.size) Aa (row 3 (fun i=>if i=0 then .int .i64 u else if i=1 then .bool C else .slice O 4 L)).toList 71 _ G6.o)
 have Y:=zz (Al (w:=wv) (b':=w.heap.size) Aa (row 3 (fun i=>if i=0 then .int .i64 u else if i=1 then .bool C else .slice O 4 L)).toList 71 _ Y.o)
 have X:=zz (below_setCells Nr (row 3 (fun i=>if i=0 then .int .i64 u else if i=1 then .bool C else .slice O 4 L)).toList 71 X.o)
 have Z:=zz ((Rd.Iq q.o (show w.heap.size<gl by omega) (row 3 (fun i=>if i=0 then .int .i64 u else if i=1 then .bool C else .slice O 4 L)).toList 71 Z.o).more (below_setCells (B:=0) (Nat.zero_le w.heap.size) (row 3 (fun i=>if i=0 then .int .i64 u else if i=1 then .bool C else .slice O 4 L)).toList 71 (Below.refl 0 wv)).size)
 generalize(wv.setCells w.heap.size 71 (row 3 (fun i=>if i=0 then .int .i64 u else if i=1 then .bool C else .slice O 4 L)).toList)=wx at*
 have uK:=zz (SG HF.o u C (.slice O 4 L))
 have rV:=zz (show Gl T f=Fv (Kq f) C (ET T (Gz f))by unfold Gl;rw[sK.o.2])
 have t:=zz (show DW T f=if(Gl T f).2.2=0 then EW (FJ f u C) (Gl T f).1 else FJ f u C by unfold DW;rw[sK.o.1,sK.o.2])
 have cS:=fun w (h:Rd w w.heap.size 1 O 4 (Au (ET T (Gz f))))=>show Calls prog 46 #[.agg (Kq f).row,.agg (Gx u C O 4 L)] w fun e w'=>Uy w w' (Gl T f) e from by rw[rV.o];exact fP (Kq f) u C O L (ET T (Gz f)) w.heap.size w Nr (show(4:Nat)<=140737488351232 by omega) h
 have CS:=zz cS;clear cS rV CV M;obtain⟨JR,tH⟩:=AJ (Gl T f);rw[tH]at t CS;clear tH;obtain⟨⟨r,vz,E⟩,rfl⟩:∃x,JR=x:=⟨_,rfl⟩;dsimp only at t
 have ir:(prog.info? 30).map (·.size)=some r.row.size:=by unfold RS.row;rw[Ag];kernel_rfl
 have zr:(RV:Array Value).size=r.row.size:=by unfold RS.row;rw[Ag];rfl
 have uS:r.row.all (·.oneCell')=true:=row_one fun i hi=>IQ _ _ _ _
 go_wp2_with(first
  |(refine Cb rfl 30 _ rfl w.heap.size 27 12 rfl G3.o Aa _ underlying30 rfl Ap ?_;rw[uK.o])
  |(refine Cb rfl 35 _ rfl w.heap.size 71 3 rfl G3.o Aa _ underlying35 rfl Ap ?_;rw[WQ]))
 refine(CS.o _ Z.o).mono ?_;rintro e wy ⟨AC,cc,rfl,uU,hb,uZ⟩;dsimp only;have G3:=AU G3 hb;have G6:=AU G6 hb;have Y:=AU Y hb;have X:=CU X hb;have Z:=Iz Z hb;have rX:=zz (Ae.fresh wy 30 RV);clear uU hb uZ CS
 go_upto_region 16 with(refine wpList_store_row rfl 30 _ _ rfl wy.heap.size r.row rfl rfl 30 _ rX.o ir zr uS ?_)
 have I:Below wy.heap.size wy ((wy.alloc (.cells RV 30)).setRow wy.heap.size r.row):=below_setRow (DC) Nr _;have tF:=zz (rX.o.setRow r.row);have G3:=AU G3 I;have G6:=AU G6 I;have Y:=AU Y I;have X:=CU X I;have Z:=Iz Z I;clear I rX
 generalize((wy.alloc (.cells RV 30)).setRow wy.heap.size r.row)=wz at*
 obtain⟨gz,tV⟩:=AJ (wy.heap.size);rw[tV]at tF ⊢;clear tV
 by_cases hE:E=0
 .subst hE
  have t:=zz (show DW T f=EW (FJ f u C) r from t.o.trans (Ao rfl))
  have vD:=zz (show r.row=row 12 (Bo r.f r.m r.j)from rfl)
  go_upto_region 18 with(first
   |(refine Ad rfl 30 _ rfl gz rfl tF.o _ underlying30 rfl ir ?_)
   |(refine Hr rfl 30 _ _ rfl w.heap.size 27 12 (Bo r.f r.m r.j) rfl rfl G3.o Aa Ap (fun i hi=>IQ _ _ _ _) ?_))
  have G3:=zz (DI G3.o 27 12 (Bo r.f r.m r.j));rw[QI,←t.o]at G3;have G6:=zz (Al (w:=wz) (b':=w.heap.size) Aa (row 12 (Bo r.f r.m r.j)).toList 27 _ G6.o);have Y:=zz (Al (w:=wz) (b':=w.heap.size) Aa (row 12 (Bo r.f r.m r.j)).toList 27 _ Y.o);have X:=zz (below_setCells Nr (row 12 (Bo r.f r.m r.j)).toList 27 X.o)
  have Z:=zz ((Rd.Iq q.o (show w.heap.size<gl by omega) (row 12 (Bo r.f r.m r.j)).toList 27 Z.o).more (below_setCells (B:=0) (Nat.zero_le w.heap.size) (row 12 (Bo r.f r.m r.j)).toList 27 (Below.refl 0 wz)).size)
  generalize(wz.setCells w.heap.size 27 (row 12 (Bo r.f r.m r.j)).toList)=wz at*
  obtain⟨F,hF⟩:=AJ (DW T f);have rA:=zz hF
  have qX:=zz (show ∀i,i<73->C9 (Ar i) (F i)from by rw[←hF];exact JN HF.o T)
  have rD:F 0=.int .i64 (k:Int):=by rw[←hF];exact(ER T f 0 Aa).trans sH.o
  have rq:F 1=.int .i64 fr:=by rw[←hF];exact(ER T f 1 Aa).trans sS.o
  rw[hF]at G3;clear hF;have o5:=Cv qX.o (A:=O) (n:=4) (c:=L);have i5:(prog.info? 37).map (·.size)=some (row 74 (Ab F (.slice O 4 L))).size:=Eg;have z5:(zeroCells37).size=(row 74 (Ab F (.slice O 4 L))).size:=Eg
  have j0:(row 74 (Ab F (.slice O 4 L)))[0]?=some (.int .i64 (k:Int)):=by rw[Ah Aa];exact congrArg some rD
  have j1:(row 74 (Ab F (.slice O 4 L)))[1]?=some (.int .i64 fr):=by rw[Ah Aa];exact congrArg some rq
  obtain⟨N,qQ⟩:=AJ (row 74 (Ab F (.slice O 4 L)));rw[qQ]at o5 i5 z5 j0 j1 G3;have g:=zz qQ;clear qQ rD rq
  go_upto_region 18 with fail
  have G3:=zz G3.o.drew;have G6:=zz G6.o.drew;have Y:=zz Y.o.drew
  have Z:=zz (show Rd wz.drew wz.drew.heap.size 1 O 4 (Au (ET T (Gz f)))from Z.o.drew)
  have X:=zz X.o.drew;have U:=G3.o;refine wp_region_noPanic ?_;refine A8 [0,1,2] (fun w'=>Ae w' w.heap.size 37 N) Ap ?_
  generalize wz.drew=V0 at*
  refine Ba 0 (.agg N) U (hy:=?_) (h:=?_)
  . (intro w' R;exact Az 37 _ rfl _ rfl R underlying37 rfl i5)
  refine Ba 1 (.agg N) U (hy:=?_) (h:=?_)
  . (intro w' R;exact Az 37 _ rfl _ rfl R underlying37 rfl i5)
  refine Ba 2 (.agg N) U (hy:=?_) (h:=?_)
  . (intro w' R;exact Az 37 _ rfl _ rfl R underlying37 rfl i5)
  refine Aw 3 ?_;refine Bt ?_;intro K hK;rw[Ao Bb];go_simp
  go_at_call 47
  rw[←g.o];refine(Qn F qX.o (.slice O 4 L) V0).mono ?_;rintro e V1 ⟨H,G,rfl,qZ,hb⟩;rw[g.o];have sI:=G6.o.lt;have sJ:=Y.o.lt;have D:=zz qZ;have G3:=AU G3 hb;have G6:=AU G6 hb;have Y:=AU Y hb;have Z:=Iz Z hb;have X:=CU X hb;clear hb qZ U;have U:=G3.o;obtain⟨gp,rC⟩:=AJ (V0.heap.size);rw[rC]at D sI sJ;clear rC;refine hK.o _ _ U ?_;refine Aw 4 ?_;refine Bt ?_;intro K hK;rw[Ao Bb];go_simp
  go_at_call 38
  refine(Mf N (k:Int) fr 5 H 24 G j0 j1 V1).mono ?_;rintro e V2 ⟨rfl,hb⟩;have G3:=AU G3 hb;have G6:=AU G6 hb;have Y:=AU Y hb;have Z:=Iz Z hb;have D:=GJ D hb;have X:=CU X hb;clear hb U;have U:=G3.o;go_wp2_with fail;refine hK.o _ _ U ?_;refine Aw 5 ?_;refine AX ?_ ?_
  . kernel_rfl
  intro K hK;rw[Ao Bb];refine wp_store_row 37 _ _ rfl (w.heap.size+1) N rfl rfl 37 _ G6.o i5 z5 o5 ?_;have G3:=zz (G3.o.setRow_other (g':=w.heap.size+1) Aa N);have Y:=zz (Y.o.setRow_other (g':=w.heap.size+1) Aa N);have G6:=zz (G6.o.setRow N)
  have X:=zz (below_setRow X.o (show w.heap.size<=w.heap.size+1 by omega) N)
  have Z:=zz ((Z.o.Gr q.o (show w.heap.size+1<gl by omega) N).more (below_setRow (Below.refl 0 V2) (Nat.zero_le (w.heap.size+1)) N).size)
  have D:=zz (Ay D.o (show w.heap.size+1<gp by omega) N)
  generalize(V2.setRow (w.heap.size+1) N)=V3 at*
  refine hK.o _ _ ?_;refine Aw 6 ?_;refine AX ?_ ?_
  . kernel_rfl
  intro K hK;rw[Ao Bb];refine wp_store_row 65 _ _ rfl (w.heap.size+1+1) (Ms.AR 5 (k:Int) fr H 24 G) rfl rfl 65 _ Y.o Ap rfl (by simp[Ms.AR,Value.oneCell']) ?_;have G6:=zz (G6.o.setRow_other (g':=w.heap.size+1+1) Aa (Ms.AR 5 (k:Int) fr H 24 G));have Y:=zz (Y.o.setRow (Ms.AR 5 (k:Int) fr H 24 G))
  have X:=zz (below_setRow X.o (show w.heap.size<=w.heap.size+1+1 by omega) (Ms.AR 5 (k:Int) fr H 24 G))
  have Z:=zz ((Z.o.Gr q.o (show w.heap.size+1+1<gl by omega) (Ms.AR 5 (k:Int) fr H 24 G)).more (below_setRow (Below.refl 0 V3) (Nat.zero_le (w.heap.size+1+1)) (Ms.AR 5 (k:Int) fr H 24 G)).size)
  have D:=zz (Ay D.o (show w.heap.size+1+1<gp by omega) (Ms.AR 5 (k:Int) fr H 24 G))
  generalize(V3.setRow (w.heap.size+1+1) (Ms.AR 5 (k:Int) fr H 24 G))=V4 at*
  refine hK.o _ _ ?_;(try simp only[Rg.lp]);refine Bg Ap ?_ _;refine NoPanic.normal ?_;clear U;go_wp2_with fail;have ru:(prog.info? 65).map (·.size)=some (Ms.AR 5 (k:Int) fr H 24 G).size:=Ap;exact Da rfl rfl rfl G6.o ⟨by rw[underlying37],i5⟩ Y.o ⟨by rw[underlying65],ru⟩ rfl (by rw[ug.o];exact⟨O,L,H,G,by rw[rA.o,Ep,←g.o];rfl,Z.o,by rw[rA.o,Ep];exact Rd.Bu D.o,X.o,fun a h=>Nat.le_trans Aa (q.o a h),fun a h=>Nat.le_trans Aa (Db D.o a h),uI.o⟩)
 have vE:(E==0)=false:=by simpa using hE
 have t:=zz (show DW T f=FJ f u C from t.o.trans (Aj hE))
 rw[←t.o]at G3;clear hE;obtain⟨F,hF⟩:=AJ (DW T f);have rA:=zz hF
 have qX:=zz (show ∀i,i<73->C9 (Ar i) (F i)from by rw[←hF];exact JN HF.o T)
 have rD:F 0=.int .i64 (k:Int):=by rw[←hF];exact(ER T f 0 Aa).trans sH.o
 have rq:F 1=.int .i64 fr:=by rw[←hF];exact(ER T f 1 Aa).trans sS.o
 rw[hF]at G3;clear hF;have o5:=Cv qX.o (A:=O) (n:=4) (c:=L);have i5:(prog.info? 37).map (·.size)=some (row 74 (Ab F (.slice O 4 L))).size:=Eg;have z5:(zeroCells37).size=(row 74 (Ab F (.slice O 4 L))).size:=Eg
 have j0:(row 74 (Ab F (.slice O 4 L)))[0]?=some (.int .i64 (k:Int)):=by rw[Ah Aa];exact congrArg some rD
 have j1:(row 74 (Ab F (.slice O 4 L)))[1]?=some (.int .i64 fr):=by rw[Ah Aa];exact congrArg some rq
 obtain⟨N,qQ⟩:=AJ (row 74 (Ab F (.slice O 4 L)));rw[qQ]at o5 i5 z5 j0 j1 G3;have g:=zz qQ;clear qQ rD rq
 go_upto_region 18 with fail
 have G3:=zz G3.o.drew;have G6:=zz G6.o.drew;have Y:=zz Y.o.drew
 have Z:=zz (show Rd wz.drew wz.drew.heap.size 1 O 4 (Au (ET T (Gz f)))from Z.o.drew)
 have X:=zz X.o.drew;have U:=G3.o;refine wp_region_noPanic ?_;refine A8 [0,1,2] (fun w'=>Ae w' w.heap.size 37 N) Ap ?_
 generalize wz.drew=V0 at*
 refine Ba 0 (.agg N) U (hy:=?_) (h:=?_)
 . (intro w' R;exact Az 37 _ rfl _ rfl R underlying37 rfl i5)
 refine Ba 1 (.agg N) U (hy:=?_) (h:=?_)
 . (intro w' R;exact Az 37 _ rfl _ rfl R underlying37 rfl i5)
 refine Ba 2 (.agg N) U (hy:=?_) (h:=?_)
 . (intro w' R;exact Az 37 _ rfl _ rfl R underlying37 rfl i5)
 refine Aw 3 ?_;refine Bt ?_;intro K hK;rw[Ao Bb];go_simp
 go_at_call 47
 rw[←g.o];refine(Qn F qX.o (.slice O 4 L) V0).mono ?_;rintro e V1 ⟨H,G,rfl,qZ,hb⟩;rw[g.o];have sI:=G6.o.lt;have sJ:=Y.o.lt;have D:=zz qZ;have G3:=AU G3 hb;have G6:=AU G6 hb;have Y:=AU Y hb;have Z:=Iz Z hb;have X:=CU X hb;clear hb qZ U;have U:=G3.o;obtain⟨gp,rC⟩:=AJ (V0.heap.size);rw[rC]at D sI sJ;clear rC;refine hK.o _ _ U ?_;refine Aw 4 ?_;refine Bt ?_;intro K hK;rw[Ao Bb];go_simp
 go_at_call 38
 refine(Mf N (k:Int) fr 5 H 24 G j0 j1 V1).mono ?_;rintro e V2 ⟨rfl,hb⟩;have G3:=AU G3 hb;have G6:=AU G6 hb;have Y:=AU Y hb;have Z:=Iz Z hb;have D:=GJ D hb;have X:=CU X hb;clear hb U;have U:=G3.o;go_wp2_with fail;refine hK.o _ _ U ?_;refine Aw 5 ?_;refine AX ?_ ?_
 . kernel_rfl
 intro K hK;rw[Ao Bb];refine wp_store_row 37 _ _ rfl (w.heap.size+1) N rfl rfl 37 _ G6.o i5 z5 o5 ?_;have G3:=zz (G3.o.setRow_other (g':=w.heap.size+1) Aa N);have Y:=zz (Y.o.setRow_other (g':=w.heap.size+1) Aa N);have G6:=zz (G6.o.setRow N)
 have X:=zz (below_setRow X.o (show w.heap.size<=w.heap.size+1 by omega) N)
 have Z:=zz ((Z.o.Gr q.o (show w.heap.size+1<gl by omega) N).more (below_setRow (Below.refl 0 V2) (Nat.zero_le (w.heap.size+1)) N).size)
 have D:=zz (Ay D.o (show w.heap.size+1<gp by omega) N)
 generalize(V2.setRow (w.heap.size+1) N)=V3 at*
 refine hK.o _ _ ?_;refine Aw 6 ?_;refine AX ?_ ?_
 . kernel_rfl
 intro K hK;rw[Ao Bb];refine wp_store_row 65 _ _ rfl (w.heap.size+1+1) (Ms.AR 5 (k:Int) fr H 24 G) rfl rfl 65 _ Y.o Ap rfl (by simp[Ms.AR,Value.oneCell']) ?_;have G6:=zz (G6.o.setRow_other (g':=w.heap.size+1+1) Aa (Ms.AR 5 (k:Int) fr H 24 G));have Y:=zz (Y.o.setRow (Ms.AR 5 (k:Int) fr H 24 G))
 have X:=zz (below_setRow X.o (show w.heap.size<=w.heap.size+1+1 by omega) (Ms.AR 5 (k:Int) fr H 24 G))
 have Z:=zz ((Z.o.Gr q.o (show w.heap.size+1+1<gl by omega) (Ms.AR 5 (k:Int) fr H 24 G)).more (below_setRow (Below.refl 0 V3) (Nat.zero_le (w.heap.size+1+1)) (Ms.AR 5 (k:Int) fr H 24 G)).size)
 have D:=zz (Ay D.o (show w.heap.size+1+1<gp by omega) (Ms.AR 5 (k:Int) fr H 24 G))
 generalize(V3.setRow (w.heap.size+1+1) (Ms.AR 5 (k:Int) fr H 24 G))=V4 at*
 refine hK.o _ _ ?_;(try simp only[Rg.lp]);refine Bg Ap ?_ _;refine NoPanic.normal ?_;clear U;go_wp2_with fail;have ru:(prog.info? 65).map (·.size)=some (Ms.AR 5 (k:Int) fr H 24 G).size:=Ap;exact Da rfl rfl rfl G6.o ⟨by rw[underlying37],i5⟩ Y.o ⟨by rw[underlying65],ru⟩ rfl (by rw[ug.o];exact⟨O,L,H,G,by rw[rA.o,Ep,←g.o];rfl,Z.o,by rw[rA.o,Ep];exact Rd.Bu D.o,X.o,fun a h=>Nat.le_trans Aa (q.o a h),fun a h=>Nat.le_trans Aa (Db D.o a h),uI.o⟩)
end Nd
end Go.Proofs.YtjobajeggllmiaaGreat
