import Derived.Test.YtjobajeggllmiaaGreatPc0
import Derived.Test.YtjobajeggllmiaaGreatPc15
import Derived.Test.YtjobajeggllmiaaGreatPc34
import Derived.Test.YtjobajeggllmiaaGreatPc35
set_option linter.all false
set_option maxHeartbeats 100000000
set_option maxRecDepth 100000
namespace Go.Proofs.YtjobajeggllmiaaGreat
open Ms Rg _root_.Go.Proofs.Tryz
namespace Nd
open Go.RowKit Mem Rws Flat
def TF(f:Nat->Value)(hf:∀i,i<73->C9 (Ar i) (f i))(k:Nat)(hk:k<4)(tQ:f 0=.int .i64 (k:Int))(fr:Int)(tu:f 1=.int .i64 fr)(A:Option Addr)(c:Nat)(J:List Bool)(AI:Option Addr)(ci:Nat)(ms:List Cw)(B:Nat)(w:World)(hB:B<=w.heap.size)(hA:A=none->c=0)(tZ:J.length<=c)(hl:J.length<=140737488351232)(hr:Rd w B 1 A J.length (Au J))(tY:ms.length<=140737488355328)(hm:Cc w B AI ms)(hw:∀i z,i<73->f i=.int .i64 z->Wf z)(sM:∀m∈ms,∀z∈m.zs,Wf z):
  Calls prog 29 #[.agg (row 74 (Ab f (.slice A J.length c))),.slice AI ms.length ci] w fun e w'=>Ej w w' (DW (E9 k fr ms f) f) (ET (E9 k fr ms f) (Gz f)) 5 (k:Int) fr (Fy (DW (E9 k fr ms f) f)) e:=by
 have rD:∀(A:Option Addr) (n c:Nat),(row 74 (Ab f (.slice A n c))).all (·.oneCell')=true:=fun A n c=>Cv hf;have ul:=zz (PI hf hw sM k fr);clear hw sM;have HO:=zz rD;have HF:=zz hf;have rT:=zz tQ;have rZ:=zz tu;clear hf rD tQ tu
 go_in
 go_upto_region 1 with fail
 have D3:Hid (Ae (((w.alloc (.cells (row 74 (Ab f (.slice A J.length c))) 37)).alloc (.cells zeroCells37 37)).alloc (.cells QV 65)) w.heap.size 37 (row 74 (Ab f (.slice A J.length c)))):=zz (((Ae.new rfl).alloc _).alloc _);have D6:Hid (Ae (((w.alloc (.cells (row 74 (Ab f (.slice A J.length c))) 37)).alloc (.cells zeroCells37 37)).alloc (.cells QV 65)) (w.heap.size+1) 37 zeroCells37):=zz ((Ae.new Bq).alloc _);have D7:Hid (Ae (((w.alloc (.cells (row 74 (Ab f (.slice A J.length c))) 37)).alloc (.cells zeroCells37 37)).alloc (.cells QV 65)) (w.heap.size+1+1) 65 QV):=zz (Ae.new Bq);have X:=zz (((((Below.refl w.heap.size w).alloc Nr (.cells (row 74 (Ab f (.slice A J.length c))) 37)).alloc Bq (.cells zeroCells37 37)).alloc Ec (.cells QV 65)));have HR:=zz hr;have uJ:=zz hm;clear hr hm
 generalize(((w.alloc (.cells (row 74 (Ab f (.slice A J.length c))) 37)).alloc (.cells zeroCells37 37)).alloc (.cells QV 65))=W at*
 have rE:∀A (n:Nat) c,(prog.info? 37).map (·.size)=some (row 74 (Ab f (.slice A n c))).size:=fun A n c=>by rw[Ag];kernel_rfl
 have HI:=zz rE;clear rE;have uQ:w.heap.size+1+1<W.heap.size:=D7.o.lt;have tL:=HI.o A J.length c;obtain⟨R1,rM⟩:=AJ (row 74 (Ab f (.slice A J.length c)));have rG:=zz rM;rw[rM]at D3 tL;clear rM
 go_wp2_with(refine Ad rfl 37 _ rfl w.heap.size rfl D3.o _ underlying37 rfl tL ?_)
 rw[←rG.o];refine(Ey f HF.o A c J B _ (Nat.le_trans hB X.o.size) hA tZ hl (HR.o.below (X.o.mono hB))).mono ?_;rintro e w1 ⟨A2,c2,rfl,rC,qQ⟩;rw[rG.o];have tK:=zz rC;have sZ:=CU X qQ;have uH:=qQ.size;have u:=HI.o A2 J.length c2;have rO:=HO.o A2 J.length c2
 have ru:(row 74 (Ab f (.slice A2 J.length c2)))[0]?=some (.int .i64 (k:Int)):=by rw[Ah Aa];exact congrArg some rT.o
 have rX:(row 74 (Ab f (.slice A2 J.length c2)))[1]?=some (.int .i64 fr):=by rw[Ah Aa];exact congrArg some rZ.o
 have rR:R1.size=(row 74 (Ab f (.slice A2 J.length c2))).size:=by rw[←rG.o,Ag,Ag]
 obtain⟨d,rP⟩:=AJ (row 74 (Ab f (.slice A2 J.length c2)));have tH:=zz rP;rw[rP]at u rO ru rX rR ⊢;clear rP;have E3:=AU D3 qQ;have F3:=zz (E3.o.setRow d);have F6:=zz ((D6.o.below qQ D6.o.lt).setRow_other (g':=w.heap.size) Aa d);have F7:=zz ((D7.o.below qQ D7.o.lt).setRow_other (g':=w.heap.size) Aa d);have tJ:=zz (below_setRow sZ.o Nr d)
 have sN:=zz (Ay tK.o (show w.heap.size<W.heap.size by omega) d)
 have cT:=fun w=>JG d (k:Int) ru w;have uL:¬((k:Int)<0):=Aa
 have tT:Dt (k:Int)=false:=by unfold Dt;simp;omega
 rw[tT]at cT;clear qQ rC tT
 go_upto_region 4 with(first
  |(refine wpList_store_row rfl 37 _ _ rfl w.heap.size d rfl rfl 37 _ E3.o u rR rO ?_)
  |(refine Ad rfl 37 _ rfl w.heap.size rfl F3.o _ underlying37 rfl u ?_)
  |(go_at_call 51;refine(cT _).mono ?_;rintro e w3 ⟨rfl,g⟩;have G3:=AU F3 g;have G6:=AU F6 g;have V:=AU F7 g;have su:=CU tJ g;have uE:=GJ sN g;have um:=Nat.le_trans uH (Nat.le_trans (show w1.heap.size<=(w1.setRow w.heap.size d).heap.size from(below_setRow (Below.refl 0 w1) (Nat.zero_le _) d).size) g.size);clear g))
 clear X sZ tJ tK sN D3 D6 D7 E3 F3 F6 F7 cT rR
 have sw:∀j,j<4->d[51+j]?=some (.int .i64 (Jr f j)):=fun j hj=>by
  rw[←tH.o,Ah Aa]
  unfold Ab Jr
  rw[Aj Aa,←KP (by have h:=HF.o (51+j) Aa;have e:Ar (51+j)=true:=(by unfold Ar;simp;omega);rw[e]at h;exact h)]
 have uf:=zz sw;have sK:=zz ru;have tC:=zz rX;have uG:=zz u;clear sw rO ru rX u HR um
 go_upto_region 5 with fail
 have t:=zz (show Ae (w3.alloc (.cells bR 28)) w3.heap.size 28 (BH .i64 4 fun _=>0)from Ae.fresh _ _ _)
 have qR:Below w3.heap.size w3 (w3.alloc (.cells bR 28)):=DC;have uz:=V.o.lt;have G3:=AU G3 qR;have G6:=AU G6 qR;have V:=AU V qR;have X:=CU su qR;clear qR su uE
 generalize(w3.alloc (.cells bR 28))=w5 at*
 have sD:=X.o.size;obtain⟨gl,sJ⟩:=AJ (w3.heap.size);rw[sJ]at t uz ⊢;clear sJ;have uy:=t.o.lt;obtain⟨T,rA⟩:=AJ (E9 k fr ms f);have sW:=zz rA
 have tO:=zz (fun j:Nat=>show Fh k j (Jr f j) j (fun i=>Be (k:Int) fr 2 4 (i:Int) ms)=T j from by rw[←rA];rfl)
 rw[rA]at ul;clear rA;have uq:=zz (fun v (hv:Below gl w5 v)=>uJ.o.below ((X.o.mono hB).trans (hv.mono Aa)));go_wp2_with fail
 go_loopw[7] (fun i wr=>∃j:Nat,j<=4/\i=.int .i64 (j:Int)/\Ae wr gl 28 (BH .i64 4 fun i=>if i<j then T i else 0)/\Below gl w5 wr) (fun i _=>4-(intOf i).toNat)
 .exact⟨0,Aa,rfl,t.o.none,Below.refl _ _⟩
 clear t;obtain⟨j,hj,rfl,sS,hb⟩:=hrel;have t:=zz sS;have M:=zz hb;clear sS hb;have G3:=zz (G3.o.below M.o Aa)
 by_cases rq:j<4
 .have sQ:=zz (uf.o j rq);have uK:(j:Int)<4:=Aa;have uN:(0:Int)<=(j:Int):=Aa;have sI:=zz (tO.o j);obtain⟨h,hh⟩:=AJ (Jr f j);rw[hh]at sQ sI;clear hh;have u:=uG.o
  have CT:=zz (fun v (hv:Cc v B AI ms) (uF:B<=v.heap.size)=>show Calls prog 53 #[.agg d,.slice AI ms.length ci,.int .i64 (j:Int),.int .i64 h,.int .i64 (j:Int),.int .i64 4] v fun e w'=>e=.returned (.int .i64 (T j))/\Below v.heap.size v w' from by
   have c:=Tj d u k hk fr sK.o tC.o j rq h j 4 rq Aa AI ci ms B v uF tY hv;rw[sI.o]at c
   exact c)
  go_upto_region 8 with fail
  have R:=G3.o.drew;have t:=zz t.o.drew;have M:=zz M.o.drew;have uw:=zz (uq.o _ M.o);have uj:B<=wr.drew.heap.size:=Nat.le_trans hB (Nat.le_trans sD M.o.size);refine wp_region_noPanic ?_;refine A8 [1,7] (fun w'=>Ae w' w.heap.size 37 d) Ap ?_
  generalize wr.drew=V0 at*
  refine Ac 0 ?_;refine Ba 1 (.agg d) R (hy:=?_) (h:=?_)
  . (intro w' Y;exact Az 37 _ rfl _ rfl Y underlying37 rfl u)
  refine Ac 2 ?_;refine Ac 3 ?_;refine Ac 4 ?_;refine Ac 5 ?_;refine Ac 6 ?_;refine Ba 7 ?_ R (hy:=?_) (h:=?_);rotate_left 1
  . (intro w' Y;have y:=(Y.cell (51+j)).trans sQ.o;go_simp;(try with_reducible rfl))
  refine Ac 8 ?_;refine Aw 9 ?_;refine AX ?_ ?_
  . kernel_rfl
  intro K hK;rw[Ao Bb];go_simp
  go_at_call 53
  refine(CT.o V0 uw.o uj).mono ?_;rintro e V1 ⟨rfl,hb⟩;have t:=AU t hb;have M:=zz (Bh M.o (Nat.le_of_lt uy) hb);clear hb R;have R:=trivial;have fl:=t.o.thaw j;have xl: V1.cell? ⟨gl,j,none⟩=some (.int .i64 0):=t.o.IU rq;refine hK.o _ _ ?_;refine Ac 10 ?_;refine Aw 11 ?_;refine AX ?_ ?_
  . kernel_rfl
  intro K hK;go_simp;refine hK.o _ _ ?_;(try simp only[Rg.lp]);refine Bg Ap ?_ _;refine NoPanic.normal ?_;go_wp2_with fail;exact⟨⟨j+1,Aa,BG,t.o.upto rfl,M.o.setCell (p:=⟨gl,j,none⟩) Nr _⟩,Ck⟩
 obtain rfl:j=4:=Aa;clear rq;rw[←tH.o]at G3;have G6:=zz (G6.o.below M.o Aa);have V:=zz (V.o.below M.o Aa);have X:=zz (X.o.trans (M.o.mono Aa));have t:=zz t.o.all;have ug:gl<=wr.heap.size:=Nat.le_of_lt t.o.lt;clear tO M
 have iL:(prog.info? 28).map (·.size)=some (BH .i64 4 T).size:=by rw[EL];kernel_rfl
 obtain⟨G,rY⟩:=AJ (Vt.val T (Gz f));obtain⟨H,rQ⟩:=AJ (Vt.strong T (Gz f));have rW:=zz (And.intro rY rQ)
 have cV:=fun w=>show Calls prog 57 #[.agg (BH .i64 4 T),.agg (row 4 fun i=>.bool (Gz f i))] w fun e w'=>∃A c,e=.returned (.agg (Gx G H A 4 c))/\Rd w' w'.heap.size 1 A 4 (Au (ET T (Gz f)))/\Below w.heap.size w w'/\(∀a,A=some a->w.heap.size<=a.block)/\(A=none->c=0)/\4<=c from by rw[←rY,←rQ];exact Vt.UX T (Gz f) w
 clear rY rQ;have CV:=zz cV;clear cV;have uh:=zz (TG HF.o (.slice A2 J.length c2))
 go_upto_region 10 with(first
  |(refine Ad rfl 28 _ rfl gl rfl t.o _ underlying28 rfl iL ?_)
  |(refine Cb rfl 27 _ rfl w.heap.size 27 4 rfl G3.o Aa _ underlying27 rfl Ap ?_;rw[uh.o])
  |(go_at_call 57;refine(CV.o _).mono ?_;rintro e wv ⟨U,O,rfl,tF,hb,sP,r9,sU⟩;have G3:=AU G3 hb;have G6:=AU G6 hb;have V:=AU V hb;have X:=CU X hb;have Z:=zz tF;have C:=zz (fun a (h:U=some a)=>Nat.le_trans ug (sP a h));have tV:=zz (And.intro r9 sU);clear tF hb sP r9 sU)
  |(refine Hr rfl 35 _ _ rfl w.heap.size 71 3 (fun i=>if i=0 then .int .i64 G else if i=1 then .bool H else .slice U 4 O) rfl rfl G3.o Aa Ap (fun i hi=>Y2 G H U 4 O i) ?_))
 have G3:=zz (DI G3.o 71 3 (fun i=>if i=0 then .int .i64 G else if i=1 then .bool H else .slice U 4 O))
 rw[Vb]at G3
 have G6:=zz (Al (w:=wv) (b':=w.heap.size) Aa (row 3 (fun i=>if i=0 then .int .i64 G else if i=1 then .bool H else .slice U 4 O)).toList 71 _ G6.o)
 have V:=zz (Al (w:=wv) (b':=w.heap.size) Aa (row 3 (fun i=>if i=0 then .int .i64 G else if i=1 then .bool H else .slice U 4 O)).toList 71 _ V.o)
 have X:=zz (below_setCells Nr (row 3 (fun i=>if i=0 then .int .i64 G else if i=1 then .bool H else .slice U 4 O)).toList 71 X.o)
 have Z:=zz ((Rd.Iq C.o (show w.heap.size<gl by omega) (row 3 (fun i=>if i=0 then .int .i64 G else if i=1 then .bool H else .slice U 4 O)).toList 71 Z.o).more (below_setCells (B:=0) (Nat.zero_le w.heap.size) (row 3 (fun i=>if i=0 then .int .i64 G else if i=1 then .bool H else .slice U 4 O)).toList 71 (Below.refl 0 wv)).size)
 generalize(wv.setCells w.heap.size 71 (row 3 (fun i=>if i=0 then .int .i64 G else if i=1 then .bool H else .slice U 4 O)).toList)=wx at*
 have tX:=zz (SG HF.o G H (.slice U 4 O))
 have rF:=zz (show Gl T f=Fv (Kq f) H (ET T (Gz f))by unfold Gl;rw[rW.o.2])
 have D:=zz (show DW T f=if(Gl T f).2.2=0 then EW (FJ f G H) (Gl T f).1 else FJ f G H by unfold DW;rw[rW.o.1,rW.o.2])
 have cS:=fun w (h:Rd w w.heap.size 1 U 4 (Au (ET T (Gz f))))=>show Calls prog 58 #[.agg (Kq f).row,.agg (Gx G H U 4 O)] w fun e w'=>Uy w w' (Gl T f) e from by rw[rF.o];exact VP (Kq f) G H U O (ET T (Gz f)) w.heap.size w Nr (show(4:Nat)<=140737488351232 by omega) h
 have CS:=zz cS;clear cS rF CV t;obtain⟨JR,sH⟩:=AJ (Gl T f);rw[sH]at D CS;clear sH;obtain⟨⟨r,uM,E⟩,rfl⟩:∃x,JR=x:=⟨_,rfl⟩;dsimp only at D
 have ir:(prog.info? 30).map (·.size)=some r.row.size:=by unfold RS.row;rw[Ag];kernel_rfl
 have zr:(RV:Array Value).size=r.row.size:=by unfold RS.row;rw[Ag];rfl
 have uo:r.row.all (·.oneCell')=true:=row_one fun i hi=>IQ _ _ _ _
 go_wp2_with(first
  |(refine Cb rfl 30 _ rfl w.heap.size 27 12 rfl G3.o Aa _ underlying30 rfl Ap ?_;rw[tX.o])
  |(refine Cb rfl 35 _ rfl w.heap.size 71 3 rfl G3.o Aa _ underlying35 rfl Ap ?_;rw[WQ]))
 refine(CS.o _ Z.o).mono ?_;rintro e wy ⟨AC,cc,rfl,uD,hb,uI⟩;dsimp only;have G3:=AU G3 hb;have G6:=AU G6 hb;have V:=AU V hb;have X:=CU X hb;have Z:=Iz Z hb;have rH:=zz (Ae.fresh wy 30 RV);clear uD hb uI CS
 go_upto_region 11 with(refine wpList_store_row rfl 30 _ _ rfl wy.heap.size r.row rfl rfl 30 _ rH.o ir zr uo ?_)
 have b:Below wy.heap.size wy ((wy.alloc (.cells RV 30)).setRow wy.heap.size r.row):=below_setRow (DC) Nr _;have sG:=zz (rH.o.setRow r.row);have G3:=AU G3 b;have G6:=AU G6 b;have V:=AU V b;have X:=CU X b;have Z:=Iz Z b;clear b rH
 generalize((wy.alloc (.cells RV 30)).setRow wy.heap.size r.row)=wz at*
 obtain⟨gz,sO⟩:=AJ (wy.heap.size);rw[sO]at sG ⊢;clear sO
 by_cases hE:E=0
 .subst hE
  have D:=zz (show DW T f=EW (FJ f G H) r from D.o.trans (Ao rfl))
  have uO:=zz (show r.row=row 12 (Bo r.f r.m r.j)from rfl)
  go_upto_region 13 with(first
   |(refine Ad rfl 30 _ rfl gz rfl sG.o _ underlying30 rfl ir ?_)
   |(refine Hr rfl 30 _ _ rfl w.heap.size 27 12 (Bo r.f r.m r.j) rfl rfl G3.o Aa Ap (fun i hi=>IQ _ _ _ _) ?_))
  have G3:=zz (DI G3.o 27 12 (Bo r.f r.m r.j));rw[QI,←D.o]at G3;have G6:=zz (Al (w:=wz) (b':=w.heap.size) Aa (row 12 (Bo r.f r.m r.j)).toList 27 _ G6.o);have V:=zz (Al (w:=wz) (b':=w.heap.size) Aa (row 12 (Bo r.f r.m r.j)).toList 27 _ V.o);have X:=zz (below_setCells Nr (row 12 (Bo r.f r.m r.j)).toList 27 X.o)
  have Z:=zz ((Rd.Iq C.o (show w.heap.size<gl by omega) (row 12 (Bo r.f r.m r.j)).toList 27 Z.o).more (below_setCells (B:=0) (Nat.zero_le w.heap.size) (row 12 (Bo r.f r.m r.j)).toList 27 (Below.refl 0 wz)).size)
  generalize(wz.setCells w.heap.size 27 (row 12 (Bo r.f r.m r.j)).toList)=wz at*
  obtain⟨F,hF⟩:=AJ (DW T f);have qX:=zz hF
  have qU:=zz (show ∀i,i<73->C9 (Ar i) (F i)from by rw[←hF];exact JN HF.o T)
  have qZ:F 0=.int .i64 (k:Int):=by rw[←hF];exact(ER T f 0 Aa).trans rT.o
  have qW:F 1=.int .i64 fr:=by rw[←hF];exact(ER T f 1 Aa).trans rZ.o
  rw[hF]at G3;clear hF;have o5:=Cv qU.o (A:=U) (n:=4) (c:=O);have i5:(prog.info? 37).map (·.size)=some (row 74 (Ab F (.slice U 4 O))).size:=Eg;have z5:(zeroCells37).size=(row 74 (Ab F (.slice U 4 O))).size:=Eg
  have j0:(row 74 (Ab F (.slice U 4 O)))[0]?=some (.int .i64 (k:Int)):=by rw[Ah Aa];exact congrArg some qZ
  have j1:(row 74 (Ab F (.slice U 4 O)))[1]?=some (.int .i64 fr):=by rw[Ah Aa];exact congrArg some qW
  obtain⟨N,q⟩:=AJ (row 74 (Ab F (.slice U 4 O)));rw[q]at o5 i5 z5 j0 j1 G3;have s:=zz q;clear q qZ qW
  go_upto_region 13 with fail
  have G3:=zz G3.o.drew;have G6:=zz G6.o.drew;have V:=zz V.o.drew
  have Z:=zz (show Rd wz.drew wz.drew.heap.size 1 U 4 (Au (ET T (Gz f)))from Z.o.drew)
  have X:=zz X.o.drew;have R:=G3.o;refine wp_region_noPanic ?_;refine A8 [0,2,4,5] (fun w'=>Ae w' w.heap.size 37 N) Ap ?_
  generalize wz.drew=V0 at*
  refine Ba 0 (.agg N) R (hy:=?_) (h:=?_)
  . (intro w' Y;exact Az 37 _ rfl _ rfl Y underlying37 rfl i5)
  refine Ac 1 ?_;refine Ba 2 ?_ R (hy:=?_) (h:=?_);rotate_left 1
  . (intro w' Y;have y:=(Y.cell 0).trans j0;go_simp;(try with_reducible rfl))
  refine Ac 3 ?_;refine Ba 4 ?_ R (hy:=?_) (h:=?_);rotate_left 1
  . (intro w' Y;have y:=(Y.cell 1).trans j1;go_simp;(try with_reducible rfl))
  refine Ba 5 (.agg N) R (hy:=?_) (h:=?_)
  . (intro w' Y;exact Az 37 _ rfl _ rfl Y underlying37 rfl i5)
  refine Aw 6 ?_;refine Bt ?_;intro K hK;rw[Ao Bb];go_simp
  go_at_call 59
  rw[←s.o];refine(MO F qU.o (.slice U 4 O) V0).mono ?_;rintro e V1 ⟨L,I,rfl,qV,hb⟩;rw[s.o];have rU:=G6.o.lt;have rV:=V.o.lt;have l:=zz qV;have G3:=AU G3 hb;have G6:=AU G6 hb;have V:=AU V hb;have Z:=Iz Z hb;have X:=CU X hb;clear hb qV R;have R:=G3.o;obtain⟨gp,qY⟩:=AJ (V0.heap.size);rw[qY]at l rU rV;clear qY;refine hK.o _ _ R ?_;refine Ac 7 ?_;refine Aw 8 ?_;refine Bt ?_;intro K hK;rw[Ao Bb];refine wp_store_row 37 _ _ rfl (w.heap.size+1) N rfl rfl 37 _ G6.o i5 z5 o5 ?_;have G3:=zz (G3.o.setRow_other (g':=w.heap.size+1) Aa N);have V:=zz (V.o.setRow_other (g':=w.heap.size+1) Aa N);have G6:=zz (G6.o.setRow N)
  have X:=zz (below_setRow X.o (show w.heap.size<=w.heap.size+1 by omega) N)
  have Z:=zz ((Z.o.Gr C.o (show w.heap.size+1<gl by omega) N).more (below_setRow (Below.refl 0 V1) (Nat.zero_le (w.heap.size+1)) N).size)
  have l:=zz (Ay l.o (show w.heap.size+1<gp by omega) N)
  generalize(V1.setRow (w.heap.size+1) N)=V3 at*
  clear R;have R:=G3.o;refine hK.o _ _ R ?_;refine Aw 9 ?_;refine AX ?_ ?_
  . kernel_rfl
  intro K hK;rw[Ao Bb];refine wp_store_row 65 _ _ rfl (w.heap.size+1+1) (Ms.AR 5 (k:Int) fr L 24 I) rfl rfl 65 _ V.o Ap rfl (by simp[Ms.AR,Value.oneCell']) ?_;have G6:=zz (G6.o.setRow_other (g':=w.heap.size+1+1) Aa (Ms.AR 5 (k:Int) fr L 24 I));have V:=zz (V.o.setRow (Ms.AR 5 (k:Int) fr L 24 I))
  have X:=zz (below_setRow X.o (show w.heap.size<=w.heap.size+1+1 by omega) (Ms.AR 5 (k:Int) fr L 24 I))
  have Z:=zz ((Z.o.Gr C.o (show w.heap.size+1+1<gl by omega) (Ms.AR 5 (k:Int) fr L 24 I)).more (below_setRow (Below.refl 0 V3) (Nat.zero_le (w.heap.size+1+1)) (Ms.AR 5 (k:Int) fr L 24 I)).size)
  have l:=zz (Ay l.o (show w.heap.size+1+1<gp by omega) (Ms.AR 5 (k:Int) fr L 24 I))
  generalize(V3.setRow (w.heap.size+1+1) (Ms.AR 5 (k:Int) fr L 24 I))=V4 at*
  refine hK.o _ _ ?_;(try simp only[Rg.lp]);refine Bg Ap ?_ _;refine NoPanic.normal ?_;clear R;go_wp2_with fail;have rJ:(prog.info? 65).map (·.size)=some (Ms.AR 5 (k:Int) fr L 24 I).size:=Ap;exact Da rfl rfl rfl G6.o ⟨by rw[underlying37],i5⟩ V.o ⟨by rw[underlying65],rJ⟩ rfl (by rw[sW.o];exact⟨U,O,L,I,by rw[qX.o,Ep,←s.o];rfl,Z.o,by rw[qX.o,Ep];exact Rd.Bu l.o,X.o,fun a h=>Nat.le_trans Aa (C.o a h),fun a h=>Nat.le_trans Aa (Db l.o a h),tV.o⟩)
 have uP:(E==0)=false:=by simpa using hE
 have D:=zz (show DW T f=FJ f G H from D.o.trans (Aj hE))
 rw[←D.o]at G3;clear hE;obtain⟨F,hF⟩:=AJ (DW T f);have qX:=zz hF
 have qU:=zz (show ∀i,i<73->C9 (Ar i) (F i)from by rw[←hF];exact JN HF.o T)
 have qZ:F 0=.int .i64 (k:Int):=by rw[←hF];exact(ER T f 0 Aa).trans rT.o
 have qW:F 1=.int .i64 fr:=by rw[←hF];exact(ER T f 1 Aa).trans rZ.o
 rw[hF]at G3;clear hF;have o5:=Cv qU.o (A:=U) (n:=4) (c:=O);have i5:(prog.info? 37).map (·.size)=some (row 74 (Ab F (.slice U 4 O))).size:=Eg;have z5:(zeroCells37).size=(row 74 (Ab F (.slice U 4 O))).size:=Eg
 have j0:(row 74 (Ab F (.slice U 4 O)))[0]?=some (.int .i64 (k:Int)):=by rw[Ah Aa];exact congrArg some qZ
 have j1:(row 74 (Ab F (.slice U 4 O)))[1]?=some (.int .i64 fr):=by rw[Ah Aa];exact congrArg some qW
 obtain⟨N,q⟩:=AJ (row 74 (Ab F (.slice U 4 O)));rw[q]at o5 i5 z5 j0 j1 G3;have s:=zz q;clear q qZ qW
 go_upto_region 13 with fail
 have G3:=zz G3.o.drew;have G6:=zz G6.o.drew;have V:=zz V.o.drew
 have Z:=zz (show Rd wz.drew wz.drew.heap.size 1 U 4 (Au (ET T (Gz f)))from Z.o.drew)
 have X:=zz X.o.drew;have R:=G3.o;refine wp_region_noPanic ?_;refine A8 [0,2,4,5] (fun w'=>Ae w' w.heap.size 37 N) Ap ?_
 generalize wz.drew=V0 at*
 refine Ba 0 (.agg N) R (hy:=?_) (h:=?_)
 . (intro w' Y;exact Az 37 _ rfl _ rfl Y underlying37 rfl i5)
 refine Ac 1 ?_;refine Ba 2 ?_ R (hy:=?_) (h:=?_);rotate_left 1
 . (intro w' Y;have y:=(Y.cell 0).trans j0;go_simp;(try with_reducible rfl))
 refine Ac 3 ?_;refine Ba 4 ?_ R (hy:=?_) (h:=?_);rotate_left 1
 . (intro w' Y;have y:=(Y.cell 1).trans j1;go_simp;(try with_reducible rfl))
 refine Ba 5 (.agg N) R (hy:=?_) (h:=?_)
 . (intro w' Y;exact Az 37 _ rfl _ rfl Y underlying37 rfl i5)
 refine Aw 6 ?_;refine Bt ?_;intro K hK;rw[Ao Bb];go_simp
 go_at_call 59
 rw[←s.o];refine(MO F qU.o (.slice U 4 O) V0).mono ?_;rintro e V1 ⟨L,I,rfl,qV,hb⟩;rw[s.o];have rU:=G6.o.lt;have rV:=V.o.lt;have l:=zz qV;have G3:=AU G3 hb;have G6:=AU G6 hb;have V:=AU V hb;have Z:=Iz Z hb;have X:=CU X hb;clear hb qV R;have R:=G3.o;obtain⟨gp,qY⟩:=AJ (V0.heap.size);rw[qY]at l rU rV;clear qY;refine hK.o _ _ R ?_;refine Ac 7 ?_;refine Aw 8 ?_;refine Bt ?_;intro K hK;rw[Ao Bb];refine wp_store_row 37 _ _ rfl (w.heap.size+1) N rfl rfl 37 _ G6.o i5 z5 o5 ?_;have G3:=zz (G3.o.setRow_other (g':=w.heap.size+1) Aa N);have V:=zz (V.o.setRow_other (g':=w.heap.size+1) Aa N);have G6:=zz (G6.o.setRow N)
 have X:=zz (below_setRow X.o (show w.heap.size<=w.heap.size+1 by omega) N)
 have Z:=zz ((Z.o.Gr C.o (show w.heap.size+1<gl by omega) N).more (below_setRow (Below.refl 0 V1) (Nat.zero_le (w.heap.size+1)) N).size)
 have l:=zz (Ay l.o (show w.heap.size+1<gp by omega) N)
 generalize(V1.setRow (w.heap.size+1) N)=V3 at*
 clear R;have R:=G3.o;refine hK.o _ _ R ?_;refine Aw 9 ?_;refine AX ?_ ?_
 . kernel_rfl
 intro K hK;rw[Ao Bb];refine wp_store_row 65 _ _ rfl (w.heap.size+1+1) (Ms.AR 5 (k:Int) fr L 24 I) rfl rfl 65 _ V.o Ap rfl (by simp[Ms.AR,Value.oneCell']) ?_;have G6:=zz (G6.o.setRow_other (g':=w.heap.size+1+1) Aa (Ms.AR 5 (k:Int) fr L 24 I));have V:=zz (V.o.setRow (Ms.AR 5 (k:Int) fr L 24 I))
 have X:=zz (below_setRow X.o (show w.heap.size<=w.heap.size+1+1 by omega) (Ms.AR 5 (k:Int) fr L 24 I))
 have Z:=zz ((Z.o.Gr C.o (show w.heap.size+1+1<gl by omega) (Ms.AR 5 (k:Int) fr L 24 I)).more (below_setRow (Below.refl 0 V3) (Nat.zero_le (w.heap.size+1+1)) (Ms.AR 5 (k:Int) fr L 24 I)).size)
 have l:=zz (Ay l.o (show w.heap.size+1+1<gp by omega) (Ms.AR 5 (k:Int) fr L 24 I))
 generalize(V3.setRow (w.heap.size+1+1) (Ms.AR 5 (k:Int) fr L 24 I))=V4 at*
 refine hK.o _ _ ?_;(try simp only[Rg.lp]);refine Bg Ap ?_ _;refine NoPanic.normal ?_;clear R;go_wp2_with fail;have rJ:(prog.info? 65).map (·.size)=some (Ms.AR 5 (k:Int) fr L 24 I).size:=Ap;exact Da rfl rfl rfl G6.o ⟨by rw[underlying37],i5⟩ V.o ⟨by rw[underlying65],rJ⟩ rfl (by rw[sW.o];exact⟨U,O,L,I,by rw[qX.o,Ep,←s.o];rfl,Z.o,by rw[qX.o,Ep];exact Rd.Bu l.o,X.o,fun a h=>Nat.le_trans Aa (C.o a h),fun a h=>Nat.le_trans Aa (Db l.o a h),tV.o⟩)
end Nd
end Go.Proofs.YtjobajeggllmiaaGreat
