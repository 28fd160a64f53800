import Derived.Test.YtjobajeggllmiaaGreatPc0
import Derived.Test.YtjobajeggllmiaaGreatPc28
set_option linter.all false
set_option maxHeartbeats 100000000
set_option maxRecDepth 100000
namespace Go.Proofs.YtjobajeggllmiaaGreat
open Ms Rg _root_.Go.Proofs.Tryz
namespace Nd
open Go.RowKit Mem Rws Flat
def Tf(f:Nat->Value)(rv:Nat->Option (List Int))(k i:Nat)(h:i<39+k*3)(Y:k<=4):Bp f rv k i=Bp f rv 4 i:=by
 unfold Bp
 by_cases Z:39<=i
 . rw[Ao ⟨Z,h⟩,Ao ⟨Z,Aa⟩]
 rw[Aj (fun h=>Z h.1),Aj (fun h=>Z h.1)]
def N8{w:World}{base:Nat}{e:TypeId}{size n:Nat}{v:Value}{xs:List Value}(h:w.ownsRow base e size v n xs){p:Addr}(R:∀ {Z},¬w.heap[p.block]?=some (.cells Z e (0,0)))(u:Value):(w.setCell p u).ownsRow base e size v n xs:=by
 obtain⟨W,h|⟨b,X,Z,T,hb,Y,V⟩⟩:=h
 . exact⟨W,.inl h⟩
 refine⟨W,.inr ⟨b,X,Z,T,hb,(Below.heap_setCell w p u b (fun U=>?_)).trans Y,V⟩⟩;rw[U]at Y;exact R Y
def Uz(f:Nat->Value)(hf:∀i,i<73->C9 (Ar i) (f i))(k:Nat)(hk:k<4)(sP:f 0=.int .i64 (k:Int))(N:Int)(r9:f 1=.int .i64 N)(A:Option Addr)(c:Nat)(U:List Bool)(AI:Option Addr)(ci:Nat)(ms:List Cw)(B:Nat)(w:World)(hB:B<=w.heap.size)(hA:A=none->c=0)(tu:U.length<=c)(hl:U.length<=140737488351232)(hr:Rd w B 1 A U.length (Au U))(sZ:ms.length<=140737488355328)(hm:Cc w B AI ms):
  Calls prog 26 #[.agg (row 74 (Ab f (.slice A U.length c))),.slice AI ms.length ci] w fun e w'=>Ej w w' (Bp f (KX (k:Int) N ms) 4) U 2 (k:Int) N (dD (Bp f (KX (k:Int) N ms) 4)) e:=by
 have rA:∀(A:Option Addr) (n c:Nat),(row 74 (Ab f (.slice A n c))).all (·.oneCell')=true:=fun A n c=>Cv hf;have HO:=zz rA;have HF:=zz hf;have sH:=zz sP;have sW:=zz r9;clear hf rA sP r9
 go_in
 go_upto_region 1 with fail
 have D3:Hid (Ae (((w.alloc (.cells (row 74 (Ab f (.slice A U.length c))) 37)).alloc (.cells zeroCells37 37)).alloc (.cells QV 65)) w.heap.size 37 (row 74 (Ab f (.slice A U.length c)))):=zz (((Ae.new rfl).alloc _).alloc _);have D6:Hid (Ae (((w.alloc (.cells (row 74 (Ab f (.slice A U.length c))) 37)).alloc (.cells zeroCells37 37)).alloc (.cells QV 65)) (w.heap.size+1) 37 zeroCells37):=zz ((Ae.new Bq).alloc _);have D7:Hid (Ae (((w.alloc (.cells (row 74 (Ab f (.slice A U.length c))) 37)).alloc (.cells zeroCells37 37)).alloc (.cells QV 65)) (w.heap.size+1+1) 65 QV):=zz (Ae.new Bq);have X:=zz (((((Below.refl w.heap.size w).alloc Nr (.cells (row 74 (Ab f (.slice A U.length c))) 37)).alloc Bq (.cells zeroCells37 37)).alloc Ec (.cells QV 65)));have HR:=zz hr;have tT:=zz hm;clear hr hm
 generalize(((w.alloc (.cells (row 74 (Ab f (.slice A U.length c))) 37)).alloc (.cells zeroCells37 37)).alloc (.cells QV 65))=W at*
 have rC:∀A (n:Nat) c,(prog.info? 37).map (·.size)=some (row 74 (Ab f (.slice A n c))).size:=fun A n c=>by rw[Ag];kernel_rfl
 have HI:=zz rC;clear rC;have tY:w.heap.size+1+1<W.heap.size:=D7.o.lt;have sN:=HI.o A U.length c;obtain⟨R1,rO⟩:=AJ (row 74 (Ab f (.slice A U.length c)));have rE:=zz rO;rw[rO]at D3 sN;clear rO
 go_wp2_with(refine Ad rfl 37 _ rfl w.heap.size rfl D3.o _ underlying37 rfl sN ?_)
 rw[←rE.o];refine(Ey f HF.o A c U B _ (Nat.le_trans hB X.o.size) hA tu hl (HR.o.below (X.o.mono hB))).mono ?_;rintro e w1 ⟨t,r,rfl,ru,qU⟩;rw[rE.o];have sM:=zz ru;have rZ:=CU X qU;have tQ:=qU.size;have rq:=HI.o t U.length r;have rP:=HO.o t U.length r
 have qZ:(row 74 (Ab f (.slice t U.length r)))[0]?=some (.int .i64 (k:Int)):=by rw[Ah Aa];exact congrArg some sH.o
 have rU:(row 74 (Ab f (.slice t U.length r)))[1]?=some (.int .i64 N):=by rw[Ah Aa];exact congrArg some sW.o
 have rT:R1.size=(row 74 (Ab f (.slice t U.length r))).size:=by rw[←rE.o,Ag,Ag]
 obtain⟨R2,rQ⟩:=AJ (row 74 (Ab f (.slice t U.length r)));have tJ:=zz rQ;rw[rQ]at rq rP qZ rU rT ⊢;clear rQ;have E3:=AU D3 qU;have F3:=zz (E3.o.setRow R2);have F6:=zz ((D6.o.below qU D6.o.lt).setRow_other (g':=w.heap.size) Aa R2);have F7:=zz ((D7.o.below qU D7.o.lt).setRow_other (g':=w.heap.size) Aa R2);have sI:=zz (below_setRow rZ.o Nr R2)
 have rY:=zz (Ay sM.o (show w.heap.size<W.heap.size by omega) R2)
 have cT:=fun w=>JG R2 (k:Int) qZ w;have tV:¬((k:Int)<0):=Aa
 have sS:Dt (k:Int)=false:=by unfold Dt;simp;omega
 rw[sS]at cT;clear qU ru sS
 go_upto_region 4 with(first
  |(refine wpList_store_row rfl 37 _ _ rfl w.heap.size R2 rfl rfl 37 _ E3.o rq rT rP ?_)
  |(refine Ad rfl 37 _ rfl w.heap.size rfl F3.o _ underlying37 rfl rq ?_)
  |(go_at_call 51;refine(cT _).mono ?_;rintro e w3 ⟨rfl,Z⟩;have G3:=AU F3 Z;have G6:=AU F6 Z;have V:=AU F7 Z;have rW:=CU sI Z;have sG:=GJ rY Z;have qY:=Nat.le_trans tQ (Nat.le_trans (show w1.heap.size<=(w1.setRow w.heap.size R2).heap.size from(below_setRow (Below.refl 0 w1) (Nat.zero_le _) R2).size) Z.size);clear Z))
 clear X rZ sI sM rY D3 D6 D7 E3 F3 F6 F7 cT rT;obtain⟨rv,rG⟩:=AJ (KX (k:Int) N ms);have sD:=zz rG
 have tH:=zz (fun j:Nat=>show rv j=(Be (k:Int) N 1 3 (j:Int) ms).map (fun m=>m.zs)by rw[←rG];rfl)
 clear rG;have y0:=(G3.o.cell 0).trans qZ;have y1:=(G3.o.cell 1).trans rU;have sQ:=zz qY;clear rP rq qZ rU qY
 go_upto_region 5 with fail
 have Y:Hid (Ae (w3.alloc (.cells (Ms.AR 2 (k:Int) N none 0 0) 65)) w3.heap.size 65 (Ms.AR 2 (k:Int) N none 0 0)):=zz (Ae.fresh _ _ _);have Z:Below w3.heap.size w3 (w3.alloc (.cells (Ms.AR 2 (k:Int) N none 0 0) 65)):=DC;have G3:=AU G3 Z;have G6:=AU G6 Z;have V:=AU V Z;have T:=GJ sG Z;have X:=CU rW Z;clear sG rW Z y0 y1
 rw[show(w3.alloc (.cells (JV 2 (k:Int) N) 65))=(w3.alloc (.cells (Ms.AR 2 (k:Int) N none 0 0) 65))from rfl]
 generalize(w3.alloc (.cells (Ms.AR 2 (k:Int) N none 0 0) 65))=W9 at*
 obtain⟨M,sO⟩:=AJ (w3.heap.size);have qY:=sQ.o;rw[sO]at Y qY ⊢;clear sO sQ;rw[←tJ.o]at G3;go_wp2_with fail
 go_loopw[7] (fun i wr=>∃(j n:Nat) (H:Option Addr) (G:Nat),j<=4/\n=j*3/\i=.int .i64 j/\Ae wr w.heap.size 37 (row 74 (Ab (Bp f rv j) (.slice t U.length r)))/\Ae wr (w.heap.size+1) 37 zeroCells37/\Ae wr (w.heap.size+1+1) 65 QV/\Ae wr M 65 (Ms.AR 2 (k:Int) N H n G)/\wr.ownsRow W.heap.size 4 1 (.slice t U.length r) U.length (Au U)/\wr.ownsRow (M+1) 3 1 (.slice H n G) n ((List.range n).map fun q=>(Bp f rv 4) (39+q))/\Below w.heap.size w wr) (fun i _=>4-(intOf i).toNat)
 .exact⟨0,0,none,0,Aa,rfl,rfl,by rw[O5];exact G3.o,G6.o,V.o,Y.o,T.o,World.ownsRow_nil _ _ _ _,X.o⟩
 clear G3 G6 V Y T X;obtain⟨j,n,H,G,hj,hn,rfl,g3,qQ,g7,g9,hw,hv,hb⟩:=hrel;have G3:=zz g3;have G6:=zz qQ;have V:=zz g7;have Y:=zz g9;have T:=zz hw;have R:=zz hv;have X:=zz hb;have I:=zz hn;clear g3 qQ g7 g9 hw hv hb hn;have qR:=zz (Im HF.o rv j hj);have o5:=Cv qR.o (A:=t) (n:=U.length) (c:=r);have i5:(prog.info? 37).map (·.size)=some (row 74 (Ab (Bp f rv j) (.slice t U.length r))).size:=Eg;have z5:(zeroCells37).size=(row 74 (Ab (Bp f rv j) (.slice t U.length r))).size:=Eg
 have j0:(row 74 (Ab (Bp f rv j) (.slice t U.length r)))[0]?=some (.int .i64 (k:Int)):=by rw[Ah Aa];exact congrArg some ((Hz f rv j 0 Aa).trans sH.o)
 have j1:(row 74 (Ab (Bp f rv j) (.slice t U.length r)))[1]?=some (.int .i64 N):=by rw[Ah Aa];exact congrArg some ((Hz f rv j 1 Aa).trans sW.o)
 have s:=G3;obtain⟨R5,rR⟩:=AJ (row 74 (Ab (Bp f rv j) (.slice t U.length r)));rw[rR]at o5 i5 z5 j0 j1 G3;have rH:=zz rR;clear rR
 by_cases sU:j<4
 .have cF:=L9 R5 (k:Int) N j0 j1 AI ci ms (j:Int) 1 3 B wr (Nat.le_trans hB X.o.size) sZ (tT.o.below (X.o.mono hB))
  rw[show((3:Nat):Int)=3 from rfl]at cF
  have CF:=zz cF;have l:=tH.o j;clear cF
  go_wp2_with(refine Ad rfl 37 _ rfl w.heap.size rfl G3.o _ underlying37 rfl i5 ?_)
  refine CF.o.mono ?_;rintro e w4 ⟨qX,hb⟩;have G3:=AU G3 hb;have s:=AU s hb;have G6:=AU G6 hb;have V:=AU V hb;have Y:=AU Y hb;have T:=GJ T hb;have R:=GJ R hb;have X:=CU X hb;clear hb CF
  cases ho:Be (k:Int) N 1 3 (j:Int) ms with
  |none=>
   rw[ho]at qX l;obtain rfl:e=.returned (.tuple gu):=qX
   have rF:=zz (show rv j=none from l)
   clear l ho;go_wp2_with fail;have G3:=s;rw[←OH f rv j _ rF.o]at G3;clear o5 i5 z5 j0 j1 qR s rH;have qR:=zz (Im HF.o rv (j+1) Aa);obtain⟨R6,d⟩:=AJ (row 74 (Ab (Bp f rv (j+1)) (.slice t U.length r)))
   have rM:=zz (fun(a:Nat) (ha:a<3)=>show R6[39+j*3+a]?=some ((Bp f rv 4) (39+(j*3+a)))by rw[←d,Ah Aa];unfold Ab;rw[Aj (show ¬(39+j*3+a=73)by omega),Tf f rv (j+1) (39+j*3+a) Aa Aa,Nat.add_assoc])
   rw[d]at G3;have rJ:=zz d;clear d
   go_loopw[10] (fun ia wq=>∃(a n:Nat) (H:Option Addr) (G:Nat),a<=3/\n=j*3+a/\ia=.int .i64 a/\Ae wq w.heap.size 37 R6/\Ae wq (w.heap.size+1) 37 zeroCells37/\Ae wq (w.heap.size+1+1) 65 QV/\Ae wq M 65 (Ms.AR 2 (k:Int) N H n G)/\wq.ownsRow W.heap.size 4 1 (.slice t U.length r) U.length (Au U)/\wq.ownsRow (M+1) 3 1 (.slice H n G) n ((List.range n).map fun q=>(Bp f rv 4) (39+q))/\Below w.heap.size w wq) (fun ia _=>3-(intOf ia).toNat)
   .exact⟨0,n,H,G,Aa,by have:=I.o;omega,rfl,G3.o,G6.o,V.o,Y.o,T.o,R.o,X.o⟩
   .clear G3 G6 V Y T R X I;obtain⟨a,n,H,G,ha,hn,rfl,g3,qQ,g7,g9,hw,hv,hb⟩:=hrel;have G3:=zz g3;have G6:=zz qQ;have V:=zz g7;have Y:=zz g9;have T:=zz hw;have R:=zz hv;have X:=zz hb;have I:=zz hn;clear g3 qQ g7 g9 hw hv hb hn
    by_cases qV:a<3
    .have qW:=rM.o a qV
     obtain⟨z,hz⟩:∃z,(Bp f rv 4) (39+(j*3+a))=.int .i64 z:=by
      have h:=Im HF.o rv 4 Nr (39+(j*3+a)) Aa
      have e:Ar (39+(j*3+a))=true:=by unfold Ar;simp;omega
      rw[e]at h;exact h
     rw[hz]at qW
     have HL:=zz (show((List.range n).map fun q=>(Bp f rv 4) (39+q))++[Value.int .i64 z]=((List.range (n+1)).map fun q=>(Bp f rv 4) (39+q))by rw[List.range_succ,List.map_append,List.map_singleton,I.o,hz])
     have su:n<=11:=by have:=I.o;omega
     have sK:(0:Int)<=(j:Int):=Aa;have sw:(j:Int)<4:=Aa;have tO:(0:Int)<=(a:Int):=Aa;have tC:(a:Int)<3:=Aa;clear hz
     go_upto_region 14 with fail
     have G3:=zz (G3.o.drew);have G6:=zz (G6.o.drew);have V:=zz (V.o.drew);have Y:=zz (Y.o.drew);have T:=zz (ownsRow_below T.o ((Below.refl wr.heap.size wr).drew));have R:=zz (ownsRow_below R.o ((Below.refl wr.heap.size wr).drew));have X:=zz X.o.drew;have E:=And.intro G3.o Y.o;refine wp_region_noPanic ?_;refine A8 [1,7] (fun w'=>Ae w' w.heap.size 37 R6/\Ae w' M 65 (Ms.AR 2 (k:Int) N H n G)) Ap ?_
     generalize wr.drew=L at*
     refine Ac 0 ?_;refine Ba 1 ?_ E (hy:=?_) (h:=?_);rotate_left 1
     . (intro w' O;have y:=O.2.cell 3;simp only[Ms.AR,List.getElem?_toArray,List.getElem?_cons_zero,List.getElem?_cons_succ]at y;go_simp;(try with_reducible rfl))
     refine Ac 2 ?_;refine Ac 3 ?_;refine Ac 4 ?_;refine Ac 5 ?_;refine Ac 6 ?_;refine Ba 7 ?_ E (hy:=?_) (h:=?_);rotate_left 1
     . (intro w' O;have y:=(O.1.cell (39+j*3+a)).trans qW;go_simp;(try with_reducible rfl))
     refine Aw 8 ?_;refine Bt ?_;intro K hK;go_simp;have HN:Hid (Rd (L.alloc (.cells (LB z) 3)) (L.heap.size+1) 1 (some ⟨L.heap.size,0,none⟩) 1 [.int .i64 z]):=zz (Vt.Ff _ _ _);have Z:Below L.heap.size L (L.alloc (.cells (LB z) 3)):=DC;have G3:=AU G3 Z;have G6:=AU G6 Z;have V:=AU V Z;have Y:=AU Y Z;have T:=GJ T Z;have R:=GJ R Z;have X:=CU X Z;have tK:=Y.o.lt;clear Z E
     generalize(L.alloc (.cells (LB z) 3))=V1 at*
     generalize L.heap.size=nb at*
     have E:=And.intro G3.o Y.o;refine hK.o _ _ E ?_;refine Aw 9 ?_;refine AX ?_ ?_
     . kernel_rfl
     intro K hK;rw[Ao Bb];refine Ea _ (.tmp 52) (.tmp 59) 63 rfl (base:=M+1) Ms.C8 rfl R.o rfl (fun h=>by cases h) HN.o GR GX Aa Aa ?_;intro A' c' V2 rV v J;have F:=R.o;have T:=zz (Ew T.o J (Ms.Fb R.o El));have G3:=zz (G3.o.grown J (fun e=>by have:=(F.lt _ e.symm).1;omega));have G6:=zz (G6.o.grown J (fun e=>by have:=(F.lt _ e.symm).1;omega));have V:=zz (V.o.grown J (fun e=>by have:=(F.lt _ e.symm).1;omega));have Y:=zz (Y.o.grown J (fun e=>by have:=(F.lt _ e.symm).1;omega));have X:=zz (X.o.grown J X.o.size (fun g e=>by have:=(F.lt g e).1;omega));have R:=zz v;clear v J rV F;have y2:=Y.o.cell 3;have f2:=Y.o.thaw 3;simp only[Ms.AR,List.getElem?_toArray,List.getElem?_cons_zero,List.getElem?_cons_succ]at y2;refine hK.o _ _ ?_;refine Ac 10 ?_;refine Aw 11 ?_;refine AX ?_ ?_
     . kernel_rfl
     intro K hK;go_simp;refine hK.o _ _ ?_;(try simp only[Rg.lp]);refine Bg Ap ?_ _;refine NoPanic.normal ?_;go_wp2_with fail
     refine⟨⟨a+1,n+1,A',c',Aa,by have:=I.o;omega,BG,G3.o.other (p:=⟨M,3,none⟩) (by show w.heap.size≠M;omega) _,G6.o.other (p:=⟨M,3,none⟩) (by show w.heap.size+1≠M;omega) _,V.o.other (p:=⟨M,3,none⟩) (by show w.heap.size+1+1≠M;omega) _,Y.o.set 3 _,?_,?_,X.o.setCell (p:=⟨M,3,none⟩) (by show w.heap.size<=M;omega) _⟩,Ck⟩
     . exact N8 T.o (by rw[Y.o];exact fun h=>by cases h) _
     rw[←HL.o];exact Vt.Ch R.o Aa _
    .obtain rfl:a=3:=Aa;clear qV;go_wp2_with fail;exact⟨⟨j+1,n,H,G,Aa,by have:=I.o;omega,BG,by rw[rJ.o];exact G3.o,G6.o,V.o,Y.o,T.o,R.o,X.o⟩,Ck⟩
  |some m=>
   have sJ:=IE ho;rw[ho]at qX l;obtain⟨a,ca,rfl,_,_,rX⟩:=qX
   obtain⟨b,o,rfl,tX,D⟩:=rX.2 (show 0<m.zs.length by omega)
   obtain⟨C,x,u,hz⟩:∃C x u,m.zs=[C,x,u]:=by
    match hq:m.zs,sJ with
    |[C,x,u],_=>exact⟨C,x,u,rfl⟩
   have l:rv j=some m.zs:=l;rw[hz]at D l ⊢;have rF:=zz l;have rD:([C,x,u]:List Int).length=3:=rfl;rw[rD];have sK:(0:Int)<=(j:Int):=Aa;have sw:(j:Int)<4:=Aa;clear l ho hz sJ rD rX
   go_upto_region 10 with fail
   have G3:=zz (G3.o.drew);have G6:=zz (G6.o.drew);have V:=zz (V.o.drew);have Y:=zz (Y.o.drew);have s:=zz (s.o.drew);have T:=zz (ownsRow_below T.o ((Below.refl w4.heap.size w4).drew));have R:=zz (ownsRow_below R.o ((Below.refl w4.heap.size w4).drew));have X:=zz X.o.drew;have tL:=zz (Cg s.o (39+j*3) 3 Aa);have E: w4.drew.cell? ⟨b,o,none⟩=some (.int .i64 C)/\ w4.drew.cell? ⟨b,o+1,none⟩=some (.int .i64 x)/\ w4.drew.cell? ⟨b,o+2,none⟩=some (.int .i64 u):=⟨D 0 _ rfl,D 1 _ rfl,D 2 _ rfl⟩;clear D;refine wp_region_noPanic ?_;refine A8 [3,6,9] (fun w'=> w'.cell? ⟨b,o,none⟩=some (.int .i64 C)/\ w'.cell? ⟨b,o+1,none⟩=some (.int .i64 x)/\ w'.cell? ⟨b,o+2,none⟩=some (.int .i64 u)) Ap ?_
   generalize w4.drew=L at*
   refine Ac 0 ?_;refine Ac 1 ?_;refine Ac 2 ?_;refine Ba 3 ?_ E (hy:=?_) (h:=?_);rotate_left 1
   . (intro w' O;have y:=O.1;go_simp;(try with_reducible rfl))
   refine Ac 4 ?_;refine Ac 5 ?_;refine Ba 6 ?_ E (hy:=?_) (h:=?_);rotate_left 1
   . (intro w' O;have y:=O.2.1;go_simp;(try with_reducible rfl))
   refine Ac 7 ?_;refine Ac 8 ?_;refine Ba 9 ?_ E (hy:=?_) (h:=?_);rotate_left 1
   . (intro w' O;have y:=O.2.2;go_simp;(try with_reducible rfl))
   refine Ac 10 ?_;refine Ac 11 ?_;refine Ac 12 ?_;refine Aw 13 ?_;refine AX ?_ ?_
   . kernel_rfl
   intro K hK;rw[Ao Bb];refine wp_store_mid 31 (.tmp 46) (.tmp 44) rfl w.heap.size (39+j*3) (G9 C x u) rfl rfl tL.o Ap GR ?_;have G3:=zz (DI (w:=L) s.o (39+j*3) 3 (rz [C,x,u]));rw[OM f rv j sU _ rF.o]at G3;have G6:=zz (Al (w:=L) (b':=w.heap.size) Aa (row 3 (rz [C,x,u])).toList (39+j*3) _ G6.o);have V:=zz (Al (w:=L) (b':=w.heap.size) Aa (row 3 (rz [C,x,u])).toList (39+j*3) _ V.o);have Y:=zz (Al (w:=L) (b':=w.heap.size) Aa (row 3 (rz [C,x,u])).toList (39+j*3) _ Y.o)
   have T:=zz (DF (show w.heap.size<W.heap.size by omega) (row 3 (rz [C,x,u])).toList (39+j*3) T.o)
   have R:=zz (DF (show w.heap.size<M+1 by omega) (row 3 (rz [C,x,u])).toList (39+j*3) R.o)
   have X:=zz (below_setCells Nr (row 3 (rz [C,x,u])).toList (39+j*3) X.o);have G3:Hid (Ae (L.setCells w.heap.size (39+j*3) ((G9 C x u):Array Value).toList) w.heap.size 37 (row 74 (Ab (Bp f rv (j+1)) (.slice t U.length r)))):=G3;have G6:Hid (Ae (L.setCells w.heap.size (39+j*3) ((G9 C x u):Array Value).toList) (w.heap.size+1) 37 zeroCells37):=G6;have V:Hid (Ae (L.setCells w.heap.size (39+j*3) ((G9 C x u):Array Value).toList) (w.heap.size+1+1) 65 QV):=V;have Y:Hid (Ae (L.setCells w.heap.size (39+j*3) ((G9 C x u):Array Value).toList) M 65 (Ms.AR 2 (k:Int) N H n G)):=Y;have T:Hid ((L.setCells w.heap.size (39+j*3) ((G9 C x u):Array Value).toList).ownsRow W.heap.size 4 1 (.slice t U.length r) U.length (Au U)):=T;have R:Hid ((L.setCells w.heap.size (39+j*3) ((G9 C x u):Array Value).toList).ownsRow (M+1) 3 1 (.slice H n G) n ((List.range n).map fun q=>(Bp f rv 4) (39+q))):=R;have X:Hid (Below w.heap.size w (L.setCells w.heap.size (39+j*3) ((G9 C x u):Array Value).toList)):=X
   generalize(L.setCells w.heap.size (39+j*3) ((G9 C x u):Array Value).toList)=V1 at*
   refine hK.o _ _ ?_;(try simp only[Rg.lp]);refine Bg Ap ?_ _;refine NoPanic.normal ?_;clear E;go_wp2_with fail;clear o5 i5 z5 j0 j1 qR s rH;have qR:=zz (Im HF.o rv (j+1) Aa);obtain⟨R6,d⟩:=AJ (row 74 (Ab (Bp f rv (j+1)) (.slice t U.length r)))
   have rM:=zz (fun(a:Nat) (ha:a<3)=>show R6[39+j*3+a]?=some ((Bp f rv 4) (39+(j*3+a)))by rw[←d,Ah Aa];unfold Ab;rw[Aj (show ¬(39+j*3+a=73)by omega),Tf f rv (j+1) (39+j*3+a) Aa Aa,Nat.add_assoc])
   rw[d]at G3;have rJ:=zz d;clear d
   go_loopw[10] (fun ia wq=>∃(a n:Nat) (H:Option Addr) (G:Nat),a<=3/\n=j*3+a/\ia=.int .i64 a/\Ae wq w.heap.size 37 R6/\Ae wq (w.heap.size+1) 37 zeroCells37/\Ae wq (w.heap.size+1+1) 65 QV/\Ae wq M 65 (Ms.AR 2 (k:Int) N H n G)/\wq.ownsRow W.heap.size 4 1 (.slice t U.length r) U.length (Au U)/\wq.ownsRow (M+1) 3 1 (.slice H n G) n ((List.range n).map fun q=>(Bp f rv 4) (39+q))/\Below w.heap.size w wq) (fun ia _=>3-(intOf ia).toNat)
   .exact⟨0,n,H,G,Aa,by have:=I.o;omega,rfl,G3.o,G6.o,V.o,Y.o,T.o,R.o,X.o⟩
   clear G3 G6 V Y T R X I;obtain⟨a,n,H,G,ha,hn,rfl,g3,qQ,g7,g9,hw,hv,hb⟩:=hrel;have G3:=zz g3;have G6:=zz qQ;have V:=zz g7;have Y:=zz g9;have T:=zz hw;have R:=zz hv;have X:=zz hb;have I:=zz hn;clear g3 qQ g7 g9 hw hv hb hn
   by_cases qV:a<3
   .have qW:=rM.o a qV
    obtain⟨z,hz⟩:∃z,(Bp f rv 4) (39+(j*3+a))=.int .i64 z:=by
     have h:=Im HF.o rv 4 Nr (39+(j*3+a)) Aa
     have e:Ar (39+(j*3+a))=true:=by unfold Ar;simp;omega
     rw[e]at h;exact h
    rw[hz]at qW
    have HL:=zz (show((List.range n).map fun q=>(Bp f rv 4) (39+q))++[Value.int .i64 z]=((List.range (n+1)).map fun q=>(Bp f rv 4) (39+q))by rw[List.range_succ,List.map_append,List.map_singleton,I.o,hz])
    have su:n<=11:=by have:=I.o;omega
    have sK:(0:Int)<=(j:Int):=Aa;have sw:(j:Int)<4:=Aa;have tO:(0:Int)<=(a:Int):=Aa;have tC:(a:Int)<3:=Aa;clear hz
    go_upto_region 14 with fail
    have G3:=zz (G3.o.drew);have G6:=zz (G6.o.drew);have V:=zz (V.o.drew);have Y:=zz (Y.o.drew);have T:=zz (ownsRow_below T.o ((Below.refl wr.heap.size wr).drew));have R:=zz (ownsRow_below R.o ((Below.refl wr.heap.size wr).drew));have X:=zz X.o.drew;have E:=And.intro G3.o Y.o;refine wp_region_noPanic ?_;refine A8 [1,7] (fun w'=>Ae w' w.heap.size 37 R6/\Ae w' M 65 (Ms.AR 2 (k:Int) N H n G)) Ap ?_
    generalize wr.drew=L at*
    refine Ac 0 ?_;refine Ba 1 ?_ E (hy:=?_) (h:=?_);rotate_left 1
    . (intro w' O;have y:=O.2.cell 3;simp only[Ms.AR,List.getElem?_toArray,List.getElem?_cons_zero,List.getElem?_cons_succ]at y;go_simp;(try with_reducible rfl))
    refine Ac 2 ?_;refine Ac 3 ?_;refine Ac 4 ?_;refine Ac 5 ?_;refine Ac 6 ?_;refine Ba 7 ?_ E (hy:=?_) (h:=?_);rotate_left 1
    . (intro w' O;have y:=(O.1.cell (39+j*3+a)).trans qW;go_simp;(try with_reducible rfl))
    refine Aw 8 ?_;refine Bt ?_;intro K hK;go_simp;have HN:Hid (Rd (L.alloc (.cells (LB z) 3)) (L.heap.size+1) 1 (some ⟨L.heap.size,0,none⟩) 1 [.int .i64 z]):=zz (Vt.Ff _ _ _);have Z:Below L.heap.size L (L.alloc (.cells (LB z) 3)):=DC;have G3:=AU G3 Z;have G6:=AU G6 Z;have V:=AU V Z;have Y:=AU Y Z;have T:=GJ T Z;have R:=GJ R Z;have X:=CU X Z;have tK:=Y.o.lt;clear Z E
    generalize(L.alloc (.cells (LB z) 3))=V1 at*
    generalize L.heap.size=nb at*
    have E:=And.intro G3.o Y.o;refine hK.o _ _ E ?_;refine Aw 9 ?_;refine AX ?_ ?_
    . kernel_rfl
    intro K hK;rw[Ao Bb];refine Ea _ (.tmp 52) (.tmp 59) 63 rfl (base:=M+1) Ms.C8 rfl R.o rfl (fun h=>by cases h) HN.o GR GX Aa Aa ?_;intro A' c' V2 rV v J;have F:=R.o;have T:=zz (Ew T.o J (Ms.Fb R.o El));have G3:=zz (G3.o.grown J (fun e=>by have:=(F.lt _ e.symm).1;omega));have G6:=zz (G6.o.grown J (fun e=>by have:=(F.lt _ e.symm).1;omega));have V:=zz (V.o.grown J (fun e=>by have:=(F.lt _ e.symm).1;omega));have Y:=zz (Y.o.grown J (fun e=>by have:=(F.lt _ e.symm).1;omega));have X:=zz (X.o.grown J X.o.size (fun g e=>by have:=(F.lt g e).1;omega));have R:=zz v;clear v J rV F;have y2:=Y.o.cell 3;have f2:=Y.o.thaw 3;simp only[Ms.AR,List.getElem?_toArray,List.getElem?_cons_zero,List.getElem?_cons_succ]at y2;refine hK.o _ _ ?_;refine Ac 10 ?_;refine Aw 11 ?_;refine AX ?_ ?_
    . kernel_rfl
    intro K hK;go_simp;refine hK.o _ _ ?_;(try simp only[Rg.lp]);refine Bg Ap ?_ _;refine NoPanic.normal ?_;go_wp2_with fail
    refine⟨⟨a+1,n+1,A',c',Aa,by have:=I.o;omega,BG,G3.o.other (p:=⟨M,3,none⟩) (by show w.heap.size≠M;omega) _,G6.o.other (p:=⟨M,3,none⟩) (by show w.heap.size+1≠M;omega) _,V.o.other (p:=⟨M,3,none⟩) (by show w.heap.size+1+1≠M;omega) _,Y.o.set 3 _,?_,?_,X.o.setCell (p:=⟨M,3,none⟩) (by show w.heap.size<=M;omega) _⟩,Ck⟩
    . exact N8 T.o (by rw[Y.o];exact fun h=>by cases h) _
    rw[←HL.o];exact Vt.Ch R.o Aa _
   obtain rfl:a=3:=Aa;clear qV;go_wp2_with fail;exact⟨⟨j+1,n,H,G,Aa,by have:=I.o;omega,BG,by rw[rJ.o];exact G3.o,G6.o,V.o,Y.o,T.o,R.o,X.o⟩,Ck⟩
 obtain rfl:j=4:=Aa;clear sU s
 obtain rfl:n=12:=by have:=I.o;omega
 rw[show((4:Nat):Int)=4 from rfl]
 go_upto_region 15 with fail
 have G3:=zz (G3.o.drew);have G6:=zz (G6.o.drew);have V:=zz (V.o.drew);have Y:=zz (Y.o.drew);have T:=zz (ownsRow_below T.o ((Below.refl wr.heap.size wr).drew));have R:=zz (ownsRow_below R.o ((Below.refl wr.heap.size wr).drew));have X:=zz X.o.drew;have E:=And.intro G3.o Y.o;refine wp_region_noPanic ?_;refine A8 [0,1] (fun w'=>Ae w' w.heap.size 37 R5/\Ae w' M 65 (Ms.AR 2 (k:Int) N H 12 G)) Ap ?_
 generalize wr.drew=L at*
 refine Ba 0 (.agg R5) E (hy:=?_) (h:=?_)
 . (intro w' O;exact Az 37 _ rfl _ rfl O.1 underlying37 rfl i5)
 refine Ba 1 (.agg (Ms.AR 2 (k:Int) N H 12 G)) E (hy:=?_) (h:=?_)
 . (intro w' O;exact Az 65 _ rfl _ rfl O.2 underlying65 rfl Ap)
 refine Aw 2 ?_;refine Bt ?_;intro K hK;rw[Ao Bb];refine wp_store_row 37 _ _ rfl (w.heap.size+1) R5 rfl rfl 37 _ G6.o i5 z5 o5 ?_;have G3:=zz (G3.o.setRow_other (g':=w.heap.size+1) Aa R5);have V:=zz (V.o.setRow_other (g':=w.heap.size+1) Aa R5);have Y:=zz (Y.o.setRow_other (g':=w.heap.size+1) Aa R5);have G6:=zz (G6.o.setRow R5)
 have X:=zz (below_setRow X.o (show w.heap.size<=w.heap.size+1 by omega) R5)
 have T:=zz (Ay T.o (show w.heap.size+1<W.heap.size by omega) R5)
 have R:=zz (Ay R.o (show w.heap.size+1<M+1 by omega) R5)
 generalize(L.setRow (w.heap.size+1) R5)=V2 at*
 clear E;have E:=And.intro G3.o Y.o;refine hK.o _ _ E ?_;refine Aw 3 ?_;refine AX ?_ ?_
 . kernel_rfl
 intro K hK;rw[Ao Bb];refine wp_store_row 65 _ _ rfl (w.heap.size+1+1) (Ms.AR 2 (k:Int) N H 12 G) rfl rfl 65 _ V.o Ap rfl (by simp[Ms.AR,Value.oneCell']) ?_;have G3:=zz (G3.o.setRow_other (g':=w.heap.size+1+1) Aa (Ms.AR 2 (k:Int) N H 12 G));have G6:=zz (G6.o.setRow_other (g':=w.heap.size+1+1) Aa (Ms.AR 2 (k:Int) N H 12 G));have V:=zz (V.o.setRow (Ms.AR 2 (k:Int) N H 12 G))
 have X:=zz (below_setRow X.o (show w.heap.size<=w.heap.size+1+1 by omega) (Ms.AR 2 (k:Int) N H 12 G))
 have T:=zz (Ay T.o (show w.heap.size+1+1<W.heap.size by omega) (Ms.AR 2 (k:Int) N H 12 G))
 have R:=zz (Ay R.o (show w.heap.size+1+1<M+1 by omega) (Ms.AR 2 (k:Int) N H 12 G))
 generalize(V2.setRow (w.heap.size+1+1) (Ms.AR 2 (k:Int) N H 12 G))=V3 at*
 refine hK.o _ _ ?_;(try simp only[Rg.lp]);refine Bg Ap ?_ _;refine NoPanic.normal ?_;clear E;go_wp2_with fail;have tF:(prog.info? 65).map (·.size)=some (Ms.AR 2 (k:Int) N H 12 G).size:=Ap;exact Da rfl rfl rfl G6.o ⟨by rw[underlying37],i5⟩ V.o ⟨by rw[underlying65],tF⟩ rfl ⟨t,r,H,G,by rw[sD.o,rH.o];rfl,Rd.Bu T.o,by rw[sD.o,←YT qR.o];exact Rd.Bu R.o,X.o,fun a h=>Nat.le_trans Aa (Db T.o a h),fun a h=>Nat.le_trans Aa (Db R.o a h),BU T.o⟩
end Nd
end Go.Proofs.YtjobajeggllmiaaGreat
