import Derived.Test.YtjobajeggllmiaaGreatPc0
import Derived.Test.YtjobajeggllmiaaGreatPc26
set_option linter.all false
set_option maxHeartbeats 100000000
set_option maxRecDepth 100000
namespace Go.Proofs.YtjobajeggllmiaaGreat
open Ms Rg _root_.Go.Proofs.Tryz
namespace Nd
open Go.RowKit Mem Rws Flat
def ay(f:Nat->Value)(hf:∀i,i<73->C9 (Ar i) (f i))(k:Nat)(hk:k<4)(sK:f 0=.int .i64 (k:Int))(X:Int)(rW:f 1=.int .i64 X)(A:Option Addr)(c:Nat)(bs:List Bool)(AI:Option Addr)(ci:Nat)(p:List Cw)(B:Nat)(w:World)(hB:B<=w.heap.size)(hA:A=none->c=0)(tu:bs.length<=c)(hl:bs.length<=140737488351232)(hr:Rd w B 1 A bs.length (Au bs))(sW:p.length<=140737488355328)(hm:Cc w B AI p):
  Calls prog 17 #[.agg (row 74 (Ab f (.slice A bs.length c))),.slice AI p.length ci] w fun e w'=>Ej w w' (Bp f (KX (k:Int) X p) 4) bs 2 (k:Int) X (dD (Bp f (KX (k:Int) X p) 4)) e:=by
 have qV:∀(A:Option Addr) (n c:Nat),(row 74 (Ab f (.slice A n c))).all (·.oneCell')=true:=fun A n c=>Cv hf;have HO:=zz qV;have HF:=zz hf;have r9:=zz sK;have sU:=zz rW;clear hf qV sK rW
 go_in
 go_upto_region 1 with fail
 have D3:Hid (Ae (((w.alloc (.cells (row 74 (Ab f (.slice A bs.length c))) 37)).alloc (.cells zeroCells37 37)).alloc (.cells QV 65)) w.heap.size 37 (row 74 (Ab f (.slice A bs.length c)))):=zz (((Ae.new rfl).alloc _).alloc _);have D6:Hid (Ae (((w.alloc (.cells (row 74 (Ab f (.slice A bs.length c))) 37)).alloc (.cells zeroCells37 37)).alloc (.cells QV 65)) (w.heap.size+1) 37 zeroCells37):=zz ((Ae.new Bq).alloc _);have D7:Hid (Ae (((w.alloc (.cells (row 74 (Ab f (.slice A bs.length c))) 37)).alloc (.cells zeroCells37 37)).alloc (.cells QV 65)) (w.heap.size+1+1) 65 QV):=zz (Ae.new Bq);have V:=zz (((((Below.refl w.heap.size w).alloc Nr (.cells (row 74 (Ab f (.slice A bs.length c))) 37)).alloc Bq (.cells zeroCells37 37)).alloc Ec (.cells QV 65)));have HR:=zz hr;have ug:=zz hm;clear hr hm
 generalize(((w.alloc (.cells (row 74 (Ab f (.slice A bs.length c))) 37)).alloc (.cells zeroCells37 37)).alloc (.cells QV 65))=W at*
 have qW:∀A (n:Nat) c,(prog.info? 37).map (·.size)=some (row 74 (Ab f (.slice A n c))).size:=fun A n c=>by rw[Ag];kernel_rfl
 have HI:=zz qW;clear qW;have uf:w.heap.size+1+1<W.heap.size:=D7.o.lt;have sJ:=HI.o A bs.length c;obtain⟨R1,rD⟩:=AJ (row 74 (Ab f (.slice A bs.length c)));have qZ:=zz rD;rw[rD]at D3 sJ;clear rD
 go_wp2_with(refine Ad rfl 37 _ rfl w.heap.size rfl D3.o _ underlying37 rfl sJ ?_)
 rw[←qZ.o];refine(Ho f HF.o A c bs B _ (Nat.le_trans hB V.o.size) hA tu hl (HR.o.below (V.o.mono hB))).mono ?_;rintro e w1 ⟨N,M,rfl,qR,D⟩;rw[qZ.o];have sI:=zz qR;have rV:=CU V D;have tV:=D.size;have u:=HI.o N bs.length M;have rE:=HO.o N bs.length M
 have rH:(row 74 (Ab f (.slice N bs.length M)))[0]?=some (.int .i64 (k:Int)):=by rw[Ah Aa];exact congrArg some r9.o
 have sM:(row 74 (Ab f (.slice N bs.length M)))[1]?=some (.int .i64 X):=by rw[Ah Aa];exact congrArg some sU.o
 have rJ:R1.size=(row 74 (Ab f (.slice N bs.length M))).size:=by rw[←qZ.o,Ag,Ag]
 obtain⟨l,rF⟩:=AJ (row 74 (Ab f (.slice N bs.length M)));have tL:=zz rF;rw[rF]at u rE rH sM rJ ⊢;clear rF;have E3:=AU D3 D;have F3:=zz (E3.o.setRow l);have F6:=zz ((D6.o.below D D6.o.lt).setRow_other (g':=w.heap.size) Aa l);have F7:=zz ((D7.o.below D D7.o.lt).setRow_other (g':=w.heap.size) Aa l);have sw:=zz (below_setRow rV.o Nr l)
 have rU:=zz (Ay sI.o (show w.heap.size<W.heap.size by omega) l)
 have cT:=fun w=>Gu l (k:Int) rH w;have um:¬((k:Int)<0):=Aa
 have sQ:Dt (k:Int)=false:=by unfold Dt;simp;omega
 rw[sQ]at cT;clear D qR sQ
 go_upto_region 4 with(first
  |(refine wpList_store_row rfl 37 _ _ rfl w.heap.size l rfl rfl 37 _ E3.o u rJ rE ?_)
  |(refine Ad rfl 37 _ rfl w.heap.size rfl F3.o _ underlying37 rfl u ?_)
  |(go_at_call 37;refine(cT _).mono ?_;rintro e w3 ⟨rfl,Z⟩;have G3:=AU F3 Z;have G6:=AU F6 Z;have Y:=AU F7 Z;have d:=CU sw Z;have rZ:=GJ rU Z;have rQ:=Nat.le_trans tV (Nat.le_trans (show w1.heap.size<=(w1.setRow w.heap.size l).heap.size from(below_setRow (Below.refl 0 w1) (Nat.zero_le _) l).size) Z.size);clear Z))
 clear V rV sw sI rU D3 D6 D7 E3 F3 F6 F7 cT rJ;have cH:=La l (k:Int) X rH sM AI ci p 1 3 Aa B w3 (Nat.le_trans hB d.o.size) sW (ug.o.below (d.o.mono hB))
 rw[show((3:Nat):Int)=3 from rfl]at cH
 have CH:=zz cH;clear cH
 go_wp2_with(refine Ad rfl 37 _ rfl w.heap.size rfl G3.o _ underlying37 rfl u ?_)
 refine CH.o.mono ?_;rintro e w4 ⟨s,rfl,hs,hb⟩;have R:=fun(j:Nat) (hj:j<4) (w:World)=>Hf s j hj w;have uh:=zz R
 generalize row 4 s=R4 at*
 have G3:=AU G3 hb;have G6:=AU G6 hb;have Y:=AU Y hb;have U:=GJ rZ hb;have rX:=CU d hb;have O:=zz (fun i hi=>(hs i hi).keep (base':=W.heap.size) fun n xs h=>Bf h rQ);have T:=zz (Nat.le_trans rQ hb.size);rw[←tL.o]at G3;clear hs hb rZ d CH rE u R;obtain⟨rv,ru⟩:=AJ (KX (k:Int) X p);have rY:=zz ru
 have tK:=zz (fun j:Nat=>show rv j=(Be (k:Int) X 1 3 (j:Int) p).map (fun m=>m.zs)by rw[←ru];rfl)
 clear ru;go_wp2_with fail
 go_loopw[20] (fun i wr=>∃j:Nat,j<=4/\i=.int .i64 j/\Ae wr w.heap.size 37 (row 74 (Ab (Bp f rv j) (.slice N bs.length M)))/\Ae wr (w.heap.size+1) 37 zeroCells37/\Ae wr (w.heap.size+1+1) 65 QV/\wr.ownsRow W.heap.size 4 1 (.slice N bs.length M) bs.length (Au bs)/\(∀i:Nat,i<4->EH wr W.heap.size (Be (k:Int) X 1 3 (i:Int) p) (s i))/\W.heap.size<=wr.heap.size/\Below w.heap.size w wr) (fun i _=>4-(intOf i).toNat)
 .exact⟨0,Aa,rfl,by rw[O5];exact G3.o,G6.o,Y.o,U.o,O.o,T.o,rX.o⟩
 clear G3 G6 Y U O rX T;obtain⟨j,hj,rfl,g3,g6,g7,hw,hs,y,hb⟩:=hrel;have G3:=zz g3;have G6:=zz g6;have Y:=zz g7;have U:=zz hw;have O:=zz hs;have V:=zz hb;have T:=zz y;clear g3 g6 g7 hw hs hb y
 by_cases J:j<4
 .have R:=fun w=>uh.o j J w;have z:=O.o j J;have F:=tK.o j
  cases ho:Be (k:Int) X 1 3 (j:Int) p with
  |none=>
   rw[ho]at z F
   rw[show s j=.slice none 0 0 from z]at R
   have rq:=zz (show rv j=none from F)
   clear z F ho
   go_wp2_with(refine wpList_copy_nothing rfl (.tmp 27) (.tmp 28) 63 63 rfl 3 underlying63 Ap _ _ _ _ _ _ rfl rfl Bq ?_)
   exact⟨⟨j+1,Aa,BG,by rw[OH f rv j _ rq.o];exact G3.o,G6.o,Y.o,U.o,O.o,T.o,V.o⟩,Ck⟩
  |some m=>
   have sH:=IE ho;rw[ho]at z F;obtain⟨a,ca,sS,rA⟩:=z;rw[sS]at R rA;have rP:=Rd.Bu rA;obtain⟨b,o,e1,uo,C⟩:=rP.2 Aa
   injection e1 with e1
   subst e1
   have rq:=zz (show rv j=some m.zs from F)
   have qX:∀q v,(row 3 (rz m.zs)).toList[q]?=some v-> wr.cell? ((⟨b,o,none⟩:Addr).add q)=some v:=fun q v L=>by
    rw[Op.add_lit _ _ _ _ rfl];refine C q v ?_
    have hq:q<3:=by have:=(List.getElem?_eq_some_iff.1 L).1;simpa[row] using this
    rw[Gd]at L
    simp[hq]at L
    subst L
    unfold Ms.AQ rz
    simp[List.getD,show q<m.zs.length by omega]
   have sO:=zz qX;have su:=zz (Cg G3.o (39+j*3) 3 Aa);rw[sH]at R;clear sS rA F ho sH rP C qX
   go_wp2_with(refine M4 rfl (.tmp 27) (.tmp 28) 63 63 rfl 3 underlying63 Ap w.heap.size (39+j*3) 3 3 ⟨b,o,none⟩ 3 ca rfl rfl (row 3 (rz m.zs)).toList rfl sO.o (fun q hq=>(su.o q (by simpa[row] using hq)).1) (fun q hq=>(su.o q (by simpa[row] using hq)).2) (fun v L=>by rw[Gd]at L;obtain⟨q,_,rfl⟩:=List.mem_map.1 L;rfl) ?_)
   refine⟨⟨j+1,Aa,BG,?_,Al (w:=wr) (b':=w.heap.size) Aa (row 3 (rz m.zs)).toList (39+j*3) _ G6.o,Al (w:=wr) (b':=w.heap.size) Aa (row 3 (rz m.zs)).toList (39+j*3) _ Y.o,DF (show w.heap.size<W.heap.size by omega) _ _ U.o,fun i hi=>(O.o i hi).keep fun n xs h=>DF (show w.heap.size<W.heap.size by omega) _ _ h,Nat.le_trans T.o (below_setCells (Nat.zero_le _) _ _ (Below.refl 0 wr)).size,below_setCells Nr _ _ V.o⟩,Ck⟩
   rw[←OM f rv j J _ rq.o];exact DI G3.o (39+j*3) 3 (rz m.zs)
 obtain rfl:j=4:=Aa;clear J
 rw[show((4:Nat):Int)=4 from rfl]
 have qY:=zz (Im HF.o rv 4 Nr);have o5:=Cv qY.o (A:=N) (n:=bs.length) (c:=M);have i5:(prog.info? 37).map (·.size)=some (row 74 (Ab (Bp f rv 4) (.slice N bs.length M))).size:=Eg;have z5:(zeroCells37).size=(row 74 (Ab (Bp f rv 4) (.slice N bs.length M))).size:=Eg
 have j0:(row 74 (Ab (Bp f rv 4) (.slice N bs.length M)))[0]?=some (.int .i64 (k:Int)):=by rw[Ah Aa];exact congrArg some ((Hz f rv 4 0 Aa).trans r9.o)
 have j1:(row 74 (Ab (Bp f rv 4) (.slice N bs.length M)))[1]?=some (.int .i64 X):=by rw[Ah Aa];exact congrArg some ((Hz f rv 4 1 Aa).trans sU.o)
 have sG:=G3;obtain⟨E,rG⟩:=AJ (row 74 (Ab (Bp f rv 4) (.slice N bs.length M)));rw[rG]at o5 i5 z5 j0 j1 G3;have tF:=zz rG;clear rG
 go_wp2_with(refine CO Bb 32 _ rfl w.heap.size 39 12 rfl sG.o Aa _ underlying32 rfl Ap ?_)
 have qU:=fun(i:Nat) (hi:i<4) (w:World)=>Ob (fun j=>(Bp f rv 4) (39+j)) i hi w;have tC:=zz qU;clear qU sG O
 generalize(row 12 fun j=>(Bp f rv 4) (39+j))=ul at*
 go_loopw[8,33] (fun v iw wq=>∃(i n:Nat) (I:Option Addr) (H:Nat),i<=4/\n=i*3/\iw=.int .i64 i/\v=.slice I n H/\Ae wq w.heap.size 37 E/\Ae wq (w.heap.size+1) 37 zeroCells37/\Ae wq (w.heap.size+1+1) 65 QV/\wq.ownsRow W.heap.size 4 1 (.slice N bs.length M) bs.length (Au bs)/\wq.ownsRow W.heap.size 3 1 (.slice I n H) n ((List.range n).map fun j=>(Bp f rv 4) (39+j))/\W.heap.size<=wq.heap.size/\Below w.heap.size w wq) (fun _ iw _=>4-(intOf iw).toNat)
 .exact⟨0,0,none,0,Aa,rfl,rfl,rfl,G3.o,G6.o,Y.o,U.o,World.ownsRow_nil _ _ _ _,T.o,V.o⟩
 clear G3 G6 Y U V T;obtain⟨i,n,I,H,hi,hn,rfl,rfl,g3,g6,g7,hw,L,y,hb⟩:=hrel;have G3:=zz g3;have G6:=zz g6;have Y:=zz g7;have U:=zz hw;have t:=zz L;have V:=zz hb;have T:=zz y;clear g3 g6 g7 hw L hb y
 by_cases J:i<4
 .have R:=fun w=>tC.o i J w;have h3:(row 3 fun a=>(Bp f rv 4) (39+(i*3+a))).size=3:=Ag _ _
  have x:∀v∈(row 3 fun a=>(Bp f rv 4) (39+(i*3+a))).toList,v.oneCell'=true:=fun v L=>by
   rw[Gd]at L;obtain⟨q,hq,rfl⟩:=List.mem_map.1 L;have hq:=List.mem_range.1 hq;have qQ:=qY.o (39+(i*3+q)) Aa
   unfold C9 at qQ
   split at qQ
   . obtain⟨_,h⟩:=qQ;rw[h];rfl
   obtain⟨_,h⟩:=qQ;rw[h];rfl
  have rO:=zz x
  have sP:=zz (show((List.range n).map fun j=>(Bp f rv 4) (39+j))++(row 3 fun a=>(Bp f rv 4) (39+(i*3+a))).toList=(List.range (n+3)).map fun j=>(Bp f rv 4) (39+j)by rw[Gd,←hn];exact(nU (fun j=>(Bp f rv 4) (39+j)) n).symm)
  clear x;obtain⟨R3,rR⟩:=AJ (row 3 fun a=>(Bp f rv 4) (39+(i*3+a)));rw[rR]at R h3 rO sP;clear rR;have tZ:Hid (Rd ((wr.alloc (.cells dS 31)).setRow wr.heap.size R3) (wr.heap.size+1) 1 (some ⟨wr.heap.size,0,none⟩) 3 R3.toList):=zz (by have:=DU ((Ae.fresh wr 31 dS).setRow R3);rwa[h3]at this);have Z:Below wr.heap.size wr ((wr.alloc (.cells dS 31)).setRow wr.heap.size R3):=below_setRow (DC) Nr _;have F1:Hid (Ae (wr.alloc (.cells dS 31)) wr.heap.size 31 dS):=zz (Ae.fresh _ _ _);have HQ:=GJ t Z;have tY:=GJ U Z;have sN:=CU V Z;have tQ:=AU G3 Z;have tJ:=AU G6 Z;have tT:=AU Y Z;have sD:=zz (Nat.le_trans T.o Z.size)
  have i3:(prog.info? 31).map (·.size)=some R3.size:=by rw[h3];kernel_rfl
  have z3:(dS:Array Value).size=R3.size:=by rw[h3];rfl
  have o3:R3.all (·.oneCell')=true:=by rw[Array.all_eq_true_iff_forall_mem];exact fun v L=>rO.o v (Array.mem_toList_iff.2 L)
  have sZ:=zz hn;have uj:n<=9:=Aa;clear Z hn
  go_wp2_with(first|(refine wpList_store_row rfl 31 _ _ rfl wr.heap.size R3 rfl rfl 31 _ F1.o i3 z3 o3 ?_)|(at_builtin;refine Aq _ rfl (.tmp 36) (.tmp 37) 63 rfl (base:=W.heap.size) Ms.C8 rfl HQ.o rfl (fun h=>by cases h) tZ.o rO.o GX Aa sD.o ?_;intro A' c' w3 tX r rT;have tO:=zz r;have G:=zz rT;clear r rT tX))
  have rC:=mK HQ.o uf;refine⟨⟨i+1,n+3,A',c',Aa,by have:=sZ.o;omega,BG,rfl,tQ.o.grown G.o (rC _ Aa),tJ.o.grown G.o (rC _ Aa),tT.o.grown G.o (rC _ Aa),?_,?_,Nat.le_trans sD.o G.o.size,sN.o.grown G.o sN.o.size (fun g e=>by have:=(HQ.o.lt g e).1;omega)⟩,Ck⟩
  . exact Ew tY.o G.o (Ms.Fb HQ.o El)
  rw[←sP.o];exact tO.o
 obtain rfl:i=4:=Aa;clear J;obtain rfl:n=12:=Aa
 rw[show((4:Nat):Int)=4 from rfl]
 go_upto_region 15 with fail
 have G3:=zz G3.o.drew;have G6:=zz G6.o.drew;have Y:=zz Y.o.drew;have U:=zz (ownsRow_below U.o ((Below.refl wr.heap.size wr).drew));have t:=zz (ownsRow_below t.o ((Below.refl wr.heap.size wr).drew));have V:=zz V.o.drew;have O:=G3.o;refine wp_region_noPanic ?_;refine A8 [0,1] (fun w'=>Ae w' w.heap.size 37 E) Ap ?_
 generalize wr.drew=V0 at*
 refine Ba 0 (.agg E) O (hy:=?_) (h:=?_)
 . (intro w' rM;exact Az 37 _ rfl _ rfl rM underlying37 rfl i5)
 refine Ba 1 (.agg E) O (hy:=?_) (h:=?_)
 . (intro w' rM;exact Az 37 _ rfl _ rfl rM underlying37 rfl i5)
 refine Ac 2 ?_;refine Aw 3 ?_;refine Bt ?_;intro K hK;rw[Ao Bb];go_simp
 go_at_call 38
 refine(Mf E (k:Int) X 2 I 12 H j0 j1 V0).mono ?_;rintro e V1 ⟨rfl,hb⟩;have G3:=AU G3 hb;have G6:=AU G6 hb;have Y:=AU Y hb;have U:=GJ U hb;have t:=GJ t hb;have V:=CU V hb;clear hb O;have O:=G3.o;go_wp2_with fail;refine hK.o _ _ O ?_;refine Aw 4 ?_;refine AX ?_ ?_
 . kernel_rfl
 intro K hK;rw[Ao Bb];refine wp_store_row 37 _ _ rfl (w.heap.size+1) E rfl rfl 37 _ G6.o i5 z5 o5 ?_;have G3:=zz (G3.o.setRow_other (g':=w.heap.size+1) Aa E);have Y:=zz (Y.o.setRow_other (g':=w.heap.size+1) Aa E);have G6:=zz (G6.o.setRow E)
 have V:=zz (below_setRow V.o (show w.heap.size<=w.heap.size+1 by omega) E)
 have U:=zz (Ay U.o (show w.heap.size+1<W.heap.size by omega) E)
 have t:=zz (Ay t.o (show w.heap.size+1<W.heap.size by omega) E)
 generalize(V1.setRow (w.heap.size+1) E)=V2 at*
 clear O;have O:=G3.o;refine hK.o _ _ ?_;refine Aw 5 ?_;refine AX ?_ ?_
 . kernel_rfl
 intro K hK;rw[Ao Bb];refine wp_store_row 65 _ _ rfl (w.heap.size+1+1) (Ms.AR 2 (k:Int) X I 12 H) rfl rfl 65 _ Y.o Ap rfl (by simp[Ms.AR,Value.oneCell']) ?_;have G3:=zz (G3.o.setRow_other (g':=w.heap.size+1+1) Aa (Ms.AR 2 (k:Int) X I 12 H));have G6:=zz (G6.o.setRow_other (g':=w.heap.size+1+1) Aa (Ms.AR 2 (k:Int) X I 12 H));have Y:=zz (Y.o.setRow (Ms.AR 2 (k:Int) X I 12 H))
 have V:=zz (below_setRow V.o (show w.heap.size<=w.heap.size+1+1 by omega) (Ms.AR 2 (k:Int) X I 12 H))
 have U:=zz (Ay U.o (show w.heap.size+1+1<W.heap.size by omega) (Ms.AR 2 (k:Int) X I 12 H))
 have t:=zz (Ay t.o (show w.heap.size+1+1<W.heap.size by omega) (Ms.AR 2 (k:Int) X I 12 H))
 generalize(V2.setRow (w.heap.size+1+1) (Ms.AR 2 (k:Int) X I 12 H))=V3 at*
 refine hK.o _ _ ?_;(try simp only[Rg.lp]);refine Bg Ap ?_ _;refine NoPanic.normal ?_;clear O;go_wp2_with fail;have tH:(prog.info? 65).map (·.size)=some (Ms.AR 2 (k:Int) X I 12 H).size:=Ap;exact Da rfl rfl rfl G6.o ⟨by rw[underlying37],i5⟩ Y.o ⟨by rw[underlying65],tH⟩ rfl ⟨N,M,I,H,by rw[rY.o,tF.o];rfl,Rd.Bu U.o,by rw[rY.o,←YT qY.o];exact Rd.Bu t.o,V.o,fun a h=>Nat.le_trans Aa (Db U.o a h),fun a h=>Nat.le_trans Aa (Db t.o a h),BU U.o⟩
end Nd
namespace Nd
open Go.RowKit Mem Rws Flat
structure NK(w:World)(g:Nat)(A:Option Addr)(c:Nat)(bs:List Bool)(wr:World):Prop where
 hb:Below g w wr
 g6:Ae wr (g+1) 37 zeroCells37
 g7:Ae wr (g+1+1) 65 QV
 hv:wr.ownsRow (g+1+1+1) 4 1 (.slice A bs.length c) bs.length (Au bs)
structure DK(w:World)(g:Nat)(A:Option Addr)(c:Nat)(bs:List Bool)(o:Nat->Option Cw)(s:Nat->Value)(gh:Nat)(R4:Array Value)(wr:World):Prop where
 nk:NK w g A c bs wr
 hh:Ae wr gh 88 R4
 hs:∀i,i<4->EH wr (g+1+1+1) (o i) (s i)
section
variable {w : World} {g : Nat} {A : Option Addr} {c : Nat} {bs : List Bool} {o : Nat -> Option Cw} {s : Nat -> Value} {gh : Nat} {R4 : Array Value} {wr w' : World}
def NK.step(h:NK w g A c bs wr)(hb:Below wr.heap.size wr w'):NK w g A c bs w':=
 ⟨h.hb.trans (hb.mono (by have:=h.g7.lt;omega)),h.g6.below hb h.g6.lt,h.g7.below hb h.g7.lt,ownsRow_below h.hv hb⟩
def aT{v:Value}{n:Nat}{Y:List Value}{base:Nat}(h:wr.ownsRow base 3 1 v n Y):∀x,v.ownBlock=some x->∃Z t,wr.heap[x]?=some (.cells Z t (0,0))/\t≠4:=Ms.Fb h El
def NK.grown{row:Option Nat}(h:NK w g A c bs wr)(Z:wr.grownBy w' row)(X:∀x,row=some x->∃Y t,wr.heap[x]?=some (.cells Y t (0,0))/\t≠4)(hlo:∀x,row=some x->g+1+1<x):NK w g A c bs w':=
 ⟨h.hb.grown Z (Nat.le_of_lt (by have:=h.g7.lt;omega)) (fun x e=>by have:=hlo x e;omega),h.g6.grown Z (fun e=>by have:=hlo _ e.symm;omega),h.g7.grown Z (fun e=>by have:=hlo _ e.symm;omega),Ew h.hv Z X⟩
def NK.drew(h:NK w g A c bs wr):NK w g A c bs wr.drew:=h.step (Below.refl _ _).drew
def NK.set(h:NK w g A c bs wr)(i:Nat)(u:Value):NK w g A c bs (wr.setCell ⟨g,i,none⟩ u):=
 ⟨h.hb.setCell (p:=⟨g,i,none⟩) Nr u,h.g6.other (p:=⟨g,i,none⟩) (by show g+1≠g;omega) u,h.g7.other (p:=⟨g,i,none⟩) (by show g+1+1≠g;omega) u,ownsRow_setCell_below h.hv (by show g<_;omega) u⟩
def NK.sets(h:NK w g A c bs wr):∀(Z:List Value) (i:Nat),NK w g A c bs (wr.setCells g i Z):=by
 intro Z
 induction Z generalizing wr with
 |nil=>exact fun i=>h
 |cons v r ih=>intro i;rw[World.setCells];exact ih (h.set i v) (i+1)
def DK.step(h:DK w g A c bs o s gh R4 wr)(hb:Below wr.heap.size wr w'):DK w g A c bs o s gh R4 w':=⟨h.nk.step hb,h.hh.below hb h.hh.lt,fun i hi=>(h.hs i hi).below hb⟩
def DK.drew(h:DK w g A c bs o s gh R4 wr):DK w g A c bs o s gh R4 wr.drew:=h.step (Below.refl _ _).drew
def DK.set(h:DK w g A c bs o s gh R4 wr)(i:Nat)(u:Value)(X:g<gh):DK w g A c bs o s gh R4 (wr.setCell ⟨g,i,none⟩ u):=
 ⟨h.nk.set i u,h.hh.other (p:=⟨g,i,none⟩) (by show gh≠g;omega) u,fun j Y=>(h.hs j Y).keep fun n W Z=>ownsRow_setCell_below Z (by show g<_;omega) u⟩
end
def Xt(f:Nat->Value)(z:Nat->Int)(P Z:Nat->Bool)(n u:Nat)(h:∀x,x<12->P x=Z x)(S:Value):row 74 (Ab (Bv f z P n u) S)=row 74 (Ab (Bv f z Z n u) S):=AA fun i _=>by
 unfold Ab Bv
 by_cases Y:55<=i/\i<67
 . rw[h (i-55) Aa]
 rw[Aj (c:=55<=i/\i<67/\P (i-55)=true) (fun h=>Y ⟨h.1,h.2.1⟩),Aj (c:=55<=i/\i<67/\Z (i-55)=true) (fun h=>Y ⟨h.1,h.2.1⟩)]
def jq(f:Nat->Value)(z:Nat->Int)(n u:Nat){S:Value}:row 74 (Ab (Bv f z (fun x=>decide (x<4*3)) n u) S)=row 74 (Ab (Bv f z Dp n u) S):=Xt f z _ _ n u (fun x Z=>decide_eq_true Z) S
end Nd
end Go.Proofs.YtjobajeggllmiaaGreat
