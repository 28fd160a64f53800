import Derived.Test.YtjobajeggllmiaaGreatPc0
import Derived.Test.YtjobajeggllmiaaGreatPc10
set_option linter.all false
set_option maxHeartbeats 100000000
set_option maxRecDepth 100000
namespace Go.Proofs.YtjobajeggllmiaaGreat
open Ms Rg _root_.Go.Proofs.Tryz
namespace Nd
open Go.RowKit Mem Rws Flat
def VR(f:Nat->Value)(hf:∀i,i<73->C9 (Ar i) (f i))(k:Nat)(hk:k<4)(rV:f 0=.int .i64 (k:Int))(U:Int)(rH:f 1=.int .i64 U)(A:Option Addr)(c:Nat)(Z:List Bool)(AI:Option Addr)(ci:Nat)(t:List Cw)(B:Nat)(w:World)(hB:B<=w.heap.size)(hA:A=none->c=0)(su:Z.length<=c)(hl:Z.length<=140737488351232)(hr:Rd w B 1 A Z.length (Au Z))(r9:t.length<=140737488355328)(hm:Cc w B AI t):
  Calls prog 28 #[.agg (row 74 (Ab f (.slice A Z.length c))),.slice AI t.length ci] w fun e w'=>Ej w w' (DX f (OQ (k:Int) U t) 4) Z 2 (k:Int) U (hvs (DX f (OQ (k:Int) U t) 4)) e:=by
 have l:∀(A:Option Addr) (n c:Nat),(row 74 (Ab f (.slice A n c))).all (·.oneCell')=true:=fun A n c=>Cv hf;have HO:=zz l;have HF:=zz hf;have rP:=zz rV;have rZ:=zz rH;clear hf l rV rH
 go_in
 go_upto_region 1 with fail
 have D3:Hid (Ae (((w.alloc (.cells (row 74 (Ab f (.slice A Z.length c))) 37)).alloc (.cells zeroCells37 37)).alloc (.cells QV 65)) w.heap.size 37 (row 74 (Ab f (.slice A Z.length c)))):=zz (((Ae.new rfl).alloc _).alloc _);have D6:Hid (Ae (((w.alloc (.cells (row 74 (Ab f (.slice A Z.length c))) 37)).alloc (.cells zeroCells37 37)).alloc (.cells QV 65)) (w.heap.size+1) 37 zeroCells37):=zz ((Ae.new Bq).alloc _);have D7:Hid (Ae (((w.alloc (.cells (row 74 (Ab f (.slice A Z.length c))) 37)).alloc (.cells zeroCells37 37)).alloc (.cells QV 65)) (w.heap.size+1+1) 65 QV):=zz (Ae.new Bq);have Y:=zz (((((Below.refl w.heap.size w).alloc Nr (.cells (row 74 (Ab f (.slice A Z.length c))) 37)).alloc Bq (.cells zeroCells37 37)).alloc Ec (.cells QV 65)));have HR:=zz hr;have sK:=zz hm;clear hr hm
 generalize(((w.alloc (.cells (row 74 (Ab f (.slice A Z.length c))) 37)).alloc (.cells zeroCells37 37)).alloc (.cells QV 65))=W at*
 have d:∀A (n:Nat) c,(prog.info? 37).map (·.size)=some (row 74 (Ab f (.slice A n c))).size:=fun A n c=>by rw[Ag];kernel_rfl
 have HI:=zz d;clear d;have sP:w.heap.size+1+1<W.heap.size:=D7.o.lt;have rU:=HI.o A Z.length c;obtain⟨R1,qV⟩:=AJ (row 74 (Ab f (.slice A Z.length c)));have qR:=zz qV;rw[qV]at D3 rU;clear qV
 go_wp2_with(refine Ad rfl 37 _ rfl w.heap.size rfl D3.o _ underlying37 rfl rU ?_)
 rw[←qR.o];refine(Ey f HF.o A c Z B _ (Nat.le_trans hB Y.o.size) hA su hl (HR.o.below (Y.o.mono hB))).mono ?_;rintro e w1 ⟨O,N,rfl,X,I⟩;rw[qR.o];have rT:=zz X;have rG:=CU Y I;have sI:=I.size;have r:=HI.o O Z.length N;have qW:=HO.o O Z.length N
 have qZ:(row 74 (Ab f (.slice O Z.length N)))[0]?=some (.int .i64 (k:Int)):=by rw[Ah Aa];exact congrArg some rP.o
 have rW:(row 74 (Ab f (.slice O Z.length N)))[1]?=some (.int .i64 U):=by rw[Ah Aa];exact congrArg some rZ.o
 have rq:R1.size=(row 74 (Ab f (.slice O Z.length N))).size:=by rw[←qR.o,Ag,Ag]
 obtain⟨q,qX⟩:=AJ (row 74 (Ab f (.slice O Z.length N)));have sH:=zz qX;rw[qX]at r qW qZ rW rq ⊢;clear qX;have E3:=AU D3 I;have F3:=zz (E3.o.setRow q);have F6:=zz ((D6.o.below I D6.o.lt).setRow_other (g':=w.heap.size) Aa q);have F7:=zz ((D7.o.below I D7.o.lt).setRow_other (g':=w.heap.size) Aa q);have rQ:=zz (below_setRow rG.o Nr q)
 have rF:=zz (Ay rT.o (show w.heap.size<W.heap.size by omega) q)
 have cT:=fun w=>JG q (k:Int) qZ w;have sN:¬((k:Int)<0):=Aa
 have rX:Dt (k:Int)=false:=by unfold Dt;simp;omega
 rw[rX]at cT;clear I X rX
 go_upto_region 4 with(first
  |(refine wpList_store_row rfl 37 _ _ rfl w.heap.size q rfl rfl 37 _ E3.o r rq qW ?_)
  |(refine Ad rfl 37 _ rfl w.heap.size rfl F3.o _ underlying37 rfl r ?_)
  |(go_at_call 51;refine(cT _).mono ?_;rintro e w3 ⟨rfl,L⟩;have G3:=AU F3 L;have G6:=AU F6 L;have T:=AU F7 L;have rA:=CU rQ L;have rO:=GJ rF L;have rE:=Nat.le_trans sI (Nat.le_trans (show w1.heap.size<=(w1.setRow w.heap.size q).heap.size from(below_setRow (Below.refl 0 w1) (Nat.zero_le _) q).size) L.size);clear L))
 clear Y rG rQ rT rF D3 D6 D7 E3 F3 F6 F7 cT rq;rw[←sH.o]at G3;clear qW r qZ rW;obtain⟨R,ru⟩:=AJ (OQ (k:Int) U t);have rM:=zz ru
 have sG:=zz (fun j:Nat=>show R j=(Be (k:Int) U 3 1 (j:Int) t).map (fun m=>m.zs.getD 0 0)by rw[←ru];rfl)
 clear ru;go_wp2_with fail
 go_loopw[6] (fun i wr=>∃j:Nat,j<=4/\i=.int .i64 j/\Ae wr w.heap.size 37 (row 74 (Ab (DX f R j) (.slice O Z.length N)))/\Ae wr (w.heap.size+1) 37 zeroCells37/\Ae wr (w.heap.size+1+1) 65 QV/\wr.ownsRow W.heap.size 4 1 (.slice O Z.length N) Z.length (Au Z)/\W.heap.size<=wr.heap.size/\Below w.heap.size w wr) (fun i _=>4-(intOf i).toNat)
 .exact⟨0,Aa,rfl,by rw[P6];exact G3.o,G6.o,T.o,rO.o,rE,rA.o⟩
 clear G3 G6 T rO rA rE;obtain⟨j,hj,rfl,g3,g6,g7,hw,rJ,hb⟩:=hrel;have G3:=zz g3;have G6:=zz g6;have T:=zz g7;have M:=zz hw;have Y:=zz hb;have D:=zz rJ;clear g3 g6 g7 hw hb rJ;have rC:=zz (Pt HF.o R j hj);have o5:=Cv rC.o (A:=O) (n:=Z.length) (c:=N);have i5:(prog.info? 37).map (·.size)=some (row 74 (Ab (DX f R j) (.slice O Z.length N))).size:=Eg;have z5:(zeroCells37).size=(row 74 (Ab (DX f R j) (.slice O Z.length N))).size:=Eg
 have j0:(row 74 (Ab (DX f R j) (.slice O Z.length N)))[0]?=some (.int .i64 (k:Int)):=by rw[Ah Aa];exact congrArg some ((IX f R j 0 Aa).trans rP.o)
 have j1:(row 74 (Ab (DX f R j) (.slice O Z.length N)))[1]?=some (.int .i64 U):=by rw[Ah Aa];exact congrArg some ((IX f R j 1 Aa).trans rZ.o)
 obtain⟨F,qY⟩:=AJ (row 74 (Ab (DX f R j) (.slice O Z.length N)));rw[qY]at o5 i5 z5 j0 j1 G3;have G:=zz qY;clear qY
 by_cases rY:j<4
 .have cF:=L9 F (k:Int) U j0 j1 AI ci t (j:Int) 3 1 B wr (Nat.le_trans hB Y.o.size) r9 (sK.o.below (Y.o.mono hB))
  rw[show((1:Nat):Int)=1 from rfl]at cF
  have CF:=zz cF;have V:=sG.o j;clear cF
  go_wp2_with(refine Ad rfl 37 _ rfl w.heap.size rfl G3.o _ underlying37 rfl i5 ?_)
  refine CF.o.mono ?_;rintro e w4 ⟨s,hb⟩;have G3:=AU G3 hb;have G6:=AU G6 hb;have T:=AU T hb;have M:=GJ M hb;have Y:=CU Y hb;have D:=zz (Nat.le_trans D.o hb.size);clear hb CF
  cases ho:Be (k:Int) U 3 1 (j:Int) t with
  |none=>
   rw[ho]at s V;obtain rfl:e=.returned (.tuple gu):=s
   have qU:=zz (show R j=none from V)
   clear V ho;go_wp2_with fail;exact⟨⟨j+1,Aa,BG,by rw[QS f R j _ qU.o,G.o];exact G3.o,G6.o,T.o,M.o,D.o,Y.o⟩,Ck⟩
  |some m=>
   have rR:=IE ho;rw[ho]at s V;obtain⟨a,ca,rfl,_,_,rD⟩:=s
   obtain⟨b,o,u,rfl,sO,hu,H⟩:=rD.at (show 0<m.zs.length by omega)
   obtain⟨z,hz⟩:∃z,m.zs=[z]:=by
    match hq:m.zs,rR with
    |[z],_=>exact⟨z,rfl⟩
   have V:R j=some (m.zs.getD 0 0):=V;rw[hz]at hu V ⊢
   have hu:u=.int .i64 z:=by simpa[Ms.AQ] using hu.symm
   subst hu
   have qU:=zz (show R j=some z from V)
   have H: w4.cell? ⟨b,o,none⟩=some (.int .i64 z):=H
   have x5: w4.cell? ⟨w.heap.size,51+j,none⟩=some (Ab (DX f R j) (.slice O Z.length N) (51+j)):=by rw[G3.o.cell,←G.o,Ah Aa]
   have f5:=G3.o.thaw (51+j);have qQ:([z]:List Int).length=1:=rfl;rw[qQ];clear hu V ho hz rR qQ rD;go_wp2_with fail
   refine⟨⟨j+1,Aa,BG,?_,G6.o.other (p:=⟨w.heap.size,51+j,none⟩) (by show w.heap.size+1≠w.heap.size;omega) _,T.o.other (p:=⟨w.heap.size,51+j,none⟩) (by show w.heap.size+1+1≠w.heap.size;omega) _,Vt.Ch M.o Aa _,by simpa using D.o,Y.o.setCell (p:=⟨w.heap.size,51+j,none⟩) Nr _⟩,Ck⟩
   rw[←Q6 f R j rY _ qU.o,G.o];exact G3.o.set (51+j) _
 obtain rfl:j=4:=Aa;clear rY
 rw[show((4:Nat):Int)=4 from rfl]
 go_upto_region 10 with fail
 have sM:=zz (U8 rC.o (by rw[G.o];exact G3.o.drew))
 have sw:=zz (show W.heap.size<=wr.drew.heap.size from D.o)
 have G3:=zz G3.o.drew;have G6:=zz G6.o.drew;have T:=zz T.o.drew;have M:=zz (ownsRow_below M.o ((Below.refl wr.heap.size wr).drew));have Y:=zz Y.o.drew;have C:=G3.o;refine wp_region_noPanic ?_;refine A8 [0,2,4] (fun w'=>Ae w' w.heap.size 37 F) Ap ?_
 generalize wr.drew=V0 at*
 refine Ba 0 (.agg F) C (hy:=?_) (h:=?_)
 . (intro w' E;exact Az 37 _ rfl _ rfl E underlying37 rfl i5)
 refine Ac 1 ?_;refine Ba 2 ?_ C (hy:=?_) (h:=?_);rotate_left 1
 . (intro w' E;have y:=(E.cell 0).trans j0;go_simp;(try with_reducible rfl))
 refine Ac 3 ?_;refine Ba 4 ?_ C (hy:=?_) (h:=?_);rotate_left 1
 . (intro w' E;have y:=(E.cell 1).trans j1;go_simp;(try with_reducible rfl))
 refine Ac 5 ?_;refine Ac 6 ?_;refine Aw 7 ?_;refine Bt ?_;intro K hK;rw[Ao Bb];refine Ea _ (.const (.slice none 0 0)) (.tmp 39) 63 rfl (base:=W.heap.size) Ms.C8 rfl (World.ownsRow_nil _ _ _ _) rfl (fun h=>by cases h) sM.o (Ms.LH _) GX Aa sw.o ?_;intro x v V1 sJ X J
 (try simp only[List.nil_append,Nat.zero_add]at X)
 have G3:=zz (G3.o.grown J (by simp[Value.ownBlock,Act.eval]));have G6:=zz (G6.o.grown J (by simp[Value.ownBlock,Act.eval]));have T:=zz (T.o.grown J (by simp[Value.ownBlock,Act.eval]));have M:=zz (Ew M.o J (fun g e=>by cases e));have Y:=zz (Y.o.grown J Y.o.size (fun g e=>by cases e));have HV:=zz X
 (try simp only[Nat.zero_add])
 clear X J sJ C;have C:=G3.o;refine hK.o _ _ C ?_;refine Ac 8 ?_;refine Aw 9 ?_;refine Bt ?_;intro K hK;rw[Ao Bb];refine wp_store_row 37 _ _ rfl (w.heap.size+1) F rfl rfl 37 _ G6.o i5 z5 o5 ?_;have G3:=zz (G3.o.setRow_other (g':=w.heap.size+1) Aa F);have T:=zz (T.o.setRow_other (g':=w.heap.size+1) Aa F);have G6:=zz (G6.o.setRow F)
 have Y:=zz (below_setRow Y.o (show w.heap.size<=w.heap.size+1 by omega) F)
 have M:=zz (Ay M.o (show w.heap.size+1<W.heap.size by omega) F)
 have HV:=zz (Ay HV.o (show w.heap.size+1<W.heap.size by omega) F)
 generalize(V1.setRow (w.heap.size+1) F)=V2 at*
 clear C;have C:=G3.o;refine hK.o _ _ C ?_;refine Aw 10 ?_;refine AX ?_ ?_
 . kernel_rfl
 intro K hK;rw[Ao Bb];refine wp_store_row 65 _ _ rfl (w.heap.size+1+1) (Ms.AR 2 (k:Int) U x 4 v) rfl rfl 65 _ T.o Ap rfl (by simp[Ms.AR,Value.oneCell']) ?_;have G3:=zz (G3.o.setRow_other (g':=w.heap.size+1+1) Aa (Ms.AR 2 (k:Int) U x 4 v));have G6:=zz (G6.o.setRow_other (g':=w.heap.size+1+1) Aa (Ms.AR 2 (k:Int) U x 4 v));have T:=zz (T.o.setRow (Ms.AR 2 (k:Int) U x 4 v))
 have Y:=zz (below_setRow Y.o (show w.heap.size<=w.heap.size+1+1 by omega) (Ms.AR 2 (k:Int) U x 4 v))
 have M:=zz (Ay M.o (show w.heap.size+1+1<W.heap.size by omega) (Ms.AR 2 (k:Int) U x 4 v))
 have HV:=zz (Ay HV.o (show w.heap.size+1+1<W.heap.size by omega) (Ms.AR 2 (k:Int) U x 4 v))
 generalize(V2.setRow (w.heap.size+1+1) (Ms.AR 2 (k:Int) U x 4 v))=V3 at*
 refine hK.o _ _ ?_;(try simp only[Rg.lp]);refine Bg Ap ?_ _;refine NoPanic.normal ?_;clear C;go_wp2_with fail;have sD:(prog.info? 65).map (·.size)=some (Ms.AR 2 (k:Int) U x 4 v).size:=Ap;exact Da rfl rfl rfl G6.o ⟨by rw[underlying37],i5⟩ T.o ⟨by rw[underlying65],sD⟩ rfl ⟨O,N,x,v,by rw[rM.o,G.o];rfl,Rd.Bu M.o,by rw[rM.o];exact Rd.Bu HV.o,Y.o,fun a h=>Nat.le_trans Aa (Db M.o a h),fun a h=>Nat.le_trans Aa (Db HV.o a h),BU M.o⟩
end Nd
namespace Nd
open Go.RowKit Mem Rws Flat
def UC(f:Nat->Value)(Y:Int)(k:Nat)(O:k<4)(V U Z:Int)(S:Value):
  row 74 (over 51 4 zero (over 39 12 (over (k*3) 3 (nH V U Z) zero) (fun i=>if i=1 then .int .i64 Y else Ab f S i)))=row 74 (Ab (Dh f Y k V U Z) S):=by
 rw[←Tv f Y k O V U Z S];refine AA fun i hi=>?_
 unfold over
 by_cases R:39<=i/\i<39+12
 .have W:¬(51<=i/\i<51+4):=Aa;simp only[Aj W,Ao R]
  by_cases T:k*3<=i-39/\i-39<k*3+3
  .rw[Ao T,Ao (show 39+k*3<=i/\i<39+k*3+3 by omega)]
   exact congrArg _ Aa
  rw[Aj T,Aj (show ¬(39+k*3<=i/\i<39+k*3+3)by omega)]
 have X:¬(39+k*3<=i/\i<39+k*3+3):=Aa;simp only[Aj R,Aj X]
def Uo(f:Nat->Value)(hf:∀i,i<73->C9 (Ar i) (f i))(k:Nat)(hk:k<4)(ru:f 0=.int .i64 (k:Int))(T Y X Z:Int)(A:Option Addr)(c:Nat)(O:List Bool)(B:Nat)(w:World)(hB:B<=w.heap.size)(hA:A=none->c=0)(rZ:O.length<=c)(hl:O.length<=140737488351232)(hr:Rd w B 1 A O.length (Au O)):
  Calls prog 25 #[.agg (row 74 (Ab f (.slice A O.length c))),.int .i64 T,.agg (G9 Y X Z)] w fun e w'=>Ej w w' (Dh f T k Y X Z) O 1 (k:Int) T [Y,X,Z] e:=by
 obtain⟨rH,rO⟩:=hf 1 Aa;have q:∀(A:Option Addr) (n c:Nat),(row 74 (Ab f (.slice A n c))).all (·.oneCell')=true:=fun A n c=>Cv hf;have sG:=zz (JL hf T k hk Y X Z);have sD:=zz ((Yj f T k hk Y X Z).trans ru);have sH:=zz (Yv f T k hk Y X Z);have HO:=zz q;have HF:=zz hf;have rR:=zz ru;have rY:=zz rO;clear hf q ru rO
 go_in
 go_upto_region 1 with fail
 have D3:Hid (Ae ((((w.alloc (.cells (row 74 (Ab f (.slice A O.length c))) 37)).alloc (.cells (G9 Y X Z) 31)).alloc (.cells zeroCells37 37)).alloc (.cells QV 65)) w.heap.size 37 (row 74 (Ab f (.slice A O.length c)))):=zz ((((Ae.new rfl).alloc _).alloc _).alloc _);have D5:Hid (Ae ((((w.alloc (.cells (row 74 (Ab f (.slice A O.length c))) 37)).alloc (.cells (G9 Y X Z) 31)).alloc (.cells zeroCells37 37)).alloc (.cells QV 65)) (w.heap.size+1) 31 (G9 Y X Z)):=zz (((Ae.new Bq).alloc _).alloc _);have D6:Hid (Ae ((((w.alloc (.cells (row 74 (Ab f (.slice A O.length c))) 37)).alloc (.cells (G9 Y X Z) 31)).alloc (.cells zeroCells37 37)).alloc (.cells QV 65)) (w.heap.size+1+1) 37 zeroCells37):=zz ((Ae.new Bq).alloc _);have D7:Hid (Ae ((((w.alloc (.cells (row 74 (Ab f (.slice A O.length c))) 37)).alloc (.cells (G9 Y X Z) 31)).alloc (.cells zeroCells37 37)).alloc (.cells QV 65)) (w.heap.size+1+1+1) 65 QV):=zz (Ae.new Bq);have HB:=zz ((((((Below.refl w.heap.size w).alloc Nr (.cells (row 74 (Ab f (.slice A O.length c))) 37)).alloc Bq (.cells (G9 Y X Z) 31)).alloc Ec (.cells zeroCells37 37)).alloc Ec (.cells QV 65)))
 have HR:=zz hr;clear hr
 generalize((((w.alloc (.cells (row 74 (Ab f (.slice A O.length c))) 37)).alloc (.cells (G9 Y X Z) 31)).alloc (.cells zeroCells37 37)).alloc (.cells QV 65))=W at*
 have m:∀A (n:Nat) c,(prog.info? 37).map (·.size)=some (row 74 (Ab f (.slice A n c))).size:=fun A n c=>by rw[Ag];kernel_rfl
 have HI:=zz m;clear m;have sN:w.heap.size+1+1+1<W.heap.size:=D7.o.lt;have rV:=HI.o A O.length c;obtain⟨R1,qU⟩:=AJ (row 74 (Ab f (.slice A O.length c)));have b:=zz qU;rw[qU]at D3 rV;clear qU
 go_wp2_with(refine Ad rfl 37 _ rfl w.heap.size rfl D3.o _ underlying37 rfl rV ?_)
 rw[←b.o];refine(Ey f HF.o A c O B _ (Nat.le_trans hB HB.o.size) hA rZ hl (HR.o.below (HB.o.mono hB))).mono ?_;rintro e w1 ⟨D,C,rfl,r,F⟩;rw[b.o];have rU:=zz r;have rM:=CU HB F;have sM:=F.size;have s:=HI.o D O.length C;have qV:=HO.o D O.length C
 have qY:(row 74 (Ab f (.slice D O.length C)))[0]?=some (.int .i64 (k:Int)):=by rw[Ah Aa];exact congrArg some rR.o
 have rW:(row 74 (Ab f (.slice D O.length C)))[1]?=some (.int .i64 rH):=by rw[Ah Aa];exact congrArg some rY.o
 have qZ:R1.size=(row 74 (Ab f (.slice D O.length C))).size:=by rw[←b.o,Ag,Ag]
 obtain⟨d,qW⟩:=AJ (row 74 (Ab f (.slice D O.length C)));have sw:=zz qW;rw[qW]at s qV qY rW qZ ⊢;clear qW;have E3:=AU D3 F;have F3:=zz (E3.o.setRow d);have F5:=zz ((D5.o.below F D5.o.lt).setRow_other (g':=w.heap.size) Aa d);have F6:=zz ((D6.o.below F D6.o.lt).setRow_other (g':=w.heap.size) Aa d);have F7:=zz ((D7.o.below F D7.o.lt).setRow_other (g':=w.heap.size) Aa d);have rT:=zz (below_setRow rM.o Nr d)
 have rJ:=zz (Ay rU.o (show w.heap.size<W.heap.size by omega) d)
 have sI:¬((k:Int)<0):=Aa
 have rX:Dt (k:Int)=false:=by unfold Dt;simp;omega
 have cT:=fun w=>JG d (k:Int) qY w;rw[rX]at cT;clear F r rX
 go_upto_region 4 with(first
  |(refine wpList_store_row rfl 37 _ _ rfl w.heap.size d rfl rfl 37 _ E3.o s qZ qV ?_)
  |(refine Ad rfl 37 _ rfl w.heap.size rfl F3.o _ underlying37 rfl s ?_)
  |(go_at_call 51;refine(cT _).mono ?_;rintro e w3 ⟨rfl,E⟩;have G3:=AU F3 E;have G5:=AU F5 E;have G6:=AU F6 E;have G7:=AU F7 E;have rD:=CU rT E;have rQ:=GJ rJ E;clear E))
 rw[←sw.o]at G3;have H4:=zz (G3.o.set 1 (.int .i64 T));rw[Di]at H4
 have x1: w3.cell? ⟨w.heap.size,1,none⟩=some (.int .i64 rH):=by rw[G3.o.cell,Ah Aa];exact congrArg some rY.o
 have f1:=G3.o.thaw 1
 have M:=zz (G5.o.other (p:=⟨w.heap.size,1,none⟩) (by show w.heap.size+1≠w.heap.size;omega) (.int .i64 T))
 have L:=zz (G6.o.other (p:=⟨w.heap.size,1,none⟩) (by show w.heap.size+1+1≠w.heap.size;omega) (.int .i64 T))
 have R:=zz (G7.o.other (p:=⟨w.heap.size,1,none⟩) (by show w.heap.size+1+1+1≠w.heap.size;omega) (.int .i64 T))
 have rP:=zz (rD.o.setCell (p:=⟨w.heap.size,1,none⟩) Nr (.int .i64 T))
 have rG:=zz (ownsRow_setCell_below rQ.o (a:=⟨w.heap.size,1,none⟩) (show w.heap.size<W.heap.size by omega) (.int .i64 T))
 clear HB rM rT rD rU rJ rQ D3 D5 D6 D7 E3 F3 F5 F6 F7 G5 G6 G7 cT qY rW qV s qZ
 go_upto_region 5 with fail
 generalize(w3.setCell ⟨w.heap.size,1,none⟩ (.int .i64 T))=l at*
 clear x1 f1 G3;have rE:VF=row 12 zero:=rfl;have D8:Hid (Ae (l.alloc (.cells VF 32)) l.heap.size 32 (row 12 zero)):=zz (by rw[←rE];exact Ae.fresh _ _ _);have N:=zz (H4.o.alloc (.cells VF 32));have M:=zz (M.o.alloc (.cells VF 32));have L:=zz (L.o.alloc (.cells VF 32));have r9:w.heap.size+1+1+1<l.heap.size:=R.o.lt;have R:=zz (R.o.alloc (.cells VF 32))
 have U:=zz (rP.o.alloc (show w.heap.size<=l.heap.size by omega) (.cells VF 32))
 have rA:=zz ((Below.refl l.heap.size l).alloc Nr (.cells VF 32));clear rE rP H4
 go_upto_region 6 with fail
 obtain⟨u,hg⟩:=AJ (l.heap.size)
 generalize(l.alloc (.cells VF 32))=W5 at*
 have rC:=zz (fun W' h=>ownsRow_below (w':=W') rG.o h);rw[hg]at rA D8 r9 rC ⊢
 have y0: W5.cell? ⟨w.heap.size,0,none⟩=some (.int .i64 (k:Int)):=by rw[N.o.cell,Ah Aa,Aj Aa];exact congrArg some rR.o
 have y1:=M.o.cell 0;have y2:=M.o.cell 1;have y3:=M.o.cell 2;simp only[List.getElem?_toArray,List.getElem?_cons_zero,List.getElem?_cons_succ]at y1 y2 y3;have sJ:(k:Int)<4:=Aa;have sK:(0:Int)<=(k:Int):=Aa;refine wp_region_list ?_;refine wpList_plain rfl (fun K hK=>?_);go_simp;refine hK _ _ ?_;(try simp only[Rg.lp]);refine wpList_plain rfl (fun K hK=>?_);go_simp;refine hK _ _ ?_;(try simp only[Rg.lp]);refine wpList_plain rfl (fun K hK=>?_);go_simp;refine hK _ _ ?_;(try simp only[Rg.lp]);refine wpList_plain rfl (fun K hK=>?_);go_simp;refine hK _ _ ?_;(try simp only[Rg.lp]);clear y0 y1 y2 y3;have q6:W5.there u (k*3) (IJ Y X Z).size:=Cg D8.o (k*3) 3 Aa;have i6:(prog.info? 31).map (·.size)=some (IJ Y X Z).size:=Ap
 have o6:(IJ Y X Z).all (·.oneCell')=true:=by simp[IJ,Value.oneCell']
 refine wpList_plain rfl (fun K hK=>?_);refine wp_store_mid 31 (.tmp 20) (.tmp 19) rfl u (k*3) (IJ Y X Z) rfl rfl q6 i6 o6 (hK _ _ ?_);(try simp only[Rg.lp]);clear q6 i6 o6;have D8:=zz (L8 (Vf Y X Z) D8.o (k*3));have N:=zz (Al (w:=W5) (b':=u) Aa (IJ Y X Z).toList (k*3) _ N.o);have M:=zz (Al (w:=W5) (b':=u) Aa (IJ Y X Z).toList (k*3) _ M.o);have L:=zz (Al (w:=W5) (b':=u) Aa (IJ Y X Z).toList (k*3) _ L.o);have R:=zz (Al (w:=W5) (b':=u) Aa (IJ Y X Z).toList (k*3) _ R.o)
 have U:=zz (below_setCells (show w.heap.size<=u by omega) (IJ Y X Z).toList (k*3) U.o)
 have V:=zz (rC.o _ (below_setCells Nr (IJ Y X Z).toList (k*3) rA.o));clear rC rA rG
 generalize(W5.setCells u (k*3) (IJ Y X Z).toList)=W6 at*
 go_upto_region 7 with fail
 obtain⟨x,v⟩:=AJ (row 12 (over (k*3) 3 (nH Y X Z) zero))
 have e8:x.size=12:=by rw[←v,Ag]
 have i8:(prog.info? 32).map (·.size)=some x.size:=by rw[e8];kernel_rfl
 have o8:x.all (·.oneCell')=true:=by rw[←v];exact row_one fun i _=>by(unfold over nH zero;(repeat' split)<;>rfl)
 have q8:W6.there w.heap.size 39 x.size:=by rw[e8];exact Cg N.o 39 12 Aa
 rw[v]at D8;have su:=zz v.symm;clear v e8;refine wp_region_list ?_;refine Ad Bb 32 _ rfl u rfl D8.o _ underlying32 rfl i8 ?_;(try simp only[Rg.lp]);refine wpList_plain rfl (fun K hK=>?_);go_simp;refine hK _ _ ?_;(try simp only[Rg.lp]);refine wpList_plain rfl (fun K hK=>?_);refine wp_store_mid 32 (.tmp 22) (.tmp 21) rfl w.heap.size 39 x rfl rfl q8 i8 o8 (hK _ _ ?_);(try simp only[Rg.lp]);have N:=zz (L8 su.o N.o 39);have M:=zz (Al (w:=W6) (b':=w.heap.size) Aa x.toList 39 _ M.o);have L:=zz (Al (w:=W6) (b':=w.heap.size) Aa x.toList 39 _ L.o);have R:=zz (Al (w:=W6) (b':=w.heap.size) Aa x.toList 39 _ R.o);have U:=zz (below_setCells Nr x.toList 39 U.o)
 have V:=zz (DF (show w.heap.size<W.heap.size by omega) x.toList 39 V.o)
 clear q8 i8 o8 D8
 generalize(W6.setCells w.heap.size 39 x.toList)=W7 at*
 go_upto_region 8 with fail
 have q6:W7.there w.heap.size 51 Iw.size:=Cg N.o 51 4 Aa;have i6:(prog.info? 28).map (·.size)=some Iw.size:=Ap
 have o6:Iw.all (·.oneCell')=true:=by simp[Iw,Value.oneCell']
 refine wp_region_list ?_;refine wpList_plain rfl (fun K hK=>?_);go_simp;refine hK _ _ ?_;(try simp only[Rg.lp]);refine wpList_plain rfl (fun K hK=>?_);go_simp;refine hK _ _ ?_;(try simp only[Rg.lp]);refine wpList_plain rfl (fun K hK=>?_);refine wp_store_mid 28 (.tmp 24) (.tmp 23) rfl w.heap.size 51 Iw rfl rfl q6 i6 o6 (hK _ _ ?_);(try simp only[Rg.lp]);have N:=zz (L8 Wt N.o 51);have M:=zz (Al (w:=W7) (b':=w.heap.size) Aa Iw.toList 51 _ M.o);have L:=zz (Al (w:=W7) (b':=w.heap.size) Aa Iw.toList 51 _ L.o);have R:=zz (Al (w:=W7) (b':=w.heap.size) Aa Iw.toList 51 _ R.o);have U:=zz (below_setCells Nr Iw.toList 51 U.o)
 have V:=zz (DF (show w.heap.size<W.heap.size by omega) Iw.toList 51 V.o)
 clear q6 i6 o6
 generalize(W7.setCells w.heap.size 51 Iw.toList)=W8 at*
 rw[UC f T k hk]at N
 go_upto_region 9 with fail
 have i3:(prog.info? 37).map (·.size)=some (row 74 (Ab (Dh f T k Y X Z) (.slice D O.length C))).size:=HI.o D O.length C;have sF:=sG.o;have s3:=fun(A:Option Addr) (n c:Nat)=>(Cv sF:(row 74 (Ab (Dh f T k Y X Z) (.slice A n c))).all (·.oneCell')=true);have o3:=s3 D O.length C;have z3:(zeroCells37).size=(row 74 (Ab (Dh f T k Y X Z) (.slice D O.length C))).size:=Eg
 have j0:(row 74 (Ab (Dh f T k Y X Z) (.slice D O.length C)))[0]?=some (.int .i64 (k:Int)):=by rw[Ah Aa];exact congrArg some sD.o
 obtain⟨G,qQ⟩:=AJ (row 74 (Ab (Dh f T k Y X Z) (.slice D O.length C)));have rF:=zz qQ;rw[qQ]at N o3 z3 j0 i3;clear qQ sF s3;refine wp_region_noPanic ?_;have N:=zz N.o.drew;have M:=zz M.o.drew;have L:=zz L.o.drew;have R:=zz R.o.drew;have U:=zz U.o.drew;have V:=zz (ownsRow_below V.o ((Below.refl W8.heap.size W8).drew));have I:=And.intro N.o M.o;refine A8 [0,2,5,7,9] (fun w'=>Ae w' w.heap.size 37 G/\Ae w' (w.heap.size+1) 31 (G9 Y X Z)) Ap ?_
 generalize W8.drew=g at*
 refine Ba 0 (.agg G) I (hy:=?_) (h:=?_)
 . (intro w' H;exact Az 37 _ rfl _ rfl H.1 underlying37 rfl i3)
 refine Ac 1 ?_;refine Ba 2 ?_ I (hy:=?_) (h:=?_);rotate_left 1
 . (intro w' H;have y:=(H.1.cell 0).trans j0;go_simp;(try with_reducible rfl))
 refine Ac 3 ?_;refine Ac 4 ?_;refine Ba 5 ?_ I (hy:=?_) (h:=?_);rotate_left 1
 . (intro w' H;have y:=H.2.cell 0;simp only[List.getElem?_toArray,List.getElem?_cons_zero,List.getElem?_cons_succ]at y;go_simp;(try with_reducible rfl))
 refine Ac 6 ?_;refine Ba 7 ?_ I (hy:=?_) (h:=?_);rotate_left 1
 . (intro w' H;have y:=H.2.cell 1;simp only[List.getElem?_toArray,List.getElem?_cons_zero,List.getElem?_cons_succ]at y;go_simp;(try with_reducible rfl))
 refine Ac 8 ?_;refine Ba 9 ?_ I (hy:=?_) (h:=?_);rotate_left 1
 . (intro w' H;have y:=H.2.cell 2;simp only[List.getElem?_toArray,List.getElem?_cons_zero,List.getElem?_cons_succ]at y;go_simp;(try with_reducible rfl))
 (try simp only[Rg.lp]);refine XY (i:=10) (j:=12) (oi:=⟨some 35,.buildSlice 63 3 #[(0,.tmp 30),(1,.tmp 32),(2,.tmp 34)],_,_,_,none⟩) (oj:=⟨none,.store 37 (.tmp 6) (.tmp 25),_,_,_,none⟩) Ap rfl rfl ?_ ?_
 .refine Bt ?_;intro K hK;go_simp;have rq:w.heap.size+1+1+1<g.heap.size:=R.o.lt;have z:Hid (Ae (g.alloc (.cells (G9 Y X Z) 3)) g.heap.size 3 (G9 Y X Z)):=zz (Ae.fresh _ _ _);have N:=zz (N.o.alloc (.cells (G9 Y X Z) 3));have M:=zz (M.o.alloc (.cells (G9 Y X Z) 3));have L:=zz (L.o.alloc (.cells (G9 Y X Z) 3));have R:=zz (R.o.alloc (.cells (G9 Y X Z) 3));have U:=zz (U.o.alloc U.o.size (.cells (G9 Y X Z) 3));have V:=zz (ownsRow_below V.o ((Below.refl g.heap.size g).alloc Nr (.cells (G9 Y X Z) 3)))
  generalize(g.alloc (.cells (G9 Y X Z) 3))=t at*
  obtain⟨J,qX⟩:=AJ (g.heap.size);rw[qX]at z rq ⊢;clear I;have I:=And.intro N.o M.o;refine hK.o _ _ I ?_;refine Ac 11 ?_;refine Aw 12 ?_;refine Bt ?_;intro K hK;rw[Ao Bb];refine wp_store_row 37 _ _ rfl (w.heap.size+1+1) G rfl rfl 37 _ L.o i3 z3 o3 ?_;have z:=zz (z.o.setRow_other (g':=w.heap.size+1+1) Aa G);have N:=zz (N.o.setRow_other (g':=w.heap.size+1+1) Aa G);have M:=zz (M.o.setRow_other (g':=w.heap.size+1+1) Aa G);have R:=zz (R.o.setRow_other (g':=w.heap.size+1+1) Aa G);have L:=zz (L.o.setRow G)
  have U:=zz (below_setRow U.o (show w.heap.size<=w.heap.size+1+1 by omega) G)
  have V:=zz (Ay V.o (show w.heap.size+1+1<W.heap.size by omega) G)
  generalize(t.setRow (w.heap.size+1+1) G)=V2 at*
  clear I;have I:=And.intro N.o M.o;refine hK.o _ _ I ?_;refine Aw 13 ?_;refine AX ?_ ?_
  . kernel_rfl
  intro K hK;rw[Ao Bb];refine wp_store_row 65 _ _ rfl (w.heap.size+1+1+1) (Ms.AR 1 (k:Int) T (some ⟨J,0,none⟩) 3 3) rfl rfl 65 _ R.o Ap rfl (by simp[Ms.AR,Value.oneCell']) ?_;have L:=zz (L.o.setRow_other (g':=w.heap.size+1+1+1) Aa (Ms.AR 1 (k:Int) T (some ⟨J,0,none⟩) 3 3));have z:=zz (z.o.setRow_other (g':=w.heap.size+1+1+1) Aa (Ms.AR 1 (k:Int) T (some ⟨J,0,none⟩) 3 3));have R:=zz (R.o.setRow (Ms.AR 1 (k:Int) T (some ⟨J,0,none⟩) 3 3))
  have U:=zz (below_setRow U.o (show w.heap.size<=w.heap.size+1+1+1 by omega) (Ms.AR 1 (k:Int) T (some ⟨J,0,none⟩) 3 3))
  have V:=zz (Ay V.o (show w.heap.size+1+1+1<W.heap.size by omega) (Ms.AR 1 (k:Int) T (some ⟨J,0,none⟩) 3 3))
  generalize(V2.setRow (w.heap.size+1+1+1) (Ms.AR 1 (k:Int) T (some ⟨J,0,none⟩) 3 3))=V9 at*
  refine hK.o _ _ ?_;(try simp only[Rg.lp]);refine Bg Ap ?_ _;refine NoPanic.normal ?_;clear N I;go_wp2_with fail;have qR:(prog.info? 65).map (·.size)=some (Ms.AR 1 (k:Int) T (some ⟨J,0,none⟩) 3 3).size:=Ap
  refine Da rfl rfl rfl L.o ⟨by rw[underlying37],i3⟩ R.o ⟨by rw[underlying65],qR⟩ rfl ⟨D,C,some ⟨J,0,none⟩,3,by rw[rF.o];rfl,Rd.Bu V.o,(DU z.o).more (by have:=z.o.lt;omega),U.o,fun a h=>Nat.le_trans Aa (Db V.o a h),(fun a h=>by cases h;show w.heap.size<=J;omega),BU V.o⟩
 refine Bt ?_;intro K hK;rw[Ao Bb];refine wp_store_row 37 _ _ rfl (w.heap.size+1+1) G rfl rfl 37 _ L.o i3 z3 o3 ?_;have N:=zz (N.o.setRow_other (g':=w.heap.size+1+1) Aa G);have M:=zz (M.o.setRow_other (g':=w.heap.size+1+1) Aa G);have R:=zz (R.o.setRow_other (g':=w.heap.size+1+1) Aa G);have L:=zz (L.o.setRow G)
 have U:=zz (below_setRow U.o (show w.heap.size<=w.heap.size+1+1 by omega) G)
 have V:=zz (Ay V.o (show w.heap.size+1+1<W.heap.size by omega) G)
 generalize(g.setRow (w.heap.size+1+1) G)=t at*
 clear I;have I:=And.intro N.o M.o;refine hK.o _ _ I ?_;refine Aw 10 ?_;refine Bt ?_;intro K hK;go_simp;have rq:w.heap.size+1+1+1<t.heap.size:=R.o.lt;have z:Hid (Ae (t.alloc (.cells (G9 Y X Z) 3)) t.heap.size 3 (G9 Y X Z)):=zz (Ae.fresh _ _ _);have N:=zz (N.o.alloc (.cells (G9 Y X Z) 3));have M:=zz (M.o.alloc (.cells (G9 Y X Z) 3));have L:=zz (L.o.alloc (.cells (G9 Y X Z) 3));have R:=zz (R.o.alloc (.cells (G9 Y X Z) 3));have U:=zz (U.o.alloc U.o.size (.cells (G9 Y X Z) 3));have V:=zz (ownsRow_below V.o ((Below.refl t.heap.size t).alloc Nr (.cells (G9 Y X Z) 3)))
 generalize(t.alloc (.cells (G9 Y X Z) 3))=V2 at*
 obtain⟨J,qX⟩:=AJ (t.heap.size);rw[qX]at z rq ⊢;clear I;have I:=And.intro N.o M.o;refine hK.o _ _ I ?_;refine Ac 11 ?_;refine Aw 13 ?_;refine AX ?_ ?_
 . kernel_rfl
 intro K hK;rw[Ao Bb];refine wp_store_row 65 _ _ rfl (w.heap.size+1+1+1) (Ms.AR 1 (k:Int) T (some ⟨J,0,none⟩) 3 3) rfl rfl 65 _ R.o Ap rfl (by simp[Ms.AR,Value.oneCell']) ?_;have L:=zz (L.o.setRow_other (g':=w.heap.size+1+1+1) Aa (Ms.AR 1 (k:Int) T (some ⟨J,0,none⟩) 3 3));have z:=zz (z.o.setRow_other (g':=w.heap.size+1+1+1) Aa (Ms.AR 1 (k:Int) T (some ⟨J,0,none⟩) 3 3));have R:=zz (R.o.setRow (Ms.AR 1 (k:Int) T (some ⟨J,0,none⟩) 3 3))
 have U:=zz (below_setRow U.o (show w.heap.size<=w.heap.size+1+1+1 by omega) (Ms.AR 1 (k:Int) T (some ⟨J,0,none⟩) 3 3))
 have V:=zz (Ay V.o (show w.heap.size+1+1+1<W.heap.size by omega) (Ms.AR 1 (k:Int) T (some ⟨J,0,none⟩) 3 3))
 generalize(V2.setRow (w.heap.size+1+1+1) (Ms.AR 1 (k:Int) T (some ⟨J,0,none⟩) 3 3))=V9 at*
 refine hK.o _ _ ?_;(try simp only[Rg.lp]);refine Bg Ap ?_ _;refine NoPanic.normal ?_;clear N I;go_wp2_with fail;have qR:(prog.info? 65).map (·.size)=some (Ms.AR 1 (k:Int) T (some ⟨J,0,none⟩) 3 3).size:=Ap
 refine Da rfl rfl rfl L.o ⟨by rw[underlying37],i3⟩ R.o ⟨by rw[underlying65],qR⟩ rfl ⟨D,C,some ⟨J,0,none⟩,3,by rw[rF.o];rfl,Rd.Bu V.o,(DU z.o).more (by have:=z.o.lt;omega),U.o,fun a h=>Nat.le_trans Aa (Db V.o a h),(fun a h=>by cases h;show w.heap.size<=J;omega),BU V.o⟩
end Nd
namespace Nd
open Go.RowKit Mem Rws Flat
def Rf:Value->Option Bool
 | .int .i64 _=>some true
 | .bool _=>some false
 |_=>none
def Uc{v:Value}{b:Bool}(h:Rf v=some b):C9 b v:=by
 unfold Rf at h
 split at h
 . cases h;exact⟨_,rfl⟩
 . cases h;exact⟨_,rfl⟩
 cases h
def TW{f:Nat->Value}(h:(List.range 73).map (fun i=>Rf (f i))=(List.range 73).map (fun i=>some (Ar i))):∀i,i<73->C9 (Ar i) (f i):=fun i hi=>by
 have Z:=congrArg (·[i]?) h
 simp[hi]at Z
 exact Uc Z
def Zp(id Z Y X W:Int):∀i,i<73->C9 (Ar i) (Cq id Z Y X W 3 i):=TW Ap
end Nd
end Go.Proofs.YtjobajeggllmiaaGreat
