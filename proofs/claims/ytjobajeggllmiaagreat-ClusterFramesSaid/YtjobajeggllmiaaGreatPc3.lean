import Derived.Test.YtjobajeggllmiaaGreatPc0
import Derived.Test.YtjobajeggllmiaaGreatPc2
set_option linter.all false
set_option maxHeartbeats 100000000
set_option maxRecDepth 100000
namespace Go.Proofs.YtjobajeggllmiaaGreat
namespace Ms
end Ms
open Ms Rg _root_.Go.Proofs.Tryz
namespace Nd
open Go.RowKit Mem Rws Flat
def Ej(w w':World)(f:Nat->Value)(Z:List Bool)(k i V:Int)(Y:List Int)(e:Ending):Prop:=
 ∃A c X W,e=.returned (.tuple #[.agg (row 74 (Ab f (.slice A Z.length c))),Ms.Jg k i V X Y.length W])/\Rd w' w'.heap.size 1 A Z.length (Au Z)/\Rd w' w'.heap.size 1 X Y.length (Ms.AQ Y)/\Below w.heap.size w w'/\(∀a,A=some a->w.heap.size<=a.block)/\(∀a,X=some a->w.heap.size<=a.block)/\(A=none->c=0)/\Z.length<=c
def nH(X Y Z:Int)(j:Nat):Value:=if j=0 then .int .i64 X else if j=1 then .int .i64 Y else .int .i64 Z
def I8:Array Value:=VF
def Iw:Array Value:=bR
def IJ(X Y Z:Int):Array Value:=(G9 X Y Z)
def zero(j:Nat):Value:=.int .i64 0
def Dh(f:Nat->Value)(Y:Int)(k:Nat)(X W Z:Int):Nat->Value:=
 over (39+k*3) 3 (nH X W Z) (over 51 4 zero (over 39 12 zero (fun i=>if i=1 then .int .i64 Y else f i)))
def dm:I8=row 12 zero:=rfl
def Wt:Iw=row 4 zero:=rfl
def Vf(X Y Z:Int):IJ X Y Z=row 3 (nH X Y Z):=rfl
def L8{w:World}{b:Nat}{t:TypeId}{n m:Nat}{f g:Nat->Value}{L:Array Value}(Z:L=row m g)(h:Ae w b t (row n f))(o:Nat):Ae (w.setCells b o L.toList) b t (row n (over o m g f)):=by subst Z;exact DI h o m g
def DF{base:Nat}{e:TypeId}{size:Nat}{v:Value}{n:Nat}{Y:List Value}{g:Nat}(Z:g<base):∀(X:List Value) (o:Nat) {w:World},w.ownsRow base e size v n Y->(w.setCells g o X).ownsRow base e size v n Y
 |[],_,_,h=>h
 |u::r,o,w,h=>by
  rw[World.setCells];exact DF Z r (o+1) (ownsRow_setCell_below h (a:=⟨g,o,none⟩) Z u)
def DU{w:World}{g:Nat}{t:TypeId}{cs:Array Value}(h:Ae w g t cs):Rd w (g+1) 1 (some ⟨g,0,none⟩) cs.size cs.toList:=
 ⟨Bq,fun _=>⟨g,0,rfl,Aa,fun j u Z=>by rw[Nat.zero_add,h.cell];simpa using Z⟩⟩
def Az{P:Program}{Z:Oper}{a:Act}{w:World}(ty:TypeId)(x:Operand)(X:Z.op=.load ty x)(b:Nat)(Y:a.eval x=.pointer (some ⟨b,0,none⟩)){t:TypeId}{cs:Array Value}(h:Ae w b t cs){d:TypeDesc}(hu:P.underlying ty=some d)(hd:(match d with| .struct _| .array _ _=>true|_=>false)=true)(hi:(P.info? ty).map (·.size)=some cs.size):(execOp a.eval Z).run P w=.ok (.value (.agg cs)) w:=by
 unfold execOp
 simp only[X,Y,Instr.loadAt,Instr.sureAddr,Sem.run_bind,Sem.run_pure,Result.andThen_ok,run_loadVar_row w b t ty cs _ d h hu hd hi]
def Yj(f:Nat->Value)(Y:Int)(k:Nat)(V:k<4)(X W Z:Int):Dh f Y k X W Z 0=f 0:=by
 unfold Dh
 rw[Cx Aa,Cx Aa,Cx Aa,Aj Aa]
def Yv(f:Nat->Value)(fr:Int)(k:Nat)(W:k<4)(Y X Z:Int):Dh f fr k Y X Z 1=.int .i64 fr:=by
 unfold Dh
 rw[Cx Aa,Cx Aa,Cx Aa,Ao rfl]
def Tv(f:Nat->Value)(Y:Int)(k:Nat)(V:k<4)(X W Z:Int)(S:Value):
  row 74 (over (39+k*3) 3 (nH X W Z) (over 51 4 zero (over 39 12 zero (fun i=>if i=1 then .int .i64 Y else Ab f S i))))=row 74 (Ab (Dh f Y k X W Z) S):=
 AA fun i hi=>by
  by_cases h:i=73
  .subst h;rw[Cx Aa,Cx Aa,Cx Aa,Aj Aa];rfl
  unfold Ab Dh
  rw[Aj h]
  unfold over
  simp only[Aj h]
def JL{f:Nat->Value}(W:∀i,i<73->C9 (Ar i) (f i))(X:Int)(k:Nat)(R:k<4)(U T Y:Int):∀i,i<73->C9 (Ar i) (Dh f X k U T Y i):=fun i hi=>by
 unfold Dh
 by_cases V:39<=i/\i<55
 .have e:Ar i=true:=by
   obtain⟨a,b⟩:=V
   unfold Ar
   simp
   omega
  rw[e]
  unfold over
  split
  .unfold nH;split
   . exact⟨_,rfl⟩
   split<;>exact⟨_,rfl⟩
  split
  . exact⟨_,rfl⟩
  split
  . exact⟨_,rfl⟩
  omega
 rw[Cx Aa,Cx Aa,Cx Aa]
 by_cases Z:i=1
 . subst Z;rw[Ao rfl];exact⟨_,rfl⟩
 rw[Aj Z];exact W i hi
def bJ(f:Nat->Value)(hf:∀i,i<73->C9 (Ar i) (f i))(k:Nat)(hk:k<4)(b:f 0=.int .i64 (k:Int))(Z X V Y:Int)(A:Option Addr)(c:Nat)(U:List Bool)(B:Nat)(w:World)(hB:B<=w.heap.size)(hA:A=none->c=0)(rF:U.length<=c)(hl:U.length<=140737488351232)(hr:Rd w B 1 A U.length (Au U)):
  Calls prog 16 #[.agg (row 74 (Ab f (.slice A U.length c))),.int .i64 Z,.agg (G9 X V Y)] w fun e w'=>Ej w w' (Dh f Z k X V Y) U 1 (k:Int) Z [X,V,Y] e:=by
 obtain⟨qR,qW⟩:=hf 1 Aa;have y:∀(A:Option Addr) (n c:Nat),(row 74 (Ab f (.slice A n c))).all (·.oneCell')=true:=fun A n c=>Cv hf;have sD:=zz (JL hf Z k hk X V Y);have rZ:=zz ((Yj f Z k hk X V Y).trans b);have rM:=zz (Yv f Z k hk X V Y);have HO:=zz y;have HF:=zz hf;have qY:=zz b;have rE:=zz qW;clear hf y b qW
 go_in
 go_upto_region 1 with fail
 have D3:Hid (Ae ((((w.alloc (.cells (row 74 (Ab f (.slice A U.length c))) 37)).alloc (.cells (G9 X V Y) 31)).alloc (.cells zeroCells37 37)).alloc (.cells QV 65)) w.heap.size 37 (row 74 (Ab f (.slice A U.length c)))):=zz ((((Ae.new rfl).alloc _).alloc _).alloc _);have D5:Hid (Ae ((((w.alloc (.cells (row 74 (Ab f (.slice A U.length c))) 37)).alloc (.cells (G9 X V Y) 31)).alloc (.cells zeroCells37 37)).alloc (.cells QV 65)) (w.heap.size+1) 31 (G9 X V Y)):=zz (((Ae.new Bq).alloc _).alloc _);have D6:Hid (Ae ((((w.alloc (.cells (row 74 (Ab f (.slice A U.length c))) 37)).alloc (.cells (G9 X V Y) 31)).alloc (.cells zeroCells37 37)).alloc (.cells QV 65)) (w.heap.size+1+1) 37 zeroCells37):=zz ((Ae.new Bq).alloc _);have D7:Hid (Ae ((((w.alloc (.cells (row 74 (Ab f (.slice A U.length c))) 37)).alloc (.cells (G9 X V Y) 31)).alloc (.cells zeroCells37 37)).alloc (.cells QV 65)) (w.heap.size+1+1+1) 65 QV):=zz (Ae.new Bq);have HB:=zz ((((((Below.refl w.heap.size w).alloc Nr (.cells (row 74 (Ab f (.slice A U.length c))) 37)).alloc Bq (.cells (G9 X V Y) 31)).alloc Ec (.cells zeroCells37 37)).alloc Ec (.cells QV 65)))
 have HR:=zz hr;clear hr
 generalize((((w.alloc (.cells (row 74 (Ab f (.slice A U.length c))) 37)).alloc (.cells (G9 X V Y) 31)).alloc (.cells zeroCells37 37)).alloc (.cells QV 65))=W at*
 have x:∀A (n:Nat) c,(prog.info? 37).map (·.size)=some (row 74 (Ab f (.slice A n c))).size:=fun A n c=>by rw[Ag];kernel_rfl
 have HI:=zz x;clear x;have sK:w.heap.size+1+1+1<W.heap.size:=D7.o.lt;have ru:=HI.o A U.length c;obtain⟨R1,q⟩:=AJ (row 74 (Ab f (.slice A U.length c)));have s:=zz q;rw[q]at D3 ru;clear q
 go_wp2_with(refine Ad rfl 37 _ rfl w.heap.size rfl D3.o _ underlying37 rfl ru ?_)
 rw[←s.o];refine(Ho f HF.o A c U B _ (Nat.le_trans hB HB.o.size) hA rF hl (HR.o.below (HB.o.mono hB))).mono ?_;rintro e w1 ⟨J,I,rfl,z,N⟩;rw[s.o];have rq:=zz z;have qV:=CU HB N;have sJ:=N.size;have C:=HI.o J U.length I;have m:=HO.o J U.length I
 have j:(row 74 (Ab f (.slice J U.length I)))[0]?=some (.int .i64 (k:Int)):=by rw[Ah Aa];exact congrArg some qY.o
 have rA:(row 74 (Ab f (.slice J U.length I)))[1]?=some (.int .i64 qR):=by rw[Ah Aa];exact congrArg some rE.o
 have g:R1.size=(row 74 (Ab f (.slice J U.length I))).size:=by rw[←s.o,Ag,Ag]
 obtain⟨v,l⟩:=AJ (row 74 (Ab f (.slice J U.length I)));have rW:=zz l;rw[l]at C m j rA g ⊢;clear l;have E3:=AU D3 N;have F3:=zz (E3.o.setRow v);have F5:=zz ((D5.o.below N D5.o.lt).setRow_other (g':=w.heap.size) Aa v);have F6:=zz ((D6.o.below N D6.o.lt).setRow_other (g':=w.heap.size) Aa v);have F7:=zz ((D7.o.below N D7.o.lt).setRow_other (g':=w.heap.size) Aa v);have qZ:=zz (below_setRow qV.o Nr v)
 have qU:=zz (Ay rq.o (show w.heap.size<W.heap.size by omega) v)
 have sG:¬((k:Int)<0):=Aa
 have rC:Dt (k:Int)=false:=by unfold Dt;simp;omega
 have cT:=fun w=>Gu v (k:Int) j w;rw[rC]at cT;clear N z rC
 go_upto_region 4 with(first
  |(refine wpList_store_row rfl 37 _ _ rfl w.heap.size v rfl rfl 37 _ E3.o C g m ?_)
  |(refine Ad rfl 37 _ rfl w.heap.size rfl F3.o _ underlying37 rfl C ?_)
  |(go_at_call 37;refine(cT _).mono ?_;rintro e R ⟨rfl,M⟩;have G3:=AU F3 M;have G5:=AU F5 M;have G6:=AU F6 M;have G7:=AU F7 M;have qQ:=CU qZ M;have qX:=GJ qU M;clear M))
 rw[←rW.o]at G3;have H4:=zz (G3.o.set 1 (.int .i64 Z));rw[Di]at H4
 have x1: R.cell? ⟨w.heap.size,1,none⟩=some (.int .i64 qR):=by rw[G3.o.cell,Ah Aa];exact congrArg some rE.o
 have f1:=G3.o.thaw 1;have H5:=zz (L8 dm H4.o 39);have H6:=zz (L8 Wt H5.o 51);have t:=zz (L8 (Vf X V Y) H6.o (39+k*3));rw[Tv f Z k hk]at t
 have y0:(((R.setCell ⟨w.heap.size,1,none⟩ (.int .i64 Z)).setCells w.heap.size 39 I8.toList).setCells w.heap.size 51 Iw.toList).cell? ⟨w.heap.size,0,none⟩=some (.int .i64 (k:Int)):=by
  rw[H6.o.cell,Ah Aa,Cx Aa,Cx Aa,Aj Aa];exact congrArg some qY.o
 have T:=zz (G5.o.other (p:=⟨w.heap.size,1,none⟩) (by show w.heap.size+1≠w.heap.size;omega) (.int .i64 Z))
 have T:=zz (Al (w:=R) (b':=w.heap.size) Aa I8.toList 39 _ T.o);have T:=zz (Al (w:=R) (b':=w.heap.size) Aa Iw.toList 51 _ T.o);have y1:=T.o.cell 0;have y2:=T.o.cell 1;have y3:=T.o.cell 2;simp only[List.getElem?_toArray,List.getElem?_cons_zero,List.getElem?_cons_succ]at y1 y2 y3;have rY:=zz y0;have rQ:=zz y1;have rV:=zz y2;have rR:=zz y3;clear y0 y1 y2 y3;have T:=zz (Al (w:=R) (b':=w.heap.size) Aa (IJ X V Y).toList (39+k*3) _ T.o)
 have H:=zz (Al (w:=R) (b':=w.heap.size) Aa (IJ X V Y).toList (39+k*3) _ (Al (w:=R) (b':=w.heap.size) Aa Iw.toList 51 _ (Al (w:=R) (b':=w.heap.size) Aa I8.toList 39 _ (G6.o.other (p:=⟨w.heap.size,1,none⟩) (by show w.heap.size+1+1≠w.heap.size;omega) (.int .i64 Z)))))
 have F:=zz (Al (w:=R) (b':=w.heap.size) Aa (IJ X V Y).toList (39+k*3) _ (Al (w:=R) (b':=w.heap.size) Aa Iw.toList 51 _ (Al (w:=R) (b':=w.heap.size) Aa I8.toList 39 _ (G7.o.other (p:=⟨w.heap.size,1,none⟩) (by show w.heap.size+1+1+1≠w.heap.size;omega) (.int .i64 Z)))))
 have E:=zz (below_setCells Nr (IJ X V Y).toList (39+k*3) (below_setCells Nr Iw.toList 51 (below_setCells Nr I8.toList 39 (qQ.o.setCell (p:=⟨w.heap.size,1,none⟩) Nr (.int .i64 Z)))))
 have D:=zz (DF (show w.heap.size<W.heap.size by omega) (IJ X V Y).toList (39+k*3) (DF (show w.heap.size<W.heap.size by omega) Iw.toList 51 (DF (show w.heap.size<W.heap.size by omega) I8.toList 39 (ownsRow_setCell_below qX.o (a:=⟨w.heap.size,1,none⟩) (show w.heap.size<W.heap.size by omega) (.int .i64 Z)))))
 have q5:(R.setCell ⟨w.heap.size,1,none⟩ (.int .i64 Z)).there w.heap.size 39 I8.size:=Cg H4.o 39 12 Aa;have r9:=zz q5;clear q5;have q6:((R.setCell ⟨w.heap.size,1,none⟩ (.int .i64 Z)).setCells w.heap.size 39 I8.toList).there w.heap.size 51 Iw.size:=Cg H5.o 51 4 Aa;have su:=zz q6;clear q6;have q7:(((R.setCell ⟨w.heap.size,1,none⟩ (.int .i64 Z)).setCells w.heap.size 39 I8.toList).setCells w.heap.size 51 Iw.toList).there w.heap.size (39+k*3) (IJ X V Y).size:=Cg H6.o (39+k*3) 3 Aa;have rX:=zz q7;clear q7;have i5:(prog.info? 32).map (·.size)=some I8.size:=Ap;have rO:=zz i5;clear i5;have i6:(prog.info? 28).map (·.size)=some Iw.size:=Ap;have rU:=zz i6;clear i6;have i7:(prog.info? 31).map (·.size)=some (IJ X V Y).size:=Ap;have rP:=zz i7;clear i7
 have o5:I8.all (·.oneCell')=true:=by simp[I8,Value.oneCell']
 have rJ:=zz o5;clear o5
 have o6:Iw.all (·.oneCell')=true:=by simp[Iw,Value.oneCell']
 have sw:=zz o6;clear o6
 have o7:(IJ X V Y).all (·.oneCell')=true:=by simp[IJ,Value.oneCell']
 have rG:=zz o7;clear o7;clear HB qV qZ qQ rq qU qX D3 D5 D6 D7 E3 F3 F5 F6 F7 G5 G6 G7 cT j rA m C g
 go_upto_region 5 with fail
 refine wp_region_list ?_;refine wpList_plain rfl (fun K hK=>?_);go_simp;refine hK _ _ ?_;(try simp only[Rg.lp]);refine wpList_plain rfl (fun K hK=>?_);go_simp;refine hK _ _ ?_;(try simp only[Rg.lp]);refine wpList_plain rfl (fun K hK=>?_);refine wp_store_mid 32 (.tmp 17) (.tmp 16) rfl w.heap.size 39 I8 rfl rfl r9.o rO.o rJ.o (hK _ _ ?_);(try simp only[Rg.lp]);clear x1 f1
 generalize((R.setCell ⟨w.heap.size,1,none⟩ (.int .i64 Z)).setCells w.heap.size 39 I8.toList)=W5 at*
 go_upto_region 6 with fail
 refine wp_region_list ?_;refine wpList_plain rfl (fun K hK=>?_);go_simp;refine hK _ _ ?_;(try simp only[Rg.lp]);refine wpList_plain rfl (fun K hK=>?_);go_simp;refine hK _ _ ?_;(try simp only[Rg.lp]);refine wpList_plain rfl (fun K hK=>?_);refine wp_store_mid 28 (.tmp 19) (.tmp 18) rfl w.heap.size 51 Iw rfl rfl su.o rU.o sw.o (hK _ _ ?_);(try simp only[Rg.lp])
 go_upto_region 7 with fail
 generalize(W5.setCells w.heap.size 51 Iw.toList)=W6 at*
 have y0:=rY.o;have y1:=rQ.o;have y2:=rV.o;have y3:=rR.o;have sH:(k:Int)<4:=Aa;have sI:(0:Int)<=(k:Int):=Aa;refine wp_region_list ?_;refine wpList_plain rfl (fun K hK=>?_);go_simp;refine hK _ _ ?_;(try simp only[Rg.lp]);refine wpList_plain rfl (fun K hK=>?_);go_simp;refine hK _ _ ?_;(try simp only[Rg.lp]);refine wpList_plain rfl (fun K hK=>?_);go_simp;refine hK _ _ ?_;(try simp only[Rg.lp]);refine wpList_plain rfl (fun K hK=>?_);go_simp;refine hK _ _ ?_;(try simp only[Rg.lp]);refine wpList_plain rfl (fun K hK=>?_);go_simp;refine hK _ _ ?_;(try simp only[Rg.lp]);refine wpList_plain rfl (fun K hK=>?_);refine wp_store_mid 31 (.tmp 24) (.tmp 22) rfl w.heap.size (39+k*3) (IJ X V Y) rfl rfl rX.o rP.o rG.o (hK _ _ ?_);(try simp only[Rg.lp]);clear y0 y1 y2 y3
 go_upto_region 8 with fail
 generalize(W6.setCells w.heap.size (39+k*3) (IJ X V Y).toList)=W7 at*
 have i3:=HI.o J U.length I;have sF:=sD.o;have s3:=fun(A:Option Addr) (n c:Nat)=>(Cv sF:(row 74 (Ab (Dh f Z k X V Y) (.slice A n c))).all (·.oneCell')=true);have o3:=s3 J U.length I;have z3:(zeroCells37).size=(row 74 (Ab (Dh f Z k X V Y) (.slice J U.length I))).size:=Eg
 have j0:(row 74 (Ab (Dh f Z k X V Y) (.slice J U.length I)))[0]?=some (.int .i64 (k:Int)):=by rw[Ah Aa];exact congrArg some rZ.o
 have j1:(row 74 (Ab (Dh f Z k X V Y) (.slice J U.length I)))[1]?=some (.int .i64 Z):=by rw[Ah Aa];exact congrArg some rM.o
 have i3:(prog.info? 37).map (·.size)=some (row 74 (Ab (Dh f Z k X V Y) (.slice J U.length I))).size:=Eg;obtain⟨R3,r⟩:=AJ (row 74 (Ab (Dh f Z k X V Y) (.slice J U.length I)));have rH:=zz r;rw[r]at t o3 z3 j0 j1 i3;clear r sF s3;have cY:=fun u=>Mf R3 (k:Int) Z 1 (some ⟨w.heap.size+1,0,none⟩) 3 3 j0 j1 u;refine wp_region_noPanic ?_;have rD:Ae W7.drew w.heap.size 37 R3:=t.o.drew;have t:=zz t.o.drew;have T:=zz T.o.drew;have H:=zz H.o.drew;have F:=zz F.o.drew;have E:=zz E.o.drew;have D:=zz (ownsRow_below D.o ((Below.refl W7.heap.size W7).drew));have HS:=rD;clear rD;refine A8 [0,1] (fun w'=>Ae w' w.heap.size 37 R3) Ap ?_;refine Ba 0 (.agg R3) HS (hy:=?_) (h:=?_)
 . (intro w' d;exact Az 37 _ rfl _ rfl d underlying37 rfl i3)
 refine Ba 1 (.agg R3) HS (hy:=?_) (h:=?_)
 . (intro w' d;exact Az 37 _ rfl _ rfl d underlying37 rfl i3)
 refine Ac 2 ?_;refine Aw 3 ?_;refine Bt ?_;intro K hK;rw[Ao Bb];go_simp
 go_at_call 38
 refine(cY _).mono ?_;rintro e w8 ⟨rfl,O⟩;have H8:=AU t O;have HS:=H8.o;have T:=AU T O;have H:=AU H O;have F:=AU F O;have G:=CU E O;have L:=GJ D O;clear O;go_wp2_with fail;refine hK.o _ _ HS ?_;refine Aw 4 ?_;refine AX ?_ ?_
 . kernel_rfl
 intro K hK;rw[Ao Bb];refine wp_store_row 37 _ _ rfl (w.heap.size+1+1) R3 rfl rfl 37 _ H.o i3 z3 o3 ?_;have T:=zz (T.o.setRow_other (g':=w.heap.size+1+1) Aa R3);have H:=zz (H.o.setRow R3);have F:=zz (F.o.setRow_other (g':=w.heap.size+1+1) Aa R3)
 have G:=zz (below_setRow G.o (show w.heap.size<=w.heap.size+1+1 by omega) R3)
 have L:=zz (Ay L.o (show w.heap.size+1+1<W.heap.size by omega) R3)
 generalize(w8.setRow (w.heap.size+1+1) R3)=W8 at*
 refine hK.o _ _ ?_;refine Aw 5 ?_;refine AX ?_ ?_
 . kernel_rfl
 intro K hK;rw[Ao Bb];refine wp_store_row 65 _ _ rfl (w.heap.size+1+1+1) (Ms.AR 1 (k:Int) Z (some ⟨w.heap.size+1,0,none⟩) 3 3) rfl rfl 65 _ F.o Ap rfl (by simp[Ms.AR,Value.oneCell']) ?_;have T:=zz (T.o.setRow_other (g':=w.heap.size+1+1+1) Aa (Ms.AR 1 (k:Int) Z (some ⟨w.heap.size+1,0,none⟩) 3 3));have H:=zz (H.o.setRow_other (g':=w.heap.size+1+1+1) Aa (Ms.AR 1 (k:Int) Z (some ⟨w.heap.size+1,0,none⟩) 3 3));have F:=zz (F.o.setRow (Ms.AR 1 (k:Int) Z (some ⟨w.heap.size+1,0,none⟩) 3 3))
 have G:=zz (below_setRow G.o (show w.heap.size<=w.heap.size+1+1+1 by omega) (Ms.AR 1 (k:Int) Z (some ⟨w.heap.size+1,0,none⟩) 3 3))
 have L:=zz (Ay L.o (show w.heap.size+1+1+1<W.heap.size by omega) (Ms.AR 1 (k:Int) Z (some ⟨w.heap.size+1,0,none⟩) 3 3))
 generalize(W8.setRow (w.heap.size+1+1+1) (Ms.AR 1 (k:Int) Z (some ⟨w.heap.size+1,0,none⟩) 3 3))=W9 at*
 refine hK.o _ _ ?_;(try simp only[Rg.lp]);refine Bg Ap ?_ _;refine NoPanic.normal ?_;clear t H8 HS E D;go_wp2_with fail;have rT:(prog.info? 65).map (·.size)=some (Ms.AR 1 (k:Int) Z (some ⟨w.heap.size+1,0,none⟩) 3 3).size:=Ap;refine Da rfl rfl rfl H.o ⟨by rw[underlying37],i3⟩ F.o ⟨by rw[underlying65],rT⟩ rfl ⟨J,I,some ⟨w.heap.size+1,0,none⟩,3,by rw[rH.o];rfl,Rd.Bu L.o,(DU T.o).more (by have:=H.o.lt;omega),G.o,fun a h=>Nat.le_trans Aa (Db L.o a h),fun a h=>by cases h;exact Nat.le_succ _,BU L.o⟩
end Nd
namespace Vt
open Go.RowKit Go.Maps Go.WideShapes Mem Rws Nd
def lawInt:Keyed prog 3:=int_keyed underlying3
def YZ(w:World):(zeroValue 3).run prog w=.ok (.int .i64 0) w:=Ap
def NC(L:Nat->Int)(I:Nat->Bool)(w wr:World)(Y Z:Array Value)(k:Nat):Prop:=
 (∃D:DataW Unit,wr.ownsMap prog 3 (plainElem prog 3) (w.heap.size+1+1+1) k D/\(∀v:Int,D.atKey (.int .i64 v) (.lit (.int .i64 0))=.lit (.int .i64 (cnt L I v k))))/\
  Ae wr w.heap.size 28 Y/\Ae wr (w.heap.size+1) 27 Z/\Ae wr (w.heap.size+1+1) 35 bT/\Below w.heap.size w wr
def R7(L:Nat->Int)(I:Nat->Bool)(w:World)(Y Z:Array Value):
  NC L I w ((((w.alloc (.cells Y 28)).alloc (.cells Z 27)).alloc (.cells bT 35)).alloc (.map #[] 0)) Y Z 0:=by
 refine⟨⟨.map [],?_,fun v=>rfl⟩,((Ae.new rfl).alloc _).alloc _|>.alloc _,((Ae.new Bq).alloc _).alloc _,(Ae.new Bq).alloc _,?_⟩
 .have h:=World.ownsMap_made (H:=Unit) ((((w.alloc (.cells Y 28)).alloc (.cells Z 27)).alloc (.cells bT 35))) prog 3 (plainElem prog 3)
  rw[show((((w.alloc (.cells Y 28)).alloc (.cells Z 27)).alloc (.cells bT 35))).heap.size=w.heap.size+1+1+1 from by simp]at h
  exact h
 exact(((Below.refl w.heap.size w).alloc Nr _).alloc Bq _).alloc Ec _|>.alloc Ec _
def Wu{L:Nat->Int}{I:Nat->Bool}{w wr:World}{Y Z:Array Value}{k:Nat}(h:NC L I w wr Y Z k)(W:I k=false):NC L I w wr Y Z (k+1):=by
 obtain⟨⟨D,V,X⟩,r⟩:=h;exact⟨⟨D,V.mono (Nat.le_succ _),fun v=>by rw[X v];simp[cnt,W]⟩,r⟩
def Yb{L:Nat->Int}{I:Nat->Bool}{w wr w':World}{Y Z:Array Value}{k:Nat}{D:DataW Unit}(hi:IsMap D)(W:∀v:Int,D.atKey (.int .i64 v) (.lit (.int .i64 0))=.lit (.int .i64 (cnt L I v k)))(h1:Ae wr w.heap.size 28 Y)(h2:Ae wr (w.heap.size+1) 27 Z)(h3:Ae wr (w.heap.size+1+1) 35 bT)(h4:Below w.heap.size w wr)(hw:(Lit.int .i64 (L k)).wf=true)(hI:I k=true)(ho:w'.ownsMap prog 3 (plainElem prog 3) (w.heap.size+1+1+1) (k+1) (D.put (.int .i64 (L k)) (.lit (.int .i64 ((cnt L I (L k) k:Int)+1)))))(hg:wr.grownBy w' (some (w.heap.size+1+1+1))):NC L I w w' Y Z (k+1):=by
 refine⟨⟨_,ho,fun v=>?_⟩,h1.grown hg (by intro h;injection h;omega),h2.grown hg (by intro h;injection h;omega),h3.grown hg (by intro h;injection h;omega),?_⟩
 .by_cases e:v=L k
  .subst e;rw[atKey_put_same hi (by trivial)]
   simp[cnt,hI]
  rw[atKey_put_other (fun h=>e (by injection h)),W v];have X:¬(I k=true/\L k=v):=fun h=>e h.2.symm
  rw[show cnt L I v (k+1)=cnt L I v k+(if I k=true/\L k=v then 1 else 0)from rfl,Aj X,Nat.add_zero]
 exact h4.grown hg h4.size (fun j V=>by cases V;omega)
def X7{w w':World}{k:TypeId}{R:Value->Option (DataW Unit×List MemPlace)}{b n:Nat}{D:DataW Unit}(h:w.ownsMap prog k R b n D)(hb:Below w.heap.size w w'):w'.ownsMap prog k R b n D:=
 h.kept (row:=none) ⟨hb.os,hb.tape,hb.output,hb.size,fun g Z _=>hb.block g Z⟩ Bq
def Ff(w:World)(v:Value)(e:TypeId):Rd (w.alloc (.cells #[v] e)) (w.heap.size+1) 1 (some ⟨w.heap.size,0,none⟩) 1 [v]:=by
 refine⟨rfl,fun _=>⟨w.heap.size,0,rfl,Aa,fun j u Z=>?_⟩⟩;have h:=(Ae.fresh w e #[v]).cell j;rw[Nat.zero_add,h]
 simpa using Z
def jA(L:Nat->Int)(I:Nat->Bool)(hL:∀i,i<4->(Lit.int .i64 (L i)).wf=true)(w:World):
  Calls prog 45 #[.agg (row 4 fun i=>.int .i64 (L i)),.agg (row 4 fun i=>.bool (I i))] w fun e w'=>∃A c,e=.returned (.agg (Gx (val L I) (strong L I) A 4 c))/\
   Rd w' w'.heap.size 1 A 4 ((List.range 4).map fun i=>.bool (agrees L I i))/\Below w.heap.size w w'/\(∀a,A=some a->w.heap.size<=a.block)/\(A=none->c=0)/\4<=c:=by
 have qY:= @run_makeMap prog;have HL:=zz hL;have H:∀k:Nat,k<4->∀w,(Instr.index 28 (.agg (row 4 fun i=>.int .i64 (L i))) (.int .i64 (k:Int))).run prog w=.ok (.int .i64 (L k)) w:=fun k hk w=>Js underlying28 underlying3 rfl Ap _ k hk w;have qW:∀k:Nat,k<4->(row 4 fun i=>Value.int .i64 (L i))[k]?=some (.int .i64 (L k)):=fun k hk=>Ah hk;have qQ:∀k:Nat,k<4->(row 4 fun i=>Value.bool (I i))[k]?=some (.bool (I k)):=fun k hk=>Ah hk;have iL:(prog.info? 28).map (·.size)=some (row 4 fun i=>Value.int .i64 (L i)).size:=Eg
 generalize(row 4 fun i=>Value.int .i64 (L i))=RL at*
 generalize(row 4 fun i=>Value.bool (I i))=RI at*
 have d:=zz H;have rA:=zz qW;have qR:=zz qQ;clear H qW qQ hL
 go_in
 have HC:=zz (R7 L I w RL RI)
 go_wp2_with(refine Ad rfl 28 _ rfl w.heap.size rfl HC.o.2.1 _ underlying28 rfl iL ?_)
 go_loopw[6,17] (fun t i wr=>∃k:Nat,k<=4/\i=.int .i64 k/\t=.int .i64 (tot I k)/\NC L I w wr RL RI k) (fun _ i _=>4-(intOf i).toNat)
 .exact⟨0,Aa,rfl,rfl,HC.o⟩
 clear HC;obtain⟨k,hk,rfl,rfl,hC⟩:=hrel
 by_cases X:k<4
 .obtain⟨⟨D,Z,hd⟩,h1,h2,h3,h4⟩:=id hC;have W: wr.cell? ⟨w.heap.size+1,k,none⟩=some (.bool (I k)):=(h2.cell k).trans (qR.o k X);have H:=fun w=>d.o k X w;have U:keyOf prog 3 (.int .i64 (L k))=some (.int .i64 (L k)):=keyOf_int_mk underlying3 (HL.o k X);have ht:=UA I k;have hn:=Lb L I (L k) k;have ew:IntKind.i64.wrap ((cnt L I (L k) k:Int)+1)=(cnt L I (L k) k:Int)+1:=IntWalk.i64_in _ Aa;have et:IntKind.i64.wrap ((tot I k:Int)+1)=(tot I k:Int)+1:=IntWalk.i64_in _ Aa;have HD:=zz hd;have y:=Z.isMap;have HO:=zz Z;have H1:=zz h1;have H2:=zz h2;have q:=zz h3;have H4:=zz h4;have qX:=zz hC;clear hd Z h1 h2 h3 h4 hC
  cases hI:I k with
  |false=>
   rw[hI]at W
   have HT:=zz (show tot I (k+1)=tot I k by simp[tot,hI])
   have u:=zz hI;clear hI;go_wp2_with fail;exact⟨⟨k+1,Aa,BG,by rw[HT.o],Wu qX.o u.o⟩,Ck⟩
  |true=>
   rw[hI]at W
   have HT:=zz (show(tot I (k+1):Int)=(tot I k:Int)+1 by simp[tot,hI])
   have u:=zz hI;clear hI
   go_wp2_with(first
    |(at_lookup;refine wpList_lookup_own_int _ rfl _ _ 125 rfl 3 3 .i64 lawInt underlying125 underlying3 (YZ _) (w.heap.size+1+1+1) k _ rfl HO.o _ _ rfl U ?_;intro c v rE;obtain rfl:c=(cnt L I (L k) k:Int):=by { have:=v.symm.trans (HD.o (L k));simpa using this })
    |(at_mapUpdate;refine wpList_mapUpdate_own _ rfl _ _ _ 125 rfl 3 3 lawInt underlying125 _ (w.heap.size+1+1+1) k _ rfl HO.o GX _ _ _ rfl rfl U _ [] (plainElem_int underlying3 (WalkArith.wf_i64 Aa)) ?_;intro Y z E))
   exact⟨⟨k+1,Aa,BG,by rw[HT.o],Yb y HD.o H1.o H2.o q.o H4.o (HL.o k X) u.o z E⟩,Ck⟩
 obtain rfl:k=4:=Aa;clear X;obtain⟨⟨D,Z,hd⟩,h1,h2,h3,h4⟩:=hC;have HD:=zz hd;have HO:=zz Z;have H1:=zz h1;have H2:=zz h2;have q:=zz h3;have H4:=zz h4
 generalize wr=Y at*
 have hG:Hid (Ae (Y.alloc (.cells bT 35)) Y.heap.size 35 bT):=zz (Ae.fresh _ _ _);have hJ:=zz (H1.o.alloc (.cells bT 35));clear Z hd h1 h2 h3 h4 qY
 go_wp2_with(refine Ad rfl 28 _ rfl w.heap.size rfl hJ.o _ underlying28 rfl iL ?_)
 clear hJ
 go_loopw[9,32] (fun b i wq=>∃j:Nat,j<=4/\i=.int .i64 j/\b=.int .i64 (vt L I j).1/\Ae wq Y.heap.size 35 #[.int .i64 (vt L I j).2,.bool false,.slice none 0 0]/\Below Y.heap.size Y wq) (fun _ i _=>4-(intOf i).toNat)
 .exact⟨0,Aa,rfl,rfl,hG.o,DC⟩
 clear hG;obtain⟨j,hj,rfl,rfl,J,hb⟩:=hrel;have F:=zz J;have N:=zz hb
 by_cases X:j<4
 .have W: wr.cell? ⟨w.heap.size+1,j,none⟩=some (.bool (I j)):=((H2.o.below hb H2.o.lt).cell j).trans (qR.o j X);have H:=fun w=>d.o j X w;have U:keyOf prog 3 (.int .i64 (L j))=some (.int .i64 (L j)):=keyOf_int_mk underlying3 (HL.o j X)
  have rD:(Instr.lookup 125 (.map (some (w.heap.size+1+1+1))) (.int .i64 (L j)) false).run prog wr=.ok (.int .i64 (cnt L I (L j) 4)) wr:=by
   obtain⟨c,hr,v,_⟩:=(X7 HO.o hb).lookup_int lawInt underlying125 underlying3 (YZ _) U
   obtain rfl:c=(cnt L I (L j) 4:Int):=by have:=v.symm.trans (HD.o (L j));simpa using this
   exact hr
  have g0:=J.cell 0;have g1:=J.thaw 0;clear J hb U
  have M:=zz (show vt L I (j+1)=if I j=true/\(vt L I j).1<cnt L I (L j) 4 then(cnt L I (L j) 4,L j)else vt L I j from rfl)
  cases hI:I j with
  |false=>
   rw[hI]at W;have C:=zz (M.o.trans (Aj (by simp[hI])));clear hI M;go_wp2_with fail;exact⟨⟨j+1,Aa,BG,by rw[C.o],by rw[C.o];exact F.o,N.o⟩,Ck⟩
  |true=>
   rw[hI]at W
   by_cases hc:(vt L I j).1<cnt L I (L j) 4
   .have C:=zz (M.o.trans (Ao ⟨hI,hc⟩));have qU:((vt L I j).1:Int)<(cnt L I (L j) 4:Int):=Aa;clear hI hc M
    generalize cnt L I (L j) 4=n at*
    generalize(vt L I j).1=m at*
    go_wp2_with fail;exact⟨⟨j+1,Aa,BG,by rw[C.o],by rw[C.o];exact F.o.set 0 _,N.o.setCell Nr _⟩,Ck⟩
   have C:=zz (M.o.trans (Aj (fun h=>hc h.2)));have qU:(cnt L I (L j) 4:Int)<=((vt L I j).1:Int):=Aa;clear hI hc M
   generalize cnt L I (L j) 4=n at*
   obtain⟨m,hm⟩:=AJ ((vt L I j).1);rw[hm]at qU ⊢;have HM:=zz hm;clear hm;go_wp2_with fail;exact⟨⟨j+1,Aa,BG,by rw[C.o,HM.o],by rw[C.o];exact F.o,N.o⟩,Ck⟩
 obtain rfl:j=4:=Aa;clear X;have J1:=AU H1 hb;have J3:=AU q hb;have x:=J.lt;have g0:=J.cell 1;have g1:=J.thaw 1;have hv:=nW L I;rw[hv]at F;have rq:=UA I 4;have rC:=nA L I 4;have em:IntKind.i64.wrap (2*((vt L I 4).1:Int))=2*((vt L I 4).1:Int):=IntWalk.i64_in _ Aa
 have qV:=zz (show decide ((tot I 4:Int)<2*((vt L I 4).1:Int))=strong L I by unfold strong;exact decide_eq_decide.2 Aa)
 clear J hb hv
 generalize(vt L I 4).1=m at*
 go_upto_region 19 with fail
 rw[qV.o];have G2:=zz (F.o.set 1 (.bool (strong L I)))
 have J1:=zz (J1.o.other (p:=⟨Y.heap.size,1,none⟩) (by have:=H1.o.lt;show w.heap.size≠Y.heap.size;omega) (.bool (strong L I)))
 have J3:=zz (J3.o.other (p:=⟨Y.heap.size,1,none⟩) (by have:=q.o.lt;show w.heap.size+1+1≠Y.heap.size;omega) (.bool (strong L I)))
 have N:=zz (N.o.setCell (p:=⟨Y.heap.size,1,none⟩) Nr (.bool (strong L I)))
 have x:Y.heap.size<(wr.setCell ⟨Y.heap.size,1,none⟩ (.bool (strong L I))).heap.size:=by simpa using x
 clear g0 g1 F qV em
 generalize(wr.setCell ⟨Y.heap.size,1,none⟩ (.bool (strong L I)))=w2 at*
 obtain⟨T,hT⟩:∃T:Int,(tot I 4:Int)=T:=⟨_,rfl⟩;rw[hT];have HT:=zz hT;clear hT rq
 go_wp2_with(refine Ad rfl 28 _ rfl w.heap.size rfl J1.o _ underlying28 rfl iL ?_)
 go_loopw[58] (fun i wq=>∃(j:Nat) (A:Option Addr) (c:Nat),j<=4/\i=.int .i64 j/\Ae wq Y.heap.size 35 (PX (val L I) (strong L I) A j c)/\wq.ownsRow (Y.heap.size+1) 4 1 (.slice A j c) j ((List.range j).map fun i=>.bool (agrees L I i))/\Below Y.heap.size Y wq) (fun i _=>4-(intOf i).toNat)
 .exact⟨0,none,0,Aa,rfl,G2.o,World.ownsRow_nil _ _ _ _,N.o⟩
 clear G2 N x;obtain⟨j,A,c,hj,rfl,J,Z,hb⟩:=hrel;have F:=zz J;have N:=zz hb;have HW:=zz Z;have x0:=J.cell 0;have x2:=J.cell 2;simp only[List.getElem?_toArray,List.getElem?_cons_zero,List.getElem?_cons_succ]at x0 x2;clear J hb Z
 by_cases X:j<4
 .have H:=fun w=>d.o j X w
  rcases Nat.eq_zero_or_pos (tot I 4)with ht|ht
  .have qZ:decide ((0:Int)<T)=false:=decide_eq_false (by have:=HT.o;omega)
   have HA:=zz (show agrees L I j=false by unfold agrees;rw[ht];rfl)
   clear ht;have HN:Hid (Rd (wr.alloc (.cells eZ 4)) (wr.heap.size+1) 1 (some ⟨wr.heap.size,0,none⟩) 1 [.bool false]):=zz (Ff _ _ _);have l:=zz (Bf (ownsRow_below HW.o ((Below.refl wr.heap.size wr).alloc Nr (.cells eZ 4))) (Nat.le_refl (Y.heap.size+1)));have HX:=zz (F.o.alloc (.cells eZ 4));have HY:=zz (N.o.alloc N.o.size (.cells eZ 4))
   have G:Y.heap.size+1<=(wr.alloc (.cells eZ 4)).heap.size:=by have:=HX.o.lt;omega
   have s:=zz G;clear G
   go_wp2_with(at_builtin;refine Aq _ rfl (.tmp 62) (.tmp 71) 33 rfl (base:=Y.heap.size+1) H9 rfl l.o rfl (fun h=>by cases h) HN.o GR GX Aa s.o ?_;intro A' c' w3 f V R;have O:=zz (HX.o.grown R (Pm l.o));have y2:=O.o.thaw 2;have y3:=O.o.cell 2;have r:=zz V;have B:=zz R;clear V R f)
   refine⟨⟨j+1,A',c',Aa,BG,O.o.set 2 _,?_,(HY.o.grown B.o HY.o.size (fun g e=>Nat.le_trans (Nat.le_succ _) (l.o.lt g e).1)).setCell Nr _⟩,Ck⟩;rw[List.range_succ,List.map_append,List.map_singleton,HA.o];exact Ch (g:=Y.heap.size) r.o Aa _
  have qZ:decide ((0:Int)<T)=true:=decide_eq_true (by have:=HT.o;omega)
  have HA:=zz (show agrees L I j=(L j==val L I)by unfold agrees;rw[decide_eq_true ht,Bool.true_and];by_cases e:L j=val L I<;>simp[e])
  clear ht;have HN:Hid (Rd (wr.alloc (.cells #[.bool (L j==val L I)] 4)) (wr.heap.size+1) 1 (some ⟨wr.heap.size,0,none⟩) 1 [.bool (L j==val L I)]):=zz (Ff _ _ _);have l:=zz (Bf (ownsRow_below HW.o ((Below.refl wr.heap.size wr).alloc Nr (.cells #[.bool (L j==val L I)] 4))) (Nat.le_refl (Y.heap.size+1)));have HX:=zz (F.o.alloc (.cells #[.bool (L j==val L I)] 4));have HY:=zz (N.o.alloc N.o.size (.cells #[.bool (L j==val L I)] 4))
  have G:Y.heap.size+1<=(wr.alloc (.cells #[.bool (L j==val L I)] 4)).heap.size:=by have:=HX.o.lt;omega
  have s:=zz G;clear G
  go_wp2_with(at_builtin;refine Aq _ rfl (.tmp 62) (.tmp 71) 33 rfl (base:=Y.heap.size+1) H9 rfl l.o rfl (fun h=>by cases h) HN.o GR GX Aa s.o ?_;intro A' c' w3 f V R;have O:=zz (HX.o.grown R (Pm l.o));have y2:=O.o.thaw 2;have y3:=O.o.cell 2;have r:=zz V;have B:=zz R;clear V R f)
  refine⟨⟨j+1,A',c',Aa,BG,O.o.set 2 _,?_,(HY.o.grown B.o HY.o.size (fun g e=>Nat.le_trans (Nat.le_succ _) (l.o.lt g e).1)).setCell Nr _⟩,Ck⟩;rw[List.range_succ,List.map_append,List.map_singleton,HA.o];exact Ch (g:=Y.heap.size) r.o Aa _
 obtain rfl:j=4:=Aa;clear X;have K3:=zz (q.o.below N.o q.o.lt);have ru:=q.o.lt
 go_wp2_with(first
  |(refine Ad rfl 35 _ rfl Y.heap.size rfl F.o _ underlying35 rfl Ap ?_)
  |(refine wpList_store_row rfl 35 _ _ rfl (w.heap.size+1+1) (PX (val L I) (strong L I) A 4 c) rfl rfl 35 _ K3.o Ap rfl GR ?_))
 have hw:=Ay HW.o (show w.heap.size+1+1<Y.heap.size+1 by omega) (PX (val L I) (strong L I) A 4 c)
 exact Fs rfl rfl (K3.o.setRow _) underlying35 rfl Ap rfl ⟨A,c,rfl,Rd.Bu hw,below_setRow (Bh H4.o Nr N.o) Aa _,fun a h=>Nat.le_trans Aa (Db HW.o a h),BU HW.o⟩
end Vt
namespace Ms
open Go.ChangeShapes Go.WideShapes Go.ChangeAt Go.RowKit Mem Go.Proofs.YtjobajeggllmiaaGreat.Op
def Cy(w:World)(base:Nat)(A:Option Addr)(c:Nat)(Z:List Cw):Prop:=
 ∃Y,w.ownsRow base 65 4 (.slice A Z.length c) Z.length Y/\∀i m,Z[i]?=some m->∃a X,(Y.drop (i*4)).take 4=Mg m a X/\w.ownsRow base 3 1 (.slice a m.zs.length X) m.zs.length (AQ m.zs)/\m.zs.length*8<=140737488351232
def Cy.at{w:World}{base:Nat}{A:Option Addr}{c:Nat}{Y:List Cw}(h:Cy w base A c Y):Cc w w.heap.size A Y/\(A=none->c=0)/\Y.length<=c/\∀a,A=some a->base<=a.block:=by
 obtain⟨V,Z,W⟩:=h;refine⟨⟨V,Rd.Bu Z,fun i m R=>?_⟩,(BU Z).1,(BU Z).2,Db Z⟩;obtain⟨a,U,T,X,O⟩:=W i m R;exact⟨a,U,T,(BU X).1,(BU X).2,O,Rd.Bu X⟩
def Cy.nil(w:World)(base:Nat):Cy w base none 0 []:=⟨[],World.ownsRow_nil _ _ _ _,fun i m h=>by simp at h⟩
def Cy.below{w w':World}{base:Nat}{A:Option Addr}{c:Nat}{ms:List Cw}(h:Cy w base A c ms)(hb:Below w.heap.size w w'):Cy w' base A c ms:=by
 obtain⟨U,R,Y⟩:=h;refine⟨U,Nd.ownsRow_below R hb,fun i m Z=>?_⟩;obtain⟨a,T,W,X,V⟩:=Y i m Z;exact⟨a,T,W,Nd.ownsRow_below X hb,V⟩
def Cy.snoc{w w':World}{base:Nat}{A T:Option Addr}{c W:Nat}{Z:List Cw}{m:Cw}{a:Option Addr}{ca:Nat}{X:List Value}(R:∀i m,Z[i]?=some m->∃a W,(X.drop (i*4)).take 4=Mg m a W/\w.ownsRow base 3 1 (.slice a m.zs.length W) m.zs.length (AQ m.zs)/\m.zs.length*8<=140737488351232)(ho:w.ownsRow base 65 4 (.slice A Z.length c) Z.length X)(hm:w.ownsRow base 3 1 (.slice a m.zs.length ca) m.zs.length (AQ m.zs))(hl:m.zs.length*8<=140737488351232)(ho':w'.ownsRow base 65 4 (.slice T (Z.length+1) W) (Z.length+1) (X++Mg m a ca))(hg:w.grownBy w' (Value.slice A Z.length c).ownBlock):Cy w' base T W (Z++[m]):=by
 have Y:65≠3:=El;have U:X.length=Z.length*4:=ho.1;refine⟨X++Mg m a ca,by rw[List.length_append];exact ho',fun i O hi=>?_⟩
 rcases Nat.lt_or_ge i Z.length with h|h
 .rw[List.getElem?_append_left h]at hi;obtain⟨I,N,L,M,J⟩:=R i O hi;refine⟨I,N,?_,Ew M hg (Fb ho Y),J⟩;rw[List.drop_append_of_le_length Aa,List.take_append_of_le_length (by rw[List.length_drop];omega)];exact L
 rw[List.getElem?_append_right h]at hi
 have V:i=Z.length:=by
  have:=(List.getElem?_eq_some_iff.1 hi).1
  simp at this;omega
 subst V
 simp at hi
 subst hi;refine⟨a,ca,?_,Ew hm hg (Fb ho Y),hl⟩;rw[List.drop_append,List.drop_of_length_le Aa,U,Nat.sub_self,List.drop_zero,List.nil_append];rfl
def Qu:Elem prog 58 65 (.agg QV) 4 48:=⟨underlying58,Ap,rfl,Aa⟩
def Y7(w:World)(cs:List Value)(Y:cs.length=4)(e:TypeId):Rd (w.alloc (.cells cs.toArray e)) (w.heap.size+1) 4 (some ⟨w.heap.size,0,none⟩) 1 cs:=by
 refine⟨Aa,fun _=>⟨w.heap.size,0,rfl,Aa,fun j u Z=>?_⟩⟩;have h:=(Ae.fresh w e cs.toArray).cell j;rw[Nat.zero_add,h]
 simpa using Z
end Ms
namespace Cl
open Go.RowKit Mem Rws Nd
structure Bl where
 fr:Int
 F:Nat->Nat->Value
 VA:Nat->Option Addr
 VL:Nat->List Bool
 VC:Nat->Nat
 rd:Nat->Int
 bad:Int
 LA:Option Addr
 LL:Nat
 LC:Nat
 bA:Nat->Option Addr
 bX:Nat->List Cw
 bC:Nat->Nat
def setAt{α:Type}(g:Nat->α)(i:Nat)(a:α)(k:Nat):α:=if k=i then a else g k
def AY{α:Type}(g:Nat->α)(i:Nat)(a:α):setAt g i a i=a:=Ao rfl
def Bj{α:Type}(g:Nat->α){i k:Nat}(a:α)(h:k≠i):setAt g i a k=g k:=Aj h
def Bl.Rp(s:Bl)(i:Nat):Value:=.slice (s.VA i) (s.VL i).length (s.VC i)
def Bl.EU(s:Bl)(i:Nat):Value:=.slice (s.bA i) (s.bX i).length (s.bC i)
def Bl.cell(s:Bl)(i:Nat):Value:=
 if i=0 then .int .i64 s.fr
 else if i<297 then Ab (s.F ((i-1)/74)) (s.Rp ((i-1)/74)) ((i-1)%74)
 else if i<309 then .int .i64 (s.rd (i-297))
 else if i=309 then .int .i64 s.bad
 else if i=310 then .slice s.LA s.LL s.LC
 else s.EU (i-311)
def Bl.own(s:Bl)(i:Nat):Option Nat:=(s.EU i).ownBlock
def Bl.box(s:Bl)(i:Nat)(A:Option Addr)(c:Nat)(Z:List Cw):Bl:={ s with bA:=setAt s.bA i A,bX:=setAt s.bX i Z,bC:=setAt s.bC i c }
def Bl.jQ(s:Bl)(i:Nat)(A:Option Addr)(c:Nat)(Z:List Cw):(s.box i A c Z).EU i=.slice A Z.length c:=by
 unfold Bl.EU Bl.box
 dsimp only;rw[AY,AY,AY]
def Bl.jr(s:Bl){i:Nat}(A:Option Addr)(c:Nat)(Z:List Cw){k:Nat}(h:k≠i):(s.box i A c Z).EU k=s.EU k:=by
 unfold Bl.EU Bl.box
 dsimp only;rw[Bj _ _ h,Bj _ _ h,Bj _ _ h]
def Bl.dF(s:Bl)(i:Nat)(hi:i<4)(A:Option Addr)(c:Nat)(Y:List Cw)(j:Nat):(s.box i A c Y).cell j=if j=311+i then .slice A Y.length c else s.cell j:=by
 unfold Bl.cell
 by_cases h:j=311+i
 .subst h;rw[Aj Aa,Aj Aa,Aj Aa,Aj Aa,Aj Aa,Ao rfl];rw[Nat.add_sub_cancel_left];exact s.jQ i A c Y
 rw[Aj h]
 by_cases X:j=0
 . rw[Ao X,Ao X];rfl
 rw[Aj X,Aj X]
 by_cases V:j<297
 . rw[Ao V,Ao V];rfl
 rw[Aj V,Aj V]
 by_cases W:j<309
 . rw[Ao W,Ao W];rfl
 rw[Aj W,Aj W]
 by_cases U:j=309
 . rw[Ao U,Ao U];rfl
 rw[Aj U,Aj U]
 by_cases Z:j=310
 . rw[Ao Z,Ao Z];rfl
 rw[Aj Z,Aj Z];exact s.jr A c Y Aa
def Bl.lY(s:Bl)(i:Nat)(hi:i<4)(A:Option Addr)(c:Nat)(Z:List Cw):(row 315 s.cell).setIfInBounds (311+i) (.slice A Z.length c)=row 315 (s.box i A c Z).cell:=by
 rw[Di];exact AA fun j Y=>(s.dF i hi A c Z j).symm
structure Cj(w:World)(R b0:Nat)(s:Bl):Prop where
 blk:Ae w R 61 (row 315 s.cell)
 low:b0<=R
 ver:∀i,i<4->(s.VA i=none->s.VC i=0)/\(s.VL i).length<=s.VC i/\(s.VL i).length<=140737488351232/\Rd w w.heap.size 1 (s.VA i) (s.VL i).length (Au (s.VL i))/\(0<(s.VL i).length->∀a,s.VA i=some a->a.block<w.heap.size/\a.block≠R/\∀j,j<4->s.own j≠some a.block)
 box:∀i,i<4->Ms.Cy w b0 (s.bA i) (s.bC i) (s.bX i)
 apart:∀i j,i<4->j<4->i≠j->s.own i=none\/s.own i≠s.own j
def Cj.Ju{w:World}{R Z:Nat}{s:Bl}(h:Cj w R Z s){i b:Nat}(hi:i<4)(e:s.own i=some b):Z<=b/\b<w.heap.size:=by
 obtain⟨X,Y,_⟩:=h.box i hi;exact Y.lt b e
def Cj.own_ne{w:World}{R W:Nat}{s:Bl}(h:Cj w R W s){i:Nat}(hi:i<4):s.own i≠some R:=fun e=>by
 obtain⟨U,V,_⟩:=h.box i hi
 obtain⟨X,t,Z,Y⟩:=Ms.Fb V (show 65≠61 by decide) R e
 have:=h.blk
 unfold Ae at this
 rw[this]at Z
 injection Z with Z
 injection Z with _ Z _
 exact Y Z.symm
structure Keep(w w':World)(R:Nat)(s s':Bl):Prop where
 os:w'.os=w.os
 tape:w'.tape=w.tape
 output:w'.output=w.output
 size:w.heap.size<=w'.heap.size
 own:∀i,i<4->s'.own i=s.own i\/∃b,s'.own i=some b/\w.heap.size<=b
 block:∀b,b<w.heap.size->b≠R->(∀i,i<4->s.own i≠some b)->w'.heap[b]?=w.heap[b]?
def Keep.refl(w:World)(R:Nat)(s:Bl):Keep w w R s s:=⟨rfl,rfl,rfl,Nat.le_refl _,fun _ _=>.inl rfl,fun _ _ _ _=>rfl⟩
def Keep.trans{w W U:World}{R:Nat}{s V s2:Bl}(h:Keep w W R s V)(k:Keep W U R V s2):Keep w U R s s2:=
 ⟨k.os.trans h.os,k.tape.trans h.tape,k.output.trans h.output,Nat.le_trans h.size k.size,
  fun i hi=>by
   rcases k.own i hi with e|⟨b,e,hb⟩
   .rcases h.own i hi with Z|⟨b,Z,hb⟩
    . exact .inl (e.trans Z)
    exact .inr ⟨b,e.trans Z,hb⟩
   exact .inr ⟨b,e,Nat.le_trans h.size hb⟩,
  fun b hb Y X=>(k.block b (Nat.lt_of_lt_of_le hb h.size) Y fun i hi e=>by
   rcases h.own i hi with Z|⟨O,Z,T⟩
   . exact X i hi (Z.symm.trans e)
   rw[Z]at e;injection e with e;omega).trans (h.block b hb Y X)⟩
def Keep.of_below{w w':World}{R:Nat}{s:Bl}(h:Below w.heap.size w w'):Keep w w' R s s:=⟨h.os,h.tape,h.output,h.size,fun _ _=>.inl rfl,fun b hb _ _=>h.block b hb⟩
def Keep.below{w w':World}{R Y:Nat}{s X:Bl}(h:Keep w w' R s X)(Z:Cj w R Y s):Below Y w w':=by
 have V:=Z.blk.lt;have W:=Z.low;exact⟨h.os,h.tape,h.output,h.size,fun b hb=>h.block b Aa Aa fun i hi e=>by have:=(Z.Ju hi e).1;omega⟩
def Cj.below{w w':World}{R X:Nat}{s:Bl}(h:Cj w R X s)(hb:Below w.heap.size w w'):Cj w' R X s:=
 ⟨h.blk.below hb h.blk.lt,h.low,fun i hi=>by
  obtain⟨U,V,T,W,Y⟩:=h.ver i hi
  exact⟨U,V,T,(W.below hb).more hb.size,fun Z a e=>⟨Nat.lt_of_lt_of_le (Y Z a e).1 hb.size,(Y Z a e).2⟩⟩,fun i hi=>(h.box i hi).below hb,h.apart⟩
end Cl
end Go.Proofs.YtjobajeggllmiaaGreat
