import Derived.Test.YtjobajeggllmiaaGreatPc0
import Derived.Test.YtjobajeggllmiaaGreatPc12
set_option linter.all false
set_option maxHeartbeats 100000000
set_option maxRecDepth 100000
namespace Go.Proofs.YtjobajeggllmiaaGreat
open Ms _root_.Go.Proofs.Tryz
namespace Nd
open Go.RowKit Mem Rws
def JD(l:List (Int×Int)):List Value:=l.flatMap fun c=>[.int .i64 c.1,.int .i64 c.2]
def Ih(l:List (Int×Int))(a b:Int):JD (l++[(a,b)])=JD l++[.int .i64 a,.int .i64 b]:=by
 unfold JD;rw[List.flatMap_append];rfl
def MW:RS:=⟨fun _=>false,fun _=>0,fun _=>0⟩
def Fv(s:RS)(Y:Bool)(Z:List Bool):RS×List (Int×Int)×Int:=
 if Z.length≠4 then(MW,[],8)
 else if Ji s.f s.m s.j 4=false then(MW,[],3)
 else if Y=false then(s,[],0)
 else((many s (fun i=>Z.getD i false) 4).1,(many s (fun i=>Z.getD i false) 4).2,0)
def Uy(w w':World)(r:RS×List (Int×Int)×Int)(e:Ending):Prop:=
 ∃A c,e=.returned (.tuple #[.agg r.1.row,.slice A r.2.1.length c,.int .i64 r.2.2])/\Rd w' w'.heap.size 2 A r.2.1.length (JD r.2.1)/\Below w.heap.size w w'/\(A=none->c=0)
def TA:Elem prog 98 130 (.agg bg) 2 16:=⟨underlying98,Ap,rfl,Aa⟩
def Un(w:World)(a b:Value)(e:TypeId):Rd (w.alloc (.cells #[a,b] e)) (w.heap.size+1) 2 (some ⟨w.heap.size,0,none⟩) 1 [a,b]:=by
 refine⟨rfl,fun _=>⟨w.heap.size,0,rfl,Aa,fun j u Z=>?_⟩⟩;have h:=(Ae.fresh w e #[a,b]).cell j;rw[Nat.zero_add,h]
 simpa using Z
def Tp:(RV:Array Value)=MW.row:=rfl
def IK(s:RS):s.row.all (·.oneCell')=true:=row_one fun i _=>IQ _ _ _ i
def Ct(s:RS)(Z:Nat->Bool)(k:Nat):(many s Z (k+1)).2=(many s Z k).2++(one (many s Z k).1 k (Z k)).2:=rfl
def fP(s:RS)(v:Int)(d:Bool)(A:Option Addr)(c:Nat)(V:List Bool)(B:Nat)(w:World)(hB:B<=w.heap.size)(hl:V.length<=140737488351232)(hr:Rd w B 1 A V.length (Au V)):
  Calls prog 46 #[.agg s.row,.agg (Gx v d A V.length c)] w fun e w'=>Uy w w' (Fv s d V) e:=by
 have HR:=zz hr
 have is:∀s:RS,(prog.info? 30).map (·.size)=some s.row.size:=fun s=>by unfold RS.row;rw[Ag];kernel_rfl
 have zs:∀s:RS,(RV:Array Value).size=s.row.size:=fun s=>by unfold RS.row;rw[Ag];rfl
 have IS:=zz is;have ZS:=zz zs;clear hr is zs;have T:∀w,Calls prog 73 #[.agg s.row] w fun e w'=>e=.returned (.bool (Ji s.f s.m s.j 4))/\Below w.heap.size w w':=fun w=>U6 s.f s.m s.j w;have J:=zz T;clear T;obtain⟨C,z⟩:=AJ (s.row);have qZ:=zz z;rw[z]at J ⊢
 have iR:(prog.info? 30).map (·.size)=some C.size:=by rw[←z];exact IS.o s
 have zR:(RV:Array Value).size=C.size:=by rw[←z];exact ZS.o s
 have oR:C.all (·.oneCell')=true:=by rw[←z];exact IK s
 have iZ:(prog.info? 30).map (·.size)=some (RV:Array Value).size:=Ap;have oZ:(RV:Array Value).all (·.oneCell')=true:=GR;clear z;have rA:=zz Tp
 have W1:=zz (show Ae (((w.alloc (.cells C 30)).alloc (.cells (Gx v d A V.length c) 35)).alloc (.cells RV 30)) w.heap.size 30 C from((Ae.new rfl).alloc _).alloc _)
 have W2:=zz (show Ae (((w.alloc (.cells C 30)).alloc (.cells (Gx v d A V.length c) 35)).alloc (.cells RV 30)) (w.heap.size+1) 35 (Gx v d A V.length c)from(Ae.new Bq).alloc _)
 have W3:Hid (Ae (((w.alloc (.cells C 30)).alloc (.cells (Gx v d A V.length c) 35)).alloc (.cells RV 30)) (w.heap.size+1+1) 30 RV):=zz (Ae.new Bq);have WB:=zz ((((Below.refl w.heap.size w).alloc Nr (.cells C 30)).alloc Bq (.cells (Gx v d A V.length c) 35)).alloc Ec (.cells RV 30))
 unfold Gx at*
 go_in
 go_upto_region 1 with fail
 generalize(((w.alloc (.cells C 30)).alloc (.cells (PX v d A V.length c) 35)).alloc (.cells RV 30))=W at*
 have y1:=W2.o.cell 1;have y2:=W2.o.cell 2;simp only[List.getElem?_toArray,List.getElem?_cons_zero,List.getElem?_cons_succ]at y1 y2
 by_cases h4:V.length=4
 .have e4:((V.length:Int)!=4)=false:=by rw[h4];rfl
  have H4:=zz h4
  cases T:Ji s.f s.m s.j 4 with
  |false=>
   rw[T]at J
   have H:=zz (show Fv s d V=(MW,[],3)by unfold Fv;rw[Aj Aa,Ao T])
   clear T h4
   go_wp2_with(refine Ad rfl 30 _ rfl w.heap.size rfl W1.o _ underlying30 rfl iR ?_)
   refine(J.o _).mono ?_;rintro e w2 ⟨rfl,hb⟩;have X3:=AU W3 hb;have XB:=CU WB hb;clear hb
   go_wp2_with(refine wpList_store_row rfl 30 _ _ rfl (w.heap.size+1+1) RV rfl rfl 30 _ X3.o iZ rfl oZ ?_)
   refine CR (x:=.slice none 0 0) (y:=.int .i64 3) rfl rfl rfl rfl (X3.o.setRow RV) ⟨by rw[underlying30],iZ⟩ rfl ?_;rw[H.o];exact⟨none,0,by rw[rA.o];rfl,Rd.nil _ _ _ _,below_setRow XB.o Aa _,fun _=>rfl⟩
  |true=>
   rw[T]at J
   have qY:=zz (fun i hi=>show GoodAt s i from Pf T i hi)
   have E:¬(Ji s.f s.m s.j 4=false):=by rw[T];decide
   cases d with
   |false=>
    have H:=zz (show Fv s false V=(s,[],0)by unfold Fv;rw[Aj Aa,Aj E,Ao rfl])
    clear T h4 E
    go_wp2_with(refine Ad rfl 30 _ rfl w.heap.size rfl W1.o _ underlying30 rfl iR ?_)
    refine(J.o _).mono ?_;rintro e w2 ⟨rfl,hb⟩;have X1:=AU W1 hb;have X2:=AU W2 hb;have X3:=AU W3 hb;have XB:=CU WB hb;have y1:=X2.o.cell 1;simp only[List.getElem?_toArray,List.getElem?_cons_zero,List.getElem?_cons_succ]at y1;have ru:(RV:Array Value).size=C.size:=zR;clear hb
    go_wp2_with(first
     |(refine Ad rfl 30 _ rfl w.heap.size rfl X1.o _ underlying30 rfl iR ?_)
     |(refine wpList_store_row rfl 30 _ _ rfl (w.heap.size+1+1) C rfl rfl 30 _ X3.o iR ru oR ?_))
    refine CR (x:=.slice none 0 0) (y:=.int .i64 0) rfl rfl rfl rfl (X3.o.setRow C) ⟨by rw[underlying30],iR⟩ rfl ?_;rw[H.o];exact⟨none,0,by rw[qZ.o];rfl,Rd.nil _ _ _ _,below_setRow XB.o Aa _,fun _=>rfl⟩
   |true=>
    have H:=zz (show Fv s true V=((many s (fun i=>V.getD i false) 4).1,(many s (fun i=>V.getD i false) 4).2,0)by unfold Fv;rw[Aj Aa,Aj E,Aj El])
    clear T h4 E
    go_wp2_with(refine Ad rfl 30 _ rfl w.heap.size rfl W1.o _ underlying30 rfl iR ?_)
    refine(J.o _).mono ?_;rintro e w2 ⟨rfl,hb⟩;have X1:=AU W1 hb;have X2:=AU W2 hb;have X3:=AU W3 hb;have XB:=CU WB hb;have y1:=X2.o.cell 1;have y2:=X2.o.cell 2;simp only[List.getElem?_toArray,List.getElem?_cons_zero,List.getElem?_cons_succ]at y1 y2;have ru:(RV:Array Value).size=C.size:=zR;clear hb W1 W2 W3 WB J;rw[←qZ.o]at X1;obtain⟨ag,R⟩:∃ag:Nat->Bool,(fun i=>V.getD i false)=ag:=⟨_,rfl⟩;have qQ:=zz R;clear R;have h4:=H4.o;go_wp2_with fail
    go_loopw[7,26] (fun l i wr=>∃(k n:Nat) (A':Option Addr) (c':Nat),k<=4/\i=.int .i64 k/\l=.slice A' n c'/\n=(many s ag k).2.length/\Ae wr w.heap.size 30 (many s ag k).1.row/\Ae wr (w.heap.size+1) 35 (PX v true A V.length c)/\Ae wr (w.heap.size+1+1) 30 RV/\wr.ownsRow (w.heap.size+1+1+1) 130 2 (.slice A' n c') n (JD (many s ag k).2)/\Below w.heap.size w wr) (fun _ i _=>4-(intOf i).toNat)
    .exact⟨0,0,none,0,Aa,rfl,rfl,rfl,X1.o,X2.o,X3.o,World.ownsRow_nil _ _ _ _,XB.o⟩
    clear X1 X2 X3 XB;obtain⟨k,n,A',c',hk,rfl,rfl,hn,r1,r2,r3,p,rb⟩:=hrel;have rD:=Rc s ag k;rw[←hn]at rD;have D:=zz hn.symm;have F:=zz r1;have R2:=zz r2;have R3:=zz r3;have HL:=zz p;have r:=zz rb;clear r1 r2 r3 p rb hn
    by_cases G:k<4
    .obtain⟨b0,o,u,rfl,rJ,hu,rC⟩:=(HR.o.below (r.o.mono hB)).at (show k<V.length by omega)
     rw[Oc V k Aa]at hu;have hu:=(Option.some.inj hu).symm;subst hu
     have rq:=zz (show ag k=V[k]'Aa by rw[←qQ.o];simp[List.getD,show k<V.length by omega])
     generalize V[k]'_=b at*
     have rG:(0:Int)<=(k:Int):=Aa;have rF:(k:Int)<(V.length:Int):=Aa;have rH:(k:Int)<4:=Aa
     cases hf:(many s ag k).1.f k with
     |true=>
      have x0: wr.cell? ⟨w.heap.size,k,none⟩=some (.bool true):=by rw[F.o.cell];unfold RS.row;rw[Ah Aa,EZ G,hf]
      go_wp2_with fail;refine(eX (many s ag k).1 k G b hf (Me s ag k k Nr (qY.o k G)) w.heap.size wr F.o).mono ?_;rintro e L ⟨qU,rfl,Y,N,Z⟩;have R:ag k=b:=rq.o;rw[←R]at Y N;have HL:=zz (Ew HL.o Z (fun q e=>by injection e with e;subst e;exact⟨_,_,F.o,El⟩));have F:Hid (Ae L w.heap.size 30 (many s ag (k+1)).1.row):=zz N;have R2:=zz (R2.o.grown Z (by intro h;injection h;omega));have R3:=zz (R3.o.grown Z (by intro h;injection h;omega));have r:=zz (r.o.grown Z r.o.size (fun q e=>by injection e with e;omega))
      cases qU with
      |false=>
       have X:=zz (show(one (many s ag k).1 k (ag k)).2=[]from Y)
       clear Y N Z R;go_wp2_with fail;refine⟨⟨k+1,n,A',c',Aa,BG,rfl,?_,F.o,R2.o,R3.o,?_,r.o⟩,Ck⟩
       . rw[Ct,X.o,List.append_nil,D.o]
       . rw[Ct,X.o,List.append_nil];exact HL.o
      |true=>
       have X:=zz (show(one (many s ag k).1 k (ag k)).2=[(1,(k:Int))]from Y)
       clear Y N Z R;have HN:Hid (Rd (L.alloc (.cells (QA 1 (k:Int)) 130)) (L.heap.size+1) 2 (some ⟨L.heap.size,0,none⟩) 1 [.int .i64 1,.int .i64 (k:Int)]):=zz (Un _ _ _ _);have U:Below L.heap.size L (L.alloc (.cells (QA 1 (k:Int)) 130)):=DC;have HQ:=GJ HL U;have Q1:=AU F U;have Q2:=AU R2 U;have Q3:=AU R3 U;have QB:=CU r U
       have qW:=zz (show w.heap.size+1+1+1<=(L.alloc (.cells (QA 1 (k:Int)) 130)).heap.size from Q3.o.lt)
       clear U
       go_wp2_with(at_builtin;refine Aq _ rfl (.tmp 39) (.tmp 42) 98 rfl (base:=w.heap.size+1+1+1) TA rfl HQ.o rfl (fun h=>by cases h) HN.o GR GX Aa qW.o ?_;intro A4 c4 w4 qX M Z;have qV:=zz M;have O:=zz Z;clear M Z qX)
       have I:∀g,g<w.heap.size+1+1+1->some g≠(Value.slice A' n c').ownBlock:=fun g hg e=>by have:=(HQ.o.lt g e.symm).1;omega
       refine⟨⟨k+1,n+1,A4,c4,Aa,BG,rfl,?_,Q1.o.grown O.o (I _ Aa),Q2.o.grown O.o (I _ Aa),Q3.o.grown O.o (I _ Aa),?_,QB.o.grown O.o QB.o.size (fun g e=>by have:=(HQ.o.lt g e).1;omega)⟩,Ck⟩
       . rw[Ct,X.o,List.length_append,D.o];rfl
       . rw[Ct,X.o,Ih];exact qV.o
     |false=>
      have x0: wr.cell? ⟨w.heap.size,k,none⟩=some (.bool false):=by rw[F.o.cell];unfold RS.row;rw[Ah Aa,EZ G,hf]
      go_wp2_with fail;refine(iD (many s ag k).1 k G b hf (Me s ag k k Nr (qY.o k G)) w.heap.size wr F.o).mono ?_;rintro e L ⟨qU,rfl,Y,N,Z⟩;have R:ag k=b:=rq.o;rw[←R]at Y N;have HL:=zz (Ew HL.o Z (fun q e=>by injection e with e;subst e;exact⟨_,_,F.o,El⟩));have F:Hid (Ae L w.heap.size 30 (many s ag (k+1)).1.row):=zz N;have R2:=zz (R2.o.grown Z (by intro h;injection h;omega));have R3:=zz (R3.o.grown Z (by intro h;injection h;omega));have r:=zz (r.o.grown Z r.o.size (fun q e=>by injection e with e;omega))
      cases qU with
      |false=>
       have X:=zz (show(one (many s ag k).1 k (ag k)).2=[]from Y)
       clear Y N Z R;go_wp2_with fail;refine⟨⟨k+1,n,A',c',Aa,BG,rfl,?_,F.o,R2.o,R3.o,?_,r.o⟩,Ck⟩
       . rw[Ct,X.o,List.append_nil,D.o]
       . rw[Ct,X.o,List.append_nil];exact HL.o
      |true=>
       have X:=zz (show(one (many s ag k).1 k (ag k)).2=[(2,(k:Int))]from Y)
       clear Y N Z R;have HN:Hid (Rd (L.alloc (.cells (QA 2 (k:Int)) 130)) (L.heap.size+1) 2 (some ⟨L.heap.size,0,none⟩) 1 [.int .i64 2,.int .i64 (k:Int)]):=zz (Un _ _ _ _);have U:Below L.heap.size L (L.alloc (.cells (QA 2 (k:Int)) 130)):=DC;have HQ:=GJ HL U;have Q1:=AU F U;have Q2:=AU R2 U;have Q3:=AU R3 U;have QB:=CU r U
       have qW:=zz (show w.heap.size+1+1+1<=(L.alloc (.cells (QA 2 (k:Int)) 130)).heap.size from Q3.o.lt)
       clear U
       go_wp2_with(at_builtin;refine Aq _ rfl (.tmp 48) (.tmp 51) 98 rfl (base:=w.heap.size+1+1+1) TA rfl HQ.o rfl (fun h=>by cases h) HN.o GR GX Aa qW.o ?_;intro A4 c4 w4 qX M Z;have qV:=zz M;have O:=zz Z;clear M Z qX)
       have I:∀g,g<w.heap.size+1+1+1->some g≠(Value.slice A' n c').ownBlock:=fun g hg e=>by have:=(HQ.o.lt g e.symm).1;omega
       refine⟨⟨k+1,n+1,A4,c4,Aa,BG,rfl,?_,Q1.o.grown O.o (I _ Aa),Q2.o.grown O.o (I _ Aa),Q3.o.grown O.o (I _ Aa),?_,QB.o.grown O.o QB.o.size (fun g e=>by have:=(HQ.o.lt g e).1;omega)⟩,Ck⟩
       . rw[Ct,X.o,List.length_append,D.o];rfl
       rw[Ct,X.o,Ih];exact qV.o
    obtain rfl:k=4:=Aa;clear G;obtain⟨R4,t⟩:=AJ ((many s ag 4).1.row)
    have i4:(prog.info? 30).map (·.size)=some R4.size:=by rw[←t];exact IS.o _
    have z4:(RV:Array Value).size=R4.size:=by rw[←t];exact ZS.o _
    have o4:R4.all (·.oneCell')=true:=by rw[←t];exact IK _
    rw[t]at F;have rE:=zz t;clear t
    go_wp2_with(first
     |(refine Ad rfl 30 _ rfl w.heap.size rfl F.o _ underlying30 rfl i4 ?_)
     |(refine wpList_store_row rfl 30 _ _ rfl (w.heap.size+1+1) R4 rfl rfl 30 _ R3.o i4 z4 o4 ?_))
    refine CR (x:=.slice A' n c') (y:=.int .i64 0) rfl rfl rfl rfl (R3.o.setRow R4) ⟨by rw[underlying30],i4⟩ rfl ?_;rw[H.o,qQ.o]
    have qR:=Ay HL.o (show w.heap.size+1+1<w.heap.size+1+1+1 by omega) R4
    refine⟨A',c',?_,?_,below_setRow r.o Aa _,(BU qR).1⟩
    . dsimp only;rw[rE.o,D.o]
    dsimp only;rw[D.o];exact Rd.Bu qR
 have e4:((V.length:Int)!=4)=true:=by simp[bne];omega
 have H:=zz (show Fv s d V=(MW,[],8)by unfold Fv;rw[Ao h4])
 clear h4
 go_wp2_with(refine wpList_store_row rfl 30 _ _ rfl (w.heap.size+1+1) RV rfl rfl 30 _ W3.o iZ rfl oZ ?_)
 refine CR (x:=.slice none 0 0) (y:=.int .i64 8) rfl rfl rfl rfl (W3.o.setRow RV) ⟨by rw[underlying30],iZ⟩ rfl ?_;rw[H.o];exact⟨none,0,by rw[rA.o];rfl,Rd.nil _ _ _ _,below_setRow WB.o Aa _,fun _=>rfl⟩
end Nd
namespace Nd
open Go.RowKit Mem Rws Flat
def Jr(f:Nat->Value)(s:Nat):Int:=iv (f (51+s))
def Gz(f:Nat->Value)(i:Nat):Bool:=bv (f (27+i))
def E9(k:Nat)(Y:Int)(Z:List Cw)(f:Nat->Value)(s:Nat):Int:=Fh k s (Jr f s) s (fun i=>Be (k:Int) Y 2 4 (i:Int) Z)
def Kq(f:Nat->Value):RS:=⟨Gz f,fun i=>iv (f (31+i)),fun i=>iv (f (35+i))⟩
def FJ(f:Nat->Value)(v:Int)(Z:Bool)(i:Nat):Value:=if i=71 then .int .i64 v else if i=72 then .bool Z else f i
def ET(L:Nat->Int)(I:Nat->Bool):List Bool:=(List.range 4).map fun i=>Vt.agrees L I i
def Gl(L:Nat->Int)(f:Nat->Value):RS×List (Int×Int)×Int:=Fv (Kq f) (Vt.strong L (Gz f)) (ET L (Gz f))
def DW(L:Nat->Int)(f:Nat->Value):Nat->Value:=
 if(Gl L f).2.2=0 then EW (FJ f (Vt.val L (Gz f)) (Vt.strong L (Gz f))) (Gl L f).1 else FJ f (Vt.val L (Gz f)) (Vt.strong L (Gz f))
def Vb(f:Nat->Value)(S:Value)(v:Int)(Z:Bool)(A:Option Addr)(n c:Nat):row 74 (over 71 3 (fun i=>if i=0 then .int .i64 v else if i=1 then .bool Z else .slice A n c) (Ab f S))=row 74 (Ab (FJ f v Z) (.slice A n c)):=AA fun i hi=>by
 by_cases h:71<=i
 .obtain rfl|rfl|rfl:i=71\/i=72\/i=73:=Aa
  all_goals rfl
 rw[Cx Aa]
 unfold Ab FJ
 rw[Aj Aa,Aj Aa,Aj Aa,Aj Aa]
def Y2(v:Int)(Z:Bool)(A:Option Addr)(n c i:Nat):(if i=0 then Value.int .i64 v else if i=1 then .bool Z else .slice A n c).oneCell'=true:=by split;rfl;split<;>rfl
def WQ(f:Nat->Value)(v:Int)(Z:Bool)(A:Option Addr)(n c:Nat):(row 3 fun j=>Ab (FJ f v Z) (.slice A n c) (71+j))=Gx v Z A n c:=rfl
def TG{f:Nat->Value}(Z:∀i,i<73->C9 (Ar i) (f i))(S:Value):(row 4 fun j=>Ab f S (27+j))=row 4 fun i=>.bool (Gz f i):=AA fun i hi=>by
 unfold Ab
 rw[Aj Aa];exact Kb Z (27+i) Aa Aa
def SG{f:Nat->Value}(Z:∀i,i<73->C9 (Ar i) (f i))(v:Int)(W:Bool)(S:Value):(row 12 fun j=>Ab (FJ f v W) S (27+j))=(Kq f).row:=AA fun i hi=>by
 unfold Ab FJ
 rw[Aj Aa,Aj Aa,Aj Aa]
 unfold Kq Bo
 by_cases X:i<4
 .rw[Ao X];exact Kb Z (27+i) Aa Aa
 rw[Aj X]
 by_cases Y:i<8
 .rw[Ao Y,show 27+i=31+(i-4)by omega]
  exact JU Z (31+(i-4)) Aa Aa
 rw[Aj Y,show 27+i=35+(i-8)by omega]
 exact JU Z (35+(i-8)) Aa Aa
def YF{f:Nat->Value}(W:∀i,i<73->C9 (Ar i) (f i))(v:Int)(X:Bool):∀i,i<73->C9 (Ar i) (FJ f v X i):=fun i hi=>by
 unfold FJ
 by_cases Y:i=71
 . subst Y;exact⟨v,rfl⟩
 rw[Aj Y]
 by_cases Z:i=72
 . subst Z;exact⟨X,rfl⟩
 rw[Aj Z];exact W i hi
def JN{f:Nat->Value}(Z:∀i,i<73->C9 (Ar i) (f i))(L:Nat->Int):∀i,i<73->C9 (Ar i) (DW L f i):=by
 unfold DW
 split
 . exact Qj (YF Z _ _) _
 exact YF Z _ _
def ER(L:Nat->Int)(f:Nat->Value)(i:Nat)(h:i<27):DW L f i=f i:=by
 unfold DW
 split
 . unfold EW;rw[Aj Aa];unfold FJ;rw[Aj Aa,Aj Aa]
 unfold FJ;rw[Aj Aa,Aj Aa]
def kR(l:List Int)(o:Int):MajLaw.Ri l o=o\/MajLaw.Ri l o∈l:=by
 unfold MajLaw.Ri
 split
 .next h=>
  right
  refine List.count_pos_iff.1 ?_
  show 0<MajLaw.cnt (MajLaw.left l).2 l
  omega
 exact .inl rfl
def Wf(z:Int):Prop:=(Lit.int .i64 z).wf=true
def Ei:Wf 0:=by unfold Wf;rfl
def jc{k:Nat}{o:Option Cw}(h:∀m,o=some m->∀z∈m.zs,Wf z):Wf (K5 k o):=by
 cases o with
 |none=>exact Ei
 |some m=>
  show Wf (m.zs.getD k 0)
  rw[List.getD_eq_getElem?_getD]
  cases e:m.zs[k]? with
  |none=>exact Ei
  |some z=>exact h m rfl z (List.mem_of_getElem? e)
def PZ{id Y:Nat}{Z:Int}{k:Nat}{o:Nat->Option Cw}(X:Wf Z)(h:∀i m,o i=some m->∀z∈m.zs,Wf z):Wf (Fh id Y Z k o):=by
 unfold Fh
 split
 . exact X
 rcases kR (Z::Ca id Y k o 4) 0 with e|e
 . rw[e];exact Ei
 generalize MajLaw.Ri (Z::Ca id Y k o 4) 0=x at*
 rcases List.mem_cons.1 e with e|e
 . rw[e];exact X
 unfold Ca Av.OG at e
 obtain⟨p,V,e⟩:=List.mem_map.1 e;rw[←e];exact jc fun m W=>h p m W
def PI{f:Nat->Value}(X:∀i,i<73->C9 (Ar i) (f i))(Y:∀i z,i<73->f i=.int .i64 z->Wf z){Z:List Cw}(V:∀m∈Z,∀z∈m.zs,Wf z)(k:Nat)(W:Int):∀i,i<4->Wf (E9 k W Z f i):=fun i hi=>by
 unfold E9
 refine PZ ?_ fun j m h=>V m (List.mem_of_find?_eq_some h)
 have e:Ar (51+i)=true:=by unfold Ar;simp;omega
 have h:=X (51+i) Aa;rw[e]at h;exact Y (51+i) _ Aa (KP h)
end Nd
namespace Cl
open Go.RowKit Mem Rws Nd
def kC(v:Int)(j:Nat):Wr.hb v (j+1)=Wr.hb (v/256) j:=by
 unfold Wr.hb
 rw[Int.pow_succ,Int.mul_comm,←Int.ediv_ediv_of_nonneg Aa]
def Xl(v b:Int):v%(256*b)=v%256+256*(v/256%b):=by
 rw[Int.emod_def v (256*b),Int.emod_def v 256,Int.emod_def (v/256) b,←Int.ediv_ediv_of_nonneg Aa,Int.mul_sub];have:256*b*(v/256/b)=256*(b*(v/256/b)):=Int.mul_assoc ..;rw[this];omega
def Ui{Z:List Nat}:∀(n:Nat) (v:Int) (o:Nat),(∀j,j<n->Ef Z (o+j)=Wr.hb v (n-1-j))->(Dn Z o n:Int)=v%256 ^ n
 |0,v,o,_=>by
  show((0:Nat):Int)=_
  omega
 |n+1,v,o,h=>by
  have W:=Ui n (v/256) o (fun j T=>by
   rw[h j Aa,show n+1-1-j=(n-1-j)+1 by omega,kC])
  have Y:=h n Aa
  rw[show n+1-1-n=0 by omega]at Y
  unfold Dn
  rw[Y]
  have U:((Wr.hb v 0:Nat):Int)=v%256:=by
   have:=Wr.Kj v 0;rw[Int.pow_zero,Int.ediv_one]at this;exact this
  have X:(256:Int) ^ (n+1)=256*256 ^ n:=by rw[Int.pow_succ,Int.mul_comm]
  rw[X,Xl,←W]
  generalize Dn Z o n=V at*
  generalize Wr.hb v 0=u at*
  omega
def nI(v:Int):∀(n j:Nat),j<n->(Wr.hi v n)[j]?=some (Wr.hb v (n-1-j))
 |0,j,h=>by omega
 |n+1,0,h=>by simp[Wr.hi]
 |n+1,j+1,h=>by
  simp only[Wr.hi,List.getElem?_cons_succ];rw[nI v n j Aa]
  congr 2
  omega
def Y3:∀(zs:List Int) (i j:Nat) (hi:i<zs.length),j<8->(Wr.vals zs)[8*i+j]?=some (Wr.hb (zs[i]) (7-j))
 |[],i,j,hi,_=>by simp at hi
 |z::zs,0,j,hi,hj=>by
  have:Wr.vals (z::zs)=Wr.hi z 8++Wr.vals zs:=rfl;rw[this,Nat.mul_zero,Nat.zero_add,List.getElem?_append_left (by rw[Wr.Dl];exact hj)];exact nI z 8 j hj
 |z::zs,i+1,j,hi,hj=>by
  have:Wr.vals (z::zs)=Wr.hi z 8++Wr.vals zs:=rfl
  rw[this,List.getElem?_append_right (by rw[Wr.Dl];omega),Wr.Dl,show 8*(i+1)+j-8=8*i+j by omega]
  exact Y3 zs i j (by simpa using hi) hj
def Lm{k f n:Int}{Z:List Int}{i:Nat}{b:Nat}(h:(Wr.body k f n Z Z.length)[i]?=some b):Ef (Wr.enc k f n Z) i=b:=by
 unfold Ef Wr.enc Sm.sealed
 rw[List.getD_eq_getElem?_getD,List.getElem?_append_left (List.getElem?_eq_some_iff.1 h).1,h];rfl
def I6{k f n:Int}{Z:List Int}{i:Nat}(h:i<8):(Wr.body k f n Z Z.length)[i]?=(Wr.front k f n Z.length)[i]?:=by
 unfold Wr.body
 exact List.getElem?_append_left (by rw[Wr.IB];exact h)
def SY{v:Int}(Z:0<=v)(Y:v<256):(Wr.hb v 0:Int)=v:=by rw[Wr.Kj,Int.pow_zero,Int.ediv_one];omega
def Z8{z:Int}{n:Nat}(h:(n:Int)=z%256 ^ 8)(Z: -9223372036854775808<=z/\z<9223372036854775808):GQ n=z:=by
 unfold GQ
 rw[h,IntKind.wrap_i64];have:(256:Int) ^ 8=18446744073709551616:=El;rw[this];omega
def jk{k f n:Int}{zs:List Int}(Z:Ms.wrong k f n zs.length=0)(G:∀z∈zs,-9223372036854775808<=z/\z<9223372036854775808):came f (Wr.enc k f n zs)=some ⟨k,f,n,zs⟩:=by
 have D:=Wr.JF Z
 have hb:1<=k/\k<=5/\0<=f/\f<=3/\0<=n/\n<=2147483647:=by
  unfold Ms.wrong at Z
  split at Z
  . omega
  split at Z
  . omega
  split at Z<;>omega
 have Y:(Wr.enc k f n zs).length=12+8*zs.length:=by rw[Ur]
 have F:Ef (Wr.enc k f n zs) 0=87:=Lm (by rw[I6 Aa];rfl);have H:Ef (Wr.enc k f n zs) 1=Wr.hb k 0:=Lm (by rw[I6 Aa];rfl);have I:Ef (Wr.enc k f n zs) 2=Wr.hb f 0:=Lm (by rw[I6 Aa];rfl);have M:Ef (Wr.enc k f n zs) 7=zs.length%256:=Lm (by rw[I6 Aa];rfl)
 have U:((Ef (Wr.enc k f n zs) 1:Nat):Int)=k:=by rw[H];exact SY Aa Aa
 have W:((Ef (Wr.enc k f n zs) 2:Nat):Int)=f:=by rw[I];exact SY Aa Aa
 have R:E5 (Wr.enc k f n zs)=zs.length:=by unfold E5;rw[M];omega
 have V:((Dn (Wr.enc k f n zs) 3 4:Nat):Int)=n:=by
  rw[Ui 4 n 3 (fun j O=>Lm (by
   rw[I6 Aa];obtain rfl|rfl|rfl|rfl:j=0\/j=1\/j=2\/j=3:=Aa
   all_goals rfl))]
  have:(256:Int) ^ 4=4294967296:=El;rw[this];omega
 have L:Ka (Wr.enc k f n zs) zs.length=zs:=by
  refine List.ext_getElem (by rw[Qs]) fun i E T=>?_
  have e:(Ka (Wr.enc k f n zs) zs.length)[i]=GQ (Dn (Wr.enc k f n zs) (8+8*i) 8):=by simp[Ka]
  rw[e];refine Z8 (Ui 8 zs[i] (8+8*i) (fun j O=>Lm ?_)) (G _ (List.getElem_mem T))
  unfold Wr.body
  rw[List.take_length,List.getElem?_append_right (by rw[Wr.IB];omega),Wr.IB,show 8+8*i+j-8=8*i+j by omega]
  exact Y3 zs i j T O
 have X:Sm.okB (Wr.enc k f n zs)=true:=by
  unfold Sm.okB
  rw[decide_eq_true Aa,Bool.true_and];refine decide_eq_true ?_;have N:=Wr.Gq k f n zs zs.length Nr
  have:(Wr.enc k f n zs).take ((Wr.enc k f n zs).length-4)=Wr.body k f n zs zs.length:=by
   rw[Y,show 12+8*zs.length-4=(Wr.body k f n zs zs.length).length by omega]
   unfold Wr.enc Sm.sealed
   exact List.take_left ..
  rw[this];rfl
 have J:GU (Wr.enc k f n zs)=0:=by
  unfold GU
  rw[Aj Aa,Aj Aa,Aj (by rw[X];simp),R,Aj Aa,Aj Aa,U,W,V];exact Z
 unfold came
 rw[Ao ⟨J,W⟩,U,V,R,L]
def l9(n:Nat): -9223372036854775808<=GQ n/\GQ n<9223372036854775808:=by unfold GQ;rw[IntKind.wrap_i64];omega
def YO{f:Int}{Z:List Nat}{m:Cw}(h:came f Z=some m):∀z∈m.zs,-9223372036854775808<=z/\z<9223372036854775808:=by
 unfold came at h
 split at h
 .injection h with h
  subst h;intro z Y;obtain⟨i,_,rfl⟩:=List.mem_map.1 Y;exact l9 _
 cases h
def oL(Z W:Int)(ls:List IC)(V Y U:Nat->Int)(T:Nat->List Int)(n i:Nat):∀m∈LZ Z W ls V Y U T n i,∀z∈m.zs,-9223372036854775808<=z/\z<9223372036854775808:=fun m h=>by
 rw[M8]at h;obtain⟨s,_,h⟩:=List.mem_flatMap.1 h
 unfold part at h
 split at h
 .obtain⟨l,_,_,_,X⟩:=bK h;exact YO X
 exact YO (Yz h)
end Cl
namespace Cf
open Go.RowKit Mem Rws Nd
def Ak(Z:Int)(F:Nat->Nat->Value)(S:Nat->Value)(i:Nat):Value:=if i=0 then .int .i64 Z else Ab (F ((i-1)/74)) (S ((i-1)/74)) ((i-1)%74)
def BP(Y:Nat->Int)(Z:Int)(L:Value)(i:Nat):Value:=if i<12 then .int .i64 (Y i)else if i=12 then .int .i64 Z else L
def AO(Y:Nat->Option Addr)(V:Nat->List Bool)(Z:Nat->Nat)(i:Nat):Value:=.slice (Y i) (V i).length (Z i)
end Cf
end Go.Proofs.YtjobajeggllmiaaGreat
