import Derived.Test.YtjobajeggllmiaaGreatPc0
import Derived.Great.BuildSlice
import Derived.Test.YtjobajeggllmiaaGreatPc13
set_option linter.all false
set_option maxHeartbeats 100000000
set_option maxRecDepth 100000
namespace Go.Proofs.YtjobajeggllmiaaGreat
open Ms _root_.Go.Proofs.Tryz
namespace Cl
open Go.ChangeShapes Go.WideShapes Go.ChangeAt Go.RowKit Mem Rws Nd Go.Proofs.YtjobajeggllmiaaGreat.Ms Cf
def SV{w w':World}{Z:List Nat}{e:Ending}(h:FX w w' Z e):∃(k f n:Int) (A:Option Addr) (c:Nat) (X:List Int) (T:Int),e=.returned (.tuple #[.agg (BL k f n A X.length c),.int .i64 T])/\
  w'.ownsRow w.heap.size 3 1 (.slice A X.length c) X.length (Ms.AQ X)/\X.length<=255/\Below w.heap.size w w'/\∀W,came W Z=if T=0/\f=W then some ⟨k,f,n,X⟩else none:=by
 unfold FX at h
 by_cases Y:GU Z=0
 .rw[Ao Y]at h;obtain⟨A,c,rfl,R,hb⟩:=h;have U:=Qs Z (E5 Z);refine⟨_,_,_,A,c,Ka Z (E5 Z),0,by rw[U];rfl,by rw[U];exact R,?_,hb,fun W=>?_⟩
  .rw[U]
   unfold GU at Y
   (repeat' split at Y)<;>omega
  unfold came
  by_cases V:((Ef Z 2:Nat):Int)=W
  . rw[Ao ⟨Y,V⟩,Ao ⟨rfl,V⟩,V]
  rw[Aj (fun h=>V h.2),Aj (fun h=>V h.2)]
 rw[Aj Y]at h;obtain⟨rfl,hb⟩:=h;refine⟨0,0,0,none,0,[],GU Z,rfl,World.ownsRow_nil _ _ _ _,Bq,hb,fun W=>?_⟩
 unfold came
 rw[Aj (fun h=>Y h.1),Aj (fun h=>Y h.1)]
noncomputable def Ru(Z V:Int)(ls:List IC)(W X U:Nat->Int)(T:Nat->List Int)(Y:Nat):Nat->List Cw
 |0=>[]
 |s+1=>Ru Z V ls W X U T Y s++if s=Y then []else part Z V ls W X U T Y s
def UE(Z V:Int)(ls:List IC)(U X T:Nat->Int)(R:Nat->List Int)(Y:Nat)(W:(Y:Int)≠Z)(O:X Y=(Y:Int)):∀n,Ru Z V ls U X T R Y n=LZ Z V ls U X T R n Y
 |0=>rfl
 |n+1=>by
  have e:=M8 Z V ls U X T R Y (n+1);rw[List.range_succ,List.flatMap_append,←M8]at e;rw[e,←UE Z V ls U X T R Y W O n]
  show Ru Z V ls U X T R Y n++_=_
  congr 1
  by_cases h:n=Y
  .subst h;rw[Ao rfl];simp only[List.flatMap_cons,List.flatMap_nil,List.append_nil]
   unfold part Mv
   rw[Aj W,O]
   split
   . rfl
   rw[Aj (fun h=>h.2 rfl)]
  rw[Aj h];simp
def ZY(Z Y:Int){ls:List IC}{m:Nat}{l:IC}(X:ls[m]?=some l)(i:Nat):J6 Z Y (ls.take (m+1)) i=J6 Z Y (ls.take m) i++(open Classical in if goes Z Y l/\l.t.toNat=i then(came Z l.bs).toList else []):=by
 unfold J6
 rw[List.take_add_one,X,Option.toList_some,List.flatMap_append]
 simp
def Vd(Z Y:Int)(i:Nat):∀ls:List IC,(J6 Z Y ls i).length<=ls.length
 |[]=>by simp[J6]
 |l::ls=>by
  have X:=Vd Z Y i ls
  unfold J6 at X ⊢
  rw[List.flatMap_cons,List.length_append,List.length_cons]
  have:(open Classical in if goes Z Y l/\l.t.toNat=i then(came Z l.bs).toList else []).length<=1:=by
   split
   . exact Ql _ _
   simp
  omega
def PG{Z W:Int}{l:IC}{Y:Nat}(V:Y<4)(T:(Y:Int)≠Z)(hb:0<=Z):(goes Z W l/\l.t.toNat=Y)↔(l.p=W/\l.t=(Y:Int)):=by
 constructor
 .rintro⟨⟨_,X,U,N,R⟩,O⟩;exact⟨X,Aa⟩
 rintro⟨X,U⟩;exact⟨⟨hb,X,Aa,Aa,Aa⟩,Aa⟩
structure Jj(w wr:World)(P:Nat->Value)(RI:Array Value):Prop where
 s:Ae wr w.heap.size 79 #[P 0,P 1,P 2,P 3]
 i:Ae wr (w.heap.size+1) 43 RI
 b:Below w.heap.size w wr
def Jj.below{w wr w':World}{P:Nat->Value}{RI:Array Value}(h:Jj w wr P RI)(hb:Below wr.heap.size wr w'):Jj w w' P RI:=⟨h.s.below hb h.s.lt,h.i.below hb h.i.lt,Bh h.b Nr hb⟩
def Jj.drew{w wr:World}{P:Nat->Value}{RI:Array Value}(h:Jj w wr P RI):Jj w wr.drew P RI:=⟨h.s.drew,h.i.drew,h.b.drew⟩
def Jj.grown{w wr w':World}{P:Nat->Value}{RI:Array Value}(h:Jj w wr P RI){e:TypeId}{size n:Nat}{v:Value}{X:List Value}(Y:wr.ownsRow (w.heap.size+2) e size v n X)(Z:wr.grownBy w' v.ownBlock):Jj w w' P RI:=
 ⟨h.s.grown Z (fun e=>by have:=(Y.lt _ e.symm).1;omega),h.i.grown Z (fun e=>by have:=(Y.lt _ e.symm).1;omega),h.b.grown Z h.b.size (fun g e=>by have:=(Y.lt g e).1;omega)⟩
def jX{P:Nat->Value}{w:World}{g:Nat}{T:TypeId}(h:Ae w g T #[P 0,P 1,P 2,P 3]){k:Nat}(Z:k<4): w.cell? ⟨g,k,none⟩=some (P k):=by
 rw[h.cell k];obtain rfl|rfl|rfl|rfl:k=0\/k=1\/k=2\/k=3:=Aa
 all_goals rfl
def SaidAt(w:World)(B:Nat)(v:Value)(k f n:Int)(Z:List Int):Prop:=∃b A c,v=.pointer (some ⟨b,0,none⟩)/\Ae w b 65 (BL k f n A Z.length c)/\b<B/\Z.length*8<=140737488351232/\Rd w B 1 A Z.length (Ms.AQ Z)/\∀z∈Z,-9223372036854775808<=z/\z<9223372036854775808
def Sw(Z:Nat)(j:Z<4)(bad U:Int)(q:(Z:Int)≠bad)(tY: -1<=bad/\bad<=3)(rd:Nat->Int)(LA:Option Addr)(LC:Nat)(ls:List IC)(sW:ls.length<=400)(P:Nat->Value)(O R N:Nat->Int)(M:Nat->List Int)(hf:∀s:Nat,s<4->(s:Int)≠bad->R s=(s:Int))(w:World)(hm:∀s:Nat,s<4->(s:Int)≠bad->SaidAt w w.heap.size (P s) (O s) (R s) (N s) (M s))(hls:Co w w.heap.size LA ls):
  Calls prog 24 #[.int .i64 (Z:Int),.agg #[P 0,P 1,P 2,P 3],.agg (row 14 (BP rd bad (.slice LA ls.length LC))),.int .i64 U] w fun e w'=>∃A c,e=.returned (.slice A (LZ bad U ls O R N M 4 Z).length c)/\Cy w' w.heap.size A c (LZ bad U ls O R N M 4 Z)/\Below w.heap.size w w':=by
 have HM:=zz hm;have tJ:=zz hls;have HX:=zz (UE bad U ls O R N M Z q (hf Z j q) 4);have HF:=zz hf
 have rE:=zz (show ∀k,k<=4->(Ru bad U ls O R N M Z k).length<=k*401 from fun k _=>by rw[UE bad U ls O R N M Z q (hf Z j q)];exact NH bad U ls O R N M sW Z k)
 obtain⟨RI,ru⟩:=AJ (row 14 (BP rd bad (.slice LA ls.length LC)))
 have tT:RI[12]?=some (.int .i64 bad):=by rw[←ru,Ah Aa];rfl
 have sN:RI[13]?=some (.slice LA ls.length LC):=by rw[←ru,Ah Aa];rfl
 rw[ru];clear ru hm hls hf
 have V:=zz (show Jj w ((w.alloc (.cells #[P 0,P 1,P 2,P 3] 79)).alloc (.cells RI 43)) P RI from⟨(show Ae (w.alloc (.cells #[P 0,P 1,P 2,P 3] 79)) w.heap.size 79 #[P 0,P 1,P 2,P 3]from Ae.fresh _ _ _).alloc _,by
  have h:Ae ((w.alloc (.cells #[P 0,P 1,P 2,P 3] 79)).alloc (.cells RI 43)) (w.alloc (.cells #[P 0,P 1,P 2,P 3] 79)).heap.size 43 RI:=Ae.fresh _ _ _
  rwa[show(w.alloc (.cells #[P 0,P 1,P 2,P 3] 79)).heap.size=w.heap.size+1 from Array.size_push _]at h,((Below.refl w.heap.size w).alloc Nr _).alloc Bq _⟩)
 go_in
 go_upto_region 1 with fail
 generalize((w.alloc (.cells #[P 0,P 1,P 2,P 3] 79)).alloc (.cells RI 43))=W at*
 go_wp2_with fail
 go_loopw[9,10] (fun v i wr=>∃(k:Nat) (A:Option Addr) (c:Nat),k<=4/\i=.int .i64 k/\v=.slice A (Ru bad U ls O R N M Z k).length c/\Cy wr (w.heap.size+2) A c (Ru bad U ls O R N M Z k)/\Jj w wr P RI) (fun _ i _=>4-(intOf i).toNat)
 .exact⟨0,none,0,Aa,rfl,rfl,Cy.nil _ _,V.o⟩
 clear V;obtain⟨k,A,c,hk,rfl,rfl,ho,hi⟩:=hrel;have L:=zz ho;have V:=zz hi;clear ho hi
 by_cases rC:k<4
 .have ug:(0:Int)<=(k:Int):=Aa;have uf:(k:Int)<4:=Aa;have tQ:=(V.o.i.cell 12).trans tT
  by_cases hT:(k:Int)=(Z:Int)
  .have tL:decide ((k:Int)=(Z:Int))=true:=by simp[hT]
   have sO:((k:Int)==(Z:Int))=true:=by simp[hT]
   have HE:=zz (show Ru bad U ls O R N M Z (k+1)=Ru bad U ls O R N M Z k by show _++_=_;rw[Ao Aa,List.append_nil])
   clear hT;go_wp2_with fail;exact⟨⟨k+1,A,c,Aa,BG,by rw[HE.o],by rw[HE.o];exact L.o,V.o⟩,Ck⟩
  have tL:decide ((k:Int)=(Z:Int))=false:=by simp[hT]
  have sO:((k:Int)==(Z:Int))=false:=by simp[hT]
  have HE:=zz (show Ru bad U ls O R N M Z (k+1)=Ru bad U ls O R N M Z k++part bad U ls O R N M Z k by show _++_=_;rw[Aj Aa])
  by_cases hD:(k:Int)=bad
  .have tu:((k:Int)!=bad)=false:=by simp[hD]
   have qZ:=zz (show part bad U ls O R N M Z k=J6 bad U ls Z from Ao hD)
   have tH:=(V.o.i.cell 13).trans sN;have rH:0<=bad:=Aa;have HD:=zz hD;clear hD hT;go_wp2_with fail
   generalize wr=wq at*
   clear tQ tH
   go_loopw[9,53] (fun v i wr=>∃(m:Nat) (A:Option Addr) (c:Nat),m<=ls.length/\i=.int .i64 m/\v=.slice A (Ru bad U ls O R N M Z k++J6 bad U (ls.take m) Z).length c/\Cy wr (w.heap.size+2) A c (Ru bad U ls O R N M Z k++J6 bad U (ls.take m) Z)/\Jj w wr P RI) (fun _ i _=>ls.length-(intOf i).toNat)
   .exact⟨0,A,c,Aa,rfl,by simp[J6],by simpa[J6] using L.o,V.o⟩
   clear L V;obtain⟨m,A,c,hm,rfl,rfl,ho,hi⟩:=hrel;have L:=zz ho;have V:=zz hi;clear ho hi;obtain⟨cur,X⟩:=AJ (Ru bad U ls O R N M Z k++J6 bad U (ls.take m) Z)
   have qQ:=zz (show cur.length<=3000 by rw[←X,List.length_append];have:=rE.o k hk;have:=Vd bad U Z (ls.take m);rw[List.length_take]at this;omega)
   rw[X]at L ⊢
   by_cases rV:m<ls.length
   .have rU:ls[m]?=some ls[m]:=List.getElem?_eq_getElem rV;have f:=zz (ZY bad U rU Z)
    generalize ls[m]=x at*
    obtain⟨b,o,a,ca,rfl,rA,x0,x1,x2,h3,h4,h5,h6,h7⟩:=Co.at tJ.o rU;have x0:=(V.o.b.cell (p:=⟨b,o+m*3,none⟩) rA).trans x0;have x1:=(V.o.b.cell (p:=⟨b,o+m*3+1,none⟩) rA).trans x1;have x2:=(V.o.b.cell (p:=⟨b,o+m*3+2,none⟩) rA).trans x2;have H7:=zz h7;have H6:=zz h6;have rZ:(0:Int)<=(m:Int):=Aa;have tZ:(m:Int)<(ls.length:Int):=Aa;clear h6 h7 rU
    go_upto_region 14 with fail
    have Y:Below wr.heap.size wr (wr.alloc (.cells (J7 x.p x.t a x.bs.length ca) 76)):=DC
    have PB:=zz (show Ae (wr.alloc (.cells (J7 x.p x.t a x.bs.length ca) 76)) wr.heap.size 76 (J7 x.p x.t a x.bs.length ca)from Ae.fresh _ _ _)
    have V:=zz (V.o.below Y);have L:=zz (L.o.below Y);clear Y x0 x1 x2
    generalize(wr.alloc (.cells (J7 x.p x.t a x.bs.length ca) 76))=w3 at*
    obtain⟨gp,hg⟩:=AJ (wr.heap.size);rw[hg]at PB ⊢;clear hg;have p2:=PB.o.cell 2;simp only[List.getElem?_toArray,List.getElem?_cons_zero,List.getElem?_cons_succ]at p2;go_wp2_with fail;refine(Mk a ca x.bs w.heap.size w3 V.o.b.size h3 h4 GX Aa H6.o (H7.o.below V.o.b)).mono ?_;intro e n r;obtain⟨F,J,G,z,y,I,ec,rfl,g,qX,hb,C⟩:=SV r;have B:=zz (C bad);have rT:=zz qX
    have D:=zz (Bf g (show w.heap.size+2<=w3.heap.size from V.o.i.lt))
    have V:=zz (V.o.below hb);have L:=zz (L.o.below hb);have PB:=AU PB hb;clear r g qX hb C p2
    go_upto_region 15 with fail
    have Y:Below n.heap.size n (n.alloc (.cells (BL F J G z I.length y) 65)):=DC
    have H:=zz (show Ae (n.alloc (.cells (BL F J G z I.length y) 65)) n.heap.size 65 (BL F J G z I.length y)from Ae.fresh _ _ _)
    have V:=zz (V.o.below Y);have L:=zz (L.o.below Y);have D:=zz (Nd.ownsRow_below D.o Y);have PB:=AU PB Y;clear Y
    generalize(n.alloc (.cells (BL F J G z I.length y) 65))=u at*
    obtain⟨gm,hg⟩:=AJ (n.heap.size);rw[hg]at H ⊢;clear hg;have p0:=PB.o.cell 0;have p1:=PB.o.cell 1;have q1:=H.o.cell 1;simp only[List.getElem?_toArray,List.getElem?_cons_zero,List.getElem?_cons_succ]at p0 p1 q1
    by_cases d:x.p=U
    .have tK:decide (x.p=U)=true:=by simp[d]
     have sH:(x.p==U)=true:=by simp[d]
     by_cases hB:x.t=(Z:Int)
     .have sS:decide (x.t=(Z:Int))=true:=by simp[hB]
      have sI:(x.t==(Z:Int))=true:=by simp[hB]
      have HG:=zz (show(goes bad U x/\x.t.toNat=Z)from(PG j q rH).2 ⟨d,hB⟩)
      by_cases hC:ec=0
      .have tO:decide (ec=0)=true:=by simp[hC]
       have sZ:(ec==0)=true:=by simp[hC]
       by_cases hF:J=(k:Int)
       .have tF:decide (J=(k:Int))=true:=by simp[hF]
        have sP:(J==(k:Int))=true:=by simp[hF]
        have B:=zz (B.o.trans (Ao ⟨hC,hF.trans HD.o⟩));clear d hB hC hF;have y0:=H.o.cell 0;have y1:=H.o.cell 1;have y2:=H.o.cell 2;have y3:=H.o.cell 3;simp only[List.getElem?_toArray,List.getElem?_cons_zero,List.getElem?_cons_succ]at y0 y1 y2 y3;have Y:Below u.heap.size u (u.alloc (.cells (BL F J G z I.length y) 65)):=DC;have HN:Hid (Rd (u.alloc (.cells (BL F J G z I.length y) 65)) (u.heap.size+1) 4 (some ⟨u.heap.size,0,none⟩) 1 (Mg ⟨F,J,G,I⟩ z y)):=zz (Y7 u (Mg ⟨F,J,G,I⟩ z y) rfl _);have rF:=zz (V.o.below Y);have rQ:=zz (L.o.below Y);have D:=zz (Nd.ownsRow_below D.o Y);have rO:Hid (w.heap.size+2<=(u.alloc (.cells (BL F J G z I.length y) 65)).heap.size):=zz (by have:=Y.size;have:=V.o.i.lt;omega);obtain⟨xs,qU,rq⟩:=rQ.o;have HW:=zz qU;have rG:=zz rq;clear Y qU rq
        go_wp2_with(at_builtin;refine Aq _ rfl (.tmp 83) (.tmp 85) 58 rfl (base:=w.heap.size+2) Qu rfl HW.o rfl (fun h=>by cases h) HN.o (by simp[Mg,Value.oneCell']) (by have:=qQ.o;unfold maxLen;omega) (by have:=qQ.o;omega) rO.o ?_;intro A4 c4 w6 rP E qV;have rJ:=zz E;have qW:=zz qV;clear E qV rP)
        have qY:Cy w6 (w.heap.size+2) A4 c4 (cur++[⟨F,J,G,I⟩]):=Cy.snoc rG.o HW.o D.o (by show I.length*8<=_;have:=rT.o;omega) rJ.o qW.o
        have rM:Jj w w6 P RI:=rF.o.grown HW.o qW.o
        have T:Ru bad U ls O R N M Z k++J6 bad U (ls.take (m+1)) Z=cur++[⟨F,J,G,I⟩]:=by rw[f.o,Ao HG.o,B.o,←List.append_assoc,X];rfl
        exact⟨⟨m+1,A4,c4,Aa,BG,by rw[T];simp,by rw[T];exact qY,rM⟩,Ck⟩
       have tF:decide (J=(k:Int))=false:=by simp[hF]
       have sP:(J==(k:Int))=false:=by simp[hF]
       have B:=zz (B.o.trans (Aj (fun h=>hF (h.2.trans HD.o.symm))))
       have T:Ru bad U ls O R N M Z k++J6 bad U (ls.take (m+1)) Z=cur:=by rw[f.o,Ao HG.o,B.o,Option.toList_none,List.append_nil,X]
       clear d hB hC hF;go_wp2_with fail;exact⟨⟨m+1,A,c,Aa,BG,by rw[T],by rw[T];exact L.o,V.o⟩,Ck⟩
      have tO:decide (ec=0)=false:=by simp[hC]
      have sZ:(ec==0)=false:=by simp[hC]
      have B:=zz (B.o.trans (Aj (fun h=>hC h.1)))
      have T:Ru bad U ls O R N M Z k++J6 bad U (ls.take (m+1)) Z=cur:=by rw[f.o,Ao HG.o,B.o,Option.toList_none,List.append_nil,X]
      clear d hB hC;go_wp2_with fail;exact⟨⟨m+1,A,c,Aa,BG,by rw[T],by rw[T];exact L.o,V.o⟩,Ck⟩
     have sS:decide (x.t=(Z:Int))=false:=by simp[hB]
     have sI:(x.t==(Z:Int))=false:=by simp[hB]
     have T:Ru bad U ls O R N M Z k++J6 bad U (ls.take (m+1)) Z=cur:=by rw[f.o,Aj (fun h=>hB ((PG j q rH).1 h).2),List.append_nil,X]
     clear d hB;go_wp2_with fail;exact⟨⟨m+1,A,c,Aa,BG,by rw[T],by rw[T];exact L.o,V.o⟩,Ck⟩
    have tK:decide (x.p=U)=false:=by simp[d]
    have sH:(x.p==U)=false:=by simp[d]
    have T:Ru bad U ls O R N M Z k++J6 bad U (ls.take (m+1)) Z=cur:=by rw[f.o,Aj (fun h=>d ((PG j q rH).1 h).1),List.append_nil,X]
    clear d;go_wp2_with fail;exact⟨⟨m+1,A,c,Aa,BG,by rw[T],by rw[T];exact L.o,V.o⟩,Ck⟩
   obtain rfl:m=ls.length:=Aa;rw[List.take_length]at X;clear rV;go_wp2_with fail;exact⟨⟨k+1,A,c,Aa,BG,by rw[HE.o,qZ.o,X],by rw[HE.o,qZ.o,X];exact L.o,V.o⟩,Ck⟩
  have tu:((k:Int)!=bad)=true:=by simp[hD]
  have qZ:=zz (show part bad U ls O R N M Z k=Mv (O k) (R k) (N k) (M k) Z from Aj hD)
  obtain⟨bm,AM,cm,hP,rR,rA,sQ,rW,su⟩:=HM.o k rC hD;have tX:=zz hT;have sU:=zz (HF.o k rC hD);have rY:=zz (rR.below V.o.b rR.lt);have sJ:=zz (rW.below V.o.b);have sG:=zz su;have yP:=jX V.o.s rC;rw[hP]at yP;obtain⟨cur,X⟩:=AJ (Ru bad U ls O R N M Z k)
  have qQ:=zz (show cur.length<=3000 by rw[←X];have:=rE.o k hk;omega)
  rw[X]at L ⊢;clear rR rW su hP hT hD
  go_wp2_with(refine Ad rfl 65 _ rfl bm rfl rY.o _ underlying65 rfl Ap ?_)
  have qR:=Wr.Rz (O k) (R k) (N k) AM cm (M k) w.heap.size wr V.o.b.size sQ sJ.o
  unfold Ms.Jg at qR
  refine qR.mono ?_;clear qR;intro e w2 he
  unfold Wr.Zr at he
  rcases he with⟨hw,rfl,hb⟩|⟨hw,AE,cE,rfl,l,hb⟩
  .have V:=zz (V.o.below hb);have L:=zz (L.o.below hb)
   have T:Ru bad U ls O R N M Z (k+1)=cur:=by rw[HE.o,qZ.o,show Mv (O k) (R k) (N k) (M k) Z=[]from Ao hw,List.append_nil,X]
   have ul:decide (Ms.wrong (O k) (R k) (N k) (M k).length=0)=false:=by simp[hw]
   have uj:(Ms.wrong (O k) (R k) (N k) (M k).length==0)=false:=by simp[hw]
   clear hb hw;go_wp2_with fail;exact⟨⟨k+1,A,c,Aa,BG,by rw[T],by rw[T];exact L.o,V.o⟩,Ck⟩
  have V:=zz (V.o.below hb);have L:=zz (L.o.below hb);have r9:=zz (jk hw sG.o);have HZ:=zz (Wr.JF hw)
  have tC:=zz (show Mv (O k) (R k) (N k) (M k) Z=(came (R k) (Wr.enc (O k) (R k) (N k) (M k))).toList from by unfold Mv;rw[Aj (fun h=>h hw),Ao ⟨j,by rw[sU.o];exact fun e=>tX.o e.symm⟩])
  have uh:=zz l;obtain⟨ha,sM⟩:=Mem.BU l;obtain⟨A0,c0,e0,_,rZ,_,_,sw⟩:=Ip l
  obtain⟨rfl,rfl⟩:AE=A0/\cE=c0:=by injection e0 with e1 e2 e3;exact⟨e1,e3⟩
  have sD:=zz sw;clear hb hw l sw e0;go_wp2_with fail;refine(Mk AE cE (Wr.enc (O k) (R k) (N k) (M k)) w2.heap.size w2 Nr ha sM rZ (by rw[Ur];have:=HZ.o;omega) (SX _ _ _ _) sD.o).mono ?_;intro e n r;obtain⟨F,J,G,z,y,I,ec,rfl,g,qX,hb,C⟩:=SV r;have rD:=(C (R k)).symm.trans r9.o
  obtain⟨sK,rX⟩:(ec=0/\J=R k)/\(⟨F,J,G,I⟩:Cw)=⟨O k,R k,N k,M k⟩:=by
   split at rD
   . rename_i h;exact⟨h,by injection rD⟩
   cases rD
  have tV:=zz rX;have rT:=zz qX
  have D:=zz (Bf g (show w.heap.size+2<=w2.heap.size from V.o.i.lt))
  have V:=zz (V.o.below hb);have L:=zz (L.o.below hb);clear r g qX hb C rD sK rX
  go_upto_region 10 with fail
  have Y:Below n.heap.size n (n.alloc (.cells (BL F J G z I.length y) 65)):=DC
  have H:=zz (show Ae (n.alloc (.cells (BL F J G z I.length y) 65)) n.heap.size 65 (BL F J G z I.length y)from Ae.fresh _ _ _)
  have V:=zz (V.o.below Y);have L:=zz (L.o.below Y);have D:=zz (Nd.ownsRow_below D.o Y);clear Y
  generalize(n.alloc (.cells (BL F J G z I.length y) 65))=u at*
  obtain⟨gm,hg⟩:=AJ (n.heap.size);rw[hg]at H ⊢;clear hg;have y0:=H.o.cell 0;have y1:=H.o.cell 1;have y2:=H.o.cell 2;have y3:=H.o.cell 3;simp only[List.getElem?_toArray,List.getElem?_cons_zero,List.getElem?_cons_succ]at y0 y1 y2 y3;have Y:Below u.heap.size u (u.alloc (.cells (BL F J G z I.length y) 65)):=DC;have HN:Hid (Rd (u.alloc (.cells (BL F J G z I.length y) 65)) (u.heap.size+1) 4 (some ⟨u.heap.size,0,none⟩) 1 (Mg ⟨F,J,G,I⟩ z y)):=zz (Y7 u (Mg ⟨F,J,G,I⟩ z y) rfl _);have rF:=zz (V.o.below Y);have rQ:=zz (L.o.below Y);have D:=zz (Nd.ownsRow_below D.o Y);have rO:Hid (w.heap.size+2<=(u.alloc (.cells (BL F J G z I.length y) 65)).heap.size):=zz (by have:=Y.size;have:=V.o.i.lt;omega);obtain⟨xs,qU,rq⟩:=rQ.o;have HW:=zz qU;have rG:=zz rq;clear Y qU rq
  go_wp2_with(at_builtin;refine Aq _ rfl (.tmp 46) (.tmp 48) 58 rfl (base:=w.heap.size+2) Qu rfl HW.o rfl (fun h=>by cases h) HN.o (by simp[Mg,Value.oneCell']) (by have:=qQ.o;unfold maxLen;omega) (by have:=qQ.o;omega) rO.o ?_;intro A4 c4 w6 rP E qV;have rJ:=zz E;have qW:=zz qV;clear E qV rP)
  have qY:Cy w6 (w.heap.size+2) A4 c4 (cur++[⟨F,J,G,I⟩]):=Cy.snoc rG.o HW.o D.o (by show I.length*8<=_;have:=rT.o;omega) rJ.o qW.o
  have rM:Jj w w6 P RI:=rF.o.grown HW.o qW.o
  have T:Ru bad U ls O R N M Z (k+1)=cur++[⟨F,J,G,I⟩]:=by rw[HE.o,qZ.o,tC.o,r9.o,tV.o,X];rfl
  exact⟨⟨k+1,A4,c4,Aa,BG,by rw[T];simp,by rw[T];exact qY,rM⟩,Ck⟩
 obtain rfl:k=4:=Aa;clear rC;rw[HX.o]at L ⊢;go_wp2_with fail
 go_ret
 exact⟨A,c,rfl,(by obtain⟨xs,h1,h2⟩:=L.o;exact⟨xs,Bf h1 Aa,fun i m hm=>by obtain⟨a,c',g1,g2,g3⟩:=h2 i m hm;exact⟨a,c',g1,Bf g2 Aa,g3⟩⟩),V.o.b⟩
end Cl
namespace Cl
open Go.RowKit Mem Rws Nd
def Bl.setNode(s:Bl)(i:Nat)(F:Nat->Value)(A:Option Addr)(V:List Bool)(c:Nat):Bl:={ s with F:=setAt s.F i F,VA:=setAt s.VA i A,VL:=setAt s.VL i V,VC:=setAt s.VC i c }
def Bl.WN(s:Bl)(i:Nat)(F:Nat->Value)(A:Option Addr)(V:List Bool)(c:Nat):(s.setNode i F A V c).Rp i=.slice A V.length c:=by
 unfold Bl.Rp Bl.setNode
 dsimp only;rw[AY,AY,AY]
def Bl.Yk(s:Bl){i k:Nat}(F:Nat->Value)(A:Option Addr)(V:List Bool)(c:Nat)(h:k≠i):(s.setNode i F A V c).Rp k=s.Rp k:=by
 unfold Bl.Rp Bl.setNode
 dsimp only;rw[Bj _ _ h,Bj _ _ h,Bj _ _ h]
def Bl.NY(s:Bl)(i:Nat)(hi:i<4)(F:Nat->Value)(A:Option Addr)(V:List Bool)(c:Nat)(j:Nat):(s.setNode i F A V c).cell j=over (1+74*i) 74 (Ab F (.slice A V.length c)) s.cell j:=by
 by_cases Z:j=0
 .rw[Cx Aa];subst Z;rfl
 by_cases Y:j<297
 .by_cases hq:(j-1)/74=i
  .rw[Jl Aa Aa]
   unfold Bl.cell
   rw[Aj Z,Ao Y,hq,s.WN]
   rw[show(s.setNode i F A V c).F i=F from AY _ _ _,show(j-1)%74=j-(1+74*i)by omega]
  rw[Cx Aa]
  unfold Bl.cell
  rw[Aj Z,Ao Y,Aj Z,Ao Y,s.Yk F A V c hq]
  rw[show(s.setNode i F A V c).F ((j-1)/74)=s.F ((j-1)/74)from Bj _ _ hq]
 rw[Cx Aa]
 unfold Bl.cell
 rw[Aj Z,Aj Y,Aj Z,Aj Y];rfl
def Bl.TN(s:Bl){i:Nat}(hi:i<4){j:Nat}(Z:j<74):s.cell (1+74*i+j)=Ab (s.F i) (s.Rp i) j:=by
 unfold Bl.cell
 rw[Aj Aa,Ao Aa,show(1+74*i+j-1)/74=i by omega,show(1+74*i+j-1)%74=j by omega]
def FQ(w:World)(g:Nat):∀(V:List Value) (o:Nat),w.grownBy (w.setCells g o V) (some g)
 |[],_=>MR w _
 |v::r,o=>by
  rw[World.setCells];have Z:=Gj w g o v;have X:=FQ (w.setCell ⟨g,o,none⟩ v) g r (o+1);exact⟨X.os.trans Z.os,X.tape.trans Z.tape,X.output.trans Z.output,Nat.le_trans Z.size X.size,fun k W Y=>(X.block k (Nat.lt_of_lt_of_le W Z.size) Y).trans (Z.block k W Y)⟩
def Cj.patch{w w':World}{R I:Nat}{s s':Bl}(h:Cj w R I s)(X:w.grownBy w' (some R))(hb:Ae w' R 61 (row 315 s'.cell))(H:s'.bA=s.bA)(L:s'.bX=s.bX)(J:s'.bC=s.bC)(hv:∀i,i<4->(s'.VA i=none->s'.VC i=0)/\(s'.VL i).length<=s'.VC i/\(s'.VL i).length<=140737488351232/\Rd w w.heap.size 1 (s'.VA i) (s'.VL i).length (Au (s'.VL i))/\(0<(s'.VL i).length->∀a,s'.VA i=some a->a.block<w.heap.size/\a.block≠R/\∀j,j<4->s.own j≠some a.block)):
  Cj w' R I s'/\Keep w w' R s s':=by
 have Z:∀i,s'.own i=s.own i:=fun i=>by unfold Bl.own Bl.EU;rw[H,L,J]
 have W:∀b,b<w.heap.size->b≠R->w'.heap[b]?=w.heap[b]?:=fun b hb O=>X.block b hb fun e=>by injection e with e;exact O e
 have U:∀g,some R=some g->∃T t,w.heap[g]?=some (.cells T t (0,0))/\t≠3:=fun g e=>by injection e with e;subst e;exact⟨_,_,h.blk,El⟩
 refine⟨⟨hb,h.low,fun i hi=>?_,fun i hi=>?_,fun i j hi M N=>?_⟩,⟨X.os,X.tape,X.output,X.size,fun i _=>.inl (Z i),fun b hb O _=>W b hb O⟩⟩
 .obtain⟨F,G,E,D,V⟩:=hv i hi;refine⟨F,G,E,Cr D X.size (fun Y a e=>W _ (V Y a e).1 (V Y a e).2.1),fun Y a e=>⟨Nat.lt_of_lt_of_le (V Y a e).1 X.size,(V Y a e).2.1,fun j M=>by rw[Z];exact(V Y a e).2.2 j M⟩⟩
 .rw[H,L,J];refine FI (h.box i hi) X ?_ U;have:=h.own_ne hi
  unfold Bl.own Bl.EU at this
  exact .inr this
 rw[Z,Z];exact h.apart i j hi M N
def Cj.setNode{w:World}{R Z:Nat}{s:Bl}(h:Cj w R Z s){i:Nat}(hi:i<4)(F:Nat->Value)(A:Option Addr)(V:List Bool)(c:Nat)(hv:(A=none->c=0)/\V.length<=c/\V.length<=140737488351232/\Rd w w.heap.size 1 A V.length (Au V)/\(0<V.length->∀a,A=some a->a.block<w.heap.size/\a.block≠R/\∀j,j<4->s.own j≠some a.block)):
  Cj (w.setCells R (1+74*i) (row 74 (Ab F (.slice A V.length c))).toList) R Z (s.setNode i F A V c)/\Keep w (w.setCells R (1+74*i) (row 74 (Ab F (.slice A V.length c))).toList) R s (s.setNode i F A V c):=by
 refine h.patch (FQ _ _ _ _) ?_ rfl rfl rfl fun k Y=>?_
 .have:=DI h.blk (1+74*i) 74 (Ab F (.slice A V.length c))
  rw[show row 315 (over (1+74*i) 74 (Ab F (.slice A V.length c)) s.cell)=row 315 (s.setNode i F A V c).cell from AA fun j X=>(s.NY i hi F A V c j).symm]at this
  exact this
 show(setAt s.VA i A k=none->setAt s.VC i c k=0)/\(setAt s.VL i V k).length<=setAt s.VC i c k/\(setAt s.VL i V k).length<=140737488351232/\Rd w w.heap.size 1 (setAt s.VA i A k) (setAt s.VL i V k).length (Au (setAt s.VL i V k))/\(0<(setAt s.VL i V k).length->∀a,setAt s.VA i A k=some a->a.block<w.heap.size/\a.block≠R/\∀j,j<4->s.own j≠some a.block)
 by_cases e:k=i
 .subst e;rw[AY,AY,AY];exact hv
 rw[Bj _ _ e,Bj _ _ e,Bj _ _ e];exact h.ver k Y
def Bl.bare(s:Bl):Bl:=s.boxes (fun _=>none) (fun _=>[]) (fun _=>0)
def Bl.bM(s:Bl)(j:Nat)(V:j<315):s.bare.cell j=over 311 4 (fun _=>.slice none 0 0) s.cell j:=by
 unfold over
 by_cases h:311<=j
 .rw[Ao ⟨h,Aa⟩]
  unfold Bl.cell
  rw[Aj Aa,Aj Aa,Aj Aa,Aj Aa,Aj Aa];rfl
 rw[Aj Aa]
 unfold Bl.cell
 by_cases Z:j=0
 . rw[Ao Z,Ao Z];rfl
 rw[Aj Z,Aj Z]
 by_cases X:j<297
 . rw[Ao X,Ao X];rfl
 rw[Aj X,Aj X]
 by_cases Y:j<309
 . rw[Ao Y,Ao Y];rfl
 rw[Aj Y,Aj Y]
 by_cases W:j=309
 . rw[Ao W,Ao W];rfl
 rw[Aj W,Aj W,Ao Aa,Ao Aa];rfl
def Cj.bare{w:World}{R U:Nat}{s:Bl}(h:Cj w R U s):Cj (w.setCells R 311 (row 4 fun _=>.slice none 0 0).toList) R U s.bare/\w.grownBy (w.setCells R 311 (row 4 fun _=>.slice none 0 0).toList) (some R):=by
 have X:=FQ w R (row 4 fun _=>.slice none 0 0).toList 311
 have Y:∀b,b<w.heap.size->b≠R->(w.setCells R 311 (row 4 fun _=>.slice none 0 0).toList).heap[b]?=w.heap[b]?:=fun b hb O=>X.block b hb fun e=>by injection e with e;exact O e
 refine⟨⟨?_,h.low,fun i hi=>?_,fun i hi=>Ms.Cy.nil _ _,fun i j hi V N=>.inl rfl⟩,X⟩
 .have:=DI h.blk 311 4 (fun _=>.slice none 0 0)
  rw[show row 315 (over 311 4 (fun _=>.slice none 0 0) s.cell)=row 315 s.bare.cell from AA fun j V=>(s.bM j V).symm]at this
  exact this
 obtain⟨L,M,J,I,W⟩:=h.ver i hi;exact⟨L,M,J,Cr I X.size (fun Z a e=>Y _ (W Z a e).1 (W Z a e).2.1),fun Z a e=>⟨Nat.lt_of_lt_of_le (W Z a e).1 X.size,(W Z a e).2.1,fun j V T=>by cases T⟩⟩
def Cj.aside{w w':World}{R O:Nat}{s:Bl}(h:Cj w R O s){g:Nat}{t:TypeId}{cs:Array Value}(hb:Ae w g t cs)(W:w.grownBy w' (some g))(U:g≠R)(M:∀i,i<4->s.own i≠some g)(N:t≠3)(L:∀i,i<4->0<(s.VL i).length->∀a,s.VA i=some a->a.block≠g):Cj w' R O s:=by
 have Y:∀b,b<w.heap.size->b≠g->w'.heap[b]?=w.heap[b]?:=fun b hb U=>W.block b hb fun e=>by injection e with e;exact U e
 have X:∀x,some g=some x->∃V t',w.heap[x]?=some (.cells V t' (0,0))/\t'≠3:=fun x e=>by injection e with e;subst e;exact⟨_,_,hb,N⟩
 refine⟨(Y R h.blk.lt (fun e=>U e.symm)).trans h.blk,h.low,fun i hi=>?_,fun i hi=>?_,h.apart⟩
 .obtain⟨I,J,H,G,T⟩:=h.ver i hi;exact⟨I,J,H,Cr G W.size (fun Z a e=>Y _ (T Z a e).1 (L i hi Z a e)),fun Z a e=>⟨Nat.lt_of_lt_of_le (T Z a e).1 W.size,(T Z a e).2⟩⟩
 refine FI (h.box i hi) W ?_ X;have:=M i hi
 unfold Bl.own Bl.EU at this
 exact .inr this
def CK(w:World)(g:Nat)(R:Array Value):w.grownBy (w.setRow g R) (some g):=
 have hb:=below_setRow (Below.refl 0 w) (Nat.zero_le g) R
 ⟨hb.os,hb.tape,hb.output,hb.size,fun k _ Z=>setRow_other w g k R (fun e=>Z (by rw[e]))⟩
def Keep.aside{Y w w':World}{R:Nat}{s s':Bl}(k:Keep Y w R s s'){g:Nat}(Z:w.grownBy w' (some g))(V:Y.heap.size<=g):Keep Y w' R s s':=
 ⟨Z.os.trans k.os,Z.tape.trans k.tape,Z.output.trans k.output,Nat.le_trans k.size Z.size,k.own,fun b hb W X=>(Z.block b (Nat.lt_of_lt_of_le hb k.size) (fun e=>by injection e with e;omega)).trans (k.block b hb W X)⟩
def Zd{w W:World}{R:Nat}{cs:Array Value}(hb:Ae w R 61 cs)(L:w.heap.size<=W.heap.size)(M:∀b,b<w.heap.size->b≠R->W.heap[b]?=w.heap[b]?){base:Nat}{e:TypeId}{size n:Nat}{v:Value}{xs:List Value}(h:w.ownsRow base e size v n xs)(he:e≠61):W.ownsRow base e size v n xs:=by
 obtain⟨U,h|⟨b,V,Y,O,X,Z,T⟩⟩:=h
 . exact⟨U,.inl h⟩
 refine⟨U,.inr ⟨b,V,Y,O,X,(M b (Array.getElem?_eq_some_iff.1 Z).1 fun e=>?_).trans Z,T⟩⟩;subst e
 unfold Ae at hb
 rw[hb]at Z
 injection Z with Z
 injection Z with _ N _
 exact he N.symm
def jU{w W:World}{R:Nat}{cs:Array Value}(hb:Ae w R 61 cs)(Z:w.heap.size<=W.heap.size)(Y:∀b,b<w.heap.size->b≠R->W.heap[b]?=w.heap[b]?){base:Nat}{A:Option Addr}{c:Nat}{ms:List Cw}(h:Ms.Cy w base A c ms):Ms.Cy W base A c ms:=by
 obtain⟨N,T,V⟩:=h;refine⟨N,Zd hb Z Y T El,fun i m X=>?_⟩;obtain⟨a,M,O,U,L⟩:=V i m X;exact⟨a,M,O,Zd hb Z Y U El,L⟩
def FV{w:World}{B size n:Nat}{A:Option Addr}{Y:List Value}(h:Rd w B size A n Y)(X:0<n){a:Addr}(e:A=some a):a.block<B:=by
 obtain⟨b,o,Z,hb,_⟩:=h.2 X;rw[e]at Z
 injection Z with Z
 subst Z;exact hb
end Cl
namespace Mem
open Go.RowKit Rws
def Rd.YU{w w':World}{B size n lo:Nat}{A:Option Addr}{xs:List Value}(h:Rd w B size A n xs)(Z:∀a,A=some a->lo<=a.block)(Y:∀b o,lo<=b-> w'.cell? ⟨b,o,none⟩= w.cell? ⟨b,o,none⟩):Rd w' B size A n xs:=
 ⟨h.1,fun V=>by
  obtain⟨b,o,e,hb,X⟩:=h.2 V
  exact⟨b,o,e,hb,fun j u W=>(Y b (o+j) (Z _ e)).trans (X j u W)⟩⟩
def Rd.Gr{w:World}{B size n lo:Nat}{A:Option Addr}{xs:List Value}(h:Rd w B size A n xs)(Z:∀a,A=some a->lo<=a.block){g:Nat}(Y:g<lo)(R:Array Value):Rd (w.setRow g R) B size A n xs:=
 h.YU Z fun b o hb=>cell_setRow_other w g R ⟨b,o,none⟩ (by show b≠g;omega)
def Rd.Xd{w:World}{B size n lo:Nat}{A:Option Addr}{xs:List Value}(h:Rd w B size A n xs)(Z:∀a,A=some a->lo<=a.block){p:Addr}(Y:p.block<lo)(u:Value):Rd (w.setCell p u) B size A n xs:=
 h.YU Z fun b o hb=>World.cell?_setCell_other _ p ⟨b,o,none⟩ _ (by rintro rfl;have:b<lo:=Y;omega)
def Rd.Iq{B size n lo:Nat}{A:Option Addr}{X:List Value}(Z:∀a,A=some a->lo<=a.block){g:Nat}(Y:g<lo):∀(W:List Value) (o:Nat) {w:World},Rd w B size A n X->Rd (w.setCells g o W) B size A n X
 |[],_,_,h=>h
 |v::r,o,w,h=>by
  rw[World.setCells];exact Rd.Iq Z Y r (o+1) (h.Xd Z (p:=⟨g,o,none⟩) Y v)
end Mem
namespace Nd
open Go.RowKit Mem Rws
def BK{P:Program}{Z:Oper}{a:Act}{w:World}(ty:TypeId)(x:Operand)(Y:Z.op=.load ty x)(b off m:Nat)(hx:a.eval x=.pointer (some ⟨b,off,none⟩))(g:Nat->Value)(d:TypeDesc)(hc:w.rangeAt b off ((List.range m).map g))(hu:P.underlying ty=some d)(hd:d.isRow=true)(hi:(P.info? ty).map (·.size)=some m):(execOp a.eval Z).run P w=.ok (.value (.agg (row m g))) w:=by
 unfold execOp
 simp only[Y,hx,Instr.loadAt,Instr.sureAddr,Sem.run_bind,Sem.run_pure,Result.andThen_ok,run_loadVar_mid w b off ty _ d hc hu hd (by rw[hi];simp)];rfl
end Nd
namespace Rws
open Go.RowKit Mem
section
variable {P : Program} {ops : Array Oper} {rest : List Oper} {o : Oper} {a : Act} {w : World} {Q : Exit -> Act -> World -> Prop}
def Mx(W:o.guard=none)(t e:TypeId)(x:Operand)(V:o.op=.buildSlice t 1 #[(0,x)])(v:Value)(X:a.eval x=v)(n:Nat)(Z:P.underlying t=some (.slice e))(hs:(P.info? e).map (·.size)=some n)(hz:((P.info? e).bind (·.zero)).map (·.cells.size)=some n)(hpos:0<n)(hsm:n<=16777216)(hv:v.cells.size=n)(h:wpList P ops Q rest (a.put o.dst (.slice (some ⟨w.heap.size,0,none⟩) 1 1)) (w.alloc (.cells v.cells e))):wpList P ops Q (o::rest) a w:=by
 cases hie: P.info? e with
 |none=>simp[hie]at hs
 |some ie=>
  simp only[hie,Option.map_some,Option.some.injEq,Option.bind_some]at hs hz
  cases hzz:ie.zero with
  |none=>simp[hzz]at hz
  |some z=>
   refine wpList_buildSlice W t e 1 #[(0,x)] V v.cells ie z Z hie hzz (by rw[hs];omega) (by rw[hs];omega) ?_ h;have Y:=Great.fill_whole (s:=n) hpos [v] ((Array.range (1*ie.size)).map (z.cells[· %z.cells.size]!)) (fun u Z=>by simp at Z;subst Z;exact hv) (by simp[hs]);simp only[List.flatMap_cons,List.flatMap_nil,List.append_nil,Array.toArray_toList]at Y;rw[hs]at Y ⊢;simp only[List.map_toArray,List.map_cons,List.map_nil,X];exact Y
def Qb(Z:Region.wanted o (yielded ops a.tmps)=true)(ty:TypeId)(x:Operand)(Y:o.op=.load ty x)(b off m:Nat)(hx:a.eval x=.pointer (some ⟨b,off,none⟩))(g:Nat->Value)(hb:w.rangeAt b off ((List.range m).map g))(d:TypeDesc)(hu:P.underlying ty=some d)(hd:d.isRow=true)(hi:(P.info? ty).map (·.size)=some m)(h:wpList P ops Q rest (a.put o.dst (.agg (row m g))) w):wpList P ops Q (o::rest) a w:=
 Af Z fun _ hK=>wp_load_mid ty x Y b off hx _ d hb hu hd (by rw[hi];simp) (hK _ _ h)
end
def MS{n i:Nat}{cs new:List Value}(Y:cs.length=i*n)(j:Nat)(Z:j<i):((cs++new).drop (j*n)).take n=(cs.drop (j*n)).take n:=by
 have X:j*n+n<=i*n:=by
  have:=Nat.mul_le_mul_right n Z;rw[Nat.succ_mul]at this;exact this
 rw[List.drop_append_of_le_length Aa,List.take_append_of_le_length (by rw[List.length_drop];omega)]
def MU{n i:Nat}{cs new:List Value}(Z:cs.length=i*n)(Y:new.length=n):((cs++new).drop (i*n)).take n=new:=by
 rw[←Z,List.drop_left];exact List.take_of_length_le (Nat.le_of_eq Y)
end Rws
namespace Rg
def Gv{P:Program}{o:Oper}{a:Act}{w:World}{K:Act->World->Prop}{Q:Exit->Act->World->Prop}(t:TypeId)(z:Array Value)(Y:o.op=.alloc t)(Z:(Instr.alloc t true (.tuple #[])).run P w=.ok (.pointer (some ⟨w.heap.size,0,none⟩)) (w.alloc (.cells z t)))(h:K (a.put o.dst (.pointer (some ⟨w.heap.size,0,none⟩))) (w.alloc (.cells z t))):Oper.wp P o a w K Q:=by
 unfold Oper.wp execOp
 simp only[Y,Sem.run_bind,Z,Result.andThen_ok,Sem.run_pure];exact h
end Rg
end Go.Proofs.YtjobajeggllmiaaGreat
