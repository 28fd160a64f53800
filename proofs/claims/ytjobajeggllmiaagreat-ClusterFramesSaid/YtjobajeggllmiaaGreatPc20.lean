import Derived.Test.YtjobajeggllmiaaGreatPc0
import Derived.Lib.SlKeysI
import Derived.Test.YtjobajeggllmiaaGreatPc19
set_option linter.all false
set_option maxHeartbeats 100000000
set_option maxRecDepth 100000
namespace Go.Proofs.YtjobajeggllmiaaGreat
open _root_.Go.Proofs.Tryz
namespace BigW
open Go.RowKit Mem BigLaw
structure D9(w w':World)(z m:Nat):Prop where
 os:w'.os=w.os
 tape:w'.tape=w.tape
 output:w'.output=w.output
 size:w.heap.size<=w'.heap.size
 block:∀k,k<w.heap.size->k≠z->k≠m->w'.heap[k]?=w.heap[k]?
def D9.jB{w w':World}{z m:Nat}(h:w.grownBy w' (some z)):D9 w w' z m:=⟨h.os,h.tape,h.output,h.size,fun k Z Y _=>h.block k Z (fun e=>Y (by injection e))⟩
def D9.gH{w w':World}{z m:Nat}(h:w.grownBy w' (some m)):D9 w w' z m:=⟨h.os,h.tape,h.output,h.size,fun k Z _ Y=>h.block k Z (fun e=>Y (by injection e))⟩
def D9.of_below{w w':World}{z m:Nat}(h:Below w.heap.size w w'):D9 w w' z m:=⟨h.os,h.tape,h.output,h.size,fun k Z _ _=>h.block k Z⟩
def D9.trans{a b c:World}{z m:Nat}(h:D9 a b z m)(k:D9 b c z m):D9 a c z m:=
 ⟨k.os.trans h.os,k.tape.trans h.tape,k.output.trans h.output,Nat.le_trans h.size k.size,fun i hi Y Z=>(k.block i (by have:=h.size;omega) Y Z).trans (h.block i hi Y Z)⟩
def D9.fst{w w':World}{z m:Nat}(h:D9 w w' z m)(X:w.heap.size<=m):w.grownBy w' (some z):=⟨h.os,h.tape,h.output,h.size,fun k Z Y=>h.block k Z (fun e=>Y (by rw[e])) Aa⟩
def Cm.dY{w w':World}{p z m:Nat}{X:Int}(h:Cm w p X)(I:Dz w z)(O:Dz w m)(W:D9 w w' z m)(J:p≠z)(L:p≠m):Cm w' p X:=by
 obtain⟨A,c,l,hb,Z,N⟩:=h;refine⟨A,c,l,(W.block p hb.lt J L).trans hb,⟨Z.len,Z.cap,Z.none_,⟨Z.rd.1,fun R=>?_⟩,Z.small⟩,N⟩;obtain⟨b,o,e,V,U⟩:=Z.rd.2 R;refine⟨b,o,e,by have:=W.size;omega,fun j u M=>?_⟩;rw[←U j u M];have T:=U 0 _ (Od R);refine World.cell?_of_block (W.block b V ?_ ?_)
 . intro Y;subst Y;exact I.cell _ _ T
 intro Y;subst Y;exact O.cell _ _ T
def XD(p M:Nat)(X:Int)(w:World)(F:Dz w p)(U:Cm w M X)(I:X.natAbs<pw 100):
  Calls prog 152 #[.pointer (some ⟨p,0,none⟩),.pointer (some ⟨M,0,none⟩)] w fun e w'=>e=.returned (.pointer (some ⟨p,0,none⟩))/\Cm w' p X/\w.grownBy w' (some p):=by
 obtain⟨A,c,l,D,u,H,J,N⟩:=U.parts;have v:=zz (Jw J N I);have O:=zz H;have W:=zz J;have V:=zz N;have G:=zz F;have R:=zz U.lt;clear H J N F U I
 go_in
 go_wp2_with fail
 go_region_law (first
  |(go_simp;go_at_call 172;refine(NE A c l _ _ Nr O.o.drew v.o).mono ?_;rintro e y ⟨x,C,rfl,L,Z⟩;have B:=(BF Z M 0 R.o).trans D)
  |(go_simp;go_at_call 110;refine(FZ p _ x l C _ X (G.o.drew.below Z G.o.lt) L W.o V.o (Ij W.o V.o _ (Lr X))).mono ?_;rintro e t ⟨rfl,Y,T⟩))
 all_goals
  have z:=zz Y;clear Y;go_wp2_with fail
  go_ret
  exact⟨rfl,z.o,(show w.grownBy y (some p)from⟨Z.os,Z.tape,Z.output,Z.size,fun g E _=>Z.block g E⟩).trans T⟩
def oh(X Y:Int)(U:0<Y):Sg (decide (X<0)!=decide (Y<0)) (X.tdiv Y):=by
 have e:decide (Y<0)=false:=Ec;rw[e];refine Sz ?_
 rcases Int.lt_or_le X 0 with h|h
 .have V:(-X).tdiv Y= -(X.tdiv Y):=Int.neg_tdiv _ _;have W:0<=(-X).tdiv Y:=Int.tdiv_nonneg Aa Aa
  by_cases Z:X.tdiv Y=0
  . exact .inl Z
  exact .inr (.inl ⟨by simp[h],Aa⟩)
 have W:0<=X.tdiv Y:=Int.tdiv_nonneg Aa Aa
 by_cases Z:X.tdiv Y=0
 . exact .inl Z
 exact .inr (.inr ⟨Ec,Aa⟩)
def o9(X Y:Int)(U:0<Y):Sg (decide (X<0)) (X.tmod Y):=by
 refine Sz ?_
 rcases Int.lt_or_le X 0 with h|h
 .have W:(-X).tmod Y= -(X.tmod Y):=Int.neg_tmod _ _;have V:0<=(-X).tmod Y:=Int.tmod_nonneg _ Aa
  by_cases Z:X.tmod Y=0
  . exact .inl Z
  exact .inr (.inl ⟨by simp[h],Aa⟩)
 have W:0<=X.tmod Y:=Int.tmod_nonneg _ Aa
 by_cases Z:X.tmod Y=0
 . exact .inl Z
 exact .inr (.inr ⟨Ec,Aa⟩)
def RU(z d b m:Nat)(X Y:Int)(w:World)(hz:Dz w z)(hm:Dz w m)(C:z≠m)(hx:Cm w d X)(hy:Cm w b Y)(bx:X.natAbs<pw 100)(U:0<Y):
  Calls prog 153 #[.pointer (some ⟨z,0,none⟩),.pointer (some ⟨d,0,none⟩),.pointer (some ⟨b,0,none⟩),.pointer (some ⟨m,0,none⟩)] w fun e w'=>e=.returned (.tuple #[.pointer (some ⟨z,0,none⟩),.pointer (some ⟨m,0,none⟩)])/\Cm w' z (X.tdiv Y)/\Cm w' m (X.tmod Y)/\D9 w w' z m:=by
 obtain⟨A,c,l,x0,x1,xw,n,t⟩:=hx.parts;obtain⟨A',c',D,y0,y1,yw,yt,r⟩:=hy.parts
 have HL:=zz (show l.length<=1000 from Nat.le_trans (length_le n (k:=100) (by rw[t];exact bx)) Aa)
 have qV:=zz xw;have q:=zz n;have j:=zz yw;have qU:=zz yt
 have qW:=zz (show 0<val D by omega)
 have s:=zz hz;have HM:=zz hm;have qY:=hx.lt;have qZ:=hy.lt
 have HQ:=zz (show val l/val D=(X.tdiv Y).natAbs by rw[Int.natAbs_tdiv,t,r];rfl)
 have HR:=zz (show val l%val D=(X.tmod Y).natAbs by rw[Int.natAbs_tmod,t,r])
 have W:=zz (oh X Y U);have T:=zz (o9 X Y U);generalize X.tdiv Y=Q at HQ W ⊢;generalize X.tmod Y=R at HR T ⊢;generalize decide (X<0)=xn at x0 W T;generalize decide (Y<0)=yn at y0 W;clear xw n t yw yt r hz hm hx hy bx U
 go_in
 go_wp2_with fail
 go_quiet (fail)
 go_wp2_with fail;have Z:Below w.heap.size w (w.drewN nq).drew:=(below_drewN (Below.refl _ _) nq).drew;have f:=BF Z
 go_region_held3 (fun w'=> w'.cell? ⟨d,1,none⟩=some (.slice A l.length c)/\ w'.cell? ⟨b,1,none⟩=some (.slice A' D.length c')) (go_keep) (first
  |(go_at_call 173;refine(kG A A' c c' l D _ ((qV.o.below Z).more Z.size) ((j.o.below Z).more Z.size) q.o qU.o qW.o HL.o).mono ?_;rintro e w1 ⟨A1,c1,l1,A2,c2,l2,rfl,E,H,x,N,M,v,p⟩;have Z:=Bh Z Nr p;have f:=BF Z))
 have qQ:=zz E;have L:=zz H;have u:=zz (x.trans HQ.o);have i:=zz N;have B:=zz M;have F:=zz (v.trans HR.o);clear E H x N M v;go_wp2_with fail;refine(FZ z _ A1 l1 c1 _ Q (s.o.below Z s.o.lt) qQ.o L.o u.o (Ij L.o u.o _ W.o)).mono ?_;rintro e w2 ⟨rfl,G,V⟩;have qX:=zz G;have I:=zz ((HM.o.below Z HM.o.lt).grown V (fun e=>C (by injection e with e;exact e.symm)));have O:=zz ((i.o.grown Nr (s.o.below Z s.o.lt) V).more V.size);clear G;go_wp2_with fail;refine(FZ m _ A2 l2 c2 _ R I.o O.o B.o F.o (Ij B.o F.o _ T.o)).mono ?_;rintro e w3 ⟨rfl,J,y⟩;have g:=zz J;have qR:=zz (qX.o.grown I.o y C);clear J;go_wp2_with fail
 go_ret2
 exact⟨rfl,qR.o,g.o,(D9.of_below Z).trans ((D9.jB V).trans (D9.gH y))⟩
def oH(X Y:Int)(W:0<Y):(X.tmod Y<0->X/Y=X.tdiv Y-1/\X%Y=X.tmod Y+Y)/\(¬X.tmod Y<0->X/Y=X.tdiv Y/\X%Y=X.tmod Y):=by
 have T:Y*X.tdiv Y+X.tmod Y=X:=Int.mul_tdiv_add_tmod X Y;have U:Y*(X/Y)+X%Y=X:=Int.mul_ediv_add_emod X Y
 have N:=Int.emod_nonneg X (show Y≠0 by omega)
 have M:=Int.emod_lt_of_pos X W;have L:X.tmod Y<Y:=Int.tmod_lt_of_pos X W
 have J: -Y<X.tmod Y:=by
  have H:(-X).tmod Y= -(X.tmod Y):=Int.neg_tmod _ _;have I:(-X).tmod Y<Y:=Int.tmod_lt_of_pos _ W;omega
 generalize X.tdiv Y=q at T ⊢;generalize X.tmod Y=r at T L J ⊢;generalize X/Y=Z at U ⊢;generalize X%Y=O at U N M ⊢
 have V:Y*(q-Z)=O-r:=by rw[Int.mul_sub];omega
 constructor
 .intro R
  have e:q-Z=1:=by
   rcases Int.lt_trichotomy (q-Z) 1 with h|h|h
   .have:Y*(q-Z)<=Y*0:=Int.mul_le_mul_of_nonneg_left Aa Aa;omega
   . exact h
   have:Y*2<=Y*(q-Z):=Int.mul_le_mul_of_nonneg_left Aa Aa;omega
  rw[e]at V;omega
 intro R
 have e:q-Z=0:=by
  rcases Int.lt_trichotomy (q-Z) 0 with h|h|h
  .have:Y*(q-Z)<=Y*(-1):=Int.mul_le_mul_of_nonneg_left Aa Aa;omega
  . exact h
  have:Y*1<=Y*(q-Z):=Int.mul_le_mul_of_nonneg_left Aa Aa;omega
 rw[e]at V;omega
end BigW
namespace BigW
open Go.RowKit Mem BigLaw
def JY{X:Int}(h:X.natAbs<340282366920938463463374607431768211456):X.natAbs<pw 100:=by
 have Z:pw 4<=pw 100:=KH Aa;have Y:pw 4=340282366920938463463374607431768211456:=rfl;omega
def Cm.qc{w:World}{p:Nat}{X:Int}(h:Cm w p X): w.cell? ⟨p,0,none⟩=some (.bool (decide (X<0))):=by
 obtain⟨A,c,l,Z,_⟩:=h.parts;exact Z
def Dz.dY{w w':World}{p z m:Nat}(h:Dz w p)(Z:D9 w w' z m)(X:p≠z)(Y:p≠m):Dz w' p:=by
 obtain⟨s,A,n,c,hb⟩:=h;exact⟨s,A,n,c,(Z.block p hb.lt X Y).trans hb⟩
def Rw(z px s m:Nat)(X Y:Int)(w:World)(b:Dz w z)(p:Dz w m)(I:z≠m)(hx:Cm w px X)(hy:Cm w s Y)(bx:X.natAbs<pw 100)(j:0<Y)(bY:Y.natAbs<pw 100):
  Calls prog 135 #[.pointer (some ⟨z,0,none⟩),.pointer (some ⟨px,0,none⟩),.pointer (some ⟨s,0,none⟩),.pointer (some ⟨m,0,none⟩)] w fun e w'=>e=.returned (.tuple #[.pointer (some ⟨z,0,none⟩),.pointer (some ⟨m,0,none⟩)])/\Cm w' z (X/Y)/\Cm w' m (X%Y)/\D9 w w' z m:=by
 have t:=zz b;have r:=zz p;have HX:=zz hx;have HY:=zz hy;have BX:=zz bx;have BY:=zz bY;have HP:=zz j;have qZ:=b.lt;have qW:=p.lt;have HI:=zz (EN w);have HE:=zz (oH X Y j);clear b p hx hy bx bY j
 go_in
 go_wp2_with fail;have M:Below w.heap.size w (w.alloc (.cells aK 159)):=DC;refine(XD w.heap.size s Y _ HI.o (HY.o.below M) BY.o).mono ?_;rintro e w1 ⟨rfl,D,C⟩;have qU:=zz D;have y:Below w.heap.size w w1:=below_grown M Nr C (fun g e=>by injection e with e;omega);have W:=zz y;clear D C M;go_wp2_with fail;refine(RU z px s m X Y w1 (t.o.below W.o t.o.lt) (r.o.below W.o r.o.lt) I (HX.o.below W.o) (HY.o.below W.o) BX.o HP.o).mono ?_;rintro e w2 ⟨rfl,A,G,L⟩;have J:=zz ((D9.of_below (z:=z) (m:=m) W.o).trans L);have x:=zz (qU.o.dY (t.o.below W.o t.o.lt) (r.o.below W.o r.o.lt) L Aa Aa);have T:=zz A;have O:=zz G;have k:=G.qc;have c2:=x.o.qc;rw[decide_eq_false (by have:=HP.o;omega)]at c2;clear A G L y
 by_cases v:X.tmod Y<0
 .have Z:=zz (HE.o.1 v)
  have bq:(X.tdiv Y).natAbs<pw 100:=by
   rw[Int.natAbs_tdiv];exact Nat.lt_of_le_of_lt (Nat.div_le_self X.natAbs Y.natAbs) BX.o
  have br:(X.tmod Y).natAbs<pw 100:=by
   rw[Int.natAbs_tmod];exact Nat.lt_of_le_of_lt (Nat.mod_le X.natAbs Y.natAbs) BX.o
  have BQ:=zz bq;have BR:=zz br;rw[decide_eq_true v]at k;clear v bq br;generalize X.tdiv Y=Q at T Z BQ;generalize X.tmod Y=R at O Z BR;go_wp2_with fail;refine(MQ 1 w2 Aa).mono ?_;rintro e w3 ⟨p3,rfl,qX,B,N⟩;have qY:=J.o.size;have V:=zz (T.o.below N);have n:=zz (O.o.below N);have l:=zz (x.o.below N);have qR:=zz B;have q:=zz N;clear B k c2;go_wp2_with fail;refine(Qx z z p3 Q 1 w3 V.o.isInt V.o qR.o BQ.o (JY Aa)).mono ?_;rintro e w4 ⟨rfl,u,U⟩;have d:=zz u;have F:=zz (n.o.grown V.o.isInt U (fun e=>I e.symm));have f:=zz (l.o.grown V.o.isInt U Aa);have qQ:=zz U;clear u U;go_wp2_with fail;refine(Hu m m w.heap.size R Y w4 F.o.isInt F.o f.o BR.o BY.o).mono ?_;rintro e w5 ⟨rfl,E,H⟩;have i:=zz E;have c:=zz (d.o.grown F.o.isInt H I);have qV:=zz H;clear E H;go_wp2_with fail
  go_ret2
  refine⟨rfl,?_,?_,(J.o.trans (D9.of_below q.o)).trans ((D9.jB qQ.o).trans (D9.gH qV.o))⟩
  . rw[Z.o.1];exact c.o
  rw[Z.o.2];exact i.o
 have Z:=zz (HE.o.2 Aa);rw[decide_eq_false v]at k;clear v;generalize X.tdiv Y=Q at T Z;generalize X.tmod Y=R at O Z;go_wp2_with fail
 go_ret2
 refine⟨rfl,?_,?_,J.o⟩
 . rw[Z.o.1];exact T.o
 rw[Z.o.2];exact O.o
def XA(z W V:Nat)(X Y:Int)(w:World)(Z:Dz w z)(O:Cm w W X)(hy:Cm w V Y)(R:X.natAbs<pw 100)(N:0<Y)(U:Y.natAbs<pw 100):
  Calls prog 112 #[.pointer (some ⟨z,0,none⟩),.pointer (some ⟨W,0,none⟩),.pointer (some ⟨V,0,none⟩)] w fun e w'=>e=.returned (.pointer (some ⟨z,0,none⟩))/\Cm w' z (X/Y)/\w.grownBy w' (some z):=by
 have H:=Z.lt;have G:=zz (Z.below ((Below.refl _ _).alloc Nr (.cells aK 159)) Z.lt);have I:=zz (O.alloc (.cells aK 159));have D:=zz (hy.alloc (.cells aK 159));have B:=zz R;have L:=zz U;have E:=zz N;have M:=zz (EN w);clear Z O hy R U N
 go_in
 go_wp2_with fail;refine(Rw z W V w.heap.size X Y _ G.o M.o Aa I.o D.o B.o E.o L.o).mono ?_;rintro e A ⟨rfl,hq,J,T⟩;have C:=zz hq;have F:=zz T;clear hq J T;go_wp2_with fail
 go_ret
 exact⟨rfl,C.o,((D9.of_below (DC)).trans F.o).fst Nr⟩
def M0(Z W:Nat)(X Y:Int)(w:World)(R:Cm w Z X)(hy:Cm w W Y)(T:X.natAbs<pw 100)(O:0<Y)(V:Y.natAbs<pw 100):
  Calls prog 86 #[.pointer (some ⟨Z,0,none⟩),.pointer (some ⟨W,0,none⟩)] w fun e w'=>Uv w w' (X/Y) e:=by
 have L:=zz (R.alloc (.cells aK 159));have H:=zz (hy.alloc (.cells aK 159));have F:=zz T;have M:=zz V;have I:=zz O;have N:=zz (EN w);clear R hy T V O
 go_in
 go_wp2_with fail;refine(XA w.heap.size Z W X Y _ N.o L.o H.o F.o I.o M.o).mono ?_;rintro e E ⟨rfl,hq,U⟩;have G:=zz hq;have J:=zz U;clear hq U;go_wp2_with fail
 go_ret
 exact⟨w.heap.size,rfl,Nat.le_refl _,G.o,below_grown (DC) Nr J.o (fun g e=>by injection e with e;omega)⟩
end BigW
namespace Md
open Go.RowKit Mem Go.Proofs.YtjobajeggllmiaaGreat.Ms BigW BigLaw
def iG(a b:Int)(w:World)(Z: -9223372036854775808<=a/\a<=9223372036854775807)(hb: -9223372036854775808<=b/\b<=9223372036854775807):
  Calls prog 102 #[.int .i64 a,.int .i64 b] w fun e w'=>e=.returned (.int .i64 ((a+b)/2))/\w=w':=by
 have H:=zz (mH a b Z hb);have U:=(Pg a b Z hb).1;have O:=(Pg a b Z hb).2.1;have N:=(Pg a b Z hb).2.2;obtain⟨p,W⟩:=AJ (bits .and .i64 a b);obtain⟨q,hq⟩:=AJ (bits .xor .i64 a b);rw[W,hq]at H;rw[W,hq]at U;rw[W]at O;rw[hq]at N;obtain⟨s,V⟩:=AJ ((a+b)/2);rw[V]at H ⊢;have X: -9223372036854775808<=s:=Aa;have Y:s<=9223372036854775807:=Aa
 have R: -9223372036854775808<=p+q/2:=by rw[H.o];exact X
 have T:p+q/2<=9223372036854775807:=by rw[H.o];exact Y
 clear U V Z hb
 go_in
 go_wp2_with fail
 go_ret
 exact⟨Ik H.o,rfl⟩
def aD{p:Int->Bool}{Z:List Int}{i:Nat}(h:i<Z.length)(Y:(Z.take i).find? p=none)(X:p Z[i]=false):(Z.take (i+1)).find? p=none:=by
 rw[List.take_add_one,List.getElem?_eq_getElem h,List.find?_append,Y]
 simp[X]
def jZ{p:Int->Bool}{Z:List Int}{i:Nat}(h:i<Z.length)(X:(Z.take i).find? p=none)(W:p Z[i]=true):(Z.find? p).getD 0=Z[i]:=by
 have e:Z=Z.take i++Z.drop i:=(List.take_append_drop i Z).symm
 have Y: Z.find? p=((Z.take i).find? p).or ((Z.drop i).find? p):=by
  conv=>lhs;rw[e]
  exact List.find?_append
 rw[Y,X,List.drop_eq_getElem_cons h,List.find?_cons,W];rfl
def bL{Z:List Int}{j:Nat}(h:j<Z.length)(v:Int):GZ (Z.take (j+1)) v=GZ (Z.take j) v+(if Z[j]<v then 1 else 0):=by
 unfold GZ
 rw[List.take_add_one,List.getElem?_eq_getElem h,List.countP_append]
 simp[List.countP_cons]
def Z7{Z:List Int}{j:Nat}(h:j<Z.length)(v:Int):Jp (Z.take (j+1)) v=Jp (Z.take j) v+(if Z[j]=v then 1 else 0):=by
 unfold Jp
 rw[List.take_add_one,List.getElem?_eq_getElem h,List.countP_append]
 simp[List.countP_cons]
def lZ(Z:List Int)(v:Int):GZ Z v<=Z.length:=List.countP_le_length
def kz(Z:List Int)(v:Int):Jp Z v<=Z.length:=List.countP_le_length
def Wx(A:Option Addr)(c:Nat)(Z:List Int)(k:Nat)(B:Nat)(w:World)(hl:Z.length<=1000000)(hk:k<=1000000)(z:Rd w B 1 A Z.length (AQ Z)):
  Calls prog 84 #[.slice A Z.length c,.int .i64 (k:Nat)] w fun e w'=>e=.returned (.int .i64 (Jv Z k))/\w=w':=by
 have s:=zz z;have qQ:(0:Int)<=(k:Int):=Aa;have g:(k:Int)<=1000000:=Aa;clear z
 go_in
 go_wp2_with fail
 go_loop[13] (fun iv=>∃i:Nat,i<=Z.length/\iv=.int .i64 i/\(Z.take i).find? (KZ Z k)=none) (fun iv=>Z.length-(intOf iv).toNat)
 .exact⟨0,Aa,rfl,rfl⟩
 obtain⟨i,hi,rfl,Y⟩:=hrel;have E:=zz Y;clear Y
 by_cases W:i<Z.length
 .obtain⟨b,o,u,rfl,n,F,G⟩:=s.o.at W;rw[DJ Z i W]at F;obtain rfl:=Option.some.inj F;have HH:=zz (fun h=>jZ (p:=KZ Z k) W E.o h);have C:=zz (fun h=>aD (p:=KZ Z k) W E.o h)
  have I:=zz (show KZ Z k Z[i]=decide (GZ Z Z[i]<=k/\k<GZ Z Z[i]+Jp Z Z[i])from rfl)
  clear F
  generalize Z[i]=v at*
  have d:(0:Int)<=(i:Int):=Aa;have f:(i:Int)<(Z.length:Int):=Aa;go_wp2_with fail
  go_loop[7,8,19] (fun q sv D=>∃j:Nat,j<=Z.length/\D=.int .i64 j/\q=.int .i64 (GZ (Z.take j) v:Nat)/\sv=.int .i64 (Jp (Z.take j) v:Nat)) (fun _ _ D=>Z.length-(intOf D).toNat)
  .exact⟨0,Aa,rfl,rfl,rfl⟩
  obtain⟨j,hj,rfl,rfl,rfl⟩:=hrel;have r:=lZ (Z.take j) v;have y:=kz (Z.take j) v;rw[List.length_take]at r y
  by_cases X:j<Z.length
  .obtain⟨b',o',u',l,t,U,N⟩:=s.o.at X
   cases l
   rw[DJ Z j X]at U;obtain rfl:=Option.some.inj U;have T:=zz (bL X v);have R:=zz (Z7 X v);clear U
   generalize Z[j]=x at*
   generalize GZ (Z.take j) v=L at*
   generalize Jp (Z.take j) v=S at*
   have m0:(0:Int)<=(j:Int):=Aa;have m1:(j:Int)<(Z.length:Int):=Aa;have m2:(L:Int)<=1000000:=Aa;have m3:(S:Int)<=1000000:=Aa
   by_cases J:x<v
   .have M:(x==v)=false:=beq_eq_false_iff_ne.2 Aa;go_wp2_with fail;exact⟨⟨j+1,Aa,BG,by rw[T.o,Ao Mh];go_num,by rw[R.o,Aj Aa,Nat.add_zero]⟩,Ck⟩
   by_cases V:x=v
   .have M:(x==v)=true:=beq_iff_eq.2 V;have H:=zz V;have m:v<=x:=Aa;clear V J;go_wp2_with fail;exact⟨⟨j+1,Aa,BG,by rw[T.o,Aj Aa,Nat.add_zero],by rw[R.o,Ao H.o];go_num⟩,Ck⟩
   have M:(x==v)=false:=beq_eq_false_iff_ne.2 V;have m:v<=x:=Aa;have H:=zz V;clear V J;go_wp2_with fail;exact⟨⟨j+1,Aa,BG,by rw[T.o,Aj Aa,Nat.add_zero],by rw[R.o,Aj H.o,Nat.add_zero]⟩,Ck⟩
  obtain rfl:j=Z.length:=Aa;rw[List.take_length]at r y ⊢
  generalize GZ Z v=L at*
  generalize Jp Z v=S at*
  clear X;have m2:(L:Int)<=1000000:=Aa;have m3:(S:Int)<=1000000:=Aa;have m4:(0:Int)<=(L:Int):=Aa;have m5:(0:Int)<=(S:Int):=Aa
  by_cases J:(L:Int)<=(k:Int)
  .by_cases M:(k:Int)<(L:Int)+(S:Int)
   .have O:=HH.o (by rw[I.o];exact decide_eq_true ⟨Aa,Aa⟩);go_wp2_with fail
    go_ret
    exact⟨Ik O.symm,rfl⟩
   have O:=zz (C.o (by rw[I.o];exact decide_eq_false Aa));have V:(L:Int)+(S:Int)<=(k:Int):=Aa;clear M;go_wp2_with fail;exact⟨⟨i+1,Aa,BG,O.o⟩,Ck⟩
  have O:=zz (C.o (by rw[I.o];exact decide_eq_false Aa));have V:(k:Int)<(L:Int):=Aa;clear J;go_wp2_with fail;exact⟨⟨i+1,Aa,BG,O.o⟩,Ck⟩
 obtain rfl:i=Z.length:=Aa;clear W;go_wp2_with fail
 go_ret
 refine⟨Ik ?_,rfl⟩;have h:=E.o;rw[List.take_length]at h
 unfold Jv
 rw[h];rfl
def gM{l:List Int}(Y:∀z∈l,-9223372036854775808<=z/\z<=9223372036854775807){k:Nat}(Z:k<l.length): -9223372036854775808<=Jv l k/\Jv l k<=9223372036854775807:=by
 rw[Oi l Z];exact Y _ (Nb Z)
def WX(A:Option Addr)(c:Nat)(Z:List Int)(B:Nat)(w:World)(hB:B<=w.heap.size)(hl:Z.length<=140737488355328)(ho:∀z∈Z,-9223372036854775808<=z/\z<=9223372036854775807)(hr:Rd w B 1 A Z.length (AQ Z)):
  Calls prog 54 #[.slice A Z.length c] w fun e w'=>e=.returned (.tuple #[.int .i64 (Nn Z).1,.int .i64 (Nn Z).2])/\Below w.heap.size w w':=by
 have HR:=zz hr;have b:=zz ho
 have M:=zz (show Nn Z=if Z.length=0\/64<Z.length then(0,8)else(Nz Z,0)from rfl)
 clear hr ho
 by_cases r:Z.length<1
 .have E:=M.o.trans (Ao (.inl Aa));have G:(Z.length:Int)<1:=Aa;have Y:=zz E;clear E M r
  go_in
  go_wp2_with fail
  go_ret2
  exact⟨by rw[Y.o];rfl,Below.refl _ _⟩
 by_cases l:64<Z.length
 .have E:=M.o.trans (Ao (.inr l));have G:(1:Int)<=(Z.length:Int):=Aa;have j:(64:Int)<(Z.length:Int):=Aa;have Y:=zz E;clear E M r l
  go_in
  go_wp2_with fail
  go_ret2
  exact⟨by rw[Y.o];rfl,Below.refl _ _⟩
 have Y:=zz (M.o.trans (Aj Aa));have G:(1:Int)<=(Z.length:Int):=Aa;have j:(Z.length:Int)<=64:=Aa;obtain⟨k,f⟩:∃k:Nat,(Z.length-1)/3=k:=⟨_,rfl⟩;obtain⟨q,hq⟩:∃q:Nat,Z.length-1-k=q:=⟨_,rfl⟩;have e1:((Z.length:Int)-1)/3=(k:Int):=Aa;have e2:(Z.length:Int)-1-(k:Int)=(q:Int):=Aa;have V:k<Z.length:=Aa;have W:q<Z.length:=Aa
 have HM:=zz (show Nz Z=(Jv Z k+Jv Z q)/2 by rw[Oi Z V,Oi Z W,←hq,←f];rfl)
 have C1:=zz (fun v=>fun(n:Below w.heap.size w v)=>Wx A c Z k B v Aa Aa (HR.o.below (n.mono hB)));have C2:=zz (fun v=>fun(n:Below w.heap.size w v)=>Wx A c Z q B v Aa Aa (HR.o.below (n.mono hB)));have X1:=zz (gM b.o V);have X2:=zz (gM b.o W)
 generalize Jv Z k=x at*
 generalize Jv Z q=y at*
 obtain⟨m,d⟩:=AJ ((x+y)/2)
 have X3:=zz (show-9223372036854775808<=m/\m<=9223372036854775807 by have:=X1.o;have:=X2.o;omega)
 have J:=zz d
 have XK:=zz (show k<Z.length/\q<Z.length from⟨V,W⟩)
 clear f hq r l d V W M
 go_in
 go_wp2_with fail;refine(C1.o _ (Below.refl _ _)).mono ?_;rintro e w' ⟨rfl,rfl⟩;go_wp2_with fail;refine(EO x _ X1.o).mono ?_;rintro e w1 ⟨s,rfl,qQ,I,D⟩;have U:=zz I;have X:=zz D;clear I D;go_wp2_with fail;refine(C2.o _ X.o).mono ?_;rintro e w' ⟨rfl,rfl⟩;go_wp2_with fail;refine(EO y _ X2.o).mono ?_;rintro e w2 ⟨p2,rfl,qV,L,O⟩;have F:=zz L;have U:=zz (U.o.below O);have X:=CU X O;clear L O;go_wp2_with fail;refine(Hu s s p2 x y _ U.o.isInt U.o F.o (JY (by have:=X1.o;omega)) (JY (by have:=X2.o;omega))).mono ?_;rintro e w3 ⟨rfl,C,t⟩;have T:=zz C;have X:=zz (below_grown X.o Nr t (fun g e=>by injection e with e;omega));clear C t;go_wp2_with fail;refine(EO 2 _ Aa).mono ?_;rintro e w4 ⟨p4,rfl,qR,u,N⟩;have i:=zz u;have T:=zz (T.o.below N);have X:=CU X N;clear u N;go_wp2_with fail;refine(M0 s p4 (x+y) 2 _ T.o i.o (JY (by have:=X1.o;have:=X2.o;omega)) Aa (JY Aa)).mono ?_;rintro e w5 ⟨p5,rfl,qU,R,H⟩;rw[J.o]at R;have p:=zz R;have X:=CU X H;clear R H;go_wp2_with fail;refine(M6 p5 m _ p.o X3.o).mono ?_;rintro e w6 ⟨rfl,rfl⟩;go_wp2_with fail
 go_ret2
 exact⟨by rw[Y.o,HM.o,J.o];rfl,X.o⟩
end Md
namespace Md
open Go.RowKit Go.Sort Go.Shelf Mem Go.Proofs.YtjobajeggllmiaaGreat.Ms
def dX(g:Nat)(c:Nat)(Z:List Int)(w:World)(W:Z.length<=1000)(X:Holds (Value.int .i64) w g 0 Z.toArray)(Y:g<w.heap.size):
  Calls prog 123 #[.slice (some ⟨g,0,none⟩) Z.length c] w fun e w'=>e=.returned (.tuple #[])/\∃n os,w'=grow (putRow (Value.int .i64) (Sort.ahead w n) g 0 (QY Z).toArray) os:=
 AnyM.slices_Sort_int Sl.je g 0 c Z w X Y Aa
def X9(A:Option Addr)(T:Nat)(Z:List Int)(x:Z.length<=1000)(q:0<Z.length)(N:Nat)(w:World)(L:N<w.heap.size)(cs: w.cell? ⟨N,0,none⟩=some (.slice A Z.length T))(E:Rd w w.heap.size 1 A Z.length (AQ Z)):
  Calls prog 100 #[.func (.func 124) #[] #[.pointer (some ⟨N,0,none⟩)]] w fun e w'=>∃g c,e=.returned (.slice (some ⟨g,0,none⟩) Z.length c)/\Z.length<=c/\c<=maxLen/\w.heap.size<=g/\(∀j,j<Z.length-> w'.cell? ⟨g,j,none⟩=some (.int .i64 ((QY Z).getD j 0)))/\Below w.heap.size w w':=by
 have C:=zz (So.Vy A T Z x N w L cs E);clear cs E
 go_in
 go_wp2_with fail;refine C.o.mono ?_;rintro e M ⟨p,D,rfl,V,hb⟩;obtain⟨_,⟨_,m⟩|⟨W,l,t,s,Y,X,J,I,F,H⟩⟩:=V
 . omega
 cases s
 have B:Holds encZ M W 0 Z.toArray:=holds_of_block_i X (by rw[Nat.mul_one]at H;exact H);have y:=zz (dX W D Z M x B (Array.getElem?_eq_some_iff.1 X).1);have R:=zz (fun(n:Nat) (os:Array Obj)=>ownsRow_sorted_i (n:=n) (os:=os) (ts:=QY Z) (LU Z) Y X J I F);have z:=zz (fun(n:Nat) (os:Array Obj)=>grownBy_sorted_i (w:=M) (g:=W) (n:=n) (os:=os) (QY Z).toArray);have U:=zz hb;have O:=zz (And.intro Y (And.intro J I));clear B X hb Y J I F H C;go_wp2_with fail;refine y.o.mono ?_;rintro e r ⟨rfl,n,os,rfl⟩;have R:=zz (R.o n os);have U:=zz (U.o.grown (z.o n os) U.o.size (fun j G=>by cases G;exact O.o.1))
 have v:=zz (show encZ=Value.int .i64 from rfl)
 clear y z;rw[v.o]at R U
 generalize(grow (putRow (Value.int .i64) (Sort.ahead M n) W 0 (QY Z).toArray) os)=r at*
 go_wp2_with fail
 go_ret
 refine⟨W,D,rfl,O.o.2.1,O.o.2.2,O.o.1,fun j G=>?_,U.o⟩
 have h:=R.o.cells (g:=W) (j:=j) rfl (u:=.int .i64 ((QY Z).getD j 0)) (by
  rw[List.getElem?_map,List.getD_eq_getElem?_getD,List.getElem?_eq_getElem (by rw[LU];exact G)]
  rfl)
 have e:(⟨W,0,none⟩:Addr).add j=⟨W,j,none⟩:=by unfold Addr.add;split<;>simp_all
 rwa[e]at h
def Xf(A:Option Addr)(c:Nat)(Z:List Int)(B:Nat)(w:World)(t:B<=w.heap.size)(hl:Z.length<=140737488355328)(j:∀z∈Z,-9223372036854775808<=z/\z<=9223372036854775807)(J:Rd w B 1 A Z.length (AQ Z)):
  Calls prog 69 #[.slice A Z.length c] w fun e w'=>e=.returned (.tuple #[.int .i64 (Nn Z).1,.int .i64 (Nn Z).2])/\Below w.heap.size w w':=by
 have i:=zz J;have u:=zz j
 have W:=zz (show Nn Z=if Z.length=0\/64<Z.length then(0,8)else(Nz Z,0)from rfl)
 clear J j
 by_cases G:Z.length<1
 .have T:=W.o.trans (Ao (.inl Aa));have I:((Z.length:Int)==0)=true:=beq_iff_eq.2 Aa;have X:=zz T;clear T W G
  go_in
  go_wp2_with fail
  go_ret2
  exact⟨by rw[X.o];rfl,Below.refl _ _⟩
 have I:((Z.length:Int)==0)=false:=beq_eq_false_iff_ne.2 Aa
 by_cases U:64<Z.length
 .have T:=W.o.trans (Ao (.inr U));have E:(64:Int)<(Z.length:Int):=Aa;have X:=zz T;clear T W G U
  go_in
  go_wp2_with fail
  go_ret2
  exact⟨by rw[X.o];rfl,Below.refl _ _⟩
 have X:=zz (W.o.trans (Aj Aa));have E:(Z.length:Int)<=64:=Aa;obtain⟨k,s⟩:∃k:Nat,(Z.length-1)/3=k:=⟨_,rfl⟩;obtain⟨q,hq⟩:∃q:Nat,Z.length-k=q:=⟨_,rfl⟩;obtain⟨m,D⟩:∃m:Nat,q-k=m:=⟨_,rfl⟩;obtain⟨r,J⟩:∃r:Nat,m-1=r:=⟨_,rfl⟩;have e1:((Z.length:Int)-1)/3=(k:Int):=Aa;have e2:(Z.length:Int)-(k:Int)=(q:Int):=Aa;have e3:(m:Int)-1=(r:Int):=Aa;have V:k+r=Z.length-1-k:=Aa
 have HM:=zz (show Nz Z=((QY Z).getD k 0+(QY Z).getD (k+r) 0)/2 by unfold Nz;rw[s,V])
 have X1:=zz (u.o _ (Nb (l:=Z) (k:=k) Aa));have X2:=zz (u.o _ (Nb (l:=Z) (k:=k+r) Aa))
 have F:=zz (show k<Z.length/\k+r<Z.length by omega)
 have a1:(0:Int)<=(k:Int):=Aa;have a2:(k:Int)<=(q:Int):=Aa;have a3:(q:Int)<=(Z.length:Int):=Aa;have a4:(1:Int)<=(m:Int):=Aa;have a5:(0:Int)<=(r:Int):=Aa;have a6:(r:Int)<(m:Int):=Aa;have a8:(m:Int)<=64:=Aa;have HQ:=zz D;have O:Z.length<=1000:=Aa;have R:0<Z.length:=Aa;have p:=zz (fun L (hb:Below w.heap.size w L) (H:Nat) (U:H<L.heap.size) (h2: L.cell? ⟨H,0,none⟩=some (.slice A Z.length c))=>X9 A c Z O R H L U h2 ((i.o.below (hb.mono t)).more (Nat.le_trans t hb.size)));clear s hq J D G U W V O R
 go_in
 go_wp2_with fail;refine(So.Xk A Z.length c w).mono ?_;rintro e w' ⟨rfl,rfl⟩;have M:=zz ((Below.refl w.heap.size w).alloc Nr (.cells #[.slice A Z.length c] 63));have C:=zz (p.o _ M.o w.heap.size Bq (by rw[(Ae.fresh w 63 #[.slice A Z.length c]).cell];rfl));clear p;go_wp2_with fail;refine C.o.mono ?_;rintro e w2 ⟨g,n,rfl,d,qQ,f,Y,N⟩;have M:=CU M N;have c1:=Y k F.o.1;have c2:=Y (k+r) F.o.2
 have b:¬n=k:=by have:=F.o.1;omega
 have a7:(q:Int)<=(n:Int):=Aa;clear Y N f C
 go_upto_region 6 with fail
 rw[HQ.o]
 generalize(QY Z).getD k 0=x at*
 generalize(QY Z).getD (k+r) 0=y at*
 have CH:=zz (fun v=>iG x y v X1.o X2.o);have b0:(0:Int)<(m:Int):=Aa;have b1:0<m:=Aa
 have b2:IntKind.i64.wrap ((m:Int)-1)=(r:Int):=by rw[e3,IntKind.wrap_i64];omega
 have b3:((r:Int)).toNat=r:=Bq
 have b4:IntKind.i64.wrap (r:Int)=(r:Int):=by rw[IntKind.wrap_i64];omega
 go_quiet (first|(go_at_call 102;exact Calls.quiet_of_same ((CH.o _).mono fun _ _ h=>⟨h.1,h.2.symm⟩)))
 go_wp2_with fail
 go_ret2
 exact⟨by rw[X.o,HM.o];rfl,below_drewN M.o _⟩
end Md
namespace Nd
open Go.RowKit Mem Rws Flat Md
def TS(I:Nat->Bool)(k:Nat)(Z:k<4)(w:World):(Instr.index 27 (.agg (row 4 fun i=>.bool (I i))) (.int .i64 (k:Int))).run prog w=.ok (.bool (I k)) w:=by
 show(Instr.index 27 (.agg #[.bool (I 0),.bool (I 1),.bool (I 2),.bool (I 3)]) (.int .i64 (k:Int))).run prog w=.ok (.bool (I k)) w
 obtain rfl|rfl|rfl|rfl:k=0\/k=1\/k=2\/k=3:=Aa
 all_goals kernel_rfl
def Dk{f:Nat->Value}(Z:∀i,i<73->C9 (Ar i) (f i))(i:Nat)(hi:i<73)(e:Ar i=true):f i=.int .i64 (iv (f i)):=KP (by have h:=Z i hi;rw[e]at h;exact h)
def mM(f:Nat->Value)(s a:Nat):Int:=iv (f (55+(s*3+a)))
def Dq(I:Nat->Bool)(z:Nat->Int):Nat->List Int
 |0=>[]
 |k+1=>if I k then Dq I z k++[z k]else Dq I z k
def PK(I:Nat->Bool)(z:Nat->Int):∀k,(Dq I z k).length<=k
 |0=>Nat.le_refl _
 |k+1=>by
  have:=PK I z k
  unfold Dq
  split
  . rw[List.length_append];simp;omega
  omega
def KT{I:Nat->Bool}{z:Nat->Int}:∀ {k:Nat} {x:Int},x∈Dq I z k->∃j,j<k/\I j=true/\x=z j
 |0,x,h=>by cases h
 |k+1,x,h=>by
  unfold Dq at h
  split at h
  .rename_i hI
   rcases List.mem_append.1 h with h|h
   . obtain⟨j,Z,e⟩:=KT h;exact⟨j,Aa,e⟩
   exact⟨k,Aa,hI,by simpa using h⟩
  obtain⟨j,Z,e⟩:=KT h;exact⟨j,Aa,e⟩
def eP(f:Nat->Value)(r:∀i,i<73->C9 (Ar i) (f i))(a:Nat)(ha:a<3)(hw:∀s,s<4-> -9223372036854775808<=mM f s a/\mM f s a<=9223372036854775807)(S:Value)(w:World):
  Calls prog 42 #[.agg (row 74 (Ab f S)),.int .i64 (a:Int)] w fun e w'=>e=.returned (.int .i64 (Nn (Dq (Gz f) (fun s=>mM f s a) 4)).1)/\Below w.heap.size w w':=by
 have HF:=zz r;have H:=zz hw;have B:=zz (fun k hk w=>TS (Gz f) k hk w);have G:=zz (Ae.fresh w 37 (row 74 (Ab f S)));have F:=zz ((Below.refl w.heap.size w).alloc Nr (.cells (row 74 (Ab f S)) 37));have D:=zz (TG r S)
 have T:=zz (fun s (q:s<4)=>show(row 74 (Ab f S))[55+s*3+a]?=some (.int .i64 (mM f s a))from by
  rw[Ah Aa]
  unfold Ab mM
  rw[Aj Aa,Nat.add_assoc,←Dk r (55+(s*3+a)) Aa (by unfold Ar;simp;omega)])
 have a0:(0:Int)<=(a:Int):=Aa;have a3:(a:Int)<3:=Aa;obtain⟨I,hI⟩:=AJ (Gz f);obtain⟨z,p⟩:=AJ (fun s=>mM f s a)
 have T:=zz (fun s (q:s<4)=>show(row 74 (Ab f S))[55+s*3+a]?=some (.int .i64 (z s))from by rw[←p];exact T.o s q)
 have H:=zz (fun s (q:s<4)=>show-9223372036854775808<=z s/\z s<=9223372036854775807 from by rw[←p];exact H.o s q)
 rw[hI]at B D ⊢;rw[p];clear p;clear hI;obtain⟨R,hR⟩:=AJ (row 74 (Ab f S));have HR:=zz hR;rw[hR]at G F T ⊢;clear hR r hw ha
 go_in
 go_upto_region 2 with fail
 have O:(w.alloc (.cells R 37)).heap.size=w.heap.size+1:=Bq;have d:=zz O;clear O
 generalize(w.alloc (.cells R 37))=W at*
 go_wp2_with(rw[←HR.o]at G;refine Cb Bb 27 _ rfl w.heap.size 27 4 rfl G.o Aa _ underlying27 rfl Ap ?_;rw[D.o];rw[HR.o]at G)
 go_loopw[5,13] (fun sv si wr=>∃(k:Nat) (A:Option Addr) (c:Nat),k<=4/\si=.int .i64 k/\sv=.slice A (Dq I z k).length c/\wr.ownsRow W.heap.size 3 1 (.slice A (Dq I z k).length c) (Dq I z k).length (Ms.AQ (Dq I z k))/\Below W.heap.size W wr) (fun _ si _=>4-(intOf si).toNat)
 .exact⟨0,none,0,Aa,rfl,rfl,World.ownsRow_nil _ _ _ _,Below.refl _ _⟩
 obtain⟨k,A,c,hk,rfl,rfl,M,X⟩:=hrel;have u:=zz M;have t:=zz X;have O:=X.size;clear M X;have L:=PK I z k
 by_cases V:k<4
 .have v:=B.o k V;have qU:=(G.o.below t.o (by rw[d.o];omega)).cell (55+k*3+a);rw[T.o k V]at qU;have k0:(0:Int)<=(k:Int):=Aa;have k4:(k:Int)<4:=Aa
  have Z:=zz (show Dq I z (k+1)=if I k then Dq I z k++[z k]else Dq I z k from rfl)
  have N:=zz V;clear V;obtain⟨l,y⟩:=AJ (Dq I z k);rw[y]at u Z L ⊢;clear y
  generalize z k=x at*
  cases hi:I k
  .rw[hi]at v Z;have U:=zz (Z.o.trans (Aj Bq));clear hi Z;go_wp2_with fail;exact⟨⟨k+1,A,c,by have:=N.o;omega,BG,by rw[U.o],by rw[U.o];exact u.o,t.o⟩,by have:=N.o;simp[intOf];omega⟩
  rw[hi]at v Z;have U:=zz (Z.o.trans (Ao rfl));clear hi Z;have E:=zz (ownsRow_below u.o ((Below.refl wr.heap.size wr).alloc Nr (.cells (LB x) 3)));have qQ:=zz (t.o.alloc O (.cells (LB x) 3));have HS:=zz (Fc.Ff wr (.int .i64 x) 3)
  go_wp2_with(at_builtin;go_loud (refine Aq _ rfl (.tmp 18) (.tmp 25) 63 rfl (base:=W.heap.size) Ms.C8 rfl E.o rfl (fun h=>by cases h) HS.o GR GX Aa Ec ?_);intro A9 c9 w5 qV Y J;have n:=zz Y;have qR:=zz (qQ.o.grown J (by have:=J.size;simp at*;omega) (fun g e=>(E.o.lt g e).1));clear Y J)
  exact⟨⟨k+1,A9,c9,by have:=N.o;omega,BG,by rw[U.o,List.length_append];rfl,by rw[U.o,List.length_append,show Ms.AQ (l++[x])=Ms.AQ l++[.int .i64 x]by simp[Ms.AQ]];exact n.o,qR.o⟩,by have:=N.o;simp[intOf];omega⟩
 obtain rfl:k=4:=Aa
 rw[show((4:Nat):Int)=4 from rfl]
 have C:=zz (Xf A c (Dq I z 4) wr.heap.size wr Nr Aa (fun x v=>by
  obtain⟨j,hj,_,rfl⟩:=KT v
  exact H.o j hj) (Rd.Bu u.o))
 obtain⟨m,b⟩:=AJ (Nn (Dq I z 4));rw[b]at C;have HM:=zz b;obtain⟨l,y⟩:=AJ ((Dq I z 4).length);rw[y]at C ⊢;clear b y V L;go_wp2_with fail;refine C.o.mono ?_;rintro e w5 ⟨rfl,hb⟩;have F:=zz (Bh (F.o.trans (t.o.mono F.o.size)) Nr hb);clear hb C;go_wp2_with fail
 go_ret
 exact⟨by rw[HM.o];rfl,F.o⟩
end Nd
namespace BigW
open Go.RowKit Mem BigLaw
def lG(X:Int)(n:Nat):(X*2 ^ n).natAbs=X.natAbs*2 ^ n:=by
 rw[Int.natAbs_mul,Int.natAbs_pow];rfl
def oz(X:Int)(n:Nat):Sg (decide (X<0)) (X*2 ^ n):=by
 have Z:(0:Int)<2 ^ n:=Int.pow_pos Aa;refine Sz ?_
 rcases Int.lt_trichotomy X 0 with h|h|h
 . right;left;exact⟨by simp[h],Int.mul_neg_of_neg_of_pos h Z⟩
 . left;rw[h,Int.zero_mul]
 right;right;exact⟨Ec,Int.mul_pos h Z⟩
def Kz(p G:Nat)(X:Int)(n F s:Nat)(w:World)(v:Dz w p)(N:Cm w G X)(C:X.natAbs<pw 100)(x:n=32*F+s)(z:s<32)(T:F<=1000000):
  Calls prog 158 #[.pointer (some ⟨p,0,none⟩),.pointer (some ⟨G,0,none⟩),.int .u64 (n:Int)] w fun e w'=>e=.returned (.pointer (some ⟨p,0,none⟩))/\Cm w' p (X*2 ^ n)/\w.grownBy w' (some p):=by
 obtain⟨A,c,l,q,x1,B,D,H⟩:=N.parts;have HL:=zz (Jw D H C);have I:=zz B;have j:=zz D
 have W:=zz (show val l*2 ^ n=(X*2 ^ n).natAbs by rw[lG,H])
 have y:=zz v;have i:=zz x;have r:=zz z;have J:=zz T;have R:=zz (oz X n);have L:=zz N.lt;clear B D H v N C x z T;generalize X*2 ^ n=Z at W R ⊢
 go_in
 go_wp2_with fail
 go_region_law (first
  |(go_simp;go_at_call 177;refine(Qo A c l n F s _ _ Nr I.o.drew HL.o i.o r.o J.o).mono ?_;rintro e d ⟨b,m,u,rfl,E,O,U,Y⟩;have k:=(BF Y G 0 L.o).trans q)
  |(go_simp;go_at_call 110;refine(FZ p _ b u m _ Z (y.o.drew.below Y y.o.lt) E O (U.trans W.o) (Ij O (U.trans W.o) _ R.o)).mono ?_;rintro e w2 ⟨rfl,V,M⟩))
 all_goals
  have f:=zz V;clear V;go_wp2_with fail
  go_ret
  exact⟨rfl,f.o,(show w.grownBy d (some p)from⟨Y.os,Y.tape,Y.output,Y.size,fun g t _=>Y.block g t⟩).trans M⟩
end BigW
namespace BigW
open Go.RowKit Mem BigLaw
def ZH(f:Nat->Nat)(k:Nat):∀m,∃R,AB f (k+1+m)=AB f k+pw k*(f k+4294967296*R)
 |0=>⟨0,by rw[Nat.add_zero,EI,Nat.mul_zero,Nat.add_zero,Nat.mul_comm]⟩
 |m+1=>by
  obtain⟨R,h⟩:=ZH f k m;refine⟨R+pw m*f (k+1+m),?_⟩
  rw[show k+1+(m+1)=(k+1+m)+1 by omega,EI,h,Xo,Fu,Nat.mul_add,Nat.mul_add,Nat.mul_add,Nat.mul_add]
  have e:f (k+1+m)*(4294967296*pw k*pw m)=pw k*(4294967296*(pw m*f (k+1+m))):=by
   rw[Nat.mul_comm (f (k+1+m)),Nat.mul_comm 4294967296 (pw k),Nat.mul_assoc (pw k),Nat.mul_assoc (pw k),Nat.mul_assoc 4294967296]
  rw[e];omega
def kJ{l:List Nat}(X:small l)(k r:Nat)(O:r<32):val l/2 ^ (32*k+r)%2=l.getD k 0/2 ^ r%2:=by
 rw[Nat.pow_add,←Jz,←Nat.div_div_eq_div_mul];have U:=KW k
 rcases Nat.lt_or_ge k l.length with Z|Z
 .obtain⟨R,h⟩:=ZH (fun i=>l.getD i 0) k (l.length-(k+1))
  rw[show k+1+(l.length-(k+1))=l.length by omega,FY Nr]at h
  have Y:AB (fun i=>l.getD i 0) k<pw k:=Fw fun i _=>getD_lt X i
  have T:val l/pw k=l.getD k 0+4294967296*R:=by
   rw[h,Nat.add_mul_div_left _ _ U,Nat.div_eq_of_lt Y,Nat.zero_add]
  have W:(4294967296:Nat)=2 ^ r*(2*2 ^ (31-r)):=by
   rw[show 2*2 ^ (31-r)=2 ^ (32-r)by rw[show 32-r=(31-r)+1 by omega,Nat.pow_succ,Nat.mul_comm],←Nat.pow_add,show r+(32-r)=32 by omega]
  rw[T,W,Nat.mul_assoc,Nat.add_mul_div_left _ _ (Nat.two_pow_pos r),Nat.mul_assoc,Nat.add_mul_mod_self_left]
 have V:val l<pw k:=Nat.lt_of_lt_of_le (I4 X) (KH Z);rw[Nat.div_eq_of_lt V,Dg Z]
def mG(x:Nat)(h:x<18446744073709551616):bits .and .u64 (x:Int) 1=((x%2:Nat):Int):=by
 have:=u64_and_nat x 1 h Aa
 rwa[nat_mask1]at this
def mR(A:Option Addr)(c:Nat)(l:List Nat)(B:Nat)(i:Nat)(w:World)(h:Wd w B A c l)(hi:i<=1000000000):
  Calls prog 190 #[.slice A l.length c,.int .i64 (i:Int)] w fun e w'=>e=.returned (.int .u64 (val l/2 ^ i%2:Nat))/\w'=w:=by
 obtain⟨k,r,N,rfl⟩:∃k r,r<32/\i=32*k+r:=⟨i/32,i%32,Aa,Aa⟩;rw[kJ h.small k r N];have hq:((32*k+r:Nat):Int)/32=(k:Int):=Aa;have R:((32*k+r:Nat):Int)%32=(r:Int):=Aa;generalize 32*k+r=i at hq R hi ⊢
 by_cases U:k<l.length
 .obtain⟨b,o,rfl,T,X⟩:=h.at_ U;have O:=getD_lt h.small k;generalize l.getD k 0=x at X O ⊢;have W:¬(l.length:Int)<=(k:Int):=Aa;have M:(k:Int)<(l.length:Int):=Aa
  have Y:(x:Int)/2 ^ r=((x/2 ^ r:Nat):Int):=by push_cast;rfl
  have V:x/2 ^ r<=x:=Nat.div_le_self _ _;have Z:=mG (x/2 ^ r) Aa;generalize x/2 ^ r=y at Y V Z ⊢;clear h
  go_in
  go_wp2_with fail
  go_ret
  exact⟨rfl,rfl⟩
 have W:(l.length:Int)<=(k:Int):=Aa;rw[Dg Aa,Nat.zero_div];clear h
 go_in
 go_wp2_with fail
 go_ret
 exact⟨rfl,rfl⟩
def qA(v k:Nat):Prop:=v%2 ^ k=0/\v/2 ^ k%2=1
def kN{v k:Nat}(h:v%2 ^ k=0)(Z:v/2 ^ k%2=0):v%2 ^ (k+1)=0:=by
 rw[Nat.pow_succ,Nat.mod_mul,h,Z,Nat.mul_zero]
def oI(p:Nat)(X:Int)(w:World)(R:Cm w p X)(O:X≠0)(V:X.natAbs<pw 100):
  Calls prog 188 #[.pointer (some ⟨p,0,none⟩)] w fun e w'=>(∃k:Nat,k<=3200/\e=.returned (.int .u64 k)/\qA X.natAbs k)/\w'=w:=by
 obtain⟨A,c,l,x,y,T,J,L⟩:=R.parts
 have v:((l.length:Int)==0)=false:=by
  rw[beq_eq_false_iff_ne];intro e;have:l=[]:=List.eq_nil_of_length_eq_zero Aa;have:=(val_zero J).2 this;omega
 have z:=zz T;have F:=zz L;obtain⟨m,G⟩:∃m,m=100:=⟨_,rfl⟩;rw[←G,Jz]at V;obtain⟨N,I,Y⟩:∃N,N=3200/\X.natAbs<2 ^ N:=⟨32*m,Aa,V⟩;have E:=zz Y;have W:=zz I;have D:=zz O;clear T J L R O V I Y
 go_in
 go_wp2_with fail
 go_loop[3] (fun i=>∃k:Nat,i=.int .u64 k/\X.natAbs%2 ^ k=0) (fun i=>3201-(intOf i).toNat)
 .exact⟨0,rfl,by simp[Nat.mod_one]⟩
 obtain⟨k,rfl,U⟩:=hrel
 have H:k<=3200:=by
  have B:2 ^ k<=X.natAbs:=Nat.le_of_dvd (by have:=D.o;omega) (Nat.dvd_of_mod_eq_zero U);have C:2 ^ k<2 ^ N:=Nat.lt_of_le_of_lt B E.o;have:=(Nat.pow_lt_pow_iff_right (by omega:1<2)).1 C;have:=W.o;omega
 have M:=zz U;clear U;go_wp2_with fail;refine(mR A c l _ k w z.o Aa).mono ?_;rintro e w' ⟨rfl,rfl⟩;rw[F.o]
 by_cases hb:X.natAbs/2 ^ k%2=0
 .have W:=zz (kN M.o hb);rw[hb];clear hb;go_wp2_with fail;exact⟨⟨k+1,BG,W.o⟩,Ck⟩
 have Z:X.natAbs/2 ^ k%2=1:=Aa;have W:=zz Z;rw[Z];clear hb Z;go_wp2_with fail
 go_ret
 exact⟨⟨k,H,rfl,M.o,W.o⟩,rfl⟩
def KN(X:Int):Bool:=decide (-9223372036854775808<=X/\X<=9223372036854775807)
def Wm(p:Nat)(X:Int)(w:World)(M:Cm w p X)(N:X.natAbs<pw 100):
  Calls prog 174 #[.pointer (some ⟨p,0,none⟩)] w fun e w'=>e=.returned (.bool (KN X))/\w'=w:=by
 obtain⟨A,c,l,F,j,G,H,L⟩:=M.parts;have C:=zz (Jw H L N);have r:=zz G;have s:=zz H;have y:=zz L;have x:=zz M;have v:=zz N;clear G H L M N
 go_in
 go_wp2_with fail;refine(P9 A c l _ w r.o s.o C.o).mono ?_;rintro e w' ⟨⟨n,rfl,O,I⟩,rfl⟩;rw[y.o]at O;have i:=zz O
 have u:n<=32000000:=by have:=C.o;omega
 have V:=zz (Qe (k:=63) O);have R:=zz (Qe (k:=64) O);clear O I
 rcases Nat.lt_trichotomy n 64 with h|h|h
 .have Z:=zz (show KN X=true by
   have:=V.o.1 Aa
   unfold KN
   rw[decide_eq_true_eq]
   omega)
  go_wp2_with fail
  go_ret
  exact⟨by rw[Z.o];rfl,rfl⟩
 .subst h
  by_cases W:X<0
  .rw[decide_eq_true W]at F;go_wp2_with fail;refine(oI p X _ x.o Aa v.o).mono ?_;rintro e f ⟨⟨k,m,rfl,B⟩,rfl⟩;have E:=zz B;clear B;have T:=R.o.1 Nr
   have U:¬X.natAbs<2 ^ 63:=fun h=>by have:=V.o.2 h;omega
   by_cases Y:k=63
   .subst Y
    have Z:=zz (show KN X=true by
     have D:=E.o.1
     unfold KN
     rw[decide_eq_true_eq]
     omega)
    clear T U;go_wp2_with fail
    go_ret
    exact⟨by rw[Z.o];rfl,rfl⟩
   have q:((k:Int)==63)=false:=by rw[beq_eq_false_iff_ne];omega
   have Z:=zz (show KN X=false by
    obtain⟨D,J⟩:=E.o
    unfold KN
    rw[decide_eq_false_iff_not];intro g;have e:X.natAbs=2 ^ 63:=Aa;rw[e]at D J
    rcases Nat.lt_or_ge k 63 with t|t
    .rw[Nat.pow_div Aa Aa,show 63-k=(63-k-1)+1 by omega,Nat.pow_succ,Nat.mul_mod_left]at J
     omega
    have d:2 ^ 64<=2 ^ k:=Nat.pow_le_pow_right Aa Aa;rw[Nat.div_eq_of_lt Aa]at J
    omega)
   clear T U Y;go_wp2_with fail
   go_ret
   exact⟨by rw[Z.o];rfl,rfl⟩
  have Z:=zz (show KN X=false by
   have U:¬X.natAbs<2 ^ 63:=fun h=>by have:=V.o.2 h;omega
   unfold KN
   rw[decide_eq_false_iff_not]
   omega)
  rw[decide_eq_false W]at F;go_wp2_with fail
  go_ret
  exact⟨by rw[Z.o];rfl,rfl⟩
 have Z:=zz (show KN X=false by
  have T:¬X.natAbs<2 ^ 64:=fun h=>by have:=R.o.2 h;omega
  unfold KN
  rw[decide_eq_false_iff_not]
  omega)
 have z:((n:Int)==64)=false:=by rw[beq_eq_false_iff_ne];omega
 go_wp2_with fail
 go_ret
 exact⟨by rw[Z.o];show Ending.returned (.bool (decide ((n:Int)<64)))=_;rw[decide_eq_false Aa],rfl⟩
end BigW
namespace BigW
open Go.RowKit Mem BigLaw
def V8(p:Nat)(X:Int)(w:World)(W:Cm w p X):
  Calls prog 175 #[.pointer (some ⟨p,0,none⟩)] w fun e w'=>e=.returned (.int .i64 X.sign)/\w'=w:=by
 obtain⟨A,c,l,R,N,O,T,V⟩:=W.parts
 have Z:=zz (show l.length=0↔X=0 by
  rw[List.length_eq_zero_iff,←val_zero T,V];omega)
 clear O T V W
 rcases Int.lt_trichotomy X 0 with h|h|h
 .have U:((l.length:Int)==0)=false:=by rw[beq_eq_false_iff_ne];have:=Z.o;omega
  have Y:=zz (Int.sign_eq_neg_one_of_neg h);rw[decide_eq_true h]at R
  go_in
  go_wp2_with fail
  go_ret
  exact⟨by rw[Y.o];rfl,rfl⟩
 .subst h
  have U:((l.length:Int)==0)=true:=by rw[beq_iff_eq];have:=Z.o;omega
  go_in
  go_wp2_with fail
  go_ret
  exact⟨rfl,rfl⟩
 have U:((l.length:Int)==0)=false:=by rw[beq_eq_false_iff_ne];have:=Z.o;omega
 have Y:=zz (Int.sign_eq_one_of_pos h);rw[decide_eq_false Aa]at R
 go_in
 go_wp2_with fail
 go_ret
 exact⟨by rw[Y.o];rfl,rfl⟩
end BigW
end Go.Proofs.YtjobajeggllmiaaGreat
