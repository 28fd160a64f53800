import Derived.Test.YtjobajeggllmiaaGreatPc0
import Derived.Test.YtjobajeggllmiaaGreatPc17
set_option linter.all false
set_option maxHeartbeats 100000000
set_option maxRecDepth 100000
namespace Go.Proofs.YtjobajeggllmiaaGreat
open _root_.Go.Proofs.Tryz
namespace BigW
open Go.RowKit Mem BigLaw
def Sg(s:Bool)(X:Int):Prop:=X≠0->s=decide (X<0)
def Sg.neg{s:Bool}{X:Int}(h:Sg s X):Sg (!s) (-X):=fun Y=>by
 rw[h Aa]
 by_cases Z:X<0
 . simp[Z];omega
 simp[Z];omega
def Lr(X:Int):Sg (decide (X<0)) X:=fun _=>rfl
def NJ{s:Bool}{X:Int}(h:Sg s X):X=0\/(s=true/\X<0)\/(s=false/\0<X):=by
 by_cases Y:X=0
 . exact .inl Y
 have:=h Y
 by_cases Z:X<0
 . exact .inr (.inl ⟨by simpa[Z] using this,Z⟩)
 exact .inr (.inr ⟨by simpa[Z] using this,Aa⟩)
def Sz{s:Bool}{X:Int}(h:X=0\/(s=true/\X<0)\/(s=false/\0<X)):Sg s X:=fun Z=>by
 rcases h with h|⟨rfl,h⟩|⟨rfl,h⟩
 . exact absurd h Z
 . simp[h]
 have:¬X<0:=Aa
 simp[this]
def dL{V U:Bool}{X Y:Int}(R:Sg V X)(hy:Sg U Y)(h:V=U):X.natAbs+Y.natAbs=(X+Y).natAbs/\Sg V (X+Y):=by
 subst h
 rcases NJ R with W|⟨W,O⟩|⟨W,O⟩<;>rcases NJ hy with Z|⟨Z,T⟩|⟨Z,T⟩
 all_goals first
  |(exfalso;rw[W]at Z;cases Z;done)
  |(refine⟨Aa,Sz ?_⟩;first|(left;omega)|(right;left;exact⟨Mh,Aa⟩)|(right;right;exact⟨Mh,Aa⟩))
def WC{V U:Bool}{X Y:Int}(R:Sg V X)(hy:Sg U Y)(h:V≠U)(M:Y.natAbs<=X.natAbs):X.natAbs-Y.natAbs=(X+Y).natAbs/\Sg V (X+Y):=by
 rcases NJ R with Z|⟨Z,N⟩|⟨Z,N⟩<;>rcases NJ hy with W|⟨W,T⟩|⟨W,T⟩
 all_goals first
  |(exfalso;exact h (Z.trans W.symm);done)
  |(refine⟨Aa,Sz ?_⟩;by_cases O:X+Y=0;(exact .inl O);first|(right;left;exact⟨Mh,Aa⟩)|(right;right;exact⟨Mh,Aa⟩)|(exfalso;omega))
def qw(w w':World)(Z:Int)(e:Ending):Prop:=∃s A c l,e=.returned (.tuple #[.bool s,.slice A l.length c])/\Wd w' w'.heap.size A c l/\DY l/\val l=Z.natAbs/\Sg s Z/\Below w.heap.size w w'
def LW(E D:Bool)(A B:Option Addr)(c z:Nat)(l Z:List Nat)(X Y:Int)(w:World)(h:Wd w w.heap.size A c l)(h':Wd w w.heap.size B z Z)(t:DY l)(t':DY Z)(N:val l=X.natAbs)(r:val Z=Y.natAbs)(hx:Sg E X)(hy:Sg D Y)(x:l.length<=1000000)(G:Z.length<=1000000):
  Calls prog 111 #[.bool E,.slice A l.length c,.bool D,.slice B Z.length z] w fun e w'=>qw w w' (X+Y) e:=by
 have H:=zz h;have j:=zz h';have T:=zz t;have T':=zz t';have v:=zz N;have U:=zz r;have g:=zz hx;have f:=zz hy;clear h h' t t' N r hx hy
 by_cases C:E=D
 .have i:(E==D)=true:=by simp[C]
  obtain⟨O,M⟩:=dL g.o f.o C;rw[←v.o,←U.o]at O;have q:=zz O;have m:=zz M;clear O M C
  go_in
  go_wp2_with fail;refine(kF A B c z l Z _ w Nr H.o j.o x G).mono ?_;rintro e w1 ⟨p,u,y,rfl,I,J,N,hb⟩;have k:=zz I;have n:=zz J;have R:=zz (N.trans q.o);clear I J N;go_wp2_with fail
  go_ret2
  exact⟨E,p,u,y,rfl,k.o,n.o,R.o,m.o,hb⟩
 have i:(E==D)=false:=by simp[C]
 have HS:=zz C;clear C
 go_in
 go_wp2_with fail;refine(Nw A B c z l Z _ w Nr H.o j.o T.o T'.o).mono ?_;rintro e b ⟨rfl,W⟩;have H0:=zz ((H.o.below W).more W.size);have s:=zz ((j.o.below W).more W.size);have qQ:=W.size
 by_cases V:val Z<=val l
 .have F:0<=MB (val l) (val Z):=by unfold MB;rw[Aj Aa];split<;>omega
  have d:=zz (length_le T'.o (Nat.lt_of_le_of_lt V (I4 H.o.small)));have L:=zz V;rw[v.o,U.o]at V;obtain⟨O,M⟩:=WC g.o f.o HS.o V;rw[←v.o,←U.o]at O;have q:=zz O;have m:=zz M;clear O M V;generalize MB (val l) (val Z)=sg at F;go_wp2_with fail;refine(ZI A B c z l Z _ b Nr H0.o s.o x d.o L.o).mono ?_;rintro e w1 ⟨p,u,y,rfl,I,J,N,hb⟩;have k:=zz I;have n:=zz J;have R:=zz (N.trans q.o);clear I J N;go_wp2_with fail
  go_ret2
  exact⟨E,p,u,y,rfl,k.o,n.o,R.o,m.o,Bh W Nr hb⟩
 have F:¬0<=MB (val l) (val Z):=by unfold MB;rw[Ao Aa];omega
 have d:=zz (length_le T.o (Nat.lt_of_le_of_lt (show val l<=val Z by omega) (I4 j.o.small)))
 have L:=zz (show val l<=val Z by omega)
 obtain⟨O,M⟩:=WC f.o g.o (fun e=>HS.o e.symm) (by rw[←v.o,←U.o];exact L.o);rw[←v.o,←U.o,Int.add_comm]at O;rw[Int.add_comm]at M;have q:=zz O;have m:=zz M;clear O M V;generalize MB (val l) (val Z)=sg at F;go_wp2_with fail;refine(ZI B A z c Z l _ b Nr s.o H0.o G d.o L.o).mono ?_;rintro e w1 ⟨p,u,y,rfl,I,J,N,hb⟩;have k:=zz I;have n:=zz J;have R:=zz (N.trans q.o);clear I J N;go_wp2_with fail
 go_ret2
 exact⟨D,p,u,y,rfl,k.o,n.o,R.o,m.o,Bh W Nr hb⟩
def Cm.parts{w:World}{p:Nat}{z:Int}(h:Cm w p z):∃A c l,w.cell? ⟨p,0,none⟩=some (.bool (decide (z<0)))/\ w.cell? ⟨p,1,none⟩=some (.slice A l.length c)/\Wd w w.heap.size A c l/\DY l/\val l=z.natAbs:=by
 obtain⟨A,c,l,Z,Y⟩:=h;refine⟨A,c,l,?_,?_,Y⟩
 . rw[Z.cell];rfl
 rw[Z.cell];rfl
def Jw{l:List Nat}{z:Int}(Z:DY l)(X:val l=z.natAbs)(Y:z.natAbs<pw 100):l.length<=1000000:=by
 have:=length_le Z (k:=100) (by rw[X];exact Y);omega
def Wd.drew{w:World}{B:Nat}{A:Option Addr}{c:Nat}{l:List Nat}(h:Wd w B A c l):Wd w.drew B A c l:=⟨h.len,h.cap,h.none_,h.rd.drew,h.small⟩
def Dz.drew{w:World}{p:Nat}(h:Dz w p):Dz w.drew p:=by
 obtain⟨s,A,n,c,h⟩:=h;exact⟨s,A,n,c,h.drew⟩
end BigW
namespace BigW
open Go.RowKit Mem BigLaw
def Rx(p:Nat)(X:Int)(w:World)(V:Cm w p X)(D:X.natAbs<18446744073709551616):
  Calls prog 113 #[.pointer (some ⟨p,0,none⟩)] w fun e w'=>e=.returned (.int .u64 (X.natAbs:Nat))/\w'=w:=by
 obtain⟨A,c,l,z,B,Y,R,U⟩:=V.parts;have E:l.length<=2:=length_le R (by rw[U];exact D);have Z:=zz (U.symm.trans (Tw E));clear V
 by_cases L:0<l.length
 .obtain⟨b,o,rfl,H,W⟩:=Y.at_ L;rw[Nat.add_zero]at W;have V:=getD_lt Y.small 0;have O:(0:Int)<(l.length:Int):=Aa
  by_cases J:1<l.length
  .obtain⟨b',C,e,_,N⟩:=Y.at_ J
   injection e with e
   injection e with F I
   subst F I;have hy:=getD_lt Y.small 1;have T:(1:Int)<(l.length:Int):=Aa;generalize l.getD 0 0=x at W V Z;generalize l.getD 1 0=y at N hy Z;have hor:=gV x y V hy;clear Y R U
   go_in
   go_wp2_with fail
   go_ret
   exact⟨by rw[Z.o];go_num,rfl⟩
  have T:¬(1:Int)<(l.length:Int):=Aa;have M:=zz (Dg (l:=l) (i:=1) Aa);generalize l.getD 0 0=x at W V Z;rw[M.o]at Z;clear Y R U J
  go_in
  go_wp2_with fail
  go_ret
  exact⟨by rw[Z.o];go_num,rfl⟩
 have O:¬(0:Int)<(l.length:Int):=Aa;have T:¬(1:Int)<(l.length:Int):=Aa;have G:=zz (Dg (l:=l) (i:=0) Aa);have M:=zz (Dg (l:=l) (i:=1) Aa);rw[G.o,M.o]at Z;clear Y R U L
 go_in
 go_wp2_with fail
 go_ret
 exact⟨by rw[Z.o];go_num,rfl⟩
def M6(p:Nat)(X:Int)(w:World)(Y:Cm w p X)(N: -9223372036854775808<=X/\X<=9223372036854775807):
  Calls prog 87 #[.pointer (some ⟨p,0,none⟩)] w fun e w'=>e=.returned (.int .i64 X)/\w'=w:=by
 obtain⟨O,T⟩:=N;obtain⟨A,c,l,W,L,V,M,R⟩:=Y.parts;clear V M R;have U:=zz Y;clear Y
 go_in
 go_wp2_with fail;refine(Rx p X w U.o Aa).mono ?_;rintro e w' ⟨rfl,rfl⟩
 by_cases h:X<0
 .rw[decide_eq_true h]at W
  have Z:=zz (show wrap64 (-wrap64 (X.natAbs:Int))=X by unfold wrap64;omega)
  generalize(X.natAbs:Int)=m at Z ⊢;go_wp2_with fail
  go_ret
  exact⟨Ik Z.o,rfl⟩
 rw[decide_eq_false h]at W
 obtain⟨m,rfl⟩:=Int.eq_ofNat_of_zero_le (show 0<=X by omega)
 have Z:((m:Int)).natAbs=m:=Aa;rw[Z];go_wp2_with fail
 go_ret
 exact⟨rfl,rfl⟩
end BigW
namespace BigW
open Go.RowKit Mem BigLaw
def NF{B:Nat}{w w':World}(h:Below B w.drew w'):Below B w w':=⟨h.os,h.tape,h.output,h.size,h.block⟩
def QL(w w':World)(q r:Nat)(e:Ending):Prop:=∃W V Z U X Y,e=.returned (.tuple #[.slice W Z.length V,.slice U Y.length X])/\Wd w' w'.heap.size W V Z/\DY Z/\val Z=q/\Wd w' w'.heap.size U X Y/\DY Y/\val Y=r/\Below w.heap.size w w'
def TK(A G:Option Addr)(c F:Nat)(l Z:List Nat)(w:World)(h:Wd w w.heap.size A c l)(h':Wd w w.heap.size G F Z)(t:DY l)(t':DY Z)(E:0<val Z)(M:l.length<=2):
  Calls prog 173 #[.slice A l.length c,.slice G Z.length F] w fun e w'=>QL w w' (val l/val Z) (val l%val Z) e:=by
 have H:=zz h;have f:=zz h';have T:=zz t;have T':=zz t'
 have qW:((Z.length:Int)==0)=false:=by
  rw[beq_eq_false_iff_ne];intro e
  rw[List.eq_nil_of_length_eq_zero (show Z.length=0 by omega),Np]at E
  omega
 have L:=zz (I4 h.small);clear h h' t t'
 go_in
 go_wp2_with fail;refine(Nw A G c F l Z _ w Nr H.o f.o T.o T'.o).mono ?_;rintro e d ⟨rfl,X⟩;have b:=zz ((H.o.below X).more X.size);have m:=zz ((f.o.below X).more X.size)
 by_cases Y:val l<val Z
 .have N:MB (val l) (val Z)<0:=by unfold MB;rw[Ao Y];omega
  have HQ:=zz (Nat.div_eq_of_lt Y);have HR:=zz (Nat.mod_eq_of_lt Y);have HV:=zz E;clear Y E;generalize MB (val l) (val Z)=sg at N;go_wp2_with fail;refine(NE A c l _ d Nr b.o Aa).mono ?_;rintro e J ⟨i,n,rfl,hw,hb⟩;have HW:=zz hw;clear hw;go_wp2_with fail
  go_ret2
  exact⟨none,0,[],i,n,l,rfl,Wd.nil _ _,fun h=>by simp at h,by rw[HQ.o];rfl,HW.o,T.o,HR.o.symm,Bh X Nr hb⟩
 have N:¬MB (val l) (val Z)<0:=by unfold MB;rw[Aj Y];split<;>omega
 have HL:=zz (show Z.length<=2 from length_le T'.o (show val Z<pw 2 from Nat.lt_of_le_of_lt (Nat.le_of_not_lt Y) (Nat.lt_of_lt_of_le L.o (KH M))))
 have z:val l<18446744073709551616:=Nat.lt_of_lt_of_le L.o (KH M)
 have hy:val Z<18446744073709551616:=by have:=I4 f.o.small;exact Nat.lt_of_lt_of_le this (KH HL.o)
 generalize MB (val l) (val Z)=sg at N;clear Y;go_wp2_with fail;refine(Sc A c l _ d b.o Aa).mono ?_;rintro e J ⟨rfl,rfl⟩;go_wp2_with fail;refine(Sc G F Z _ _ m.o HL.o).mono ?_;rintro e J ⟨rfl,rfl⟩;obtain⟨x,R⟩:=AJ (val l);obtain⟨y,O⟩:=AJ (val Z);obtain⟨q,V⟩:=AJ (x/y);obtain⟨r,U⟩:=AJ (x%y);rw[R]at z ⊢;rw[O]at hy E ⊢
 have u:q<18446744073709551616:=by rw[←V];exact Nat.lt_of_le_of_lt (Nat.div_le_self _ _) z
 have v:r<18446744073709551616:=by rw[←U];exact Nat.lt_of_le_of_lt (Nat.mod_le _ _) z
 have qQ:¬(y:Int)=0:=Aa;have hq:(x:Int)/(y:Int)=((x/y:Nat):Int):=rfl;have hr:(x:Int).tmod (y:Int)=((x%y:Nat):Int):=rfl;rw[V]at hq;rw[U]at hr
 have qR:IntKind.u64.wrap ((x:Int)/(y:Int))=(q:Int):=by rw[hq,Cz];omega
 have qX:¬y=0:=Aa
 have k:=zz (show val l/val Z=q by rw[R,O];exact V)
 have j:=zz (show val l%val Z=r by rw[R,O];exact U)
 clear hq R O V U;go_wp2_with fail;have hS:J.heap.size<=J.drew.heap.size:=Nat.le_refl _
 go_region_held3 (fun w'=>J.heap.size<=w'.heap.size) (first|assumption|omega) (first
  |(go_at_call_of 150 (Value.int .u64 (q:Int));refine(LX q u _).mono ?_;rintro e w2 ⟨i,n,l1,rfl,g,C,D,I⟩;have qV:=I.size)
  |(go_at_call_of 150 (Value.int .u64 (r:Int));refine(LX r v _).mono ?_;rintro e w3 ⟨A2,c2,l2,rfl,B,p,s,W⟩;have qU:=W.size))
 all_goals
  go_wp2_with fail
  go_ret2
  exact⟨i,n,l1,A2,c2,l2,rfl,(g.below W).more W.size,C,D.trans k.o.symm,B,p,s.trans j.o.symm,Bh (Bh X Nr (NF I)) Nr W⟩
end BigW
namespace BigLaw
def FL(f:Nat->Nat)(a:Nat):∀b,AB f (a+b)=AB f a+AB (fun i=>f (a+i)) b*pw a
 |0=>by simp[AB]
 |b+1=>by
  have Z:=FL f a b;rw[←Nat.add_assoc,EI,EI,Z,Nat.add_mul,Xo,Nat.mul_comm (pw a),Nat.mul_assoc];omega
def mulC(v:Nat->Nat)(g:Nat):Nat->Nat
 |0=>0
 |i+1=>(mulC v g i+g*v i)/4294967296
def CX(v:Nat->Nat)(g i:Nat):Nat:=(mulC v g i+g*v i)%4294967296
def mI(v:Nat->Nat)(g i:Nat):CX v g i<4294967296:=Nat.mod_lt _ Aa
def Ez{x y:Nat}(Z:x<=4294967295)(hy:y<=4294967295):x*y<=18446744065119617025:=Nat.mul_le_mul Z hy
def Tz{v:Nat->Nat}{g:Nat}(Y:g<4294967296)(Z:∀i,v i<4294967296):∀i,mulC v g i<4294967296
 |0=>by simp[mulC]
 |i+1=>by
  have X:=Tz Y Z i;have:=Ez (x:=g) (y:=v i) Aa (by have:=Z i;omega)
  unfold mulC
  omega
def YS(v:Nat->Nat)(g:Nat):∀k,AB (CX v g) k+mulC v g k*pw k=g*AB v k
 |0=>by simp[AB,mulC]
 |k+1=>by
  have Y:=YS v g k
  unfold AB
  have Z:mulC v g (k+1)*pw (k+1)+CX v g k*pw k=(mulC v g k+g*v k)*pw k:=by
   show(mulC v g k+g*v k)/4294967296*pw (k+1)+(mulC v g k+g*v k)%4294967296*pw k=_
   rw[Fu,←Nat.mul_assoc,←Nat.add_mul]
   congr 1
   omega
  rw[Nat.add_mul]at Z;rw[Nat.mul_add,←Nat.mul_assoc];omega
def val_two(v:Nat->Nat)(n:Nat)(Z:∀i,v i<4294967296):
  (v (n+1)*4294967296+v n)*pw n<=AB v (n+2)/\AB v (n+2)<(v (n+1)*4294967296+v n+1)*pw n:=by
 have h:=Fw (f:=v) (n:=n) (fun i _=>Z i);have e:AB v (n+2)=AB v n+v n*pw n+v (n+1)*pw (n+1):=rfl;rw[e,Fu,←Nat.mul_assoc,Nat.add_mul,Nat.add_mul,Nat.add_mul,Nat.one_mul];omega
def Lv(u:Nat->Nat)(n:Nat)(U:∀i,u i<4294967296):
  ((u (n+2)*4294967296+u (n+1))*4294967296+u n)*pw n<=AB u (n+3)/\AB u (n+3)<((u (n+2)*4294967296+u (n+1))*4294967296+u n+1)*pw n:=by
 have h:=Fw (f:=u) (n:=n) (fun i _=>U i);have e:AB u (n+3)=AB u n+u n*pw n+u (n+1)*pw (n+1)+u (n+2)*pw (n+2):=rfl;have W:pw (n+1)=4294967296*pw n:=Fu n
 have Y:pw (n+2)=4294967296*(4294967296*pw n):=by rw[Fu,Fu]
 rw[e,W,Y]
 have V:u (n+1)*(4294967296*pw n)=u (n+1)*4294967296*pw n:=by rw[Nat.mul_assoc]
 have Z:u (n+2)*(4294967296*(4294967296*pw n))=u (n+2)*4294967296*4294967296*pw n:=by rw[←Nat.mul_assoc,←Nat.mul_assoc]
 rw[V,Z]
 have X:((u (n+2)*4294967296+u (n+1))*4294967296+u n)*pw n=u (n+2)*4294967296*4294967296*pw n+u (n+1)*4294967296*pw n+u n*pw n:=by
  rw[Nat.add_mul,Nat.add_mul,Nat.add_mul]
 have T:((u (n+2)*4294967296+u (n+1))*4294967296+u n+1)*pw n=u (n+2)*4294967296*4294967296*pw n+u (n+1)*4294967296*pw n+u n*pw n+pw n:=by
  rw[Nat.add_mul,Nat.one_mul,X]
 omega
def K6(U V h top g r:Nat):Prop:=g*top+r=h/\U/V<=g
structure Step(u v:Nat->Nat)(n:Nat):Prop where
 hu:∀i,u i<4294967296
 hv:∀i,v i<4294967296
 top:2147483648<=v (n+1)
 lt:AB u (n+3)<AB v (n+2)*4294967296
def Step.pos{u v:Nat->Nat}{n:Nat}(S:Step u v n):0<AB v (n+2):=by
 have:=(val_two v n S.hv).1;have Y:=S.top;have Z:=KW n;have:1*pw n<=(v (n+1)*4294967296+v n)*pw n:=Nat.mul_le_mul_right _ Aa;omega
def Step.high{u v:Nat->Nat}{n:Nat}(S:Step u v n):u (n+2)<=v (n+1):=by
 have W:=(val_two v n S.hv).2;have X:=(Lv u n S.hu).1;have U:=S.lt;have Y:AB v (n+2)*4294967296<=(v (n+1)*4294967296+v n+1)*pw n*4294967296:=Nat.mul_le_mul_right _ Aa
 have Z:((u (n+2)*4294967296+u (n+1))*4294967296+u n)*pw n<(v (n+1)*4294967296+v n+1)*4294967296*pw n:=by
  have e:(v (n+1)*4294967296+v n+1)*4294967296*pw n=(v (n+1)*4294967296+v n+1)*pw n*4294967296:=by rw[Nat.mul_right_comm]
  rw[e];omega
 have V:=Nat.lt_of_mul_lt_mul_right Z;have:=S.hv n;omega
def Step.first{u v:Nat->Nat}{n:Nat}(S:Step u v n):
  K6 (AB u (n+3)) (AB v (n+2)) (u (n+2)*4294967296+u (n+1)) (v (n+1)) ((u (n+2)*4294967296+u (n+1))/v (n+1)) ((u (n+2)*4294967296+u (n+1))%v (n+1)):=by
 have U:=S.pos;have W:=S.top;refine⟨by rw[Nat.mul_comm];exact Nat.div_add_mod _ _,?_⟩;rw[Nat.le_div_iff_mul_le Aa];have hq:AB u (n+3)/AB v (n+2)*AB v (n+2)<=AB u (n+3):=Nat.div_mul_le_self _ _;generalize AB u (n+3)/AB v (n+2)=q at hq;have X:=(val_two v n S.hv).1;have V:=(Lv u n S.hu).2;have T:q*((v (n+1)*4294967296+v n)*pw n)<=q*AB v (n+2):=Nat.mul_le_mul_left _ X
 have Z:q*(v (n+1)*4294967296+v n)*pw n<((u (n+2)*4294967296+u (n+1))*4294967296+u n+1)*pw n:=by
  rw[Nat.mul_assoc];omega
 have Y:=Nat.lt_of_mul_lt_mul_right Z;rw[Nat.mul_add,←Nat.mul_assoc]at Y;have:=S.hu n;omega
def Step.less{u v:Nat->Nat}{n:Nat}(S:Step u v n){g r:Nat}(h:K6 (AB u (n+3)) (AB v (n+2)) (u (n+2)*4294967296+u (n+1)) (v (n+1)) g r)(Y:4294967296<=g\/r*4294967296+u n<g*v n):
  0<g/\K6 (AB u (n+3)) (AB v (n+2)) (u (n+2)*4294967296+u (n+1)) (v (n+1)) (g-1) (r+v (n+1)):=by
 have W:=S.pos;obtain⟨X,N⟩:=h
 have Z:AB u (n+3)/AB v (n+2)<g:=by
  rcases Y with Y|Y
  .have:AB u (n+3)/AB v (n+2)<4294967296:=by
    rw[Nat.div_lt_iff_lt_mul W,Nat.mul_comm];exact S.lt
   omega
  rw[Nat.div_lt_iff_lt_mul W];have U:=(val_two v n S.hv).1;have R:=(Lv u n S.hu).2;have O:g*((v (n+1)*4294967296+v n)*pw n)<=g*AB v (n+2):=Nat.mul_le_mul_left _ U
  have T:((u (n+2)*4294967296+u (n+1))*4294967296+u n+1)*pw n<=g*(v (n+1)*4294967296+v n)*pw n:=by
   refine Nat.mul_le_mul_right _ ?_;rw[Nat.mul_add,←Nat.mul_assoc,←X,Nat.add_mul];omega
  rw[Nat.mul_assoc]at T;omega
 refine⟨Nat.lt_of_le_of_lt (Nat.zero_le _) Z,?_,Nat.le_sub_one_of_lt Z⟩;have V:0<g:=Nat.lt_of_le_of_lt (Nat.zero_le _) Z;obtain⟨k,rfl⟩:∃k,g=k+1:=⟨g-1,Aa⟩;rw[Nat.add_mul,Nat.one_mul]at X;rw[Nat.add_sub_cancel];omega
def Step.last{u v:Nat->Nat}{n:Nat}(S:Step u v n){g r:Nat}(h:K6 (AB u (n+3)) (AB v (n+2)) (u (n+2)*4294967296+u (n+1)) (v (n+1)) g r)(Z:(g<4294967296/\g*v n<=r*4294967296+u n)\/4294967296<=r):
  g<4294967296/\g*AB v (n+2)<AB u (n+3)+AB v (n+2):=by
 have Y:=S.high;have J:=S.top;have T:=S.hv n;have U:=S.hu (n+1);obtain⟨N,H⟩:=h
 have W:g<4294967296:=by
  rcases Z with Z|Z
  . exact Z.1
  have X:g*v (n+1)<4294967296*v (n+1):=by
   have:u (n+2)*4294967296<=v (n+1)*4294967296:=Nat.mul_le_mul_right _ Y;omega
  exact Nat.lt_of_mul_lt_mul_right X
 have I:g*v n<=r*4294967296+u n:=by
  rcases Z with Z|Z
  . exact Z.2
  have:=Ez (x:=g) (y:=v n) Aa Aa;have:4294967296*4294967296<=r*4294967296:=Nat.mul_le_mul_right _ Z;omega
 refine⟨W,?_⟩;have X:=(val_two v n S.hv);have G:=(Lv u n S.hu).1
 have O:g*(v (n+1)*4294967296+v n+1)<=(u (n+2)*4294967296+u (n+1))*4294967296+u n+4294967296:=by
  rw[Nat.mul_add,Nat.mul_add,←Nat.mul_assoc,←N,Nat.add_mul,Nat.mul_one];omega
 have L:g*AB v (n+2)<=g*((v (n+1)*4294967296+v n+1)*pw n):=Nat.mul_le_mul_left _ Aa;have V:g*(v (n+1)*4294967296+v n+1)*pw n<=((u (n+2)*4294967296+u (n+1))*4294967296+u n+4294967296)*pw n:=Nat.mul_le_mul_right _ O;have M:((u (n+2)*4294967296+u (n+1))*4294967296+u n+4294967296)*pw n=((u (n+2)*4294967296+u (n+1))*4294967296+u n)*pw n+4294967296*pw n:=Nat.add_mul _ _ _;rw[Nat.mul_assoc,M]at V;have R:(4294967296+1)*pw n<=(v (n+1)*4294967296+v n)*pw n:=Nat.mul_le_mul_right _ Aa;have F:=KW n;rw[Nat.add_mul]at R;omega
def UZ{u v:Nat->Nat}{n g:Nat}(W:∀i,u i<4294967296)(X:∀i,v i<4294967296)(V:v (n+2)=0)(Y:g<4294967296):
  AB (FT u (CX v g)) (n+3)+g*AB v (n+2)=AB u (n+3)+En u (CX v g) (n+3)*pw (n+3):=by
 have R:=TI (f:=u) (g:=CX v g) (fun i=>mI v g i) (n+3);have T:=YS v g (n+2);have U:AB (CX v g) (n+3)=AB (CX v g) (n+2)+CX v g (n+2)*pw (n+2):=rfl
 have Z:CX v g (n+2)=mulC v g (n+2):=by
  have:=Tz Y X (n+2)
  unfold CX;rw[V];omega
 rw[Z]at U;omega
def Step.nX{u v:Nat->Nat}{n g:Nat}(S:Step u v n)(Y:v (n+2)=0)(Z:g<4294967296)(V:AB u (n+3)/AB v (n+2)<=g)(U:En u (CX v g) (n+3)=0):
  g=AB u (n+3)/AB v (n+2)/\AB (FT u (CX v g)) (n+3)=AB u (n+3)%AB v (n+2):=by
 have X:=UZ S.hu S.hv Y Z;rw[U,Nat.zero_mul,Nat.add_zero]at X;have W:=S.pos
 have T:g<=AB u (n+3)/AB v (n+2):=by rw[Nat.le_div_iff_mul_le W];omega
 have e:g=AB u (n+3)/AB v (n+2):=Aa;refine⟨e,?_⟩;have:=Nat.div_add_mod (AB u (n+3)) (AB v (n+2));rw[←e,Nat.mul_comm]at this;omega
def Step.back{u v:Nat->Nat}{n g:Nat}(S:Step u v n)(T:v (n+2)=0)(O:g<4294967296)(G:g*AB v (n+2)<AB u (n+3)+AB v (n+2))(E:En u (CX v g) (n+3)≠0):
  0<g/\g-1=AB u (n+3)/AB v (n+2)/\AB (GL (FT u (CX v g)) v) (n+3)=AB u (n+3)%AB v (n+2):=by
 have X:=UZ S.hu S.hv T O
 have Y:En u (CX v g) (n+3)=1:=by have:=M9 u (CX v g) (n+3);omega
 rw[Y,Nat.one_mul]at X;have R:=S.pos;have F:=Fw (f:=FT u (CX v g)) (n:=n+3) (fun i _=>Kg S.hu i)
 have N:0<g:=by
  rcases Nat.eq_zero_or_pos g with e|e
  . subst e;rw[Nat.zero_mul]at X;omega
  exact e
 obtain⟨k,rfl⟩:∃k,g=k+1:=⟨g-1,Aa⟩;rw[Nat.add_sub_cancel];rw[Nat.add_mul,Nat.one_mul]at X G
 have V:k=AB u (n+3)/AB v (n+2):=by
  symm
  rw[Nat.div_eq_iff R];omega
 have W:=TU (FT u (CX v (k+1))) v (n+3)
 have J:AB v (n+3)=AB v (n+2):=by
  show AB v (n+2)+v (n+2)*pw (n+2)=_
  rw[T,Nat.zero_mul,Nat.add_zero]
 rw[J]at W;have D:=Fw (f:=GL (FT u (CX v (k+1))) v) (n:=n+3) (fun i _=>Nat.mod_lt _ Aa);have M:=Mc (f:=FT u (CX v (k+1))) (g:=v) (fun i=>Kg S.hu i) S.hv (n+3);have Z:=Nat.div_add_mod (AB u (n+3)) (AB v (n+2));rw[←V,Nat.mul_comm]at Z;have I:=Nat.mod_lt (AB u (n+3)) R;refine⟨Aa,V,?_⟩;have U:=Fw (f:=v) (n:=n+2) (fun i _=>S.hv i)
 have H:=KH (show n+2<=n+3 by omega)
 rcases Nat.eq_zero_or_pos (Fz (FT u (CX v (k+1))) v (n+3))with e|e
 .rw[e,Nat.zero_mul]at W;omega
 have L:Fz (FT u (CX v (k+1))) v (n+3)=1:=Aa;rw[L,Nat.one_mul]at W;omega
def Vi{h top:Nat}(Z:2147483648<=top)(Y:h<=top*4294967296+4294967295):h/top<=4294967297:=
 Nat.le_of_lt_succ (Nat.div_lt_of_lt_mul (show h<top*4294967298 by omega))
def win(u d:Nat->Nat)(j a p:Nat):Nat:=if p<j then u p else if p<j+a then d (p-j)else u p
def TP(u d:Nat->Nat)(j a:Nat):win u d j a (j+a)=u (j+a):=by
 unfold win;rw[Aj Aa,Aj Aa]
def MI(u d:Nat->Nat){j a i:Nat}(hi:i<a):win u d j a (j+i)=d i:=by
 unfold win;rw[Aj Aa,Ao Aa,Nat.add_sub_cancel_left]
def LJ(u d:Nat->Nat){j a p:Nat}(h:p<j\/j+a<=p):win u d j a p=u p:=by
 unfold win
 rcases h with h|h
 . rw[Ao h]
 rw[Aj Aa,Aj Aa]
def mF(u d e:Nat->Nat)(j a p:Nat):win (win u d j a) e j a p=win u e j a p:=by
 by_cases h:p<j\/j+a<=p
 . rw[LJ _ _ h,LJ _ _ h,LJ _ _ h]
 obtain⟨i,rfl⟩:∃i,p=j+i:=⟨p-j,Aa⟩
 rw[MI _ _ (show i<a by omega),MI _ _ (show i<a by omega)]
structure Whole(U0 V:Nat)(u q:Nat->Nat)(n m k:Nat):Prop where
 hu:∀i,u i<4294967296
 hq:∀i,q i<4294967296
 low:∀i,i<k->q i=0
 high:∀i,k+n<=i->u i=0
 lt:AB (fun i=>u (k+i)) n<V
 sum:AB q (m+1)*V+AB u (m+n+1)=U0
def UL{f g:Nat->Nat}{L j a b:Nat}(h:L=j+a+b)(Y:∀i,i<j->g i=f i)(Z:∀i,j+a<=i->g i=f i):
  AB g L+AB (fun i=>f (j+i)) a*pw j=AB f L+AB (fun i=>g (j+i)) a*pw j:=by
 subst h;rw[FL,FL,FL f,FL f,CY (f:=g) (g:=f) (n:=j) Y,CY (f:=fun i=>g (j+a+i)) (g:=fun i=>f (j+a+i)) (n:=b) (fun i _=>Z _ Aa)];omega
def Whole.next{W V:Nat}{u q:Nat->Nat}{n m j:Nat}(h:Whole W V u q (n+2) m (j+1))(G:j<=m)(T:V<pw (n+2)){d:Nat->Nat}{g:Nat}(J:∀i,d i<4294967296)(I:g<4294967296)(hsum:g*V+AB d (n+3)=AB (fun i=>u (j+i)) (n+3))(hlt:AB d (n+3)<V):
  Whole W V (fun i=>if i<j then u i else if i<j+n+3 then d (i-j)else u i) (fun i=>if i=j then g else q i) (n+2) m j:=by
 have Y:AB (fun i=>if j+i<j then u (j+i)else if j+i<j+n+3 then d (j+i-j)else u (j+i)) (n+3)=AB d (n+3):=
  CY fun i hi=>by
   show(if j+i<j then u (j+i)else if j+i<j+n+3 then d (j+i-j)else u (j+i))=d i
   rw[Aj Aa,Ao Aa,show j+i-j=i by omega]
 have Z:d (n+2)=0:=by
  have e:AB d (n+3)=AB d (n+2)+d (n+2)*pw (n+2):=rfl
  rcases Nat.eq_zero_or_pos (d (n+2))with X|X
  . exact X
  have:1*pw (n+2)<=d (n+2)*pw (n+2):=Nat.mul_le_mul_right _ X;omega
 refine⟨fun i=>?_,fun i=>?_,fun i hi=>?_,fun i hi=>?_,?_,?_⟩
 .show(if i<j then u i else if i<j+n+3 then d (i-j)else u i)<_
  have:=h.hu i;have:=J (i-j)
  split
  . assumption
  split<;>assumption
 .show(if i=j then g else q i)<_
  have:=h.hq i
  split<;>assumption
 .show(if i=j then g else q i)=0
  rw[Aj Aa];exact h.low i Aa
 .show(if i<j then u i else if i<j+n+3 then d (i-j)else u i)=0
  rw[Aj Aa]
  split
  . rw[show i-j=n+2 by omega];exact Z
  exact h.high i Aa
 .have e:AB (fun i=>if j+i<j then u (j+i)else if j+i<j+n+3 then d (j+i-j)else u (j+i)) (n+3)=AB (fun i=>if j+i<j then u (j+i)else if j+i<j+n+3 then d (j+i-j)else u (j+i)) (n+2)+(if j+(n+2)<j then u (j+(n+2))else if j+(n+2)<j+n+3 then d (j+(n+2)-j)else u (j+(n+2)))*pw (n+2):=rfl
  show AB (fun i=>if j+i<j then u (j+i)else if j+i<j+n+3 then d (j+i-j)else u (j+i)) (n+2)<V
  omega
 have N:=h.sum
 have M:=UL (f:=u) (g:=fun i=>if i<j then u i else if i<j+n+3 then d (i-j)else u i) (L:=m+(n+2)+1) (j:=j) (a:=n+3) (b:=m-j) Aa
  (fun i hi=>by show(if i<j then u i else _)=_;rw[Ao hi]) (fun i hi=>by show(if i<j then u i else if i<j+n+3 then d (i-j)else u i)=_;rw[Aj Aa,Aj Aa])
 rw[Y]at M
 have U:=UL (f:=q) (g:=fun i=>if i=j then g else q i) (L:=m+1) (j:=j) (a:=1) (b:=m-j) Aa
  (fun i hi=>by show(if i=j then g else q i)=_;rw[Aj Aa]) (fun i hi=>by show(if i=j then g else q i)=_;rw[Aj Aa])
 have R:AB (fun i=>if j+i=j then g else q (j+i)) 1=g:=by
  show 0+(if j+0=j then g else q (j+0))*pw 0=g
  rw[Nat.add_zero,Ao rfl,KA];omega
 have O:AB (fun i=>q (j+i)) 1=0:=by
  show 0+q (j+0)*pw 0=0
  rw[Nat.add_zero,h.low j Aa];omega
 rw[R,O,Nat.zero_mul,Nat.add_zero]at U
 show AB (fun i=>if i=j then g else q i) (m+1)*V+AB (fun i=>if i<j then u i else if i<j+n+3 then d (i-j)else u i) (m+(n+2)+1)=W
 rw[U,Nat.add_mul,←N]
 have H:g*pw j*V+AB d (n+3)*pw j=AB (fun i=>u (j+i)) (n+3)*pw j:=by
  rw[←hsum,Nat.add_mul,Nat.mul_right_comm]
 omega
def Whole.next'{Y V:Nat}{u q:Nat->Nat}{n m j:Nat}(h:Whole Y V u q (n+2) m (j+1))(U:j<=m)(Z:V<pw (n+2)){d:Nat->Nat}{g:Nat}(W:∀i,d i<4294967296)(X:g<4294967296)(hq:g=AB (fun i=>u (j+i)) (n+3)/V)(hr:AB d (n+3)=AB (fun i=>u (j+i)) (n+3)%V)(hp:0<V):
  Whole Y V (win u d j (n+3)) (fun i=>if i=j then g else q i) (n+2) m j:=
 h.next U Z W X (by rw[hq,hr,Nat.mul_comm];exact Nat.div_add_mod _ _) (by rw[hr];exact Nat.mod_lt _ hp)
def Whole.done{Z V:Nat}{u q:Nat->Nat}{n m:Nat}(h:Whole Z V u q n m 0):AB q (m+1)=Z/V/\AB u (m+n+1)=Z%V:=by
 have X:=h.sum;have Y:=h.lt;have e:AB u (m+n+1)=AB u n:=Ja Aa (fun i hi _=>h.high i Aa)
 have W:AB (fun i=>u (0+i)) n=AB u n:=CY fun i _=>by rw[Nat.zero_add]
 rw[W]at Y;rw[e]at X ⊢;have U:0<V:=Aa
 constructor
 .symm
  rw[Nat.div_eq_iff U];omega
 rw[←X,Nat.mul_add_mod_self_right,Nat.mod_eq_of_lt Y]
def Whole.step{U V:Nat}{u q:Nat->Nat}{n m j:Nat}{v:Nat->Nat}(h:Whole U V u q (n+2) m (j+1))(T:∀i,v i<4294967296)(W:AB v (n+2)=V)(Y:2147483648<=v (n+1)):Step (fun i=>u (j+i)) v n:=by
 refine⟨fun i=>h.hu _,T,Y,?_⟩;have O:=h.lt;have R:=h.hu j;rw[W];have e:AB (fun i=>u (j+i)) (1+(n+2))=_:=FL (fun i=>u (j+i)) 1 (n+2)
 have X:AB (fun i=>u (j+i)) 1=u j:=by
  show 0+u (j+0)*pw 0=_
  rw[KA];simp
 have Z:AB (fun i=>u (j+(1+i))) (n+2)=AB (fun i=>u (j+1+i)) (n+2):=CY fun i _=>by rw[Nat.add_assoc]
 rw[show n+3=1+(n+2)by omega,e,X,Z,show pw 1=4294967296 from rfl]
 omega
def Whole.first{Z V:Nat}{u:Nat->Nat}{n m:Nat}(X:∀i,u i<4294967296)(Y:∀i,m+n+2<=i->u i=0)(W:pw (n+1)<=V)(T:AB u (m+n+3)=Z):Whole Z V u (fun _=>0) (n+2) m (m+1):=by
 refine⟨X,fun _=>by omega,fun _ _=>rfl,fun i hi=>Y i Aa,?_,?_⟩
 .have e:AB (fun i=>u (m+1+i)) (n+2)=AB (fun i=>u (m+1+i)) (n+1)+u (m+1+(n+1))*pw (n+1):=rfl;have U:=Fw (f:=fun i=>u (m+1+i)) (n:=n+1) (fun i _=>X _);rw[e,Y _ Aa];omega
 have e:AB (fun _=>0) (m+1)=0:=Ja (a:=0) (Nat.zero_le _) (fun _ _ _=>rfl)
 rw[e,show m+(n+2)+1=m+n+3 by omega]
 omega
def kg{b N s:Nat}(Y:Jq b N)(hb:4294967296<=b)(U:s+(N-1)%32=31):∃n,n+1=(N-1)/32/\b*2 ^ s<pw (n+2)/\2147483648*pw (n+1)<=b*2 ^ s:=by
 obtain⟨V,X,W⟩:=Y.2 Aa
 have Z:33<=N:=by
  rcases Nat.lt_or_ge N 33 with h|h
  .have:2 ^ N<=2 ^ 32:=Nat.pow_le_pow_right Aa Aa;omega
  exact h
 refine⟨(N-1)/32-1,Aa,?_,?_⟩
 .rw[Jz]
  have e:2 ^ (32*((N-1)/32-1+2))=2 ^ N*2 ^ s:=by rw[←Nat.pow_add];congr 1;omega
  rw[e];exact Nat.mul_lt_mul_of_pos_right W (Nat.two_pow_pos s)
 have e:2147483648*pw ((N-1)/32-1+1)=2 ^ (N-1)*2 ^ s:=by
  rw[Jz,show(2147483648:Nat)=2 ^ 31 from rfl,←Nat.pow_add,←Nat.pow_add];congr 1;omega
 rw[e];exact Nat.mul_le_mul_right _ X
def ji{l:List Nat}(Z:small l)(W:DY l){n:Nat}(U:val l<pw (n+2))(N:2147483648*pw (n+1)<=val l):l.length=n+2/\2147483648<=l.getD (n+1) 0/\AB (fun i=>l.getD i 0) (n+2)=val l:=by
 have O:=length_le W U
 have Y:n+2<=l.length:=by
  rcases Nat.lt_or_ge l.length (n+2)with h|h
  .have T:=I4 Z
   have:=KH (show l.length<=n+1 by omega)
   have:=KW (n+1);omega
  exact h
 have e:l.length=n+2:=Aa
 have V:AB (fun i=>l.getD i 0) (n+2)=val l:=by unfold val;rw[e]
 refine⟨e,?_,V⟩;have T:AB (fun i=>l.getD i 0) (n+2)=AB (fun i=>l.getD i 0) (n+1)+l.getD (n+1) 0*pw (n+1):=rfl;have R:=Fw (f:=fun i=>l.getD i 0) (n:=n+1) (fun i _=>getD_lt Z i)
 have X:2147483648*pw (n+1)<(l.getD (n+1) 0+1)*pw (n+1):=by rw[Nat.add_mul];omega
 have:=Nat.lt_of_mul_lt_mul_right X;omega
end BigLaw
namespace BigLaw
def Jy(f:Nat->Nat)(s i:Nat):Nat:=(f i+f (i+1)*4294967296)/2 ^ s%4294967296
def U2{s:Nat}(Z:s<32):2 ^ s*2 ^ (32-s)=4294967296:=by
 rw[←Nat.pow_add,show s+(32-s)=32 by omega]
def dz{f:Nat->Nat}{s:Nat}(O:s<32)(U:∀i,f i<4294967296)(i:Nat):Jy f s i=f i/2 ^ s+f (i+1)%2 ^ s*2 ^ (32-s):=by
 have Z:=U2 O;have Y:=Nat.two_pow_pos s;have R:=Nat.two_pow_pos (32-s)
 unfold Jy
 have N:f (i+1)*4294967296=f (i+1)*2 ^ (32-s)*2 ^ s:=by rw[←Z,Nat.mul_assoc,Nat.mul_comm (2 ^ s)]
 rw[N,Nat.add_mul_div_right _ _ Y]
 have W:f (i+1)*2 ^ (32-s)=f (i+1)%2 ^ s*2 ^ (32-s)+f (i+1)/2 ^ s*4294967296:=by
  have V:f (i+1)*2 ^ (32-s)=(2 ^ s*(f (i+1)/2 ^ s)+f (i+1)%2 ^ s)*2 ^ (32-s):=by rw[Nat.div_add_mod]
  rw[V,Nat.add_mul,Nat.mul_right_comm,Z,Nat.mul_comm 4294967296,Nat.add_comm]
 rw[W,←Nat.add_assoc,Nat.add_mul_mod_self_right]
 have T:f i/2 ^ s<2 ^ (32-s):=by
  rw[Nat.div_lt_iff_lt_mul Y,Nat.mul_comm,Z];exact U i
 have X:(f (i+1)%2 ^ s+1)*2 ^ (32-s)<=2 ^ s*2 ^ (32-s):=Nat.mul_le_mul_right _ (Nat.mod_lt _ Y);rw[Z,Nat.add_mul,Nat.one_mul]at X;generalize f i/2 ^ s=a at T ⊢;generalize f (i+1)%2 ^ s*2 ^ (32-s)=b at X ⊢;omega
def Ti{f:Nat->Nat}{s:Nat}(Z:s<32)(Y:∀i,f i<4294967296):∀k,2 ^ s*AB (Jy f s) k+f 0%2 ^ s=AB f k+f k%2 ^ s*pw k
 |0=>by simp[AB,KA]
 |k+1=>by
  have V:=Ti Z Y k
  unfold AB
  have U:2 ^ s*(Jy f s k*pw k)+f k%2 ^ s*pw k=f k*pw k+f (k+1)%2 ^ s*pw (k+1):=by
   have W:=Nat.div_add_mod (f k) (2 ^ s)
   have X:2 ^ s*Jy f s k+f k%2 ^ s=f k+f (k+1)%2 ^ s*4294967296:=by
    rw[dz Z Y,Nat.mul_add]
    have:2 ^ s*(f (k+1)%2 ^ s*2 ^ (32-s))=f (k+1)%2 ^ s*4294967296:=by
     rw[←U2 Z,Nat.mul_left_comm]
    omega
   rw[←Nat.mul_assoc,←Nat.add_mul,X,Nat.add_mul,Fu,←Nat.mul_assoc]
  rw[Nat.mul_add];omega
def ZU{f:Nat->Nat}{s n:Nat}(W:s<32)(X:∀i,f i<4294967296)(Y:f n=0):AB (Jy f s) n=AB f n/2 ^ s:=by
 have h:=Ti W X n;have Z:=Nat.two_pow_pos s;have V:=Nat.mod_lt (f 0) Z;rw[Y,Nat.zero_mod,Nat.zero_mul,Nat.add_zero]at h
 symm
 rw[Nat.div_eq_iff Z,Nat.mul_comm];omega
def WU(l:List Nat)(Z:small l){s w:Nat}(Y:s<32)(X:w<=l.length):
  AB (Jy (fun i=>l.getD (w+i) 0) s) (l.length-w)=val l/2 ^ (32*w+s):=by
 rw[ZU Y (fun i=>getD_lt Z _) (by rw[List.getD_eq_getElem?_getD,List.getElem?_eq_none Aa];rfl)];rw[Nat.pow_add,←Nat.div_div_eq_div_mul,←Jz]
 congr 1
 have e:val l=AB (fun i=>l.getD i 0) (w+(l.length-w)):=by unfold val;rw[show w+(l.length-w)=l.length by omega]
 rw[e,FL];have W:=Fw (f:=fun i=>l.getD i 0) (n:=w) (fun i _=>getD_lt Z i)
 symm
 rw[Nat.div_eq_iff (KW w)];omega
def UG(l:List Nat)(k:Nat):Nat:=AB (fun i=>l.getD (k+i) 0) (l.length-k)
def YQ(l:List Nat):UG l 0=val l:=by
 unfold UG val
 exact CY fun i _=>by rw[Nat.zero_add]
def Zk(l:List Nat):UG l l.length=0:=by unfold UG;rw[Nat.sub_self];rfl
def UY(l:List Nat){k:Nat}(X:k<l.length):UG l k=UG l (k+1)*4294967296+l.getD k 0:=by
 unfold UG
 rw[show l.length-k=1+(l.length-(k+1))by omega,FL]
 have Y:AB (fun i=>l.getD (k+i) 0) 1=l.getD k 0:=by
  show 0+l.getD (k+0) 0*pw 0=_
  rw[KA];simp
 have Z:AB (fun i=>l.getD (k+(1+i)) 0) (l.length-(k+1))=AB (fun i=>l.getD (k+1+i) 0) (l.length-(k+1)):=CY fun i _=>by rw[Nat.add_assoc]
 rw[Y,Z,show pw 1=4294967296 from rfl]
 omega
def EK(l:List Nat)(d k:Nat):Nat:=(UG l (k+1)%d*4294967296+l.getD k 0)/d
def S9{l:List Nat}(Y:small l){d:Nat}(Z:0<d)(k:Nat):EK l d k<4294967296:=by
 unfold EK
 rw[Nat.div_lt_iff_lt_mul Z];have X:=Nat.mod_lt (UG l (k+1)) Z;have W:=getD_lt Y k;have V:(UG l (k+1)%d+1)*4294967296<=d*4294967296:=Nat.mul_le_mul_right _ X;rw[Nat.mul_comm 4294967296];omega
def YX(x d a:Nat):x*4294967296+a=x%d*4294967296+a+x/d*4294967296*d:=by
 have Z:x*4294967296=(d*(x/d)+x%d)*4294967296:=by rw[Nat.div_add_mod]
 rw[Z,Nat.add_mul,Nat.mul_right_comm,Nat.mul_comm (d*4294967296),Nat.mul_comm d,←Nat.mul_assoc,Nat.add_assoc,Nat.add_comm]
def Xh(l:List Nat)(d:Nat){k:Nat}(Z:k<l.length):UG l k%d=(UG l (k+1)%d*4294967296+l.getD k 0)%d:=by
 rw[UY l Z,YX,Nat.add_mul_mod_self_right]
def Qr(l:List Nat){d:Nat}(Z:0<d):∀(n k:Nat),k+n=l.length->AB (fun i=>EK l d (k+i)) n=UG l k/d
 |0,k,h=>by
  obtain rfl:k=l.length:=Aa;rw[Zk];simp[AB]
 |n+1,k,h=>by
  have X:=Qr l Z n (k+1) Aa;have e:AB (fun i=>EK l d (k+i)) (1+n)=_:=FL (fun i=>EK l d (k+i)) 1 n
  have W:AB (fun i=>EK l d (k+i)) 1=EK l d k:=by
   show 0+EK l d (k+0)*pw 0=_
   rw[KA];simp
  have Y:AB (fun i=>EK l d (k+(1+i))) n=AB (fun i=>EK l d (k+1+i)) n:=CY fun i _=>by rw[Nat.add_assoc]
  rw[Nat.add_comm n 1,e,W,Y,X,show pw 1=4294967296 from rfl,UY l (show k<l.length by omega)]
  unfold EK
  rw[YX (UG l (k+1)) d,Nat.add_mul_div_right _ _ Z]
def aW(l:List Nat){d:Nat}(Z:0<d):AB (EK l d) l.length=val l/d:=by
 rw[←YQ,←Qr l Z l.length 0 Aa]
 exact CY fun i _=>by rw[Nat.zero_add]
end BigLaw
namespace BigW
open Go.RowKit Mem BigLaw
def Lu(A:Option Addr)(c:Nat)(l:List Nat)(n Z s:Nat)(B:Nat)(w:World)(hB:B<=w.heap.size)(h:Wd w B A c l)(qZ:l.length<=1000000)(g:n=32*Z+s)(hs:s<32)(hw:Z<=1000000):
  Calls prog 187 #[.slice A l.length c,.int .u64 (n:Int)] w fun e w'=>Q0 w w' (val l/2 ^ n) e:=by
 have hq:(n:Int)/32=(Z:Int):=Aa;have hr:(n:Int)%32=(s:Int):=Aa;have L:=zz g;have H:=zz h;clear g h
 by_cases u:l.length<=Z
 .have HZ:=zz (show val l/2 ^ n=0 by
   refine Nat.div_eq_of_lt (Nat.lt_of_lt_of_le (I4 H.o.small) (Nat.le_trans (KH u) ?_));rw[Jz]
   exact Nat.pow_le_pow_right Aa (by have:=L.o;omega))
  have T:n<=32000031:=by have:=L.o;omega
  go_in
  go_wp2_with fail
  go_ret
  exact⟨none,0,[],rfl,Wd.nil _ _,fun h=>by simp at h,by rw[HZ.o];rfl,Below.refl _ _⟩
 have T:n<=32000031:=by have:=L.o;omega
 obtain⟨m,z⟩:∃m,l.length=Z+m:=⟨l.length-Z,Aa⟩;have qU:0<m:=Aa;have qQ:m<=1000000:=Aa;have V:=zz z;clear u z
 have J:(l.length:Int)=(Z:Int)+(m:Int):=by have:=V.o;omega
 rw[V.o];have v:¬((Z:Int)+(m:Int))<=(Z:Int):=Aa;clear J;have rq:((Z:Int)+(m:Int))-(Z:Int)=(m:Int):=Aa
 go_in
 go_wp2_with(refine wpList_make_row rfl _ _ _ rfl Ig m rfl rfl BG BG Aa Aa ?_)
 go_loopw[8] (fun i wr=>∃k:Nat,k<=m/\i=.int .i64 k/\Ae wr w.heap.size 172 (BH .u32 m fun j=>if j<k then(Jy (fun i=>l.getD (Z+i) 0) s j:Int)else 0)/\Below w.heap.size w wr) (fun i _=>m-(intOf i).toNat)
 .exact⟨0,Aa,rfl,Ae.none (Ae.new rfl),DC⟩
 obtain⟨k,hk,rfl,Y,hb⟩:=hrel
 by_cases M:k<m
 .obtain⟨b,o,rfl,qW,R⟩:=(H.o.keep (w':=wr) (fun b o E=>BF hb b o Aa)).at_ (show Z+k<l.length by have:=V.o;omega)
  have C:=getD_lt H.o.small (Z+k);have I:=Y.IU M;have G:=Y.thaw k
  have U:=zz (show Jy (fun i=>l.getD (Z+i) 0) s k=(l.getD (Z+k) 0+l.getD (Z+(k+1)) 0*4294967296)/2 ^ s%4294967296 from rfl)
  have qR:IntKind.i64.wrap ((k:Int)+(Z:Int))=(k:Int)+(Z:Int):=IntWalk.i64_in _ Aa;have qY:(0:Int)<=(k:Int)+(Z:Int):=Aa;have qX:(k:Int)+(Z:Int)<(Z:Int)+(m:Int):=Aa;have qV:((k:Int)+(Z:Int)).toNat=Z+k:=Aa;have q:(k:Int)<(m:Int):=Aa
  by_cases W:Z+k+1<l.length
  .obtain⟨b',o',e,_,N⟩:=(H.o.keep (w':=wr) (fun b o E=>BF hb b o Aa)).at_ W
   injection e with e
   injection e with e1 e2
   subst e1 e2;have hy:=getD_lt H.o.small (Z+(k+1));rw[Nat.add_assoc Z k 1]at N;generalize l.getD (Z+k) 0=x at R C U;generalize l.getD (Z+(k+1)) 0=y at N hy U;have hor:=gV x y C hy
   have F:(k:Int)+(Z:Int)+1<(Z:Int)+(m:Int):=by have:=V.o;omega
   have f:((k:Int)+(Z:Int)+1).toNat=Z+(k+1):=Aa
   have O:=zz (show((x:Int)+(y:Int)*4294967296)/2 ^ s=(((x+y*4294967296)/2 ^ s:Nat):Int)by
    rw[Int.natCast_ediv,Int.natCast_add,Int.natCast_mul,Int.natCast_pow];rfl)
   clear W;go_wp2_with fail;refine⟨⟨k+1,Aa,BG,Y.upto (by rw[U.o,O.o,Int.natCast_emod];rfl),hb.setCell Nr _⟩,Ck⟩
  have d:=zz (Dg (l:=l) (i:=Z+(k+1)) Aa);generalize l.getD (Z+k) 0=x at R C U;rw[d.o]at U
  have F:¬(k:Int)+(Z:Int)+1<(Z:Int)+(m:Int):=by have:=V.o;omega
  have O:=zz (show(x:Int)/2 ^ s=((x/2 ^ s:Nat):Int)by
   rw[Int.natCast_ediv,Int.natCast_pow];rfl)
  clear W;go_wp2_with fail;refine⟨⟨k+1,Aa,BG,Y.upto (by rw[U.o,O.o,Nat.zero_mul,Nat.add_zero,Int.natCast_emod];rfl),hb.setCell Nr _⟩,Ck⟩
 obtain rfl:k=m:=Aa;have X:=Y.all;have hg:=X.lt;have t:=zz (ES X Aa (fun i _=>Nat.mod_lt _ Aa))
 have O:=zz (show val ((List.range k).map (Jy (fun i=>l.getD (Z+i) 0) s))=val l/2 ^ n by
  rw[GK,L.o,←WU l H.o.small hs (show Z<=l.length by have:=V.o;omega)]
  congr 1
  have:=V.o;omega)
 have D:=FK _ _ _ _ _ t.o;rw[List.length_map,List.length_range]at D;have HT:=zz D;clear M D;go_wp2_with fail;refine HT.o.mono ?_;rintro e w' ⟨r,rfl⟩;obtain⟨A,c,l1,rfl,p⟩:=Dc (n:=val l/2 ^ n) t.o Aa hb O.o r;have H2:=zz p;clear p r;go_wp2_with fail
 go_ret
 exact⟨A,c,l1,rfl,H2.o⟩
def pz(w w':World)(q r:Nat)(e:Ending):Prop:=∃A c l,e=.returned (.tuple #[.slice A l.length c,.int .u32 (r:Int)])/\Wd w' w'.heap.size A c l/\DY l/\val l=q/\Below w.heap.size w w'
def aP(A:Option Addr)(c:Nat)(l:List Nat)(d:Nat)(B:Nat)(w:World)(hB:B<=w.heap.size)(h:Wd w B A c l)(qU:l.length<=1000000)(J:0<d)(qW:d<4294967296):
  Calls prog 185 #[.slice A l.length c,.int .u32 (d:Int)] w fun e w'=>pz w w' (val l/d) (val l%d) e:=by
 have H:=zz h;clear h
 go_in
 go_wp2_with(refine wpList_make_row rfl _ _ _ rfl Ig l.length rfl rfl BG BG Aa Aa ?_)
 go_loopw[7,8] (fun r i wr=>∃k:Nat,k<=l.length/\i=.int .i64 ((k:Int)-1)/\r=.int .u64 (UG l k%d:Nat)/\Ae wr w.heap.size 172 (BH .u32 l.length fun j=>if j<k then 0 else(EK l d j:Int))/\Below w.heap.size w wr) (fun _ i _=>(intOf i+1).toNat)
 .refine⟨l.length,Nat.le_refl _,rfl,by rw[Zk,Nat.zero_mod];rfl,?_,DC⟩;rw[EA (g:=fun _=>0) (fun i hi=>Ao hi)];exact Ae.new rfl
 obtain⟨k,hk,rfl,rfl,Z,hb⟩:=hrel;have W:UG l k%d<d:=Nat.mod_lt _ J
 by_cases L:0<k
 .obtain⟨q,rfl⟩:∃q,k=q+1:=⟨k-1,Aa⟩
  rw[show((q+1:Nat):Int)-1=(q:Int)by omega]
  obtain⟨b,o,rfl,p,I⟩:=(H.o.keep (w':=wr) (fun b o qR=>BF hb b o Aa)).at_ (show q<l.length by omega)
  have D:=getD_lt H.o.small q;have V:=Z.cell q;rw[Cu _ _ _ _ Aa,Ao Aa]at V;have G:=Z.thaw q;have u:=S9 H.o.small J q
  have T:=zz (show EK l d q=(UG l (q+1)%d*4294967296+l.getD q 0)/d from rfl)
  have U:=zz (Xh l d (show q<l.length by omega))
  have HB:=zz (show(BH .u32 l.length fun j=>if j<q+1 then 0 else(EK l d j:Int)).setIfInBounds q (.int .u32 (EK l d q:Nat))=BH .u32 l.length fun j=>if j<q then 0 else(EK l d j:Int)from Es fun i hi=>by
   by_cases e:i=q
   . subst e;rw[Ao rfl,Aj Aa]
   rw[Aj e]
   by_cases v:i<q
   . rw[Ao v,Ao Aa]
   rw[Aj v,Aj Aa])
  generalize UG l (q+1)%d=r at W T U;generalize l.getD q 0=x at I D T U;have hor:=gV x r D Aa
  have M:bits .or .u64 ((r:Int)*4294967296) (x:Int)=((r*4294967296+x:Nat):Int):=by
   have h:=u64_or_nat (r*4294967296) x Aa Aa;rw[Nat.or_comm,Oz x (r*4294967296) 32 Aa Aa]at h;have e:((r*4294967296:Nat):Int)=(r:Int)*4294967296:=Aa;rw[e]at h;exact h
  clear hor;generalize z:r*4294967296+x=X at M T U;have qQ:X<18446744073709551616:=Aa;have qY:¬(d:Int)=0:=Aa;have qV:¬d=0:=Aa
  have hq:IntKind.u64.wrap ((X:Int)/(d:Int))=((X/d:Nat):Int):=by
   have e:(X:Int)/(d:Int)=((X/d:Nat):Int):=rfl;have:=Nat.div_le_self X d;rw[e,Cz];generalize X/d=Q at this ⊢;omega
  have hr:(X:Int).tmod (d:Int)=((X%d:Nat):Int):=rfl;rw[T.o]at u;have HX:=zz z;generalize O:X/d=Q at hq u T;generalize N:X%d=R at hr U;have qX:=zz (And.intro O N);clear z O N;go_wp2_with fail;refine⟨⟨q,Aa,rfl,by rw[U.o],?_,hb.setCell Nr _⟩,by simp[intOf]⟩;rw[←HB.o,T.o];exact Z.set _ _
 obtain rfl:k=0:=Aa
 have Y:Ae wr w.heap.size 172 (BH .u32 l.length fun j=>(EK l d j:Int)):=by
  rw[←EA (f:=fun j=>if j<0 then 0 else(EK l d j:Int)) (fun i hi=>Aj Aa)];exact Z
 have hg:=Y.lt;have t:=zz (ES Y Aa (fun i _=>S9 H.o.small J i))
 have HV:=zz (show val ((List.range l.length).map (EK l d))=val l/d by rw[GK,aW l J])
 have F:=FK _ _ _ _ _ t.o;rw[List.length_map,List.length_range]at F;have HT:=zz F;rw[YQ]at W ⊢;generalize C:val l%d=r at W ⊢;have U:=zz C;clear L F C;go_wp2_with fail;refine HT.o.mono ?_;rintro e w' ⟨E,rfl⟩;obtain⟨A,c,s,rfl,y⟩:=Dc (n:=val l/d) t.o Aa hb HV.o E;have m:=zz y;clear y E;go_wp2_with fail
 go_ret2
 exact⟨A,c,s,by rw[U.o];rfl,m.o⟩
end BigW
end Go.Proofs.YtjobajeggllmiaaGreat
