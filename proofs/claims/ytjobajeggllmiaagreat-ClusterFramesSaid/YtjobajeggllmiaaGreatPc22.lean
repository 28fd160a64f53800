import Derived.Test.YtjobajeggllmiaaGreatPc0
import Derived.Shelf.Small.Bits
import Derived.Test.YtjobajeggllmiaaGreatPc21
set_option linter.all false
set_option maxHeartbeats 100000000
set_option maxRecDepth 100000
namespace Go.Proofs.YtjobajeggllmiaaGreat
open _root_.Go.Proofs.Tryz
namespace BigW
open Go.RowKit Mem BigLaw FixDivLaw
def fdiv(a b:Int):Int×Bool:=if b=0 then(if 0<a then(9223372036854775807,true)else if a<0 then(-9223372036854775808,true)else(0,true))else stop (nearest a b)
def XF(a b:Int)(w:World)(ha: -9223372036854775808<=a/\a<=9223372036854775807)(hb: -9223372036854775808<=b/\b<=9223372036854775807):
  Calls prog 140 #[.int .i64 a,.int .i64 b] w fun e w'=>e=.returned (.tuple #[.int .i64 (fdiv a b).1,.bool (fdiv a b).2])/\Below w.heap.size w w':=by
 have f:=zz ha;have HB:=zz hb
 by_cases h0:b=0
 .subst h0
  rcases Int.lt_trichotomy a 0 with h|h|h
  .have E:=zz (show fdiv a 0=(-9223372036854775808,true)by unfold fdiv;rw[Ao rfl,Aj Aa,Ao h])
   clear ha hb
   go_in
   go_wp2_with fail
   go_ret2
   exact⟨by rw[E.o];rfl,Below.refl _ _⟩
  .subst h
   have E:=zz (show fdiv 0 0=(0,true)by unfold fdiv;rw[Ao rfl,Aj Aa,Aj Aa])
   clear ha hb
   go_in
   go_wp2_with fail
   go_ret2
   exact⟨by rw[E.o];rfl,Below.refl _ _⟩
  have E:=zz (show fdiv a 0=(9223372036854775807,true)by unfold fdiv;rw[Ao rfl,Ao h])
  clear ha hb
  go_in
  go_wp2_with fail
  go_ret2
  exact⟨by rw[E.o];rfl,Below.refl _ _⟩
 have rH:(b==0)=false:=by simp[h0]
 have E:=zz (show fdiv a b=stop (nearest a b)by unfold fdiv;rw[Aj h0])
 have HI:=zz (EN w);have H0:=zz h0;clear ha hb h0
 go_in
 go_wp2_with fail;refine(EO a _ f.o).mono ?_;rintro e w1 ⟨p1,rfl,rJ,qU,qW⟩;have ru:=zz qU;have rE:=zz (HI.o.below qW HI.o.lt);have rC:=zz (Bh ((Below.refl w.heap.size w).alloc Nr (.cells aK 159)) Nr qW);clear qU;go_wp2_with fail;refine(Kz w.heap.size p1 a 33 1 1 _ rE.o ru.o (Cn (by have:=f.o;omega)) rfl Aa Aa).mono ?_;rintro e w2 ⟨rfl,c,qQ⟩;have qZ:=zz c;have qV:=zz (below_grown rC.o Nr qQ (fun g e=>by injection e with e;omega));clear c qQ;go_wp2_with fail;refine(EO b _ HB.o).mono ?_;rintro e w3 ⟨p3,rfl,rG,d,qX⟩;have t:=zz d;have V:=zz (qZ.o.below qX);have j:=CU qV qX;clear d
 have qR:w.heap.size≠p3:=by have:=qZ.o.lt;omega
 by_cases hn:b<0
 .have W:=zz (show(-(a*2 ^ 33)).natAbs<=79228162514264337593543950336 by have:=f.o;omega)
  have Z:=zz (show 0< -b/\ -b<=9223372036854775808 by have:=HB.o;omega)
  have U:=zz (show(-(a*2 ^ 33)+ -b)/(-b*2 ^ 1)=nearest a b by
   unfold nearest;rw[Ao hn]
   rw[show-(a*2 ^ 33)+ -b= -a*8589934592+ -b by omega,show-b*2 ^ 1=2* -b by omega])
  go_wp2_with fail;refine(QZ w.heap.size w.heap.size (a*2 ^ 33) _ V.o.isInt V.o (Cn (by have:=f.o;omega))).mono ?_;rintro e w4 ⟨rfl,qY,A⟩;have rF:=zz qY;have H:=zz (t.o.grown V.o.isInt A (fun e=>qR e.symm));have rD:=zz (below_grown j.o Nr A (fun g e=>by injection e with e;omega));clear qY A;go_wp2_with fail;refine(QZ p3 p3 b _ H.o.isInt H.o (Cn (by have:=HB.o;omega))).mono ?_;rintro e w5 ⟨rfl,i,z⟩;have m:=zz i;have F:=zz (rF.o.grown H.o.isInt z qR);have x:=zz (below_grown rD.o Nr z (fun g e=>by injection e with e;have:=qV.o.size;omega));clear i z;generalize-(a*2 ^ 33)=X at W U F;generalize-b=Y at Z U m;clear hn;go_wp2_with fail;refine(Hu w.heap.size w.heap.size p3 X Y _ F.o.isInt F.o m.o (Cn (by have:=W.o;omega)) (Cn (by have:=Z.o;omega))).mono ?_;rintro e C ⟨rfl,L,O⟩;have I:=zz L;have s:=zz (m.o.grown F.o.isInt O Aa);have R:=zz (below_grown x.o Nr O (fun g e=>by injection e with e;omega));have G:=zz (EN C);have u:=zz (s.o.alloc (.cells aK 159));have y:=zz (I.o.alloc (.cells aK 159));have B:=zz (R.o.alloc R.o.size (.cells aK 159));clear L O;go_wp2_with fail;refine(Kz C.heap.size p3 Y 1 0 1 _ G.o u.o (Cn (by have:=Z.o;omega)) rfl Aa Aa).mono ?_
  rintro e w8 ⟨rfl,M,T⟩;have v:=zz M;have N:=zz (y.o.grown G.o T (by have:=I.o.lt;omega));have n:=zz (below_grown B.o Nr T (fun g e=>by injection e with e;have:=R.o.size;omega));clear M T;go_wp2_with fail;refine(M0 w.heap.size C.heap.size (X+Y) (Y*2 ^ 1) _ N.o v.o (Cn (by have:=W.o;have:=Z.o;omega)) (by have:=Z.o;omega) (Cn (by have:=Z.o;omega))).mono ?_;rintro e w9 ⟨p9,rfl,rA,J,l⟩;have D:=zz J;have k:=CU n l
  have p:=zz (show((X+Y)/(Y*2 ^ 1)).natAbs<=(X+Y).natAbs from Int.natAbs_ediv_le_natAbs _ _)
  clear J;go_wp2_with fail;refine(KR p9 _ _ D.o (Cn (by have:=p.o;have:=W.o;have:=Z.o;omega))).mono ?_;rintro e rq ⟨rfl,rfl⟩
  rw[show(X+Y)/(Y*2 ^ 1)=nearest a b from U.o]
  obtain⟨r,q⟩:=AJ (stop (nearest a b));have HR:=zz (E.o.trans q);rw[q];clear q;go_wp2_with fail
  go_ret2
  exact⟨by rw[HR.o];rfl,k.o⟩
 have W:=zz (show(a*2 ^ 33).natAbs<=79228162514264337593543950336 by have:=f.o;omega)
 have Z:=zz (show 0<b/\b<=9223372036854775808 by have:=HB.o;have:=H0.o;omega)
 have U:=zz (show(a*2 ^ 33+b)/(b*2 ^ 1)=nearest a b by
  unfold nearest;rw[Aj hn]
  rw[show a*2 ^ 33+b=a*8589934592+b by omega,show b*2 ^ 1=2*b by omega])
 have m:=t;have F:=V;have x:=j;obtain⟨X,hX⟩:=AJ (a*2 ^ 33);obtain⟨Y,hY⟩:=AJ (b);rw[hX]at W U F;rw[hY]at Z m;have U:Hid ((X+Y)/(Y*2 ^ 1)=nearest a b):=zz (by rw[←hY];exact U.o);clear hX hY t V;go_wp2_with fail;refine(Hu w.heap.size w.heap.size p3 X Y _ F.o.isInt F.o m.o (Cn (by have:=W.o;omega)) (Cn (by have:=Z.o;omega))).mono ?_;rintro e C ⟨rfl,L,O⟩;have I:=zz L;have s:=zz (m.o.grown F.o.isInt O Aa);have R:=zz (below_grown x.o Nr O (fun g e=>by injection e with e;omega));have G:=zz (EN C);have u:=zz (s.o.alloc (.cells aK 159));have y:=zz (I.o.alloc (.cells aK 159));have B:=zz (R.o.alloc R.o.size (.cells aK 159));clear L O;go_wp2_with fail;refine(Kz C.heap.size p3 Y 1 0 1 _ G.o u.o (Cn (by have:=Z.o;omega)) rfl Aa Aa).mono ?_;rintro e w8 ⟨rfl,M,T⟩;have v:=zz M;have N:=zz (y.o.grown G.o T (by have:=I.o.lt;omega));have n:=zz (below_grown B.o Nr T (fun g e=>by injection e with e;have:=R.o.size;omega));clear M T;go_wp2_with fail;refine(M0 w.heap.size C.heap.size (X+Y) (Y*2 ^ 1) _ N.o v.o (Cn (by have:=W.o;have:=Z.o;omega)) (by have:=Z.o;omega) (Cn (by have:=Z.o;omega))).mono ?_;rintro e w9 ⟨p9,rfl,rA,J,l⟩
 have D:=zz J;have k:=CU n l
 have p:=zz (show((X+Y)/(Y*2 ^ 1)).natAbs<=(X+Y).natAbs from Int.natAbs_ediv_le_natAbs _ _)
 clear J;go_wp2_with fail;refine(KR p9 _ _ D.o (Cn (by have:=p.o;have:=W.o;have:=Z.o;omega))).mono ?_;rintro e rq ⟨rfl,rfl⟩
 rw[show(X+Y)/(Y*2 ^ 1)=nearest a b from U.o]
 obtain⟨r,q⟩:=AJ (stop (nearest a b));have HR:=zz (E.o.trans q);rw[q];clear q;go_wp2_with fail
 go_ret2
 exact⟨by rw[HR.o];rfl,k.o⟩
end BigW
namespace Len
open Go.Shelf
def Wi:Go.Shelf.Ren:=⟨fun|134=>171|129=>170|n=>n,fun|53=>136|3=>3|4=>4|46=>123|5=>5|9=>9|n=>n,fun|n=>n⟩
def kL:Go.Proofs.Lays.n134 prog Wi:={
 mixed:=Ap
 f129:=func170.trans (congrArg some Ap)
 f134:=func171.trans (congrArg some Ap)
 t3:=underlying3
 a3:=Tryz.isAgg3
 z3:=Tryz.sizeOf3
 v3:=Tryz.zeroValue3
 t4:=underlying4
 a4:=Tryz.isAgg4
 z4:=Tryz.sizeOf4
 v4:=Tryz.zeroValue4
 t5:=underlying5
 a5:=Tryz.isAgg5
 z5:=Tryz.sizeOf5
 v5:=Tryz.zeroValue5
 t9:=underlying9
 a9:=Tryz.isAgg9
 z9:=Tryz.sizeOf9
 v9:=Tryz.zeroValue9
 t46:=underlying123
 a46:=Tryz.isAgg123
 z46:=Tryz.sizeOf123
 v46:=Tryz.zeroValue123
 t53:=underlying136
 a53:=Tryz.isAgg136
 z53:=Tryz.sizeOf136
 v53:=Tryz.zeroValue136 }
def Og(x:Int)(w:World)(Z:0<=x)(Y:x<=18446744073709551615):
  Calls prog 171 #[.int .u64 x] w fun e w'=>e=.returned (.int .i64 (64-(Lib.bitLen x.toNat:Int)))/\w'=w:=Any.bits_LeadingZeros64 kL x w Z Y
end Len
namespace Div64Law
structure K6(U V h top g r:Nat):Prop where
 sum:g*top+r=h
 ge:U/V<=g
structure Half(U V h x top next:Nat):Prop where
 hU:U=h*4294967296+x
 hV:V=top*4294967296+next
 hx:x<4294967296
 hn:next<4294967296
 ht:2147483648<=top
 ht2:top<4294967296
 lt:h<V
def Ez{x y:Nat}(Z:x<=4294967295)(hy:y<=4294967295):x*y<=18446744065119617025:=Nat.mul_le_mul Z hy
def Half.pos{U V h x top next:Nat}(S:Half U V h x top next):0<V:=by
 have:=S.hV;have:=S.ht;omega
def Half.first{U V h x top next:Nat}(S:Half U V h x top next):K6 U V h top (h/top) (h%top):=by
 have Y:=S.ht;refine⟨by rw[Nat.mul_comm];exact Nat.div_add_mod _ _,?_⟩;rw[Nat.le_div_iff_mul_le Aa];have hq:U/V*V<=U:=Nat.div_mul_le_self _ _;generalize U/V=q at hq
 have Z:q*V=q*top*4294967296+q*next:=by rw[S.hV,Nat.mul_add q (top*4294967296) next,←Nat.mul_assoc q top 4294967296]
 rw[Z,S.hU]at hq;have:=S.hx;omega
def Half.less{U V h x top next g r:Nat}(S:Half U V h x top next)(T:K6 U V h top g r)(Y:4294967296<=g\/r*4294967296+x<g*next):
  0<g/\K6 U V h top (g-1) (r+top):=by
 have R:=S.pos;obtain⟨W,N⟩:=T
 have Z:U/V<g:=by
  rcases Y with Y|Y
  .have:U/V<4294967296:=by
    rw[Nat.div_lt_iff_lt_mul R,S.hU];have:=S.lt;have:=S.hx;omega
   omega
  have O:g*V=g*top*4294967296+g*next:=by rw[S.hV,Nat.mul_add g (top*4294967296) next,←Nat.mul_assoc g top 4294967296]
  rw[Nat.div_lt_iff_lt_mul R,S.hU,O,←W,Nat.add_mul (g*top) r 4294967296];rw[Nat.add_assoc];exact Nat.add_lt_add_left Y _
 have X:0<g:=Nat.lt_of_le_of_lt (Nat.zero_le _) Z;refine⟨X,?_,Nat.le_sub_one_of_lt Z⟩;obtain⟨k,rfl⟩:∃k,g=k+1:=⟨g-1,Aa⟩;rw[Nat.add_mul,Nat.one_mul]at W;rw[Nat.add_sub_cancel];omega
def Half.last{U V h x top next g r:Nat}(S:Half U V h x top next)(T:K6 U V h top g r)(Z:(g<4294967296/\g*next<=r*4294967296+x)\/4294967296<=r):g=U/V:=by
 have R:=S.pos;obtain⟨L,M⟩:=T
 have Y:g*V<=U:=by
  have N:g*next<=r*4294967296+x:=by
   rcases Z with Z|Z
   . exact Z.2
   have O:g<4294967296:=by
    have W:g*top<4294967296*top:=by
     have:=S.lt;have:=S.hV;have:=S.hn;omega
    exact Nat.lt_of_mul_lt_mul_right W
   have:=Ez (x:=g) (y:=next) Aa (by have:=S.hn;omega);have:4294967296*4294967296<=r*4294967296:=Nat.mul_le_mul_right _ Z;omega
  have X:g*V=g*top*4294967296+g*next:=by rw[S.hV,Nat.mul_add g (top*4294967296) next,←Nat.mul_assoc g top 4294967296]
  rw[S.hU,X];omega
 have:=(Nat.le_div_iff_mul_le R).2 Y;omega
def Half.bound{U V h x top next:Nat}(S:Half U V h x top next):h/top<=4294967297:=
 Nat.le_of_lt_succ (Nat.div_lt_of_lt_mul (show h<top*4294967298 by have:=S.lt;have:=S.hV;have:=S.hn;have:=S.ht;omega))
def Half.word{U V h x top next:Nat}(S:Half U V h x top next):U/V<4294967296:=by
 rw[Nat.div_lt_iff_lt_mul S.pos,S.hU];have:=S.lt;have:=S.hx;omega
def both{hi lo X W Z Y R r0 V:Nat}(O:hi*4294967296+X=Z*V+R)(M:R*4294967296+W=Y*V+r0)(T:r0<V)(U:lo=X*4294967296+W):
  (hi*18446744073709551616+lo)/V=Z*4294967296+Y/\(hi*18446744073709551616+lo)%V=r0:=by
 have J:0<V:=Aa
 have e:hi*18446744073709551616+lo=r0+V*(Z*4294967296+Y):=by
  have N:V*(Z*4294967296+Y)=Z*V*4294967296+Y*V:=by
   rw[Nat.mul_add V (Z*4294967296) Y,Nat.mul_comm V Y,←Nat.mul_assoc V Z 4294967296,Nat.mul_comm V Z]
  rw[N]
  have L:hi*18446744073709551616+X*4294967296=Z*V*4294967296+R*4294967296:=by
   have h:=congrArg (· *4294967296) O;simp only[Nat.add_mul,Nat.mul_assoc,Nat.reduceMul]at h ⊢;exact h
  clear N T O;rw[U,←Nat.add_assoc,L,Nat.add_assoc,M,Nat.add_comm r0,Nat.add_assoc]
 rw[e];exact⟨by rw[Nat.add_mul_div_left _ _ J,Nat.div_eq_of_lt T,Nat.zero_add],by rw[Nat.add_mul_mod_self_left,Nat.mod_eq_of_lt T]⟩
end Div64Law
namespace BigW
open Go.RowKit Mem BigLaw
def Sd:∀(f x:Nat),x<2 ^ f->Jq x (Lib.bitLenAux f x)
 |0,x,h=>by
  obtain rfl:x=0:=by simpa using h
  exact⟨fun _=>rfl,fun h=>absurd h Aa⟩
 |f+1,x,h=>by
  unfold Lib.bitLenAux
  by_cases Z:x=0
  . rw[Ao Z];subst Z;exact⟨fun _=>rfl,fun h=>absurd h Aa⟩
  rw[Aj Z,Nat.add_comm];exact QE (Sd f (x/2) (by rw[Nat.pow_succ]at h;omega)) Z
def NS{x:Nat}(h:x<18446744073709551616):Jq x (Lib.bitLen x):=Sd 64 x h
def nN{y:Nat}(Z:0<y)(h:y<18446744073709551616):∃s,Lib.bitLen y+s=64/\s<=63/\9223372036854775808<=y*2 ^ s/\y*2 ^ s<18446744073709551616:=by
 obtain⟨W,Y,X⟩:=(NS h).2 Z;have V:Lib.bitLen y<=64:=(Qe (NS h)).2 h;refine⟨64-Lib.bitLen y,Aa,Aa,?_,?_⟩
 .have e:9223372036854775808=2 ^ (Lib.bitLen y-1)*2 ^ (64-Lib.bitLen y):=by
   rw[←Nat.pow_add,show Lib.bitLen y-1+(64-Lib.bitLen y)=63 by omega]
  rw[e];exact Nat.mul_le_mul_right _ Y
 have e:18446744073709551616=2 ^ Lib.bitLen y*2 ^ (64-Lib.bitLen y):=by
  rw[←Nat.pow_add,show Lib.bitLen y+(64-Lib.bitLen y)=64 by omega]
 rw[e];exact Nat.mul_lt_mul_of_pos_right X (Nat.two_pow_pos _)
def mO{hi lo s:Nat}(X:lo<18446744073709551616)(M:s<=63)(N:hi*2 ^ s<18446744073709551616):
  ∃U L,hi*2 ^ s|||lo/2 ^ (64-s)=U/\lo*2 ^ s%18446744073709551616=L/\U*18446744073709551616+L=(hi*18446744073709551616+lo)*2 ^ s/\U=hi*2 ^ s+lo/2 ^ (64-s)/\lo/2 ^ (64-s)<2 ^ s:=by
 have R:=Nat.two_pow_pos s;have Z:=Nat.two_pow_pos (64-s)
 have W:2 ^ (64-s)*2 ^ s=18446744073709551616:=by rw[←Nat.pow_add,show 64-s+s=64 by omega]
 have Y:lo/2 ^ (64-s)<2 ^ s:=by
  rw[Nat.div_lt_iff_lt_mul Z,Nat.mul_comm,W];exact X
 have hor:hi*2 ^ s|||lo/2 ^ (64-s)=hi*2 ^ s+lo/2 ^ (64-s):=by
  rw[Nat.mul_comm];exact(Nat.two_pow_add_eq_or_of_lt Y hi).symm
 refine⟨_,_,rfl,rfl,?_,hor,Y⟩;rw[hor]
 have V:lo*2 ^ s=lo/2 ^ (64-s)*18446744073709551616+lo%2 ^ (64-s)*2 ^ s:=by
  have h:=congrArg (· *2 ^ s) (Nat.div_add_mod lo (2 ^ (64-s)));simp only[Nat.add_mul]at h;rw[←h,Nat.mul_comm (2 ^ (64-s)) (lo/2 ^ (64-s)),Nat.mul_assoc (lo/2 ^ (64-s)),W]
 have T:lo%2 ^ (64-s)*2 ^ s<18446744073709551616:=by
  rw[←W];exact Nat.mul_lt_mul_of_pos_right (Nat.mod_lt _ Z) R
 have O:lo*2 ^ s%18446744073709551616=lo%2 ^ (64-s)*2 ^ s:=by
  rw[V,Nat.add_comm,Nat.add_mul_mod_self_right,Nat.mod_eq_of_lt T]
 rw[O,Nat.add_mul,Nat.add_mul,V,Nat.mul_right_comm hi (2 ^ s) 18446744073709551616,Nat.add_assoc]
def SB(U x q V r:Nat)(h:U*4294967296+x=q*V+r)(Z:r<18446744073709551616):
  IntKind.u64.wrap (IntKind.u64.wrap (IntKind.u64.wrap ((U:Int)*4294967296)+(x:Int))-IntKind.u64.wrap ((q:Int)*(V:Int)))=(r:Int):=by
 have e:(q:Int)*(V:Int)=((q*V:Nat):Int):=(Int.natCast_mul _ _).symm;rw[e];simp only[Cz];generalize q*V=p at h ⊢;omega
def Wl(U V h top:Nat)(Z Y:Value):Prop:=∃g r:Nat,Z=.int .u64 (g:Int)/\Y=.int .u64 (r:Int)/\g<=4294967297/\r<4294967296/\Hid (Div64Law.K6 U V h top g r)
def bN(hi lo y:Nat)(w:World)(rE:hi<y)(sD:lo<18446744073709551616)(hy:y<18446744073709551616):
  Calls prog 149 #[.int .u64 (hi:Int),.int .u64 (lo:Int),.int .u64 (y:Int)] w fun e w'=>e=.returned (.tuple #[.int .u64 (((hi*18446744073709551616+lo)/y:Nat):Int),.int .u64 (((hi*18446744073709551616+lo)%y:Nat):Int)])/\∃n,w'=w.drewN n:=by
 obtain⟨Q,hQ⟩:=AJ ((hi*18446744073709551616+lo)/y);obtain⟨R,hR⟩:=AJ ((hi*18446744073709551616+lo)%y);rw[hQ,hR];have HQ:=zz hQ;have HR:=zz hR
 have rJ:((y:Int)==0)=false:=by rw[beq_eq_false_iff_ne];omega
 have rQ:¬(y:Int)<=(hi:Int):=Aa
 by_cases h0:hi=0
 .subst h0;rw[Nat.zero_mul,Nat.zero_add]at hQ hR;have tO:¬(y:Int)=0:=Aa;have tu:¬y=0:=Aa
  have hq:IntKind.u64.wrap ((lo:Int)/(y:Int))=(Q:Int):=by
   have e:(lo:Int)/(y:Int)=((lo/y:Nat):Int):=rfl;have:=Nat.div_le_self lo y;rw[e,hQ,Cz];rw[hQ]at this;omega
  have hr:(lo:Int).tmod (y:Int)=(R:Int):=by
   have e:(lo:Int).tmod (y:Int)=((lo%y:Nat):Int):=rfl;rw[e,hR]
  clear hQ hR
  go_in
  go_wp2_with fail
  go_quiet (fail)
  go_wp2_with fail
  go_ret2
  exact⟨rfl,_,rfl⟩
 have qZ:((hi:Int)==0)=false:=by rw[beq_eq_false_iff_ne];omega
 clear hQ hR
 obtain⟨s,rD,sI,qR,A⟩:=nN (show 0<y by omega) hy
 have i:hi*2 ^ s<18446744073709551616:=Nat.lt_of_le_of_lt (Nat.mul_le_mul_right _ (Nat.le_of_lt rE)) A;obtain⟨U,L,hU,hL,qX,rX,sO⟩:=mO (s:=s) sD sI i;have HN:=zz rD;have sN:=zz qX;have sw:=zz qR;have sU:=zz A
 have rY:L<18446744073709551616:=by rw[←hL];exact Nat.mod_lt _ Aa
 have eY:IntKind.u64.wrap ((y:Int)*2 ^ s)=((y*2 ^ s:Nat):Int):=by
  have e:(y:Int)*2 ^ s=((y*2 ^ s:Nat):Int):=by push_cast;rfl
  rw[e,Cz];generalize y*2 ^ s=Y at A;omega
 have eH:IntKind.u64.wrap ((hi:Int)*2 ^ s)=((hi*2 ^ s:Nat):Int):=by
  have e:(hi:Int)*2 ^ s=((hi*2 ^ s:Nat):Int):=by push_cast;rfl
  rw[e,Cz];generalize hi*2 ^ s=Y at i;omega
 have eL:IntKind.u64.wrap ((lo:Int)*2 ^ s)=(L:Int):=by
  have e:(lo:Int)*2 ^ s=((lo*2 ^ s:Nat):Int):=by push_cast;rfl
  rw[e,Cz,←hL];generalize lo*2 ^ s=Y;omega
 have eU:bits .or .u64 ((hi*2 ^ s:Nat):Int) ((lo:Int)/2 ^ (64-s))=(U:Int):=by
  have e:(lo:Int)/2 ^ (64-s)=((lo/2 ^ (64-s):Nat):Int):=by rw[Int.natCast_ediv,Int.natCast_pow];rfl
  rw[e,bits_or_u64_nat _ _ i (by have:=Nat.div_le_self lo (2 ^ (64-s));omega),hU]
 have rG:U<y*2 ^ s:=by
  have D:(hi+1)*2 ^ s<=y*2 ^ s:=Nat.mul_le_mul_right _ rE;rw[Nat.add_mul,Nat.one_mul]at D;omega
 have rq:Hid (∀q r,U*18446744073709551616+L=q*(y*2 ^ s)+r*1->r<y*2 ^ s->q=Q/\r/2 ^ s=R):=zz fun q r D M=>by
  rw[Nat.mul_one,qX]at D;have hp:=Nat.two_pow_pos s;have sH:0<y*2 ^ s:=Aa;have e1:(hi*18446744073709551616+lo)*2 ^ s/(y*2 ^ s)=(hi*18446744073709551616+lo)/y:=Nat.mul_div_mul_right _ _ hp;have e2:(hi*18446744073709551616+lo)*2 ^ s%(y*2 ^ s)=(hi*18446744073709551616+lo)%y*2 ^ s:=Nat.mul_mod_mul_right _ _ _;rw[D,Nat.add_comm,Nat.add_mul_div_right _ _ sH,Nat.div_eq_of_lt M,HQ.o,Nat.zero_add]at e1;rw[D,Nat.add_comm,Nat.add_mul_mod_self_right,Nat.mod_eq_of_lt M,HR.o]at e2;exact⟨e1,by rw[e2,Nat.mul_div_cancel _ hp]⟩
 clear hU hL qX rX sO rD sN sw sU;generalize hi*2 ^ s=H at eH eU;generalize y*2 ^ s=V at eY rG qR A rq;obtain⟨top,rH⟩:=AJ (V/4294967296);obtain⟨next,m⟩:=AJ (V%4294967296);obtain⟨u1,sQ⟩:=AJ (L/4294967296);obtain⟨u0,ru⟩:=AJ (L%4294967296);have c:(V:Int)/4294967296=(top:Int):=Aa
 have p:bits .and .u64 (V:Int) 4294967295=(next:Int):=by rw[maskN V A,m]
 have rW:(L:Int)/4294967296=(u1:Int):=Aa
 have rF:bits .and .u64 (L:Int) 4294967295=(u0:Int):=by rw[maskN L rY,ru]
 have d:Div64Law.Half (U*4294967296+u1) V U u1 top next:=⟨rfl,Aa,Aa,Aa,Aa,Aa,rG⟩;have F:=zz d;have sW:2147483648<=top:=d.ht;have rU:top<4294967296:=d.ht2;have r9:next<4294967296:=d.hn;have sZ:u1<4294967296:=d.hx;have rP:u0<4294967296:=Aa
 have su:=zz (show L=u1*4294967296+u0 by omega)
 have tF:U<18446744073709551616:=Aa;have rO:¬(top:Int)=0:=Aa;have qY:¬top=0:=Aa;have j:U/top<=4294967297:=d.bound;have rV:U%top<top:=Nat.mod_lt _ Aa;have k:=zz d.first
 have hq:IntKind.u64.wrap ((U:Int)/(top:Int))=((U/top:Nat):Int):=by
  have e:(U:Int)/(top:Int)=((U/top:Nat):Int):=rfl;rw[e,Cz];generalize U/top=g at j ⊢;omega
 have J:(U:Int)-((U/top:Nat):Int)*(top:Int)=((U%top:Nat):Int):=by
  have h:=Nat.div_add_mod U top
  have M:(U:Int)=(top:Int)*((U/top:Nat):Int)+((U%top:Nat):Int):=by
   rw[←Int.natCast_mul,←Int.natCast_add,h]
  rw[Int.mul_comm];omega
 have B:((U/top:Nat):Int)*(top:Int)<=(U:Int):=Aa;have N:0<=((U/top:Nat):Int)*(top:Int):=Int.mul_nonneg (Int.natCast_nonneg _) (Int.natCast_nonneg _);generalize U/top=g0 at hq J B N j k;generalize U%top=r0 at J rV k;clear i qR rH m sQ ru d
 go_in
 go_wp2_with fail;refine(Len.Og (y:Int) _ Aa Aa).mono ?_;rintro e w1 ⟨rfl,rfl⟩
 rw[show(64-(Lib.bitLen (y:Int).toNat:Int))=(s:Int)by rw[Int.toNat_natCast];have:=HN.o;omega]
 go_upto_block 0 with fail
 obtain⟨q1,rT⟩:=AJ ((U*4294967296+u1)/V);have v:=zz rT;clear rT
 go_cut[15] (fun sM wx=>sM=.int .u64 (q1:Int)/\wx=w1)
 case first=>
  clear eY eH eL eU c p rW rF hq J B N rO qY h0 qZ rJ rQ;go_wp2_with fail
  go_loop[15,16] (fun sg sr=>Wl (U*4294967296+u1) V U top sg sr) (fun _ sr=>4294967296-(intOf sr).toNat)
  case atStart=>exact⟨g0,r0,rfl,rfl,j,Aa,k⟩
  obtain⟨g,r,rfl,rfl,hg,sK,u⟩:=hrel;have HL:=zz (fun E=>F.o.less u.o E);have HE:=zz (fun E=>F.o.last u.o E)
  by_cases W:4294967295<g
  .obtain⟨D,M⟩:=HL.o (.inl Aa);have I:=zz M;have G:=zz (fun E=>F.o.last M E);clear M;have z:(4294967296:Int)<=(g:Int):=Aa;have qQ:(1:Int)<=(g:Int):=Aa
   by_cases X:4294967295<r+top
   .have Z:(4294967296:Int)<=(r:Int)+(top:Int):=Aa;clear W X;go_wp2_with fail
    go_meet
    exact⟨congrArg (Value.int .u64) (by have h:=G.o (.inr Aa);rw[v.o]at h;omega),rfl⟩
   have Z:¬(4294967296:Int)<=(r:Int)+(top:Int):=Aa;clear W X;go_wp2_with fail;exact⟨⟨g-1,r+top,congrArg (Value.int .u64) Aa,congrArg (Value.int .u64) Aa,Aa,Aa,I⟩,Ck⟩
  have z:¬(4294967296:Int)<=(g:Int):=Aa;have rZ:0<=(g:Int)*(next:Int):=Int.mul_nonneg Aa Aa
  have sJ:(g:Int)*(next:Int)<18446744073709551616:=by
   have:=Div64Law.Ez (x:=g) (y:=next) Aa Aa;rw[←Int.natCast_mul];omega
  have HC:=zz (Int.natCast_mul g next)
  by_cases rC:4294967296*(r:Int)+(u1:Int)<(g:Int)*(next:Int)
  .have O:r*4294967296+u1<g*next:=by have:=HC.o;omega
   obtain⟨D,M⟩:=HL.o (.inr O);have I:=zz M;have G:=zz (fun E=>F.o.last M E);clear M O;have qQ:(1:Int)<=(g:Int):=Aa
   by_cases X:4294967295<r+top
   .have Z:(4294967296:Int)<=(r:Int)+(top:Int):=Aa;clear W X;go_wp2_with fail
    go_meet
    exact⟨congrArg (Value.int .u64) (by have h:=G.o (.inr Aa);rw[v.o]at h;omega),rfl⟩
   have Z:¬(4294967296:Int)<=(r:Int)+(top:Int):=Aa;clear W X;go_wp2_with fail;exact⟨⟨g-1,r+top,congrArg (Value.int .u64) Aa,congrArg (Value.int .u64) Aa,Aa,Aa,I⟩,Ck⟩
  have O:g*next<=r*4294967296+u1:=by have:=HC.o;omega
  have D:=zz (HE.o (.inl ⟨Aa,O⟩));clear W O;go_wp2_with fail
  go_meet
  exact⟨congrArg (Value.int .u64) (by have h:=D.o;rw[v.o]at h;omega),rfl⟩
 obtain⟨rfl,rfl⟩:=hcut;clear eY eH eL eU c p rW rF hq J B N h0 qZ rJ;obtain⟨r1,qU⟩:=AJ ((U*4294967296+u1)%V)
 have tJ:q1<4294967296:=by rw[←v.o];exact F.o.word
 have T:U*4294967296+u1=q1*V+r1:=by
  have h:=Nat.div_add_mod (U*4294967296+u1) V;rw[v.o,qU,Nat.mul_comm]at h;exact h.symm
 have rR:r1<V:=by rw[←qU];exact Nat.mod_lt _ F.o.pos
 have sS:=SB U u1 q1 V r1 T Aa;have rM:=zz T;have S2:Div64Law.Half (r1*4294967296+u0) V r1 u0 top next:=⟨rfl,F.o.hV,rP,r9,sW,rU,rR⟩;have C:=zz S2;have qV:r1/top<=4294967297:=S2.bound;have sP:r1%top<top:=Nat.mod_lt _ Aa;have qW:=zz S2.first
 have hq:IntKind.u64.wrap ((r1:Int)/(top:Int))=((r1/top:Nat):Int):=by
  have e:(r1:Int)/(top:Int)=((r1/top:Nat):Int):=rfl;rw[e,Cz];generalize r1/top=g at qV ⊢;omega
 have J:(r1:Int)-((r1/top:Nat):Int)*(top:Int)=((r1%top:Nat):Int):=by
  have h:=Nat.div_add_mod r1 top
  have M:(r1:Int)=(top:Int)*((r1/top:Nat):Int)+((r1%top:Nat):Int):=by
   rw[←Int.natCast_mul,←Int.natCast_add,h]
  rw[Int.mul_comm];omega
 have B:((r1/top:Nat):Int)*(top:Int)<=(r1:Int):=Aa;have N:0<=((r1/top:Nat):Int)*(top:Int):=Int.mul_nonneg (Int.natCast_nonneg _) (Int.natCast_nonneg _);have tC:r1<18446744073709551616:=Aa;generalize r1/top=g2 at hq J B N qV qW;generalize r1%top=r2 at J sP qW;clear T qU S2 k j rV
 go_upto_block 2 with fail
 obtain⟨q2,rA⟩:=AJ ((r1*4294967296+u0)/V);have t:=zz rA;clear rA
 go_cut[18] (fun sG wx=>sG=.int .u64 (q2:Int)/\wx=wc)
 case first=>
  clear sS hq J B N rO qY rQ;go_wp2_with fail
  go_loop[18,16] (fun sg sr=>Wl (r1*4294967296+u0) V r1 top sg sr) (fun _ sr=>4294967296-(intOf sr).toNat)
  case atStart=>exact⟨g2,r2,rfl,rfl,qV,Aa,qW⟩
  obtain⟨g,r,rfl,rfl,hg,sK,u⟩:=hrel;have HL:=zz (fun E=>C.o.less u.o E);have HE:=zz (fun E=>C.o.last u.o E)
  by_cases W:4294967295<g
  .obtain⟨D,M⟩:=HL.o (.inl Aa);have I:=zz M;have G:=zz (fun E=>C.o.last M E);clear M;have z:(4294967296:Int)<=(g:Int):=Aa;have qQ:(1:Int)<=(g:Int):=Aa
   by_cases X:4294967295<r+top
   .have Z:(4294967296:Int)<=(r:Int)+(top:Int):=Aa;clear W X;go_wp2_with fail
    go_meet
    exact⟨congrArg (Value.int .u64) (by have h:=G.o (.inr Aa);rw[t.o]at h;omega),rfl⟩
   have Z:¬(4294967296:Int)<=(r:Int)+(top:Int):=Aa;clear W X;go_wp2_with fail;exact⟨⟨g-1,r+top,congrArg (Value.int .u64) Aa,congrArg (Value.int .u64) Aa,Aa,Aa,I⟩,Ck⟩
  have z:¬(4294967296:Int)<=(g:Int):=Aa;have rZ:0<=(g:Int)*(next:Int):=Int.mul_nonneg Aa Aa
  have sJ:(g:Int)*(next:Int)<18446744073709551616:=by
   have:=Div64Law.Ez (x:=g) (y:=next) Aa Aa;rw[←Int.natCast_mul];omega
  have HC:=zz (Int.natCast_mul g next)
  by_cases rC:4294967296*(r:Int)+(u0:Int)<(g:Int)*(next:Int)
  .have O:r*4294967296+u0<g*next:=by have:=HC.o;omega
   obtain⟨D,M⟩:=HL.o (.inr O);have I:=zz M;have G:=zz (fun E=>C.o.last M E);clear M O;have qQ:(1:Int)<=(g:Int):=Aa
   by_cases X:4294967295<r+top
   .have Z:(4294967296:Int)<=(r:Int)+(top:Int):=Aa;clear W X;go_wp2_with fail
    go_meet
    exact⟨congrArg (Value.int .u64) (by have h:=G.o (.inr Aa);rw[t.o]at h;omega),rfl⟩
   have Z:¬(4294967296:Int)<=(r:Int)+(top:Int):=Aa;clear W X;go_wp2_with fail;exact⟨⟨g-1,r+top,congrArg (Value.int .u64) Aa,congrArg (Value.int .u64) Aa,Aa,Aa,I⟩,Ck⟩
  have O:g*next<=r*4294967296+u0:=by have:=HC.o;omega
  have D:=zz (HE.o (.inl ⟨Aa,O⟩));clear W O;go_wp2_with fail
  go_meet
  exact⟨congrArg (Value.int .u64) (by have h:=D.o;rw[t.o]at h;omega),rfl⟩
 obtain⟨rfl,rfl⟩:=hcut;obtain⟨r3,b⟩:=AJ ((r1*4294967296+u0)%V)
 have tK:q2<4294967296:=by rw[←t.o];exact C.o.word
 have T:r1*4294967296+u0=q2*V+r3:=by
  have h:=Nat.div_add_mod (r1*4294967296+u0) V;rw[t.o,b,Nat.mul_comm]at h;exact h.symm
 have f:r3<V:=by rw[←b];exact Nat.mod_lt _ C.o.pos
 have tH:=SB r1 u0 q2 V r3 T Aa;obtain⟨b1,b2⟩:=Div64Law.both rM.o T f su.o
 have l:=rq.o (q1*4294967296+q2) r3 (by
  have h:=Nat.div_add_mod (U*18446744073709551616+L) V;rw[b1,b2,Nat.mul_comm]at h
  rw[Nat.mul_one];exact h.symm) f
 have eQ:IntKind.u64.wrap ((q1:Int)*4294967296+(q2:Int))=(Q:Int):=by
  have:=l.1;rw[Cz];omega
 have tL:(r3:Int)/2 ^ s=(R:Int):=by
  rw[←l.2,Int.natCast_ediv,Int.natCast_pow];rfl
 clear T b b1 b2 l;go_wp2_with fail
 go_ret2
 exact⟨rfl,0,rfl⟩
end BigW
namespace BigW
open Go.RowKit Mem BigLaw FixDivLaw
def iH(N Q Y C Z K:Nat)(h:Y*K+Q=N)(X:K*C+Z=Q+1):(Y+C)*K+Z=N+1:=by
 rw[Nat.add_mul,Nat.mul_comm C K];omega
def ZW(N Q Y C Z:Nat)(h:Y*18446744073709551616+Q=N)(W:(Q+1)/18446744073709551616=C)(X:(Q+1)%18446744073709551616=Z):SK (Y+C) Z=N+1:=by
 refine iH N Q Y C Z _ h ?_;rw[←W,←X];exact Nat.div_add_mod _ _
def Z6(N Q Z:Nat)(h:Z*18446744073709551616+Q=N):SK Z Q=N:=h
def ZM(n:Nat):aU false n=(n:Int):=by unfold aU;rw[Aj Bq]
def Zi(n:Nat):aU true n= -(n:Int):=by unfold aU;rw[Ao rfl]
def ZV(a b:Int)(Y:b≠0):(((a<0/\b<0)\/(0<=a/\0<b))/\((b.natAbs<=2*(a.natAbs*4294967296%b.natAbs)/\nearest a b=aU false (a.natAbs*4294967296/b.natAbs+1))\/(¬b.natAbs<=2*(a.natAbs*4294967296%b.natAbs)/\nearest a b=aU false (a.natAbs*4294967296/b.natAbs+0))))\/
  (((a<0/\0<b)\/(0<=a/\b<0))/\((b.natAbs<2*(a.natAbs*4294967296%b.natAbs)/\nearest a b=aU true (a.natAbs*4294967296/b.natAbs+1))\/(¬b.natAbs<2*(a.natAbs*4294967296%b.natAbs)/\nearest a b=aU true (a.natAbs*4294967296/b.natAbs+0)))):=by
 rcases(by omega:((a<0/\b<0)\/(0<=a/\0<b))\/((a<0/\0<b)\/(0<=a/\b<0)))with h|h
 .refine .inl ⟨h,?_⟩;rw[Uj h]
  by_cases Z:b.natAbs<=2*(a.natAbs*4294967296%b.natAbs)
  . exact .inl ⟨Z,by rw[Ao Z,ZM]⟩
  exact .inr ⟨Z,by rw[Aj Z,ZM]⟩
 refine .inr ⟨h,?_⟩;rw[Ry h]
 by_cases Z:b.natAbs<2*(a.natAbs*4294967296%b.natAbs)
 . exact .inl ⟨Z,by rw[Ao Z,Zi]⟩
 exact .inr ⟨Z,by rw[Aj Z,Zi]⟩
def iY(a b:Int)(w:World)(V:¬b=0)(ha: -9223372036854775808<=a/\a<=9223372036854775807)(hb: -9223372036854775808<=b/\b<=9223372036854775807):
  Calls prog 129 #[.int .i64 a,.int .i64 b] w fun e w'=>e=.returned (.tuple #[.int .i64 (fdiv a b).1,.bool (fdiv a b).2])/\Below w.heap.size w w':=by
 have q:=zz (show fdiv a b=stop (nearest a b)by unfold fdiv;rw[Aj V])
 have HA:=zz ha;have HB:=zz hb
 have qV:(b==0)=false:=by rw[beq_eq_false_iff_ne];omega
 have f:a.natAbs<=9223372036854775808:=Aa;have m:b.natAbs<=9223372036854775808:=Aa;have Z:0<b.natAbs:=Aa;clear ha hb
 rcases ZV a b V with⟨⟨s,t⟩|⟨s,t⟩,⟨Y,E⟩|⟨Y,E⟩⟩|⟨⟨s,t⟩|⟨s,t⟩,⟨Y,E⟩|⟨Y,E⟩⟩
 all_goals
  have X:=zz E;clear E V
  (try(have qZ:¬a<0:=Aa;clear s))
  (try(have ru:¬b<0:=Aa;clear t))
  go_in
  go_wp2_with fail;refine(I7 b _ HB.o).mono ?_;rintro e y ⟨rfl,rfl⟩
  (try(have qY:decide (a<0)=false:=Ec))
  (try(have rq:decide (b<0)=false:=Ec))
  go_wp2_with fail;refine(I7 a _ HA.o).mono ?_;rintro e y ⟨rfl,rfl⟩;go_wp2_with fail;refine(I7 a _ HA.o).mono ?_;rintro e y ⟨rfl,rfl⟩;generalize a.natAbs=A at f Y X ⊢;generalize b.natAbs=d at m Z Y X ⊢;obtain⟨N,z⟩:=AJ (A*4294967296);rw[z]at Y X;obtain⟨hi,D⟩:=AJ (A/4294967296);obtain⟨lo,F⟩:=AJ (N%18446744073709551616);have rD:(A:Int)/4294967296=(hi:Int):=Aa
  have qW:IntKind.u64.wrap ((A:Int)*4294967296)=(lo:Int):=by rw[Cz];omega
  have hN:N=hi*18446744073709551616+lo:=Aa;have W:lo<18446744073709551616:=Aa;have J:hi<=2147483648:=Aa;obtain⟨H,i⟩:=jK _ hi lo d Z hN;have qU:=zz D;have rE:=zz F;have rF:¬(d:Int)=0:=Aa;have qX:¬d=0:=Aa
  have c:IntKind.u64.wrap ((hi:Int)/(d:Int))=((hi/d:Nat):Int):=by
   have e:(hi:Int)/(d:Int)=((hi/d:Nat):Int):=rfl;have:=Nat.div_le_self hi d;rw[e,Cz];generalize hi/d=x at this ⊢;omega
  have qQ:(hi:Int).tmod (d:Int)=((hi%d:Nat):Int):=rfl;have j:hi/d<=2147483648:=Nat.le_trans (Nat.div_le_self _ _) J;have L:hi%d<d:=Nat.mod_lt _ Z;generalize hi/d=V at c H j;generalize hi%d=v at qQ H i L;obtain⟨Q,p⟩:=AJ ((v*18446744073709551616+lo)/d);obtain⟨R,u⟩:=AJ ((v*18446744073709551616+lo)%d);rw[p]at H;rw[←i,u]at Y
  have rC:R<d:=by rw[←u];exact Nat.mod_lt _ Z
  have qR:Q<18446744073709551616:=by
   rw[←p,Nat.div_lt_iff_lt_mul Z];have h3:(v+1)*18446744073709551616<=d*18446744073709551616:=Nat.mul_le_mul_right _ L;rw[Nat.add_mul,Nat.one_mul]at h3;exact Nat.lt_of_lt_of_le (Nat.add_lt_add_left W _) (by rw[Nat.mul_comm 18446744073709551616];exact h3)
  have HQ:=zz p;have HR:=zz u;have I:=zz H;clear D F hN z p u H i;go_wp2_with fail
  go_region
  go_wp2_with fail;refine(bN v lo d _ L W Aa).mono ?_;rintro e y ⟨rfl,nq,rfl⟩;rw[HQ.o,HR.o]
  first
   |(first
     |(have M:(d:Int)-(R:Int)<(R:Int):=by omega)
     |(have M:(d:Int)-(R:Int)<=(R:Int):=by omega))
    have G:=fun w=>PL Q 1 1 Aa w;obtain⟨C,l⟩:=AJ ((Q+1)/18446744073709551616);obtain⟨n,g⟩:=AJ ((Q+1)%18446744073709551616);rw[l,g]at G;have HW:=zz (ZW (N/d) Q V C n I.o l g);have rA:C<=1:=Aa;have k:n<18446744073709551616:=Aa;clear l g Y;rw[←HW.o]at X;go_wp2_with fail;refine(LQ _ (V+C) n _ Aa k).mono ?_;rintro e y ⟨rfl,hb⟩;rw[←X.o,←q.o];have T:=zz (Bh (B:=w.heap.size) (a:=w) (by repeat(first|exact Below.refl _ _|refine Below.setCell ?_ Bq _|refine below_drewN ?_ _|refine Below.drew ?_|refine Below.alloc ?_ Bq _)) Nr hb);obtain⟨r,U⟩:=AJ (fdiv a b);have O:=zz U;rw[U];clear X q hb U;go_wp2_with fail
    go_ret2
    exact⟨by rw[O.o];rfl,T.o⟩
   |(first
     |(have M:¬(d:Int)-(R:Int)<=(R:Int):=by omega)
     |(have M:¬(d:Int)-(R:Int)<(R:Int):=by omega))
    have HW:=zz (Z6 (N/d) Q V I.o);rw[Nat.add_zero,←HW.o]at X;clear Y;go_wp2_with fail;refine(LQ _ V Q _ Aa qR).mono ?_;rintro e y ⟨rfl,hb⟩;rw[←X.o,←q.o];have T:=zz (Bh (B:=w.heap.size) (a:=w) (by repeat(first|exact Below.refl _ _|refine Below.setCell ?_ Bq _|refine below_drewN ?_ _|refine Below.drew ?_|refine Below.alloc ?_ Bq _)) Nr hb);obtain⟨r,U⟩:=AJ (fdiv a b);have O:=zz U;rw[U];clear X q hb U;go_wp2_with fail
    go_ret2
    exact⟨by rw[O.o];rfl,T.o⟩
def Yl(a b:Int)(w:World)(Y: -9223372036854775808<=a/\a<=9223372036854775807)(hb: -9223372036854775808<=b/\b<=9223372036854775807):
  Calls prog 129 #[.int .i64 a,.int .i64 b] w fun e w'=>e=.returned (.tuple #[.int .i64 (fdiv a b).1,.bool (fdiv a b).2])/\Below w.heap.size w w':=by
 by_cases X:b=0
 .subst X
  rcases Int.lt_trichotomy a 0 with h|h|h
  .have Z:=zz (show fdiv a 0=(-9223372036854775808,true)by unfold fdiv;rw[Ao rfl,Aj Aa,Ao h])
   clear Y hb
   go_in
   go_wp2_with fail
   go_ret2
   exact⟨by rw[Z.o];rfl,Below.refl _ _⟩
  .subst h
   have Z:=zz (show fdiv 0 0=(0,true)by unfold fdiv;rw[Ao rfl,Aj Aa,Aj Aa])
   clear Y hb
   go_in
   go_wp2_with fail
   go_ret2
   exact⟨by rw[Z.o];rfl,Below.refl _ _⟩
  have Z:=zz (show fdiv a 0=(9223372036854775807,true)by unfold fdiv;rw[Ao rfl,Ao h])
  clear Y hb
  go_in
  go_wp2_with fail
  go_ret2
  exact⟨by rw[Z.o];rfl,Below.refl _ _⟩
 exact iY a b w X Y hb
end BigW
namespace BigW
open Go.RowKit Mem BigLaw
def Kw(a b:Int):In64 (fdiv a b).1:=by
 unfold fdiv
 split
 .split
  . unfold In64;omega
  split<;>(unfold In64;omega)
 exact Kr _
def Wp(g:Nat)(x:Bool)(a b:Int)(w:World)(h:Nq w 163 g x)(T:In64 a)(hb:In64 b):
  Calls prog 117 #[.pointer (some ⟨g,0,none⟩),.int .i64 a,.int .i64 b] w fun e w'=>Vh w w' 163 g x (fdiv a b) e:=by
 have N:=zz h;have L:=zz T;have O:=zz hb;clear h T hb
 go_in
 go_wp2_with fail;refine(XF a b _ L.o O.o).mono ?_;rintro e J ⟨rfl,Y⟩;have V:=zz (N.o.below Y);obtain⟨r,W⟩:=AJ (fdiv a b);have R:=zz W;rw[W];clear W;obtain⟨n,b'⟩:=r;go_wp2_with fail;refine(Na g x n b' _ V.o).mono ?_;rintro e I ⟨rfl,Z,U⟩;have X:=zz Z;have M:=zz ((CJ Y).trans U);clear Z U;go_wp2_with fail
 go_ret
 exact⟨by rw[R.o];rfl,by rw[R.o];exact X.o,M.o⟩
end BigW
namespace BigW
open Go.RowKit Mem BigLaw
structure St where
 X:Int
 V:Int
 P00:Int
 P01:Int
 P11:Int
 bent:Bool
 missed:Int
def ME(s:St):Array Value:=(AZ s.X s.V s.P00 s.P01 s.P11 s.bent s.missed)
def ED(w:World)(g:Nat)(s:St):Prop:=Ae w g 25 (ME s)
def Vg(w w':World)(g:Nat)(s:St)(r:Int×Bool)(e:Ending):Prop:=
 e=.returned (.int .i64 r.1)/\ED w' g { s with bent:=s.bent||r.2 }/\w.grownBy w' (some g)
def ED.below{w w':World}{g:Nat}{s:St}(h:ED w g s)(hb:Below w.heap.size w w'):ED w' g s:=Ae.below h hb (Ae.lt h)
def Ll{w w':World}{g:Nat}{row:Nat}(h:w.grownBy w' (some row))(Y:g<w.heap.size)(Z:g≠row):∀o,w'.cell? ⟨g,o,none⟩= w.cell? ⟨g,o,none⟩:=fun o=>World.cell?_of_block (h.block g Y (fun e=>Z (by injection e)))
def NP(g:Nat)(s:St)(n:Int)(b:Bool)(w:World)(h:ED w g s):
  Calls prog 125 #[.agg #[.pointer (some ⟨g,0,none⟩)],.int .i64 n,.bool b] w fun e w'=>Vg w w' g s (n,b) e:=by
 obtain⟨X,V,W,R,T,Z,Y⟩:=s;have U:=Ae.cell h 5;have M:=Ae.thaw h 5;simp only[ME,List.getElem?_toArray,List.getElem?_cons_zero,List.getElem?_cons_succ]at U;have O:=zz h;have N:=Ae.lt h;clear h
 cases Z<;>cases b
 all_goals
  go_in
  go_wp2_with fail
  go_region
  go_wp2_with fail
  go_ret
  exact⟨rfl,((Ae.set O.o 5 _).alloc _).drew,(Ee _ _ _ _).trans (CJ ((DC).drew))⟩
def GA(g:Nat)(s:St)(a b:Int)(w:World)(h:ED w g s)(T:In64 a)(hb:In64 b):
  Calls prog 104 #[.agg #[.pointer (some ⟨g,0,none⟩)],.int .i64 a,.int .i64 b] w fun e w'=>Vg w w' g s (Ol a b) e:=by
 have V:Below w.heap.size w (w.alloc (.cells #[.pointer (some ⟨g,0,none⟩)] 151)).drew:=(DC).drew;have O:=zz (h.below V);have J:=Ae.lt h;have N:w.heap.size+1<=(w.alloc (.cells #[.pointer (some ⟨g,0,none⟩)] 151)).drew.heap.size:=Bq;have U:=zz V;have L:=zz T;have R:=zz hb;clear h T hb V
 go_in
 go_wp2_with fail
 go_region_held3 (fun w'=> w'.cell? ⟨w.heap.size,0,none⟩=some (.pointer (some ⟨g,0,none⟩))) (go_keep) (first
  |(go_at_call 127;refine(X0 a b _ L.o R.o).mono ?_;rintro e I ⟨rfl,rfl⟩)
  |(go_at_call 125;refine(NP g s (stop (a+b)).1 (stop (a+b)).2 _ O.o).mono ?_;rintro e H ⟨rfl,Z,X⟩;have W:=Ll X (g:=w.heap.size) Aa Aa 0))
 have Y:=zz Z;have M:=zz ((CJ U.o).trans X);clear Z X N W;go_wp2_with fail
 go_ret
 exact⟨rfl,Y.o,M.o⟩
def NA(g:Nat)(s:St)(a b:Int)(w:World)(h:ED w g s)(T:In64 a)(hb:In64 b):
  Calls prog 103 #[.agg #[.pointer (some ⟨g,0,none⟩)],.int .i64 a,.int .i64 b] w fun e w'=>Vg w w' g s (WS a b) e:=by
 have V:Below w.heap.size w (w.alloc (.cells #[.pointer (some ⟨g,0,none⟩)] 151)).drew:=(DC).drew;have O:=zz (h.below V);have J:=Ae.lt h;have N:w.heap.size+1<=(w.alloc (.cells #[.pointer (some ⟨g,0,none⟩)] 151)).drew.heap.size:=Bq;have U:=zz V;have L:=zz T;have R:=zz hb;clear h T hb V
 go_in
 go_wp2_with fail
 go_region_held3 (fun w'=> w'.cell? ⟨w.heap.size,0,none⟩=some (.pointer (some ⟨g,0,none⟩))) (go_keep) (first
  |(go_at_call 126;refine(XO a b _ L.o R.o).mono ?_;rintro e I ⟨rfl,rfl⟩)
  |(go_at_call 125;refine(NP g s (stop (a-b)).1 (stop (a-b)).2 _ O.o).mono ?_;rintro e H ⟨rfl,Z,X⟩;have W:=Ll X (g:=w.heap.size) Aa Aa 0))
 have Y:=zz Z;have M:=zz ((CJ U.o).trans X);clear Z X N W;go_wp2_with fail
 go_ret
 exact⟨rfl,Y.o,M.o⟩
def EM(g:Nat)(s:St)(a b:Int)(w:World)(h:ED w g s)(N:In64 a)(hb:In64 b):
  Calls prog 105 #[.agg #[.pointer (some ⟨g,0,none⟩)],.int .i64 a,.int .i64 b] w fun e w'=>Vg w w' g s (Io a b) e:=by
 have O:Below w.heap.size w (w.alloc (.cells #[.pointer (some ⟨g,0,none⟩)] 151)).drew:=(DC).drew;have T:=zz (h.below O);have I:=Ae.lt h;have R:w.heap.size+1<=(w.alloc (.cells #[.pointer (some ⟨g,0,none⟩)] 151)).drew.heap.size:=Bq;have Y:=zz O;have J:=zz N;have M:=zz hb;clear h N hb O
 go_in
 go_wp2_with fail
 go_region_held3 (fun w'=> w'.cell? ⟨w.heap.size,0,none⟩=some (.pointer (some ⟨g,0,none⟩))) (go_keep) (first
  |(go_at_call 128;refine(XP a b _ J.o M.o).mono ?_;rintro e H ⟨rfl,Z⟩;have W:=BF Z w.heap.size 0 Bq;have R:=Nat.le_trans R Z.size;have T:=zz (T.o.below Z);have Y:=CU Y Z)
  |(go_at_call 125;refine(NP g s (Io a b).1 (Io a b).2 _ T.o).mono ?_;rintro e G ⟨rfl,X,U⟩;have W:=Ll U (g:=w.heap.size) Aa Aa 0))
 have V:=zz X;have L:=zz ((CJ Y.o).trans U);clear X U R W;go_wp2_with fail
 go_ret
 exact⟨rfl,V.o,L.o⟩
def Vq(g:Nat)(s:St)(a b:Int)(w:World)(h:ED w g s)(N:In64 a)(hb:In64 b):
  Calls prog 106 #[.agg #[.pointer (some ⟨g,0,none⟩)],.int .i64 a,.int .i64 b] w fun e w'=>Vg w w' g s (fdiv a b) e:=by
 have O:Below w.heap.size w (w.alloc (.cells #[.pointer (some ⟨g,0,none⟩)] 151)).drew:=(DC).drew;have T:=zz (h.below O);have I:=Ae.lt h;have R:w.heap.size+1<=(w.alloc (.cells #[.pointer (some ⟨g,0,none⟩)] 151)).drew.heap.size:=Bq;have Y:=zz O;have J:=zz N;have M:=zz hb;clear h N hb O
 go_in
 go_wp2_with fail
 go_region_held3 (fun w'=> w'.cell? ⟨w.heap.size,0,none⟩=some (.pointer (some ⟨g,0,none⟩))) (go_keep) (first
  |(go_at_call 129;refine(Yl a b _ J.o M.o).mono ?_;rintro e H ⟨rfl,Z⟩;have W:=BF Z w.heap.size 0 Bq;have R:=Nat.le_trans R Z.size;have T:=zz (T.o.below Z);have Y:=CU Y Z)
  |(go_at_call 125;refine(NP g s (fdiv a b).1 (fdiv a b).2 _ T.o).mono ?_;rintro e G ⟨rfl,X,U⟩;have W:=Ll U (g:=w.heap.size) Aa Aa 0))
 have V:=zz X;have L:=zz ((CJ Y.o).trans U);clear X U R W;go_wp2_with fail
 go_ret
 exact⟨rfl,V.o,L.o⟩
end BigW
namespace BigW
open Go.RowKit Mem
def oW{r g:Nat}(h:r≠g):some r≠some g:=fun e=>h (by injection e)
def Ni{P:Program}{Z:Oper}{a:Act}{w:World}(ty:TypeId)(x:Operand)(X:Z.op=.load ty x)(b:Nat)(Y:a.eval x=.pointer (some ⟨b,0,none⟩)){t:TypeId}{cs:Array Value}(h:Ae w b t cs){d:TypeDesc}(hu:P.underlying ty=some d)(hd:(match d with| .struct _| .array _ _=>true|_=>false)=true)(hi:(P.info? ty).map (·.size)=some cs.size):(execOp a.eval Z).run P w=.ok (.value (.agg cs)) w:=by
 unfold execOp
 simp only[X,Y,Instr.loadAt,Instr.sureAddr,Sem.run_bind,Sem.run_pure,Result.andThen_ok,run_loadVar_row w b t ty cs _ d h hu hd hi]
end BigW
end Go.Proofs.YtjobajeggllmiaaGreat
